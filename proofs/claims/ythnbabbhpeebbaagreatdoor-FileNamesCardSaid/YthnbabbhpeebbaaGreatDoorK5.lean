/- Contracts and plain facts that the closing text leans on (part 5). No condition of their own beyond those that each states. -/
import Derived.Test.YthnbabbhpeebbaaGreatDoorK4
import Derived.MapKept
set_option maxRecDepth 100000
set_option linter.unusedVariables false
set_option linter.unusedSimpArgs false
open And renaming intro→Zf
open Array renaming toList_inj→Zh
open Bool renaming and_eq_true→Qb,or_eq_true→Zc,false_or→Xj,or_false→Xl,or_true→Xm,true_or→Xo
open Exists renaming intro→Zl
open List renaming all_eq_true→Qc,getElem?_map→Qg,getElem?_eq_getElem→Qk,mem_singleton→Qm,getElem?_set_ne→Qn,length_append→Qo,getElem?_cons_zero→Qp,length_set→Qq,getElem?_append_left→Qs,getElem?_eq_some_iff→Qt,any_eq_true→Qu,set_eq_of_length_le→Qv,getD→Qx,mem_of_getElem?→Qz,map_cons→Za,append_nil→Zb,nodup_nil→Zg,take_succ_eq_append_getElem→Zi,take_append_of_le_length→Zm,ext_getElem?→Zn,length_cons→Zo,mem_map→Zp,take_append_getElem→Zq,take_append_drop→Zs,mem_cons_of_mem→Zt,getElem?_modify→Zu,any_cons→Zv,getElem?_drop→Zw,append_assoc→Zy,pairwise_map→Zz,take_length→Xb,length_take→Xc,nodup_cons→Xd,length_nil→Xe,length_map→Xf,take_left→Xi,mem_cons→Xk,any_nil→Xp
open List.cons renaming injEq→Xg
open Nat renaming eq_of_beq_eq_true→Qd,blt→Qe,le_of_ble_eq_true→Qf,zero_add→Qh,ble→Qi,le_refl→Qj,beq→Ql,ble_eq_true_of_le→Qw,add_zero→Zd,le_trans→Zj,mul_le_mul_right→Zk,lt_trichotomy→Zx,zero_le→Xa,testBit_or→Xh,sub_zero→Xq
open Option renaming getD_some→Qy,map_eq_some_iff→Zr
open Option.some renaming injEq→Qa,inj→Xs
open Prod renaming snd→Ze,fst→Xr
open Prod.mk renaming injEq→Qr
namespace Go.Av
open Go Go.RowKit
def isGd(i:Nat)(l:List Oper):Bool:=l.any λo=>match o.guard with
 |some (j,_)=>Ql j i
 |none=>false
def Ef.as(e:Ef)(v:SV):Ef:=⟨v,e.ks,e.ch,e.nx⟩
def gdW(g:Bool)(k:Ef->Prop)(e:Ef):Prop:=
 match g with
 |false=>k e
 |true=>match e.val with
  |.p q _=>(q->k (e.as .tt))∧(¬q->k (e.as .ff))
  |.b c=>(c=true->k (e.as .tt))∧(c=false->k (e.as .ff))
  |_=>k e
section
variable {E : Env} {N : Nat} {ops : Array Oper} {nx : Nat} {sl : List (Nat × SV)} {H : Nat → Option SR} {k : Ef → Prop} {o : Oper}
theorem qpm{e:Ef}{v:SV}(h:Loc E N ops o nx sl H e)(hv:∀ρ,e.val.ev ρ=v.ev ρ):Loc E N ops o nx sl H (e.as v):=λdf rd K rest ρ t S hs hS hk=>
 h df rd K rest ρ t S hs hS λρ' S' hp=>by rw[hv ρ'];exact hk ρ' S' ⟨hp.old,hp.sat,hp.len,hp.fr,hp.loc⟩
theorem qtf{g:Bool}{e:Ef}(hL:Loc E N ops o nx sl H e)(h:gdW g k e):∃e,Loc E N ops o nx sl H e∧k e:=by
 unfold gdW at h;split at h
 .exact⟨e,hL,h⟩
 .split at h
  .rename_i q i hv
   by_cases hq:q
   .exact⟨_,qpm hL (λρ=>by rw[hv];simp[SV.ev,hq]),h.1 hq⟩
   .exact⟨_,qpm hL (λρ=>by rw[hv];simp[SV.ev,hq]),h.2 hq⟩
  .rename_i c hv
   cases c with
   |true=>exact⟨_,qpm hL (λρ=>by rw[hv];rfl),h.1 rfl⟩
   |false=>exact⟨_,qpm hL (λρ=>by rw[hv];rfl),h.2 rfl⟩
  .exact⟨e,hL,h⟩
def Oper.bare(o:Oper):Oper:=⟨o.dst,o.op,o.type,o.pos,o.after,none⟩
def qxz(l:List Oper)(j:Nat):Option Nat:=match l[j]?with
 |some o=>o.dst
 |none=>none
def opG(E:Env)(N:Nat)(l:List Oper)(bxs:List Nat)(nx:Nat)(sl:List (Nat×SV))(H:Nat->Option SR)(k:Ef->Prop)(o:Oper):Prop:=
 match o.guard with
 |none=>opW E N l.toArray bxs nx sl H k o
 |some (j,want)=>(match qxz l j with
  |some e=>(match bif Qe e N then lkS sl e else none with
   |some .tt=>bif want then opW E N l.toArray bxs nx sl H k (Oper.bare o)else k (wj nx (.a (.v undef)))
   |some .ff=>bif want then k (wj nx (.a (.v undef)))else opW E N l.toArray bxs nx sl H k (Oper.bare o)
   |some (.a (.v (.tuple ⟨[]⟩)))=>k (wj nx (.a (.v undef)))
   |_=>False)
  |none=>False)
theorem zbo{l:List Oper}{j e:Nat}(h:qxz l j=some e):∃oj,l.toArray[j]?=some oj∧oj.dst=some e:=by
 unfold qxz at h;split at h
 .rename_i o ho;exact⟨o,by simpa using ho,h⟩
 .simp at h
theorem q0l{l:List Oper}{bxs:List Nat}(h:opG E N l bxs nx sl H k o):∃e,Loc E N l.toArray o nx sl H e∧k e:=by
 obtain⟨d,op,T,p,af,g⟩:=o;unfold opG at h;simp only at h;split at h
 .exact q9f rfl h
 .rename_i j want
  split at h
  .rename_i e he
   obtain⟨oj,hj,hd⟩:=zbo he
   cases hN:Qe e N with
   |false=>rw[hN]at h;exact h.elim
   |true=>
    rw[hN]at h;simp only[cond_true]at h
    have run:∀b:Bool,lkS sl e=some (bif b then .tt else .ff)->b=want->opW E N l.toArray bxs nx sl H k ⟨d,op,T,p,af,none⟩->∃e,Loc E N l.toArray ⟨d,op,T,p,af,some (j,want)⟩ nx sl H e∧k e:=λb hl hb h=>by
     obtain⟨e1,hL,hk⟩:=q9f rfl h;refine⟨e1,λdf rd K rest ρ t S hs hS hk=>qk7 hj hd hN (b:=b) ?_ hb (hL df rd K rest ρ t S hs hS hk),hk⟩;refine(hs e _ hl).trans ?_
     cases b<;>rfl
    have skp:∀b:Bool,lkS sl e=some (bif b then .tt else .ff)->(b==want)=false->k (wj nx (.a (.v undef)))->∃e,Loc E N l.toArray ⟨d,op,T,p,af,some (j,want)⟩ nx sl H e∧k e:=λb hl hb h=>by
     refine⟨_,jd (v:=.a (.v undef)) λdf rd K rest ρ t S hs hk=>qj4 hj hd hN (b:=b) ?_ hb hk,h⟩;refine(hs e _ hl).trans ?_
     cases b<;>rfl
    split at h
    .rename_i hl
     cases want with
     |true=>exact run true hl rfl h
     |false=>exact skp true hl rfl h
    .rename_i hl
     cases want with
     |true=>exact skp false hl rfl h
     |false=>exact run false hl rfl h
    .rename_i hl
     exact⟨_,jd (v:=.a (.v undef)) λdf rd K rest ρ t S hs hk=>qci hj hd hN (hs e _ hl) hk,h⟩
    .exact h.elim
  .exact h.elim
end
mutual
def fcV:SV->(SV->Prop)->Prop
 |.a x,k=>k (.a x)
 |.i n,k=>k (.i n)
 |.s l,k=>k (.s l)
 |.tt,k=>k .tt
 |.ff,k=>k .ff
 |.b c,k=>k (.b c)
 |.p q h,k=>k (.p q h)
 |.bx a b,k=>k (.bx a b)
 |.tp a,k=>k (.tp a)
 |.ag cs,k=>fcL cs λcs=>k (.ag cs)
 |.tu cs,k=>fcL cs λcs=>k (.tu cs)
 |.fn f xs ys,k=>fcL xs λxs=>fcL ys λys=>k (.fn f xs ys)
 |.ifc t x,k=>fcV x λx=>k (.ifc t x)
def fcL:List SV->(List SV->Prop)->Prop
 | [],k=>k []
 |x::r,k=>fcV x λx=>fcL r λr=>k (x::r)
end
mutual
theorem qzg:∀(v:SV)(k:SV->Prop),fcV v k=k v
 |.a _,_=>rfl
 |.i _,_=>rfl
 |.s _,_=>rfl
 |.tt,_=>rfl
 |.ff,_=>rfl
 |.b _,_=>rfl
 |.p _ _,_=>rfl
 |.bx _ _,_=>rfl
 |.tp _,_=>rfl
 |.ag cs,k=>by simp only[fcV,qhk cs]
 |.tu cs,k=>by simp only[fcV,qhk cs]
 |.fn f xs ys,k=>by simp only[fcV,qhk xs,qhk ys]
 |.ifc t x,k=>by simp only[fcV,qzg x]
theorem qhk:∀(l:List SV)(k:List SV->Prop),fcL l k=k l
 | [],_=>rfl
 |x::r,k=>by simp only[fcL,qzg x,qhk r]
end
def fcR:SR->(SR->Prop)->Prop
 |.cells T cs,k=>fcL cs λcs=>k (.cells T cs)
 |.tip sz T xs,k=>fcN sz λsz=>k (.tip sz T xs)
 |.own sz T xs,k=>fcN sz λsz=>k (.own sz T xs)
 |.obj P,k=>k (.obj P)
 |.clu P vs,k=>fcL vs λvs=>k (.clu P vs)
 |.rows T ys cs,k=>fcL cs λcs=>k (.rows T ys cs)
theorem zhm:∀(r:SR)(k:SR->Prop),fcR r k=k r
 |.cells _ cs,k=>by simp only[fcR,qhk]
 |.tip sz _ _,k=>by simp only[fcR,qn9]
 |.own sz _ _,k=>by simp only[fcR,qn9]
 |.obj _,k=>rfl
 |.clu _ _,k=>by simp only[fcR,qhk]
 |.rows _ _ cs,k=>by simp only[fcR,qhk]
def fcH:List (Nat×Option SR)->(List (Nat×Option SR)->Prop)->Prop
 | [],k=>k []
 |(a,none)::l,k=>fcH l λl=>k ((a,none)::l)
 |(a,some r)::l,k=>fcR r λr=>fcH l λl=>k ((a,some r)::l)
theorem qzf:∀(l:List (Nat×Option SR))(k:List (Nat×Option SR)->Prop),fcH l k=k l
 | [],_=>rfl
 |(a,none)::l,k=>by simp only[fcH,qzf l]
 |(a,some r)::l,k=>by simp only[fcH,zhm,qzf l]
def fcE(k:Ef->Prop):Ef->Prop
 |⟨v,ks,ch,nx⟩=>fcV v λv=>fcH ch λch=>k ⟨v,ks,ch,nx⟩
theorem qs9(k:Ef->Prop)(e:Ef):fcE k e=k e:=by
 obtain⟨v,ks,ch,nx⟩:=e;simp only[fcE,qzg,qzf]
def qty(hp:List (Nat×Option SR))(k:List (Nat×Option SR)->Prop):List (Nat×Option SR)->Prop
 | []=>k hp
 |c::r=>qty hp (λl=>k (c::l)) r
theorem qro(hp:List (Nat×Option SR)):∀(ch:List (Nat×Option SR))(k:List (Nat×Option SR)->Prop),qty hp k ch=k (ch++hp)
 | [],_=>rfl
 |c::r,k=>by rw[qty,qro hp r];rfl
def qis(sl:List (Nat×SV))(hp:List (Nat×Option SR))(nx:Nat)(d:Option Tmp)(k:Conf->Prop):Ef->Prop
 |⟨v,ks,ch,nx'⟩=>bif Ef.wf ⟨v,ks,ch,nx'⟩ nx then(match d with
  |some d=>qty hp (λhp=>k ⟨(d,v)::sl,hp,nx'⟩) ch
  |none=>qty hp (λhp=>k ⟨sl,hp,nx'⟩) ch)else False
theorem qjo{sl:List (Nat×SV)}{hp:List (Nat×Option SR)}{nx:Nat}{d:Option Tmp}{k:Conf->Prop}{e:Ef}(h:qis sl hp nx d k e):e.wf nx=true∧k ((Conf.mk sl hp nx).app d e):=by
 obtain⟨v,ks,ch,nx'⟩:=e;simp only[qis]at h
 cases hw:Ef.wf ⟨v,ks,ch,nx'⟩ nx with
 |false=>rw[hw]at h;exact h.elim
 |true=>
  rw[hw]at h;refine⟨rfl,?_⟩
  cases d with
  |none=>simp only[cond_true]at h;rw[qro]at h;exact h
  |some d=>simp only[cond_true]at h;rw[qro]at h;exact h
def quk(E:Env)(N:Nat)(l:List Oper)(bxs:List Nat):Nat->List Oper->(Conf->Prop)->Conf->Prop
 |_,[],K,C=>K C
 |i,o::r,K,⟨sl,hp,nx⟩=>opG E N l bxs nx sl (hpF hp) (gdW (isGd i l) (fcE (qis sl hp nx o.dst (quk E N l bxs (i+1) r K)))) o
theorem qr3{E:Env}{rd:Option Nat}{N:Nat}{l:List Oper}{bxs:List Nat}{B:Bs}{K:Conf->Prop}:∀{r:List Oper}{i:Nat}{C:Conf}{s:AS},quk E N l bxs i r K C->SatC B C s->AOps E rd N l.toArray r (λs'=>∃C',K C'∧SatC B C' s') s
 | [],_,C,s,h,hs=>qh ⟨C,h,hs⟩
 |o::r,i,⟨sl,hp,nx⟩,s,h,hs=>by
  obtain⟨e,hL,h⟩:=q0l h;obtain⟨e,hL,h⟩:=qtf hL h;rw[qs9]at h;obtain⟨hw,h⟩:=qjo h;obtain⟨t,S,df⟩:=s;obtain⟨ρ,i5,hR⟩:=hs;simp only at i5 hR;refine hL _ rd _ r ρ t S hR.sl (hR.hp.res _) λρ' S' hp=>qr3 h ⟨ρ',?_,?_⟩
  .have:=i5.step (d:=o.dst) hR.hp hw hp
   cases hd:o.dst with
   |none=>rw[hd]at this;exact this
   |some d=>rw[hd]at this;exact this
  .have:=hR.step (d:=o.dst) hw hp
   cases hd:o.dst with
   |none=>rw[hd]at this;exact this
   |some d=>rw[hd]at this;exact this
structure Sm (E:Env) (rd:Option Nat) (N:Nat) (B:Bs) (c:Code) (Q:Exit->Conf->Prop) (C:Conf):Prop where
 run:∀s,SatC B C s->AWp E rd N c (λe s'=>∃C',Q e C'∧SatC B C' s') s
@[reducible] def qx2 (K : Conf → Prop) (Q : Exit → Conf → Prop) : Exit → Conf → Prop
 |.normal,C=>K C
 |e,C=>Q e C
@[reducible] def qmj (id : Nat) (Q : Exit → Conf → Prop) : Exit → Conf → Prop
 |.exit id',C=>bif Ql id' id then Q .normal C else Q (.exit id') C
 |e,C=>Q e C
section
variable {E : Env} {rd : Option Nat} {N : Nat} {B : Bs} {C : Conf} {Q : Exit → Conf → Prop}
theorem q35{x y:Code}(h:Sm E rd N B x (qx2 (Sm E rd N B y Q) Q) C):Sm E rd N B (.seq x y) Q C:=⟨λs hs=>
 qp ((h.run s hs).mono λe s' ⟨C',hq,bz⟩=>by
  cases e with
  |normal=>exact hq.run s' bz
  |_=>exact⟨C',hq,bz⟩)⟩
theorem qw3{id:Nat}{c:Code}(h:Sm E rd N B c (qmj id Q) C):Sm E rd N B (.block id c) Q C:=⟨λs hs=>
 zm ((h.run s hs).mono λe s' ⟨C',hq,bz⟩=>by
  cases e with
  |exit id'=>
   simp only[qmj]at hq;simp only[qra]
   cases hb:Ql id' id with
   |true=>rw[hb]at hq;exact⟨C',hq,bz⟩
   |false=>rw[hb]at hq;exact⟨C',hq,bz⟩
  |_=>exact⟨C',hq,bz⟩)⟩
theorem q03{c:Operand}{x y:Code}{v:SV}(hv:sval N C.sl c=some v)(h:wayW (Sm E rd N B x Q C) (Sm E rd N B y Q C) v):Sm E rd N B (.cond c x y) Q C:=⟨λs hs=>by
 obtain⟨b,hb,h⟩:=zap h;obtain⟨t,S,df⟩:=s;have ⟨ρ,i5,hR⟩:=hs;have he:=(qs (S:=S) (df:=df) hR.sl hv).trans (hb ρ);rcases h with⟨hc,h⟩|⟨hc,h⟩
 .exact q4w he hc (h.run _ hs)
 .exact q4v he hc (h.run _ hs)⟩
theorem qru{c:Code}{Q':Exit->Conf->Prop}(h:Sm E rd N B c Q' C)(hq:∀e C',Q' e C'->Q e C'):Sm E rd N B c Q C:=⟨λs hs=>
 (h.run s hs).mono λe s' ⟨C',hq',bz⟩=>⟨C',hq e C' hq',bz⟩⟩
end
def wpC(E:Env)(rd:Option Nat)(N:Nat)(B:Bs)(bxs:List Nat):Code->(Exit->Conf->Prop)->Conf->Prop
 |.skip,Q,C=>Q .normal C
 |.region id ops false,Q,C=>quk E N ops.toList bxs 0 ops.toList (Q .normal) C
 |.seq x y,Q,C=>wpC E rd N B bxs x (qx2 (wpC E rd N B bxs y Q) Q) C
 |.cond c x y,Q,C=>(match sval N C.sl c with
  |some v=>wayW (wpC E rd N B bxs x Q C) (wpC E rd N B bxs y Q C) v
  |none=>False)
 |.block id c,Q,C=>wpC E rd N B bxs c (qmj id Q) C
 |.exit id,Q,C=>Q (.exit id) C
 |.ret,Q,C=>Q .ret C
 |c,Q,C=>Sm E rd N B c Q C
theorem qxc{x y x' y':Prop}{v:SV}(hx:x->x')(hy:y->y')(h:wayW x y v):wayW x' y' v:=by
 cases v with
 |tt=>exact hx h
 |ff=>exact hy h
 |p q i=>exact⟨λhq=>hx (h.1 hq),λhq=>hy (h.2 hq)⟩
 |b c=>exact⟨λhq=>hx (h.1 hq),λhq=>hy (h.2 hq)⟩
 |_=>exact h.elim
theorem qd{E:Env}{rd:Option Nat}{N:Nat}{B:Bs}(bxs:List Nat):∀{c:Code}{Q:Exit->Conf->Prop}{C:Conf},wpC E rd N B bxs c Q C->Sm E rd N B c Q C
 |.skip,Q,C,h=>⟨λs hs=>za ⟨C,h,hs⟩⟩
 |.exit id,Q,C,h=>⟨λs hs=>wd ⟨C,h,hs⟩⟩
 |.ret,Q,C,h=>⟨λs hs=>q7 ⟨C,h,hs⟩⟩
 |.seq x y,Q,C,h=>q35 (qru (qd bxs (c:=x) h) λe C' hq=>by
   cases e with
   |normal=>exact qd bxs (c:=y) hq
   |_=>exact hq)
 |.block id c,Q,C,h=>qw3 (qd bxs (c:=c) h)
 |.cond c x y,Q,C,h=>by
  simp only[wpC]at h;split at h
  .rename_i v hv
   exact q03 hv (qxc (λh=>qd bxs (c:=x) h) (λh=>qd bxs (c:=y) h) h)
  .exact h.elim
 |.region id ops false,Q,C,h=>⟨λs hs=>by
  have e:ops=ops.toList.toArray:=Sx
  rw[e]
  exact qi (qr3 h hs)⟩
 |.region id ops true,Q,C,h=>h
 |.loop c,Q,C,h=>h
 |.rangeFunc _ _ _ _,Q,C,h=>h
 |.scope _,Q,C,h=>h
 |.label _,Q,C,h=>h
 |.goto _,Q,C,h=>h
 |.refuse _,Q,C,h=>h
mutual
def SV.ren(σ:List (Nat×Nat)):SV->SV
 |.bx k off=>match lkS σ k with
  |some j=>.bx j off
  |none=>.a (.bx 0 0 off)
 |.tp k=>match lkS σ k with
  |some j=>.tp j
  |none=>.a zf
 |.ag cs=>.ag (SV.rens σ cs)
 |.tu cs=>.tu (SV.rens σ cs)
 |.fn f xs ys=>.fn f (SV.rens σ xs) (SV.rens σ ys)
 |.ifc t x=>.ifc t (SV.ren σ x)
 |v=>v
def SV.rens(σ:List (Nat×Nat)):List SV->List SV
 | []=>[]
 |x::r=>SV.ren σ x::SV.rens σ r
end
def renR(σ:List (Nat×Nat))(ρ:Nat->AV):Nat->AV:=λk=>match lkS σ k with
 |some j=>ρ j
 |none=>zf
mutual
theorem qt5(σ:List (Nat×Nat))(ρ:Nat->AV):∀v:SV,(v.ren σ).ev ρ=v.ev (renR σ ρ)
 |.a _=>rfl
 |.i _=>rfl
 |.s _=>rfl
 |.tt=>rfl
 |.ff=>rfl
 |.b _=>rfl
 |.p _ _=>rfl
 |.bx k off=>by
  simp only[SV.ren,SV.ev,renR]
  cases lkS σ k<;>rfl
 |.tp k=>by
  simp only[SV.ren,SV.ev,renR]
  cases lkS σ k<;>rfl
 |.ag cs=>by simp only[SV.ren,SV.ev,qb9 σ ρ cs]
 |.tu cs=>by simp only[SV.ren,SV.ev,qb9 σ ρ cs]
 |.fn f xs ys=>by simp only[SV.ren,SV.ev,qb9 σ ρ xs,qb9 σ ρ ys]
 |.ifc t x=>by simp only[SV.ren,SV.ev,qt5 σ ρ x]
theorem qb9(σ:List (Nat×Nat))(ρ:Nat->AV):∀l:List SV,SV.evs ρ (SV.rens σ l)=SV.evs (renR σ ρ) l
 | []=>rfl
 |x::r=>by simp only[SV.rens,SV.evs,qt5 σ ρ x,qb9 σ ρ r]
end
structure Tl (x r:AV):Prop where
 ok:Wk x r
theorem zgu(x:AV):Tl x x:=⟨wx x⟩
theorem qf{x y:AV}(h:x=y):Tl x y:=⟨zjc h⟩
theorem zio{sz:Nat}:Tl zf (.sl sz [] none):=⟨λ_ _ h=>qbo h⟩
def evK(v:SV)(k:AV->Prop):Prop:=
 match v with
 |.a x=>k x
 |.i n=>k (Iv n)
 |.s l=>k (Sv l)
 |.b c=>k (Bv c)
 |.p q h=>k (Bv (@decide q h))
 |v=>k (v.ev λ_=>zf)
theorem zhl(v:SV)(k:AV->Prop):evK v k=k (v.ev λ_=>zf):=by
 cases v<;>rfl
def covW(H:Nat->Option SR)(v:Option SV)(σ:List (Nat×Nat))(u:SV):Prop:=
 match v with
 |none=>False
 |some v=>match u.all (λ_=>false)with
  |true=>(match frz H v with
   |some x=>evK u λy=>Tl x y
   |none=>False)
  |false=>∀ρ,v.ev ρ=(u.ren σ).ev ρ
def entS(H:Nat->Option SR)(sl:List (Nat×SV))(σ:List (Nat×Nat)):List (Nat×SV)->Prop
 | []=>True
 |(d,v)::r=>covW H (lkS sl d) σ v∧entS H sl σ r
def entR(H:Nat->Option SR)(σ:List (Nat×Nat))(k:Nat)(r:SR):Prop:=
 match lkS σ k,r with
 |some j,.cells T cs=>(match H j with
  |some (.cells T' cs')=>T'=T∧∀ρ,SV.evs ρ cs'=SV.evs ρ (SV.rens σ cs)
  |_=>False)
 |some j,.tip sz T xs=>(match H j with
  |some (.tip sz' T' xs')=>(sz'=sz∧T'=T)∧xs'=xs
  |_=>False)
 |none,.tip _ _ xs=>xs=[]
 |some j,.own sz T xs=>(match H j with
  |some (.own sz' T' xs')=>(sz'=sz∧T'=T)∧xs'=xs
  |_=>False)
 |none,.own _ _ xs=>xs=[]
 |none,.cells _ _=>False
 |some j,.obj P=>(match H j with
  |some (.obj P')=>∀x c,P' x c->P x c
  |_=>False)
 |none,.obj _=>False
 |some j,.clu P vs=>(match H j with
  |some (.clu P' vs')=>(∀S c l,P'.ok S c l->P.ok S c l)∧∀ρ,SV.evs ρ vs'=SV.evs ρ (SV.rens σ vs)
  |_=>False)
 |none,.clu _ _=>False
 |some j,.rows T ys cs=>(match H j with
  |some (.rows T' ys' cs')=>(T'=T∧ys'=ys)∧∀ρ,SV.evs ρ cs'=SV.evs ρ (SV.rens σ cs)
  |_=>False)
 |none,.rows _ ys cs=>ys=[]∧cs=[]
def entH(H:Nat->Option SR)(σ:List (Nat×Nat)):List (Nat×Option SR)->Prop
 | []=>True
 |(k,some r)::l=>entR H σ k r∧entH H σ l
 |(_,none)::l=>entH H σ l
def injN:List (Nat×Nat)->Bool
 | []=>true
 |(_,j)::r=>r.all (λq=> !Nat.beq q.2 j)&&injN r
def fltN(hp:List (Nat×Option SR)):List (Nat×Nat)->List (Nat×Nat)
 | []=>[]
 |(k,j)::r=>match lkS hp k with
  |some _=>(k,j)::fltN hp r
  |none=>fltN hp r
theorem qq7{hp:List (Nat×Option SR)}{k:Nat}{x:Option SR}(hk:lkS hp k=some x):∀σ:List (Nat×Nat),lkS (fltN hp σ) k=lkS σ k
 | []=>rfl
 |(i,j)::r=>by
  have ih:=qq7 hk r;simp only[fltN];by_cases e:i=k
  .subst e
   rw[hk];simp[lkS]
  .cases h:lkS hp i with
   |none=>simp only[lkS,zq e,cond_false];exact ih
   |some y=>simp only[lkS,zq e,cond_false];exact ih
def okC(C:Conf):Bool:=C.sl.all (λq=>q.2.all λk=>Qe k C.nx)&&C.hp.all (λq=>Qe q.1 C.nx&&match q.2 with
 |some r=>r.all λk=>Qe k C.nx
 |none=>true)
def rigN(σ:List (Nat×Nat)):Nat->Bool
 |0=>true
 |n+1=>(match lkS σ n with
  |some j=>Ql j n
  |none=>false)&&rigN σ n
def idN:Nat->List (Nat×Nat)
 |0=>[]
 |n+1=>(n,n)::idN n
theorem qgs{σ:List (Nat×Nat)}:∀{n:Nat},rigN σ n=true->∀k,k<n->lkS σ k=some k
 |0,_,k,hk=>by omega
 |n+1,h,k,hk=>by
  simp only[rigN,Qb]at h;by_cases e:k=n
  .subst e
   have h1:=h.1;split at h1
   .rename_i j hj
    rw[hj,Qd h1]
   .simp at h1
  .exact qgs h.2 k Om
def EntC(σ:List (Nat×Nat))(C C':Conf):Prop:=entS (hpF C.hp) C.sl σ C'.sl∧entH (hpF C.hp) σ C'.hp∧(injN (fltN C'.hp σ)&&okC C')=true
mutual
def prs:SV->SV->List (Nat×Nat)
 |.tp k,.tp j=>[(k,j)]
 |.bx k _,.bx j _=>[(k,j)]
 |.ag a,.ag b=>prsL a b
 |.tu a,.tu b=>prsL a b
 |.fn _ a b,.fn _ c d=>prsL a c++prsL b d
 |.ifc _ x,.ifc _ y=>prs x y
 |_,_=>[]
def prsL:List SV->List SV->List (Nat×Nat)
 |x::r,y::s=>prs x y++prsL r s
 |_,_=>[]
end
def addS:List (Nat×Nat)->List (Nat×Nat)->List (Nat×Nat)
 |acc,[]=>acc
 |acc,(k,j)::r=>match lkS acc k with
  |some _=>addS acc r
  |none=>addS ((k,j)::acc) r
def sigS(sl:List (Nat×SV)):List (Nat×SV)->List (Nat×Nat)
 | []=>[]
 |(d,v)::r=>(match lkS sl d with
  |some u=>prs v u
  |none=>[])++sigS sl r
def sigH(H:Nat->Option SR)(σ:List (Nat×Nat)):List (Nat×Option SR)->List (Nat×Nat)
 | []=>[]
 |(k,some (.cells _ cs))::r=>(match lkS σ k with
  |some j=>(match H j with
   |some (.cells _ ds)=>prsL cs ds
   |_=>[])
  |none=>[])++sigH H σ r
 |_::r=>sigH H σ r
def fcP:List (Nat×Nat)->(List (Nat×Nat)->Prop)->Prop
 | [],k=>k []
 |(a,b)::r,k=>fcP r λr=>k ((a,b)::r)
theorem qta:∀(l:List (Nat×Nat))(k:List (Nat×Nat)->Prop),fcP l k=k l
 | [],_=>rfl
 |(a,b)::r,k=>by simp only[fcP,qta r]
def EntA(n0:Nat)(C C':Conf):Prop:=
 fcP (addS (idN n0) (sigS C.sl C'.sl)) λa=>fcP (addS a (sigH (hpF C.hp) a C'.hp)) λb=>fcP (addS b (sigH (hpF C.hp) b C'.hp)) λσ=>(rigN σ n0&&Qi n0 C'.nx)=true∧EntC σ C C'
theorem EntA.ent{n0:Nat}{C C':Conf}(h:EntA n0 C C'):∃σ,(rigN σ n0&&Qi n0 C'.nx)=true∧EntC σ C C':=by
 unfold EntA at h;simp only[qta]at h;exact⟨_,h⟩
theorem qze{H:Nat->Option SR}{sl:List (Nat×SV)}{σ:List (Nat×Nat)}:∀{l:List (Nat×SV)}{d:Nat}{v:SV},entS H sl σ l->lkS l d=some v->covW H (lkS sl d) σ v
 | [],_,_,_,h=>by simp[lkS]at h
 |(i,x)::r,d,v,h,hl=>by
  unfold lkS at hl
  cases hb:Ql i d with
  |true=>
   rw[hb]at hl;simp only[cond_true,Qa]at hl;subst hl;rw[<-Qd hb]
   exact h.1
  |false=>rw[hb]at hl;exact qze h.2 hl
theorem qgi{H:Nat->Option SR}{σ:List (Nat×Nat)}:∀{l:List (Nat×Option SR)}{k:Nat}{r:SR},entH H σ l->lkS l k=some (some r)->entR H σ k r
 | [],_,_,_,h=>by simp[lkS]at h
 |(i,none)::l,k,r,h,hl=>by
  unfold lkS at hl
  cases hb:Ql i k with
  |true=>rw[hb]at hl;simp at hl
  |false=>rw[hb]at hl;exact qgi (l:=l) h hl
 |(i,some x)::l,k,r,h,hl=>by
  unfold lkS at hl
  cases hb:Ql i k with
  |true=>
   rw[hb]at hl;simp only[cond_true,Qa]at hl;subst hl;rw[<-Qd hb]
   exact h.1
  |false=>rw[hb]at hl;exact qgi (l:=l) h.2 hl
theorem qzy:∀{σ:List (Nat×Nat)}{k k' j:Nat},injN σ=true->lkS σ k=some j->lkS σ k'=some j->k=k'
 | [],_,_,_,_,h,_=>by simp[lkS]at h
 |(i,x)::r,k,k',j,h,h1,h2=>by
  simp only[injN,Qb]at h
  have no:∀q,lkS r q=some x->False:=λq hq=>by
   have:=Qc.1 h.1 _ (ji hq);simp at this
  unfold lkS at h1 h2
  cases hb:Ql i k with
  |true=>
   rw[hb]at h1;simp only[cond_true,Qa]at h1;subst h1
   cases lx:Ql i k' with
   |true=>rw[<-Qd hb,<-Qd lx]
   |false=>rw[lx]at h2;exact(no _ h2).elim
  |false=>
   rw[hb]at h1
   cases lx:Ql i k' with
   |true=>
    rw[lx]at h2;simp only[cond_true,Qa]at h2;subst h2
    exact(no _ h1).elim
   |false=>rw[lx]at h2;exact qzy h.2 h1 h2
theorem vo{hp:List (Nat×Option SR)}{k:Nat}{r:SR}(h:hpF hp k=some r):lkS hp k=some (some r):=by
 unfold hpF at h
 cases hl:lkS hp k with
 |none=>rw[hl]at h;simp at h
 |some x=>rw[hl]at h;simp only at h;rw[h]
theorem EntC.sat{σ:List (Nat×Nat)}{C C':Conf}{S0:List AObj}{F:Nat->Prop}{ρ t:Nat->AV}{S:List AObj}(h:EntC σ C C')(hR:SatR S0 F C ρ t S):∃t',(∀d,Wk (t d) (t' d))∧SatR S0 F C' (renR σ ρ) t' S:=by
 obtain⟨hs,hh,hb⟩:=h;simp only[Qb,okC]at hb;obtain⟨hi,db,gp⟩:=hb;refine⟨λd=>match lkS C'.sl d with|some v=>v.ev (renR σ ρ)|none=>t d,λd=>?_,⟨λd v hd=>by simp only[hd],⟨λk r hk=>?_,λk k' r r' d7 h1 h2 o ho=>?_⟩,λk r hk o ho=>?_,hR.low,hR.len,λd v hd=>?_,λk r hk=>?_⟩⟩
 .simp only
  cases hd:lkS C'.sl d with
  |none=>exact wx _
  |some v=>
   have hc:=qze hs hd;unfold covW at hc;split at hc
   .exact hc.elim
   .rename_i u hu
    rw[hR.sl d u hu];simp only;split at hc
    .rename_i i6
     split at hc
     .rename_i x hx
      rw[zhl]at hc;have e:v.ev (renR σ ρ)=v.ev λ_=>zf:=xe (f:=λ_=>false) (λk hk=>by simp at hk) _ i6;rw[e];exactλG y hy=>hc.ok G y (qjh hR.hp u x hx G y hy)
     .exact hc.elim
    .rw[hc ρ,qt5]
     exact wx _
 .have hc:=qgi hh (vo hk)
  unfold entR at hc;unfold renR;split at hc
  .rename_i j T cs hj
   rw[hj];split at hc
   .rename_i T' cs' hH
    obtain⟨rfl,hc⟩:=hc;obtain⟨o,v,h1,h2,h0⟩:=hR.hp.ok j _ hH;refine⟨o,v,h1,?_,h0⟩;rw[h2,hc ρ,qb9];rfl
   .exact hc.elim
  .rename_i j sz T xs hj
   rw[hj];split at hc
   .rename_i sz' T' xs' hH
    obtain⟨⟨rfl,rfl⟩,rfl⟩:=hc;exact hR.hp.ok j _ hH
   .exact hc.elim
  .rename_i sz T xs hj
   rw[hj];subst hc;exact .inl (.inl ⟨rfl,rfl⟩)
  .rename_i j sz T xs hj
   rw[hj];split at hc
   .rename_i sz' T' xs' hH
    obtain⟨⟨rfl,rfl⟩,rfl⟩:=hc;exact hR.hp.ok j _ hH
   .exact hc.elim
  .rename_i sz T xs hj
   rw[hj];subst hc;exact .inl ⟨rfl,qrh none⟩
  .exact hc.elim
  .rename_i j P hj
   rw[hj];split at hc
   .rename_i P' hH
    obtain⟨o,x,h1,h2,h3,h4⟩:=hR.hp.ok j _ hH;exact⟨o,x,h1,h2,h3,hc x _ h4⟩
   .exact hc.elim
  .exact hc.elim
  .rename_i j P vs hj
   rw[hj];split at hc
   .rename_i P' vs' hH
    have h1:=hR.hp.ok j _ hH
    show P.ok _ _ (SV.evs (renR σ ρ) vs)
    rw[<-qb9,<-hc.2 ρ];exact hc.1 _ _ _ h1
   .exact hc.elim
  .exact hc.elim
  .rename_i j T ys cs hj
   rw[hj];split at hc
   .rename_i T' ys' cs' hH
    obtain⟨⟨rfl,rfl⟩,hc⟩:=hc;have h1:=hR.hp.ok j _ hH
    show OwnS _ 1 _ (ys'++SV.evs (renR σ ρ) cs) _
    rw[<-qb9,<-hc ρ];exact h1
   .exact hc.elim
  .rename_i T ys cs hj
   rw[hj];obtain⟨rfl,rfl⟩:=hc;exact .inl ⟨rfl,qrh none⟩
 .have key:∀k r,hpF C'.hp k=some r->∀o,o∈qr (renR σ ρ k)->∃j r',lkS σ k=some j∧hpF C.hp j=some r'∧o∈qr (ρ j):=λk r hk o ho=>by
   have hc:=qgi hh (vo hk);unfold renR at ho
   cases hj:lkS σ k with
   |none=>rw[hj]at ho;simp[qr]at ho
   |some j=>
    rw[hj]at ho;unfold entR at hc;rw[hj]at hc
    cases r with
    |cells T cs=>
     simp only at hc;split at hc
     .rename_i hH;exact⟨j,_,rfl,hH,ho⟩
     .exact hc.elim
    |tip sz T xs=>
     simp only at hc;split at hc
     .rename_i hH;exact⟨j,_,rfl,hH,ho⟩
     .exact hc.elim
    |own sz T xs=>
     simp only at hc;split at hc
     .rename_i hH;exact⟨j,_,rfl,hH,ho⟩
     .exact hc.elim
    |obj P=>
     simp only at hc;split at hc
     .rename_i hH;exact⟨j,_,rfl,hH,ho⟩
     .exact hc.elim
    |rows T ys cs=>
     simp only at hc;split at hc
     .rename_i hH;exact⟨j,_,rfl,hH,ho⟩
     .exact hc.elim
    |clu P vs=>
     simp only at hc;split at hc
     .rename_i hH;exact⟨j,_,rfl,hH,ho⟩
     .exact hc.elim
  obtain⟨j,q,g1,g2,g3⟩:=key k r h1 o ho;intro e7;obtain⟨j',q',g4,g5,g6⟩:=key k' r' h2 o e7;exact hR.hp.sep j j' q q' (λe=>d7 (qzy hi ((qq7 (vo h1) σ).trans g1) ((qq7 (vo h2) σ).trans (by rw[e];exact g4)))) g2 g5 o g3 g6
 .have hc:=qgi hh (vo hk)
  unfold renR at ho
  cases hj:lkS σ k with
  |none=>rw[hj]at ho;simp[qr]at ho
  |some j=>
   rw[hj]at ho;unfold entR at hc;rw[hj]at hc
   cases r with
   |cells T cs=>
    simp only at hc;split at hc
    .rename_i hH;exact hR.own j _ hH o ho
    .exact hc.elim
   |tip sz T xs=>
    simp only at hc;split at hc
    .rename_i hH;exact hR.own j _ hH o ho
    .exact hc.elim
   |own sz T xs=>
    simp only at hc;split at hc
    .rename_i hH;exact hR.own j _ hH o ho
    .exact hc.elim
   |obj P=>
    simp only at hc;split at hc
    .rename_i hH;exact hR.own j _ hH o ho
    .exact hc.elim
   |rows T ys cs=>
    simp only at hc;split at hc
    .rename_i hH;exact hR.own j _ hH o ho
    .exact hc.elim
   |clu P vs=>
    simp only at hc;split at hc
    .rename_i hH;exact hR.own j _ hH o ho
    .exact hc.elim
 .exact Qc.1 db _ (ji hd)
 .have:=Qc.1 gp _ (ji (vo hk))
  simp only[Qb]at this;exact⟨jj this.1,this.2⟩
section
variable {E : Env} {rd : Option Nat} {N : Nat} {B : Bs} {C : Conf} {Q : Exit → Conf → Prop}
theorem Frm.ren{B:Bs}{C C':Conf}{ρ:Nat->AV}{df:List Nat}{S:List AObj}{σ:List (Nat×Nat)}(h:Frm B C ρ df S)(hr:(rigN σ B.n0&&Qi B.n0 C'.nx)=true):Frm B C' (renR σ ρ) df S:=by
 simp only[Qb]at hr;refine⟨h.dm,h.nd,λk hk=>?_,Qf hr.2,h.dz⟩;unfold renR;rw[qgs hr.1 k hk];exact h.rig k hk
theorem qyp{c:Code}{Q:Exit->AS->Prop}{t t':Nat->AV}{S:List AObj}{df:List Nat}(hw:∀d,Wk (t d) (t' d))(h:AWp E rd N c Q ⟨t',S,df⟩):AWp E rd N c Q ⟨t,S,df⟩:=
 ⟨λB0 w0 G a w hL hI=>h.run B0 w0 G a w hL ⟨hI.agree,hI.defers,hI.size,λi y hy=>hw i G y (hI.tmps i y hy)⟩⟩
theorem xx{X:Type}{c:Code}(I:X->Conf)(P:X->Prop)(μ:X->Nat)(x0:X)(h0:P x0)(he:EntA B.n0 C (I x0))
  (hr:∀x,P x->Sm E rd N B c (λe C'=>match e with
   |.normal=>∃x',P x'∧μ x'<μ x∧EntA B.n0 C' (I x')
   |e=>Q e C') (I x)):Sm E rd N B (.loop c) Q C:=⟨λs hs=>by
 refine xy (σ:=X) (λx s=>P x∧∃t',(∀d,Wk (s.t d) (t' d))∧SatC B (I x) ⟨t',s.st,s.df⟩) μ x0 ?_ ?_
 .obtain⟨t,S,df⟩:=s
  obtain⟨ρ,i5,hR⟩:=hs;simp only at i5 hR;obtain⟨σ0,hr0,he⟩:=he.ent;obtain⟨t',hw,rj⟩:=he.sat hR;exact⟨h0,t',hw,_,i5.ren hr0,rj⟩
 .rintro x ⟨t,S,df⟩ ⟨hP,t',hw,hs⟩
  simp only at hw hs;refine qyp hw (((hr x hP).run ⟨t',S,df⟩ hs).mono λe s' ⟨C',hq,bz⟩=>?_)
  cases e with
  |normal=>
   obtain⟨x',hP',e8,mv⟩:=hq;obtain⟨t2,S2,df2⟩:=s';obtain⟨ρ2,hdf2,s8⟩:=bz;simp only at hdf2 s8;obtain⟨σ,hr2,mv⟩:=mv.ent;obtain⟨t3,hw3,lv⟩:=mv.sat s8
   exact⟨x',⟨hP',t3,hw3,_,hdf2.ren hr2,lv⟩,e8⟩
  |_=>exact⟨C',hq,bz⟩⟩
end
def qec(P:Program)(N:Nat)(C:Conf):ResultVar->Option SV
 |.tmp t=>sval N C.sl (.tmp t)
 |.cell a T=>(match sval N C.sl (.tmp a),tyOf P T with
  |some (.bx b off),some (sz,agg)=>(match hpF C.hp b with
   |some (.cells _ cs)=>qmq sz agg off cs
   |_=>none)
  |_,_=>none)
def resV(P:Program)(N:Nat)(C:Conf):List ResultVar->Option SV
 | []=>some (.tu [])
 | [a]=>qec P N C a
 | [a,b]=>(match qec P N C a,qec P N C b with
  |some x,some y=>some (.tu [x,y])
  |_,_=>none)
 | [a,b,c]=>(match qec P N C a,qec P N C b,qec P N C c with
  |some x,some y,some z=>some (.tu [x,y,z])
  |_,_,_=>none)
 | [a,b,c,d]=>(match qec P N C a,qec P N C b,qec P N C c,qec P N C d with
  |some x,some y,some z,some u=>some (.tu [x,y,z,u])
  |_,_,_,_=>none)
 |_=>none
theorem zgf{G:Gh}{x y z p:AV}{v u t q:Value}(h1:Rel G x v)(h2:Rel G y u)(h3:Rel G z t)(h4:Rel G p q):Rel G (.tu [x,y,z,p]) (.tuple #[v,u,t,q]):=
 .tu _ _ rfl λi x' y' hx hy=>by
  match i with
  |0=>simp at hx hy;subst hx;subst hy;exact h1
  |1=>simp at hx hy;subst hx;subst hy;exact h2
  |2=>simp at hx hy;subst hx;subst hy;exact h3
  |3=>simp at hx hy;subst hx;subst hy;exact h4
  |i+4=>simp at hx
def q00(r:ResultVar)(tm:Array Value):Sem Value:=
 match r with
 |.tmp t=>pure (tm.getD t undef)
 |.cell a t=>do loadVar t (<-asAddr (tm.getD a undef))
theorem qiv(fn:Func)(tm:Array Value):results fn tm=(do
  let vs <-fn.results.mapM λr=>q00 r tm
  pure (if h:vs.size=1 then vs[0]else .tuple vs)):=by
 unfold results;congr 1
theorem qby{E:Env}{S0:List AObj}{F:Nat->Prop}{C:Conf}{ρ t:Nat->AV}{S:List AObj}{N:Nat}(hR:SatR S0 F C ρ t S){r:ResultVar}{v:SV}(h:qec E.P N C r=some v){B0:Nat}{w0:World}{G:Gh}{a:Act}{w:World}(hI:Inv B0 w0 N G ⟨t,S,[]⟩ a w):
  ∃u,(q00 r a.tmps).run E.P w=.ok u w∧Rel G (v.ev ρ) u:=by
 cases r with
 |tmp i=>
  simp only[qec]at h;refine⟨a.tmps.getD i undef,rfl,?_⟩;have:=hI.rd i;rw[qs hR.sl h]at this
  exact this
 |cell i T=>
  simp only[qec]at h;split at h
  .rename_i b off sz agg hb ht
   split at h
   .rename_i T' cs hH
    obtain⟨o,ver,h1,h2,_⟩:=hR.hp.ok b _ hH;have he:=hI.rd i;rw[qs hR.sl hb]at he;simp only[SV.ev,h1,bxAt]at he;generalize hv:a.tmps.getD i undef=y at he
    cases he with
    |bx _ _ _ bl hn dx tg=>
     obtain⟨_,g1,g2,g3,c,g4,g5,g6⟩:=hI.agree.ob o _ h2;have hb:=tg g1;rw[hb]at g4
     obtain⟨u,a8,hRel⟩:=qau (w:=w) (G:=G) (b:=bl) (off:=off) (off':=off) ht (λi x hx hi=>by
      obtain⟨y,hy⟩:=wg hx (Nat.le_of_eq g5);refine⟨y,?_,g6 i x y hx hy⟩
      simp[World.cell?,g4,show off+(i-off)=i by omega,hy]) (qrd ρ h)
     refine⟨u,?_,hRel⟩;simp[q00,hv,asAddr,a8]
   .simp at h
  .simp at h
theorem qlp{E:Env}{S0:List AObj}{F:Nat->Prop}{C:Conf}{ρ t:Nat->AV}{S:List AObj}{fn:Func}(hR:SatR S0 F C ρ t S){v:SV}(h:resV E.P fn.ntmps C fn.results.toList=some v):ARes E fn ⟨t,S,[]⟩ (v.ev ρ):=by
 refine⟨λB0 w0 G a w hL hI=>?_⟩
 cases hr:fn.results.toList with
 |nil=>
  rw[hr]at h;simp only[resV,Qa]at h;subst h;have hr':fn.results= #[]:=by simpa using hr
  exact(qbe hr').run B0 w0 G a w hL hI
 |cons r1 l1=>
  cases l1 with
  |nil=>
   rw[hr]at h;obtain⟨u,h1,h2⟩:=qby hR h hI;have hr':fn.results= #[r1]:=by rw[<-Zh];exact hr
   refine⟨u,?_,h2⟩;rw[qiv,hr']
   simp[h1]
  |cons r2 l2=>
   cases l2 with
   |nil=>
    rw[hr]at h;simp only[resV]at h;split at h
    .rename_i x y hx hy
     simp only[Qa]at h;subst h;obtain⟨u1,h1,h2⟩:=qby hR hx hI;obtain⟨u2,h3,h4⟩:=qby hR hy hI;have hr':fn.results= #[r1,r2]:=by rw[<-Zh];exact hr
     refine⟨.tuple #[u1,u2],?_,qgr h2 h4⟩;rw[qiv,hr'];simp[h1,h3]
    .simp at h
   |cons r3 l3=>
    cases l3 with
    |nil=>
     rw[hr]at h;simp only[resV]at h;split at h
     .rename_i x y z hx hy hz
      simp only[Qa]at h;subst h;obtain⟨u1,h1,h2⟩:=qby hR hx hI;obtain⟨u2,h3,h4⟩:=qby hR hy hI;obtain⟨u3,h5,h6⟩:=qby hR hz hI;have hr':fn.results= #[r1,r2,r3]:=by rw[<-Zh];exact hr
      refine⟨.tuple #[u1,u2,u3],?_,qpp h2 h4 h6⟩;rw[qiv,hr'];simp[h1,h3,h5]
     .simp at h
    |cons r4 l4=>
     cases l4 with
     |nil=>
      rw[hr]at h;simp only[resV]at h;split at h
      .rename_i x y z p hx hy hz hp
       simp only[Qa]at h;subst h;obtain⟨u1,h1,h2⟩:=qby hR hx hI;obtain⟨u2,h3,h4⟩:=qby hR hy hI;obtain⟨u3,h5,h6⟩:=qby hR hz hI;obtain⟨u4,h7,h8⟩:=qby hR hp hI;have hr':fn.results= #[r1,r2,r3,r4]:=by rw[<-Zh];exact hr
       refine⟨.tuple #[u1,u2,u3,u4],?_,zgf h2 h4 h6 h8⟩;rw[qiv,hr'];simp[h1,h3,h5,h7]
      .simp at h
     |cons r5 l5=>rw[hr]at h;simp[resV]at h
def q51(P:Program)(ts:List TypeId)(x:AV)(k:AV->Prop):Prop:=
 match ts,x with
 | [t],x=>nrmK P t x k
 |ts,.tu xs=>zipK P ts xs λl=>k (.tu l)
 |_,x=>k x
theorem zco{P:Program}{ts:List TypeId}{x:AV}{k:AV->Prop}(h:q51 P ts x k):∃y,Wk x y∧k y:=by
 unfold q51 at h;split at h
 .exact qu7 h
 .obtain⟨m,h1,h2⟩:=q4h h
  exact⟨_,zed h1.1 h1.2,h2⟩
 .exact⟨_,wx _,h⟩
def ansW(P:Program)(fn:Func)(C:Conf)(k:AV->Prop):Prop:=
 match resV P fn.ntmps C fn.results.toList with
 |some v=>(match frz (hpF C.hp) v with
  |some x=>q51 P fn.resultTypes.toList x k
  |none=>False)
 |none=>False
theorem qul{E:Env}{S0:List AObj}{F:Nat->Prop}{C:Conf}{ρ t:Nat->AV}{S:List AObj}{fn:Func}{k:AV->Prop}(hR:SatR S0 F C ρ t S)(h:ansW E.P fn C k):∃y,ARes E fn ⟨t,S,[]⟩ y∧k y:=by
 unfold ansW at h;split at h
 .rename_i v hv
  split at h
  .rename_i x hx
   obtain⟨y,h1,h2⟩:=zco h;exact⟨y,vh (qlp hR hv) λG z hz=>h1 G z (qjh hR.hp v x hx G z hz),h2⟩
  .exact h.elim
 .exact h.elim
def retW(P:Program)(fn:Func)(r0:AV)(e:Exit)(C:Conf):Prop:=
 match e with
 |.normal=>ansW P fn C λy=>Tl y r0
 |.ret=>ansW P fn C λy=>Tl y r0
 |_=>False
theorem xo{α:Type}:∀{l:List α}{i0 i:Nat}{v:α},lkS (zl i0 l) i=some v->∃j,i=i0+j∧l[j]?=some v
 | [],_,_,_,h=>by simp[zl,lkS]at h
 |x::r,i0,i,v,h=>by
  simp only[zl,lkS]at h
  cases hb:Ql i0 i with
  |true=>
   rw[hb]at h;simp only[cond_true,Qa]at h;subst h
   exact⟨0,(Qd hb).symm,rfl⟩
  |false=>
   rw[hb]at h;obtain⟨j,h1,h2⟩:=xo h;exact⟨j+1,Om,by simpa using h2⟩
def numK{α:Type}:Nat->List α->(List (Nat×α)->Prop)->Prop
 |_,[],k=>k []
 |i,x::r,k=>numK (i+1) r λl=>k ((i,x)::l)
theorem qfk{α:Type}:∀(l:List α)(i:Nat)(k:List (Nat×α)->Prop),numK i l k=k (zl i l)
 | [],_,_=>rfl
 |x::r,i,k=>by rw[numK,qfk r];rfl
theorem qbf{E:Env}{fn:Func}{R:AV->List AObj->Prop}{S0:List AObj}{F:Nat->Prop}{C:Conf}{ρ t:Nat->AV}:∀{df:List Nat}{S:List AObj},SatR S0 F C ρ t S->(∀d∈df,S[d]?=some .dfr∧S0.length<=d)->df.Nodup->(∀S',SatR S0 F C ρ t S'->ARet E fn R ⟨t,S',[]⟩)->ARet E fn R ⟨t,S,df⟩
 | [],S,hR,_,_,h=>h S hR
 |d::df,S,hR,hm,hn,h=>by
  have hd:=hm d Sx;have sf:=Xd.1 hn;refine qnw rfl hd.1 (qbf (hR.dead hd.1 hd.2) (λx hx=>?_) sf.2 h);have d7:d≠x:=λe=>sf.1 (e▸hx);simp only;rw[Qn d7];exact hm x (Zt _ hx)
theorem ja{E:Env}{f:FuncId}{fn:Func}{c:Code}{args:List AV}{st:List AObj}{r0:AV}(vs:List SV)(hp:Pure r0)(hf:E.P.funcs[f]?=some fn)(hb:fn.body=some c)(hn:Qi args.length fn.ntmps=true)(hv:∀ρ,SV.evs ρ vs=args)(hc:okC ⟨zl 0 vs,[],0⟩=true)
  (h:∀S0,numK 0 vs λsl=>Sm E none fn.ntmps ⟨S0,λ_=>False,λ_=>zf,0,False⟩ c (retW E.P fn r0) ⟨sl,[],0⟩):qm E f args st λr st'=>r=r0∧st'=st:=by
 simp only[qfk]at h;refine ze hp (qq hf hb (Qf hn) ?_)
 have d9:SatC ⟨st++[],λ_=>False,λ_=>zf,0,False⟩ ⟨zl 0 vs,[],0⟩ ⟨argT args,st++[],[]⟩:=by
  refine⟨λ_=>zf,⟨nofun,Zg,λ_ _=>rfl,Qj _,nofun⟩,⟨λd v hd=>?_,⟨λk r hk=>?_,λk k' r r' _ hk=>?_⟩,λk r hk=>?_,λ_ _ _=>rfl,Qj _,λd v hd=>?_,λk r hk=>?_⟩⟩
  .obtain⟨j,h1,h2⟩:=xo hd
   have:args[j]?=some (v.ev λ_=>zf):=by rw[<-hv λ_=>zf,zw,Qg,h2];rfl
   rw[h1,Qh];simp only[argT,Qx,this,Qy]
  .simp[hpF,lkS]at hk
  .simp[hpF,lkS]at hk
  .simp[hpF,lkS]at hk
  .simp only[okC,Qb]at hc
   exact Qc.1 hc.1 _ (ji hd)
  .simp[hpF,lkS]at hk
 refine((h (st++[])).run _ d9).mono λe s' ⟨C',hq,bz⟩=>?_;obtain⟨t,S,df⟩:=s';obtain⟨ρ,i5,hR⟩:=bz;simp only at i5 hR;have hdm:=i5.dm;have bv:=i5.nd;have hl:=hR.len
 have fin:ansW E.P fn C' (λy=>Tl y r0)->ARet E fn (λr st2=>r=r0∧∃ext,st2=st++ext) ⟨t,S,df⟩:=λh=>by
  refine qbf hR (λx hx=>hdm x hx) bv λS' rj=>?_;obtain⟨y,h1,h2⟩:=qul rj h;refine qo rfl (vh h1 h2.ok) ⟨rfl,?_⟩;have hl:=rj.len;rw[Zb]at hl
  exact qme hl λk hk=>by
   have:=rj.low k (by simpa using hk) (λh=>h);rw[Zb]at this;exact this
 cases e with
 |normal=>exact fin hq
 |ret=>exact fin hq
 |_=>exact hq.elim
end Go.Av
namespace Go.Av
open Go Go.RowKit
def cf{α:Type}(L:Nat->Bool):Nat->List (List (Nat×α))->List (Nat×α)->List (Nat×α)
 |_,[],base=>base
 |i,c::r,base=>cf L (i+1) r (bif L i then c++base else base)
def xm{α:Type}(L:Nat->Bool)(k:Nat):Nat->List (List (Nat×α))->Option α
 |_,[]=>none
 |i,c::r=>match xm L k (i+1) r with
  |some v=>some v
  |none=>bif L i then lkS c k else none
theorem qd6{α:Type}(L:Nat->Bool)(k:Nat):∀(i:Nat)(chs:List (List (Nat×α)))(base:List (Nat×α)),lkS (cf L i chs base) k=match xm L k i chs with|some v=>some v|none=>lkS base k
 |_,[],_=>rfl
 |i,c::r,base=>by
  simp only[cf,xm];rw[qd6 L k (i+1) r]
  cases xm L k (i+1) r with
  |some v=>rfl
  |none=>
   cases L i with
   |true=>simp only[cond_true];rw[qbu];cases lkS c k<;>rfl
   |false=>rfl
theorem qc8{α:Type}{L L':Nat->Bool}{k:Nat}:∀{i:Nat}{chs:List (List (Nat×α))},(∀j c,chs[j]?=some c->lkS c k≠none->L (i+j)=L' (i+j))->xm L k i chs=xm L' k i chs
 |_,[],_=>rfl
 |i,c::r,h=>by
  simp only[xm]
  rw[qc8 (L:=L) (L':=L') (i:=i+1) (chs:=r) λj c hc hl=>by
   have:=h (j+1) c (by simpa using hc) hl;rw[show i+1+j=i+(j+1)by omega]
   exact this]
  cases xm L' k (i+1) r with
  |some v=>rfl
  |none=>
   simp only
   cases hl:lkS c k with
   |none=>cases L i<;>cases L' i<;>rfl
   |some v=>
    have:=h 0 c rfl (by rw[hl];simp);rw[Zd]at this;rw[this]
theorem qio{α:Type}{L:Nat->Bool}{k:Nat}{v:α}:∀{i:Nat}{chs:List (List (Nat×α))},xm L k i chs=some v->∃j c,chs[j]?=some c∧L (i+j)=true∧lkS c k=some v
 |_,[],h=>by simp[xm]at h
 |i,c::r,h=>by
  simp only[xm]at h
  cases hr:xm L k (i+1) r with
  |some w=>
   rw[hr]at h;simp only[Qa]at h;subst h;obtain⟨j,c',h1,h2,h3⟩:=qio hr
   exact⟨j+1,c',by simpa using h1,by rw[show i+(j+1)=i+1+j by omega];exact h2,h3⟩
  |none=>
   rw[hr]at h;simp only at h
   cases hL:L i with
   |true=>rw[hL]at h;exact⟨0,c,rfl,hL,h⟩
   |false=>rw[hL]at h;simp at h
theorem qoj{α:Type}{L:Nat->Bool}{k:Nat}:∀{i j0:Nat}{chs:List (List (Nat×α))}{c0:List (Nat×α)},chs[j0]?=some c0->(∀j c,j0<j->chs[j]?=some c->L (i+j)=true->lkS c0 k≠none->lkS c k=none)->
  xm (addL L (i+j0)) k i chs=match lkS c0 k with|some v=>some v|none=>bif L (i+j0)then xm (addL L (i+j0)) k i chs else xm L k i chs
 |_,_,[],_,h,_=>by simp at h
 |i,0,c::r,c0,h,hd=>by
  simp only[Qp,Qa]at h;subst h
  have hr:xm (addL L (i+0)) k (i+1) r=xm L k (i+1) r:=qc8 λj c _ _=>by
   unfold addL;rw[zq Om,Xj]
  have ha:addL L (i+0) i=true:=by simp[addL]
  cases hl:lkS c k with
  |some v=>
   have hn:xm L k (i+1) r=none:=by
    cases hq:xm L k (i+1) r with
    |none=>rfl
    |some w=>
     obtain⟨j,c',h1,h2,h3⟩:=qio hq;have:=hd (j+1) c' Om (by simpa using h1) (by rw[show i+(j+1)=i+1+j by omega];exact h2) (by rw[hl];simp);rw[this]at h3;simp at h3
   simp only[xm,hr,hn,ha,cond_true,hl]
  |none=>
   cases hLi:L (i+0)with
   |true=>rfl
   |false=>
    simp only[cond_false,xm,hr,ha,cond_true,hl];rw[Zd]at hLi;rw[hLi]
    cases xm L k (i+1) r<;>rfl
 |i,j0+1,c::r,c0,h,hd=>by
  have ih:=qoj (L:=L) (k:=k) (i:=i+1) (j0:=j0) (chs:=r) (c0:=c0) (by simpa using h) λj c hj hc hL hl=>hd (j+1) c Om (by simpa using hc) (by rw[show i+(j+1)=i+1+j by omega];exact hL) hl;rw[show i+1+j0=i+(j0+1)by omega]at ih
  have hi:addL L (i+(j0+1)) i=L i:=by
   unfold addL;rw[zq Om,Xj]
  cases hl:lkS c0 k with
  |some v=>rw[hl]at ih;simp only[xm,ih]
  |none=>
   rw[hl]at ih;simp only at ih
   cases hLi:L (i+(j0+1))with
   |true=>rfl
   |false=>
    rw[hLi]at ih;simp only[cond_false]at ih⊢;simp only[xm,ih,hi]
theorem qld{α:Type}:∀{L:Nat->Bool}{i:Nat}{chs:List (List (Nat×α))}{base:List (Nat×α)},(∀j,j<chs.length->L (i+j)=false)->cf L i chs base=base
 |_,_,[],_,_=>rfl
 |L,i,c::r,base,h=>by
  have h0:=h 0 Sx;rw[Zd]at h0;simp only[cf,h0,cond_false]
  exact qld λj hj=>by
   have:=h (j+1) (by simpa using hj);rw[show i+1+j=i+(j+1)by omega];exact this
structure Tr where
 rd:List Nat
 dst:Option Nat
 e:Ef
 nx:Nat
def Tr.sch(t:Tr):List (Nat×SV):=match t.dst with
 |some d=>[(d,t.e.val)]
 |none=>[]
def runT:List Tr->Conf->Conf
 | [],C=>C
 |t::r,C=>runT r (C.app t.dst t.e)
theorem zg2(C:Conf)(t:Tr):(C.app t.dst t.e).sl=t.sch++C.sl:=by
 unfold Conf.app Tr.sch
 cases t.dst<;>rfl
theorem qle:∀(tr:List Tr)(i0 n:Nat)(C:Conf),cf (λj=>Qe j (i0+n)) i0 (tr.map Tr.sch) C.sl=(runT (tr.take n) C).sl∧cf (λj=>Qe j (i0+n)) i0 (tr.map λt=>t.e.ch) C.hp=(runT (tr.take n) C).hp
 | [],_,n,C=>by simp[cf,runT]
 |t::r,i0,0,C=>by
  have hf:∀{m:Nat}(j:Nat),j<m->Qe (i0+j) (i0+0)=false:=λj _=>by
   cases hb:Qe (i0+j) (i0+0)with
   |false=>rfl
   |true=>have:=jj hb;omega
  exact⟨qld λj hj=>hf j hj,qld λj hj=>hf j hj⟩
 |t::r,i0,n+1,C=>by
  have hb:Qe i0 (i0+(n+1))=true:=xd Om;have ih:=qle r (i0+1) n (C.app t.dst t.e);rw[show i0+1+n=i0+(n+1)by omega]at ih;simp only[Za,cf,hb,cond_true,List.take_succ_cons,runT];rw[<-zg2];exact ih
def q8(ch:List (Nat×Option SR)):List Nat:=ch.map Xr
def qdb(a b:List Nat):Bool:=a.all λx=> !memN b x
def dstL:Option Nat->List Nat
 |some d=>[d]
 |none=>[]
def indT(a b:Tr):Bool:=
 qdb (dstL a.dst) b.rd&&qdb (dstL a.dst) (dstL b.dst)&&qdb (dstL b.dst) a.rd&&
 qdb (q8 a.e.ch) b.e.ks&&qdb (q8 a.e.ch) (q8 b.e.ch)&&qdb (q8 b.e.ch) a.e.ks&&
 b.e.val.all (λk=>Qe k a.nx||Qi a.e.nx k)&&b.e.ch.all (λq=>(Qe q.1 a.nx||Qi a.e.nx q.1)&&match q.2 with
  |some r=>r.all λk=>Qe k a.nx||Qi a.e.nx k
  |none=>true)
def qiq(o:Oper)(acc:List Nat):Nat:=(qdc o).foldl (λm d=>(m|||2^d)|||acc.getD d 0) 0
def ancs:List Oper->List Nat->List Nat
 | [],acc=>acc
 |o::r,acc=>ancs r (acc++[qiq o acc])
inductive AncR (l:List Oper):Nat->Nat->Prop
 |dep {i j:Nat} {o:Oper} (ho:l[j]?=some o) (hi:i∈qdc o):AncR l i j
 |step {i d j:Nat} {o:Oper} (ho:l[j]?=some o) (hd:d∈qdc o) (h:AncR l i d):AncR l i j
theorem q8w{l:List Oper}{acc:List Nat}(hacc:∀j i,(acc.getD j 0).testBit i=true->AncR l i j){o:Oper}{j:Nat}(ho:l[j]?=some o){i:Nat}(h:(qiq o acc).testBit i=true):AncR l i j:=by
 unfold qiq at h
 have key:∀(ds:List Nat)(m:Nat),(∀d∈ds,d∈qdc o)->(m.testBit i=true->AncR l i j)->(ds.foldl (λm d=>(m|||2^d)|||acc.getD d 0) m).testBit i=true->AncR l i j:=by
  intro ds
  induction ds with
  |nil=>exactλm _ hm h=>hm h
  |cons d r ih=>
   intro m hd hm h;refine ih ((m|||2^d)|||acc.getD d 0) (λd' cn=>hd d' (by simp[cn])) (λhb=>?_) h;rw[Xh,Xh,Zc,Zc,Nat.testBit_two_pow]at hb;rcases hb with(hb|hb)|hb
   .exact hm hb
   .have:d=i:=by simpa using hb
    subst this;exact .dep ho (hd d Sx)
   .exact .step ho (hd d Sx) (hacc d i hb)
 exact key (qdc o) 0 (λd hd=>hd) (λh=>by simp at h) h
theorem qx9{l:List Oper}:∀(r:List Oper)(acc:List Nat),(∀k o,r[k]?=some o->l[acc.length+k]?=some o)->(∀j i,(acc.getD j 0).testBit i=true->AncR l i j)->∀j i,((ancs r acc).getD j 0).testBit i=true->AncR l i j
 | [],acc,_,h=>h
 |o::r,acc,hr,h=>by
  refine qx9 r (acc++[qiq o acc]) (λk o' hk=>?_) (λj i hb=>?_)
  .have:=hr (k+1) o' (by simpa using hk)
   rw[Qo];simp only[Zo,Xe];rw[show acc.length+(0+1)+k=acc.length+(k+1)by omega];exact this
  .by_cases hj:j<acc.length
   .have e:(acc++[qiq o acc]).getD j 0=acc.getD j 0:=by simp[Qx,Qs hj]
    rw[e]at hb;exact h j i hb
   .by_cases hj':j=acc.length
    .subst hj'
     have e:(acc++[qiq o acc]).getD acc.length 0=qiq o acc:=by simp[Qx]
     rw[e]at hb;exact q8w h (by have:=hr 0 o rfl;simpa using this) hb
    .have e:(acc++[qiq o acc]).getD j 0=0:=by simp[Qx,List.getElem?_eq_none (show(acc++[qiq o acc]).length<=j by simp;omega)]
     rw[e]at hb;simp at hb
def chkR:Nat->Tr->Nat->List Tr->List Nat->Bool
 |_,_,_,[],_=>true
 |i,a,j,b::r,m=>((m.getD j 0).testBit i||indT a b)&&chkR i a (j+1) r m
def chkT:Nat->List Tr->List Nat->Bool
 |_,[],_=>true
 |i,a::r,m=>chkR i a (i+1) r m&&chkT (i+1) r m
theorem qyy:∀{i:Nat}{a:Tr}{j0:Nat}{l:List Tr}{m:List Nat},chkR i a j0 l m=true->∀j b,l[j]?=some b->(m.getD (j0+j) 0).testBit i=true∨indT a b=true
 |_,_,_,[],_,_,j,b,h=>by simp at h
 |i,a,j0,b::r,m,h,j,b',hb=>by
  simp only[chkR,Qb,Zc]at h
  cases j with
  |zero=>
   simp only[Qp,Qa]at hb;subst hb
   exact h.1
  |succ j=>
   have:=qyy h.2 j b' (by simpa using hb);rw[show j0+(j+1)=j0+1+j by omega];exact this
theorem qyz:∀{i0:Nat}{l:List Tr}{m:List Nat},chkT i0 l m=true->∀i j a b,i<j->l[i]?=some a->l[j]?=some b->(m.getD (i0+j) 0).testBit (i0+i)=true∨indT a b=true
 |_,[],_,_,_,_,_,_,_,h,_=>by simp at h
 |i0,a::r,m,h,i,j,a',b',tw,ha,hb=>by
  simp only[chkT,Qb]at h
  cases i with
  |zero=>
   simp only[Qp,Qa]at ha;subst ha;obtain⟨j,rfl⟩:∃j',j=j'+1:=⟨j-1,Om⟩;have:=qyy h.1 j b' (by simpa using hb);rw[show i0+(j+1)=i0+1+j by omega,Zd]
   exact this
  |succ i=>
   obtain⟨j,rfl⟩:∃j',j=j'+1:=⟨j-1,Om⟩;have:=qyz h.2 i j a' b' Om (by simpa using ha) (by simpa using hb);rw[show i0+(j+1)=i0+1+j by omega,show i0+(i+1)=i0+1+i by omega];exact this
theorem qff{a b:List Nat}(h:qdb a b=true){x:Nat}(hx:memN a x=true):memN b x=false:=by
 unfold memN at hx;obtain⟨y,hy,e⟩:=Qu.1 hx;have:=Qd e;subst this
 simpa using Qc.1 h _ hy
theorem qom{ch:List (Nat×Option SR)}{k:Nat}(h:lkS ch k≠none):memN (q8 ch) k=true:=by
 cases hl:lkS ch k with
 |none=>exact absurd hl h
 |some v=>exact Qu.2 ⟨k,Zp.2 ⟨_,ji hl,rfl⟩,Sx⟩
theorem qrf{t:Tr}{d:Nat}(h:lkS t.sch d≠none):memN (dstL t.dst) d=true:=by
 unfold Tr.sch at h
 cases ht:t.dst with
 |none=>rw[ht]at h;simp[lkS]at h
 |some x=>
  rw[ht]at h;simp only[lkS]at h;by_cases e:x=d
  .subst e;simp[dstL,memN]
  .rw[zq e]at h;simp at h
def rs(rd:List Nat)(sl:List (Nat×SV)):List (Nat×SV):=rd.filterMap λd=>match lkS sl d with
 |some v=>some (d,v)
 |none=>none
theorem zij{rd:List Nat}{sl:List (Nat×SV)}{d:Nat}{v:SV}(h:lkS (rs rd sl) d=some v):memN rd d=true∧lkS sl d=some v:=by
 have:=ji h;unfold rs at this;obtain⟨x,hx,he⟩:=List.mem_filterMap.1 this;split at he
 .rename_i w hw
  simp only[Qa,Qr]at he;obtain⟨rfl,rfl⟩:=he;exact⟨Qu.2 ⟨x,hx,Sx⟩,hw⟩
 .simp at he
theorem qre{l:List Nat}{x:Nat}(h:memN l x=true):x∈l:=by
 obtain⟨y,hy,e⟩:=Qu.1 h;rw[Qd e];exact hy
theorem SatR.congr{S0:List AObj}{F:Nat->Prop}{C C':Conf}{ρ t:Nat->AV}{S:List AObj}(h:SatR S0 F C ρ t S)(h1:∀d,lkS C'.sl d=lkS C.sl d)(h2:hpF C'.hp=hpF C.hp)(h3:C.nx<=C'.nx):SatR S0 F C' ρ t S:=
 ⟨λd v hd=>h.sl d v (by rw[<-h1];exact hd),by rw[h2];exact h.hp,by rw[h2];exact h.own,h.low,h.len,λd v hd=>all_mono (λk hk=>xd (by have:=jj hk;omega)) v (h.wsl d v (by rw[<-h1];exact hd)),λk r hk=>by
  rw[h2]at hk;obtain⟨g1,g2⟩:=h.whp k r hk
  exact⟨Om,SR.all_mono (λk hk=>xd (by have:=jj hk;omega)) r g2⟩⟩
structure q4j (E:Env) (N:Nat) (l:List Oper) (C0:Conf) (tr:List Tr):Prop where
 len:tr.length=l.length
 loc:∀i o t,l[i]?=some o->tr[i]?=some t->Loc E N l.toArray o t.nx (rs t.rd (runT (tr.take i) C0).sl) (hpF (runT (tr.take i) C0).hp) t.e∧t.e.wf t.nx=true∧t.nx=(runT (tr.take i) C0).nx∧t.dst=o.dst
theorem qlq{E:Env}{N:Nat}{l:List Oper}{C0:Conf}{tr:List Tr}(h:q4j E N l C0 tr):∀{i j:Nat},i<=j->j<=tr.length->(runT (tr.take i) C0).nx<=(runT (tr.take j) C0).nx:=by
 have step:∀(r:List Tr)(C:Conf)(t:Tr),(runT (r++[t]) C)=(runT r C).app t.dst t.e:=by
  intro r
  induction r with
  |nil=>exactλC t=>rfl
  |cons a r ih=>exactλC t=>ih _ t
 intro i j tw
 induction tw with
 |refl=>exactλ_=>Qj _
 |step hm ih=>
  rename_i m;intro hj;refine Zj (ih Om) ?_;have ht:tr[m]?=some (tr[m]'(by omega)):=Qk Om;have ho:l[m]?=some (l[m]'(by have:=h.len;omega)):=Qk _;obtain⟨_,h2,h3,_⟩:=h.loc m _ _ ho ht;rw[Zi Om,step];have:=(qg0 h2).1;rw[h3]at this;exact this
theorem q92{tr:List Tr}{i:Nat}{t:Tr}(ht:tr[i]?=some t)(C0:Conf):runT (tr.take (i+1)) C0=(runT (tr.take i) C0).app t.dst t.e:=by
 have step:∀(r:List Tr)(C:Conf)(t:Tr),(runT (r++[t]) C)=(runT r C).app t.dst t.e:=by
  intro r
  induction r with
  |nil=>exactλC t=>rfl
  |cons a r ih=>exactλC t=>ih _ t
 obtain⟨hi,e⟩:=Qt.1 ht;rw[Zi hi,step,e]
def qo9(l:List Oper)(L:Nat->Bool):Prop:=∀j o,L j=true->l[j]?=some o->∀d∈qdc o,L d=true
theorem qo9.anc{l:List Oper}{L:Nat->Bool}(h:qo9 l L){i j:Nat}(ha:AncR l i j):L j=true->L i=true:=by
 induction ha with
 |dep ho hi=>exactλhj=>h _ _ hj ho _ hi
 |step ho hd _ ih=>exactλhj=>ih (h _ _ hj ho _ hd)
theorem q7f{E:Env}{rd:Option Nat}{N:Nat}{id:Nat}{l:List Oper}{B:Bs}{C0:Conf}{tr:List Tr}{Q:Exit->AS->Prop}{s:AS}(hm:E.P.follows .mixedOrders=true)(bv:l.toArray.all qfj=true)(hd:qhi 0 l=true)
  (hw:q4j E N l C0 tr) (hc:chkT 0 tr (ancs l [])=true) (hs:SatC B C0 s) (hq:∀s',SatC B (runT tr C0) s'->Q .normal s'):AWp E rd N (.region id l.toArray true) Q s:=by
 have b9:=hw.len
 let NX:=(runT tr C0).nx
 let SC:=tr.map Tr.sch
 let HC:=tr.map λt:Tr=>t.e.ch
 have hSC:∀{j:Nat}{c:List (Nat×SV)},SC[j]?=some c->∃t,tr[j]?=some t∧c=t.sch:=λ{j c}h=>by
  simp only[SC,Qg]at h
  cases ht:tr[j]?with
  |none=>rw[ht]at h;simp at h
  |some t=>rw[ht]at h;simp at h;exact⟨t,rfl,h.symm⟩
 have hHC:∀{j:Nat}{c:List (Nat×Option SR)},HC[j]?=some c->∃t,tr[j]?=some t∧c=t.e.ch:=λ{j c}h=>by
  simp only[HC,Qg]at h
  cases ht:tr[j]?with
  |none=>rw[ht]at h;simp at h
  |some t=>rw[ht]at h;simp at h;exact⟨t,rfl,h.symm⟩
 have rq:∀{j:Nat}{t:Tr},tr[j]?=some t->∃o,l[j]?=some o:=λ{j t}h=>⟨_,Qk (by have:=lt_of_getElem? h;omega)⟩;have gz:tr.take tr.length=tr:=Xb
 have hnx:∀{j:Nat}{t:Tr},tr[j]?=some t->t.nx=(runT (tr.take j) C0).nx∧t.e.nx=(runT (tr.take (j+1)) C0).nx:=λ{j t}h=>by
  obtain⟨o,ho⟩:=rq h;refine⟨(hw.loc j o t ho h).2.2.1,?_⟩;rw[q92 h];rfl
 have cr:∀{i j:Nat}{a b:Tr},i<j->tr[i]?=some a->tr[j]?=some b->a.e.nx<=b.nx:=λ{i j a b}tw ha hb=>by
  rw[(hnx ha).2,(hnx hb).1];exact qlq hw Om (by have:=lt_of_getElem? hb;omega)
 have hNX:∀{j:Nat}{t:Tr},tr[j]?=some t->t.e.nx<=NX:=λ{j t}h=>by
  rw[(hnx h).2];have:=qlq hw (i:=j+1) (j:=tr.length) (by have:=lt_of_getElem? h;omega) (Qj _);rw[gz]at this;exact this
 have h0nx:∀{j:Nat}{t:Tr},tr[j]?=some t->C0.nx<=t.nx:=λ{j t}h=>by
  rw[(hnx h).1];exact qlq hw (i:=0) (Xa j) (by have:=lt_of_getElem? h;omega)
 have hanc:∀j i,((ancs l []).getD j 0).testBit i=true->AncR l i j:=qx9 l [] (λk o hk=>by simpa using hk) (λj i h=>by simp[Qx]at h)
 have pair:∀{i j:Nat}{a b:Tr},i<j->tr[i]?=some a->tr[j]?=some b->AncR l i j∨indT a b=true:=λ{i j a b}tw ha hb=>by
  have:=qyz hc i j a b tw ha hb;rw[Qh,Qh]at this;exact this.imp_left λh=>hanc j i h
 have hb0:B.n0<=C0.nx:=by obtain⟨_,h,_⟩:=hs;exact h.le
 refine q7d hm bv hd (λL s=>qo9 l L∧SatC B ⟨cf L 0 SC C0.sl,cf L 0 HC C0.hp,NX⟩ s) ⟨λj o h=>by simp at h,?_⟩ ?_ ?_
 .obtain⟨ρ,i5,hR⟩:=hs
  have hC0:C0.nx<=NX:=by
   have:=qlq hw (i:=0) (j:=tr.length) (Xa _) (Qj _);rw[gz]at this;exact this
  refine⟨ρ,i5.nx (Zj i5.le hC0),hR.congr (λd=>?_) ?_ ?_⟩
  .rw[qld λ_ _=>rfl]
  .show hpF (cf (λ_=>false) 0 HC C0.hp)=hpF C0.hp
   rw[qld λ_ _=>rfl]
  .have:=qlq hw (i:=0) (j:=tr.length) (Xa _) (Qj _)
   rw[gz]at this;exact this
 .rintro L s' i6 ⟨_,ρ,i5,hR⟩
  refine hq s' ⟨ρ,i5.nx i5.le,hR.congr (λd=>?_) ?_ (Qj _)⟩
  .have h1:=(qle tr 0 tr.length C0).1
   rw[gz]at h1;rw[<-h1];simp only[qd6]
   rw[qc8 (L:=λj=>Qe j (0+tr.length)) (L':=L) λj c hc _=>by
    obtain⟨t,ht,_⟩:=hSC hc;have hj:=lt_of_getElem? ht;rw[i6 (0+j) Om]
    exact xd Om]
  .have h1:=(qle tr 0 tr.length C0).2
   rw[gz]at h1;rw[<-h1];funext k;unfold hpF;simp only[qd6]
   rw[qc8 (L:=λj=>Qe j (0+tr.length)) (L':=L) λj c hc _=>by
    obtain⟨t,ht,_⟩:=hHC hc;have hj:=lt_of_getElem? ht;rw[i6 (0+j) Om]
    exact xd Om]
 ·-- the steps
  suffices H:∀(i:Nat)(o:Oper),l[i]?=some o->∀L s,L i=false->(∀j,(qdc o).contains j=true->L j=true)->(qo9 l L∧SatC B ⟨cf L 0 SC C0.sl,cf L 0 HC C0.hp,NX⟩ s)->
    AOps E none N l.toArray [o] (λs=>qo9 l (addL L i)∧SatC B ⟨cf (addL L i) 0 SC C0.sl,cf (addL L i) 0 HC C0.hp,NX⟩ s) s by
   have gen:∀(r:List Oper)(i0:Nat),(∀k o,r[k]?=some o->l[i0+k]?=some o)->qno E N l.toArray (λL s=>qo9 l L∧SatC B ⟨cf L 0 SC C0.sl,cf L 0 HC C0.hp,NX⟩ s) i0 r:=by
    intro r
    induction r with
    |nil=>exactλ_ _=>trivial
    |cons o r ih=>
     intro i0 hr;exact⟨H i0 o (by have:=hr 0 o rfl;simpa using this),ih (i0+1) λk o' hk=>by rw[show i0+1+k=i0+(k+1)by omega];exact hr (k+1) o' (by simpa using hk)⟩
   exact gen l 0 λk o hk=>by simpa using hk
  rintro i o ho L ⟨t0,S,df⟩ hLi hdeps ⟨hdown,ρ,i5,hR⟩;simp only at i5 hR;have hil:=lt_of_getElem? ho;obtain⟨t,ht⟩:∃t,tr[i]?=some t:=⟨_,Qk Om⟩;obtain⟨hL,hwf,hnxi,hdst⟩:=hw.loc i o t ho ht;obtain⟨w1,w2,w3⟩:=qg0 hwf
  -- who has done what, told by the text
  have anc_in:∀{j:Nat},AncR l j i->L j=true:=λ{j}h=>by
   cases h with
   |dep e7 hi=>
    rw[ho]at e7;simp only[Qa]at e7;subst e7
    exact hdeps j (by simpa using hi)
   |step e7 cn h'=>
    rw[ho]at e7;simp only[Qa]at e7;subst e7;exact hdown.anc h' (hdeps _ (by simpa using cn))
  have not_after:∀{j:Nat},AncR l i j->L j=false:=λ{j}h=>by
   cases hj:L j with
   |false=>rfl
   |true=>rw[hdown.anc h hj]at hLi;simp at hLi
  have agree:∀{j:Nat}{b:Tr},tr[j]?=some b->(∀(fg:j<i),indT b t=true->False)->(∀(tw:i<j),indT t b=true->False)->L j=Qe j i:=λ{j b}hb h1 h2=>by
   rcases Zx j i with fg|fg|fg
   .rw[xd fg]
    rcases pair fg hb ht with h|h
    .exact anc_in h
    .exact(h1 fg h).elim
   .subst fg
    rw[hLi]
    cases hbb:Qe j j with
    |false=>rfl
    |true=>have:=jj hbb;omega
   .have:Qe j i=false:=by
     cases hbb:Qe j i with
     |false=>rfl
     |true=>have:=jj hbb;omega
    rw[this];rcases pair fg ht hb with h|h
    .exact not_after h
    .exact(h2 fg h).elim
  have hslA:∀d,memN t.rd d=true->lkS (cf L 0 SC C0.sl) d=lkS (runT (tr.take i) C0).sl d:=λd hd=>by
   have h1:=(qle tr 0 i C0).1;rw[<-h1];simp only[qd6]
   rw[qc8 (L:=L) (L':=λj=>Qe j (0+i)) λj c hc hl=>by
    obtain⟨b,hb,rfl⟩:=hSC hc;have hdm:=qrf hl;rw[Qh,Qh];refine agree hb (λfg h=>?_) (λtw h=>?_)
    .simp only[indT,Qb]at h
     have:=qff h.1.1.1.1.1.1.1 hdm;rw[hd]at this;simp at this
    .simp only[indT,Qb]at h
     have:=qff h.1.1.1.1.1.2 hdm;rw[hd]at this
     simp at this]
  have hhpA:resF t.e.ks (hpF (runT (tr.take i) C0).hp)=resF t.e.ks (hpF (cf L 0 HC C0.hp)):=by
   funext k;unfold resF
   cases hk:memN t.e.ks k with
   |false=>rfl
   |true=>
    simp only[cond_true];have h1:=(qle tr 0 i C0).2;rw[<-h1];unfold hpF;simp only[qd6]
    rw[qc8 (L:=λj=>Qe j (0+i)) (L':=L) λj c hc hl=>by
     obtain⟨b,hb,rfl⟩:=hHC hc;have hdm:=qom hl;rw[Qh,Qh];refine(agree hb (λfg h=>?_) (λtw h=>?_)).symm
     .simp only[indT,Qb]at h
      have:=qff h.1.1.1.1.2 hdm;rw[hk]at this;simp at this
     .simp only[indT,Qb]at h
      have:=qff h.1.1.2 hdm;rw[hk]at this
      simp at this]
  refine hL _ none _ [] ρ t0 S (λd v cn=>?_) (by rw[hhpA];exact hR.hp.res _) λρ' S' hp=>qh ⟨λj o' hj e7 d cn=>?_,ρ',?_,?_⟩
  .obtain⟨g1,g2⟩:=zij cn
   exact hR.sl d v (by rw[hslA d g1];exact g2)
  .unfold addL at hj⊢
   rcases Bool.or_eq_true_iff.1 hj with hj|hj
   .have:=Qd hj
    subst this;rw[ho]at e7;simp only[Qa]at e7;subst e7;rw[hdeps d (by simpa using cn),Xm]
   .rw[hdown j o' hj e7 d cn,Xm]
  .have hp2:qa9 ρ S t.nx (hpF (cf L 0 HC C0.hp)) t.e ρ' S':=⟨hp.old,by rw[<-hhpA];exact hp.sat,hp.len,by rw[<-hhpA];exact hp.fr,by rw[<-hhpA];exact hp.loc⟩
   have:=i5.stepG (C':=⟨cf (addL L i) 0 SC C0.sl,cf (addL L i) 0 HC C0.hp,NX⟩) hR.hp hp2 (by have:=hb0;have:=h0nx ht;omega) i5.le
   cases o.dst<;>exact this
  .have hp2:qa9 ρ S t.nx (hpF (cf L 0 HC C0.hp)) t.e ρ' S':=⟨hp.old,by rw[<-hhpA];exact hp.sat,hp.len,by rw[<-hhpA];exact hp.fr,by rw[<-hhpA];exact hp.loc⟩
   have old_lt:∀k,Qe k C0.nx=true->(Qe k t.nx||Qi t.e.nx k)=true:=λk hk=>by
    have:=h0nx ht;rw[xd (by have:=jj hk;omega),Xo]
   have ear_lt:∀{j:Nat}{b:Tr},j<i->tr[j]?=some b->∀k,Qe k b.e.nx=true->(Qe k t.nx||Qi t.e.nx k)=true:=λ{j b}fg hb k hk=>by
    have:=cr fg hb ht;rw[xd (by have:=jj hk;omega),Xo]
   have lat:∀{j:Nat}{b:Tr},tr[j]?=some b->L j=true->¬j<i->indT t b=true∧i<j:=λ{j b}hb tb fg=>by
    have tw:i<j:=by
     rcases Zx i j with h|h|h
     .exact h
     .subst h;rw[hLi]at tb;simp at tb
     .omega
    rcases pair tw ht hb with h|h
    .rw[not_after h]at tb;simp at tb
    .exact⟨h,tw⟩
   have d9:=hR.stepG (d:=o.dst) (nx:=t.nx) (NX:=NX) (Qj _) (all_mono (λk hk=>xd (by have:=jj hk;have:=hNX ht;omega)) _ w2) (λq hq'=>⟨by have:=(w3 q hq').1;have:=hNX ht;omega,λr hr=>SR.all_mono (λk hk=>xd (by have:=jj hk;have:=hNX ht;omega)) r ((w3 q hq').2.2 r hr)⟩) (λd v cn=>?_) (λk r hk=>?_) hp2
   .refine SatR.congr (S0:=B.S0) (F:=B.F) (C:=⟨match o.dst with|some d=>(d,t.e.val)::cf L 0 SC C0.sl|none=>cf L 0 SC C0.sl,t.e.ch++cf L 0 HC C0.hp,NX⟩) ?_ (λd=>?_) ?_ (Qj _)
    .cases hod:o.dst with
     |none=>rw[hod]at d9;exact d9
     |some x=>rw[hod]at d9;exact d9
    .have hSi:SC[i]?=some t.sch:=by simp only[SC,Qg,ht];rfl
     have lw:=qoj (L:=L) (k:=d) (i:=0) (j0:=i) hSi λj c tw hc tb hl=>by
      obtain⟨b,hb,rfl⟩:=hSC hc;rw[Qh]at tb;have h:=(lat hb tb Om).1;simp only[indT,Qb]at h;have h2:=qff h.1.1.1.1.1.1.2 (qrf hl)
      cases hq':lkS b.sch d with
      |none=>rfl
      |some w=>
       have:=qrf (t:=b) (d:=d) (by rw[hq'];simp);rw[h2]at this;simp at this
     rw[Qh,hLi]at lw;simp only[cond_false]at lw
     have e:lkS (match o.dst with|some d=>(d,t.e.val)::cf L 0 SC C0.sl|none=>cf L 0 SC C0.sl) d=lkS (t.sch++cf L 0 SC C0.sl) d:=by
      unfold Tr.sch;rw[hdst]
      cases o.dst<;>rfl
     rw[e,qbu];simp only[qd6];rw[lw]
     cases lkS t.sch d<;>rfl
    .rw[qpk]
     funext k;have hHi:HC[i]?=some t.e.ch:=by simp only[HC,Qg,ht];rfl
     have lw:=qoj (L:=L) (k:=k) (i:=0) (j0:=i) hHi λj c tw hc tb hl=>by
      obtain⟨b,hb,rfl⟩:=hHC hc;rw[Qh]at tb;have h:=(lat hb tb Om).1;simp only[indT,Qb]at h;have h2:=qff h.1.1.1.2 (qom hl)
      cases hq':lkS b.e.ch k with
      |none=>rfl
      |some w=>
       have:=qom (ch:=b.e.ch) (k:=k) (by rw[hq'];simp);rw[h2]at this;simp at this
     rw[Qh,hLi]at lw;simp only[cond_false]at lw;unfold chF hpF;simp only[qd6];rw[lw]
     cases lkS t.e.ch k<;>rfl
   .simp only[qd6]at cn
    cases m9:xm L d 0 SC with
    |none=>
     rw[m9]at cn;simp only at cn;obtain⟨ρ0,_,hR0⟩:=hs
     exact all_mono old_lt v (hR0.wsl d v cn)
    |some u=>
     rw[m9]at cn;simp only[Qa]at cn;subst cn;obtain⟨j,c,tj,tb,hl⟩:=qio m9;obtain⟨b,hb,rfl⟩:=hSC tj;rw[Qh]at tb;obtain⟨ob,fj⟩:=rq hb
     have hu:u=b.e.val:=by
      unfold Tr.sch at hl
      cases hbd:b.dst with
      |none=>rw[hbd]at hl;simp[lkS]at hl
      |some x=>
       rw[hbd]at hl;simp only[lkS]at hl
       cases hbx:Ql x d with
       |true=>rw[hbx]at hl;simp only[cond_true,Qa]at hl;exact hl.symm
       |false=>rw[hbx]at hl;simp at hl
     subst hu;by_cases fg:j<i
     .exact all_mono (ear_lt fg hb) _ (qg0 (hw.loc j ob b fj hb).2.1).2.1
     .have h:=(lat hb tb fg).1
      simp only[indT,Qb]at h;exact h.1.2
   .have bn:=vo hk
    simp only[qd6]at bn
    cases m9:xm L k 0 HC with
    |none=>
     rw[m9]at bn;simp only at bn;obtain⟨ρ0,_,hR0⟩:=hs;obtain⟨g1,g2⟩:=hR0.whp k r (by unfold hpF;rw[bn])
     exact⟨.inl (by have:=h0nx ht;omega),SR.all_mono old_lt r g2⟩
    |some u=>
     rw[m9]at bn;simp only[Qa]at bn;subst bn;obtain⟨j,c,tj,tb,hl⟩:=qio m9;obtain⟨b,hb,rfl⟩:=hHC tj;rw[Qh]at tb;obtain⟨ob,fj⟩:=rq hb;obtain⟨g1,_,g3⟩:=(qg0 (hw.loc j ob b fj hb).2.1).2.2 _ (ji hl);by_cases fg:j<i
     .exact⟨.inl (by have:=cr fg hb ht;simp only at g1;omega),SR.all_mono (ear_lt fg hb) r (g3 r rfl)⟩
     .have h:=(lat hb tb fg).1
      simp only[indT,Qb]at h;have h2:=Qc.1 h.2 _ (ji hl);simp only[Qb,Zc]at h2;exact⟨h2.1.imp jj Qf,h2.2⟩
def opTm:Operand->Option Nat
 |.tmp i=>some i
 |_=>none
def rdOf(l:List Oper)(o:Oper):List Nat:=o.op.operands.toList.filterMap opTm++match o.guard with
 |some (j,_)=>dstL (qxz l j)
 |none=>[]
def wpDr(E:Env)(N:Nat)(l:List Oper)(bxs:List Nat):Nat->List Oper->List Tr->(List Tr->Conf->Prop)->Conf->Prop
 |_,[],tr,K,C=>K tr C
 |i,o::r,tr,K,⟨sl,hp,nx⟩=>opG E N l bxs nx (rs (rdOf l o) sl) (hpF hp) (gdW (isGd i l) (fcE λe=>qis sl hp nx o.dst (wpDr E N l bxs (i+1) r (tr++[⟨rdOf l o,o.dst,e,nx⟩]) K) e)) o
theorem zdd(r:List Tr)(t:Tr):∀C,runT (r++[t]) C=(runT r C).app t.dst t.e:=by
 induction r with
 |nil=>exactλC=>rfl
 |cons a r ih=>exactλC=>ih _
theorem q4f{E:Env}{N:Nat}{l:List Oper}{bxs:List Nat}{C0:Conf}{K:List Tr->Conf->Prop}:∀{r:List Oper}{i:Nat}{tr:List Tr}{C:Conf},(∀k,r[k]?=l[i+k]?)->tr.length=i->i+r.length=l.length->C=runT tr C0->
  (∀j o t,l[j]?=some o->tr[j]?=some t->Loc E N l.toArray o t.nx (rs t.rd (runT (tr.take j) C0).sl) (hpF (runT (tr.take j) C0).hp) t.e∧t.e.wf t.nx=true∧t.nx=(runT (tr.take j) C0).nx∧t.dst=o.dst)->
  wpDr E N l bxs i r tr K C->∃tr',q4j E N l C0 tr'∧K tr' (runT tr' C0)
 | [],i,tr,C,hr,hl,hn,hC,hw,h=>⟨tr,⟨by simpa[hl]using hn,hw⟩,by rw[<-hC];exact h⟩
 |o::r,i,tr,⟨sl,hp,nx⟩,hr,hl,hn,hC,hw,h=>by
  obtain⟨e,hL,h⟩:=q0l h;obtain⟨e,hL,h⟩:=qtf hL h;rw[qs9]at h;obtain⟨hwf,h⟩:=qjo h
  .refine q4f (r:=r) (i:=i+1) (tr:=tr++[⟨rdOf l o,o.dst,e,nx⟩]) (λk=>?_) (by simp[hl]) (by simp at hn;omega) (by rw[zdd,<-hC]) (λj o' t ho ht=>?_) h
   .have:=hr (k+1)
    rw[show i+1+k=i+(k+1)by omega,<-this];rfl
   .by_cases hj:j<tr.length
    .rw[Qs hj]at ht
     rw[Zm Om];exact hw j o' t ho ht
    .have fg:j=tr.length:=by
      have:=lt_of_getElem? ht;simp at this;omega
     subst fg;simp only[List.getElem?_concat_length,Qa]at ht;subst ht;have dw:=hr 0;rw[<-hl,Zd,ho]at dw;simp only[Qp,Qa]at dw;subst dw;rw[Xi,<-hC];exact⟨hL,hwf,rfl,rfl⟩
def drB(E:Env)(l:List Oper)(tr:List Tr):Bool:=E.P.follows .mixedOrders&&l.toArray.all qfj&&qhi 0 l&&chkT 0 tr (ancs l [])
structure DrOk (E:Env) (l:List Oper) (tr:List Tr):Prop where
 ok:drB E l tr=true
theorem qb{E:Env}{rd:Option Nat}{N:Nat}{B:Bs}{Q:Exit->Conf->Prop}{C:Conf}{id:Nat}{ops:Array Oper}(bxs:List Nat)
  (h:wpDr E N ops.toList bxs 0 ops.toList [] (λtr C'=>DrOk E ops.toList tr∧Q .normal C') C):Sm E rd N B (.region id ops true) Q C:=⟨λs hs=>by
 obtain⟨tr,hw,hb,hq⟩:=q4f (C0:=C) (l:=ops.toList) (i:=0) (tr:=[]) (λk=>by rw[Qh]) rfl Sx rfl (λj o t _ ht=>by simp at ht) h;have hb:=hb.ok;simp only[drB,Qb]at hb;have e:ops=ops.toList.toArray:=Sx
 rw[e]
 exact q7f hb.1.1.1 hb.1.1.2 hb.1.2 hw hb.2 hs λs' bz=>⟨_,hq,bz⟩⟩
theorem cSd{P:Prop}(h:P:=by first|exact rfl|exact trivial|exactλ_=>rfl|exact zgu _|exact DrOk.mk Kr|exact qba λ_=>rfl|omega|(simp only[List.length_map,List.length_append,List.length_cons,List.length_nil,List.length_take,List.length_drop];omega)|exact zio):P:=h
theorem exr{α:Type}{A K:α->Prop}{a:α}(k:K a)(h:A a:=by exact rfl):∃x,A x∧K x:=⟨a,h,k⟩
theorem cpe{E:Env}{H:Nat->Option SR}{nx:Nat}{f:FuncId}{vs:List SV}{args:List AV}{r0:AV}{k:Ef->Prop}(hc:∀S,qm E f args S λr S'=>r=r0∧S'=S)(hk:k ⟨nf r0,SV.kss vs,[],nx⟩)(ha:qxy E.P f (frzs (resF (SV.kss vs) H) vs)=some args:=by exact rfl):∃e,qz E f vs nx H e∧k e:=⟨_,ze0 hc ha,hk⟩
end Go.Av
namespace Go.Proofs.YthnbabbhpeebbaaGreatDoor
open Go Go.Av Go.RowKit Go.Proofs Go.Pl
def qb3(n0:Nat)(ks:List Nat)(sl:List (Nat×SV))(hp:List (Nat×Option SR))(nx:Nat):Bool:=
 sl.all (λq=>q.2.all λk=>Qe k n0)&&hp.all (λq=>match q.2 with
  |some (.cells _ _)=>memN ks q.1
  |some (.own _ _ _)=>false
  |some (.obj _)=>memN ks q.1
  |some (.rows _ _ _)=>false
  |some (.clu _ _)=>false
  |_=>true)&&Qi n0 nx
def ksIn(n0:Nat)(ks:List Nat)(hp:List (Nat×Option SR)):Bool:=ks.all λk=>Qe k n0&&match lkS hp k with
 |some (some (.cells _ _))=>true
 |some (some (.obj _))=>true
 |_=>false
structure RB (E:Env) (N:Nat) (F:Nat->Prop) (ρ:Nat->AV) (n0:Nat) (body:Code) (Q:Exit->Conf->Prop) (C:Conf):Prop where
 run:∀S rd,Sm E rd N ⟨S,F,ρ,n0,False⟩ body Q C
structure RA (E:Env) (N:Nat) (n0:Nat) (asg:Code) (K:(Nat->Prop)->(Nat->AV)->Conf->Prop) (C:Conf):Prop where
 run:∀S F ρ rd,Sm E rd N ⟨S,F,ρ,n0,True⟩ asg (λe C1=>match e with
  |.normal=>∀F',K F' ρ C1
  |_=>False) C
def zd0(Q:Exit->Conf->Prop):Code->Conf->Prop
 |.ret=>Q .ret
 |.exit id=>Q (.exit id)
 |_=>λ_=>False
def qmo(k:Nat)(text rest:List UInt8):SV:=.ag [.i k,.i ((text.length:Int)-rest.length),.s (upto 10 rest),.p (10∈rest) inferInstance]
theorem zcd(k:Nat)(text rest:List UInt8)(ρ:Nat->AV):(qmo k text rest).ev ρ=qd5 k text rest:=rfl
@[reducible] def rndQ {X : Type} (n0 : Nat) (P : X → Prop) (D : Code → X → Prop) (C : X → Conf) (e : Exit) (C2 : Conf) : Prop := match e with
 |.normal=>∃x,P x∧EntA n0 C2 (C x)
 |.ret=>∃x,D .ret x∧EntA n0 C2 (C x)
 |.exit id=>∃x,D (.exit id) x∧EntA n0 C2 (C x)
 |_=>False
section
variable {N : Nat} {B : Bs} {C : Conf} {Q : Exit → Conf → Prop} {rd : Option Nat}
structure RInv (B:Bs) (n0 n:Nat) (ks:List Nat) (ρ1 t:Nat->AV) (df:List Nat) (C:Conf) (S:List AObj):Prop where
 ex:∃ρ,(∀k,k<n0->ρ k=ρ1 k)∧SatR B.S0 B.F C ρ t S∧(∀d∈df,S[d]?=some .dfr)∧n<=S.length
theorem qyx{n0 n:Nat}{ks:List Nat}{ρ1 ρ:Nat->AV}{hp:List (Nat×Option SR)}{sl:List (Nat×SV)}{nx k:Nat}{T:TypeId}{cs:List SV}(sd:∀k∈ks,k<n0∧∃o,qr (ρ1 k)=[o]∧o<n)(hr:qb3 n0 ks sl hp nx=true)(hρ:∀k,k<n0->ρ k=ρ1 k)(hk:hpF hp k=some (.cells T cs)):k<n0∧∃o,qr (ρ k)=[o]∧o<n:=by
 have h1:=vo hk;simp only[qb3,Qb]at hr;have:=Qc.1 hr.1.2 _ (ji h1);simp only at this;obtain⟨g1,g2⟩:=sd k (qre this);refine⟨g1,?_⟩;rw[hρ k g1];exact g2
theorem q9i{n0:Nat}{ks:List Nat}{sl:List (Nat×SV)}{hp:List (Nat×Option SR)}{nx k sz:Nat}{T:TypeId}{xs:List AV}(hr:qb3 n0 ks sl hp nx=true)(hk:hpF hp k=some (.own sz T xs)):False:=by
 have h1:=vo hk;simp only[qb3,Qb]at hr;have:=Qc.1 hr.1.2 _ (ji h1);simp at this
theorem q85{n0 n:Nat}{ks:List Nat}{ρ1 ρ:Nat->AV}{hp:List (Nat×Option SR)}{sl:List (Nat×SV)}{nx k:Nat}{P:AObj->AV->Prop}(sd:∀k∈ks,k<n0∧∃o,qr (ρ1 k)=[o]∧o<n)(hr:qb3 n0 ks sl hp nx=true)(hρ:∀k,k<n0->ρ k=ρ1 k)(hk:hpF hp k=some (.obj P)):k<n0∧∃o,qr (ρ k)=[o]∧o<n:=by
 have h1:=vo hk;simp only[qb3,Qb]at hr;have:=Qc.1 hr.1.2 _ (ji h1);simp only at this;obtain⟨g1,g2⟩:=sd k (qre this);refine⟨g1,?_⟩;rw[hρ k g1];exact g2
theorem q34{n0:Nat}{ks:List Nat}{sl:List (Nat×SV)}{hp:List (Nat×Option SR)}{nx k:Nat}{T2:TypeId}{ys2:List AV}{cs2:List SV}(hr:qb3 n0 ks sl hp nx=true)(hk:hpF hp k=some (.rows T2 ys2 cs2)):False:=by
 have h1:=vo hk;simp only[qb3,Qb]at hr;have:=Qc.1 hr.1.2 _ (ji h1);simp at this
theorem q7w{n0:Nat}{ks:List Nat}{sl:List (Nat×SV)}{hp:List (Nat×Option SR)}{nx k:Nat}{P:Clu}{vs:List SV}(hr:qb3 n0 ks sl hp nx=true)(hk:hpF hp k=some (.clu P vs)):False:=by
 have h1:=vo hk;simp only[qb3,Qb]at hr;have:=Qc.1 hr.1.2 _ (ji h1);simp at this
theorem RInv.ext{n0 n:Nat}{ks:List Nat}{ρ1 t:Nat->AV}{df:List Nat}{C:Conf}{S S':List AObj}(h:RInv B n0 n ks ρ1 t df C S)(sd:∀k∈ks,k<n0∧∃o,qr (ρ1 k)=[o]∧o<n)(hr:qb3 n0 ks C.sl C.hp C.nx=true)(hB:B.S0.length<=n)(hdn:∀d∈df,d<n)(hE:Ext n S S'):RInv B n0 n ks ρ1 t df C S':=by
 obtain⟨ρ,hρ,hR,hd,hn⟩:=h.ex;refine⟨ρ,hρ,⟨hR.sl,⟨λk r hk=>?_,hR.hp.sep⟩,hR.own,λj hj hF=>?_,Zj hR.len hE.len,hR.wsl,hR.whp⟩,λd tq=>?_,Zj hn hE.len⟩
 .refine SR.ok_of (f:=λ_=>true) (SR.all_mono (λ_ _=>rfl) r (hR.whp k r hk).2) (λ_ _=>rfl) (hR.hp.ok k r hk) λo ho=>?_
  rcases SR.ok_ct (hR.hp.ok k r hk) ho with⟨T,cs,v,h1,T',cs',rfl⟩|⟨m,sz,T,h1⟩|⟨sz,T,xs,rfl⟩|⟨P1,rfl⟩|⟨T2,ys2,cs2,rfl⟩|⟨P2,vs2,rfl⟩
  rotate_left 2
  .exact(q9i hr hk).elim
  .obtain⟨_,o',h2,h3⟩:=q85 sd hr hρ hk
   rw[h2,Qm]at ho;subst ho;exact hE.low _ h3
  .exact(q34 hr hk).elim
  .exact(q7w hr hk).elim
  .obtain⟨_,o',h2,h3⟩:=qyx sd hr hρ hk
   rw[h2,Qm]at ho;subst ho;exact hE.low _ h3
  .exact hE.tips _ _ _ _ h1
 .rw[hE.low j Om]
  exact hR.low j hj hF
 .rw[hE.low d (hdn d tq)]
  exact hd d tq
def evY{ι:Type}(Y:ι->Option (SV×ι))(i:ι):Option (AV×ι):=match Y i with
 |some (v,j)=>some (v.ev λ_=>zf,j)
 |none=>none
theorem q2u{X:Type}{f:Operand}{p:Tmp}{asg body:Code}{g:FuncId}{T:TypeId}{cs:List AV}{ι:Type}{Y:ι->Option (SV×ι)}{i0:ι}(hit:ItC g T cs (evY Y) i0)(a8:∀vs w,(callFunc g vs).run E.P w=.ok (.enter g vs) w)(hY:∀i v j,Y i=some (v,j)->v.all (λ_=>false)=true)(kb n0:Nat)(cv:List SV)(hcv:∀ρ,SV.evs ρ cv=cs)(ks:List Nat)(I:X->Conf)(sl0:List (Nat×SV))(P:ι->X->Prop)(D:Code->X->Prop)(x0:X)(h0:P i0 x0)
  (he:EntA B.n0 C (I x0)) (hz:¬B.dz) (px:∀x,(I x).sl=sl0)
  (hf:sval N sl0 f=some (.fn (.func g) [] [.bx kb 0]))
  (hkb:∀x,lkS (I x).hp kb=some (some (.cells T cv)))
  (hr:∀x,qb3 n0 ks (I x).sl (I x).hp (I x).nx=true) (h0r:(ksIn n0 ks (I x0).hp&&Qi B.n0 n0)=true)
  (hb:∀i x v j,P i x->Y i=some (v,j)->RA E N n0 asg (λF ρ C1=>RB E N F ρ n0 body (rndQ n0 (P j) D I) C1) ⟨(p,v)::(I x).sl,(I x).hp,(I x).nx⟩)
  (hn:∀i x,Y i=none->P i x->Q .normal (I x)) (hd:∀c x,D c x->zd0 Q c (I x)):Sm E none N B (.rangeFunc f #[p] asg body) Q C:=⟨λs hs=>by
 obtain⟨ts,S0,df⟩:=s;obtain⟨ρ0,hF0,hR0⟩:=hs;simp only at hF0 hR0;obtain⟨σ,mg,he⟩:=he.ent;have hF1:=hF0.ren (C':=I x0) mg;obtain⟨t,hw,hR1⟩:=he.sat hR0;clear hF0 hR0 he mg;generalize renR σ ρ0=ρ1 at hF1 hR1;refine qyp hw ?_;simp only[Qb]at h0r;have hBn:=Qf h0r.2;have hB:=hR1.len
 have sd:∀k∈ks,k<n0∧∃o,qr (ρ1 k)=[o]∧o<S0.length:=λk hk=>by
  have:=Qc.1 h0r.1 k hk;simp only[Qb]at this;refine⟨jj this.1,?_⟩;have h2:=this.2;split at h2
  .rename_i T cs hl
   have gv:hpF (I x0).hp k=some (.cells T cs):=by unfold hpF;rw[hl]
   obtain⟨o,v,h1,h3,rfl⟩:=hR1.hp.ok k _ gv;exact⟨o,by rw[h1];rfl,lt_of_getElem? h3⟩
  .rename_i P hl
   have gv:hpF (I x0).hp k=some (.obj P):=by unfold hpF;rw[hl]
   obtain⟨o,x,h1,h3,_⟩:=hR1.hp.ok k _ gv;exact⟨o,h1,lt_of_getElem? h3⟩
  .simp at h2
 have hdn:∀d∈df,d<S0.length:=λd hd=>lt_of_getElem? (hF1.dm d hd).1;have hi0:RInv B n0 S0.length ks ρ1 t df (I x0) S0:=⟨ρ1,λ_ _=>rfl,hR1,λd hd=>(hF1.dm d hd).1,Qj _⟩
 have hnm:∀x,(sl0.all λq=>q.2.all λk=>Qe k n0)=true:=λx=>by
  have:=hr x;simp only[qb3,Qb,px]at this;exact this.1.1
 have hnm:=hnm x0
 have slot:∀{ρ:Nat->AV},(∀k,k<n0->ρ k=ρ1 k)->SlOk ρ t sl0:=λ{ρ}hρ d v hd=>by
  rw[hR1.sl d v (by rw[px];exact hd)];exact(xe (λk hk=>hρ k (jj hk)) v (Qc.1 hnm _ (ji hd))).symm
 have hnx:∀x,n0<=(I x).nx:=λx=>by
  have:=hr x;simp only[qb3,Qb]at this;exact Qf this.2
 have hkb1:kb<n0∧∃o,ρ1 kb=.bx o 0 0∧o<S0.length:=by
  have h1:=hr x0;simp only[qb3,Qb]at h1;have:=Qc.1 h1.1.2 _ (ji (hkb x0));have gv:hpF (I x0).hp kb=some (.cells T cv):=by unfold hpF;rw[hkb x0]
  obtain⟨o,v,h1,h3,rfl⟩:=hR1.hp.ok kb _ gv;exact⟨(sd kb (qre this)).1,o,h1,lt_of_getElem? h3⟩
 obtain⟨hkbn,okb,hokb,hokl⟩:=hkb1;have hfe:=qs (S:=S0) (df:=df) (slot λ_ _=>rfl) hf;simp only[SV.ev,SV.evs,hokb,bxAt]at hfe
 have out:∀{x S},RInv B n0 S0.length ks ρ1 t df (I x) S->S[S0.length]?=some .dfr->SatC B (I x) ⟨t,S,S0.length::df⟩:=λ{x S}hi hm=>by
  obtain⟨ρ,hρ,hR,tq,hnS⟩:=hi.ex;refine⟨ρ,⟨λd hd=>?_,Xd.2 ⟨λh=>Nat.lt_irrefl _ (hdn _ h),hF1.nd⟩,λk hk=>(hρ k Om).trans (hF1.rig k hk),Zj hBn (hnx x),λh=>(hz h).elim⟩,hR⟩;rcases Xk.1 hd with rfl|hd
  .exact⟨hm,hB⟩
  .exact⟨tq d hd,(hF1.dm d hd).2⟩
 refine qyo (S0:=S0) hit rfl hfe a8
  (λi S=>∃x,P i x∧RInv B n0 S0.length ks ρ1 t df (I x) S) (λc S=>∃x,D c x∧RInv B n0 S0.length ks ρ1 t df (I x) S) ⟨x0,h0,hi0⟩ ?_ ?_ ?_ ?_ ?_ ?_
 .rintro i S ⟨x,_,hi⟩
  obtain⟨ρ,hρ,hR,_⟩:=hi.ex;have gv:hpF (I x).hp kb=some (.cells T cv):=by unfold hpF;rw[hkb x]
  obtain⟨o,v,h1,h3,rfl⟩:=hR.hp.ok kb _ gv;rw[hρ kb hkbn,hokb]at h1;simp only[AV.bx.injEq]at h1;obtain⟨rfl,_⟩:=h1;rw[hcv]at h3;exact h3
 .rintro i S S' hE ⟨x,hx,hi⟩
  exact⟨x,hx,hi.ext sd (hr x) hB hdn hE⟩
 .rintro c S S' hE ⟨x,hx,hi⟩
  exact⟨x,hx,hi.ext sd (hr x) hB hdn hE⟩
 .rintro F own rd i u j S hF ⟨x,hx,hi⟩ hy dv hm1 rp
  obtain⟨v,hv,hu⟩:∃v,Y i=some (v,j)∧u=v.ev λ_=>zf:=by
   unfold evY at hy;split at hy
   .rename_i v j2 hv
    simp only[Qa,Qr]at hy;obtain⟨rfl,rfl⟩:=hy;exact⟨v,hv,rfl⟩
   .simp at hy
  subst hu;have hva:=hY i v j hv;obtain⟨ρ,hρ,hR,tq,hnS⟩:=hi.ex
  -- what no resource's place is
  have qdb:∀o y,S[o]?=some y->S0.length<=o->(∀m sz T,y≠.tip m sz T)->¬yh (I x).hp ρ o:=λo y hy ho hyt ⟨k,r,hk,hl⟩=>by
   rcases SR.ok_ct (hR.hp.ok k r hk) hl with⟨T,cs,v,h1,T',cs',rfl⟩|⟨m,sz,T,h1⟩|⟨sz,T,xs,rfl⟩|⟨P1,rfl⟩|⟨T2,ys2,cs2,rfl⟩|⟨P2,vs2,rfl⟩
   rotate_left 2
   .exact(q9i (hr x) hk).elim
   .obtain⟨_,o',h2,h3⟩:=q85 sd (hr x) hρ hk
    rw[h2,Qm]at hl;omega
   .exact(q34 (hr x) hk).elim
   .exact(q7w (hr x) hk).elim
   .obtain⟨_,o',h2,h3⟩:=qyx sd (hr x) hρ hk
    rw[h2,Qm]at hl;omega
   .rw[h1]at hy
    simp only[Qa]at hy;exact hyt _ _ _ hy.symm
  have a0:=qdb _ _ dv Om (λ_ _ _=>by simp);have a1:=qdb _ _ hm1 Om (λ_ _ _=>by rw[hF];simp);have a2:=λk y hk=>qdb _ _ (rp k y hk).1 Om (λm sz T e=>(rp k y hk).2 m sz T (by rw[e]));have ad:∀d∈df,¬yh (I x).hp ρ d:=λd hd ⟨k,r,hk,hl⟩=>SR.ok_dfr (hR.hp.ok k r hk) hl (tq d hd);have l2:=lt_of_getElem? hm1
  have s1:=((hb i x v j hx hv).run S (yh (I x).hp ρ) ρ1 rd).run ⟨put t p (v.ev λ_=>zf),S,[]⟩
   ⟨ρ,⟨nofun,Zg,hρ,hnx x,λ_=>rfl⟩,?_⟩
  rotate_left
  .have db:=hR.rebase (S':=S) λ_ _=>rfl
   refine⟨λd v hd=>?_,db.hp,db.own,db.low,db.len,λd v hd=>?_,db.whp⟩
   .simp only[lkS]at hd
    cases sb:Ql p d with
    |true=>
     rw[sb]at hd;simp only[cond_true,Qa]at hd;have e:=Qd sb;subst e hd;simp only[put];rw[xe (f:=λ_=>false) (ρ:=λ_=>zf) (ρ':=ρ) (λk hk=>by simp at hk) v hva]
     simp
    |false=>
     rw[sb]at hd;have e:d≠p:=λe=>by subst e;simp at sb
     have:=db.sl d v hd;simp only[put];rw[show Ql d p=false from zq e];exact this
   .simp only[lkS]at hd
    cases sb:Ql p d with
    |true=>
     rw[sb]at hd;simp only[cond_true,Qa]at hd;subst hd
     exact all_mono (f:=λ_=>false) (λk hk=>by simp at hk) v hva
    |false=>
     rw[sb]at hd;exact db.wsl d _ hd
  refine s1.mono λe s1 ⟨C1,hq,hs1⟩=>?_
  cases e with
  |normal=>
   obtain⟨ρs,hFs,hRs⟩:=hs1;have hdf1:=hFs.dz trivial;have b1:s1.st[S0.length+1]?=some (F .ready none):=(hRs.low _ (by simp only;omega) a1).trans hm1;refine⟨b1,hdf1,?_⟩;have hq:=(hq (yh C1.hp ρs)).run (s1.st.set (S0.length+1) (F .busy none)) (some rd)
   have c0:∀o,o<S.length->¬yh (I x).hp ρ o->¬yh C1.hp ρs o:=λo ho hn ⟨k,r,hk,hl⟩=>by
    rcases hRs.own k r hk o hl with h|h
    .simp only at h
     omega
    .exact hn h
   have hRb:=hRs.rebase (S':=s1.st.set (S0.length+1) (F .busy none)) λo ho=>Qn λe=>c0 (S0.length+1) Om a1 (by rw[e];exact ho);refine(hq.run ⟨s1.t,s1.st.set (S0.length+1) (F .busy none),[]⟩ ⟨ρs,⟨nofun,Zg,hFs.rig,hFs.le,nofun⟩,hRb⟩).mono λe s2 ⟨C2,bw,hs2⟩=>?_;obtain⟨ρ2,hF2,s8⟩:=hs2;have dp:=hRs.len
   have keep:∀o y,o≠S0.length+1->S[o]?=some y->¬yh (I x).hp ρ o->s2.st[o]?=some y:=λo y d7 hy hn=>by
    have ho:=lt_of_getElem? hy;rw[s8.low o (by simp only[Qq];simp only at dp;omega) (c0 o ho hn)];simp only;rw[Qn (λe=>d7 e.symm),hRs.low o ho hn];exact hy
   have k0:=keep _ _ Om dv a0;have k2:∀k y,own[k]?=some y->s2.st[S0.length+2+k]?=some y:=λk y hk=>keep _ _ Om (rp k y hk).1 (a2 k y hk)
   have k1:s2.st[S0.length+1]?=some (F .busy none):=by
    rw[s8.low _ (by simp only[Qq];simp only at dp;omega) (c0 _ Om a1)];simp only;exact ke b1
   have fin:∀x',EntA n0 C2 (I x')->RInv B n0 S0.length ks ρ1 t df (I x') s2.st:=λx' mv=>by
    obtain⟨σ2,hrg2,he2⟩:=mv.ent;have hF3:=hF2.ren (C':=I x') hrg2;obtain⟨t3,_,lv⟩:=he2.sat s8;have hl3:=lv.len;simp only[Qq]at hl3;simp only at dp;refine⟨_,hF3.rig,⟨by rw[px];exact slot hF3.rig,lv.hp,λk r hk o ho=>?_,λj hj hnj=>?_,Om,lv.wsl,lv.whp⟩,λd hd=>?_,Om⟩
    .rcases lv.own k r hk o ho with h|⟨k',r',h,h'⟩
     .simp only[Qq]at h
      exact .inl Om
     .rcases hRs.own k' r' h o h' with h|⟨k2,r2,h2,h3⟩
      .simp only at h
       exact .inl Om
      .exact hR.own k2 r2 h2 o h3
    .have hj0:¬yh (I x).hp ρ j:=λ⟨k',r',h,h'⟩=>by
      rcases hR.own k' r' h j h' with h|h
      .omega
      .exact hnj h
     have hjS:j<S.length:=Om
     rw[<-hR.low j hj hnj];obtain⟨y,hy⟩:∃y,S[j]?=some y:=⟨_,Qk hjS⟩;rw[hy];exact keep j y Om hy hj0
    .exact keep d _ (by have:=hdn d hd;omega) (tq d hd) (ad d hd)
   cases e with
   |normal=>
    obtain⟨x',g9,mv⟩:=bw
    exact⟨k0,k1,k2,x',g9,fin x' mv⟩
   |ret=>
    obtain⟨x',g9,mv⟩:=bw
    exact⟨k0,k1,k2,x',g9,fin x' mv⟩
   |exit id=>
    obtain⟨x',g9,mv⟩:=bw
    exact⟨k0,k1,k2,x',g9,fin x' mv⟩
   |_=>exact bw.elim
  |_=>exact hq.elim
 .rintro i S hy ⟨x,hx,hi⟩ hm
  exact⟨I x,hn i x (by
   unfold evY at hy;split at hy
   .simp at hy
   .assumption) hx,out hi hm⟩
 .rintro c S ⟨x,hx,hi⟩ hm
  have hq:=hd c x hx
  cases c with
  |ret=>exact q7 ⟨I x,hq,out hi hm⟩
  |exit id=>exact wd ⟨I x,hq,out hi hm⟩
  |_=>exact hq.elim⟩
theorem qgt{X:Type}{f:Operand}{p:Tmp}{asg body:Code}(text:List UInt8)(kb n0:Nat)(ks:List Nat)(I:X->Conf)(sl0:List (Nat×SV))(P:Nat->List UInt8->X->Prop)(D:Code->X->Prop)(x0:X)(h0:P 0 text x0)
  (he:EntA B.n0 C (I x0)) (hz:¬B.dz) (ht:text.length<4294967281) (px:∀x,(I x).sl=sl0)
  (hf:sval N sl0 f=some (.fn (.func 183) [] [.bx kb 0]))
  (hkb:∀x,lkS (I x).hp kb=some (some (.cells 9 [.s text])))
  (hr:∀x,qb3 n0 ks (I x).sl (I x).hp (I x).nx=true) (h0r:(ksIn n0 ks (I x0).hp&&Qi B.n0 n0)=true)
  (hb:∀k rest x,P k rest x->rest≠[]->rest.length<=text.length->RA E N n0 asg (λF ρ C1=>RB E N F ρ n0 body (rndQ n0 (P (k+1) (past 10 rest)) D I) C1) ⟨(p,qmo k text rest)::(I x).sl,(I x).hp,(I x).nx⟩)
  (hn:∀k x,P k [] x->Q .normal (I x)) (hd:∀c x,D c x->zd0 Q c (I x)):Sm E none N B (.rangeFunc f #[p] asg body) Q C:=by
 have hY:evY (λ(q:Nat×List UInt8)=>if q.2=[]∨text.length<q.2.length then none else some (qmo q.1 text q.2,(q.1+1,past 10 q.2)))=qoz text:=by
  funext ⟨k,rest⟩;by_cases h:rest=[]∨text.length<rest.length
  .simp[evY,qoz,h]
  .simp[evY,qoz,h,zcd]
 refine q2u (Y:=λ(q:Nat×List UInt8)=>if q.2=[]∨text.length<q.2.length then none else some (qmo q.1 text q.2,(q.1+1,past 10 q.2))) (i0:=(0,text)) (by rw[hY];exact zdj text ht) Tryz.call183 (λi v j h=>?_) kb n0 [.s text] (λ_=>rfl) ks I sl0 (λi x=>P i.1 i.2 x∧i.2.length<=text.length) D x0 ⟨h0,Qj _⟩ he hz px hf hkb hr h0r (λi x v j hp h=>?_) (λi x h hp=>?_) hd
 .split at h
  .simp at h
  .simp only[Qa,Qr]at h
   obtain⟨rfl,_⟩:=h;rfl
 .split at h
  .simp at h
  .rename_i d7
   simp only[Qa,Qr]at h;obtain⟨rfl,rfl⟩:=h;have hb:=hb i.1 i.2 x hp.1 (λe=>d7 (.inl e)) hp.2;have hp2:=ku 10 i.2
   exact⟨λS F ρ rd=>⟨λs hs=>((hb.run S F ρ rd).run s hs).mono λe s' ⟨C',hq,bz⟩=>⟨C',by
    cases e with
    |normal=>exactλF'=>⟨λS rd=>qru ((hq F').run S rd) λe C2 bw=>by
      cases e with
      |normal=>obtain⟨x,h1,h2⟩:=bw;exact⟨x,⟨h1,by simp only;have:=hp.2;omega⟩,h2⟩
      |_=>exact bw⟩
    |_=>exact hq,bz⟩⟩⟩
 .split at h
  .rename_i he
   have:i.2=[]:=he.elim id λh=>by have:=hp.2;omega
   refine hn i.1 x ?_;rw[<-this];exact hp.1
  .simp at h
end
theorem qm7{nx:Nat}{H:Nat->Option SR}(text:qa):qz E 143 [.s text] nx H ⟨.fn (.func 183) [] [.bx nx 0],[],[(nx,some (.cells 9 [.s text]))],nx+1⟩:=λρ S hS=>by
 refine(qvi text S _ S.length rfl rfl).mono λr S' ⟨hr,hs⟩=>⟨upd ρ nx (.bx S.length 0 0),?_,?_⟩
 .rw[hr]
  simp only[SV.ev,SV.evs,zi,bxAt]
 .subst hs
  have key:∀k r',chF [(nx,some (SR.cells 9 [.s text]))] (resF [] H) k=some r'->k=nx∧r'=.cells 9 [.s text]:=λk r' hk=>by
   simp only[chF,lkS]at hk
   cases hb:Ql nx k with
   |true=>
    rw[hb]at hk;simp only[cond_true,Qa]at hk
    exact⟨(Qd hb).symm,hk.symm⟩
   |false=>
    rw[hb]at hk;simp[resF,memN]at hk
  refine⟨λk hk=>jq _ _ (by simp only at hk;omega),⟨λk r hk=>?_,λk k' r r' d7 h1 h2=>?_⟩,Sx,λj hj _=>Qs hj,λk r hk o ho=>?_⟩
  .obtain⟨rfl,rfl⟩:=key _ _ hk
   exact⟨S.length,0,zi _ _ _,by simp[SV.evs,SV.ev],rfl⟩
  .obtain⟨rfl,_⟩:=key _ _ h1
   obtain⟨rfl,_⟩:=key _ _ h2;exact absurd rfl d7
  .obtain⟨rfl,_⟩:=key _ _ hk
   rw[zi]at ho;simp only[qr,Qm]at ho;subst ho;exact .inl (Qj _)
end Go.Proofs.YthnbabbhpeebbaaGreatDoor
namespace Go.Av
open Go Go.RowKit
def q9(hp:List (Nat×Option SR)):List (Nat×Option SR):=hp.map λq=>(q.1,none)
def retS(P:Program)(fn:Func)(nx0:Nat)(r:SV)(p8:List (Nat×Option SR))(nx1:Nat)(e:Exit)(C:Conf):Prop:=
 match e with
 |.normal=>(match resV P fn.ntmps C fn.results.toList with
  |some v=>v.all (λk=>Qe k C.nx)=true∧EntA nx0 ⟨[(0,v)],C.hp,C.nx⟩ ⟨[(0,r)],p8,nx1⟩
  |none=>False)
 |.ret=>(match resV P fn.ntmps C fn.results.toList with
  |some v=>v.all (λk=>Qe k C.nx)=true∧EntA nx0 ⟨[(0,v)],C.hp,C.nx⟩ ⟨[(0,r)],p8,nx1⟩
  |none=>False)
 |_=>False
theorem q5w{hp:List (Nat×Option SR)}{k:Nat}{r:SR}(h:hpF hp k=some r):memN (q8 hp) k=true:=by
 have:=ji (vo h);exact Qu.2 ⟨k,Zp.2 ⟨_,this,rfl⟩,Sx⟩
theorem jb(hp:List (Nat×Option SR)):resF (q8 hp) (hpF hp)=hpF hp:=by
 funext k;unfold resF
 cases h:memN (q8 hp) k with
 |true=>rfl
 |false=>
  cases h2:hpF hp k with
  |none=>rfl
  |some r=>rw[q5w h2]at h;simp at h
theorem qwn:∀(hp:List (Nat×Option SR))(k:Nat),lkS (q9 hp) k=none∧lkS hp k=none∨lkS (q9 hp) k=some none
 | [],_=>.inl ⟨rfl,rfl⟩
 |(i,x)::r,k=>by
  simp only[q9,Za,lkS]
  cases hb:Ql i k with
  |true=>exact .inr rfl
  |false=>exact qwn r k
theorem x3(i7 p8:List (Nat×Option SR)):chF (p8++q9 i7) (hpF i7)=hpF p8:=by
 funext k;unfold chF;rw[qbu];unfold hpF
 cases h:lkS p8 k with
 |some r=>rfl
 |none=>
  simp only;rcases qwn i7 k with⟨h1,h2⟩|h1
  .rw[h1,h2]
  .rw[h1]
theorem je{E:Env}{f:FuncId}{fn:Func}{c:Code}(vs:List SV)(i7:List (Nat×Option SR))(nx0:Nat)(r:SV)(p8:List (Nat×Option SR))(nx1:Nat)(hf:E.P.funcs[f]?=some fn)(hb:fn.body=some c)(hn:Qi vs.length fn.ntmps=true)
  (hc:okC ⟨zl 0 vs,i7,nx0⟩=true) (mt:okC ⟨[(0,r)],p8,nx1⟩=true)
  (h:∀S F ρ,numK 0 vs λsl=>Sm E none fn.ntmps ⟨S,F,ρ,nx0,False⟩ c (retS E.P fn nx0 r p8 nx1) ⟨sl,i7,nx0⟩):qz E f vs nx0 (hpF i7) ⟨r,q8 i7,p8++q9 i7,nx1⟩:=λρ S hS=>by
 simp only[qfk]at h;simp only[jb]at hS;have b9:(SV.evs ρ vs).length=vs.length:=by rw[zw,Xf]
 refine qq hf hb (by rw[b9];exact Qf hn) ?_;rw[Zb];simp only[okC,Qb]at hc mt
 have hwhp:∀k r,hpF i7 k=some r->k<nx0∧r.all (λk=>Qe k nx0)=true:=λk r hk=>by
  have:=Qc.1 hc.2 _ (ji (vo hk));simp only[Qb]at this;exact⟨jj this.1,this.2⟩
 have d9:SatC ⟨S,yh i7 ρ,ρ,nx0,False⟩ ⟨zl 0 vs,i7,nx0⟩ ⟨argT (SV.evs ρ vs),S,[]⟩:=by
  refine⟨ρ,⟨nofun,Zg,λ_ _=>rfl,Qj _,nofun⟩,⟨λd v hd=>?_,hS,λk r hk o ho=>.inr ⟨k,r,hk,ho⟩,λ_ _ _=>rfl,Qj _,λd v hd=>?_,hwhp⟩⟩
  .obtain⟨j,h1,h2⟩:=xo hd
   have:(SV.evs ρ vs)[j]?=some (v.ev ρ):=by rw[zw,Qg,h2];rfl
   rw[h1,Qh];simp only[argT,Qx,this,Qy]
  .exact Qc.1 hc.1 _ (ji hd)
 refine((h S (yh i7 ρ) ρ).run _ d9).mono λe s' ⟨C',hq,bz⟩=>?_;obtain⟨t,S',df⟩:=s';obtain⟨ρ2,i5,hR⟩:=bz;simp only at i5 hR
 have fin:(match resV E.P fn.ntmps C' fn.results.toList with
  |some v=>v.all (λk=>Qe k C'.nx)=true∧EntA nx0 ⟨[(0,v)],C'.hp,C'.nx⟩ ⟨[(0,r)],p8,nx1⟩
  |none=>False)->ARet E fn (λr' S'=>∃ρ',r'=r.ev ρ'∧qa9 ρ S nx0 (hpF i7) ⟨r,q8 i7,p8++q9 i7,nx1⟩ ρ' S') ⟨t,S',df⟩:=λh=>by
  split at h
  .rename_i v hv
   obtain⟨hva,he⟩:=h;obtain⟨σ,mg,he⟩:=he.ent;refine qbf hR i5.dm i5.nd λS2 s8=>?_
   have lv:SatR S (yh i7 ρ) ⟨[(0,v)],C'.hp,C'.nx⟩ ρ2 (λ_=>v.ev ρ2) S2:=
    ⟨λd u hd=>by
     simp only[lkS]at hd
     cases hb:Ql 0 d with
     |true=>rw[hb]at hd;simp only[cond_true,Qa]at hd;rw[hd]
     |false=>rw[hb]at hd;simp[lkS]at hd,s8.hp,s8.own,s8.low,s8.len,λd u hd=>by
     simp only[lkS]at hd
     cases hb:Ql 0 d with
     |true=>rw[hb]at hd;simp only[cond_true,Qa]at hd;rw[<-hd];exact hva
     |false=>rw[hb]at hd;simp[lkS]at hd,s8.whp⟩
   obtain⟨t',hw,u7⟩:=he.sat lv
   have nq:∀k,k<nx0->renR σ ρ2 k=ρ k:=λk hk=>by
    simp only[Qb]at mg;unfold renR;rw[qgs mg.1 k hk];exact i5.rig k hk
   have hrn:nx0<=nx1:=by
    simp only[Qb]at mg;exact Qf mg.2
   generalize renR σ ρ2=ρ3 at u7 nq;have h0:t' 0=r.ev ρ3:=u7.sl 0 r rfl;have hwk:=hw 0;rw[h0]at hwk
   let ρ':Nat->AV:=λk=>bif Qi nx1 k then ρ k else ρ3 k
   have hρ':∀k,Qe k nx1=true->ρ' k=ρ3 k:=λk hk=>by
    show(bif Qi nx1 k then ρ k else ρ3 k)=_
    have:Qi nx1 k=false:=by
     cases hb:Qi nx1 k with
     |false=>rfl
     |true=>have:=Qf hb;have:=jj hk;omega
    rw[this];rfl
   have hra:r.all (λk=>Qe k nx1)=true:=Qc.1 mt.1 (0,r) Sx;have fx:r.ev ρ'=r.ev ρ3:=xe hρ' r hra;refine qo rfl (vh (qlp s8 hv) hwk) ⟨ρ',fx.symm,?_⟩
   have lq:∀k r,hpF p8 k=some r->ρ' k=ρ3 k∧r.all (λk=>Qe k nx1)=true:=λk r hk=>by
    obtain⟨g1,g2⟩:=u7.whp k r hk;exact⟨hρ' k (xd g1),g2⟩
   refine⟨λk hk=>?_,?_,u7.len,λj hj hn=>?_,λk r hk o ho=>?_⟩
   .show(bif Qi nx1 k then ρ k else ρ3 k)=_
    cases hb:Qi nx1 k with
    |true=>rfl
    |false=>
     rcases hk with hk|hk
     .exact nq k hk
     .have:=Qw hk
      simp only at this;rw[this]at hb;simp at hb
   .simp only[jb,x3]
    refine⟨λk r hk=>?_,λk k' r r' d7 h1 h2 o ho=>?_⟩
    .obtain⟨g1,g2⟩:=lq k r hk
     rw[g1];exact SR.ok_of g2 hρ' (u7.hp.ok k r hk) λ_ _=>rfl
    .rw[(lq k r h1).1]at ho
     rw[(lq k' r' h2).1];exact u7.hp.sep k k' r r' d7 h1 h2 o ho
   .simp only[jb]at hn
    exact u7.low j hj λ⟨k,r,hk,hl⟩=>hn k r hk hl
   .simp only[jb,x3]at hk⊢
    rw[(lq k r hk).1]at ho;exact u7.own k r hk o ho
  .exact h.elim
 cases e with
 |normal=>exact fin hq
 |ret=>exact fin hq
 |_=>exact hq.elim
def newN:Nat->Nat->Nat->List (Nat×Nat)
 |_,_,0=>[]
 |a,b,m+1=>(a,b)::newN (a+1) (b+1) m
theorem qz9:∀(m a b k:Nat),lkS (newN a b m) k=if a<=k∧k<a+m then some (b+(k-a))else none
 |0,a,b,k=>by rw[if_neg Om];rfl
 |m+1,a,b,k=>by
  simp only[newN,lkS];by_cases h:a=k
  .subst h
   simp
  .rw[zq h,qz9 m]
   simp only[cond_false];by_cases h2:a+1<=k∧k<a+1+m
   .rw[if_pos h2,if_pos Om]
    congr 1;omega
   .rw[if_neg h2,if_neg Om]
def nmOf(σ:List (Nat×Nat))(k:Nat):Nat:=match lkS σ k with
 |some j=>j
 |none=>0
def SR.ren(σ:List (Nat×Nat)):SR->SR
 |.cells T cs=>.cells T (SV.rens σ cs)
 |.tip sz T xs=>.tip sz T xs
 |.own sz T xs=>.own sz T xs
 |.obj P=>.obj P
 |.clu P vs=>.clu P (SV.rens σ vs)
 |.rows T ys cs=>.rows T ys (SV.rens σ cs)
def renO(σ:List (Nat×Nat)):Option SR->Option SR
 |some r=>some (r.ren σ)
 |none=>none
def renH(σ:List (Nat×Nat)):List (Nat×Option SR)->List (Nat×Option SR)
 | []=>[]
 |(k,r)::l=>(nmOf σ k,renO σ r)::renH σ l
def fltH(ks:List Nat):List (Nat×Option SR)->List (Nat×Option SR)
 | []=>[]
 |(k,r)::l=>bif memN ks k then(k,r)::fltH ks l else fltH ks l
def outH(ks:List Nat):List (Nat×Option SR):=ks.map λk=>(k,none)
def qma:List Nat->Bool
 | []=>true
 |k::r=> !memN r k&&qma r
theorem q3u(ks:List Nat):∀(hp:List (Nat×Option SR))(k:Nat),lkS (fltH ks hp) k=bif memN ks k then lkS hp k else none
 | [],k=>by simp only[fltH,lkS];cases memN ks k<;>rfl
 |(i,r)::l,k=>by
  have ih:=q3u ks l k;simp only[fltH];by_cases e:i=k
  .subst e
   cases hm:memN ks i with
   |true=>simp[lkS]
   |false=>rw[hm]at ih;simp only[cond_false]at ih⊢;exact ih
  .cases hm:memN ks i with
   |true=>simp only[cond_true,lkS,zq e,cond_false];exact ih
   |false=>simp only[cond_false,lkS,zq e];exact ih
theorem q3s(ks:List Nat)(hp:List (Nat×Option SR)):hpF (fltH ks hp)=resF ks (hpF hp):=by
 funext k;unfold hpF resF;rw[q3u]
 cases memN ks k<;>rfl
theorem q3w{σ:List (Nat×Nat)}:∀{hp:List (Nat×Option SR)}{j:Nat}{rr:SR},lkS (renH σ hp) j=some (some rr)->∃k r,(k,some r)∈hp∧nmOf σ k=j∧rr=r.ren σ
 | [],j,rr,h=>by simp[renH,lkS]at h
 |(k,r)::l,j,rr,h=>by
  simp only[renH,lkS]at h
  cases hb:Ql (nmOf σ k) j with
  |true=>
   rw[hb]at h;simp only[cond_true,Qa]at h
   cases r with
   |none=>simp[renO]at h
   |some r=>
    simp only[renO,Qa]at h
    exact⟨k,r,Sx,Qd hb,h.symm⟩
  |false=>
   rw[hb]at h;obtain⟨k',r',h1,h2,h3⟩:=q3w h;exact⟨k',r',Zt _ h1,h2,h3⟩
theorem qv4:∀{hp:List (Nat×Option SR)}{k:Nat}{r:SR},qma (q8 hp)=true->(k,some r)∈hp->hpF hp k=some r
 | [],k,r,_,h=>by simp at h
 |(i,x)::l,k,r,hd,h=>by
  simp only[q8,Za,qma,Qb]at hd;unfold hpF;simp only[lkS];rcases Xk.1 h with e|e
  .simp only[Qr]at e
   obtain⟨rfl,rfl⟩:=e;simp
  .have d7:i≠k:=λe'=>by
    subst e';have:memN (List.map Xr l) i=true:=Qu.2 ⟨i,Zp.2 ⟨_,e,rfl⟩,Sx⟩;rw[this]at hd;simp at hd
   rw[zq d7];exact qv4 hd.2 e
theorem q3v:∀(ks:List Nat)(j:Nat),lkS (outH ks) j=bif memN ks j then some none else none
 | [],j=>rfl
 |k::r,j=>by
  have ih:=q3v r j;simp only[outH,Za,lkS,memN,Zv];by_cases e:k=j
  .subst e;simp
  .rw[zq e,zq (λh=>e h.symm)]
   exact ih
theorem q0e{α:Type}:∀{l:List α}{i0 i:Nat}{v:α},l[i]?=some v->lkS (zl i0 l) (i0+i)=some v
 | [],_,_,_,h=>by simp at h
 |x::r,i0,0,v,h=>by
  simp only[Qp,Qa]at h;subst h
  simp[zl,lkS]
 |x::r,i0,i+1,v,h=>by
  simp only[zl,lkS];rw[zq Om,show i0+(i+1)=i0+1+i by omega];exact q0e (by simpa using h)
theorem q7x{E:Env}{f:FuncId}{vs0:List SV}{i7:List (Nat×Option SR)}{nx0:Nat}{r:SV}{p8:List (Nat×Option SR)}{nx1:Nat}(h:qz E f vs0 nx0 (hpF i7) ⟨r,q8 i7,p8++q9 i7,nx1⟩)
  (σ:List (Nat×Nat)) {ln:List (Nat×Option SR)} {vs:List SV} {nx:Nat} (hl:vs.length=vs0.length) (hc:okC ⟨zl 0 vs,fltH (σ.map Ze) ln,nx⟩=true)
  (he:EntC σ ⟨zl 0 vs,fltH (σ.map Ze) ln,nx⟩ ⟨zl 0 vs0,i7,nx0⟩) (mt:okC ⟨[(0,r)],p8,nx1⟩=true)
  (hk:(qma (q8 p8)&&p8.all (λq=>(lkS (newN nx0 nx (nx1-nx0)++σ) q.1).isSome)&&σ.all (λq=>Qe q.1 nx0&&Qe q.2 nx)&&Qi nx0 nx1)=true):
  qz E f vs nx (hpF ln) ⟨r.ren (newN nx0 nx (nx1-nx0)++σ),σ.map Ze,renH (newN nx0 nx (nx1-nx0)++σ) p8++outH (σ.map Ze),nx+(nx1-nx0)⟩:=λρ S hS=>by
 simp only at hS;simp only[Qb]at hk;obtain⟨⟨⟨hd,hsm⟩,hσ⟩,hn⟩:=hk;have hn:=Qf hn;simp only[okC,Qb]at hc mt;generalize sd:σ.map Ze=ks at hS hc he⊢;obtain⟨m,hm⟩:∃m,m=nx1-nx0:=⟨_,rfl⟩;rw[<-hm]at hsm⊢
 have hR:SatR S (yh (fltH ks ln) ρ) ⟨zl 0 vs,fltH ks ln,nx⟩ ρ (argT (SV.evs ρ vs)) S:=by
  refine⟨λd v hd=>?_,by simp only[q3s];exact hS,λk r hk o ho=>.inr ⟨k,r,hk,ho⟩,λ_ _ _=>rfl,Qj _,λd v hd=>Qc.1 hc.1 _ (ji hd),λk r hk=>?_⟩
  .obtain⟨j,h1,h2⟩:=xo hd
   have:(SV.evs ρ vs)[j]?=some (v.ev ρ):=by rw[zw,Qg,h2];rfl
   rw[h1,Qh];simp only[argT,Qx,this,Qy]
  .have:=Qc.1 hc.2 _ (ji (vo hk))
   simp only[Qb]at this;exact⟨jj this.1,this.2⟩
 obtain⟨t',hw,rj⟩:=he.sat hR;have gw:∀k j,lkS σ k=some j->renR σ ρ k=ρ j:=λk j e=>by unfold renR;rw[e]
 have hrn:∀k,lkS σ k=none->renR σ ρ k=zf:=λk e=>by unfold renR;rw[e]
 -- where a canonical resource lies
 have foot:∀k r,hpF i7 k=some r->∀o,o∈qr (renR σ ρ k)->∃j r',resF ks (hpF ln) j=some r'∧o∈qr (ρ j):=λk r hk o ho=>by
  have hE:=qgi he.2.1 (vo hk);simp only[q3s]at hE;unfold entR at hE
  cases hl:lkS σ k with
  |none=>
   rw[hrn k hl]at ho
   simp[qr]at ho
  |some j=>
   rw[gw k j hl]at ho;rw[hl]at hE
   cases hj:resF ks (hpF ln) j with
   |none=>cases r<;>(simp only[hj]at hE)
   |some r'=>exact⟨j,r',hj,ho⟩
 have hS0:SatF S (renR σ ρ) (hpF i7):=rj.hp;refine qx3 (ys:=SV.evs (renR σ ρ) vs0) (by simp[zw,hl]) (λi x y hx hy=>?_) ((h (renR σ ρ) S (by simp only[jb];exact hS0)).mono λr' S' ⟨ρc,hr,hp⟩=>?_)
 .have h1:=hw i
  simp only[zw,Qg]at hy hx
  cases hv:vs0[i]?with
  |none=>rw[hv]at hy;simp at hy
  |some v=>
   rw[hv]at hy;simp only[Option.map_some,Qa]at hy;have h2:=rj.sl i v (by have:=q0e (i0:=0) hv;rwa [Qh]at this);rw[h2,hy]at h1;have:argT (SV.evs ρ vs) i=x:=by simp only[argT,Qx,zw,Qg,hx,Qy]
   rw[this]at h1;exact h1
 .let ρ':Nat->AV:=λj=>bif Qi nx j&&Qe j (nx+m)then ρc (nx0+(j-nx))else ρ j
  have e9:∀j,(j<nx∨nx+m<=j)->ρ' j=ρ j:=λj hj=>by
   show(bif Qi nx j&&Qe j (nx+m)then ρc (nx0+(j-nx))else ρ j)=ρ j
   have:(Qi nx j&&Qe j (nx+m))=false:=by
    cases hb:(Qi nx j&&Qe j (nx+m))with
    |false=>rfl
    |true=>
     simp only[Qb]at hb;have h1:=Qf hb.1;have h2:=jj hb.2;omega
   rw[this];rfl
  have r9:∀i,i<m->ρ' (nx+i)=ρc (nx0+i):=λi hi=>by
   show(bif Qi nx (nx+i)&&Qe (nx+i) (nx+m)then ρc (nx0+(nx+i-nx))else ρ (nx+i))=_
   have h1:Qi nx (nx+i)=true:=Qw Om;have h2:Qe (nx+i) (nx+m)=true:=xd Om;rw[h1,h2,show nx+i-nx=i by omega];rfl
  have hσj:∀k j,lkS σ k=some j->k<nx0∧j<nx:=λk j e=>by
   have:=Qc.1 hσ _ (ji e);simp only[Qb]at this;exact⟨jj this.1,jj this.2⟩
  have hro:∀k,k<nx0->ρc k=renR σ ρ k:=λk hk=>hp.old k (.inl hk)
  have key:∀k,k<nx1->renR (newN nx0 nx m++σ) ρ' k=ρc k:=λk hk=>by
   have e:renR (newN nx0 nx m++σ) ρ' k=match lkS (newN nx0 nx m++σ) k with|some j=>ρ' j|none=>zf:=rfl
   rw[e,qbu,qz9];by_cases r8:nx0<=k
   .rw[if_pos ⟨r8,Om⟩]
    simp only;rw[r9 _ Om,show nx0+(k-nx0)=k by omega]
   .rw[if_neg Om,hro k Om]
    simp only
    cases hl:lkS σ k with
    |none=>rw[hrn k hl]
    |some j=>
     rw[gw k j hl];exact e9 j (.inl (hσj k j hl).2)
  have keyj:∀k,k<nx1->(lkS (newN nx0 nx m++σ) k).isSome=true->ρ' (nmOf (newN nx0 nx m++σ) k)=ρc k:=λk hk hs=>by
   rw[<-key k hk];unfold renR nmOf
   cases hl:lkS (newN nx0 nx m++σ) k with
   |none=>rw[hl]at hs;simp at hs
   |some j=>rfl
  have res:∀j rr,chF (renH (newN nx0 nx m++σ) p8++outH ks) (resF ks (hpF ln)) j=some rr->∃k r,hpF p8 k=some r∧nmOf (newN nx0 nx m++σ) k=j∧rr=r.ren (newN nx0 nx m++σ)∧ρ' j=ρc k∧r.all (λk=>Qe k nx1)=true:=λj rr hj=>by
   unfold chF at hj;rw[qbu]at hj
   cases hl:lkS (renH (newN nx0 nx m++σ) p8) j with
   |some x=>
    rw[hl]at hj;simp only at hj;subst hj;obtain⟨k,r,h1,h2,h3⟩:=q3w hl;have h4:=Qc.1 mt.2 _ h1;simp only[Qb]at h4;have h5:=Qc.1 hsm _ h1;refine⟨k,r,qv4 hd h1,h2,h3,?_,h4.2⟩;rw[<-h2]
    exact keyj k (jj h4.1) h5
   |none=>
    rw[hl]at hj;simp only[q3v]at hj
    cases hmm:memN ks j with
    |true=>rw[hmm]at hj;simp at hj
    |false=>
     rw[hmm]at hj;simp[resF,hmm]at hj
  have hra:r.all (λk=>Qe k nx1)=true:=Qc.1 mt.1 (0,r) Sx;refine⟨ρ',?_,λk hk=>e9 k hk,⟨λj rr hj=>?_,λj j' rr rr' d7 h1 h2 o ho=>?_⟩,hp.len,λj hj hnj=>?_,λj rr hj o ho=>?_⟩
  .rw[hr]
   simp only;rw[qt5];exact(xe (λk hk=>key k (jj hk)) r hra).symm
  .obtain⟨k,r0,h1,h2,rfl,h4,h5⟩:=res j rr hj
   rw[h4];have cd:=hp.sat;simp only[jb,x3]at cd;have hok:=cd.ok k r0 h1
   cases r0 with
   |cells T cs=>
    obtain⟨o,v,g1,g2,g3⟩:=hok;refine⟨o,v,g1,?_,g3⟩;rw[qb9,wy (λk hk=>key k (jj hk)) cs h5]
    exact g2
   |tip sz T xs=>exact hok
   |own sz T xs=>exact hok
   |obj P=>exact hok
   |clu P vs=>
    show P.ok _ _ (SV.evs _ (SV.rens _ vs))
    rw[qb9,wy (λk hk=>key k (jj hk)) vs h5]
    exact hok
   |rows T ys cs=>
    show OwnS _ 1 T (ys++SV.evs _ (SV.rens _ cs)) _
    rw[qb9,wy (λk hk=>key k (jj hk)) cs h5];exact hok
  .obtain⟨k,r0,h3,h4,_,h5,_⟩:=res j rr h1
   obtain⟨k',r0',h3',h4',_,h5',_⟩:=res j' rr' h2;rw[h5]at ho;rw[h5'];have cd:=hp.sat;simp only[jb,x3]at cd;exact cd.sep k k' r0 r0' (λe=>d7 (by rw[<-h4,<-h4',e])) h3 h3' o ho
  .refine hp.fr j hj λk r0 hk cz=>?_
   simp only[jb]at hk;obtain⟨j',r',g1,g2⟩:=foot k r0 hk j cz;exact hnj j' r' g1 g2
  .obtain⟨k,r0,h1,h2,_,h4,_⟩:=res j rr hj
   rw[h4]at ho;have hlc:=hp.loc k r0 (by simp only[jb,x3];exact h1) o ho;rcases hlc with g|⟨k',r',g1,g2⟩
   .exact .inl g
   .simp only[jb]at g1
    obtain⟨j',r'',g3,g4⟩:=foot k' r' g1 o g2;exact .inr ⟨j',r'',g3,g4⟩
def useW(vs0:List SV)(i7:List (Nat×Option SR))(nx0:Nat)(r:SV)(p8:List (Nat×Option SR))(nx1:Nat)(ln:List (Nat×Option SR))(vs:List SV)(nx:Nat)(k:Ef->Prop):Prop:=
 fcP (addS [] (prsL vs0 vs)) λa=>fcP (addS a (sigH (hpF ln) a i7)) λσ=>
  vs.length=vs0.length∧okC ⟨zl 0 vs,fltH (σ.map Ze) ln,nx⟩=true∧EntC σ ⟨zl 0 vs,fltH (σ.map Ze) ln,nx⟩ ⟨zl 0 vs0,i7,nx0⟩∧okC ⟨[(0,r)],p8,nx1⟩=true∧
   (qma (q8 p8)&&p8.all (λq=>(lkS (newN nx0 nx (nx1-nx0)++σ) q.1).isSome)&&σ.all (λq=>Qe q.1 nx0&&Qe q.2 nx)&&Qi nx0 nx1)=true∧
   k ⟨r.ren (newN nx0 nx (nx1-nx0)++σ),σ.map Ze,renH (newN nx0 nx (nx1-nx0)++σ) p8++outH (σ.map Ze),nx+(nx1-nx0)⟩
theorem qx{E:Env}{f:FuncId}{vs0:List SV}{i7:List (Nat×Option SR)}{nx0:Nat}{r:SV}{p8:List (Nat×Option SR)}{nx1:Nat}(h:qz E f vs0 nx0 (hpF i7) ⟨r,q8 i7,p8++q9 i7,nx1⟩){ln:List (Nat×Option SR)}{vs:List SV}{nx:Nat}{k:Ef->Prop}
  (hw:useW vs0 i7 nx0 r p8 nx1 ln vs nx k):∃e,qz E f vs nx (hpF ln) e∧k e:=by
 unfold useW at hw;simp only[qta]at hw;obtain⟨h1,h2,h3,h4,h5,h6⟩:=hw;exact⟨_,q7x h _ h1 h2 h3 h4 h5,h6⟩
theorem zec{l m:List AV}(hl:l.length=m.length)(h:∀(i:Nat)(x y:AV),l[i]?=some x->m[i]?=some y->Wk x y):Wk (.pp l) (.pp m):=λG v hr=>by
 cases hr with
 |pp _ b off pub hp b9 hr=>
  refine .pp m b off pub hp Om λi y z hy hz=>?_;have hi:i<l.length:=by have:=lt_of_getElem? hy;omega
  have hx:l[i]?=some l[i]:=Qk hi;exact h i _ y hx hy G z (hr i _ z hx hz)
theorem qym{E:Env}{fn:Func}{R:AV->List AObj->Prop}{s:AS}{d o ver:Nat}{T:TypeId}{cs xs:List AV}(hi:s.t d=.bx o ver 0)(ho:s.st[o]?=some (.cells ver T cs))(hw:Wk (.pp cs) (.pp xs))
  (h:ARet E fn R ⟨Av.put s.t d (.pp xs),s.st.set o .dead,s.df⟩):ARet E fn R s:=
 ⟨λB0 w0 G a w hL hI R2 hR=>by
  obtain⟨G1,h1,h2⟩:=hI.pub hi ho;refine h.run B0 w0 G1 a w hL ⟨h2.agree,h2.defers,h2.size,λj y hy=>?_⟩ R2 λv G' r st' w' hG=>hR v G' r st' w' (h1.trans hG);have hj:=h2.tmps j y hy;by_cases e:j=d
  .subst e
   simp only[xh]at hj⊢;exact hw G1 y hj
  .simp only at hj⊢
   rw[qai _ _ _ _ e]at hj⊢
   exact hj⟩
theorem q7a{E:Env}{fn:Func}{R:AV->List AObj->Prop}{s:AS}{d o ver o2 ver2 sz cap:Nat}{T T2:TypeId}{cs xs ys pad:List AV}(hi:s.t d=.bx o ver 0)(ho:s.st[o]?=some (.cells ver T cs))(dw:s.st[o2]?=some (.cells ver2 T2 (flat ys++pad)))(d7:o≠o2)(hw:∀y∈ys,y.cells.length=sz)(hc:ys.length<=cap)(hl:cs.length=xs.length)
  (hx:∀(i:Nat)(x y:AV),cs[i]?=some x->xs[i]?=some y->Wk x y∨(x=.os o2 ver2 0 ys.length cap∧y=.sl sz ys none)) (h:ARet E fn R ⟨Av.put s.t d (.pp xs),(s.st.set o .dead).set o2 .dead,s.df⟩):ARet E fn R s:=
 ⟨λB0 w0 G a w hL hI R2 hR=>by
  obtain⟨G1,h1,h2⟩:=hI.pub hi ho;have ho3:(s.st.set o .dead)[o2]?=some (.cells ver2 T2 (flat ys++pad)):=(Qn d7).trans dw;obtain⟨vs,d8,hA,hv,hp,lk,hr⟩:=h2.agree.pubOb ho3;refine h.run B0 w0 _ a w hL ⟨hA,h2.defers_mono d8,h2.size,λj y hy=>?_⟩ R2 λv G' r st' w' hG=>hR v G' r st' w' (h1.trans (d8.trans hG));have hj:=(h2.tmps j y hy).mono d8;by_cases e:j=d
  .subst e
   simp only[xh]at hj⊢
   cases hj with
   |pp _ b off pub hp2 b9 m8=>
    refine .pp xs b off pub hp2 Om λi z u hz hu=>?_;have hi:i<cs.length:=by have:=lt_of_getElem? hz;omega
    have hg:cs[i]?=some cs[i]:=Qk hi;have hrl:=m8 i _ u hg hu;rcases hx i _ z hg hz with hw1|⟨e1,rfl⟩
    .exact hw1 _ _ hrl
    .rw[e1]at hrl
     cases hrl with
     |os _ _ _ _ bl _ hn dx hb=>
      have hb:=hb hv;subst hb;refine .sl sz ys none _ 0 cap vs hp hw (by rw[<-lk];simp) (λk x y g1 g2=>hr k x y (by rw[Qs (lt_of_getElem? g1)];exact g1) (by simpa using g2)) (λt ht=>by simp at ht) hc
  .simp only at hj⊢
   rw[qai _ _ _ _ e]at hj⊢
   exact hj⟩
theorem zek{E:Env}{fn:Func}{R:AV->List AObj->Prop}{s:AS}{d o ver sz cap:Nat}{T:TypeId}{ys pad:List AV}(hi:s.t d=.os o ver 0 ys.length cap)(ho:s.st[o]?=some (.cells ver T (flat ys++pad)))(hw:∀y∈ys,y.cells.length=sz)(hc:ys.length<=cap)
  (h:ARet E fn R ⟨Av.put s.t d (.sl sz ys none),s.st.set o .dead,s.df⟩):ARet E fn R s:=
 ⟨λB0 w0 G a w hL hI R2 hR=>by
  obtain⟨G1,h1,h2⟩:=hI.osPub (xs:=ys) (sz:=sz) hi ho rfl hc hw (by rw[Qo,jh hw];omega) (by rw[List.drop_zero,<-jh hw,Xi])
  exact h.run B0 w0 G1 a w hL h2 R2 λv G' r st' w' hG=>hR v G' r st' w' (h1.trans hG)⟩
def q9h(H:Nat->Option SR):SV->Option (Nat×Nat×List AV)
 |.tp k=>(match H k with
  |some (.own sz _ ys)=>some (k,sz,ys)
  |_=>none)
 |_=>none
def qtv(H:Nat->Option SR):List SV->Option (Nat×Nat×List AV)
 | []=>none
 |c::r=>(match q9h H c with
  |some x=>some x
  |none=>qtv H r)
theorem q0q{H:Nat->Option SR}{j sz:Nat}{ys:List AV}:∀{cs:List SV},qtv H cs=some (j,sz,ys)->∃T,H j=some (.own sz T ys)
 | [],h=>by simp[qtv]at h
 |c::r,h=>by
  simp only[qtv]at h;split at h
  .rename_i x hx
   simp only[Qa]at h;subst h;unfold q9h at hx;split at hx
   .split at hx
    .rename_i hk
     simp only[Qa,Qr]at hx;obtain⟨rfl,rfl,rfl⟩:=hx;exact⟨_,hk⟩
    .simp at hx
   .simp at hx
  .exact q0q (cs:=r) h
def frzJ(H:Nat->Option SR)(j sz:Nat)(ys:List AV):List SV->Option (List AV)
 | []=>some []
 |c::r=>(match(match c with
   |.tp k=>bif Ql k j then some (.sl sz ys none)else frz H (.tp k)
   |c=>frz H c),frzJ H j sz ys r with
  |some x,some l=>some (x::l)
  |_,_=>none)
theorem q3p{S:List AObj}{ρ:Nat->AV}{H:Nat->Option SR}(hS:SatF S ρ H){j sz:Nat}{ys:List AV}:∀(cs:List SV)(xs:List AV),frzJ H j sz ys cs=some xs->(SV.evs ρ cs).length=xs.length∧∀(i:Nat)(x y:AV),(SV.evs ρ cs)[i]?=some x->xs[i]?=some y->Wk x y∨(x=tpAt (ρ j)∧y=.sl sz ys none)
 | [],xs,h=>by simp only[frzJ,Qa]at h;subst h;exact⟨rfl,by simp[SV.evs]⟩
 |c::r,xs,h=>by
  simp only[frzJ]at h;split at h
  .rename_i x l h1 h2
   simp only[Qa]at h;subst h;obtain⟨g1,g2⟩:=q3p hS r l h2;refine⟨by simp[SV.evs,g1],λi a b ha hb=>?_⟩
   cases i with
   |zero=>
    simp only[SV.evs,Qp,Qa]at ha hb;subst ha;subst hb;split at h1
    .rename_i k
     cases hkj:Ql k j with
     |true=>
      rw[hkj]at h1;simp only[cond_true,Qa]at h1;rw[Qd hkj]
      exact .inr ⟨rfl,h1.symm⟩
     |false=>
      rw[hkj]at h1;exact .inl (qjh hS _ _ h1)
    .exact .inl (qjh hS _ _ h1)
   |succ i=>exact g2 i a b (by simpa[SV.evs]using ha) (by simpa using hb)
  .simp at h
def pubK(k:Conf->Prop):List ResultVar->Conf->Prop
 | [],C=>k C
 |.tmp t::r,C=>(match lkS C.sl t with
  |some (.bx b 0)=>(match hpF C.hp b with
   |some (.cells _ cs)=>(match qtv (hpF C.hp) cs with
    |some (j,sz,ys)=>(match frzJ (hpF C.hp) j sz ys cs with
     |some xs=>pubK k r ⟨(t,.a (.pp xs))::C.sl,(j,none)::(b,none)::C.hp,C.nx⟩
     |none=>pubK k r C)
    |none=>(match frzs (hpF C.hp) cs with
     |some xs=>pubK k r ⟨(t,.a (.pp xs))::C.sl,(b,none)::C.hp,C.nx⟩
     |none=>pubK k r C))
   |_=>pubK k r C)
  |some (.tp b)=>(match hpF C.hp b with
   |some (.own sz _ ys)=>pubK k r ⟨(t,.a (.sl sz ys none))::C.sl,(b,none)::C.hp,C.nx⟩
   |_=>pubK k r C)
  |_=>pubK k r C)
 |_::r,C=>pubK k r C
theorem SatR.drop{S0:List AObj}{F:Nat->Prop}{C:Conf}{ρ t:Nat->AV}{S:List AObj}(h:SatR S0 F C ρ t S){b o:Nat}{q:SR}(hb:hpF C.hp b=some q)(ho:∀o',o'∈qr (ρ b)->o'=o)(hd:o∈qr (ρ b)∨S.set o .dead=S):
  SatR S0 F ⟨C.sl,(b,none)::C.hp,C.nx⟩ ρ t (S.set o .dead):=by
 have i8:∀k r,hpF ((b,none)::C.hp) k=some r->k≠b∧hpF C.hp k=some r:=λk r hk=>by
  unfold hpF at hk⊢;simp only[lkS]at hk;by_cases e:b=k
  .subst e;simp at hk
  .rw[zq e]at hk
   exact⟨λh=>e h.symm,hk⟩
 rcases hd with hd|hd
 .refine⟨h.sl,⟨λk r hk=>?_,λk k' r r' d7 hk bn=>h.hp.sep k k' r r' d7 (i8 k r hk).2 (i8 k' r' bn).2⟩,λk r hk=>h.own k r (i8 k r hk).2,λj hj hF=>?_,by simpa using h.len,h.wsl,λk r hk=>h.whp k r (i8 k r hk).2⟩
  .obtain⟨d7,hk⟩:=i8 k r hk
   refine SR.ok_of (f:=λ_=>true) (SR.all_mono (λ_ _=>rfl) r (h.whp k r hk).2) (λ_ _=>rfl) (h.hp.ok k r hk) λj hj=>?_;have:o≠j:=λe=>h.hp.sep b k _ r (λe=>d7 e.symm) hb hk o hd (e▸hj);rw[Qn this]
  .have:o≠j:=λe=>by
    rcases h.own b _ hb o hd with g|g
    .omega
    .exact hF (e▸g)
   rw[Qn this];exact h.low j hj hF
 .rw[hd]
  exact⟨h.sl,⟨λk r hk=>h.hp.ok k r (i8 k r hk).2,λk k' r r' d7 hk bn=>h.hp.sep k k' r r' d7 (i8 k r hk).2 (i8 k' r' bn).2⟩,λk r hk=>h.own k r (i8 k r hk).2,h.low,h.len,h.wsl,λk r hk=>h.whp k r (i8 k r hk).2⟩
theorem SatR.slot{S0:List AObj}{F:Nat->Prop}{C:Conf}{ρ t:Nat->AV}{S:List AObj}(h:SatR S0 F C ρ t S)(d:Nat){y:AV}:SatR S0 F ⟨(d,.a y)::C.sl,C.hp,C.nx⟩ ρ (Av.put t d y) S:=by
 refine⟨λx v hx=>?_,h.hp,h.own,h.low,h.len,λx v hx=>?_,h.whp⟩
 .simp only[lkS]at hx
  by_cases e:d=x
  .subst e
   simp at hx;subst hx;exact xh _ _ _
  .rw[zq e]at hx
   simp only[cond_false]at hx;exact(qai _ _ _ _ (λh=>e h.symm)).trans (h.sl x v hx)
 .simp only[lkS]at hx
  by_cases e:d=x
  .subst e
   simp at hx;subst hx;rfl
  .rw[zq e]at hx
   exact h.wsl x v hx
theorem SatR.pub{S0:List AObj}{F:Nat->Prop}{C:Conf}{ρ t:Nat->AV}{S:List AObj}(h:SatR S0 F C ρ t S){d b o:Nat}{T:TypeId}{cs:List SV}{xs:List AV}(hb:hpF C.hp b=some (.cells T cs))(ho:qr (ρ b)=[o]):
  SatR S0 F ⟨(d,.a (.pp xs))::C.sl,(b,none)::C.hp,C.nx⟩ ρ (Av.put t d (.pp xs)) (S.set o .dead):=
 (h.drop hb (λo' e7=>by rw[ho,Qm]at e7;exact e7) (.inl (by rw[ho];simp))).slot d
theorem zel{E:Env}{fn:Func}{R:AV->List AObj->Prop}{s:AS}{d:Nat}{x r:AV}(hi:s.t d=x)(hw:Wk x r)(h:ARet E fn R ⟨Av.put s.t d r,s.st,s.df⟩):ARet E fn R s:=
 ⟨λB0 w0 G a w hL hI R2 hR=>h.run B0 w0 G a w hL ⟨hI.agree,hI.defers,hI.size,λj y hy=>by
  have hj:=hI.tmps j y hy;by_cases e:j=d
  .subst e
   simp only[xh];rw[hi]at hj;exact hw G y hj
  .simp only
   rw[qai _ _ _ _ e]
   exact hj⟩ R2 hR⟩
theorem qat{E:Env}{fn:Func}{R:AV->List AObj->Prop}{S0:List AObj}{F:Nat->Prop}{ρ:Nat->AV}{k:Conf->Prop}(hk:∀C t S,k C->SatR S0 F C ρ t S->ARet E fn R ⟨t,S,[]⟩):∀{l:List ResultVar}{C:Conf}{t:Nat->AV}{S:List AObj},pubK k l C->SatR S0 F C ρ t S->ARet E fn R ⟨t,S,[]⟩
 | [],C,t,S,h,hR=>hk C t S h hR
 |.cell _ _::r,C,t,S,h,hR=>qat hk (l:=r) h hR
 |.tmp d::r,C,t,S,h,hR=>by
  simp only[pubK]at h;split at h
  .rename_i b hd
   split at h
   .rename_i T cs hb
    obtain⟨o,v,e1,e2,e3⟩:=hR.hp.ok b _ hb;have ht:=hR.sl d _ hd;simp only[SV.ev,e1,bxAt]at ht;split at h
    .rename_i j sz ys hj
     split at h
     .rename_i xs hx
      obtain⟨T2,hj⟩:=q0q hj;obtain⟨w1,w2⟩:=q3p hR.hp cs xs hx;have hbj:b≠j:=λe=>by subst e;rw[hb]at hj;simp at hj
      have hP:=hR.pub (d:=d) (xs:=xs) hb (by rw[e1];rfl)
      have hj2:hpF ((b,none)::C.hp) j=some (.own sz T2 ys):=by
       unfold hpF at hj⊢;simp only[lkS,zq hbj,cond_false];exact hj
      rcases hR.hp.ok j _ hj with⟨rfl,f1⟩|⟨o2,ver2,cap,pad,f1,f2,f3,f4,f5,f6⟩
      .refine qym ht e2 (zec w1 λi x y hx hy=>?_) (qat hk (l:=r) h ?_)
       .rcases w2 i x y hx hy with g|⟨g1,g2⟩
        .exact g
        .subst g1 g2
         unfold tpAt;rw[f1.one];exact f1.wk sz
       .have:=hP.drop (o:=S.length) hj2 (λo' e7=>by rw[f1.loc]at e7;simp at e7) (.inr (Qv Sx))
        rwa [Qv Sx]at this
      .have d7:o≠o2:=λe=>hR.hp.sep b j _ _ hbj hb hj o (by rw[e1];simp[qr]) (by rw[f1,e];simp[qr])
       refine q7a ht e2 f2 d7 f4 f5 w1 (λi x y hx hy=>?_) (qat hk (l:=r) h (hP.drop hj2 (λo' e7=>?_) (.inl (by rw[f1];simp[qr]))))
       .rcases w2 i x y hx hy with g|⟨g1,g2⟩
        .exact .inl g
        .exact .inr ⟨by rw[g1,f1];rfl,g2⟩
       .rw[f1]at e7
        simpa[qr]using e7
     .exact qat hk (l:=r) h hR
    .split at h
     .rename_i xs hx
      obtain⟨w1,w2⟩:=qfh hR.hp cs xs hx;exact qym ht e2 (zec w1 w2) (qat hk (l:=r) h (hR.pub hb (by rw[e1];rfl)))
     .exact qat hk (l:=r) h hR
   .exact qat hk (l:=r) h hR
  .rename_i b hd
   split at h
   .rename_i sz T ys hb
    have ht:=hR.sl d _ hd;have hok:=hR.hp.ok b _ hb;simp only[SV.ev,qnc hok]at ht;rcases hok with⟨rfl,f1⟩|⟨o,ver,cap,pad,f1,f2,f3,f4,f5,f6⟩
    .have hP:=hR.drop (o:=S.length) hb (λo' e7=>by rw[f1.loc]at e7;simp at e7) (.inr (Qv Sx))
     rw[Qv Sx]at hP;exact zel ht (f1.wk sz) (qat hk (l:=r) h (hP.slot d))
    .rw[f1]at ht
     have hP:=hR.drop (o:=o) hb (λo' e7=>by rw[f1]at e7;simpa[qr]using e7) (.inl (by rw[f1];simp[qr]));exact zek ht f2 f4 f5 (qat hk (l:=r) h (hP.slot d))
   .exact qat hk (l:=r) h hR
  .exact qat hk (l:=r) h hR
def retP(P:Program)(fn:Func)(r0:AV)(e:Exit)(C:Conf):Prop:=
 match e with
 |.normal=>pubK (λC=>ansW P fn C λy=>Tl y r0) fn.results.toList C
 |.ret=>pubK (λC=>ansW P fn C λy=>Tl y r0) fn.results.toList C
 |_=>False
theorem qrn{E:Env}{f:FuncId}{fn:Func}{c:Code}{args:List AV}{st:List AObj}{r0:AV}(vs:List SV)(hp:Pure r0)(hf:E.P.funcs[f]?=some fn)(hb:fn.body=some c)(hn:Qi args.length fn.ntmps=true)(hv:∀ρ,SV.evs ρ vs=args)(hc:okC ⟨zl 0 vs,[],0⟩=true)
  (h:∀S0,numK 0 vs λsl=>Sm E none fn.ntmps ⟨S0,λ_=>False,λ_=>zf,0,False⟩ c (retP E.P fn r0) ⟨sl,[],0⟩):qm E f args st λr st'=>r=r0∧st'=st:=by
 simp only[qfk]at h;refine ze hp (qq hf hb (Qf hn) ?_)
 have d9:SatC ⟨st++[],λ_=>False,λ_=>zf,0,False⟩ ⟨zl 0 vs,[],0⟩ ⟨argT args,st++[],[]⟩:=by
  refine⟨λ_=>zf,⟨nofun,Zg,λ_ _=>rfl,Qj _,nofun⟩,⟨λd v hd=>?_,⟨λk r hk=>?_,λk k' r r' _ hk=>?_⟩,λk r hk=>?_,λ_ _ _=>rfl,Qj _,λd v hd=>?_,λk r hk=>?_⟩⟩
  .obtain⟨j,h1,h2⟩:=xo hd
   have:args[j]?=some (v.ev λ_=>zf):=by rw[<-hv λ_=>zf,zw,Qg,h2];rfl
   rw[h1,Qh];simp only[argT,Qx,this,Qy]
  .simp[hpF,lkS]at hk
  .simp[hpF,lkS]at hk
  .simp[hpF,lkS]at hk
  .simp only[okC,Qb]at hc
   exact Qc.1 hc.1 _ (ji hd)
  .simp[hpF,lkS]at hk
 refine((h (st++[])).run _ d9).mono λe s' ⟨C',hq,bz⟩=>?_;obtain⟨t,S,df⟩:=s';obtain⟨ρ,i5,hR⟩:=bz;simp only at i5 hR
 have fin:pubK (λC=>ansW E.P fn C λy=>Tl y r0) fn.results.toList C'->ARet E fn (λr st2=>r=r0∧∃ext,st2=st++ext) ⟨t,S,df⟩:=λh=>by
  refine qbf hR (λx hx=>i5.dm x hx) i5.nd λS' rj=>?_;refine qat (λC t S h rj=>?_) h rj;obtain⟨y,h1,h2⟩:=qul rj h;refine qo rfl (vh h1 h2.ok) ⟨rfl,?_⟩;have hl:=rj.len;rw[Zb]at hl
  exact qme hl λk hk=>by
   have:=rj.low k (by simpa using hk) (λh=>h);rw[Zb]at this;exact this
 cases e with
 |normal=>exact fin hq
 |ret=>exact fin hq
 |_=>exact hq.elim
section
variable {E : Env} {N : Nat} {ops : Array Oper} {nx : Nat} {sl : List (Nat × SV)} {H : Nat → Option SR} {k : Ef → Prop} {d : Option Tmp} {T : TypeId} {p : String} {af : Array Edge}
theorem qrl{t e e':TypeId}{x y:Operand}{b sz i:Nat}{agg:Bool}{xs:List AV}{kd:IntKind}{v:SV}(hx:sval N sl x=some (.tp b))(hH:H b=some (.own sz e xs))(hy:sval N sl y=some v)(hv:qez v=some (kd,(i:Int)))(he:elT (E.P.underlying t)=some e')(ht:tyOf E.P e'=some (sz,agg))(hi:i<xs.length)
  (h:k ⟨.bx b (0+i*sz),[b],[],nx⟩):∃e,Loc E N ops ⟨d,.indexAddr t x y,T,p,af,none⟩ nx sl H e∧k e:=by
 refine⟨_,w6 (v:=.bx b (0+i*sz)) λdf rd K rest ρ t' S hs hS hk=>?_,h⟩;rcases hS.ok b _ ((z8 b).trans hH)with⟨rfl,_⟩|⟨o,ver,cap,pad,e1,e2,_⟩
 .simp at hi
 .refine qia (o:=o) (ver:=ver) (off:=0) (len:=xs.length) (cp:=cap+1) ((qs hs hx).trans (by simp[SV.ev,e1,tpAt,AV.one])) ((qs hs hy).trans (qbt hv ρ)) (qbg he) ht rfl hi ?_
  simpa only[SV.ev,e1,bxAt]using hk
theorem qwe{sz i j sz':Nat}{agg:Bool}{xs pad:List AV}{z r:AV}(hw:∀x∈xs,x.cells.length=sz)(hz:xs[i]?=some z)(hr:jy sz' agg j z.cells=some r)(hj:j+sz'<=sz)(h1:agg=false->0<sz'):jy sz' agg (0+i*sz+j) (flat xs++pad)=some r:=by
 have hg:=q4b (pad:=pad) hw hz;have hzl:=hw z (Qz hz)
 have b9:i*sz+sz<=(flat xs++pad).length:=by
  have:=congrArg List.length hg;simp only[Xc,List.length_drop]at this;have h1:i*sz<=xs.length*sz:=Zk _ (by have:=lt_of_getElem? hz;omega);have h2:(flat xs++pad).length=xs.length*sz+pad.length:=by rw[Qo,jh hw]
  omega
 unfold jy at hr⊢;rw[Qh]
 cases agg with
 |true=>
  simp only[cond_true]at hr⊢;have b1:Qi (i*sz+j+sz') (flat xs++pad).length=true:=Qw Om;have b2:Qi (j+sz') z.cells.length=true:=Qw Om;rw[b2]at hr;rw[b1];simp only[cond_true]at hr⊢;rw[<-hr,<-hg];congr 2;apply Zn;intro q;simp only[List.getElem?_take,Zw];by_cases hq:q<sz'
  .rw[if_pos hq,if_pos hq,if_pos Om]
   congr 1;omega
  .rw[if_neg hq,if_neg hq]
 |false=>
  simp only[cond_false]at hr⊢;have:=h1 rfl;rw[<-hr,<-hg,List.getElem?_take_of_lt Om,Zw]
theorem q0s{t e:TypeId}{x:Operand}{b off sz i j sz':Nat}{agg:Bool}{xs:List AV}{z r:AV}(hx:sval N sl x=some (.bx b off))(hH:H b=some (.own sz e xs))(ht:tyOf E.P t=some (sz',agg))(ho:off=0+i*sz+j)(hz:xs[i]?=some z)(hr:jy sz' agg j z.cells=some r)(hj:(Qi (j+sz') sz&&(agg||Qe 0 sz'))=true)
  (h:k ⟨nf r,[b],[],nx⟩):∃e,Loc E N ops ⟨d,.load t x,T,p,af,none⟩ nx sl H e∧k e:=by
 simp only[Qb,Zc]at hj;refine⟨_,w6 (v:=nf r) λdf rd K rest ρ t' S hs hS hk=>?_,h⟩;rcases hS.ok b _ ((z8 b).trans hH)with⟨rfl,_⟩|⟨o,ver,cap,pad,e1,e2,e3,e4,_⟩
 .simp at hz
 .subst ho
  refine kh (o:=o) (ver:=ver) (off:=0+i*sz+j) ((qs hs hx).trans (by simp only[SV.ev,e1,bxAt])) e2 ht (qwe e4 hz hr (Qf hj.1) λe=>?_) (by rw[<-qmt ρ r];exact hk);rcases hj.2 with h|h
  .rw[e]at h;simp at h
  .exact jj h
theorem qub(A Z B us:List AV)(j:Nat)(h:j+us.length<=Z.length):z0 (A++Z++B) (A.length+j) us=A++z0 Z j us++B:=by
 unfold z0;rw[Zy A Z B,List.take_length_add_append,Zm Om,Nat.add_assoc,List.drop_length_add_append,List.drop_append_of_le_length Om];simp
theorem q5j{sz i j:Nat}{xs pad us:List AV}{z z':AV}(hw:∀x∈xs,x.cells.length=sz)(hz:xs[i]?=some z)(ml:z'.cells=z0 z.cells j us)(hj:j+us.length<=sz):z0 (flat xs++pad) (0+i*sz+j) us=flat (xs.set i z')++pad∧z'.cells.length=sz:=by
 have hzl:=hw z (Qz hz);have hl:z'.cells.length=sz:=by rw[ml];simp[z0];omega
 have hi:=lt_of_getElem? hz;refine⟨?_,hl⟩;rw[<-qzm hw hl hi];have hg:=q4b (pad:=pad) hw hz
 have hA:((flat xs++pad).take (i*sz)).length=i*sz:=by
  have h1:i*sz<=xs.length*sz:=Zk _ Om;rw[Xc,Qo,jh hw];omega
 generalize flat xs++pad=cs at hg hA
 have hcs:cs=cs.take (i*sz)++z.cells++(cs.drop (i*sz)).drop sz:=by
  rw[<-hg,Zy,Zs,Zs]
 have e1:=qub (cs.take (i*sz)) z.cells ((cs.drop (i*sz)).drop sz) us j Om;have e2:=qub (cs.take (i*sz)) z.cells ((cs.drop (i*sz)).drop sz) z'.cells 0 Om;rw[hA,<-hcs]at e1 e2
 have e3:z0 z.cells 0 z'.cells=z'.cells:=by
  unfold z0;rw[Qh,List.drop_eq_nil_of_le Om];simp
 rw[Zd,e3]at e2;rw[Qh,e1,e2,ml]
theorem q9j{t e:TypeId}{x y:Operand}{b off sz i j sz':Nat}{agg:Bool}{xs:List AV}{z z' u:AV}{v:SV}(hx:sval N sl x=some (.bx b off))(hy:sval N sl y=some v)(hv:∀ρ,v.ev ρ=u)(hH:H b=some (.own sz e xs))(ht:tyOf E.P t=some (sz',agg))(ho:off=0+i*sz+j)(hz:xs[i]?=some z)(ml:z'.cells=z0 z.cells j u.cells)
  (hj:(u.okc&&Ql u.cells.length sz'&&va u.cells&&Qi (j+sz') sz)=true) (h:k ⟨.a (.v undef),[b],[(b,some (.own sz e (xs.set i z')))],nx⟩):∃e,Loc E N ops ⟨d,.store t x y,T,p,af,none⟩ nx sl H e∧k e:=by
 simp only[Qb]at hj;obtain⟨⟨⟨j1,j2⟩,j3⟩,j4⟩:=hj;have j2:=Qd j2;have j4:=Qf j4;refine⟨_,λdf rd K rest ρ t' S hs hS hk=>?_,h⟩;have hok:=hS.ok b _ ((z8 b).trans hH);rcases hok with⟨rfl,_⟩|⟨o,ver,cap,pad,e1,e2,e3,e4,e5,e6⟩
 .simp at hz
 .subst ho
  obtain⟨q1,q2⟩:=q5j (pad:=pad) e4 hz ml Om;have e8:=lt_of_getElem? hz
  refine qif (o:=o) (ver:=ver) (off:=0+i*sz+j) (xs:=u.cells) ((qs hs hx).trans (by simp only[SV.ev,e1,bxAt])) ((qs hs hy).trans (hv ρ)) e2 ht j1 rfl j2 (by simpa[va]using j3) (by
   have h1:i*sz+sz<=xs.length*sz:=by rw[<-Nat.succ_mul];exact Zk _ e8
   rw[Qo,jh e4]
   omega) ?_
  rw[q1]
  have bp:∀y∈xs.set i z',y.cells.length=sz:=λy hy=>by
   rcases List.mem_or_eq_of_mem_set hy with h|rfl
   .exact e4 y h
   .exact q2
  have key:∀k r,chF [(b,some (.own sz e (xs.set i z')))] (resF [b] H) k=some r->k=b∧r=.own sz e (xs.set i z'):=λk r hk=>by
   simp only[chF,lkS]at hk;by_cases e:b=k
   .subst e
    have:Ql b b=true:=Sx
    rw[this]at hk;simp only[cond_true,Qa]at hk;exact⟨rfl,hk.symm⟩
   .rw[zq e]at hk
    have:=(jv hk).1;simp only[memN,Zv,Xp,Xl]at this;exact absurd (Qd this).symm e
  refine hk ρ _ ⟨λ_ _=>rfl,⟨λk r hk=>?_,λk k' r r' d7 g1 g2=>?_⟩,Sx,λj hj d7=>?_,λk r hk o' e7=>?_⟩
  .obtain⟨rfl,rfl⟩:=key k r hk
   refine .inr ⟨o,ver,cap,pad,by rw[e1,Qq],yz e2,?_,bp,by rw[Qq];exact e5,e6⟩;rw[Qo,jh bp,Qq,<-jh e4,<-Qo];exact e3
  .exact absurd ((key k r g1).1.trans (key k' r' g2).1.symm) d7
  .have:=d7 b _ ((z8 b).trans hH)
   rw[e1]at this;exact Qn (λe=>this (by rw[e];exact Qm.2 rfl))
  .obtain⟨rfl,rfl⟩:=key k r hk
   exact .inr ⟨k,_,(z8 k).trans hH,e7⟩
structure OwnR (sz:Nat) (T:TypeId) (ys:List AV) (st:List AObj) (c r:AV) (st':List AObj):Prop where
 ok:OwnS st' sz T ys r
 len:st.length<=st'.length
 same:∀j,j<st.length->j∉qr c->st'[j]?=st[j]?
 loc:∀o,o∈qr r->st.length<=o∨o∈qr c
theorem qvb{S:List AObj}{sz:Nat}{T:TypeId}{xs:List AV}{c:AV}(h:OwnS S sz T xs c):tpAt c=c:=qnc h
theorem qq1{f:FuncId}{sz:Nat}{T0:TypeId}{xs ys:List AV}(args:List AV)(hc:okC ⟨zl 0 (.tp 0::args.map .a),[(0,some (.own sz T0 xs))],1⟩=true)
  (h:∀st c,OwnS st sz T0 xs c->qm E f (c::args) st λr st'=>OwnR sz T0 ys st c r st'):qz E f (.tp 0::args.map .a) 1 (hpF [(0,some (.own sz T0 xs))]) ⟨.tp 1,q8 [(0,some (.own sz T0 xs))],[(1,some (.own sz T0 ys))]++q9 [(0,some (.own sz T0 xs))],2⟩:=λρ S hS=>by
 simp only[jb]at hS;have hok:OwnS S sz T0 xs (ρ 0):=hS.ok 0 _ rfl
 have e:SV.evs ρ (.tp 0::args.map .a)=ρ 0::args:=by
  simp only[SV.evs,SV.ev,qvb hok,zw,List.map_map];congr 1
  conv=>rhs;rw[<-List.map_id args]
  exact List.map_congr_left λx _=>rfl
 rw[e];refine(h S (ρ 0) hok).mono λr S' hr=>⟨upd ρ 1 r,?_,?_⟩
 .simp only[SV.ev,zi,qvb hr.ok]
 .have key:∀k q,hpF [(1,some (.own sz T0 ys))] k=some q->k=1∧q=.own sz T0 ys:=λk q hk=>by
   have:=vo hk;simp only[lkS]at this
   cases hb:Ql 1 k with
   |true=>
    rw[hb]at this;simp only[cond_true,Qa]at this
    exact⟨(Qd hb).symm,this.symm⟩
   |false=>rw[hb]at this;simp at this
  refine⟨λk hk=>jq _ _ (by simp only at hk;omega),?_,hr.len,λj hj hn=>?_,λk q hk o ho=>?_⟩
  .simp only[jb,x3]
   refine⟨λk q hk=>?_,λk k' q q' d7 h1 h2=>absurd ((key k q h1).1.trans (key k' q' h2).1.symm) d7⟩;obtain⟨rfl,rfl⟩:=key k q hk;rw[zi];exact hr.ok
  .simp only[jb]at hn
   exact hr.same j hj (hn 0 _ rfl)
  .simp only[jb,x3]at hk⊢
   obtain⟨rfl,rfl⟩:=key k q hk;rw[zi]at ho;rcases hr.loc o ho with h|h
   .exact .inl h
   .exact .inr ⟨0,_,rfl,h⟩
theorem q18{f:FuncId}{sz:Nat}{T0:TypeId}{ys:List AV}{nx:Nat}{H:Nat->Option SR}(args:List AV)(vs:List SV)(hv:∀ρ,SV.evs ρ vs=args)
  (h:∀st,qm E f args st λr st'=>OwnR sz T0 ys st (.v undef) r st'):qz E f vs nx H ⟨.tp nx,[],[(nx,some (.own sz T0 ys))],nx+1⟩:=λρ S hS=>by
 rw[hv];refine(h S).mono λr S' hr=>⟨upd ρ nx r,?_,?_⟩
 .simp only[SV.ev,zi,qvb hr.ok]
 .have key:∀k q,chF [(nx,some (SR.own sz T0 ys))] (resF [] H) k=some q->k=nx∧q=.own sz T0 ys:=λk q hk=>by
   simp only[chF,lkS]at hk
   cases hb:Ql nx k with
   |true=>
    rw[hb]at hk;simp only[cond_true,Qa]at hk
    exact⟨(Qd hb).symm,hk.symm⟩
   |false=>
    rw[hb]at hk;simp[resF,memN]at hk
  refine⟨λk hk=>jq _ _ (by simp only at hk;omega),⟨λk q hk=>?_,λk k' q q' d7 h1 h2=>absurd ((key k q h1).1.trans (key k' q' h2).1.symm) d7⟩,hr.len,λj hj _=>hr.same j hj (by simp[qr]),λk q hk o ho=>?_⟩
  .obtain⟨rfl,rfl⟩:=key k q hk
   rw[zi];exact hr.ok
  .obtain⟨rfl,rfl⟩:=key k q hk
   rw[zi]at ho;rcases hr.loc o ho with h|h
   .exact .inl h
   .simp[qr]at h
end
end Go.Av
namespace Go.Proofs.YthnbabbhpeebbaaGreatDoor
open Go Go.Av Go.RowKit Go.Proofs Go.Pl
def accK(l:qa)(r:List qa)(k:Nat):List qa:=yq 32 (yv l)::(r.take k).map λs=>yq 46 (s.drop 1)
theorem q62{l:qa}{r:List qa}{k:Nat}{a:qa}(h:r[k]?=some a):(accK l r (k+1)).map (λx=>Sv x)=(accK l r k).map (λx=>Sv x)++[Sv (yq 46 (a.drop 1))]:=by
 obtain⟨e8,rfl⟩:=Qt.1 h;unfold accK;rw[<-Zq e8];simp only[List.map_append,Za,List.map_nil,List.cons_append]
set_option maxHeartbeats 4000000 in
theorem qnj(ls:List qa)(st:List AObj)(hB:LsB ls):qm E 232 [Ss ls] st λr st'=>r=qgz ls∧st'=st:=by
 refine ja [.a (Ss ls)] (q1m _) Tryz.func232 rfl rfl (λ_=>rfl) rfl λS0=>?_;have hL:=hB.len;have bf:(ls.map λx=>Sv x).length=ls.length:=Sx
 cases ls with
 |nil=>
  apply qd [2]
  repeat' (first|apply Zf|(intro h;try exact cDd)|exact cSd|apply qb [2]|refine exr ?_|refine qf ?_)
 |cons l r=>
  have hl:=hB.val l Sx;simp only[Zo]at hL bf;have hget0:((l::r).map λx=>Sv x)[0]?=some (Sv l):=rfl;have hrm:(r.map λx=>Sv x).length=r.length:=Sx
  by_cases h4:qy l=4
  .have hkf:=qoi.1 h4
   have hcu:=λst=>q5u l st Om h4;have ht1:=λst=>q4a (yv l) 32 st;apply qd [2,31];repeat' (first|apply Zf|(intro h;try exact cDd)|(refine Zl (0) ⟨Om,_,hget0,?_⟩)|exact⟨Tryz.call261⟩|refine cpe hcu ?_|exact⟨Tryz.call148⟩|refine cpe ht1 ?_|exact cSd|apply qb [2,31]|refine exr ?_|refine qf ?_)
   refine xx (X:=Nat) (λk=>⟨[(2,.bx 0 0),(4,.s (kg l)),(7,.tp 1),(33,.a (.sl 1 (r.map λx=>Sv x) none)),(34,.i (r.map λx=>Sv x).length),(35,.i k)],[(0,some (.cells 117 [.s [],.s []])),(1,some (.tip 1 9 ((accK l r k).map λx=>Sv x)))],2⟩) (λk=>k<=r.length∧∀x∈r.take k,qy x=3) (λk=>r.length-k) 0 ⟨Om,Sx⟩ ?_ ?_
   .skip
    repeat' (first|apply Zf|(intro h;try exact cDd)|exact cSd|apply qb []|refine exr ?_|refine qf ?_)
   .rintro k ⟨hk,h3⟩
    have hacl:((accK l r k).map λx=>Sv x).length=k+1:=by unfold accK;simp;omega
    by_cases e8:k<r.length
    .obtain⟨a,ha⟩:∃a,r[k]?=some a:=⟨_,Qk e8⟩
     have i8:(r.map λx=>Sv x)[k]?=some (Sv a):=by simp[ha]
     have hav:=hB.val a (by simp[Qz ha]);have hka:=λst=>qlk a st Om;have ht2:=λst=>q4a (a.drop 1) 46 st;have hnx:=q62 (l:=l) ha;by_cases hk3:qy a=3
     .obtain⟨h2,_⟩:=qu5 hk3
      simp only[hk3]at hka
      have gz:r.take (k+1)=r.take k++[a]:=by
       obtain⟨_,rfl⟩:=Qt.1 ha;rw[Zq]
      apply qd [];repeat' (first|apply Zf|(intro h;try exact cDd)|(refine Zl (k) ⟨Om,_,i8,?_⟩)|exact⟨Tryz.call184⟩|refine cpe hka ?_|exact⟨Tryz.call148⟩|refine cpe ht2 ?_|(refine Zl (k+1) ⟨⟨Om,by rw[gz];exact qrg h3 hk3⟩,Om,?_⟩)|exact cSd|apply qb []|refine exr ?_|refine qf ?_)
      all_goals first|(rw[hnx];done)|(rw[hnx];simp[SV.evs,SV.ev];done)|(simp only[Zo,Xe];omega)
     .have hno:j8 (l::r)=(([],[]),2):=if_neg λh=>hk3 (h.2.2 a (Qz ha))
      unfold qgz;rw[hno];apply qd [];repeat' (first|apply Zf|(intro h;try exact cDd)|(refine Zl (k) ⟨Om,_,i8,?_⟩)|exact⟨Tryz.call184⟩|refine cpe hka ?_|exact absurd (by assumption) hk3|exact cSd|apply qb []|refine exr ?_|refine qf ?_)
    .rw[List.take_of_length_le Om]at h3
     have hkr:k=r.length:=Om
     subst hkr;have hok:qr1 (l::r):=⟨Sx,h4,h3⟩;have hjl:=q1d r λs hs=>hB.val s (by simp[hs]);have hj:=q8u (yq 32 (yv l)) r;have hjv:Lib.join (accK l r r.length) [10]=qa0 l r:=by unfold accK;rw[Xb];exact hj
     have htr:(yq 32 (yv l)).length<=l.length:=by unfold yq yv;split <;>simp <;>omega
     have hvl:(qa0 l r).length<=140737488355328:=by
      unfold qa0;rw[Qo];omega
     have hjn:=λtip st=>q3t (accK l r r.length) tip [10] (qa0 l r) st hjv (by rw[<-Xf (f:=λx=>Sv x),hacl];omega) hvl;have hkl:(kg l).length<4294967281:=by have:=hkf.2.2.2.1;omega
     have sm:j8 (l::r)=if 1000<(qa0 l r).length then(([],[]),6)else((kg l,qa0 l r),0):=if_pos hok;have hjn0:=hjn none;unfold qgz;by_cases hv:1000<(qa0 l r).length
     .have hcf:v7 (kg l,qa0 l r)=6:=(if_neg (by simpa using hkf.2.2)).trans (if_pos hv)
      have r7:=λst=>qjg (kg l,qa0 l r) st hkl (by rw[hcf];decide);rw[hcf]at r7;rw[sm,if_pos hv];apply qd [10];repeat' (first|apply Zf|(intro h;try exact cDd)|exact⟨Tryz.call177⟩|refine cpe hjn0 ?_|exact⟨Tryz.call221⟩|refine cpe r7 ?_|exact cSd|apply qb [10]|refine exr ?_|refine qf ?_)
     .have hcf:v7 (kg l,qa0 l r)=0:=(if_neg (by simpa using hkf.2.2)).trans (if_neg hv)
      have r7:=λst=>qjf (kg l,qa0 l r) st hkl hcf;rw[sm,if_neg hv];apply qd [10];repeat' (first|apply Zf|(intro h;try exact cDd)|exact⟨Tryz.call177⟩|refine cpe hjn0 ?_|exact⟨Tryz.call221⟩|refine cpe r7 ?_|exact cSd|apply qb [10]|refine exr ?_|refine qf ?_)
  .have hno:j8 (l::r)=(([],[]),2):=if_neg λh=>h4 h.2.1
   have hcu:=λst=>q2k l st Om h4;unfold qgz;rw[hno];apply qd [2];repeat' (first|apply Zf|(intro h;try exact cDd)|(refine Zl (0) ⟨Om,_,hget0,?_⟩)|exact⟨Tryz.call261⟩|refine cpe hcu ?_|exact cSd|apply qb [2]|refine exr ?_|refine qf ?_)
end Go.Proofs.YthnbabbhpeebbaaGreatDoor
namespace Go.Av
open Go Go.RowKit
def yx(kind:TypeDesc)(k:Value):List (Value×Value)->Nat->Option (Option (Nat×Value))
 | [],_=>some none
 |e::es,i=>match Instr.sameNow kind k e.1 with
  |some true=>some (some (i,e.2))
  |some false=>yx kind k es (i+1)
  |none=>none
theorem qp8(kind:TypeDesc)(k:Value):∀(es:List MapEntry)(i:Nat),Instr.findNow kind k es i=yx kind k (es.map λe=>(e.key,e.val)) i
 | [],_=>rfl
 |e::es,i=>by
  rw[Za,Instr.findNow,yx]
  cases Instr.sameNow kind k e.key with
  |none=>rfl
  |some b=>cases b with
   |true=>rfl
   |false=>exact qp8 kind k es (i+1)
def mset(kvs:List (Value×Value))(k v:Value):Option (Nat×Value)->List (Value×Value)
 |some (i,_)=>kvs.set i (k,v)
 |none=>kvs++[(k,v)]
def qe0(es:List MapEntry)(clock:Nat)(k v:Value):Option (Nat×Value)->List MapEntry
 |some (i,_)=>es.modify i λe=>{e with key:=k,val:=v}
 |none=>es++[⟨k,v,clock⟩]
def mclk(clock:Nat):Option (Nat×Value)->Nat
 |some _=>clock
 |none=>clock+1
@[reducible] def kvE (e : MapEntry) : Value × Value := (e.key, e.val)
structure qb4 (es:List MapEntry) (clock:Nat):Prop where
 up:es.Pairwise λa b=>a.born<b.born
 lt:∀e∈es,e.born<clock
theorem qms{kind:TypeDesc}{k:Value}:∀{kvs:List (Value×Value)}{n i:Nat}{v:Value},yx kind k kvs n=some (some (i,v))->n<=i∧∃q,kvs[i-n]?=some (q,v)∧Instr.sameNow kind k q=some true
 | [],_,_,_,h=>by simp[yx]at h
 |e::es,n,i,v,h=>by
  unfold yx at h
  cases hs:Instr.sameNow kind k e.1 with
  |none=>rw[hs]at h;simp at h
  |some b=>
   rw[hs]at h
   cases b with
   |true=>
    simp only[Qa,Qr]at h;obtain⟨rfl,rfl⟩:=h
    exact⟨Qj _,e.1,Sx,hs⟩
   |false=>
    obtain⟨h1,q,h2,h3⟩:=qms h;exact⟨Om,q,by rw[show i-n=(i-(n+1))+1 by omega];simpa using h2,h3⟩
section
variable {E : Env} {rd : Option Nat} {N : Nat} {ops : Array Oper} {K : AS → Prop} {s : AS} {rest : List Oper} {d : Option Tmp} {T : TypeId} {p : String} {af : Array Edge}
theorem qyf{t:TypeId}(h:AOps E rd N ops rest K (AS.put ⟨s.t,s.st++[.map [] 0],s.df⟩ d (.mp s.st.length))):AOps E rd N ops (⟨d,.makeMap t none,T,p,af,none⟩::rest) K s:=by
 refine qv rfl (qu nofun λB0 w0 G a w _ hI=>?_);have hn:=hI.agree.n
 have hA:=hI.agree.newAny 0 true (.map [] 0) (.map #[] 0) ⟨by simp[Gh.new,hn],by simp[Gh.new,hn];exact hI.agree.hB,by
  have e:((G.new 0 w.heap.size 0 true).ob s.st.length).blk=w.heap.size:=by simp[Gh.new,hn]
  rw[e]
  exact ww w _⟩
 exact⟨.map (some w.heap.size),_,_,_,_,by simp[execOp,Instr.makeMap,newObj,Sem.run],G.le_new _ _ _ _,hA,.mp _ _ (by simp[Gh.new,hn]) (by simp[Gh.new,hn]) (by simp[Gh.new,hn]),h⟩
def mval(z:Value):Option (Nat×Value)->Value
 |some q=>q.2
 |none=>z
def mkey:TypeDesc->Value->Bool
 |.string,.string _=>true
 |.int _,.int _ _=>true
 |_,_=>false
theorem qju{P:Program}{kt:TypeId}{kd:TypeDesc}{k:Value}(hk:P.underlying kt=some kd)(h:mkey kd k=true)(e:Bool)(n:Nat)(w:World):(Instr.checkKey e (n+1) kt k).run P w=.ok () w:=by
 unfold Instr.checkKey;rw[Sem.run_bind,run_underlying hk];unfold mkey at h;split at h
 .rfl
 .rfl
 .simp at h
theorem qk4{P:Program}{kt:TypeId}{kd:TypeDesc}{k:Value}{es:List MapEntry}{r:Option (Nat×Value)}(hk:P.underlying kt=some kd)(hf:yx kd k (es.map λe=>(e.key,e.val)) 0=some r)(w:World):(Instr.findKey kt k es).run P w=.ok r w:=by
 unfold Instr.findKey;rw[Sem.run_bind,run_underlying hk];simp only[Result.andThen_ok,qp8,hf];rfl
theorem zde{P:Program}{t:TypeId}{z:Value}(h:(P.info? t).bind (λi=>i.zero)=some z)(w:World):(zeroValue t).run P w=.ok z w:=by
 cases hi:P.info? t with
 |none=>rw[hi]at h;simp at h
 |some i=>
  rw[hi]at h;simp only[Option.bind_some]at h;simp[zeroValue,typeInfo,hi,h]
theorem qyg{t kt vt:TypeId}{kd:TypeDesc}{x y:Operand}{o:Nat}{k z:Value}{es:List MapEntry}{clock:Nat}{r:Option (Nat×Value)}(hx:qg N s x=.mp o)(hy:qg N s y=.v k)(ho:s.st[o]?=some (.map es clock))
  (hu:E.P.underlying t=some (.map kt vt)) (hk:E.P.underlying kt=some kd) (r7:mkey kd k=true) (hf:yx kd k (es.map kvE) 0=some r) (hz:(E.P.info? vt).bind (λi=>i.zero)=some z)
  (h:AOps E rd N ops rest K (s.put d (.tu [.v (mval z r),Bv r.isSome]))):AOps E rd N ops (⟨d,.lookup t x y true,T,p,af,none⟩::rest) K s:=by
 refine qv rfl (qu nofun λB0 w0 G a w _ hI=>?_);have hv:=hI.evalv hy;have he:=hI.eval_of hx;generalize sq:a.eval x=v at he
 cases he with
 |mp _ b hn hr hb=>
  obtain⟨_,_,h4⟩:=hI.agree.ob o _ ho;rw[hb]at h4;refine⟨_,w,G,_,s.st,?_,.refl G,hI.agree,qgr (.v (mval z r)) (.v (.bool r.isSome)),h⟩
  have hlk:(Instr.lookup t (.map (some b)) k true).run E.P w=.ok (.tuple #[mval z r,.bool r.isSome]) w:=by
   unfold Instr.lookup;rw[Sem.run_bind,run_underlying hu];simp only[Result.andThen_ok,Sem.run_bind];simp only[getObj,Sem.run,h4,Result.andThen_ok,Sem.run_bind,Sem.run_pure];rw[show(10000:Nat)=9999+1 from rfl,qju hk r7];simp only[Result.andThen_ok];rw[qk4 hk hf]
   cases r with
   |none=>simp[zde hz,mval]
   |some q=>simp[mval]
  simp only[execOp,sq,hv];rw[Sem.run_bind,hlk];rfl
theorem q1u{t kt vt:TypeId}{kd:TypeDesc}{x y q:Operand}{o:Nat}{k u:Value}{es:List MapEntry}{clock:Nat}{r:Option (Nat×Value)}(hx:qg N s x=.mp o)(hy:qg N s y=.v k)(hq:qg N s q=.v u)(ho:s.st[o]?=some (.map es clock))
  (hu:E.P.underlying t=some (.map kt vt)) (hk:E.P.underlying kt=some kd) (r7:mkey kd k=true) (hf:yx kd k (es.map kvE) 0=some r)
  (h:AOps E rd N ops rest K (AS.put ⟨s.t,s.st.set o (.map (qe0 es clock k u r) (mclk clock r)),s.df⟩ d (.v undef))):AOps E rd N ops (⟨d,.mapUpdate t x y q,T,p,af,none⟩::rest) K s:=by
 refine qv rfl (qpu nofun λB0 w0 G a w _ hI=>?_);have hv:=hI.evalv hy;have hv2:=hI.evalv hq;have he:=hI.eval_of hx;generalize sq:a.eval x=v at he
 cases he with
 |mp _ b hn hr hb=>
  obtain⟨hraw,mz,h4⟩:=hI.agree.ob o _ ho
  have key:(Instr.mapUpdate t (.map (some b)) k u).run E.P w=.ok () (w.putObj b (.map (qe0 es clock k u r).toArray (mclk clock r)))->∃w' G' st',(execOp a.eval ⟨d,.mapUpdate t x y q,T,p,af,none⟩).run E.P w=.ok .skip w'∧G.le G'∧zb B0 w0 G' st' w'∧AOps E rd N ops rest K (AS.put ⟨s.t,st',s.df⟩ d (.v undef)):=λa8=>by
   refine⟨_,G,_,?_,.refl G,hI.agree.putRaw (x':=.map (qe0 es clock k u r) (mclk clock r)) (y':=.map (qe0 es clock k u r).toArray (mclk clock r)) ho trivial hraw h4 Sx ⟨hraw,mz,?_⟩,h⟩
   .simp only[execOp,sq,hv,hv2]
    rw[Sem.run_bind,a8,hb];rfl
   .have e8:(G.ob o).blk<w.heap.size:=(Array.getElem?_eq_some_iff.1 h4).1
    simp[World.putObj,e8]
  rw[hb]at h4
  have ld:(Instr.mapUpdate t (.map (some b)) k u).run E.P w=(match r with
   |some (i,_)=>(do
     let key <-Instr.keyThatStays (((es.toArray[i]?).map (λe:MapEntry=>e.key)).getD k) k
     setObj b (.map (es.toArray.modify i λe:MapEntry=>{e with key,val:=u}) clock):Sem Unit)
   |none=>(setObj b (.map (es.toArray.push {key:=k,val:=u,born:=clock}) (clock+1)):Sem Unit)).run E.P w:=by
   unfold Instr.mapUpdate;rw[Sem.run_bind,run_underlying hu];simp only[Result.andThen_ok,Sem.run_bind];simp only[getObj,Sem.run,h4,Result.andThen_ok,Sem.run_bind];rw[show(10000:Nat)=9999+1 from rfl,qju hk r7];simp only[Result.andThen_ok];rw[qk4 hk hf];simp only[Result.andThen_ok]
   cases r with
   |none=>rfl
   |some q=>rfl
  cases r with
  |none=>
   refine key ?_;rw[ld]
   simp[setObj,Sem.run,World.putObj,h4,qe0,mclk]
  |some q=>
   obtain⟨i,v0⟩:=q;obtain⟨_,q0,hq1,bw⟩:=qms hf;rw[Xq,Qg]at hq1;obtain⟨e0,he0,he1⟩:=Zr.1 hq1;simp only[Qr]at he1;obtain⟨rfl,rfl⟩:=he1
   have hsb:Instr.sameBits 10000 e0.key k=true:=by
    unfold mkey at r7;split at r7
    .unfold Instr.sameNow at bw
     split at bw
     .simp at *
     .rename_i s1 s2 e1 e2 e3
      have hq3:s1=s2:=(Go.MapKept.bytes_beq _ _).1 (Xs bw);subst hq3;rw[e3,<-e2];simp only[Instr.sameBits];exact(Go.MapKept.bytes_beq _ _).2 rfl
     .simp at *
     .simp at bw
    .unfold Instr.sameNow at bw
     split at bw
     .rename_i k1 a1 k2 b1 e1 e2 e3
      split at bw
      .rename_i ek
       subst ek;simp only[Qa,beq_iff_eq]at bw;subst bw;rw[e3,<-e2];simp[Instr.sameBits]
      .simp at bw
     .simp at *
     .simp at *
     .simp at bw
    .simp at r7
   refine key ?_;rw[ld];have:es.toArray[i]?=some e0:=by simpa using he0
   have hm:(es.toArray.modify i λe:MapEntry=>{e with key:=k,val:=u})=(es.modify i λe:MapEntry=>{e with key:=k,val:=u}).toArray:=Sx
   simp[this,Instr.keyThatStays,hsb,setObj,Sem.run,World.putObj,h4,qe0,mclk]
end
theorem zcm{es:List MapEntry}{clock:Nat}{k u:Value}{r:Option (Nat×Value)}{kd:TypeDesc}(hf:yx kd k (es.map kvE) 0=some r):(qe0 es clock k u r).map kvE=mset (es.map kvE) k u r:=by
 cases r with
 |none=>simp[qe0,mset]
 |some q=>
  obtain⟨i,v0⟩:=q;simp only[qe0,mset];apply Zn;intro j;rw[Qg,Zu,List.getElem?_set,Qg];by_cases e:i=j
  .subst e
   obtain⟨_,q0,hq1,_⟩:=qms hf;rw[Xq,Qg]at hq1;obtain⟨e0,he0,_⟩:=Zr.1 hq1;have:=(Qt.1 he0).1;simp[he0,this]
  .simp[e]
theorem qb4.mset{es:List MapEntry}{clock:Nat}(h:qb4 es clock)(k u:Value)(r:Option (Nat×Value)):qb4 (qe0 es clock k u r) (mclk clock r):=by
 cases r with
 |none=>
  refine⟨?_,λe he=>?_⟩
  .rw[qe0,List.pairwise_append]
   exact⟨h.up,Sx,λa ha b hb=>by simp at hb;subst hb;exact h.lt a ha⟩
  .rw[qe0,List.mem_append]at he
   rcases he with he|he
   .have:=h.lt e he
    simp only[mclk];omega
   .simp at he
    subst he
    simp[mclk]
 |some q=>
  have hb:(es.modify q.1 λe=>{e with key:=k,val:=u}).map (·.born)=es.map (·.born):=by
   apply Zn;intro j;rw[Qg,Zu,Qg]
   cases es[j]?with
   |none=>simp
   |some e=>by_cases e1:q.1=j<;>simp[e1]
  refine⟨?_,λe he=>?_⟩
  .have:=h.up
   have h1:(es.map (·.born)).Pairwise (· < ·):=Zz.2 this;rw[<-hb]at h1;exact Zz.1 h1
  .have:e.born∈(es.modify q.1 λe=>{e with key:=k,val:=u}).map (·.born):=List.mem_map_of_mem he
   rw[hb]at this;obtain⟨e2,h2,h3⟩:=Zp.1 this;rw[<-h3];exact h.lt e2 h2
end Go.Av
namespace Go.Av
open Go Go.RowKit
structure mapP (kvs:List (Value×Value)) (x:AObj) (c:AV):Prop where
 ob:∃es clock,x=.map es clock∧es.map kvE=kvs∧qb4 es clock
 mp:∃o,c=.mp o
section
variable {E : Env} {N : Nat} {ops : Array Oper} {nx : Nat} {sl : List (Nat × SV)} {H : Nat → Option SR} {k : Ef → Prop} {d : Option Tmp} {T : TypeId} {p : String} {af : Array Edge}
theorem zfy{t:TypeId}(h:k ⟨.tp nx,[],[(nx,some (.obj (mapP [])))],nx+1⟩):∃e,Loc E N ops ⟨d,.makeMap t none,T,p,af,none⟩ nx sl H e∧k e:=by
 refine⟨_,qi1 (λk r hk=>by rw[qdv]at hk;simp at hk) λdf rd K rest ρ t1 S ho _ hk=>qyf ?_,h⟩;have:=hk (.mp S.length) [.map [] 0] ⟨S.length,_,rfl,we,Sx,⟨[],0,rfl,rfl,⟨Sx,Sx⟩⟩,_,rfl⟩ (λo ho=>by simp only[qr,Qm]at ho;omega)
 simpa[SV.ev,zi,tpAt,AV.one]using this
theorem zcl{t kt vt:TypeId}{kd:TypeDesc}{x y:Operand}{b:Nat}{kvs:List (Value×Value)}{v:SV}{kv z:Value}{r:Option (Nat×Value)}{n:Int}(hx:sval N sl x=some (.tp b))(hH:H b=some (.obj (mapP kvs)))(hy:sval N sl y=some v)(hv:∀ρ,v.ev ρ=.v kv)
  (hu:E.P.underlying t=some (.map kt vt)) (hk:E.P.underlying kt=some kd) (r7:mkey kd kv=true) (hf:yx kd kv kvs 0=some r) (hz:(E.P.info? vt).bind (λi=>i.zero)=some z) (hn:mval z r=.int .i64 n)
  (h:k ⟨.tu [.i n,.b r.isSome],[b],[],nx⟩):∃e,Loc E N ops ⟨d,.lookup t x y true,T,p,af,none⟩ nx sl H e∧k e:=by
 refine⟨_,w6 (v:=.tu [.i n,.b r.isSome]) λdf rd K rest ρ t' S hs hS gv=>?_,h⟩;obtain⟨o,x',h1,h2,_,⟨es,clock,rfl,rfl,t6⟩,o',e1⟩:=hS.ok b _ ((z8 b).trans hH);rw[e1]at h1;simp only[qr,Xg,and_true]at h1;subst h1;refine qyg (o:=o') ((qs hs hx).trans (by simp[SV.ev,e1,tpAt,AV.one])) ((qs hs hy).trans (hv ρ)) h2 hu hk r7 hf hz ?_;rw[hn];exact gv
theorem zfz{t kt vt:TypeId}{kd:TypeDesc}{x y q:Operand}{b:Nat}{kvs:List (Value×Value)}{v w:SV}{kv u:Value}{r:Option (Nat×Value)}(hx:sval N sl x=some (.tp b))(hH:H b=some (.obj (mapP kvs)))(hy:sval N sl y=some v)(hv:∀ρ,v.ev ρ=.v kv)(hq:sval N sl q=some w)(hw:∀ρ,w.ev ρ=.v u)
  (hu:E.P.underlying t=some (.map kt vt)) (hk:E.P.underlying kt=some kd) (r7:mkey kd kv=true) (hf:yx kd kv kvs 0=some r)
  (h:k ⟨.a (.v undef),[b],[(b,some (.obj (mapP (mset kvs kv u r))))],nx⟩):∃e,Loc E N ops ⟨d,.mapUpdate t x y q,T,p,af,none⟩ nx sl H e∧k e:=by
 refine⟨_,λdf rd K rest ρ t' S hs hS gv=>?_,h⟩;obtain⟨o,x',h1,h2,_,⟨es,clock,rfl,rfl,t6⟩,o',e1⟩:=hS.ok b _ ((z8 b).trans hH);rw[e1]at h1;simp only[qr,Xg,and_true]at h1;subst h1;refine q1u (o:=o') ((qs hs hx).trans (by simp[SV.ev,e1,tpAt,AV.one])) ((qs hs hy).trans (hv ρ)) ((qs hs hq).trans (hw ρ)) h2 hu hk r7 hf ?_
 have key:∀k r',chF [(b,some (.obj (mapP (mset (es.map kvE) kv u r))))] (resF [b] H) k=some r'->k=b∧r'=.obj (mapP (mset (es.map kvE) kv u r)):=λk r' hk=>by
  simp only[chF,lkS]at hk;by_cases e:b=k
  .subst e
   have:Ql b b=true:=Sx
   rw[this]at hk;simp only[cond_true,Qa]at hk;exact⟨rfl,hk.symm⟩
  .rw[zq e]at hk
   have:=(jv hk).1;simp only[memN,Zv,Xp,Xl]at this;exact absurd (Qd this).symm e
 refine gv ρ _ ⟨λ_ _=>rfl,⟨λk r' hk=>?_,λk k' r1 r2 d7 g1 g2=>?_⟩,Sx,λj hj d7=>?_,λk r' hk o' e7=>?_⟩
 .obtain⟨rfl,rfl⟩:=key k r' hk
  exact⟨o',_,by rw[e1];rfl,yz h2,Sx,⟨_,_,rfl,zcm hf,t6.mset _ _ _⟩,o',e1⟩
 .exact absurd ((key k r1 g1).1.trans (key k' r2 g2).1.symm) d7
 .have:=d7 b _ ((z8 b).trans hH)
  rw[e1]at this;exact Qn (λe=>this (by rw[e];exact Qm.2 rfl))
 .obtain⟨rfl,rfl⟩:=key k r' hk
  exact .inr ⟨k,_,(z8 k).trans hH,e7⟩
end
end Go.Av
