/- Contracts and plain facts that the closing text leans on (part 5). No condition of their own beyond those that each states. -/
import Derived.Test.YtmjmdjbdoiddeaaGreatDoorK4
import Derived.Laws.StructEq
import Derived.MapKept
set_option maxRecDepth 100000
set_option linter.unusedVariables false
set_option linter.unusedSimpArgs false
namespace Go.Av
open Go Go.RowKit
def isGd (i:Nat) (l:List Oper):Bool:=l.any fun o=>match o.guard with
 |some (j,_)=>Nat.beq j i
 |none=>false
def Ef.as (e:Ef) (v:SV):Ef:=⟨v,e.ks,e.ch,e.nx⟩
def gdW (g:Bool) (k:Ef→Prop) (e:Ef):Prop:=
 match g with
 |false=>k e
 |true=>match e.val with
  | .p q _=>(q→k (e.as .tt))∧(¬ q→k (e.as .ff))
  | .b c=>(c=true→k (e.as .tt))∧(c=false→k (e.as .ff))
  | _=>k e
section
variable {E : Env} {N : Nat} {ops : Array Oper} {nx : Nat} {sl : List (Nat × SV)} {H : Nat → Option SR} {k : Ef → Prop} {o : Oper}
theorem qi1 {e:Ef} {v:SV} (h:Loc E N ops o nx sl H e) (hv:∀ ρ,e.val.ev ρ = v.ev ρ):Loc E N ops o nx sl H (e.as v):=fun df rd K rest ρ t S hs hS hk=>
 h df rd K rest ρ t S hs hS fun ρ' S' hp=>by rw [hv ρ'];exact hk ρ' S' ⟨hp.old,hp.sat,hp.len,hp.fr,hp.loc⟩
theorem qwt {g:Bool} {e:Ef} (hL:Loc E N ops o nx sl H e) (h:gdW g k e):∃ e,Loc E N ops o nx sl H e∧k e:=by
 unfold gdW at h
 split at h
 ·exact⟨e,hL,h⟩
 ·split at h
  ·rename_i q i hv
   by_cases hq:q
   ·exact⟨_,qi1 hL (fun ρ=>by rw [hv];simp [SV.ev,hq]),h.1 hq⟩
   ·exact⟨_,qi1 hL (fun ρ=>by rw [hv];simp [SV.ev,hq]),h.2 hq⟩
  ·rename_i c hv
   cases c with
   |true=>exact⟨_,qi1 hL (fun ρ=>by rw [hv];rfl),h.1 rfl⟩
   |false=>exact⟨_,qi1 hL (fun ρ=>by rw [hv];rfl),h.2 rfl⟩
  ·exact⟨e,hL,h⟩
def Oper.bare (o:Oper):Oper:=⟨o.dst,o.op,o.type,o.pos,o.after,none⟩
def qoj (l:List Oper) (j:Nat):Option Nat:=match l[j]? with
 |some o=>o.dst
 |none=>none
def opG (E:Env) (N:Nat) (l:List Oper) (bxs:List Nat) (nx:Nat) (sl:List (Nat×SV)) (H:Nat→Option SR) (k:Ef→Prop) (o:Oper):Prop:=
 match o.guard with
 |none=>opW E N l.toArray bxs nx sl H k o
 |some (j,want)=>(match qoj l j with
  |some e=>(match bif Nat.blt e N then lkS sl e else none with
   |some .tt=>bif want then opW E N l.toArray bxs nx sl H k (Oper.bare o) else k (wp nx (.a (.v undef)))
   |some .ff=>bif want then k (wp nx (.a (.v undef))) else opW E N l.toArray bxs nx sl H k (Oper.bare o)
   |some (.a (.v (.tuple ⟨[]⟩)))=>k (wp nx (.a (.v undef)))
   | _=>False)
  |none=>False)
theorem qyv {l:List Oper} {j e:Nat} (h:qoj l j=some e):∃ oj,l.toArray[j]? = some oj∧oj.dst=some e:=by
 unfold qoj at h
 split at h
 ·rename_i o ho;exact⟨o,by simpa using ho,h⟩
 ·simp at h
theorem qxf {l:List Oper} {bxs:List Nat} (h:opG E N l bxs nx sl H k o):∃ e,Loc E N l.toArray o nx sl H e∧k e:=by
 obtain⟨d,op,T,p,af,g⟩:=o
 unfold opG at h
 simp only at h
 split at h
 ·exact qxg rfl h
 ·rename_i j want
  split at h
  ·rename_i e he
   obtain⟨oj,hj,hd⟩:=qyv he
   cases hN:Nat.blt e N with
   |false=>rw [hN] at h;exact h.elim
   |true=>
    rw [hN] at h
    simp only [cond_true] at h
    have run:∀ b:Bool,lkS sl e=some (bif b then .tt else .ff)→b=want→opW E N l.toArray bxs nx sl H k ⟨d,op,T,p,af,none⟩→∃ e,Loc E N l.toArray ⟨d,op,T,p,af,some (j,want)⟩ nx sl H e∧k e:=fun b hl hb h=>by
     obtain⟨e1,hL,hk⟩:=qxg rfl h
     refine⟨e1,fun df rd K rest ρ t S hs hS hk=>qf0 hj hd hN (b:=b) ?_ hb (hL df rd K rest ρ t S hs hS hk),hk⟩
     refine (hs e _ hl).trans ?_
     cases b <;> rfl
    have skp:∀ b:Bool,lkS sl e=some (bif b then .tt else .ff)→(b == want)=false→k (wp nx (.a (.v undef)))→∃ e,Loc E N l.toArray ⟨d,op,T,p,af,some (j,want)⟩ nx sl H e∧k e:=fun b hl hb h=>by
     refine⟨_,ji (v:=.a (.v undef)) fun df rd K rest ρ t S hs hk=>qe9 hj hd hN (b:=b) ?_ hb hk,h⟩
     refine (hs e _ hl).trans ?_
     cases b <;> rfl
    split at h
    ·rename_i hl
     cases want with
     |true=>exact run true hl rfl h
     |false=>exact skp true hl rfl h
    ·rename_i hl
     cases want with
     |true=>exact skp false hl rfl h
     |false=>exact run false hl rfl h
    ·rename_i hl
     exact⟨_,ji (v:=.a (.v undef)) fun df rd K rest ρ t S hs hk=>q8 hj hd hN (hs e _ hl) hk,h⟩
    ·exact h.elim
  ·exact h.elim
end
mutual
def fcV:SV→(SV→Prop)→Prop
 | .a x,k=>k (.a x)
 | .i n,k=>k (.i n)
 | .s l,k=>k (.s l)
 | .tt,k=>k .tt
 | .ff,k=>k .ff
 | .b c,k=>k (.b c)
 | .p q h,k=>k (.p q h)
 | .bx a b,k=>k (.bx a b)
 | .tp a,k=>k (.tp a)
 | .ag cs,k=>fcL cs fun cs=>k (.ag cs)
 | .tu cs,k=>fcL cs fun cs=>k (.tu cs)
 | .fn f xs ys,k=>fcL xs fun xs=>fcL ys fun ys=>k (.fn f xs ys)
 | .ifc t x,k=>fcV x fun x=>k (.ifc t x)
def fcL:List SV→(List SV→Prop)→Prop
 | [],k=>k []
 |x::r,k=>fcV x fun x=>fcL r fun r=>k (x::r)
end
mutual
theorem qpn:∀ (v:SV) (k:SV→Prop),fcV v k=k v
 | .a _,_=>rfl
 | .i _,_=>rfl
 | .s _,_=>rfl
 | .tt,_=>rfl
 | .ff,_=>rfl
 | .b _,_=>rfl
 | .p _ _,_=>rfl
 | .bx _ _,_=>rfl
 | .tp _,_=>rfl
 | .ag cs,k=>by simp only [fcV,qer cs]
 | .tu cs,k=>by simp only [fcV,qer cs]
 | .fn f xs ys,k=>by simp only [fcV,qer xs,qer ys]
 | .ifc t x,k=>by simp only [fcV,qpn x]
theorem qer:∀ (l:List SV) (k:List SV→Prop),fcL l k=k l
 | [],_=>rfl
 |x::r,k=>by simp only [fcL,qpn x,qer r]
end
def fcR:SR→(SR→Prop)→Prop
 | .cells T cs,k=>fcL cs fun cs=>k (.cells T cs)
 | .tip sz T xs,k=>fcN sz fun sz=>k (.tip sz T xs)
 | .own sz T xs,k=>fcN sz fun sz=>k (.own sz T xs)
 | .obj P,k=>k (.obj P)
 | .rows T cs,k=>fcL cs fun cs=>k (.rows T cs)
theorem q2r:∀ (r:SR) (k:SR→Prop),fcR r k=k r
 | .cells _ cs,k=>by simp only [fcR,qer]
 | .tip sz _ _,k=>by simp only [fcR,qh3]
 | .own sz _ _,k=>by simp only [fcR,qh3]
 | .obj _,k=>rfl
 | .rows _ cs,k=>by simp only [fcR,qer]
def fcH:List (Nat×Option SR)→(List (Nat×Option SR)→Prop)→Prop
 | [],k=>k []
 |(a,none)::l,k=>fcH l fun l=>k ((a,none)::l)
 |(a,some r)::l,k=>fcR r fun r=>fcH l fun l=>k ((a,some r)::l)
theorem qpl:∀ (l:List (Nat×Option SR)) (k:List (Nat×Option SR)→Prop),fcH l k=k l
 | [],_=>rfl
 |(a,none)::l,k=>by simp only [fcH,qpl l]
 |(a,some r)::l,k=>by simp only [fcH,q2r,qpl l]
def fcE (k:Ef→Prop):Ef→Prop
 | ⟨v,ks,ch,nx⟩=>fcV v fun v=>fcH ch fun ch=>k ⟨v,ks,ch,nx⟩
theorem qwp (k:Ef→Prop) (e:Ef):fcE k e=k e:=by
 obtain⟨v,ks,ch,nx⟩:=e
 simp only [fcE,qpn,qpl]
def ql1 (hp:List (Nat×Option SR)) (k:List (Nat×Option SR)→Prop):List (Nat×Option SR)→Prop
 | []=>k hp
 |c::r=>ql1 hp (fun l=>k (c::l)) r
theorem qki (hp:List (Nat×Option SR)):∀ (ch:List (Nat×Option SR)) (k:List (Nat×Option SR)→Prop),ql1 hp k ch=k (ch++hp)
 | [],_=>rfl
 |c::r,k=>by rw [ql1,qki hp r];rfl
def qon (sl:List (Nat×SV)) (hp:List (Nat×Option SR)) (nx:Nat) (d:Option Tmp) (k:Conf→Prop):Ef→Prop
 | ⟨v,ks,ch,nx'⟩=>bif Ef.wf ⟨v,ks,ch,nx'⟩ nx then (match d with
  |some d=>ql1 hp (fun hp=>k ⟨(d,v)::sl,hp,nx'⟩) ch
  |none=>ql1 hp (fun hp=>k ⟨sl,hp,nx'⟩) ch) else False
theorem qqb {sl:List (Nat×SV)} {hp:List (Nat×Option SR)} {nx:Nat} {d:Option Tmp} {k:Conf→Prop} {e:Ef} (h:qon sl hp nx d k e):e.wf nx=true∧k ((Conf.mk sl hp nx).app d e):=by
 obtain⟨v,ks,ch,nx'⟩:=e
 simp only [qon] at h
 cases hw:Ef.wf ⟨v,ks,ch,nx'⟩ nx with
 |false=>rw [hw] at h;exact h.elim
 |true=>
  rw [hw] at h
  refine⟨rfl,?_⟩
  cases d with
  |none=>simp only [cond_true] at h;rw [qki] at h;exact h
  |some d=>simp only [cond_true] at h;rw [qki] at h;exact h
def qvt (E:Env) (N:Nat) (l:List Oper) (bxs:List Nat):Nat→List Oper→(Conf→Prop)→Conf→Prop
 | _,[],K,C=>K C
 |i,o::r,K,⟨sl,hp,nx⟩=>opG E N l bxs nx sl (hpF hp) (gdW (isGd i l) (fcE (qon sl hp nx o.dst (qvt E N l bxs (i+1) r K)))) o
theorem qrm {E:Env} {rd:Option Nat} {N:Nat} {l:List Oper} {bxs:List Nat} {B:Bs} {K:Conf→Prop}:∀ {r:List Oper} {i:Nat} {C:Conf} {s:AS},qvt E N l bxs i r K C→SatC B C s→AOps E rd N l.toArray r (fun s'=>∃ C',K C'∧SatC B C' s') s
 | [],_,C,s,h,hs=>qs ⟨C,h,hs⟩
 |o::r,i,⟨sl,hp,nx⟩,s,h,hs=>by
  obtain⟨e,hL,h⟩:=qxf h
  obtain⟨e,hL,h⟩:=qwt hL h
  rw [qwp] at h
  obtain⟨hw,h⟩:=qqb h
  obtain⟨t,S,df⟩:=s
  obtain⟨ρ,hdf,hR⟩:=hs
  simp only at hdf hR
  refine hL _ rd _ r ρ t S hR.sl (hR.hp.res _) fun ρ' S' hp=>qrm h ⟨ρ',?_,?_⟩
  ·have:=hdf.step (d:=o.dst) hR.hp hw hp
   cases hd:o.dst with
   |none=>rw [hd] at this;exact this
   |some d=>rw [hd] at this;exact this
  ·have:=hR.step (d:=o.dst) hw hp
   cases hd:o.dst with
   |none=>rw [hd] at this;exact this
   |some d=>rw [hd] at this;exact this
structure Sm (E:Env) (rd:Option Nat) (N:Nat) (B:Bs) (c:Code) (Q:Exit→Conf→Prop) (C:Conf):Prop where
 run:∀ s,SatC B C s→AWp E rd N c (fun e s'=>∃ C',Q e C'∧SatC B C' s') s
@[reducible] def q0f (K : Conf → Prop) (Q : Exit → Conf → Prop) : Exit → Conf → Prop
 | .normal,C=>K C
 |e,C=>Q e C
@[reducible] def qkb (id : Nat) (Q : Exit → Conf → Prop) : Exit → Conf → Prop
 | .exit id',C=>bif Nat.beq id' id then Q .normal C else Q (.exit id') C
 |e,C=>Q e C
section
variable {E : Env} {rd : Option Nat} {N : Nat} {B : Bs} {C : Conf} {Q : Exit → Conf → Prop}
theorem q1u {x y:Code} (h:Sm E rd N B x (q0f (Sm E rd N B y Q) Q) C):Sm E rd N B (.seq x y) Q C:=⟨fun s hs=>
 q4 ((h.run s hs).mono fun e s' ⟨C',hq,hs'⟩=>by
  cases e with
  |normal=>exact hq.run s' hs'
  | _=>exact⟨C',hq,hs'⟩)⟩
theorem qxv {id:Nat} {c:Code} (h:Sm E rd N B c (qkb id Q) C):Sm E rd N B (.block id c) Q C:=⟨fun s hs=>
 za ((h.run s hs).mono fun e s' ⟨C',hq,hs'⟩=>by
  cases e with
  |exit id'=>
   simp only [qkb] at hq
   simp only [qka]
   cases hb:Nat.beq id' id with
   |true=>rw [hb] at hq;exact⟨C',hq,hs'⟩
   |false=>rw [hb] at hq;exact⟨C',hq,hs'⟩
  | _=>exact⟨C',hq,hs'⟩)⟩
theorem qzx {c:Operand} {x y:Code} {v:SV} (hv:sval N C.sl c=some v) (h:wayW (Sm E rd N B x Q C) (Sm E rd N B y Q C) v):Sm E rd N B (.cond c x y) Q C:=⟨fun s hs=>by
 obtain⟨b,hb,h⟩:=qx9 h
 obtain⟨t,S,df⟩:=s
 have ⟨ρ,hdf,hR⟩:=hs
 have he:=(qq (S:=S) (df:=df) hR.sl hv).trans (hb ρ)
 rcases h with⟨hc,h⟩ | ⟨hc,h⟩
 ·exact qt2 he hc (h.run _ hs)
 ·exact qt1 he hc (h.run _ hs)⟩
theorem qq3 {c:Code} {Q':Exit→Conf→Prop} (h:Sm E rd N B c Q' C) (hq:∀ e C',Q' e C'→Q e C'):Sm E rd N B c Q C:=⟨fun s hs=>
 (h.run s hs).mono fun e s' ⟨C',hq',hs'⟩=>⟨C',hq e C' hq',hs'⟩⟩
end
def wpC (E:Env) (rd:Option Nat) (N:Nat) (B:Bs) (bxs:List Nat):Code→(Exit→Conf→Prop)→Conf→Prop
 | .skip,Q,C=>Q .normal C
 | .region id ops false,Q,C=>qvt E N ops.toList bxs 0 ops.toList (Q .normal) C
 | .seq x y,Q,C=>wpC E rd N B bxs x (q0f (wpC E rd N B bxs y Q) Q) C
 | .cond c x y,Q,C=>(match sval N C.sl c with
  |some v=>wayW (wpC E rd N B bxs x Q C) (wpC E rd N B bxs y Q C) v
  |none=>False)
 | .block id c,Q,C=>wpC E rd N B bxs c (qkb id Q) C
 | .exit id,Q,C=>Q (.exit id) C
 | .ret,Q,C=>Q .ret C
 |c,Q,C=>Sm E rd N B c Q C
theorem qx8 {x y x' y':Prop} {v:SV} (hx:x→x') (hy:y→y') (h:wayW x y v):wayW x' y' v:=by
 cases v with
 |tt=>exact hx h
 |ff=>exact hy h
 |p q i=>exact⟨fun hq=>hx (h.1 hq),fun hq=>hy (h.2 hq)⟩
 |b c=>exact⟨fun hq=>hx (h.1 hq),fun hq=>hy (h.2 hq)⟩
 | _=>exact h.elim
theorem qi {E:Env} {rd:Option Nat} {N:Nat} {B:Bs} (bxs:List Nat):∀ {c:Code} {Q:Exit→Conf→Prop} {C:Conf},wpC E rd N B bxs c Q C→Sm E rd N B c Q C
 | .skip,Q,C,h=>⟨fun s hs=>zb ⟨C,h,hs⟩⟩
 | .exit id,Q,C,h=>⟨fun s hs=>jg ⟨C,h,hs⟩⟩
 | .ret,Q,C,h=>⟨fun s hs=>ze ⟨C,h,hs⟩⟩
 | .seq x y,Q,C,h=>q1u (qq3 (qi bxs (c:=x) h) fun e C' hq=>by
   cases e with
   |normal=>exact qi bxs (c:=y) hq
   | _=>exact hq)
 | .block id c,Q,C,h=>qxv (qi bxs (c:=c) h)
 | .cond c x y,Q,C,h=>by
  simp only [wpC] at h
  split at h
  ·rename_i v hv
   exact qzx hv (qx8 (fun h=>qi bxs (c:=x) h) (fun h=>qi bxs (c:=y) h) h)
  ·exact h.elim
 | .region id ops false,Q,C,h=>⟨fun s hs=>by
  have e:ops=ops.toList.toArray:=by simp
  rw [e]
  exact qn (qrm h hs)⟩
 | .region id ops true,Q,C,h=>h
 | .loop c,Q,C,h=>h
 | .rangeFunc _ _ _ _,Q,C,h=>h
 | .scope _,Q,C,h=>h
 | .label _,Q,C,h=>h
 | .goto _,Q,C,h=>h
 | .refuse _,Q,C,h=>h
mutual
def SV.ren (σ : List (Nat×Nat)):SV→SV
 | .bx k off=>match lkS σ k with
  |some j=>.bx j off
  |none=>.a (.bx 0 0 off)
 | .tp k=>match lkS σ k with
  |some j=>.tp j
  |none=>.a kg
 | .ag cs=>.ag (SV.rens σ cs)
 | .tu cs=>.tu (SV.rens σ cs)
 | .fn f xs ys=>.fn f (SV.rens σ xs) (SV.rens σ ys)
 | .ifc t x=>.ifc t (SV.ren σ x)
 |v=>v
def SV.rens (σ : List (Nat×Nat)):List SV→List SV
 | []=>[]
 |x::r=>SV.ren σ x::SV.rens σ r
end
def renR (σ : List (Nat×Nat)) (ρ : Nat→AV):Nat→AV:=fun k=>match lkS σ k with
 |some j=> ρ j
 |none=>kg
mutual
theorem ql5 (σ : List (Nat×Nat)) (ρ : Nat→AV):∀ v:SV,(v.ren σ).ev ρ = v.ev (renR σ ρ)
 | .a _=>rfl
 | .i _=>rfl
 | .s _=>rfl
 | .tt=>rfl
 | .ff=>rfl
 | .b _=>rfl
 | .p _ _=>rfl
 | .bx k off=>by
  simp only [SV.ren,SV.ev,renR]
  cases lkS σ k <;> rfl
 | .tp k=>by
  simp only [SV.ren,SV.ev,renR]
  cases lkS σ k <;> rfl
 | .ag cs=>by simp only [SV.ren,SV.ev,qb0 σ ρ cs]
 | .tu cs=>by simp only [SV.ren,SV.ev,qb0 σ ρ cs]
 | .fn f xs ys=>by simp only [SV.ren,SV.ev,qb0 σ ρ xs,qb0 σ ρ ys]
 | .ifc t x=>by simp only [SV.ren,SV.ev,ql5 σ ρ x]
theorem qb0 (σ : List (Nat×Nat)) (ρ : Nat→AV):∀ l:List SV,SV.evs ρ (SV.rens σ l)=SV.evs (renR σ ρ) l
 | []=>rfl
 |x::r=>by simp only [SV.rens,SV.evs,ql5 σ ρ x,qb0 σ ρ r]
end
structure Tl (x r:AV):Prop where
 ok:Wk x r
theorem qja (x:AV):Tl x x:=⟨w6 x⟩
theorem qk {x y:AV} (h:x=y):Tl x y:=⟨q3t h⟩
theorem q3g {sz:Nat}:Tl kg (.sl sz [] none):=⟨fun _ _ h=>qau h⟩
def evK (v:SV) (k:AV→Prop):Prop:=
 match v with
 | .a x=>k x
 | .i n=>k (Iv n)
 | .s l=>k (Sv l)
 | .b c=>k (Bv c)
 | .p q h=>k (Bv (@decide q h))
 |v=>k (v.ev fun _=>kg)
theorem q2q (v:SV) (k:AV→Prop):evK v k=k (v.ev fun _=>kg):=by
 cases v <;> rfl
def covW (H:Nat→Option SR) (v:Option SV) (σ : List (Nat×Nat)) (u:SV):Prop:=
 match v with
 |none=>False
 |some v=>match u.all (fun _=>false) with
  |true=>(match frz H v with
   |some x=>evK u fun y=>Tl x y
   |none=>False)
  |false=>∀ ρ,v.ev ρ = (u.ren σ).ev ρ
def entS (H:Nat→Option SR) (sl:List (Nat×SV)) (σ : List (Nat×Nat)):List (Nat×SV)→Prop
 | []=>True
 |(d,v)::r=>covW H (lkS sl d) σ v∧entS H sl σ r
def entR (H:Nat→Option SR) (σ : List (Nat×Nat)) (k:Nat) (r:SR):Prop:=
 match lkS σ k,r with
 |some j,.cells T cs=>(match H j with
  |some (.cells T' cs')=>T'=T∧∀ ρ,SV.evs ρ cs'=SV.evs ρ (SV.rens σ cs)
  | _=>False)
 |some j,.tip sz T xs=>(match H j with
  |some (.tip sz' T' xs')=>(sz'=sz∧T'=T)∧xs'=xs
  | _=>False)
 |none,.tip _ _ xs=>xs=[]
 |some j,.own sz T xs=>(match H j with
  |some (.own sz' T' xs')=>(sz'=sz∧T'=T)∧xs'=xs
  | _=>False)
 |none,.own _ _ xs=>xs=[]
 |none,.cells _ _=>False
 |some j,.obj P=>(match H j with
  |some (.obj P')=>∀ x c,P' x c→P x c
  | _=>False)
 |none,.obj _=>False
 |some j,.rows T cs=>(match H j with
  |some (.rows T' cs')=>T'=T∧∀ ρ,SV.evs ρ cs'=SV.evs ρ (SV.rens σ cs)
  | _=>False)
 |none,.rows _ cs=>cs=[]
def entH (H:Nat→Option SR) (σ : List (Nat×Nat)):List (Nat×Option SR)→Prop
 | []=>True
 |(k,some r)::l=>entR H σ k r∧entH H σ l
 |(_,none)::l=>entH H σ l
def injN:List (Nat×Nat)→Bool
 | []=>true
 |(_,j)::r=>r.all (fun q=> !Nat.beq q.2 j) && injN r
def fltN (hp:List (Nat×Option SR)):List (Nat×Nat)→List (Nat×Nat)
 | []=>[]
 |(k,j)::r=>match lkS hp k with
  |some _=>(k,j)::fltN hp r
  |none=>fltN hp r
theorem qj8 {hp:List (Nat×Option SR)} {k:Nat} {x:Option SR} (hk:lkS hp k=some x):∀ σ : List (Nat×Nat),lkS (fltN hp σ) k=lkS σ k
 | []=>rfl
 |(i,j)::r=>by
  have ih:=qj8 hk r
  simp only [fltN]
  by_cases e:i=k
  ·subst e
   rw [hk]
   simp [lkS]
  ·cases h:lkS hp i with
   |none=>simp only [lkS,va e,cond_false];exact ih
   |some y=>simp only [lkS,va e,cond_false];exact ih
def okC (C:Conf):Bool:=C.sl.all (fun q=>q.2.all fun k=>Nat.blt k C.nx) && C.hp.all (fun q=>Nat.blt q.1 C.nx && match q.2 with
 |some r=>r.all fun k=>Nat.blt k C.nx
 |none=>true)
def rigN (σ : List (Nat×Nat)):Nat→Bool
 | 0=>true
 |n+1=>(match lkS σ n with
  |some j=>Nat.beq j n
  |none=>false) && rigN σ n
def idN:Nat→List (Nat×Nat)
 | 0=>[]
 |n+1=>(n,n)::idN n
theorem qkj {σ : List (Nat×Nat)}:∀ {n:Nat},rigN σ n=true→∀ k,k<n→lkS σ k=some k
 | 0,_,k,hk=>by omega
 |n+1,h,k,hk=>by
  simp only [rigN,Bool.and_eq_true] at h
  by_cases e:k=n
  ·subst e
   have h1:=h.1
   split at h1
   ·rename_i j hj
    rw [hj,Nat.eq_of_beq_eq_true h1]
   ·simp at h1
  ·exact qkj h.2 k (by omega)
def EntC (σ : List (Nat×Nat)) (C C':Conf):Prop:=entS (hpF C.hp) C.sl σ C'.sl∧entH (hpF C.hp) σ C'.hp∧(injN (fltN C'.hp σ) && okC C')=true
mutual
def prs:SV→SV→List (Nat×Nat)
 | .tp k,.tp j=>[(k,j)]
 | .bx k _,.bx j _=>[(k,j)]
 | .ag a,.ag b=>prsL a b
 | .tu a,.tu b=>prsL a b
 | .fn _ a b,.fn _ c d=>prsL a c++prsL b d
 | .ifc _ x,.ifc _ y=>prs x y
 | _,_=>[]
def prsL:List SV→List SV→List (Nat×Nat)
 |x::r,y::s=>prs x y++prsL r s
 | _,_=>[]
end
def addS:List (Nat×Nat)→List (Nat×Nat)→List (Nat×Nat)
 |acc,[]=>acc
 |acc,(k,j)::r=>match lkS acc k with
  |some _=>addS acc r
  |none=>addS ((k,j)::acc) r
def sigS (sl:List (Nat×SV)):List (Nat×SV)→List (Nat×Nat)
 | []=>[]
 |(d,v)::r=>(match lkS sl d with
  |some u=>prs v u
  |none=>[])++sigS sl r
def sigH (H:Nat→Option SR) (σ : List (Nat×Nat)):List (Nat×Option SR)→List (Nat×Nat)
 | []=>[]
 |(k,some (.cells _ cs))::r=>(match lkS σ k with
  |some j=>(match H j with
   |some (.cells _ ds)=>prsL cs ds
   | _=>[])
  |none=>[])++sigH H σ r
 | _::r=>sigH H σ r
def fcP:List (Nat×Nat)→(List (Nat×Nat)→Prop)→Prop
 | [],k=>k []
 |(a,b)::r,k=>fcP r fun r=>k ((a,b)::r)
theorem qpm:∀ (l:List (Nat×Nat)) (k:List (Nat×Nat)→Prop),fcP l k=k l
 | [],_=>rfl
 |(a,b)::r,k=>by simp only [fcP,qpm r]
def EntA (n0:Nat) (C C':Conf):Prop:=
 fcP (addS (idN n0) (sigS C.sl C'.sl)) fun a=>fcP (addS a (sigH (hpF C.hp) a C'.hp)) fun b=>fcP (addS b (sigH (hpF C.hp) b C'.hp)) fun σ=>(rigN σ n0 && Nat.ble n0 C'.nx)=true∧EntC σ C C'
theorem EntA.ent {n0:Nat} {C C':Conf} (h:EntA n0 C C'):∃ σ,(rigN σ n0 && Nat.ble n0 C'.nx)=true∧EntC σ C C':=by
 unfold EntA at h
 simp only [qpm] at h
 exact⟨_,h⟩
theorem qpj {H:Nat→Option SR} {sl:List (Nat×SV)} {σ : List (Nat×Nat)}:∀ {l:List (Nat×SV)} {d:Nat} {v:SV},entS H sl σ l→lkS l d=some v→covW H (lkS sl d) σ v
 | [],_,_,_,h=>by simp [lkS] at h
 |(i,x)::r,d,v,h,hl=>by
  unfold lkS at hl
  cases hb:Nat.beq i d with
  |true=>
   rw [hb] at hl
   simp only [cond_true,Option.some.injEq] at hl
   subst hl
   rw [← Nat.eq_of_beq_eq_true hb]
   exact h.1
  |false=>rw [hb] at hl;exact qpj h.2 hl
theorem qdg {H:Nat→Option SR} {σ : List (Nat×Nat)}:∀ {l:List (Nat×Option SR)} {k:Nat} {r:SR},entH H σ l→lkS l k=some (some r)→entR H σ k r
 | [],_,_,_,h=>by simp [lkS] at h
 |(i,none)::l,k,r,h,hl=>by
  unfold lkS at hl
  cases hb:Nat.beq i k with
  |true=>rw [hb] at hl;simp at hl
  |false=>rw [hb] at hl;exact qdg (l:=l) h hl
 |(i,some x)::l,k,r,h,hl=>by
  unfold lkS at hl
  cases hb:Nat.beq i k with
  |true=>
   rw [hb] at hl
   simp only [cond_true,Option.some.injEq] at hl
   subst hl
   rw [← Nat.eq_of_beq_eq_true hb]
   exact h.1
  |false=>rw [hb] at hl;exact qdg (l:=l) h.2 hl
theorem qp0:∀ {σ : List (Nat×Nat)} {k k' j:Nat},injN σ = true→lkS σ k=some j→lkS σ k'=some j→k=k'
 | [],_,_,_,_,h,_=>by simp [lkS] at h
 |(i,x)::r,k,k',j,h,h1,h2=>by
  simp only [injN,Bool.and_eq_true] at h
  have no:∀ q,lkS r q=some x→False:=fun q hq=>by
   have:=List.all_eq_true.1 h.1 _ (vr hq)
   simp at this
  unfold lkS at h1 h2
  cases hb:Nat.beq i k with
  |true=>
   rw [hb] at h1
   simp only [cond_true,Option.some.injEq] at h1
   subst h1
   cases hb':Nat.beq i k' with
   |true=>rw [← Nat.eq_of_beq_eq_true hb,← Nat.eq_of_beq_eq_true hb']
   |false=>rw [hb'] at h2;exact (no _ h2).elim
  |false=>
   rw [hb] at h1
   cases hb':Nat.beq i k' with
   |true=>
    rw [hb'] at h2
    simp only [cond_true,Option.some.injEq] at h2
    subst h2
    exact (no _ h1).elim
   |false=>rw [hb'] at h2;exact qp0 h.2 h1 h2
theorem x2 {hp:List (Nat×Option SR)} {k:Nat} {r:SR} (h:hpF hp k=some r):lkS hp k=some (some r):=by
 unfold hpF at h
 cases hl:lkS hp k with
 |none=>rw [hl] at h;simp at h
 |some x=>rw [hl] at h;simp only at h;rw [h]
theorem EntC.sat {σ : List (Nat×Nat)} {C C':Conf} {S0:List AObj} {F:Nat→Prop} {ρ t:Nat→AV} {S:List AObj} (h:EntC σ C C') (hR:SatR S0 F C ρ t S):∃ t',(∀ d,Wk (t d) (t' d))∧SatR S0 F C' (renR σ ρ) t' S:=by
 obtain⟨hs,hh,hb⟩:=h
 simp only [Bool.and_eq_true,okC] at hb
 obtain⟨hi,hb1,hb2⟩:=hb
 refine⟨fun d=>match lkS C'.sl d with|some v=>v.ev (renR σ ρ)|none=>t d,fun d=>?_,⟨fun d v hd=>by simp only [hd],⟨fun k r hk=>?_,fun k k' r r' hne h1 h2 o ho=>?_⟩,fun k r hk o ho=>?_,hR.low,hR.len,fun d v hd=>?_,fun k r hk=>?_⟩⟩
 ·simp only
  cases hd:lkS C'.sl d with
  |none=>exact w6 _
  |some v=>
   have hc:=qpj hs hd
   unfold covW at hc
   split at hc
   ·exact hc.elim
   ·rename_i u hu
    rw [hR.sl d u hu]
    simp only
    split at hc
    ·rename_i hall
     split at hc
     ·rename_i x hx
      rw [q2q] at hc
      have e:v.ev (renR σ ρ)=v.ev fun _=>kg:=qax (f:=fun _=>false) (fun k hk=>by simp at hk) _ hall
      rw [e]
      exact fun G y hy=>hc.ok G y (qeu hR.hp u x hx G y hy)
     ·exact hc.elim
    ·rw [hc ρ,ql5]
     exact w6 _
 ·have hc:=qdg hh (x2 hk)
  unfold entR at hc
  unfold renR
  split at hc
  ·rename_i j T cs hj
   rw [hj]
   split at hc
   ·rename_i T' cs' hH
    obtain⟨rfl,hc⟩:=hc
    obtain⟨o,v,h1,h2,h0⟩:=hR.hp.ok j _ hH
    refine⟨o,v,h1,?_,h0⟩
    rw [h2,hc ρ,qb0]
    rfl
   ·exact hc.elim
  ·rename_i j sz T xs hj
   rw [hj]
   split at hc
   ·rename_i sz' T' xs' hH
    obtain⟨⟨rfl,rfl⟩,rfl⟩:=hc
    exact hR.hp.ok j _ hH
   ·exact hc.elim
  ·rename_i sz T xs hj
   rw [hj]
   subst hc
   exact .inl (.inl ⟨rfl,rfl⟩)
  ·rename_i j sz T xs hj
   rw [hj]
   split at hc
   ·rename_i sz' T' xs' hH
    obtain⟨⟨rfl,rfl⟩,rfl⟩:=hc
    exact hR.hp.ok j _ hH
   ·exact hc.elim
  ·rename_i sz T xs hj
   rw [hj]
   subst hc
   exact .inl ⟨rfl,qqd none⟩
  ·exact hc.elim
  ·rename_i j P hj
   rw [hj]
   split at hc
   ·rename_i P' hH
    obtain⟨o,x,h1,h2,h3,h4⟩:=hR.hp.ok j _ hH
    exact⟨o,x,h1,h2,h3,hc x _ h4⟩
   ·exact hc.elim
  ·exact hc.elim
  ·rename_i j T cs hj
   rw [hj]
   split at hc
   ·rename_i T' cs' hH
    obtain⟨rfl,hc⟩:=hc
    have h1:=hR.hp.ok j _ hH
    show OwnS _ 1 _ (SV.evs (renR σ ρ) cs) _
    rw [← qb0,← hc ρ]
    exact h1
   ·exact hc.elim
  ·rename_i T cs hj
   rw [hj]
   subst hc
   exact .inl ⟨rfl,qqd none⟩
 ·have key:∀ k r,hpF C'.hp k=some r→∀ o,z1 (renR σ ρ k)=some o→∃ j r',lkS σ k=some j∧hpF C.hp j=some r'∧z1 (ρ j)=some o:=fun k r hk o ho=>by
   have hc:=qdg hh (x2 hk)
   unfold renR at ho
   cases hj:lkS σ k with
   |none=>rw [hj] at ho;simp [z1] at ho
   |some j=>
    rw [hj] at ho
    unfold entR at hc
    rw [hj] at hc
    cases r with
    |cells T cs=>
     simp only at hc
     split at hc
     ·rename_i hH;exact⟨j,_,rfl,hH,ho⟩
     ·exact hc.elim
    |tip sz T xs=>
     simp only at hc
     split at hc
     ·rename_i hH;exact⟨j,_,rfl,hH,ho⟩
     ·exact hc.elim
    |own sz T xs=>
     simp only at hc
     split at hc
     ·rename_i hH;exact⟨j,_,rfl,hH,ho⟩
     ·exact hc.elim
    |obj P=>
     simp only at hc
     split at hc
     ·rename_i hH;exact⟨j,_,rfl,hH,ho⟩
     ·exact hc.elim
    |rows T cs=>
     simp only at hc
     split at hc
     ·rename_i hH;exact⟨j,_,rfl,hH,ho⟩
     ·exact hc.elim
  obtain⟨j,q,g1,g2,g3⟩:=key k r h1 o ho
  intro ho'
  obtain⟨j',q',g4,g5,g6⟩:=key k' r' h2 o ho'
  exact hR.hp.sep j j' q q' (fun e=>hne (qp0 hi ((qj8 (x2 h1) σ).trans g1) ((qj8 (x2 h2) σ).trans (by rw [e];exact g4)))) g2 g5 o g3 g6
 ·have hc:=qdg hh (x2 hk)
  unfold renR at ho
  cases hj:lkS σ k with
  |none=>rw [hj] at ho;simp [z1] at ho
  |some j=>
   rw [hj] at ho
   unfold entR at hc
   rw [hj] at hc
   cases r with
   |cells T cs=>
    simp only at hc
    split at hc
    ·rename_i hH;exact hR.own j _ hH o ho
    ·exact hc.elim
   |tip sz T xs=>
    simp only at hc
    split at hc
    ·rename_i hH;exact hR.own j _ hH o ho
    ·exact hc.elim
   |own sz T xs=>
    simp only at hc
    split at hc
    ·rename_i hH;exact hR.own j _ hH o ho
    ·exact hc.elim
   |obj P=>
    simp only at hc
    split at hc
    ·rename_i hH;exact hR.own j _ hH o ho
    ·exact hc.elim
   |rows T cs=>
    simp only at hc
    split at hc
    ·rename_i hH;exact hR.own j _ hH o ho
    ·exact hc.elim
 ·exact List.all_eq_true.1 hb1 _ (vr hd)
 ·have:=List.all_eq_true.1 hb2 _ (vr (x2 hk))
  simp only [Bool.and_eq_true] at this
  exact⟨v7 this.1,this.2⟩
section
variable {E : Env} {rd : Option Nat} {N : Nat} {B : Bs} {C : Conf} {Q : Exit → Conf → Prop}
theorem Frm.ren {B:Bs} {C C':Conf} {ρ : Nat→AV} {df:List Nat} {S:List AObj} {σ : List (Nat×Nat)} (h:Frm B C ρ df S) (hr:(rigN σ B.n0 && Nat.ble B.n0 C'.nx)=true):Frm B C' (renR σ ρ) df S:=by
 simp only [Bool.and_eq_true] at hr
 refine⟨h.dm,h.nd,fun k hk=>?_,Nat.le_of_ble_eq_true hr.2,h.dz⟩
 unfold renR
 rw [qkj hr.1 k hk]
 exact h.rig k hk
theorem qwc {c:Code} {Q:Exit→AS→Prop} {t t':Nat→AV} {S:List AObj} {df:List Nat} (hw:∀ d,Wk (t d) (t' d)) (h:AWp E rd N c Q ⟨t',S,df⟩):AWp E rd N c Q ⟨t,S,df⟩:=
 ⟨fun B0 w0 G a w hL hI=>h.run B0 w0 G a w hL ⟨hI.agree,hI.defers,hI.size,fun i y hy=>hw i G y (hI.tmps i y hy)⟩⟩
theorem vv {X:Type} {c:Code} (I:X→Conf) (P:X→Prop) (μ : X→Nat) (x0:X) (h0:P x0) (he:EntA B.n0 C (I x0))
  (hr:∀ x,P x→Sm E rd N B c (fun e C'=>match e with
   | .normal=>∃ x',P x'∧μ x' < μ x∧EntA B.n0 C' (I x')
   |e=>Q e C') (I x)):Sm E rd N B (.loop c) Q C:=⟨fun s hs=>by
 refine xk (σ:=X) (fun x s=>P x∧∃ t',(∀ d,Wk (s.t d) (t' d))∧SatC B (I x) ⟨t',s.st,s.df⟩) μ x0 ?_ ?_
 ·obtain⟨t,S,df⟩:=s
  obtain⟨ρ,hdf,hR⟩:=hs
  simp only at hdf hR
  obtain⟨σ0,hr0,he⟩:=he.ent
  obtain⟨t',hw,hR'⟩:=he.sat hR
  exact⟨h0,t',hw,_,hdf.ren hr0,hR'⟩
 ·rintro x ⟨t,S,df⟩ ⟨hP,t',hw,hs⟩
  simp only at hw hs
  refine qwc hw (((hr x hP).run ⟨t',S,df⟩ hs).mono fun e s' ⟨C',hq,hs'⟩=>?_)
  cases e with
  |normal=>
   obtain⟨x',hP',hlt,he'⟩:=hq
   obtain⟨t2,S2,df2⟩:=s'
   obtain⟨ρ2,hdf2,hR2⟩:=hs'
   simp only at hdf2 hR2
   obtain⟨σ,hr2,he'⟩:=he'.ent
   obtain⟨t3,hw3,hR3⟩:=he'.sat hR2
   exact⟨x',⟨hP',t3,hw3,_,hdf2.ren hr2,hR3⟩,hlt⟩
  | _=>exact⟨C',hq,hs'⟩⟩
end
def qb1 (P:Program) (N:Nat) (C:Conf):ResultVar→Option SV
 | .tmp t=>sval N C.sl (.tmp t)
 | .cell a T=>(match sval N C.sl (.tmp a),tyOf P T with
  |some (.bx b off),some (sz,agg)=>(match hpF C.hp b with
   |some (.cells _ cs)=>qg1 sz agg off cs
   | _=>none)
  | _,_=>none)
def resV (P:Program) (N:Nat) (C:Conf):List ResultVar→Option SV
 | []=>some (.tu [])
 | [a]=>qb1 P N C a
 | [a,b]=>(match qb1 P N C a,qb1 P N C b with
  |some x,some y=>some (.tu [x,y])
  | _,_=>none)
 | [a,b,c]=>(match qb1 P N C a,qb1 P N C b,qb1 P N C c with
  |some x,some y,some z=>some (.tu [x,y,z])
  | _,_,_=>none)
 | [a,b,c,d]=>(match qb1 P N C a,qb1 P N C b,qb1 P N C c,qb1 P N C d with
  |some x,some y,some z,some u=>some (.tu [x,y,z,u])
  | _,_,_,_=>none)
 | _=>none
theorem q1r {G:Gh} {x y z p:AV} {v u t q:Value} (h1:Rel G x v) (h2:Rel G y u) (h3:Rel G z t) (h4:Rel G p q):Rel G (.tu [x,y,z,p]) (.tuple #[v,u,t,q]):=
 .tu _ _ rfl fun i x' y' hx hy=>by
  match i with
  | 0=>simp at hx hy;subst hx;subst hy;exact h1
  | 1=>simp at hx hy;subst hx;subst hy;exact h2
  | 2=>simp at hx hy;subst hx;subst hy;exact h3
  | 3=>simp at hx hy;subst hx;subst hy;exact h4
  |i+4=>simp at hx
def qq0 (r:ResultVar) (tm:Array Value):Sem Value:=
 match r with
 | .tmp t=>pure (tm.getD t undef)
 | .cell a t=>do loadVar t (← asAddr (tm.getD a undef))
theorem qel (fn:Func) (tm:Array Value):results fn tm=(do
  let vs ← fn.results.mapM fun r=>qq0 r tm
  pure (if h:vs.size=1 then vs[0] else .tuple vs)):=by
 unfold results
 congr 1
theorem qai {E:Env} {S0:List AObj} {F:Nat→Prop} {C:Conf} {ρ t:Nat→AV} {S:List AObj} {N:Nat} (hR:SatR S0 F C ρ t S) {r:ResultVar} {v:SV} (h:qb1 E.P N C r=some v) {B0:Nat} {w0:World} {G:Gh} {a:Act} {w:World} (hI:Inv B0 w0 N G ⟨t,S,[]⟩ a w) :
  ∃ u,(qq0 r a.tmps).run E.P w = .ok u w∧Rel G (v.ev ρ) u:=by
 cases r with
 |tmp i=>
  simp only [qb1] at h
  refine⟨a.tmps.getD i undef,rfl,?_⟩
  have:=hI.rd i
  rw [qq hR.sl h] at this
  exact this
 |cell i T=>
  simp only [qb1] at h
  split at h
  ·rename_i b off sz agg hb ht
   split at h
   ·rename_i T' cs hH
    obtain⟨o,ver,h1,h2,_⟩:=hR.hp.ok b _ hH
    have he:=hI.rd i
    rw [qq hR.sl hb] at he
    simp only [SV.ev,h1,bxAt] at he
    generalize hv:a.tmps.getD i undef=y at he
    cases he with
    |bx _ _ _ bl hn hv' hbl=>
     obtain⟨_,g1,g2,g3,c,g4,g5,g6⟩:=hI.agree.ob o _ h2
     have hb:=hbl g1
     rw [hb] at g4
     obtain⟨u,hrun,hRel⟩:=qaq (w:=w) (G:=G) (b:=bl) (off:=off) (off':=off) ht (fun i x hx hi=>by
      obtain⟨y,hy⟩:=wy hx (Nat.le_of_eq g5)
      refine⟨y,?_,g6 i x y hx hy⟩
      simp [World.cell?,g4,show off+(i - off)=i by omega,hy]) (qke ρ h)
     refine⟨u,?_,hRel⟩
     simp [qq0,hv,asAddr,hrun]
   ·simp at h
  ·simp at h
theorem qtj {E:Env} {S0:List AObj} {F:Nat→Prop} {C:Conf} {ρ t:Nat→AV} {S:List AObj} {fn:Func} (hR:SatR S0 F C ρ t S) {v:SV} (h:resV E.P fn.ntmps C fn.results.toList=some v):ARes E fn ⟨t,S,[]⟩ (v.ev ρ):=by
 refine⟨fun B0 w0 G a w hL hI=>?_⟩
 cases hr:fn.results.toList with
 |nil=>
  rw [hr] at h
  simp only [resV,Option.some.injEq] at h
  subst h
  have hr':fn.results = #[]:=by simpa using hr
  exact (qcu hr').run B0 w0 G a w hL hI
 |cons r1 l1=>
  cases l1 with
  |nil=>
   rw [hr] at h
   obtain⟨u,h1,h2⟩:=qai hR h hI
   have hr':fn.results = #[r1]:=by rw [← Array.toList_inj];exact hr
   refine⟨u,?_,h2⟩
   rw [qel,hr']
   simp [h1]
  |cons r2 l2=>
   cases l2 with
   |nil=>
    rw [hr] at h
    simp only [resV] at h
    split at h
    ·rename_i x y hx hy
     simp only [Option.some.injEq] at h
     subst h
     obtain⟨u1,h1,h2⟩:=qai hR hx hI
     obtain⟨u2,h3,h4⟩:=qai hR hy hI
     have hr':fn.results = #[r1,r2]:=by rw [← Array.toList_inj];exact hr
     refine⟨.tuple #[u1,u2],?_,qmv h2 h4⟩
     rw [qel,hr']
     simp [h1,h3]
    ·simp at h
   |cons r3 l3=>
    cases l3 with
    |nil=>
     rw [hr] at h
     simp only [resV] at h
     split at h
     ·rename_i x y z hx hy hz
      simp only [Option.some.injEq] at h
      subst h
      obtain⟨u1,h1,h2⟩:=qai hR hx hI
      obtain⟨u2,h3,h4⟩:=qai hR hy hI
      obtain⟨u3,h5,h6⟩:=qai hR hz hI
      have hr':fn.results = #[r1,r2,r3]:=by rw [← Array.toList_inj];exact hr
      refine⟨.tuple #[u1,u2,u3],?_,qti h2 h4 h6⟩
      rw [qel,hr']
      simp [h1,h3,h5]
     ·simp at h
    |cons r4 l4=>
     cases l4 with
     |nil=>
      rw [hr] at h
      simp only [resV] at h
      split at h
      ·rename_i x y z p hx hy hz hp
       simp only [Option.some.injEq] at h
       subst h
       obtain⟨u1,h1,h2⟩:=qai hR hx hI
       obtain⟨u2,h3,h4⟩:=qai hR hy hI
       obtain⟨u3,h5,h6⟩:=qai hR hz hI
       obtain⟨u4,h7,h8⟩:=qai hR hp hI
       have hr':fn.results = #[r1,r2,r3,r4]:=by rw [← Array.toList_inj];exact hr
       refine⟨.tuple #[u1,u2,u3,u4],?_,q1r h2 h4 h6 h8⟩
       rw [qel,hr']
       simp [h1,h3,h5,h7]
      ·simp at h
     |cons r5 l5=>rw [hr] at h;simp [resV] at h
def qu2 (P:Program) (ts:List TypeId) (x:AV) (k:AV→Prop):Prop:=
 match ts,x with
 | [t],x=>nrmK P t x k
 |ts,.tu xs=>zipK P ts xs fun l=>k (.tu l)
 | _,x=>k x
theorem qzf {P:Program} {ts:List TypeId} {x:AV} {k:AV→Prop} (h:qu2 P ts x k):∃ y,Wk x y∧k y:=by
 unfold qu2 at h
 split at h
 ·exact qmp h
 ·obtain⟨m,h1,h2⟩:=qtr h
  exact⟨_,q0i h1.1 h1.2,h2⟩
 ·exact⟨_,w6 _,h⟩
def ansW (P:Program) (fn:Func) (C:Conf) (k:AV→Prop):Prop:=
 match resV P fn.ntmps C fn.results.toList with
 |some v=>(match frz (hpF C.hp) v with
  |some x=>qu2 P fn.resultTypes.toList x k
  |none=>False)
 |none=>False
theorem qst {E:Env} {S0:List AObj} {F:Nat→Prop} {C:Conf} {ρ t:Nat→AV} {S:List AObj} {fn:Func} {k:AV→Prop} (hR:SatR S0 F C ρ t S) (h:ansW E.P fn C k):∃ y,ARes E fn ⟨t,S,[]⟩ y∧k y:=by
 unfold ansW at h
 split at h
 ·rename_i v hv
  split at h
  ·rename_i x hx
   obtain⟨y,h1,h2⟩:=qzf h
   exact⟨y,qas (qtj hR hv) fun G z hz=>h1 G z (qeu hR.hp v x hx G z hz),h2⟩
  ·exact h.elim
 ·exact h.elim
def retW (P:Program) (fn:Func) (r0:AV) (e:Exit) (C:Conf):Prop:=
 match e with
 | .normal=>ansW P fn C fun y=>Tl y r0
 | .ret=>ansW P fn C fun y=>Tl y r0
 | _=>False
theorem qbo {α : Type}:∀ {l:List α} {i0 i:Nat} {v : α},lkS (jp i0 l) i=some v→∃ j,i=i0+j∧l[j]? = some v
 | [],_,_,_,h=>by simp [jp,lkS] at h
 |x::r,i0,i,v,h=>by
  simp only [jp,lkS] at h
  cases hb:Nat.beq i0 i with
  |true=>
   rw [hb] at h
   simp only [cond_true,Option.some.injEq] at h
   subst h
   exact⟨0,(Nat.eq_of_beq_eq_true hb).symm,rfl⟩
  |false=>
   rw [hb] at h
   obtain⟨j,h1,h2⟩:=qbo h
   exact⟨j+1,by omega,by simpa using h2⟩
def numK {α : Type}:Nat→List α→(List (Nat×α)→Prop)→Prop
 | _,[],k=>k []
 |i,x::r,k=>numK (i+1) r fun l=>k ((i,x)::l)
theorem qi4 {α : Type}:∀ (l:List α) (i:Nat) (k:List (Nat×α)→Prop),numK i l k=k (jp i l)
 | [],_,_=>rfl
 |x::r,i,k=>by rw [numK,qi4 r];rfl
theorem qed {E:Env} {fn:Func} {R:AV→List AObj→Prop} {S0:List AObj} {F:Nat→Prop} {C:Conf} {ρ t:Nat→AV}:∀ {df:List Nat} {S:List AObj},SatR S0 F C ρ t S→(∀ d∈df,S[d]? = some .dfr∧S0.length≤d)→df.Nodup→(∀ S',SatR S0 F C ρ t S'→ARet E fn R ⟨t,S',[]⟩)→ARet E fn R ⟨t,S,df⟩
 | [],S,hR,_,_,h=>h S hR
 |d::df,S,hR,hm,hn,h=>by
  have hd:=hm d (by simp)
  have hn':=List.nodup_cons.1 hn
  refine qv4 rfl hd.1 (qed (hR.dead hd.1 hd.2) (fun x hx=>?_) hn'.2 h)
  have hne:d≠x:=fun e=>hn'.1 (e▸hx)
  simp only
  rw [List.getElem?_set_ne hne]
  exact hm x (List.mem_cons_of_mem _ hx)
theorem wz {E:Env} {f:FuncId} {fn:Func} {c:Code} {args:List AV} {st:List AObj} {r0:AV} (vs:List SV) (hp:Pure r0) (hf:E.P.funcs[f]? = some fn) (hb:fn.body=some c) (hn:Nat.ble args.length fn.ntmps=true) (hv:∀ ρ,SV.evs ρ vs=args) (hc:okC ⟨jp 0 vs,[],0⟩=true)
  (h:∀ S0,numK 0 vs fun sl=>Sm E none fn.ntmps ⟨S0,fun _=>False,fun _=>kg,0,False⟩ c (retW E.P fn r0) ⟨sl,[],0⟩):qp E f args st fun r st'=>r=r0∧st'=st:=by
 simp only [qi4] at h
 refine zl hp (qw hf hb (Nat.le_of_ble_eq_true hn) ?_)
 have hst:SatC ⟨st++[],fun _=>False,fun _=>kg,0,False⟩ ⟨jp 0 vs,[],0⟩ ⟨argT args,st++[],[]⟩:=by
  refine⟨fun _=>kg,⟨nofun,List.nodup_nil,fun _ _=>rfl,Nat.le_refl _,nofun⟩,⟨fun d v hd=>?_,⟨fun k r hk=>?_,fun k k' r r' _ hk=>?_⟩,fun k r hk=>?_,fun _ _ _=>rfl,Nat.le_refl _,fun d v hd=>?_,fun k r hk=>?_⟩⟩
  ·obtain⟨j,h1,h2⟩:=qbo hd
   have:args[j]? = some (v.ev fun _=>kg):=by rw [← hv fun _=>kg,wt,List.getElem?_map,h2];rfl
   rw [h1,Nat.zero_add]
   simp only [argT,List.getD,this,Option.getD_some]
  ·simp [hpF,lkS] at hk
  ·simp [hpF,lkS] at hk
  ·simp [hpF,lkS] at hk
  ·simp only [okC,Bool.and_eq_true] at hc
   exact List.all_eq_true.1 hc.1 _ (vr hd)
  ·simp [hpF,lkS] at hk
 refine ((h (st++[])).run _ hst).mono fun e s' ⟨C',hq,hs'⟩=>?_
 obtain⟨t,S,df⟩:=s'
 obtain⟨ρ,hdf,hR⟩:=hs'
 simp only at hdf hR
 have hdm:=hdf.dm
 have hnd:=hdf.nd
 have hl:=hR.len
 have fin:ansW E.P fn C' (fun y=>Tl y r0)→ARet E fn (fun r st2=>r=r0∧∃ ext,st2=st++ext) ⟨t,S,df⟩:=fun h=>by
  refine qed hR (fun x hx=>hdm x hx) hnd fun S' hR'=>?_
  obtain⟨y,h1,h2⟩:=qst hR' h
  refine qm rfl (qas h1 h2.ok) ⟨rfl,?_⟩
  have hl:=hR'.len
  rw [List.append_nil] at hl
  exact qgt hl fun k hk=>by
   have:=hR'.low k (by simpa using hk) (fun h=>h)
   rw [List.append_nil] at this
   exact this
 cases e with
 |normal=>exact fin hq
 |ret=>exact fin hq
 | _=>exact hq.elim
end Go.Av
namespace Go.Av
open Go Go.RowKit
def cf {α : Type} (L:Nat→Bool):Nat→List (List (Nat×α))→List (Nat×α)→List (Nat×α)
 | _,[],base=>base
 |i,c::r,base=>cf L (i+1) r (bif L i then c++base else base)
def xp {α : Type} (L:Nat→Bool) (k:Nat):Nat→List (List (Nat×α))→Option α
 | _,[]=>none
 |i,c::r=>match xp L k (i+1) r with
  |some v=>some v
  |none=>bif L i then lkS c k else none
theorem qbx {α : Type} (L:Nat→Bool) (k:Nat):∀ (i:Nat) (chs:List (List (Nat×α))) (base:List (Nat×α)),lkS (cf L i chs base) k=match xp L k i chs with|some v=>some v|none=>lkS base k
 | _,[],_=>rfl
 |i,c::r,base=>by
  simp only [cf,xp]
  rw [qbx L k (i+1) r]
  cases xp L k (i+1) r with
  |some v=>rfl
  |none=>
   cases L i with
   |true=>simp only [cond_true];rw [qbn];cases lkS c k <;> rfl
   |false=>rfl
theorem qa7 {α : Type} {L L':Nat→Bool} {k:Nat}:∀ {i:Nat} {chs:List (List (Nat×α))},(∀ j c,chs[j]? = some c→lkS c k≠none→L (i+j)=L' (i+j))→xp L k i chs=xp L' k i chs
 | _,[],_=>rfl
 |i,c::r,h=>by
  simp only [xp]
  rw [qa7 (L:=L) (L':=L') (i:=i+1) (chs:=r) fun j c hc hl=>by
   have:=h (j+1) c (by simpa using hc) hl
   rw [show i+1+j=i+(j+1) by omega]
   exact this]
  cases xp L' k (i+1) r with
  |some v=>rfl
  |none=>
   simp only
   cases hl:lkS c k with
   |none=>cases L i <;> cases L' i <;> rfl
   |some v=>
    have:=h 0 c rfl (by rw [hl];simp)
    rw [Nat.add_zero] at this
    rw [this]
theorem qeg {α : Type} {L:Nat→Bool} {k:Nat} {v : α}:∀ {i:Nat} {chs:List (List (Nat×α))},xp L k i chs=some v→∃ j c,chs[j]? = some c∧L (i+j)=true∧lkS c k=some v
 | _,[],h=>by simp [xp] at h
 |i,c::r,h=>by
  simp only [xp] at h
  cases hr:xp L k (i+1) r with
  |some w=>
   rw [hr] at h
   simp only [Option.some.injEq] at h
   subst h
   obtain⟨j,c',h1,h2,h3⟩:=qeg hr
   exact⟨j+1,c',by simpa using h1,by rw [show i+(j+1)=i+1+j by omega];exact h2,h3⟩
  |none=>
   rw [hr] at h
   simp only at h
   cases hL:L i with
   |true=>rw [hL] at h;exact⟨0,c,rfl,hL,h⟩
   |false=>rw [hL] at h;simp at h
theorem qia {α : Type} {L:Nat→Bool} {k:Nat}:∀ {i j0:Nat} {chs:List (List (Nat×α))} {c0:List (Nat×α)},chs[j0]? = some c0→(∀ j c,j0<j→chs[j]? = some c→L (i+j)=true→lkS c0 k≠none→lkS c k=none) →
  xp (addL L (i+j0)) k i chs=match lkS c0 k with|some v=>some v|none=>bif L (i+j0) then xp (addL L (i+j0)) k i chs else xp L k i chs
 | _,_,[],_,h,_=>by simp at h
 |i,0,c::r,c0,h,hd=>by
  simp only [List.getElem?_cons_zero,Option.some.injEq] at h
  subst h
  have hr:xp (addL L (i+0)) k (i+1) r=xp L k (i+1) r:=qa7 fun j c _ _=>by
   unfold addL
   rw [va (by omega),Bool.false_or]
  have ha:addL L (i+0) i=true:=by simp [addL]
  cases hl:lkS c k with
  |some v=>
   have hn:xp L k (i+1) r=none:=by
    cases hq:xp L k (i+1) r with
    |none=>rfl
    |some w=>
     obtain⟨j,c',h1,h2,h3⟩:=qeg hq
     have:=hd (j+1) c' (by omega) (by simpa using h1) (by rw [show i+(j+1)=i+1+j by omega];exact h2) (by rw [hl];simp)
     rw [this] at h3
     simp at h3
   simp only [xp,hr,hn,ha,cond_true,hl]
  |none=>
   cases hLi:L (i+0) with
   |true=>rfl
   |false=>
    simp only [cond_false,xp,hr,ha,cond_true,hl]
    rw [Nat.add_zero] at hLi
    rw [hLi]
    cases xp L k (i+1) r <;> rfl
 |i,j0+1,c::r,c0,h,hd=>by
  have ih:=qia (L:=L) (k:=k) (i:=i+1) (j0:=j0) (chs:=r) (c0:=c0) (by simpa using h) fun j c hj hc hL hl=>hd (j+1) c (by omega) (by simpa using hc) (by rw [show i+(j+1)=i+1+j by omega];exact hL) hl
  rw [show i+1+j0=i+(j0+1) by omega] at ih
  have hi:addL L (i+(j0+1)) i=L i:=by
   unfold addL
   rw [va (by omega),Bool.false_or]
  cases hl:lkS c0 k with
  |some v=>rw [hl] at ih;simp only [xp,ih]
  |none=>
   rw [hl] at ih
   simp only at ih
   cases hLi:L (i+(j0+1)) with
   |true=>rfl
   |false=>
    rw [hLi] at ih
    simp only [cond_false] at ih ⊢
    simp only [xp,ih,hi]
theorem qf4 {α : Type}:∀ {L:Nat→Bool} {i:Nat} {chs:List (List (Nat×α))} {base:List (Nat×α)},(∀ j,j<chs.length→L (i+j)=false)→cf L i chs base=base
 | _,_,[],_,_=>rfl
 |L,i,c::r,base,h=>by
  have h0:=h 0 (by simp)
  rw [Nat.add_zero] at h0
  simp only [cf,h0,cond_false]
  exact qf4 fun j hj=>by
   have:=h (j+1) (by simpa using hj)
   rw [show i+1+j=i+(j+1) by omega]
   exact this
structure Tr where
 rd:List Nat
 dst:Option Nat
 e:Ef
 nx:Nat
def Tr.sch (t:Tr):List (Nat×SV):=match t.dst with
 |some d=>[(d,t.e.val)]
 |none=>[]
def runT:List Tr→Conf→Conf
 | [],C=>C
 |t::r,C=>runT r (C.app t.dst t.e)
theorem q17 (C:Conf) (t:Tr):(C.app t.dst t.e).sl=t.sch++C.sl:=by
 unfold Conf.app Tr.sch
 cases t.dst <;> rfl
theorem qf5:∀ (tr:List Tr) (i0 n:Nat) (C:Conf),cf (fun j=>Nat.blt j (i0+n)) i0 (tr.map Tr.sch) C.sl=(runT (tr.take n) C).sl∧cf (fun j=>Nat.blt j (i0+n)) i0 (tr.map fun t=>t.e.ch) C.hp=(runT (tr.take n) C).hp
 | [],_,n,C=>by simp [cf,runT]
 |t::r,i0,0,C=>by
  have hf:∀ {m:Nat} (j:Nat),j<m→Nat.blt (i0+j) (i0+0)=false:=fun j _=>by
   cases hb:Nat.blt (i0+j) (i0+0) with
   |false=>rfl
   |true=>have:=v7 hb;omega
  exact⟨qf4 fun j hj=>hf j hj,qf4 fun j hj=>hf j hj⟩
 |t::r,i0,n+1,C=>by
  have hb:Nat.blt i0 (i0+(n+1))=true:=qac (by omega)
  have ih:=qf5 r (i0+1) n (C.app t.dst t.e)
  rw [show i0+1+n=i0+(n+1) by omega] at ih
  simp only [List.map_cons,cf,hb,cond_true,List.take_succ_cons,runT]
  rw [← q17]
  exact ih
def xj (ch:List (Nat×Option SR)):List Nat:=ch.map Prod.fst
def qbc (a b:List Nat):Bool:=a.all fun x=> !memN b x
def dstL:Option Nat→List Nat
 |some d=>[d]
 |none=>[]
def indT (a b:Tr):Bool:=
 qbc (dstL a.dst) b.rd && qbc (dstL a.dst) (dstL b.dst) && qbc (dstL b.dst) a.rd &&
 qbc (xj a.e.ch) b.e.ks && qbc (xj a.e.ch) (xj b.e.ch) && qbc (xj b.e.ch) a.e.ks &&
 b.e.val.all (fun k=>Nat.blt k a.nx ||Nat.ble a.e.nx k) && b.e.ch.all (fun q=>(Nat.blt q.1 a.nx ||Nat.ble a.e.nx q.1) && match q.2 with
  |some r=>r.all fun k=>Nat.blt k a.nx ||Nat.ble a.e.nx k
  |none=>true)
def qeh (o:Oper) (acc:List Nat):Nat:=(qbd o).foldl (fun m d=>(m ||| 2 ^ d) |||acc.getD d 0) 0
def ancs:List Oper→List Nat→List Nat
 | [],acc=>acc
 |o::r,acc=>ancs r (acc++[qeh o acc])
inductive AncR (l:List Oper):Nat→Nat→Prop
 |dep {i j:Nat} {o:Oper} (ho:l[j]? = some o) (hi:i∈qbd o):AncR l i j
 |step {i d j:Nat} {o:Oper} (ho:l[j]? = some o) (hd:d∈qbd o) (h:AncR l i d):AncR l i j
theorem qw7 {l:List Oper} {acc:List Nat} (hacc:∀ j i,(acc.getD j 0).testBit i=true→AncR l i j) {o:Oper} {j:Nat} (ho:l[j]? = some o) {i:Nat} (h:(qeh o acc).testBit i=true):AncR l i j:=by
 unfold qeh at h
 have key:∀ (ds:List Nat) (m:Nat),(∀ d∈ds,d∈qbd o)→(m.testBit i=true→AncR l i j)→(ds.foldl (fun m d=>(m ||| 2 ^ d) |||acc.getD d 0) m).testBit i=true→AncR l i j:=by
  intro ds
  induction ds with
  |nil=>exact fun m _ hm h=>hm h
  |cons d r ih=>
   intro m hd hm h
   refine ih ((m ||| 2 ^ d) |||acc.getD d 0) (fun d' hd'=>hd d' (by simp [hd'])) (fun hb=>?_) h
   rw [Nat.testBit_or,Nat.testBit_or,Bool.or_eq_true,Bool.or_eq_true,Nat.testBit_two_pow] at hb
   rcases hb with (hb|hb)|hb
   ·exact hm hb
   ·have:d=i:=by simpa using hb
    subst this
    exact .dep ho (hd d (by simp))
   ·exact .step ho (hd d (by simp)) (hacc d i hb)
 exact key (qbd o) 0 (fun d hd=>hd) (fun h=>by simp at h) h
theorem qow {l:List Oper}:∀ (r:List Oper) (acc:List Nat),(∀ k o,r[k]? = some o→l[acc.length+k]? = some o)→(∀ j i,(acc.getD j 0).testBit i=true→AncR l i j)→∀ j i,((ancs r acc).getD j 0).testBit i=true→AncR l i j
 | [],acc,_,h=>h
 |o::r,acc,hr,h=>by
  refine qow r (acc++[qeh o acc]) (fun k o' hk=>?_) (fun j i hb=>?_)
  ·have:=hr (k+1) o' (by simpa using hk)
   rw [List.length_append]
   simp only [List.length_cons,List.length_nil]
   rw [show acc.length+(0+1)+k=acc.length+(k+1) by omega]
   exact this
  ·by_cases hj:j<acc.length
   ·have e:(acc++[qeh o acc]).getD j 0=acc.getD j 0:=by simp [List.getD,List.getElem?_append_left hj]
    rw [e] at hb
    exact h j i hb
   ·by_cases hj':j=acc.length
    ·subst hj'
     have e:(acc++[qeh o acc]).getD acc.length 0=qeh o acc:=by simp [List.getD]
     rw [e] at hb
     exact qw7 h (by have:=hr 0 o rfl;simpa using this) hb
    ·have e:(acc++[qeh o acc]).getD j 0=0:=by simp [List.getD,List.getElem?_eq_none (show (acc++[qeh o acc]).length≤j by simp;omega)]
     rw [e] at hb
     simp at hb
def chkR:Nat→Tr→Nat→List Tr→List Nat→Bool
 | _,_,_,[],_=>true
 |i,a,j,b::r,m=>((m.getD j 0).testBit i ||indT a b) && chkR i a (j+1) r m
def chkT:Nat→List Tr→List Nat→Bool
 | _,[],_=>true
 |i,a::r,m=>chkR i a (i+1) r m && chkT (i+1) r m
theorem qpd:∀ {i:Nat} {a:Tr} {j0:Nat} {l:List Tr} {m:List Nat},chkR i a j0 l m=true→∀ j b,l[j]? = some b→(m.getD (j0+j) 0).testBit i=true∨indT a b=true
 | _,_,_,[],_,_,j,b,h=>by simp at h
 |i,a,j0,b::r,m,h,j,b',hb=>by
  simp only [chkR,Bool.and_eq_true,Bool.or_eq_true] at h
  cases j with
  |zero=>
   simp only [List.getElem?_cons_zero,Option.some.injEq] at hb
   subst hb
   exact h.1
  |succ j=>
   have:=qpd h.2 j b' (by simpa using hb)
   rw [show j0+(j+1)=j0+1+j by omega]
   exact this
theorem qpe:∀ {i0:Nat} {l:List Tr} {m:List Nat},chkT i0 l m=true→∀ i j a b,i<j→l[i]? = some a→l[j]? = some b→(m.getD (i0+j) 0).testBit (i0+i)=true∨indT a b=true
 | _,[],_,_,_,_,_,_,_,h,_=>by simp at h
 |i0,a::r,m,h,i,j,a',b',hij,ha,hb=>by
  simp only [chkT,Bool.and_eq_true] at h
  cases i with
  |zero=>
   simp only [List.getElem?_cons_zero,Option.some.injEq] at ha
   subst ha
   obtain⟨j,rfl⟩:∃ j',j=j'+1:=⟨j - 1,by omega⟩
   have:=qpd h.1 j b' (by simpa using hb)
   rw [show i0+(j+1)=i0+1+j by omega,Nat.add_zero]
   exact this
  |succ i=>
   obtain⟨j,rfl⟩:∃ j',j=j'+1:=⟨j - 1,by omega⟩
   have:=qpe h.2 i j a' b' (by omega) (by simpa using ha) (by simpa using hb)
   rw [show i0+(j+1)=i0+1+j by omega,show i0+(i+1)=i0+1+i by omega]
   exact this
theorem qct {a b:List Nat} (h:qbc a b=true) {x:Nat} (hx:memN a x=true):memN b x=false:=by
 unfold memN at hx
 obtain⟨y,hy,e⟩:=List.any_eq_true.1 hx
 have:=Nat.eq_of_beq_eq_true e
 subst this
 simpa using List.all_eq_true.1 h _ hy
theorem qib {ch:List (Nat×Option SR)} {k:Nat} (h:lkS ch k≠none):memN (xj ch) k=true:=by
 cases hl:lkS ch k with
 |none=>exact absurd hl h
 |some v=>exact List.any_eq_true.2 ⟨k,List.mem_map.2 ⟨_,vr hl,rfl⟩,by simp⟩
theorem qkf {t:Tr} {d:Nat} (h:lkS t.sch d≠none):memN (dstL t.dst) d=true:=by
 unfold Tr.sch at h
 cases ht:t.dst with
 |none=>rw [ht] at h;simp [lkS] at h
 |some x=>
  rw [ht] at h
  simp only [lkS] at h
  by_cases e:x=d
  ·subst e;simp [dstL,memN]
  ·rw [va e] at h;simp at h
def rs (rd:List Nat) (sl:List (Nat×SV)):List (Nat×SV):=rd.filterMap fun d=>match lkS sl d with
 |some v=>some (d,v)
 |none=>none
theorem q3e {rd:List Nat} {sl:List (Nat×SV)} {d:Nat} {v:SV} (h:lkS (rs rd sl) d=some v):memN rd d=true∧lkS sl d=some v:=by
 have:=vr h
 unfold rs at this
 obtain⟨x,hx,he⟩:=List.mem_filterMap.1 this
 split at he
 ·rename_i w hw
  simp only [Option.some.injEq,Prod.mk.injEq] at he
  obtain⟨rfl,rfl⟩:=he
  exact⟨List.any_eq_true.2 ⟨x,hx,by simp⟩,hw⟩
 ·simp at he
theorem qp5 {l:List Nat} {x:Nat} (h:memN l x=true):x∈l:=by
 obtain⟨y,hy,e⟩:=List.any_eq_true.1 h
 rw [Nat.eq_of_beq_eq_true e]
 exact hy
theorem SatR.congr {S0:List AObj} {F:Nat→Prop} {C C':Conf} {ρ t:Nat→AV} {S:List AObj} (h:SatR S0 F C ρ t S) (h1:∀ d,lkS C'.sl d=lkS C.sl d) (h2:hpF C'.hp=hpF C.hp) (h3:C.nx≤C'.nx):SatR S0 F C' ρ t S:=
 ⟨fun d v hd=>h.sl d v (by rw [← h1];exact hd),by rw [h2];exact h.hp,by rw [h2];exact h.own,h.low,h.len,fun d v hd=>all_mono (fun k hk=>qac (by have:=v7 hk;omega)) v (h.wsl d v (by rw [← h1];exact hd)),fun k r hk=>by
  rw [h2] at hk
  obtain⟨g1,g2⟩:=h.whp k r hk
  exact⟨by omega,SR.all_mono (fun k hk=>qac (by have:=v7 hk;omega)) r g2⟩⟩
structure qtu (E:Env) (N:Nat) (l:List Oper) (C0:Conf) (tr:List Tr):Prop where
 len:tr.length=l.length
 loc:∀ i o t,l[i]? = some o→tr[i]? = some t→Loc E N l.toArray o t.nx (rs t.rd (runT (tr.take i) C0).sl) (hpF (runT (tr.take i) C0).hp) t.e∧t.e.wf t.nx=true∧t.nx=(runT (tr.take i) C0).nx∧t.dst=o.dst
theorem qgg {E:Env} {N:Nat} {l:List Oper} {C0:Conf} {tr:List Tr} (h:qtu E N l C0 tr):∀ {i j:Nat},i≤j→j≤tr.length→(runT (tr.take i) C0).nx≤(runT (tr.take j) C0).nx:=by
 have step:∀ (r:List Tr) (C:Conf) (t:Tr),(runT (r++[t]) C)=(runT r C).app t.dst t.e:=by
  intro r
  induction r with
  |nil=>exact fun C t=>rfl
  |cons a r ih=>exact fun C t=>ih _ t
 intro i j hij
 induction hij with
 |refl=>exact fun _=>Nat.le_refl _
 |step hm ih=>
  rename_i m
  intro hj
  refine Nat.le_trans (ih (by omega)) ?_
  have ht:tr[m]? = some (tr[m]'(by omega)):=List.getElem?_eq_getElem (by omega)
  have ho:l[m]? = some (l[m]'(by have:=h.len;omega)):=List.getElem?_eq_getElem _
  obtain⟨_,h2,h3,_⟩:=h.loc m _ _ ho ht
  rw [List.take_succ_eq_append_getElem (by omega),step]
  have:=(qdl h2).1
  rw [h3] at this
  exact this
theorem qxr {tr:List Tr} {i:Nat} {t:Tr} (ht:tr[i]? = some t) (C0:Conf):runT (tr.take (i+1)) C0=(runT (tr.take i) C0).app t.dst t.e:=by
 have step:∀ (r:List Tr) (C:Conf) (t:Tr),(runT (r++[t]) C)=(runT r C).app t.dst t.e:=by
  intro r
  induction r with
  |nil=>exact fun C t=>rfl
  |cons a r ih=>exact fun C t=>ih _ t
 obtain⟨hi,e⟩:=List.getElem?_eq_some_iff.1 ht
 rw [List.take_succ_eq_append_getElem hi,step,e]
def qiu (l:List Oper) (L:Nat→Bool):Prop:=∀ j o,L j=true→l[j]? = some o→∀ d∈qbd o,L d=true
theorem qiu.anc {l:List Oper} {L:Nat→Bool} (h:qiu l L) {i j:Nat} (ha:AncR l i j):L j=true→L i=true:=by
 induction ha with
 |dep ho hi=>exact fun hj=>h _ _ hj ho _ hi
 |step ho hd _ ih=>exact fun hj=>ih (h _ _ hj ho _ hd)
theorem qwa {E:Env} {rd:Option Nat} {N:Nat} {id:Nat} {l:List Oper} {B:Bs} {C0:Conf} {tr:List Tr} {Q:Exit→AS→Prop} {s:AS} (hm:E.P.follows .mixedOrders=true) (hnd:l.toArray.all qcx=true) (hd:qdy 0 l=true)
  (hw:qtu E N l C0 tr) (hc:chkT 0 tr (ancs l [])=true) (hs:SatC B C0 s) (hq:∀ s',SatC B (runT tr C0) s'→Q .normal s'):AWp E rd N (.region id l.toArray true) Q s:=by
 have hlen:=hw.len
 let NX:=(runT tr C0).nx
 let SC:=tr.map Tr.sch
 let HC:=tr.map fun t:Tr=>t.e.ch
 have hSC:∀ {j:Nat} {c:List (Nat×SV)},SC[j]? = some c→∃ t,tr[j]? = some t∧c=t.sch:=fun {j c} h=>by
  simp only [SC,List.getElem?_map] at h
  cases ht:tr[j]? with
  |none=>rw [ht] at h;simp at h
  |some t=>rw [ht] at h;simp at h;exact⟨t,rfl,h.symm⟩
 have hHC:∀ {j:Nat} {c:List (Nat×Option SR)},HC[j]? = some c→∃ t,tr[j]? = some t∧c=t.e.ch:=fun {j c} h=>by
  simp only [HC,List.getElem?_map] at h
  cases ht:tr[j]? with
  |none=>rw [ht] at h;simp at h
  |some t=>rw [ht] at h;simp at h;exact⟨t,rfl,h.symm⟩
 have hop:∀ {j:Nat} {t:Tr},tr[j]? = some t→∃ o,l[j]? = some o:=fun {j t} h=>⟨_,List.getElem?_eq_getElem (by have:=lt_of_getElem? h;omega)⟩
 have htk:tr.take tr.length=tr:=List.take_length
 have hnx:∀ {j:Nat} {t:Tr},tr[j]? = some t→t.nx=(runT (tr.take j) C0).nx∧t.e.nx=(runT (tr.take (j+1)) C0).nx:=fun {j t} h=>by
  obtain⟨o,ho⟩:=hop h
  refine⟨(hw.loc j o t ho h).2.2.1,?_⟩
  rw [qxr h]
  rfl
 have hmono:∀ {i j:Nat} {a b:Tr},i<j→tr[i]? = some a→tr[j]? = some b→a.e.nx≤b.nx:=fun {i j a b} hij ha hb=>by
  rw [(hnx ha).2,(hnx hb).1]
  exact qgg hw (by omega) (by have:=lt_of_getElem? hb;omega)
 have hNX:∀ {j:Nat} {t:Tr},tr[j]? = some t→t.e.nx≤NX:=fun {j t} h=>by
  rw [(hnx h).2]
  have:=qgg hw (i:=j+1) (j:=tr.length) (by have:=lt_of_getElem? h;omega) (Nat.le_refl _)
  rw [htk] at this
  exact this
 have h0nx:∀ {j:Nat} {t:Tr},tr[j]? = some t→C0.nx≤t.nx:=fun {j t} h=>by
  rw [(hnx h).1]
  exact qgg hw (i:=0) (Nat.zero_le j) (by have:=lt_of_getElem? h;omega)
 have hanc:∀ j i,((ancs l []).getD j 0).testBit i=true→AncR l i j:=qow l [] (fun k o hk=>by simpa using hk) (fun j i h=>by simp [List.getD] at h)
 have pair:∀ {i j:Nat} {a b:Tr},i<j→tr[i]? = some a→tr[j]? = some b→AncR l i j∨indT a b=true:=fun {i j a b} hij ha hb=>by
  have:=qpe hc i j a b hij ha hb
  rw [Nat.zero_add,Nat.zero_add] at this
  exact this.imp_left fun h=>hanc j i h
 have hb0:B.n0≤C0.nx:=by obtain⟨_,h,_⟩:=hs;exact h.le
 refine qv8 hm hnd hd (fun L s=>qiu l L∧SatC B ⟨cf L 0 SC C0.sl,cf L 0 HC C0.hp,NX⟩ s) ⟨fun j o h=>by simp at h,?_⟩ ?_ ?_
 ·obtain⟨ρ,hdf,hR⟩:=hs
  have hC0:C0.nx≤NX:=by
   have:=qgg hw (i:=0) (j:=tr.length) (Nat.zero_le _) (Nat.le_refl _)
   rw [htk] at this
   exact this
  refine⟨ρ,hdf.nx (Nat.le_trans hdf.le hC0),hR.congr (fun d=>?_) ?_ ?_⟩
  ·rw [qf4 fun _ _=>rfl]
  ·show hpF (cf (fun _=>false) 0 HC C0.hp)=hpF C0.hp
   rw [qf4 fun _ _=>rfl]
  ·have:=qgg hw (i:=0) (j:=tr.length) (Nat.zero_le _) (Nat.le_refl _)
   rw [htk] at this
   exact this
 ·rintro L s' hall ⟨_,ρ,hdf,hR⟩
  refine hq s' ⟨ρ,hdf.nx hdf.le,hR.congr (fun d=>?_) ?_ (Nat.le_refl _)⟩
  ·have h1:=(qf5 tr 0 tr.length C0).1
   rw [htk] at h1
   rw [← h1]
   simp only [qbx]
   rw [qa7 (L:=fun j=>Nat.blt j (0+tr.length)) (L':=L) fun j c hc _=>by
    obtain⟨t,ht,_⟩:=hSC hc
    have hj:=lt_of_getElem? ht
    rw [hall (0+j) (by omega)]
    exact qac (by omega)]
  ·have h1:=(qf5 tr 0 tr.length C0).2
   rw [htk] at h1
   rw [← h1]
   funext k
   unfold hpF
   simp only [qbx]
   rw [qa7 (L:=fun j=>Nat.blt j (0+tr.length)) (L':=L) fun j c hc _=>by
    obtain⟨t,ht,_⟩:=hHC hc
    have hj:=lt_of_getElem? ht
    rw [hall (0+j) (by omega)]
    exact qac (by omega)]
 ·-- the steps
  suffices H:∀ (i:Nat) (o:Oper),l[i]? = some o→∀ L s,L i=false→(∀ j,(qbd o).contains j=true→L j=true)→(qiu l L∧SatC B ⟨cf L 0 SC C0.sl,cf L 0 HC C0.hp,NX⟩ s) →
    AOps E none N l.toArray [o] (fun s=>qiu l (addL L i)∧SatC B ⟨cf (addL L i) 0 SC C0.sl,cf (addL L i) 0 HC C0.hp,NX⟩ s) s by
   have gen:∀ (r:List Oper) (i0:Nat),(∀ k o,r[k]? = some o→l[i0+k]? = some o)→qhv E N l.toArray (fun L s=>qiu l L∧SatC B ⟨cf L 0 SC C0.sl,cf L 0 HC C0.hp,NX⟩ s) i0 r:=by
    intro r
    induction r with
    |nil=>exact fun _ _=>trivial
    |cons o r ih=>
     intro i0 hr
     exact⟨H i0 o (by have:=hr 0 o rfl;simpa using this),ih (i0+1) fun k o' hk=>by rw [show i0+1+k=i0+(k+1) by omega];exact hr (k+1) o' (by simpa using hk)⟩
   exact gen l 0 fun k o hk=>by simpa using hk
  rintro i o ho L ⟨t0,S,df⟩ hLi hdeps ⟨hdown,ρ,hdf,hR⟩
  simp only at hdf hR
  have hil:=lt_of_getElem? ho
  obtain⟨t,ht⟩:∃ t,tr[i]? = some t:=⟨_,List.getElem?_eq_getElem (by omega)⟩
  obtain⟨hL,hwf,hnxi,hdst⟩:=hw.loc i o t ho ht
  obtain⟨w1,w2,w3⟩:=qdl hwf
  -- who has done what, told by the text
  have anc_in:∀ {j:Nat},AncR l j i→L j=true:=fun {j} h=>by
   cases h with
   |dep ho' hi=>
    rw [ho] at ho'
    simp only [Option.some.injEq] at ho'
    subst ho'
    exact hdeps j (by simpa using hi)
   |step ho' hd' h'=>
    rw [ho] at ho'
    simp only [Option.some.injEq] at ho'
    subst ho'
    exact hdown.anc h' (hdeps _ (by simpa using hd'))
  have not_after:∀ {j:Nat},AncR l i j→L j=false:=fun {j} h=>by
   cases hj:L j with
   |false=>rfl
   |true=>rw [hdown.anc h hj] at hLi;simp at hLi
  have agree:∀ {j:Nat} {b:Tr},tr[j]? = some b→(∀ (hji:j<i),indT b t=true→False)→(∀ (hij:i<j),indT t b=true→False)→L j=Nat.blt j i:=fun {j b} hb h1 h2=>by
   rcases Nat.lt_trichotomy j i with hji|hji|hji
   ·rw [qac hji]
    rcases pair hji hb ht with h|h
    ·exact anc_in h
    ·exact (h1 hji h).elim
   ·subst hji
    rw [hLi]
    cases hbb:Nat.blt j j with
    |false=>rfl
    |true=>have:=v7 hbb;omega
   ·have:Nat.blt j i=false:=by
     cases hbb:Nat.blt j i with
     |false=>rfl
     |true=>have:=v7 hbb;omega
    rw [this]
    rcases pair hji ht hb with h|h
    ·exact not_after h
    ·exact (h2 hji h).elim
  have hslA:∀ d,memN t.rd d=true→lkS (cf L 0 SC C0.sl) d=lkS (runT (tr.take i) C0).sl d:=fun d hd=>by
   have h1:=(qf5 tr 0 i C0).1
   rw [← h1]
   simp only [qbx]
   rw [qa7 (L:=L) (L':=fun j=>Nat.blt j (0+i)) fun j c hc hl=>by
    obtain⟨b,hb,rfl⟩:=hSC hc
    have hdm:=qkf hl
    rw [Nat.zero_add,Nat.zero_add]
    refine agree hb (fun hji h=>?_) (fun hij h=>?_)
    ·simp only [indT,Bool.and_eq_true] at h
     have:=qct h.1.1.1.1.1.1.1 hdm
     rw [hd] at this
     simp at this
    ·simp only [indT,Bool.and_eq_true] at h
     have:=qct h.1.1.1.1.1.2 hdm
     rw [hd] at this
     simp at this]
  have hhpA:resF t.e.ks (hpF (runT (tr.take i) C0).hp)=resF t.e.ks (hpF (cf L 0 HC C0.hp)):=by
   funext k
   unfold resF
   cases hk:memN t.e.ks k with
   |false=>rfl
   |true=>
    simp only [cond_true]
    have h1:=(qf5 tr 0 i C0).2
    rw [← h1]
    unfold hpF
    simp only [qbx]
    rw [qa7 (L:=fun j=>Nat.blt j (0+i)) (L':=L) fun j c hc hl=>by
     obtain⟨b,hb,rfl⟩:=hHC hc
     have hdm:=qib hl
     rw [Nat.zero_add,Nat.zero_add]
     refine (agree hb (fun hji h=>?_) (fun hij h=>?_)).symm
     ·simp only [indT,Bool.and_eq_true] at h
      have:=qct h.1.1.1.1.2 hdm
      rw [hk] at this
      simp at this
     ·simp only [indT,Bool.and_eq_true] at h
      have:=qct h.1.1.2 hdm
      rw [hk] at this
      simp at this]
  refine hL _ none _ [] ρ t0 S (fun d v hd'=>?_) (by rw [hhpA];exact hR.hp.res _) fun ρ' S' hp=>qs ⟨fun j o' hj ho' d hd'=>?_,ρ',?_,?_⟩
  ·obtain⟨g1,g2⟩:=q3e hd'
   exact hR.sl d v (by rw [hslA d g1];exact g2)
  ·unfold addL at hj ⊢
   rcases Bool.or_eq_true_iff.1 hj with hj|hj
   ·have:=Nat.eq_of_beq_eq_true hj
    subst this
    rw [ho] at ho'
    simp only [Option.some.injEq] at ho'
    subst ho'
    rw [hdeps d (by simpa using hd'),Bool.or_true]
   ·rw [hdown j o' hj ho' d hd',Bool.or_true]
  ·have hp2:qeb ρ S t.nx (hpF (cf L 0 HC C0.hp)) t.e ρ' S':=⟨hp.old,by rw [← hhpA];exact hp.sat,hp.len,by rw [← hhpA];exact hp.fr,by rw [← hhpA];exact hp.loc⟩
   have:=hdf.stepG (C':=⟨cf (addL L i) 0 SC C0.sl,cf (addL L i) 0 HC C0.hp,NX⟩) hR.hp hp2 (by have:=hb0;have:=h0nx ht;omega) hdf.le
   cases o.dst <;> exact this
  ·have hp2:qeb ρ S t.nx (hpF (cf L 0 HC C0.hp)) t.e ρ' S':=⟨hp.old,by rw [← hhpA];exact hp.sat,hp.len,by rw [← hhpA];exact hp.fr,by rw [← hhpA];exact hp.loc⟩
   have old_lt:∀ k,Nat.blt k C0.nx=true→(Nat.blt k t.nx ||Nat.ble t.e.nx k)=true:=fun k hk=>by
    have:=h0nx ht
    rw [qac (by have:=v7 hk;omega),Bool.true_or]
   have ear_lt:∀ {j:Nat} {b:Tr},j<i→tr[j]? = some b→∀ k,Nat.blt k b.e.nx=true→(Nat.blt k t.nx ||Nat.ble t.e.nx k)=true:=fun {j b} hji hb k hk=>by
    have:=hmono hji hb ht
    rw [qac (by have:=v7 hk;omega),Bool.true_or]
   have lat:∀ {j:Nat} {b:Tr},tr[j]? = some b→L j=true→¬ j<i→indT t b=true∧i<j:=fun {j b} hb hLj hji=>by
    have hij:i<j:=by
     rcases Nat.lt_trichotomy i j with h|h|h
     ·exact h
     ·subst h;rw [hLi] at hLj;simp at hLj
     ·omega
    rcases pair hij ht hb with h|h
    ·rw [not_after h] at hLj;simp at hLj
    ·exact⟨h,hij⟩
   have hst:=hR.stepG (d:=o.dst) (nx:=t.nx) (NX:=NX) (Nat.le_refl _) (all_mono (fun k hk=>qac (by have:=v7 hk;have:=hNX ht;omega)) _ w2) (fun q hq'=>⟨by have:=(w3 q hq').1;have:=hNX ht;omega,fun r hr=>SR.all_mono (fun k hk=>qac (by have:=v7 hk;have:=hNX ht;omega)) r ((w3 q hq').2.2 r hr)⟩) (fun d v hd'=>?_) (fun k r hk=>?_) hp2
   ·refine SatR.congr (S0:=B.S0) (F:=B.F) (C:=⟨match o.dst with|some d=>(d,t.e.val)::cf L 0 SC C0.sl|none=>cf L 0 SC C0.sl,t.e.ch++cf L 0 HC C0.hp,NX⟩) ?_ (fun d=>?_) ?_ (Nat.le_refl _)
    ·cases hod:o.dst with
     |none=>rw [hod] at hst;exact hst
     |some x=>rw [hod] at hst;exact hst
    ·have hSi:SC[i]? = some t.sch:=by simp only [SC,List.getElem?_map,ht];rfl
     have hadd:=qia (L:=L) (k:=d) (i:=0) (j0:=i) hSi fun j c hij hc hLj hl=>by
      obtain⟨b,hb,rfl⟩:=hSC hc
      rw [Nat.zero_add] at hLj
      have h:=(lat hb hLj (by omega)).1
      simp only [indT,Bool.and_eq_true] at h
      have h2:=qct h.1.1.1.1.1.1.2 (qkf hl)
      cases hq':lkS b.sch d with
      |none=>rfl
      |some w=>
       have:=qkf (t:=b) (d:=d) (by rw [hq'];simp)
       rw [h2] at this
       simp at this
     rw [Nat.zero_add,hLi] at hadd
     simp only [cond_false] at hadd
     have e:lkS (match o.dst with|some d=>(d,t.e.val)::cf L 0 SC C0.sl|none=>cf L 0 SC C0.sl) d=lkS (t.sch++cf L 0 SC C0.sl) d:=by
      unfold Tr.sch
      rw [hdst]
      cases o.dst <;> rfl
     rw [e,qbn]
     simp only [qbx]
     rw [hadd]
     cases lkS t.sch d <;> rfl
    ·rw [qs3]
     funext k
     have hHi:HC[i]? = some t.e.ch:=by simp only [HC,List.getElem?_map,ht];rfl
     have hadd:=qia (L:=L) (k:=k) (i:=0) (j0:=i) hHi fun j c hij hc hLj hl=>by
      obtain⟨b,hb,rfl⟩:=hHC hc
      rw [Nat.zero_add] at hLj
      have h:=(lat hb hLj (by omega)).1
      simp only [indT,Bool.and_eq_true] at h
      have h2:=qct h.1.1.1.2 (qib hl)
      cases hq':lkS b.e.ch k with
      |none=>rfl
      |some w=>
       have:=qib (ch:=b.e.ch) (k:=k) (by rw [hq'];simp)
       rw [h2] at this
       simp at this
     rw [Nat.zero_add,hLi] at hadd
     simp only [cond_false] at hadd
     unfold chF hpF
     simp only [qbx]
     rw [hadd]
     cases lkS t.e.ch k <;> rfl
   ·simp only [qbx] at hd'
    cases hlast:xp L d 0 SC with
    |none=>
     rw [hlast] at hd'
     simp only at hd'
     obtain⟨ρ0,_,hR0⟩:=hs
     exact all_mono old_lt v (hR0.wsl d v hd')
    |some u=>
     rw [hlast] at hd'
     simp only [Option.some.injEq] at hd'
     subst hd'
     obtain⟨j,c,hc',hLj,hl⟩:=qeg hlast
     obtain⟨b,hb,rfl⟩:=hSC hc'
     rw [Nat.zero_add] at hLj
     obtain⟨ob,hob⟩:=hop hb
     have hu:u=b.e.val:=by
      unfold Tr.sch at hl
      cases hbd:b.dst with
      |none=>rw [hbd] at hl;simp [lkS] at hl
      |some x=>
       rw [hbd] at hl
       simp only [lkS] at hl
       cases hbx:Nat.beq x d with
       |true=>rw [hbx] at hl;simp only [cond_true,Option.some.injEq] at hl;exact hl.symm
       |false=>rw [hbx] at hl;simp at hl
     subst hu
     by_cases hji:j<i
     ·exact all_mono (ear_lt hji hb) _ (qdl (hw.loc j ob b hob hb).2.1).2.1
     ·have h:=(lat hb hLj hji).1
      simp only [indT,Bool.and_eq_true] at h
      exact h.1.2
   ·have hk':=x2 hk
    simp only [qbx] at hk'
    cases hlast:xp L k 0 HC with
    |none=>
     rw [hlast] at hk'
     simp only at hk'
     obtain⟨ρ0,_,hR0⟩:=hs
     obtain⟨g1,g2⟩:=hR0.whp k r (by unfold hpF;rw [hk'])
     exact⟨.inl (by have:=h0nx ht;omega),SR.all_mono old_lt r g2⟩
    |some u=>
     rw [hlast] at hk'
     simp only [Option.some.injEq] at hk'
     subst hk'
     obtain⟨j,c,hc',hLj,hl⟩:=qeg hlast
     obtain⟨b,hb,rfl⟩:=hHC hc'
     rw [Nat.zero_add] at hLj
     obtain⟨ob,hob⟩:=hop hb
     obtain⟨g1,_,g3⟩:=(qdl (hw.loc j ob b hob hb).2.1).2.2 _ (vr hl)
     by_cases hji:j<i
     ·exact⟨.inl (by have:=hmono hji hb ht;simp only at g1;omega),SR.all_mono (ear_lt hji hb) r (g3 r rfl)⟩
     ·have h:=(lat hb hLj hji).1
      simp only [indT,Bool.and_eq_true] at h
      have h2:=List.all_eq_true.1 h.2 _ (vr hl)
      simp only [Bool.and_eq_true,Bool.or_eq_true] at h2
      exact⟨h2.1.imp v7 Nat.le_of_ble_eq_true,h2.2⟩
def opTm:Operand→Option Nat
 | .tmp i=>some i
 | _=>none
def rdOf (l:List Oper) (o:Oper):List Nat:=o.op.operands.toList.filterMap opTm++match o.guard with
 |some (j,_)=>dstL (qoj l j)
 |none=>[]
def wpDr (E:Env) (N:Nat) (l:List Oper) (bxs:List Nat):Nat→List Oper→List Tr→(List Tr→Conf→Prop)→Conf→Prop
 | _,[],tr,K,C=>K tr C
 |i,o::r,tr,K,⟨sl,hp,nx⟩=>opG E N l bxs nx (rs (rdOf l o) sl) (hpF hp) (gdW (isGd i l) (fcE fun e=>qon sl hp nx o.dst (wpDr E N l bxs (i+1) r (tr++[⟨rdOf l o,o.dst,e,nx⟩]) K) e)) o
theorem qzs (r:List Tr) (t:Tr):∀ C,runT (r++[t]) C=(runT r C).app t.dst t.e:=by
 induction r with
 |nil=>exact fun C=>rfl
 |cons a r ih=>exact fun C=>ih _
theorem qtq {E:Env} {N:Nat} {l:List Oper} {bxs:List Nat} {C0:Conf} {K:List Tr→Conf→Prop}:∀ {r:List Oper} {i:Nat} {tr:List Tr} {C:Conf},(∀ k,r[k]? = l[i+k]?)→tr.length=i→i+r.length=l.length→C=runT tr C0 →
  (∀ j o t,l[j]? = some o→tr[j]? = some t→Loc E N l.toArray o t.nx (rs t.rd (runT (tr.take j) C0).sl) (hpF (runT (tr.take j) C0).hp) t.e∧t.e.wf t.nx=true∧t.nx=(runT (tr.take j) C0).nx∧t.dst=o.dst) →
  wpDr E N l bxs i r tr K C→∃ tr',qtu E N l C0 tr'∧K tr' (runT tr' C0)
 | [],i,tr,C,hr,hl,hn,hC,hw,h=>⟨tr,⟨by simpa [hl] using hn,hw⟩,by rw [← hC];exact h⟩
 |o::r,i,tr,⟨sl,hp,nx⟩,hr,hl,hn,hC,hw,h=>by
  obtain⟨e,hL,h⟩:=qxf h
  obtain⟨e,hL,h⟩:=qwt hL h
  rw [qwp] at h
  obtain⟨hwf,h⟩:=qqb h
  ·refine qtq (r:=r) (i:=i+1) (tr:=tr++[⟨rdOf l o,o.dst,e,nx⟩]) (fun k=>?_) (by simp [hl]) (by simp at hn;omega) (by rw [qzs,← hC]) (fun j o' t ho ht=>?_) h
   ·have:=hr (k+1)
    rw [show i+1+k=i+(k+1) by omega,← this]
    rfl
   ·by_cases hj:j<tr.length
    ·rw [List.getElem?_append_left hj] at ht
     rw [List.take_append_of_le_length (by omega)]
     exact hw j o' t ho ht
    ·have hji:j=tr.length:=by
      have:=lt_of_getElem? ht
      simp at this
      omega
     subst hji
     simp only [List.getElem?_concat_length,Option.some.injEq] at ht
     subst ht
     have ho2:=hr 0
     rw [← hl,Nat.add_zero,ho] at ho2
     simp only [List.getElem?_cons_zero,Option.some.injEq] at ho2
     subst ho2
     rw [List.take_left,← hC]
     exact⟨hL,hwf,rfl,rfl⟩
def drB (E:Env) (l:List Oper) (tr:List Tr):Bool:=E.P.follows .mixedOrders && l.toArray.all qcx && qdy 0 l && chkT 0 tr (ancs l [])
structure DrOk (E:Env) (l:List Oper) (tr:List Tr):Prop where
 ok:drB E l tr=true
theorem qg {E:Env} {rd:Option Nat} {N:Nat} {B:Bs} {Q:Exit→Conf→Prop} {C:Conf} {id:Nat} {ops:Array Oper} (bxs:List Nat)
  (h:wpDr E N ops.toList bxs 0 ops.toList [] (fun tr C'=>DrOk E ops.toList tr∧Q .normal C') C):Sm E rd N B (.region id ops true) Q C:=⟨fun s hs=>by
 obtain⟨tr,hw,hb,hq⟩:=qtq (C0:=C) (l:=ops.toList) (i:=0) (tr:=[]) (fun k=>by rw [Nat.zero_add]) rfl (by simp) rfl (fun j o t _ ht=>by simp at ht) h
 have hb:=hb.ok
 simp only [drB,Bool.and_eq_true] at hb
 have e:ops=ops.toList.toArray:=by simp
 rw [e]
 exact qwa hb.1.1.1 hb.1.1.2 hb.1.2 hw hb.2 hs fun s' hs'=>⟨_,hq,hs'⟩⟩
theorem cSd {P:Prop} (h:P:=by first|exact rfl|exact trivial|exact fun _=>rfl|exact qja _|exact DrOk.mk (by kernel_rfl)|exact qkx fun _=>rfl|omega|(simp only [List.length_map,List.length_append,List.length_cons,List.length_nil,List.length_take,List.length_drop];omega)|exact q3g):P:=h
theorem exr {α : Type} {A K : α→Prop} {a : α} (k:K a) (h:A a:=by exact rfl):∃ x,A x∧K x:=⟨a,h,k⟩
theorem cpe {E:Env} {H:Nat→Option SR} {nx:Nat} {f:FuncId} {vs:List SV} {args:List AV} {r0:AV} {k:Ef→Prop} (hc:∀ S,qp E f args S fun r S'=>r=r0∧S'=S) (hk:k ⟨nf r0,SV.kss vs,[],nx⟩) (ha:qoi E.P f (frzs (resF (SV.kss vs) H) vs)=some args:=by exact rfl):∃ e,x4 E f vs nx H e∧k e:=⟨_,q0u hc ha,hk⟩
end Go.Av
namespace Go.Proofs.YtmjmdjbdoiddeaaGreatDoor
open Go Go.Av Go.RowKit Go.Proofs Go.Pl
def qa2 (n0:Nat) (ks:List Nat) (sl:List (Nat×SV)) (hp:List (Nat×Option SR)) (nx:Nat):Bool:=
 sl.all (fun q=>q.2.all fun k=>Nat.blt k n0) && hp.all (fun q=>match q.2 with
  |some (.cells _ _)=>memN ks q.1
  |some (.own _ _ _)=>false
  |some (.obj _)=>false
  |some (.rows _ _)=>false
  | _=>true) && Nat.ble n0 nx
def ksIn (n0:Nat) (ks:List Nat) (hp:List (Nat×Option SR)):Bool:=ks.all fun k=>Nat.blt k n0 && match lkS hp k with
 |some (some (.cells _ _))=>true
 | _=>false
structure RB (E:Env) (N:Nat) (F:Nat→Prop) (ρ : Nat→AV) (n0:Nat) (body:Code) (Q:Exit→Conf→Prop) (C:Conf):Prop where
 run:∀ S rd,Sm E rd N ⟨S,F,ρ,n0,False⟩ body Q C
structure RA (E:Env) (N:Nat) (n0:Nat) (asg:Code) (K:(Nat→Prop)→(Nat→AV)→Conf→Prop) (C:Conf):Prop where
 run:∀ S F ρ rd,Sm E rd N ⟨S,F,ρ,n0,True⟩ asg (fun e C1=>match e with
  | .normal=>∀ F',K F' ρ C1
  | _=>False) C
def qt9 (Q:Exit→Conf→Prop):Code→Conf→Prop
 | .ret=>Q .ret
 | .exit id=>Q (.exit id)
 | _=>fun _=>False
def qlp (k:Nat) (text rest:List UInt8):SV:=.ag [.i k,.i ((text.length:Int) - rest.length),.s (upto 10 rest),.p (10∈rest) inferInstance]
theorem qy7 (k:Nat) (text rest:List UInt8) (ρ : Nat→AV):(qlp k text rest).ev ρ = qom k text rest:=rfl
@[reducible] def rndQ {X : Type} (n0 : Nat) (P : X → Prop) (D : Code → X → Prop) (C : X → Conf) (e : Exit) (C2 : Conf) : Prop := match e with
 | .normal=>∃ x,P x∧EntA n0 C2 (C x)
 | .ret=>∃ x,D .ret x∧EntA n0 C2 (C x)
 | .exit id=>∃ x,D (.exit id) x∧EntA n0 C2 (C x)
 | _=>False
section
variable {N : Nat} {B : Bs} {C : Conf} {Q : Exit → Conf → Prop} {rd : Option Nat}
structure RInv (B:Bs) (n0 n:Nat) (ks:List Nat) (ρ1 t:Nat→AV) (df:List Nat) (C:Conf) (S:List AObj):Prop where
 ex:∃ ρ,(∀ k,k<n0→ρ k = ρ1 k)∧SatR B.S0 B.F C ρ t S∧(∀ d∈df,S[d]? = some .dfr)∧n≤S.length
theorem qpb {n0 n:Nat} {ks:List Nat} {ρ1 ρ : Nat→AV} {hp:List (Nat×Option SR)} {sl:List (Nat×SV)} {nx k:Nat} {T:TypeId} {cs:List SV} (hks:∀ k∈ks,k<n0∧∃ o,ρ1 k = .bx o 0 0∧o<n) (hr:qa2 n0 ks sl hp nx=true) (hρ : ∀ k,k<n0→ρ k = ρ1 k) (hk:hpF hp k=some (.cells T cs)):k<n0∧∃ o,ρ k = .bx o 0 0∧o<n:=by
 have h1:=x2 hk
 simp only [qa2,Bool.and_eq_true] at hr
 have:=List.all_eq_true.1 hr.1.2 _ (vr h1)
 simp only at this
 obtain⟨g1,g2⟩:=hks k (qp5 this)
 refine⟨g1,?_⟩
 rw [hρ k g1]
 exact g2
theorem qxj {n0:Nat} {ks:List Nat} {sl:List (Nat×SV)} {hp:List (Nat×Option SR)} {nx k sz:Nat} {T:TypeId} {xs:List AV} (hr:qa2 n0 ks sl hp nx=true) (hk:hpF hp k=some (.own sz T xs)):False:=by
 have h1:=x2 hk
 simp only [qa2,Bool.and_eq_true] at hr
 have:=List.all_eq_true.1 hr.1.2 _ (vr h1)
 simp at this
theorem qxa {n0:Nat} {ks:List Nat} {sl:List (Nat×SV)} {hp:List (Nat×Option SR)} {nx k:Nat} {P:AObj→AV→Prop} (hr:qa2 n0 ks sl hp nx=true) (hk:hpF hp k=some (.obj P)):False:=by
 have h1:=x2 hk
 simp only [qa2,Bool.and_eq_true] at hr
 have:=List.all_eq_true.1 hr.1.2 _ (vr h1)
 simp at this
theorem qtk {n0:Nat} {ks:List Nat} {sl:List (Nat×SV)} {hp:List (Nat×Option SR)} {nx k:Nat} {T2:TypeId} {cs2:List SV} (hr:qa2 n0 ks sl hp nx=true) (hk:hpF hp k=some (.rows T2 cs2)):False:=by
 have h1:=x2 hk
 simp only [qa2,Bool.and_eq_true] at hr
 have:=List.all_eq_true.1 hr.1.2 _ (vr h1)
 simp at this
theorem RInv.ext {n0 n:Nat} {ks:List Nat} {ρ1 t:Nat→AV} {df:List Nat} {C:Conf} {S S':List AObj} (h:RInv B n0 n ks ρ1 t df C S) (hks:∀ k∈ks,k<n0∧∃ o,ρ1 k = .bx o 0 0∧o<n) (hr:qa2 n0 ks C.sl C.hp C.nx=true) (hB:B.S0.length≤n) (hdn:∀ d∈df,d<n) (hE:Ext n S S'):RInv B n0 n ks ρ1 t df C S':=by
 obtain⟨ρ,hρ,hR,hd,hn⟩:=h.ex
 refine⟨ρ,hρ,⟨hR.sl,⟨fun k r hk=>?_,hR.hp.sep⟩,hR.own,fun j hj hF=>?_,Nat.le_trans hR.len hE.len,hR.wsl,hR.whp⟩,fun d hdd=>?_,Nat.le_trans hn hE.len⟩
 ·refine SR.ok_of (f:=fun _=>true) (SR.all_mono (fun _ _=>rfl) r (hR.whp k r hk).2) (fun _ _=>rfl) (hR.hp.ok k r hk) fun o ho=>?_
  rcases SR.ok_ct (hR.hp.ok k r hk) ho with⟨T,cs,v,h1,T',cs',rfl⟩ | ⟨m,sz,T,h1⟩ | ⟨sz,T,xs,rfl⟩ | ⟨P1,rfl⟩ | ⟨T2,cs2,rfl⟩
  rotate_left 2
  ·exact (qxj hr hk).elim
  ·exact (qxa hr hk).elim
  ·exact (qtk hr hk).elim
  ·obtain⟨_,o',h2,h3⟩:=qpb hks hr hρ hk
   rw [h2] at ho
   simp only [z1,Option.some.injEq] at ho
   subst ho
   exact hE.low _ h3
  ·exact hE.tips _ _ _ _ h1
 ·rw [hE.low j (by omega)]
  exact hR.low j hj hF
 ·rw [hE.low d (hdn d hdd)]
  exact hd d hdd
def evY {ι : Type} (Y : ι→Option (SV×ι)) (i : ι):Option (AV×ι):=match Y i with
 |some (v,j)=>some (v.ev fun _=>kg,j)
 |none=>none
theorem qfy {X:Type} {f:Operand} {p:Tmp} {asg body:Code} {g:FuncId} {T:TypeId} {cs:List AV} {ι : Type} {Y : ι→Option (SV×ι)} {i0 : ι} (hit:ItC g T cs (evY Y) i0) (hrun:∀ vs w,(callFunc g vs).run E.P w = .ok (.enter g vs) w) (hY:∀ i v j,Y i=some (v,j)→v.all (fun _=>false)=true) (kb n0:Nat) (cv:List SV) (hcv:∀ ρ,SV.evs ρ cv=cs) (ks:List Nat) (I:X→Conf) (sl0:List (Nat×SV)) (P : ι→X→Prop) (D:Code→X→Prop) (x0:X) (h0:P i0 x0)
  (he:EntA B.n0 C (I x0)) (hz:¬ B.dz) (hsl:∀ x,(I x).sl=sl0)
  (hf:sval N sl0 f=some (.fn (.func g) [] [.bx kb 0]))
  (hkb:∀ x,lkS (I x).hp kb=some (some (.cells T cv)))
  (hr:∀ x,qa2 n0 ks (I x).sl (I x).hp (I x).nx=true) (h0r:(ksIn n0 ks (I x0).hp && Nat.ble B.n0 n0)=true)
  (hb:∀ i x v j,P i x→Y i=some (v,j)→RA E N n0 asg (fun F ρ C1=>RB E N F ρ n0 body (rndQ n0 (P j) D I) C1) ⟨(p,v)::(I x).sl,(I x).hp,(I x).nx⟩)
  (hn:∀ i x,Y i=none→P i x→Q .normal (I x)) (hd:∀ c x,D c x→qt9 Q c (I x)):Sm E none N B (.rangeFunc f #[p] asg body) Q C:=⟨fun s hs=>by
 obtain⟨ts,S0,df⟩:=s
 obtain⟨ρ0,hF0,hR0⟩:=hs
 simp only at hF0 hR0
 obtain⟨σ,hrg,he⟩:=he.ent
 have hF1:=hF0.ren (C':=I x0) hrg
 obtain⟨t,hw,hR1⟩:=he.sat hR0
 clear hF0 hR0 he hrg
 generalize renR σ ρ0 = ρ1 at hF1 hR1
 refine qwc hw ?_
 simp only [Bool.and_eq_true] at h0r
 have hBn:=Nat.le_of_ble_eq_true h0r.2
 have hB:=hR1.len
 have hks:∀ k∈ks,k<n0∧∃ o,ρ1 k = .bx o 0 0∧o<S0.length:=fun k hk=>by
  have:=List.all_eq_true.1 h0r.1 k hk
  simp only [Bool.and_eq_true] at this
  refine⟨v7 this.1,?_⟩
  have h2:=this.2
  split at h2
  ·rename_i T cs hl
   have hk2:hpF (I x0).hp k=some (.cells T cs):=by unfold hpF;rw [hl]
   obtain⟨o,v,h1,h3,rfl⟩:=hR1.hp.ok k _ hk2
   exact⟨o,h1,lt_of_getElem? h3⟩
  ·simp at h2
 have hdn:∀ d∈df,d<S0.length:=fun d hd=>lt_of_getElem? (hF1.dm d hd).1
 have hi0:RInv B n0 S0.length ks ρ1 t df (I x0) S0:=⟨ρ1,fun _ _=>rfl,hR1,fun d hd=>(hF1.dm d hd).1,Nat.le_refl _⟩
 have hnm:∀ x,(sl0.all fun q=>q.2.all fun k=>Nat.blt k n0)=true:=fun x=>by
  have:=hr x
  simp only [qa2,Bool.and_eq_true,hsl] at this
  exact this.1.1
 have hnm:=hnm x0
 have slot:∀ {ρ : Nat→AV},(∀ k,k<n0→ρ k = ρ1 k)→SlOk ρ t sl0:=fun {ρ} hρ d v hd=>by
  rw [hR1.sl d v (by rw [hsl];exact hd)]
  exact (qax (fun k hk=>hρ k (v7 hk)) v (List.all_eq_true.1 hnm _ (vr hd))).symm
 have hnx:∀ x,n0≤(I x).nx:=fun x=>by
  have:=hr x
  simp only [qa2,Bool.and_eq_true] at this
  exact Nat.le_of_ble_eq_true this.2
 have hkb1:kb<n0∧∃ o,ρ1 kb = .bx o 0 0∧o<S0.length:=by
  have h1:=hr x0
  simp only [qa2,Bool.and_eq_true] at h1
  have:=List.all_eq_true.1 h1.1.2 _ (vr (hkb x0))
  exact hks kb (qp5 this)
 obtain⟨hkbn,okb,hokb,hokl⟩:=hkb1
 have hfe:=qq (S:=S0) (df:=df) (slot fun _ _=>rfl) hf
 simp only [SV.ev,SV.evs,hokb,bxAt] at hfe
 have out:∀ {x S},RInv B n0 S0.length ks ρ1 t df (I x) S→S[S0.length]? = some .dfr→SatC B (I x) ⟨t,S,S0.length::df⟩:=fun {x S} hi hm=>by
  obtain⟨ρ,hρ,hR,hdd,hnS⟩:=hi.ex
  refine⟨ρ,⟨fun d hd=>?_,List.nodup_cons.2 ⟨fun h=>Nat.lt_irrefl _ (hdn _ h),hF1.nd⟩,fun k hk=>(hρ k (by omega)).trans (hF1.rig k hk),Nat.le_trans hBn (hnx x),fun h=>(hz h).elim⟩,hR⟩
  rcases List.mem_cons.1 hd with rfl|hd
  ·exact⟨hm,hB⟩
  ·exact⟨hdd d hd,(hF1.dm d hd).2⟩
 refine qo5 (S0:=S0) hit rfl hfe hrun
  (fun i S=>∃ x,P i x∧RInv B n0 S0.length ks ρ1 t df (I x) S) (fun c S=>∃ x,D c x∧RInv B n0 S0.length ks ρ1 t df (I x) S) ⟨x0,h0,hi0⟩ ?_ ?_ ?_ ?_ ?_ ?_
 ·rintro i S ⟨x,_,hi⟩
  obtain⟨ρ,hρ,hR,_⟩:=hi.ex
  have hk2:hpF (I x).hp kb=some (.cells T cv):=by unfold hpF;rw [hkb x]
  obtain⟨o,v,h1,h3,rfl⟩:=hR.hp.ok kb _ hk2
  rw [hρ kb hkbn,hokb] at h1
  simp only [AV.bx.injEq] at h1
  obtain⟨rfl,_⟩:=h1
  rw [hcv] at h3
  exact h3
 ·rintro i S S' hE ⟨x,hx,hi⟩
  exact⟨x,hx,hi.ext hks (hr x) hB hdn hE⟩
 ·rintro c S S' hE ⟨x,hx,hi⟩
  exact⟨x,hx,hi.ext hks (hr x) hB hdn hE⟩
 ·rintro F own rd i u j S hF ⟨x,hx,hi⟩ hy hm0 hm1 hm2
  obtain⟨v,hv,hu⟩:∃ v,Y i=some (v,j)∧u=v.ev fun _=>kg:=by
   unfold evY at hy
   split at hy
   ·rename_i v j2 hv
    simp only [Option.some.injEq,Prod.mk.injEq] at hy
    obtain⟨rfl,rfl⟩:=hy
    exact⟨v,hv,rfl⟩
   ·simp at hy
  subst hu
  have hva:=hY i v j hv
  obtain⟨ρ,hρ,hR,hdd,hnS⟩:=hi.ex
  -- what no resource's place is
  have qbc:∀ o y,S[o]? = some y→S0.length≤o→(∀ m sz T,y≠.tip m sz T)→¬ qbf (I x).hp ρ o:=fun o y hy ho hyt ⟨k,r,hk,hl⟩=>by
   rcases SR.ok_ct (hR.hp.ok k r hk) hl with⟨T,cs,v,h1,T',cs',rfl⟩ | ⟨m,sz,T,h1⟩ | ⟨sz,T,xs,rfl⟩ | ⟨P1,rfl⟩ | ⟨T2,cs2,rfl⟩
   rotate_left 2
   ·exact (qxj (hr x) hk).elim
   ·exact (qxa (hr x) hk).elim
   ·exact (qtk (hr x) hk).elim
   ·obtain⟨_,o',h2,h3⟩:=qpb hks (hr x) hρ hk
    rw [h2] at hl
    simp only [z1,Option.some.injEq] at hl
    omega
   ·rw [h1] at hy
    simp only [Option.some.injEq] at hy
    exact hyt _ _ _ hy.symm
  have a0:=qbc _ _ hm0 (by omega) (fun _ _ _=>by simp)
  have a1:=qbc _ _ hm1 (by omega) (fun _ _ _=>by rw [hF];simp)
  have a2:=fun k y hk=>qbc _ _ (hm2 k y hk).1 (by omega) (fun m sz T e=>(hm2 k y hk).2 m sz T (by rw [e]))
  have ad:∀ d∈df,¬ qbf (I x).hp ρ d:=fun d hd ⟨k,r,hk,hl⟩=>SR.ok_dfr (hR.hp.ok k r hk) hl (hdd d hd)
  have l2:=lt_of_getElem? hm1
  have s1:=((hb i x v j hx hv).run S (qbf (I x).hp ρ) ρ1 rd).run ⟨put t p (v.ev fun _=>kg),S,[]⟩
   ⟨ρ,⟨nofun,List.nodup_nil,hρ,hnx x,fun _=>rfl⟩,?_⟩
  rotate_left
  ·have hb1:=hR.rebase (S':=S) fun _ _=>rfl
   refine⟨fun d v hd=>?_,hb1.hp,hb1.own,hb1.low,hb1.len,fun d v hd=>?_,hb1.whp⟩
   ·simp only [lkS] at hd
    cases hbe:Nat.beq p d with
    |true=>
     rw [hbe] at hd
     simp only [cond_true,Option.some.injEq] at hd
     have e:=Nat.eq_of_beq_eq_true hbe
     subst e hd
     simp only [put]
     rw [qax (f:=fun _=>false) (ρ:=fun _=>kg) (ρ':= ρ) (fun k hk=>by simp at hk) v hva]
     simp
    |false=>
     rw [hbe] at hd
     have e:d≠p:=fun e=>by subst e;simp at hbe
     have:=hb1.sl d v hd
     simp only [put]
     rw [show Nat.beq d p=false from va e]
     exact this
   ·simp only [lkS] at hd
    cases hbe:Nat.beq p d with
    |true=>
     rw [hbe] at hd
     simp only [cond_true,Option.some.injEq] at hd
     subst hd
     exact all_mono (f:=fun _=>false) (fun k hk=>by simp at hk) v hva
    |false=>
     rw [hbe] at hd
     exact hb1.wsl d _ hd
  refine s1.mono fun e s1 ⟨C1,hq,hs1⟩=>?_
  cases e with
  |normal=>
   obtain⟨ρs,hFs,hRs⟩:=hs1
   have hdf1:=hFs.dz trivial
   have b1:s1.st[S0.length+1]? = some (F .ready none):=(hRs.low _ (by simp only;omega) a1).trans hm1
   refine⟨b1,hdf1,?_⟩
   have hq:=(hq (qbf C1.hp ρs)).run (s1.st.set (S0.length+1) (F .busy none)) (some rd)
   have c0:∀ o,o<S.length→¬ qbf (I x).hp ρ o→¬ qbf C1.hp ρs o:=fun o ho hn ⟨k,r,hk,hl⟩=>by
    rcases hRs.own k r hk o hl with h|h
    ·simp only at h
     omega
    ·exact hn h
   have hRb:=hRs.rebase (S':=s1.st.set (S0.length+1) (F .busy none)) fun o ho=>List.getElem?_set_ne fun e=>c0 (S0.length+1) (by omega) a1 (by rw [e];exact ho)
   refine (hq.run ⟨s1.t,s1.st.set (S0.length+1) (F .busy none),[]⟩ ⟨ρs,⟨nofun,List.nodup_nil,hFs.rig,hFs.le,nofun⟩,hRb⟩).mono fun e s2 ⟨C2,hq2,hs2⟩=>?_
   obtain⟨ρ2,hF2,hR2⟩:=hs2
   have hl1:=hRs.len
   have keep:∀ o y,o≠S0.length+1→S[o]? = some y→¬ qbf (I x).hp ρ o→s2.st[o]? = some y:=fun o y hne hy hn=>by
    have ho:=lt_of_getElem? hy
    rw [hR2.low o (by simp only [List.length_set];simp only at hl1;omega) (c0 o ho hn)]
    simp only
    rw [List.getElem?_set_ne (fun e=>hne e.symm),hRs.low o ho hn]
    exact hy
   have k0:=keep _ _ (by omega) hm0 a0
   have k2:∀ k y,own[k]? = some y→s2.st[S0.length+2+k]? = some y:=fun k y hk=>keep _ _ (by omega) (hm2 k y hk).1 (a2 k y hk)
   have k1:s2.st[S0.length+1]? = some (F .busy none):=by
    rw [hR2.low _ (by simp only [List.length_set];simp only at hl1;omega) (c0 _ (by omega) a1)]
    simp only
    exact x6 b1
   have fin:∀ x',EntA n0 C2 (I x')→RInv B n0 S0.length ks ρ1 t df (I x') s2.st:=fun x' he'=>by
    obtain⟨σ2,hrg2,he2⟩:=he'.ent
    have hF3:=hF2.ren (C':=I x') hrg2
    obtain⟨t3,_,hR3⟩:=he2.sat hR2
    have hl3:=hR3.len
    simp only [List.length_set] at hl3
    simp only at hl1
    refine⟨_,hF3.rig,⟨by rw [hsl];exact slot hF3.rig,hR3.hp,fun k r hk o ho=>?_,fun j hj hnj=>?_,by omega,hR3.wsl,hR3.whp⟩,fun d hd=>?_,by omega⟩
    ·rcases hR3.own k r hk o ho with h | ⟨k',r',h,h'⟩
     ·simp only [List.length_set] at h
      exact .inl (by omega)
     ·rcases hRs.own k' r' h o h' with h | ⟨k2,r2,h2,h3⟩
      ·simp only at h
       exact .inl (by omega)
      ·exact hR.own k2 r2 h2 o h3
    ·have hj0:¬ qbf (I x).hp ρ j:=fun ⟨k',r',h,h'⟩=>by
      rcases hR.own k' r' h j h' with h|h
      ·omega
      ·exact hnj h
     have hjS:j<S.length:=by omega
     rw [← hR.low j hj hnj]
     obtain⟨y,hy⟩:∃ y,S[j]? = some y:=⟨_,List.getElem?_eq_getElem hjS⟩
     rw [hy]
     exact keep j y (by omega) hy hj0
    ·exact keep d _ (by have:=hdn d hd;omega) (hdd d hd) (ad d hd)
   cases e with
   |normal=>
    obtain⟨x',hx',he'⟩:=hq2
    exact⟨k0,k1,k2,x',hx',fin x' he'⟩
   |ret=>
    obtain⟨x',hx',he'⟩:=hq2
    exact⟨k0,k1,k2,x',hx',fin x' he'⟩
   |exit id=>
    obtain⟨x',hx',he'⟩:=hq2
    exact⟨k0,k1,k2,x',hx',fin x' he'⟩
   | _=>exact hq2.elim
  | _=>exact hq.elim
 ·rintro i S hy ⟨x,hx,hi⟩ hm
  exact⟨I x,hn i x (by
   unfold evY at hy
   split at hy
   ·simp at hy
   ·assumption) hx,out hi hm⟩
 ·rintro c S ⟨x,hx,hi⟩ hm
  have hq:=hd c x hx
  cases c with
  |ret=>exact ze ⟨I x,hq,out hi hm⟩
  |exit id=>exact jg ⟨I x,hq,out hi hm⟩
  | _=>exact hq.elim⟩
theorem qmx {X:Type} {f:Operand} {p:Tmp} {asg body:Code} (text:List UInt8) (kb n0:Nat) (ks:List Nat) (I:X→Conf) (sl0:List (Nat×SV)) (P:Nat→List UInt8→X→Prop) (D:Code→X→Prop) (x0:X) (h0:P 0 text x0)
  (he:EntA B.n0 C (I x0)) (hz:¬ B.dz) (ht:text.length<4294967281) (hsl:∀ x,(I x).sl=sl0)
  (hf:sval N sl0 f=some (.fn (.func 49) [] [.bx kb 0]))
  (hkb:∀ x,lkS (I x).hp kb=some (some (.cells 9 [.s text])))
  (hr:∀ x,qa2 n0 ks (I x).sl (I x).hp (I x).nx=true) (h0r:(ksIn n0 ks (I x0).hp && Nat.ble B.n0 n0)=true)
  (hb:∀ k rest x,P k rest x→rest≠[]→rest.length≤text.length→RA E N n0 asg (fun F ρ C1=>RB E N F ρ n0 body (rndQ n0 (P (k+1) (past 10 rest)) D I) C1) ⟨(p,qlp k text rest)::(I x).sl,(I x).hp,(I x).nx⟩)
  (hn:∀ k x,P k [] x→Q .normal (I x)) (hd:∀ c x,D c x→qt9 Q c (I x)):Sm E none N B (.rangeFunc f #[p] asg body) Q C:=by
 have hY:evY (fun (q:Nat×List UInt8)=>if q.2=[]∨text.length<q.2.length then none else some (qlp q.1 text q.2,(q.1+1,past 10 q.2)))=qip text:=by
  funext ⟨k,rest⟩
  by_cases h:rest=[]∨text.length<rest.length
  ·simp [evY,qip,h]
  ·simp [evY,qip,h,qy7]
 refine qfy (Y:=fun (q:Nat×List UInt8)=>if q.2=[]∨text.length<q.2.length then none else some (qlp q.1 text q.2,(q.1+1,past 10 q.2))) (i0:=(0,text)) (by rw [hY];exact qz0 text ht) Tryz.call49 (fun i v j h=>?_) kb n0 [.s text] (fun _=>rfl) ks I sl0 (fun i x=>P i.1 i.2 x∧i.2.length≤text.length) D x0 ⟨h0,Nat.le_refl _⟩ he hz hsl hf hkb hr h0r (fun i x v j hp h=>?_) (fun i x h hp=>?_) hd
 ·split at h
  ·simp at h
  ·simp only [Option.some.injEq,Prod.mk.injEq] at h
   obtain⟨rfl,_⟩:=h
   rfl
 ·split at h
  ·simp at h
  ·rename_i hne
   simp only [Option.some.injEq,Prod.mk.injEq] at h
   obtain⟨rfl,rfl⟩:=h
   have hb:=hb i.1 i.2 x hp.1 (fun e=>hne (.inl e)) hp.2
   have hp2:=qa8 10 i.2
   exact⟨fun S F ρ rd=>⟨fun s hs=>((hb.run S F ρ rd).run s hs).mono fun e s' ⟨C',hq,hs'⟩=>⟨C',by
    cases e with
    |normal=>exact fun F'=>⟨fun S rd=>qq3 ((hq F').run S rd) fun e C2 hq2=>by
      cases e with
      |normal=>obtain⟨x,h1,h2⟩:=hq2;exact⟨x,⟨h1,by simp only;have:=hp.2;omega⟩,h2⟩
      | _=>exact hq2⟩
    | _=>exact hq,hs'⟩⟩⟩
 ·split at h
  ·rename_i he
   have:i.2=[]:=he.elim id fun h=>by have:=hp.2;omega
   refine hn i.1 x ?_
   rw [← this]
   exact hp.1
  ·simp at h
end
theorem qvh {nx:Nat} {H:Nat→Option SR} (text:qd):x4 E 29 [.s text] nx H ⟨.fn (.func 49) [] [.bx nx 0],[],[(nx,some (.cells 9 [.s text]))],nx+1⟩:=fun ρ S hS=>by
 refine (q1y text S _ S.length rfl rfl).mono fun r S' ⟨hr,hs⟩=>⟨upd ρ nx (.bx S.length 0 0),?_,?_⟩
 ·rw [hr]
  simp only [SV.ev,SV.evs,xh,bxAt]
 ·subst hs
  have key:∀ k r',chF [(nx,some (SR.cells 9 [.s text]))] (resF [] H) k=some r'→k=nx∧r' = .cells 9 [.s text]:=fun k r' hk=>by
   simp only [chF,lkS] at hk
   cases hb:Nat.beq nx k with
   |true=>
    rw [hb] at hk
    simp only [cond_true,Option.some.injEq] at hk
    exact⟨(Nat.eq_of_beq_eq_true hb).symm,hk.symm⟩
   |false=>
    rw [hb] at hk
    simp [resF,memN] at hk
  refine⟨fun k hk=>yt _ _ (by simp only at hk;omega),⟨fun k r hk=>?_,fun k k' r r' hne h1 h2=>?_⟩,by simp,fun j hj _=>List.getElem?_append_left hj,fun k r hk o ho=>?_⟩
  ·obtain⟨rfl,rfl⟩:=key _ _ hk
   exact⟨S.length,0,xh _ _ _,by simp [SV.evs,SV.ev],rfl⟩
  ·obtain⟨rfl,_⟩:=key _ _ h1
   obtain⟨rfl,_⟩:=key _ _ h2
   exact absurd rfl hne
  ·obtain⟨rfl,_⟩:=key _ _ hk
   rw [xh] at ho
   simp only [z1,Option.some.injEq] at ho
   subst ho
   exact .inl (Nat.le_refl _)
end Go.Proofs.YtmjmdjbdoiddeaaGreatDoor
namespace Go.Av
open Go Go.RowKit
def yc (hp:List (Nat×Option SR)):List (Nat×Option SR):=hp.map fun q=>(q.1,none)
def retS (P:Program) (fn:Func) (nx0:Nat) (r:SV) (hp1:List (Nat×Option SR)) (nx1:Nat) (e:Exit) (C:Conf):Prop:=
 match e with
 | .normal=>(match resV P fn.ntmps C fn.results.toList with
  |some v=>v.all (fun k=>Nat.blt k C.nx)=true∧EntA nx0 ⟨[(0,v)],C.hp,C.nx⟩ ⟨[(0,r)],hp1,nx1⟩
  |none=>False)
 | .ret=>(match resV P fn.ntmps C fn.results.toList with
  |some v=>v.all (fun k=>Nat.blt k C.nx)=true∧EntA nx0 ⟨[(0,v)],C.hp,C.nx⟩ ⟨[(0,r)],hp1,nx1⟩
  |none=>False)
 | _=>False
theorem quz {hp:List (Nat×Option SR)} {k:Nat} {r:SR} (h:hpF hp k=some r):memN (xj hp) k=true:=by
 have:=vr (x2 h)
 exact List.any_eq_true.2 ⟨k,List.mem_map.2 ⟨_,this,rfl⟩,by simp⟩
theorem yx (hp:List (Nat×Option SR)):resF (xj hp) (hpF hp)=hpF hp:=by
 funext k
 unfold resF
 cases h:memN (xj hp) k with
 |true=>rfl
 |false=>
  cases h2:hpF hp k with
  |none=>rfl
  |some r=>rw [quz h2] at h;simp at h
theorem qno:∀ (hp:List (Nat×Option SR)) (k:Nat),lkS (yc hp) k=none∧lkS hp k=none∨lkS (yc hp) k=some none
 | [],_=>.inl ⟨rfl,rfl⟩
 |(i,x)::r,k=>by
  simp only [yc,List.map_cons,lkS]
  cases hb:Nat.beq i k with
  |true=>exact .inr rfl
  |false=>exact qno r k
theorem qf6 (hp0 hp1:List (Nat×Option SR)):chF (hp1++yc hp0) (hpF hp0)=hpF hp1:=by
 funext k
 unfold chF
 rw [qbn]
 unfold hpF
 cases h:lkS hp1 k with
 |some r=>rfl
 |none=>
  simp only
  rcases qno hp0 k with⟨h1,h2⟩|h1
  ·rw [h1,h2]
  ·rw [h1]
theorem qam {E:Env} {f:FuncId} {fn:Func} {c:Code} (vs:List SV) (hp0:List (Nat×Option SR)) (nx0:Nat) (r:SV) (hp1:List (Nat×Option SR)) (nx1:Nat) (hf:E.P.funcs[f]? = some fn) (hb:fn.body=some c) (hn:Nat.ble vs.length fn.ntmps=true)
  (hc:okC ⟨jp 0 vs,hp0,nx0⟩=true) (hc1:okC ⟨[(0,r)],hp1,nx1⟩=true)
  (h:∀ S F ρ,numK 0 vs fun sl=>Sm E none fn.ntmps ⟨S,F,ρ,nx0,False⟩ c (retS E.P fn nx0 r hp1 nx1) ⟨sl,hp0,nx0⟩):x4 E f vs nx0 (hpF hp0) ⟨r,xj hp0,hp1++yc hp0,nx1⟩:=fun ρ S hS=>by
 simp only [qi4] at h
 simp only [yx] at hS
 have hlen:(SV.evs ρ vs).length=vs.length:=by rw [wt,List.length_map]
 refine qw hf hb (by rw [hlen];exact Nat.le_of_ble_eq_true hn) ?_
 rw [List.append_nil]
 simp only [okC,Bool.and_eq_true] at hc hc1
 have hwhp:∀ k r,hpF hp0 k=some r→k<nx0∧r.all (fun k=>Nat.blt k nx0)=true:=fun k r hk=>by
  have:=List.all_eq_true.1 hc.2 _ (vr (x2 hk))
  simp only [Bool.and_eq_true] at this
  exact⟨v7 this.1,this.2⟩
 have hst:SatC ⟨S,qbf hp0 ρ,ρ,nx0,False⟩ ⟨jp 0 vs,hp0,nx0⟩ ⟨argT (SV.evs ρ vs),S,[]⟩:=by
  refine⟨ρ,⟨nofun,List.nodup_nil,fun _ _=>rfl,Nat.le_refl _,nofun⟩,⟨fun d v hd=>?_,hS,fun k r hk o ho=>.inr ⟨k,r,hk,ho⟩,fun _ _ _=>rfl,Nat.le_refl _,fun d v hd=>?_,hwhp⟩⟩
  ·obtain⟨j,h1,h2⟩:=qbo hd
   have:(SV.evs ρ vs)[j]? = some (v.ev ρ):=by rw [wt,List.getElem?_map,h2];rfl
   rw [h1,Nat.zero_add]
   simp only [argT,List.getD,this,Option.getD_some]
  ·exact List.all_eq_true.1 hc.1 _ (vr hd)
 refine ((h S (qbf hp0 ρ) ρ).run _ hst).mono fun e s' ⟨C',hq,hs'⟩=>?_
 obtain⟨t,S',df⟩:=s'
 obtain⟨ρ2,hdf,hR⟩:=hs'
 simp only at hdf hR
 have fin:(match resV E.P fn.ntmps C' fn.results.toList with
  |some v=>v.all (fun k=>Nat.blt k C'.nx)=true∧EntA nx0 ⟨[(0,v)],C'.hp,C'.nx⟩ ⟨[(0,r)],hp1,nx1⟩
  |none=>False)→ARet E fn (fun r' S'=>∃ ρ',r'=r.ev ρ'∧qeb ρ S nx0 (hpF hp0) ⟨r,xj hp0,hp1++yc hp0,nx1⟩ ρ' S') ⟨t,S',df⟩:=fun h=>by
  split at h
  ·rename_i v hv
   obtain⟨hva,he⟩:=h
   obtain⟨σ,hrg,he⟩:=he.ent
   refine qed hR hdf.dm hdf.nd fun S2 hR2=>?_
   have hR3:SatR S (qbf hp0 ρ) ⟨[(0,v)],C'.hp,C'.nx⟩ ρ2 (fun _=>v.ev ρ2) S2:=
    ⟨fun d u hd=>by
     simp only [lkS] at hd
     cases hb:Nat.beq 0 d with
     |true=>rw [hb] at hd;simp only [cond_true,Option.some.injEq] at hd;rw [hd]
     |false=>rw [hb] at hd;simp [lkS] at hd,hR2.hp,hR2.own,hR2.low,hR2.len,fun d u hd=>by
     simp only [lkS] at hd
     cases hb:Nat.beq 0 d with
     |true=>rw [hb] at hd;simp only [cond_true,Option.some.injEq] at hd;rw [← hd];exact hva
     |false=>rw [hb] at hd;simp [lkS] at hd,hR2.whp⟩
   obtain⟨t',hw,hR4⟩:=he.sat hR3
   have hrig:∀ k,k<nx0→renR σ ρ2 k = ρ k:=fun k hk=>by
    simp only [Bool.and_eq_true] at hrg
    unfold renR
    rw [qkj hrg.1 k hk]
    exact hdf.rig k hk
   have hrn:nx0≤nx1:=by
    simp only [Bool.and_eq_true] at hrg
    exact Nat.le_of_ble_eq_true hrg.2
   generalize renR σ ρ2 = ρ3 at hR4 hrig
   have h0:t' 0=r.ev ρ3:=hR4.sl 0 r rfl
   have hwk:=hw 0
   rw [h0] at hwk
   let ρ':Nat→AV:=fun k=>bif Nat.ble nx1 k then ρ k else ρ3 k
   have hρ':∀ k,Nat.blt k nx1=true→ρ' k = ρ3 k:=fun k hk=>by
    show (bif Nat.ble nx1 k then ρ k else ρ3 k)=_
    have:Nat.ble nx1 k=false:=by
     cases hb:Nat.ble nx1 k with
     |false=>rfl
     |true=>have:=Nat.le_of_ble_eq_true hb;have:=v7 hk;omega
    rw [this]
    rfl
   have hra:r.all (fun k=>Nat.blt k nx1)=true:=List.all_eq_true.1 hc1.1 (0,r) (by simp)
   have hev:r.ev ρ'=r.ev ρ3:=qax hρ' r hra
   refine qm rfl (qas (qtj hR2 hv) hwk) ⟨ρ',hev.symm,?_⟩
   have hwh:∀ k r,hpF hp1 k=some r→ρ' k = ρ3 k∧r.all (fun k=>Nat.blt k nx1)=true:=fun k r hk=>by
    obtain⟨g1,g2⟩:=hR4.whp k r hk
    exact⟨hρ' k (qac g1),g2⟩
   refine⟨fun k hk=>?_,?_,hR4.len,fun j hj hn=>?_,fun k r hk o ho=>?_⟩
   ·show (bif Nat.ble nx1 k then ρ k else ρ3 k)=_
    cases hb:Nat.ble nx1 k with
    |true=>rfl
    |false=>
     rcases hk with hk|hk
     ·exact hrig k hk
     ·have:=Nat.ble_eq_true_of_le hk
      simp only at this
      rw [this] at hb
      simp at hb
   ·simp only [yx,qf6]
    refine⟨fun k r hk=>?_,fun k k' r r' hne h1 h2 o ho=>?_⟩
    ·obtain⟨g1,g2⟩:=hwh k r hk
     rw [g1]
     exact SR.ok_of g2 hρ' (hR4.hp.ok k r hk) fun _ _=>rfl
    ·rw [(hwh k r h1).1] at ho
     rw [(hwh k' r' h2).1]
     exact hR4.hp.sep k k' r r' hne h1 h2 o ho
   ·simp only [yx] at hn
    exact hR4.low j hj fun ⟨k,r,hk,hl⟩=>hn k r hk hl
   ·simp only [yx,qf6] at hk ⊢
    rw [(hwh k r hk).1] at ho
    exact hR4.own k r hk o ho
  ·exact h.elim
 cases e with
 |normal=>exact fin hq
 |ret=>exact fin hq
 | _=>exact hq.elim
def newN:Nat→Nat→Nat→List (Nat×Nat)
 | _,_,0=>[]
 |a,b,m+1=>(a,b)::newN (a+1) (b+1) m
theorem qqa:∀ (m a b k:Nat),lkS (newN a b m) k=if a≤k∧k<a+m then some (b+(k - a)) else none
 | 0,a,b,k=>by rw [if_neg (by omega)];rfl
 |m+1,a,b,k=>by
  simp only [newN,lkS]
  by_cases h:a=k
  ·subst h
   simp
  ·rw [va h,qqa m]
   simp only [cond_false]
   by_cases h2:a+1≤k∧k<a+1+m
   ·rw [if_pos h2,if_pos (by omega)]
    congr 1
    omega
   ·rw [if_neg h2,if_neg (by omega)]
def nmOf (σ : List (Nat×Nat)) (k:Nat):Nat:=match lkS σ k with
 |some j=>j
 |none=>0
def SR.ren (σ : List (Nat×Nat)):SR→SR
 | .cells T cs=>.cells T (SV.rens σ cs)
 | .tip sz T xs=>.tip sz T xs
 | .own sz T xs=>.own sz T xs
 | .obj P=>.obj P
 | .rows T cs=>.rows T (SV.rens σ cs)
def renO (σ : List (Nat×Nat)):Option SR→Option SR
 |some r=>some (r.ren σ)
 |none=>none
def renH (σ : List (Nat×Nat)):List (Nat×Option SR)→List (Nat×Option SR)
 | []=>[]
 |(k,r)::l=>(nmOf σ k,renO σ r)::renH σ l
def fltH (ks:List Nat):List (Nat×Option SR)→List (Nat×Option SR)
 | []=>[]
 |(k,r)::l=>bif memN ks k then (k,r)::fltH ks l else fltH ks l
def outH (ks:List Nat):List (Nat×Option SR):=ks.map fun k=>(k,none)
def qk7:List Nat→Bool
 | []=>true
 |k::r=> !memN r k && qk7 r
theorem qs7 (ks:List Nat):∀ (hp:List (Nat×Option SR)) (k:Nat),lkS (fltH ks hp) k=bif memN ks k then lkS hp k else none
 | [],k=>by simp only [fltH,lkS];cases memN ks k <;> rfl
 |(i,r)::l,k=>by
  have ih:=qs7 ks l k
  simp only [fltH]
  by_cases e:i=k
  ·subst e
   cases hm:memN ks i with
   |true=>simp [lkS]
   |false=>rw [hm] at ih;simp only [cond_false] at ih ⊢;exact ih
  ·cases hm:memN ks i with
   |true=>simp only [cond_true,lkS,va e,cond_false];exact ih
   |false=>simp only [cond_false,lkS,va e];exact ih
theorem qs4 (ks:List Nat) (hp:List (Nat×Option SR)):hpF (fltH ks hp)=resF ks (hpF hp):=by
 funext k
 unfold hpF resF
 rw [qs7]
 cases memN ks k <;> rfl
theorem qs9 {σ : List (Nat×Nat)}:∀ {hp:List (Nat×Option SR)} {j:Nat} {rr:SR},lkS (renH σ hp) j=some (some rr)→∃ k r,(k,some r)∈hp∧nmOf σ k=j∧rr=r.ren σ
 | [],j,rr,h=>by simp [renH,lkS] at h
 |(k,r)::l,j,rr,h=>by
  simp only [renH,lkS] at h
  cases hb:Nat.beq (nmOf σ k) j with
  |true=>
   rw [hb] at h
   simp only [cond_true,Option.some.injEq] at h
   cases r with
   |none=>simp [renO] at h
   |some r=>
    simp only [renO,Option.some.injEq] at h
    exact⟨k,r,by simp,Nat.eq_of_beq_eq_true hb,h.symm⟩
  |false=>
   rw [hb] at h
   obtain⟨k',r',h1,h2,h3⟩:=qs9 h
   exact⟨k',r',List.mem_cons_of_mem _ h1,h2,h3⟩
theorem qnc:∀ {hp:List (Nat×Option SR)} {k:Nat} {r:SR},qk7 (xj hp)=true→(k,some r)∈hp→hpF hp k=some r
 | [],k,r,_,h=>by simp at h
 |(i,x)::l,k,r,hd,h=>by
  simp only [xj,List.map_cons,qk7,Bool.and_eq_true] at hd
  unfold hpF
  simp only [lkS]
  rcases List.mem_cons.1 h with e|e
  ·simp only [Prod.mk.injEq] at e
   obtain⟨rfl,rfl⟩:=e
   simp
  ·have hne:i≠k:=fun e'=>by
    subst e'
    have:memN (List.map Prod.fst l) i=true:=List.any_eq_true.2 ⟨i,List.mem_map.2 ⟨_,e,rfl⟩,by simp⟩
    rw [this] at hd
    simp at hd
   rw [va hne]
   exact qnc hd.2 e
theorem qs8:∀ (ks:List Nat) (j:Nat),lkS (outH ks) j=bif memN ks j then some none else none
 | [],j=>rfl
 |k::r,j=>by
  have ih:=qs8 r j
  simp only [outH,List.map_cons,lkS,memN,List.any_cons]
  by_cases e:k=j
  ·subst e;simp
  ·rw [va e,va (fun h=>e h.symm)]
   exact ih
theorem qqg {α : Type}:∀ {l:List α} {i0 i:Nat} {v : α},l[i]? = some v→lkS (jp i0 l) (i0+i)=some v
 | [],_,_,_,h=>by simp at h
 |x::r,i0,0,v,h=>by
  simp only [List.getElem?_cons_zero,Option.some.injEq] at h
  subst h
  simp [jp,lkS]
 |x::r,i0,i+1,v,h=>by
  simp only [jp,lkS]
  rw [va (by omega),show i0+(i+1)=i0+1+i by omega]
  exact qqg (by simpa using h)
theorem q2k {E:Env} {f:FuncId} {vs0:List SV} {hp0:List (Nat×Option SR)} {nx0:Nat} {r:SV} {hp1:List (Nat×Option SR)} {nx1:Nat} (h:x4 E f vs0 nx0 (hpF hp0) ⟨r,xj hp0,hp1++yc hp0,nx1⟩)
  (σ : List (Nat×Nat)) {hpU:List (Nat×Option SR)} {vs:List SV} {nx:Nat} (hl:vs.length=vs0.length) (hc:okC ⟨jp 0 vs,fltH (σ.map Prod.snd) hpU,nx⟩=true)
  (he:EntC σ ⟨jp 0 vs,fltH (σ.map Prod.snd) hpU,nx⟩ ⟨jp 0 vs0,hp0,nx0⟩) (hc1:okC ⟨[(0,r)],hp1,nx1⟩=true)
  (hk:(qk7 (xj hp1) && hp1.all (fun q=>(lkS (newN nx0 nx (nx1 - nx0) ++ σ) q.1).isSome) && σ.all (fun q=>Nat.blt q.1 nx0 && Nat.blt q.2 nx) && Nat.ble nx0 nx1)=true) :
  x4 E f vs nx (hpF hpU) ⟨r.ren (newN nx0 nx (nx1 - nx0) ++ σ),σ.map Prod.snd,renH (newN nx0 nx (nx1 - nx0) ++ σ) hp1++outH (σ.map Prod.snd),nx+(nx1 - nx0)⟩:=fun ρ S hS=>by
 simp only at hS
 simp only [Bool.and_eq_true] at hk
 obtain⟨⟨⟨hd,hsm⟩,hσ⟩,hn⟩:=hk
 have hn:=Nat.le_of_ble_eq_true hn
 simp only [okC,Bool.and_eq_true] at hc hc1
 generalize hks : σ.map Prod.snd=ks at hS hc he ⊢
 obtain⟨m,hm⟩:∃ m,m=nx1 - nx0:=⟨_,rfl⟩
 rw [← hm] at hsm ⊢
 have hR:SatR S (qbf (fltH ks hpU) ρ) ⟨jp 0 vs,fltH ks hpU,nx⟩ ρ (argT (SV.evs ρ vs)) S:=by
  refine⟨fun d v hd=>?_,by simp only [qs4];exact hS,fun k r hk o ho=>.inr ⟨k,r,hk,ho⟩,fun _ _ _=>rfl,Nat.le_refl _,fun d v hd=>List.all_eq_true.1 hc.1 _ (vr hd),fun k r hk=>?_⟩
  ·obtain⟨j,h1,h2⟩:=qbo hd
   have:(SV.evs ρ vs)[j]? = some (v.ev ρ):=by rw [wt,List.getElem?_map,h2];rfl
   rw [h1,Nat.zero_add]
   simp only [argT,List.getD,this,Option.getD_some]
  ·have:=List.all_eq_true.1 hc.2 _ (vr (x2 hk))
   simp only [Bool.and_eq_true] at this
   exact⟨v7 this.1,this.2⟩
 obtain⟨t',hw,hR'⟩:=he.sat hR
 have hrc:∀ k j,lkS σ k=some j→renR σ ρ k = ρ j:=fun k j e=>by unfold renR;rw [e]
 have hrn:∀ k,lkS σ k=none→renR σ ρ k=kg:=fun k e=>by unfold renR;rw [e]
 -- where a canonical resource lies
 have foot:∀ k r,hpF hp0 k=some r→∀ o,z1 (renR σ ρ k)=some o→∃ j r',resF ks (hpF hpU) j=some r'∧z1 (ρ j)=some o:=fun k r hk o ho=>by
  have hE:=qdg he.2.1 (x2 hk)
  simp only [qs4] at hE
  unfold entR at hE
  cases hl:lkS σ k with
  |none=>
   rw [hrn k hl] at ho
   simp [z1] at ho
  |some j=>
   rw [hrc k j hl] at ho
   rw [hl] at hE
   cases hj:resF ks (hpF hpU) j with
   |none=>cases r <;> (simp only [hj] at hE)
   |some r'=>exact⟨j,r',hj,ho⟩
 have hS0:SatF S (renR σ ρ) (hpF hp0):=hR'.hp
 refine qoq (ys:=SV.evs (renR σ ρ) vs0) (by simp [wt,hl]) (fun i x y hx hy=>?_) ((h (renR σ ρ) S (by simp only [yx];exact hS0)).mono fun r' S' ⟨ρc,hr,hp⟩=>?_)
 ·have h1:=hw i
  simp only [wt,List.getElem?_map] at hy hx
  cases hv:vs0[i]? with
  |none=>rw [hv] at hy;simp at hy
  |some v=>
   rw [hv] at hy
   simp only [Option.map_some,Option.some.injEq] at hy
   have h2:=hR'.sl i v (by have:=qqg (i0:=0) hv;rwa [Nat.zero_add] at this)
   rw [h2,hy] at h1
   have:argT (SV.evs ρ vs) i=x:=by simp only [argT,List.getD,wt,List.getElem?_map,hx,Option.getD_some]
   rw [this] at h1
   exact h1
 ·let ρ':Nat→AV:=fun j=>bif Nat.ble nx j && Nat.blt j (nx+m) then ρc (nx0+(j - nx)) else ρ j
  have hold:∀ j,(j<nx∨nx+m≤j)→ρ' j = ρ j:=fun j hj=>by
   show (bif Nat.ble nx j && Nat.blt j (nx+m) then ρc (nx0+(j - nx)) else ρ j) = ρ j
   have:(Nat.ble nx j && Nat.blt j (nx+m))=false:=by
    cases hb:(Nat.ble nx j && Nat.blt j (nx+m)) with
    |false=>rfl
    |true=>
     simp only [Bool.and_eq_true] at hb
     have h1:=Nat.le_of_ble_eq_true hb.1
     have h2:=v7 hb.2
     omega
   rw [this]
   rfl
  have hnew:∀ i,i<m→ρ' (nx+i) = ρc (nx0+i):=fun i hi=>by
   show (bif Nat.ble nx (nx+i) && Nat.blt (nx+i) (nx+m) then ρc (nx0+(nx+i - nx)) else ρ (nx+i))=_
   have h1:Nat.ble nx (nx+i)=true:=Nat.ble_eq_true_of_le (by omega)
   have h2:Nat.blt (nx+i) (nx+m)=true:=qac (by omega)
   rw [h1,h2,show nx+i - nx=i by omega]
   rfl
  have hσj:∀ k j,lkS σ k=some j→k<nx0∧j<nx:=fun k j e=>by
   have:=List.all_eq_true.1 hσ _ (vr e)
   simp only [Bool.and_eq_true] at this
   exact⟨v7 this.1,v7 this.2⟩
  have hro:∀ k,k<nx0→ρc k=renR σ ρ k:=fun k hk=>hp.old k (.inl hk)
  have key:∀ k,k<nx1→renR (newN nx0 nx m ++ σ) ρ' k = ρc k:=fun k hk=>by
   have e:renR (newN nx0 nx m ++ σ) ρ' k=match lkS (newN nx0 nx m ++ σ) k with|some j=> ρ' j|none=>kg:=rfl
   rw [e,qbn,qqa]
   by_cases hkn:nx0≤k
   ·rw [if_pos ⟨hkn,by omega⟩]
    simp only
    rw [hnew _ (by omega),show nx0+(k - nx0)=k by omega]
   ·rw [if_neg (by omega),hro k (by omega)]
    simp only
    cases hl:lkS σ k with
    |none=>rw [hrn k hl]
    |some j=>
     rw [hrc k j hl]
     exact hold j (.inl (hσj k j hl).2)
  have keyj:∀ k,k<nx1→(lkS (newN nx0 nx m ++ σ) k).isSome=true→ρ' (nmOf (newN nx0 nx m ++ σ) k) = ρc k:=fun k hk hs=>by
   rw [← key k hk]
   unfold renR nmOf
   cases hl:lkS (newN nx0 nx m ++ σ) k with
   |none=>rw [hl] at hs;simp at hs
   |some j=>rfl
  have res:∀ j rr,chF (renH (newN nx0 nx m ++ σ) hp1++outH ks) (resF ks (hpF hpU)) j=some rr→∃ k r,hpF hp1 k=some r∧nmOf (newN nx0 nx m ++ σ) k=j∧rr=r.ren (newN nx0 nx m ++ σ)∧ρ' j = ρc k∧r.all (fun k=>Nat.blt k nx1)=true:=fun j rr hj=>by
   unfold chF at hj
   rw [qbn] at hj
   cases hl:lkS (renH (newN nx0 nx m ++ σ) hp1) j with
   |some x=>
    rw [hl] at hj
    simp only at hj
    subst hj
    obtain⟨k,r,h1,h2,h3⟩:=qs9 hl
    have h4:=List.all_eq_true.1 hc1.2 _ h1
    simp only [Bool.and_eq_true] at h4
    have h5:=List.all_eq_true.1 hsm _ h1
    refine⟨k,r,qnc hd h1,h2,h3,?_,h4.2⟩
    rw [← h2]
    exact keyj k (v7 h4.1) h5
   |none=>
    rw [hl] at hj
    simp only [qs8] at hj
    cases hmm:memN ks j with
    |true=>rw [hmm] at hj;simp at hj
    |false=>
     rw [hmm] at hj
     simp [resF,hmm] at hj
  have hra:r.all (fun k=>Nat.blt k nx1)=true:=List.all_eq_true.1 hc1.1 (0,r) (by simp)
  refine⟨ρ',?_,fun k hk=>hold k hk,⟨fun j rr hj=>?_,fun j j' rr rr' hne h1 h2 o ho=>?_⟩,hp.len,fun j hj hnj=>?_,fun j rr hj o ho=>?_⟩
  ·rw [hr]
   simp only
   rw [ql5]
   exact (qax (fun k hk=>key k (v7 hk)) r hra).symm
  ·obtain⟨k,r0,h1,h2,rfl,h4,h5⟩:=res j rr hj
   rw [h4]
   have hsat:=hp.sat
   simp only [yx,qf6] at hsat
   have hok:=hsat.ok k r0 h1
   cases r0 with
   |cells T cs=>
    obtain⟨o,v,g1,g2,g3⟩:=hok
    refine⟨o,v,g1,?_,g3⟩
    rw [qb0,yw (fun k hk=>key k (v7 hk)) cs h5]
    exact g2
   |tip sz T xs=>exact hok
   |own sz T xs=>exact hok
   |obj P=>exact hok
   |rows T cs=>
    show OwnS _ 1 T (SV.evs _ (SV.rens _ cs)) _
    rw [qb0,yw (fun k hk=>key k (v7 hk)) cs h5]
    exact hok
  ·obtain⟨k,r0,h3,h4,_,h5,_⟩:=res j rr h1
   obtain⟨k',r0',h3',h4',_,h5',_⟩:=res j' rr' h2
   rw [h5] at ho
   rw [h5']
   have hsat:=hp.sat
   simp only [yx,qf6] at hsat
   exact hsat.sep k k' r0 r0' (fun e=>hne (by rw [← h4,← h4',e])) h3 h3' o ho
  ·refine hp.fr j hj fun k r0 hk hlo=>?_
   simp only [yx] at hk
   obtain⟨j',r',g1,g2⟩:=foot k r0 hk j hlo
   exact hnj j' r' g1 g2
  ·obtain⟨k,r0,h1,h2,_,h4,_⟩:=res j rr hj
   rw [h4] at ho
   have hlc:=hp.loc k r0 (by simp only [yx,qf6];exact h1) o ho
   rcases hlc with g | ⟨k',r',g1,g2⟩
   ·exact .inl g
   ·simp only [yx] at g1
    obtain⟨j',r'',g3,g4⟩:=foot k' r' g1 o g2
    exact .inr ⟨j',r'',g3,g4⟩
def useW (vs0:List SV) (hp0:List (Nat×Option SR)) (nx0:Nat) (r:SV) (hp1:List (Nat×Option SR)) (nx1:Nat) (hpU:List (Nat×Option SR)) (vs:List SV) (nx:Nat) (k:Ef→Prop):Prop:=
 fcP (addS [] (prsL vs0 vs)) fun a=>fcP (addS a (sigH (hpF hpU) a hp0)) fun σ=>
  vs.length=vs0.length∧okC ⟨jp 0 vs,fltH (σ.map Prod.snd) hpU,nx⟩=true∧EntC σ ⟨jp 0 vs,fltH (σ.map Prod.snd) hpU,nx⟩ ⟨jp 0 vs0,hp0,nx0⟩∧okC ⟨[(0,r)],hp1,nx1⟩=true ∧
   (qk7 (xj hp1) && hp1.all (fun q=>(lkS (newN nx0 nx (nx1 - nx0) ++ σ) q.1).isSome) && σ.all (fun q=>Nat.blt q.1 nx0 && Nat.blt q.2 nx) && Nat.ble nx0 nx1)=true ∧
   k ⟨r.ren (newN nx0 nx (nx1 - nx0) ++ σ),σ.map Prod.snd,renH (newN nx0 nx (nx1 - nx0) ++ σ) hp1++outH (σ.map Prod.snd),nx+(nx1 - nx0)⟩
theorem xo {E:Env} {f:FuncId} {vs0:List SV} {hp0:List (Nat×Option SR)} {nx0:Nat} {r:SV} {hp1:List (Nat×Option SR)} {nx1:Nat} (h:x4 E f vs0 nx0 (hpF hp0) ⟨r,xj hp0,hp1++yc hp0,nx1⟩) {hpU:List (Nat×Option SR)} {vs:List SV} {nx:Nat} {k:Ef→Prop}
  (hw:useW vs0 hp0 nx0 r hp1 nx1 hpU vs nx k):∃ e,x4 E f vs nx (hpF hpU) e∧k e:=by
 unfold useW at hw
 simp only [qpm] at hw
 obtain⟨h1,h2,h3,h4,h5,h6⟩:=hw
 exact⟨_,q2k h _ h1 h2 h3 h4 h5,h6⟩
theorem q0h {l m:List AV} (hl:l.length=m.length) (h:∀ (i:Nat) (x y:AV),l[i]? = some x→m[i]? = some y→Wk x y):Wk (.pp l) (.pp m):=fun G v hr=>by
 cases hr with
 |pp _ b off pub hp hlen hr=>
  refine .pp m b off pub hp (by omega) fun i y z hy hz=>?_
  have hi:i<l.length:=by have:=lt_of_getElem? hy;omega
  have hx:l[i]? = some l[i]:=List.getElem?_eq_getElem hi
  exact h i _ y hx hy G z (hr i _ z hx hz)
theorem qo4 {E:Env} {fn:Func} {R:AV→List AObj→Prop} {s:AS} {d o ver:Nat} {T:TypeId} {cs xs:List AV} (hi:s.t d = .bx o ver 0) (ho:s.st[o]? = some (.cells ver T cs)) (hw:Wk (.pp cs) (.pp xs))
  (h:ARet E fn R ⟨Av.put s.t d (.pp xs),s.st.set o .dead,s.df⟩):ARet E fn R s:=
 ⟨fun B0 w0 G a w hL hI R2 hR=>by
  obtain⟨G1,h1,h2⟩:=hI.pub hi ho
  refine h.run B0 w0 G1 a w hL ⟨h2.agree,h2.defers,h2.size,fun j y hy=>?_⟩ R2 fun v G' r st' w' hG=>hR v G' r st' w' (h1.trans hG)
  have hj:=h2.tmps j y hy
  by_cases e:j=d
  ·subst e
   simp only [x3] at hj ⊢
   exact hw G1 y hj
  ·simp only at hj ⊢
   rw [y3 _ _ _ _ e] at hj ⊢
   exact hj⟩
theorem qv5 {E:Env} {fn:Func} {R:AV→List AObj→Prop} {s:AS} {d o ver o2 ver2 sz cap:Nat} {T T2:TypeId} {cs xs ys pad:List AV} (hi:s.t d = .bx o ver 0) (ho:s.st[o]? = some (.cells ver T cs)) (ho2:s.st[o2]? = some (.cells ver2 T2 (flat ys++pad))) (hne:o≠o2) (hw:∀ y∈ys,y.cells.length=sz) (hc:ys.length≤cap) (hl:cs.length=xs.length)
  (hx:∀ (i:Nat) (x y:AV),cs[i]? = some x→xs[i]? = some y→Wk x y∨(x = .os o2 ver2 0 ys.length cap∧y = .sl sz ys none)) (h:ARet E fn R ⟨Av.put s.t d (.pp xs),(s.st.set o .dead).set o2 .dead,s.df⟩):ARet E fn R s:=
 ⟨fun B0 w0 G a w hL hI R2 hR=>by
  obtain⟨G1,h1,h2⟩:=hI.pub hi ho
  have ho3:(s.st.set o .dead)[o2]? = some (.cells ver2 T2 (flat ys++pad)):=(List.getElem?_set_ne hne).trans ho2
  obtain⟨vs,hle,hA,hv,hp,hl2,hr⟩:=h2.agree.pubOb ho3
  refine h.run B0 w0 _ a w hL ⟨hA,h2.defers_mono hle,h2.size,fun j y hy=>?_⟩ R2 fun v G' r st' w' hG=>hR v G' r st' w' (h1.trans (hle.trans hG))
  have hj:=(h2.tmps j y hy).mono hle
  by_cases e:j=d
  ·subst e
   simp only [x3] at hj ⊢
   cases hj with
   |pp _ b off pub hp2 hlen hrel=>
    refine .pp xs b off pub hp2 (by omega) fun i z u hz hu=>?_
    have hi:i<cs.length:=by have:=lt_of_getElem? hz;omega
    have hg:cs[i]? = some cs[i]:=List.getElem?_eq_getElem hi
    have hrl:=hrel i _ u hg hu
    rcases hx i _ z hg hz with hw1 | ⟨e1,rfl⟩
    ·exact hw1 _ _ hrl
    ·rw [e1] at hrl
     cases hrl with
     |os _ _ _ _ bl _ hn hv' hb=>
      have hb:=hb hv
      subst hb
      refine .sl sz ys none _ 0 cap vs hp hw (by rw [← hl2];simp) (fun k x y g1 g2=>hr k x y (by rw [List.getElem?_append_left (lt_of_getElem? g1)];exact g1) (by simpa using g2)) (fun t ht=>by simp at ht) hc
  ·simp only at hj ⊢
   rw [y3 _ _ _ _ e] at hj ⊢
   exact hj⟩
theorem q0o {E:Env} {fn:Func} {R:AV→List AObj→Prop} {s:AS} {d o ver sz cap:Nat} {T:TypeId} {ys pad:List AV} (hi:s.t d = .os o ver 0 ys.length cap) (ho:s.st[o]? = some (.cells ver T (flat ys++pad))) (hw:∀ y∈ys,y.cells.length=sz) (hc:ys.length≤cap)
  (h:ARet E fn R ⟨Av.put s.t d (.sl sz ys none),s.st.set o .dead,s.df⟩):ARet E fn R s:=
 ⟨fun B0 w0 G a w hL hI R2 hR=>by
  obtain⟨G1,h1,h2⟩:=hI.osPub (xs:=ys) (sz:=sz) hi ho rfl hc hw (by rw [List.length_append,xi hw];omega) (by rw [List.drop_zero,← xi hw,List.take_left])
  exact h.run B0 w0 G1 a w hL h2 R2 fun v G' r st' w' hG=>hR v G' r st' w' (h1.trans hG)⟩
def qxi (H:Nat→Option SR):SV→Option (Nat×Nat×List AV)
 | .tp k=>(match H k with
  |some (.own sz _ ys)=>some (k,sz,ys)
  | _=>none)
 | _=>none
def qlw (H:Nat→Option SR):List SV→Option (Nat×Nat×List AV)
 | []=>none
 |c::r=>(match qxi H c with
  |some x=>some x
  |none=>qlw H r)
theorem qqm {H:Nat→Option SR} {j sz:Nat} {ys:List AV}:∀ {cs:List SV},qlw H cs=some (j,sz,ys)→∃ T,H j=some (.own sz T ys)
 | [],h=>by simp [qlw] at h
 |c::r,h=>by
  simp only [qlw] at h
  split at h
  ·rename_i x hx
   simp only [Option.some.injEq] at h
   subst h
   unfold qxi at hx
   split at hx
   ·split at hx
    ·rename_i hk
     simp only [Option.some.injEq,Prod.mk.injEq] at hx
     obtain⟨rfl,rfl,rfl⟩:=hx
     exact⟨_,hk⟩
    ·simp at hx
   ·simp at hx
  ·exact qqm (cs:=r) h
def frzJ (H:Nat→Option SR) (j sz:Nat) (ys:List AV):List SV→Option (List AV)
 | []=>some []
 |c::r=>(match (match c with
   | .tp k=>bif Nat.beq k j then some (.sl sz ys none) else frz H (.tp k)
   |c=>frz H c),frzJ H j sz ys r with
  |some x,some l=>some (x::l)
  | _,_=>none)
theorem qs2 {S:List AObj} {ρ : Nat→AV} {H:Nat→Option SR} (hS:SatF S ρ H) {j sz:Nat} {ys:List AV}:∀ (cs:List SV) (xs:List AV),frzJ H j sz ys cs=some xs→(SV.evs ρ cs).length=xs.length∧∀ (i:Nat) (x y:AV),(SV.evs ρ cs)[i]? = some x→xs[i]? = some y→Wk x y∨(x=tpAt (ρ j)∧y = .sl sz ys none)
 | [],xs,h=>by simp only [frzJ,Option.some.injEq] at h;subst h;exact⟨rfl,by simp [SV.evs]⟩
 |c::r,xs,h=>by
  simp only [frzJ] at h
  split at h
  ·rename_i x l h1 h2
   simp only [Option.some.injEq] at h
   subst h
   obtain⟨g1,g2⟩:=qs2 hS r l h2
   refine⟨by simp [SV.evs,g1],fun i a b ha hb=>?_⟩
   cases i with
   |zero=>
    simp only [SV.evs,List.getElem?_cons_zero,Option.some.injEq] at ha hb
    subst ha
    subst hb
    split at h1
    ·rename_i k
     cases hkj:Nat.beq k j with
     |true=>
      rw [hkj] at h1
      simp only [cond_true,Option.some.injEq] at h1
      rw [Nat.eq_of_beq_eq_true hkj]
      exact .inr ⟨rfl,h1.symm⟩
     |false=>
      rw [hkj] at h1
      exact .inl (qeu hS _ _ h1)
    ·exact .inl (qeu hS _ _ h1)
   |succ i=>exact g2 i a b (by simpa [SV.evs] using ha) (by simpa using hb)
  ·simp at h
def pubK (k:Conf→Prop):List ResultVar→Conf→Prop
 | [],C=>k C
 | .tmp t::r,C=>(match lkS C.sl t with
  |some (.bx b 0)=>(match hpF C.hp b with
   |some (.cells _ cs)=>(match qlw (hpF C.hp) cs with
    |some (j,sz,ys)=>(match frzJ (hpF C.hp) j sz ys cs with
     |some xs=>pubK k r ⟨(t,.a (.pp xs))::C.sl,(j,none)::(b,none)::C.hp,C.nx⟩
     |none=>pubK k r C)
    |none=>(match frzs (hpF C.hp) cs with
     |some xs=>pubK k r ⟨(t,.a (.pp xs))::C.sl,(b,none)::C.hp,C.nx⟩
     |none=>pubK k r C))
   | _=>pubK k r C)
  |some (.tp b)=>(match hpF C.hp b with
   |some (.own sz _ ys)=>pubK k r ⟨(t,.a (.sl sz ys none))::C.sl,(b,none)::C.hp,C.nx⟩
   | _=>pubK k r C)
  | _=>pubK k r C)
 | _::r,C=>pubK k r C
theorem SatR.drop {S0:List AObj} {F:Nat→Prop} {C:Conf} {ρ t:Nat→AV} {S:List AObj} (h:SatR S0 F C ρ t S) {b o:Nat} {q:SR} (hb:hpF C.hp b=some q) (ho:∀ o',z1 (ρ b)=some o'→o'=o) (hd:z1 (ρ b)=some o∨S.set o .dead=S) :
  SatR S0 F ⟨C.sl,(b,none)::C.hp,C.nx⟩ ρ t (S.set o .dead):=by
 have hget:∀ k r,hpF ((b,none)::C.hp) k=some r→k≠b∧hpF C.hp k=some r:=fun k r hk=>by
  unfold hpF at hk ⊢
  simp only [lkS] at hk
  by_cases e:b=k
  ·subst e;simp at hk
  ·rw [va e] at hk
   exact⟨fun h=>e h.symm,hk⟩
 rcases hd with hd|hd
 ·refine⟨h.sl,⟨fun k r hk=>?_,fun k k' r r' hne hk hk'=>h.hp.sep k k' r r' hne (hget k r hk).2 (hget k' r' hk').2⟩,fun k r hk=>h.own k r (hget k r hk).2,fun j hj hF=>?_,by simpa using h.len,h.wsl,fun k r hk=>h.whp k r (hget k r hk).2⟩
  ·obtain⟨hne,hk⟩:=hget k r hk
   refine SR.ok_of (f:=fun _=>true) (SR.all_mono (fun _ _=>rfl) r (h.whp k r hk).2) (fun _ _=>rfl) (h.hp.ok k r hk) fun j hj=>?_
   have:o≠j:=fun e=>h.hp.sep b k _ r (fun e=>hne e.symm) hb hk o hd (e▸hj)
   rw [List.getElem?_set_ne this]
  ·have:o≠j:=fun e=>by
    rcases h.own b _ hb o hd with g|g
    ·omega
    ·exact hF (e▸g)
   rw [List.getElem?_set_ne this]
   exact h.low j hj hF
 ·rw [hd]
  exact⟨h.sl,⟨fun k r hk=>h.hp.ok k r (hget k r hk).2,fun k k' r r' hne hk hk'=>h.hp.sep k k' r r' hne (hget k r hk).2 (hget k' r' hk').2⟩,fun k r hk=>h.own k r (hget k r hk).2,h.low,h.len,h.wsl,fun k r hk=>h.whp k r (hget k r hk).2⟩
theorem SatR.slot {S0:List AObj} {F:Nat→Prop} {C:Conf} {ρ t:Nat→AV} {S:List AObj} (h:SatR S0 F C ρ t S) (d:Nat) {y:AV}:SatR S0 F ⟨(d,.a y)::C.sl,C.hp,C.nx⟩ ρ (Av.put t d y) S:=by
 refine⟨fun x v hx=>?_,h.hp,h.own,h.low,h.len,fun x v hx=>?_,h.whp⟩
 ·simp only [lkS] at hx
  by_cases e:d=x
  ·subst e
   simp at hx
   subst hx
   exact x3 _ _ _
  ·rw [va e] at hx
   simp only [cond_false] at hx
   exact (y3 _ _ _ _ (fun h=>e h.symm)).trans (h.sl x v hx)
 ·simp only [lkS] at hx
  by_cases e:d=x
  ·subst e
   simp at hx
   subst hx
   rfl
  ·rw [va e] at hx
   exact h.wsl x v hx
theorem SatR.pub {S0:List AObj} {F:Nat→Prop} {C:Conf} {ρ t:Nat→AV} {S:List AObj} (h:SatR S0 F C ρ t S) {d b o:Nat} {T:TypeId} {cs:List SV} {xs:List AV} (hb:hpF C.hp b=some (.cells T cs)) (ho:z1 (ρ b)=some o) :
  SatR S0 F ⟨(d,.a (.pp xs))::C.sl,(b,none)::C.hp,C.nx⟩ ρ (Av.put t d (.pp xs)) (S.set o .dead):=
 (h.drop hb (fun o' ho'=>by rw [ho] at ho';simpa using ho'.symm) (.inl ho)).slot d
theorem q0p {E:Env} {fn:Func} {R:AV→List AObj→Prop} {s:AS} {d:Nat} {x r:AV} (hi:s.t d=x) (hw:Wk x r) (h:ARet E fn R ⟨Av.put s.t d r,s.st,s.df⟩):ARet E fn R s:=
 ⟨fun B0 w0 G a w hL hI R2 hR=>h.run B0 w0 G a w hL ⟨hI.agree,hI.defers,hI.size,fun j y hy=>by
  have hj:=hI.tmps j y hy
  by_cases e:j=d
  ·subst e
   simp only [x3]
   rw [hi] at hj
   exact hw G y hj
  ·simp only
   rw [y3 _ _ _ _ e]
   exact hj⟩ R2 hR⟩
theorem y9 {E:Env} {fn:Func} {R:AV→List AObj→Prop} {S0:List AObj} {F:Nat→Prop} {ρ : Nat→AV} {k:Conf→Prop} (hk:∀ C t S,k C→SatR S0 F C ρ t S→ARet E fn R ⟨t,S,[]⟩):∀ {l:List ResultVar} {C:Conf} {t:Nat→AV} {S:List AObj},pubK k l C→SatR S0 F C ρ t S→ARet E fn R ⟨t,S,[]⟩
 | [],C,t,S,h,hR=>hk C t S h hR
 | .cell _ _::r,C,t,S,h,hR=>y9 hk (l:=r) h hR
 | .tmp d::r,C,t,S,h,hR=>by
  simp only [pubK] at h
  split at h
  ·rename_i b hd
   split at h
   ·rename_i T cs hb
    obtain⟨o,v,e1,e2,e3⟩:=hR.hp.ok b _ hb
    have ht:=hR.sl d _ hd
    simp only [SV.ev,e1,bxAt] at ht
    split at h
    ·rename_i j sz ys hj
     split at h
     ·rename_i xs hx
      obtain⟨T2,hj⟩:=qqm hj
      obtain⟨w1,w2⟩:=qs2 hR.hp cs xs hx
      have hbj:b≠j:=fun e=>by subst e;rw [hb] at hj;simp at hj
      have hP:=hR.pub (d:=d) (xs:=xs) hb (by rw [e1];rfl)
      have hj2:hpF ((b,none)::C.hp) j=some (.own sz T2 ys):=by
       unfold hpF at hj ⊢
       simp only [lkS,va hbj,cond_false]
       exact hj
      rcases hR.hp.ok j _ hj with⟨rfl,f1⟩ | ⟨o2,ver2,cap,pad,f1,f2,f3,f4,f5,f6⟩
      ·refine qo4 ht e2 (q0h w1 fun i x y hx hy=>?_) (y9 hk (l:=r) h ?_)
       ·rcases w2 i x y hx hy with g | ⟨g1,g2⟩
        ·exact g
        ·subst g1 g2
         unfold tpAt
         rw [f1.one]
         exact f1.wk sz
       ·have:=hP.drop (o:=S.length) hj2 (fun o' ho'=>by rw [f1.loc] at ho';simp at ho') (.inr (List.set_eq_of_length_le (by simp)))
        rwa [List.set_eq_of_length_le (by simp)] at this
      ·have hne:o≠o2:=fun e=>hR.hp.sep b j _ _ hbj hb hj o (by rw [e1];rfl) (by rw [f1,e];rfl)
       refine qv5 ht e2 f2 hne f4 f5 w1 (fun i x y hx hy=>?_) (y9 hk (l:=r) h (hP.drop hj2 (fun o' ho'=>?_) (.inl (by rw [f1];rfl))))
       ·rcases w2 i x y hx hy with g | ⟨g1,g2⟩
        ·exact .inl g
        ·exact .inr ⟨by rw [g1,f1];rfl,g2⟩
       ·rw [f1] at ho'
        simpa [z1] using ho'.symm
     ·exact y9 hk (l:=r) h hR
    ·split at h
     ·rename_i xs hx
      obtain⟨w1,w2⟩:=qcw hR.hp cs xs hx
      exact qo4 ht e2 (q0h w1 w2) (y9 hk (l:=r) h (hR.pub hb (by rw [e1];rfl)))
     ·exact y9 hk (l:=r) h hR
   ·exact y9 hk (l:=r) h hR
  ·rename_i b hd
   split at h
   ·rename_i sz T ys hb
    have ht:=hR.sl d _ hd
    have hok:=hR.hp.ok b _ hb
    simp only [SV.ev,qrg hok] at ht
    rcases hok with⟨rfl,f1⟩ | ⟨o,ver,cap,pad,f1,f2,f3,f4,f5,f6⟩
    ·have hP:=hR.drop (o:=S.length) hb (fun o' ho'=>by rw [f1.loc] at ho';simp at ho') (.inr (List.set_eq_of_length_le (by simp)))
     rw [List.set_eq_of_length_le (by simp)] at hP
     exact q0p ht (f1.wk sz) (y9 hk (l:=r) h (hP.slot d))
    ·rw [f1] at ht
     have hP:=hR.drop (o:=o) hb (fun o' ho'=>by rw [f1] at ho';simpa [z1] using ho'.symm) (.inl (by rw [f1];rfl))
     exact q0o ht f2 f4 f5 (y9 hk (l:=r) h (hP.slot d))
   ·exact y9 hk (l:=r) h hR
  ·exact y9 hk (l:=r) h hR
def retP (P:Program) (fn:Func) (r0:AV) (e:Exit) (C:Conf):Prop:=
 match e with
 | .normal=>pubK (fun C=>ansW P fn C fun y=>Tl y r0) fn.results.toList C
 | .ret=>pubK (fun C=>ansW P fn C fun y=>Tl y r0) fn.results.toList C
 | _=>False
theorem qzn {E:Env} {f:FuncId} {fn:Func} {c:Code} {args:List AV} {st:List AObj} {r0:AV} (vs:List SV) (hp:Pure r0) (hf:E.P.funcs[f]? = some fn) (hb:fn.body=some c) (hn:Nat.ble args.length fn.ntmps=true) (hv:∀ ρ,SV.evs ρ vs=args) (hc:okC ⟨jp 0 vs,[],0⟩=true)
  (h:∀ S0,numK 0 vs fun sl=>Sm E none fn.ntmps ⟨S0,fun _=>False,fun _=>kg,0,False⟩ c (retP E.P fn r0) ⟨sl,[],0⟩):qp E f args st fun r st'=>r=r0∧st'=st:=by
 simp only [qi4] at h
 refine zl hp (qw hf hb (Nat.le_of_ble_eq_true hn) ?_)
 have hst:SatC ⟨st++[],fun _=>False,fun _=>kg,0,False⟩ ⟨jp 0 vs,[],0⟩ ⟨argT args,st++[],[]⟩:=by
  refine⟨fun _=>kg,⟨nofun,List.nodup_nil,fun _ _=>rfl,Nat.le_refl _,nofun⟩,⟨fun d v hd=>?_,⟨fun k r hk=>?_,fun k k' r r' _ hk=>?_⟩,fun k r hk=>?_,fun _ _ _=>rfl,Nat.le_refl _,fun d v hd=>?_,fun k r hk=>?_⟩⟩
  ·obtain⟨j,h1,h2⟩:=qbo hd
   have:args[j]? = some (v.ev fun _=>kg):=by rw [← hv fun _=>kg,wt,List.getElem?_map,h2];rfl
   rw [h1,Nat.zero_add]
   simp only [argT,List.getD,this,Option.getD_some]
  ·simp [hpF,lkS] at hk
  ·simp [hpF,lkS] at hk
  ·simp [hpF,lkS] at hk
  ·simp only [okC,Bool.and_eq_true] at hc
   exact List.all_eq_true.1 hc.1 _ (vr hd)
  ·simp [hpF,lkS] at hk
 refine ((h (st++[])).run _ hst).mono fun e s' ⟨C',hq,hs'⟩=>?_
 obtain⟨t,S,df⟩:=s'
 obtain⟨ρ,hdf,hR⟩:=hs'
 simp only at hdf hR
 have fin:pubK (fun C=>ansW E.P fn C fun y=>Tl y r0) fn.results.toList C'→ARet E fn (fun r st2=>r=r0∧∃ ext,st2=st++ext) ⟨t,S,df⟩:=fun h=>by
  refine qed hR (fun x hx=>hdf.dm x hx) hdf.nd fun S' hR'=>?_
  refine y9 (fun C t S h hR'=>?_) h hR'
  obtain⟨y,h1,h2⟩:=qst hR' h
  refine qm rfl (qas h1 h2.ok) ⟨rfl,?_⟩
  have hl:=hR'.len
  rw [List.append_nil] at hl
  exact qgt hl fun k hk=>by
   have:=hR'.low k (by simpa using hk) (fun h=>h)
   rw [List.append_nil] at this
   exact this
 cases e with
 |normal=>exact fin hq
 |ret=>exact fin hq
 | _=>exact hq.elim
end Go.Av
namespace Go.Proofs.YtmjmdjbdoiddeaaGreatDoor
open Go Go.Av Go.RowKit Go.Proofs Go.Pl
theorem ql9 {b:UInt8} {v:qd}:xq b v=if 0<v.length∧v.getD 0 0=b then v.drop 1 else v:=by
 cases v with
 |nil=>rfl
 |cons x r=>
  unfold xq
  by_cases h:x=b <;> simp [h]
set_option maxHeartbeats 2000000 in
theorem qim (ls:List qd) (st:List AObj) (hB:LsB ls):qp E 35 [Ss ls] st fun r st'=>r=qa1 ls∧st'=st:=by
 refine wz [.a (Ss ls)] (ql2 _) Tryz.func35 rfl rfl (fun _=>rfl) rfl fun S0=>?_
 have hL:=hB.len
 have hml:(ls.map fun x=>Sv x).length=ls.length:=by simp
 cases ls with
 |nil=>
  apply qi [2]
  repeat' (first|apply And.intro|(intro h;try exact cDd)|exact cSd|apply qg [2]|refine exr ?_|refine qk ?_)
 |cons l r=>
  have hl:=hB.val l (by simp)
  simp only [List.length_cons] at hL hml
  have hkd:=fun st=>qik l st (by omega)
  have hget0:((l::r).map fun x=>Sv x)[0]? = some (Sv l):=rfl
  by_cases h4:ql l=4
  ·have hcu:=fun st=>qxo l st (by omega) h4
   simp only [h4] at hkd
   have htr:(xq 32 (vu l)).length≤l.length:=by unfold xq vu;split <;> simp <;> omega
   have hrl:(vu l).length≤l.length:=by unfold vu;simp
   apply qi [2]
   repeat' (first|apply And.intro|(intro h;try exact cDd)|(refine Exists.intro (0) ⟨by omega,_,hget0,?_⟩)|exact⟨Tryz.call33⟩|refine cpe hkd ?_|exact⟨Tryz.call58⟩|refine cpe hcu ?_|exact cSd|apply qg [2]|refine exr ?_|refine qk ?_)
   all_goals
    refine vv (X:=Nat×qd) (fun (k,acc)=>⟨[(0,.a (Ss (l::r))),(2,.bx 0 0),(4,.s (z8 l)),(5,.s acc),(7,.i ((k:Int)+1))],[(0,some (.cells 53 [.s [],.s []]))],1⟩) (fun (k,acc)=>k≤r.length∧(∀ x∈r.take k,ql x=3)∧acc=accU l (r.take k)) (fun (k,_)=>r.length - k) (0,xq 32 (vu l)) ⟨by omega,by simp,by simp [accU]⟩ ?_ ?_
    ·skip
     repeat' (first|apply And.intro|(intro h;try exact cDd)|exact cSd|apply qg []|refine exr ?_|refine qk ?_)
     all_goals (rw [ql9];split <;> rename_i h <;> first|rfl|(exfalso;omega)|exact absurd ((qvo _).2 h.2) (by assumption)|exact absurd ⟨by omega,(qvo _).1 (by assumption)⟩ h)
    ·rintro⟨k,acc⟩ ⟨hk,h3,hacc⟩
     have hal:=qyd l (r.take k) fun s hs=>hB.val s (by simp [List.mem_of_mem_take hs])
     rw [← hacc,List.length_take] at hal
     by_cases hlt:k<r.length
     ·obtain⟨a,ha⟩:∃ a,r[k]? = some a:=⟨_,List.getElem?_eq_getElem hlt⟩
      have hget:((l::r).map fun x=>Sv x)[k+1]? = some (Sv a):=by simp [ha]
      have hav:=hB.val a (by simp [List.mem_of_getElem? ha])
      have hka:=fun st=>qik a st (by omega)
      have htk:r.take (k+1)=r.take k++[a]:=by
       obtain⟨_,rfl⟩:=List.getElem?_eq_some_iff.1 ha
       rw [List.take_append_getElem]
      by_cases hk3:ql a=3
      ·obtain⟨h2,_⟩:=qf9 hk3
       simp only [hk3] at hka
       have hd1:(a.drop 1).length=a.length - 1:=by simp
       have hac:=qvx l (r.take k) a
       rw [← hacc,← htk,ql9] at hac
       apply qi []
       repeat' (first|apply And.intro|(intro h;try exact cDd)|(refine Exists.intro ((k+1)) ⟨by omega,_,hget,?_⟩)|exact⟨Tryz.call33⟩|refine cpe hka ?_|(refine Exists.intro (k+1,_) ⟨⟨by omega,by rw [htk];exact qg2 h3 hk3,rfl⟩,by simp only;omega,?_⟩)|exact cSd|apply qg []|refine exr ?_|refine qk ?_)
       all_goals (rw [hac];split <;> rename_i h <;> first|rfl|(simp only [List.append_assoc];rfl)|(exfalso;omega)|exact absurd ((q0g _).2 h.2) (by assumption)|exact absurd ⟨by omega,(q0g _).1 (by assumption)⟩ h)
      ·have hno:z5 (l::r)=(([],[]),2):=if_neg fun h=>hk3 (h.2.2 a (List.mem_of_getElem? ha))
       unfold qa1
       rw [hno]
       apply qi []
       repeat' (first|apply And.intro|(intro h;try exact cDd)|(refine Exists.intro ((k+1)) ⟨by omega,_,hget,?_⟩)|exact⟨Tryz.call33⟩|refine cpe hka ?_|exact absurd (by assumption) hk3|exact cSd|apply qg []|refine exr ?_|refine qk ?_)
     ·rw [List.take_of_length_le (by omega)] at h3 hacc
      have hun:z5 (l::r)=if 1000<(accU l r).length then (([],[]),6) else ((z8 l,accU l r),0):=if_pos ⟨by simp,h4,h3⟩
      unfold qa1
      rw [hun,← hacc]
      apply qi []
      repeat' (first|apply And.intro|(intro h;try exact cDd)|exact cSd|apply qg []|refine exr ?_|refine qk ?_)
      all_goals (split <;> first|rfl|omega)
  ·have hno:z5 (l::r)=(([],[]),2):=if_neg fun h=>h4 h.2.1
   unfold qa1
   rw [hno]
   apply qi [2]
   repeat' (first|apply And.intro|(intro h;try exact cDd)|(refine Exists.intro (0) ⟨by omega,_,hget0,?_⟩)|exact⟨Tryz.call33⟩|refine cpe hkd ?_|exact cSd|apply qg [2]|refine exr ?_|refine qk ?_)
def accK (l:qd) (r:List qd) (k:Nat):List qd:=xq 32 (vu l)::(r.take k).map fun s=>xq 46 (s.drop 1)
theorem qvw {l:qd} {r:List qd} {k:Nat} {a:qd} (h:r[k]? = some a):(accK l r (k+1)).map (fun x=>Sv x)=(accK l r k).map (fun x=>Sv x)++[Sv (xq 46 (a.drop 1))]:=by
 obtain⟨hlt,rfl⟩:=List.getElem?_eq_some_iff.1 h
 unfold accK
 rw [← List.take_append_getElem hlt]
 simp only [List.map_append,List.map_cons,List.map_nil,List.cons_append]
set_option maxHeartbeats 4000000 in
theorem qhn (ls:List qd) (st:List AObj) (hB:LsB ls):qp E 71 [Ss ls] st fun r st'=>r=qdk ls∧st'=st:=by
 refine wz [.a (Ss ls)] (qrj _) Tryz.func71 rfl rfl (fun _=>rfl) rfl fun S0=>?_
 have hL:=hB.len
 have hml:(ls.map fun x=>Sv x).length=ls.length:=by simp
 cases ls with
 |nil=>
  apply qi [2]
  repeat' (first|apply And.intro|(intro h;try exact cDd)|exact cSd|apply qg [2]|refine exr ?_|refine qk ?_)
 |cons l r=>
  have hl:=hB.val l (by simp)
  simp only [List.length_cons] at hL hml
  have hget0:((l::r).map fun x=>Sv x)[0]? = some (Sv l):=rfl
  have hrm:(r.map fun x=>Sv x).length=r.length:=by simp
  by_cases h4:ql l=4
  ·have hkf:=qfj.1 h4
   have hcu:=fun st=>quv l st (by omega) h4
   have ht1:=fun st=>qto (vu l) 32 st
   apply qi [2,31]
   repeat' (first|apply And.intro|(intro h;try exact cDd)|(refine Exists.intro (0) ⟨by omega,_,hget0,?_⟩)|exact⟨Tryz.call90⟩|refine cpe hcu ?_|exact⟨Tryz.call91⟩|refine cpe ht1 ?_|exact cSd|apply qg [2,31]|refine exr ?_|refine qk ?_)
   refine vv (X:=Nat) (fun k=>⟨[(2,.bx 0 0),(4,.s (z8 l)),(7,.tp 1),(33,.a (.sl 1 (r.map fun x=>Sv x) none)),(34,.i (r.map fun x=>Sv x).length),(35,.i k)],[(0,some (.cells 53 [.s [],.s []])),(1,some (.tip 1 9 ((accK l r k).map fun x=>Sv x)))],2⟩) (fun k=>k≤r.length∧∀ x∈r.take k,ql x=3) (fun k=>r.length - k) 0 ⟨by omega,by simp⟩ ?_ ?_
   ·skip
    repeat' (first|apply And.intro|(intro h;try exact cDd)|exact cSd|apply qg []|refine exr ?_|refine qk ?_)
   ·rintro k ⟨hk,h3⟩
    have hacl:((accK l r k).map fun x=>Sv x).length=k+1:=by unfold accK;simp;omega
    by_cases hlt:k<r.length
    ·obtain⟨a,ha⟩:∃ a,r[k]? = some a:=⟨_,List.getElem?_eq_getElem hlt⟩
     have hget:(r.map fun x=>Sv x)[k]? = some (Sv a):=by simp [ha]
     have hav:=hB.val a (by simp [List.mem_of_getElem? ha])
     have hka:=fun st=>qh8 a st (by omega)
     have ht2:=fun st=>qto (a.drop 1) 46 st
     have hnx:=qvw (l:=l) ha
     by_cases hk3:ql a=3
     ·obtain⟨h2,_⟩:=qf9 hk3
      simp only [hk3] at hka
      have htk:r.take (k+1)=r.take k++[a]:=by
       obtain⟨_,rfl⟩:=List.getElem?_eq_some_iff.1 ha
       rw [List.take_append_getElem]
      apply qi []
      repeat' (first|apply And.intro|(intro h;try exact cDd)|(refine Exists.intro (k) ⟨by omega,_,hget,?_⟩)|exact⟨Tryz.call51⟩|refine cpe hka ?_|exact⟨Tryz.call91⟩|refine cpe ht2 ?_|(refine Exists.intro (k+1) ⟨⟨by omega,by rw [htk];exact qg2 h3 hk3⟩,by omega,?_⟩)|exact cSd|apply qg []|refine exr ?_|refine qk ?_)
      all_goals first|(rw [hnx];done)|(rw [hnx];simp [SV.evs,SV.ev];done)|(simp only [List.length_cons,List.length_nil];omega)
     ·have hno:z5 (l::r)=(([],[]),2):=if_neg fun h=>hk3 (h.2.2 a (List.mem_of_getElem? ha))
      unfold qdk
      rw [hno]
      apply qi []
      repeat' (first|apply And.intro|(intro h;try exact cDd)|(refine Exists.intro (k) ⟨by omega,_,hget,?_⟩)|exact⟨Tryz.call51⟩|refine cpe hka ?_|exact absurd (by assumption) hk3|exact cSd|apply qg []|refine exr ?_|refine qk ?_)
    ·rw [List.take_of_length_le (by omega)] at h3
     have hkr:k=r.length:=by omega
     subst hkr
     have hok:qkp (l::r):=⟨by simp,h4,h3⟩
     have hjl:=qkk r fun s hs=>hB.val s (by simp [hs])
     have hj:=qwy (xq 32 (vu l)) r
     have hjv:Lib.join (accK l r r.length) [10]=qar l r:=by unfold accK;rw [List.take_length];exact hj
     have htr:(xq 32 (vu l)).length≤l.length:=by unfold xq vu;split <;> simp <;> omega
     have hvl:(qar l r).length≤140737488355328:=by
      unfold qar
      rw [List.length_append]
      omega
     have hjn:=fun tip st=>q06 (accK l r r.length) tip [10] (qar l r) st hjv (by rw [← List.length_map (f:=fun x=>Sv x),hacl];omega) hvl
     have hkl:(z8 l).length<4294967281:=by have:=hkf.2.2.2.1;omega
     have hun:z5 (l::r)=if 1000<(qar l r).length then (([],[]),6) else ((z8 l,qar l r),0):=if_pos hok
     have hjn0:=hjn none
     unfold qdk
     by_cases hv:1000<(qar l r).length
     ·have hcf:qan (z8 l,qar l r)=6:=(if_neg (by simpa using hkf.2.2)).trans (if_pos hv)
      have hck:=fun st=>qpt (z8 l,qar l r) st hkl (by rw [hcf];decide)
      rw [hcf] at hck
      rw [hun,if_pos hv]
      apply qi [10]
      repeat' (first|apply And.intro|(intro h;try exact cDd)|exact⟨Tryz.call56⟩|refine cpe hjn0 ?_|exact⟨Tryz.call92⟩|refine cpe hck ?_|exact cSd|apply qg [10]|refine exr ?_|refine qk ?_)
     ·have hcf:qan (z8 l,qar l r)=0:=(if_neg (by simpa using hkf.2.2)).trans (if_neg hv)
      have hck:=fun st=>qps (z8 l,qar l r) st hkl hcf
      rw [hun,if_neg hv]
      apply qi [10]
      repeat' (first|apply And.intro|(intro h;try exact cDd)|exact⟨Tryz.call56⟩|refine cpe hjn0 ?_|exact⟨Tryz.call92⟩|refine cpe hck ?_|exact cSd|apply qg [10]|refine exr ?_|refine qk ?_)
  ·have hno:z5 (l::r)=(([],[]),2):=if_neg fun h=>h4 h.2.1
   have hcu:=fun st=>qr9 l st (by omega) h4
   unfold qdk
   rw [hno]
   apply qi [2]
   repeat' (first|apply And.intro|(intro h;try exact cDd)|(refine Exists.intro (0) ⟨by omega,_,hget0,?_⟩)|exact⟨Tryz.call90⟩|refine cpe hcu ?_|exact cSd|apply qg [2]|refine exr ?_|refine qk ?_)
end Go.Proofs.YtmjmdjbdoiddeaaGreatDoor
namespace Go.Av
open Go Go.RowKit
structure DP where
 q:Prop
 h:Decidable q
def eqC1 (u:Option TypeDesc) (x y:SV):Option DP:=
 match u with
 |some (.int _)=>(match qch x,qch y with
  |some (k,m),some (k',n)=>bif decide (k=k') then some ⟨m=n,inferInstance⟩ else none
  | _,_=>none)
 |some .string=>(match x,y with
  | .s m,.s n=>some ⟨m=n,inferInstance⟩
  | _,_=>none)
 |some .bool=>(match qf2 x,qf2 y with
  |some a,some b=>some ⟨a=b,inferInstance⟩
  | _,_=>none)
 | _=>none
def eqCs (P:Program):Nat→List Field→List SV→List SV→Option DP
 | _,[],[],[]=>some ⟨True,inferInstance⟩
 | i, f :: r, x :: xs, y :: ys => bif f.name != "_" && Nat.beq f.offset i then (match eqC1 (P.underlying f.type) x y, eqCs P (i + 1) r xs ys with
  |some a,some b=>some ⟨a.q∧b.q,@instDecidableAnd _ _ a.h b.h⟩
  | _,_=>none) else none
 | _,_,_,_=>none
def agOf:SV→Option (List SV)
 | .ag cs=>some cs
 | .a (.ag xs)=>some (nfs xs)
 | _=>none
theorem qsr {v:SV} {cs:List SV} (h:agOf v=some cs) (ρ : Nat→AV):v.ev ρ = .ag (SV.evs ρ cs):=by
 unfold agOf at h
 split at h
 ·simp only [Option.some.injEq] at h;subst h;rfl
 ·simp only [Option.some.injEq] at h;subst h;simp only [SV.ev,qd1]
 ·simp at h
def qqe:TypeDesc→Bool
 | .struct _=>false
 | .array _ _=>false
 | _=>true
theorem qq2 {P:Program} {t:TypeId} {u:TypeDesc} {cs:Array Value} {off:Nat} {a:Value} (w:World) (hu:P.underlying t=some u) (hs:qqe u=true) (h:cs[off]? = some a):(part t cs off).run P w = .ok a w:=by
 unfold part isAgg
 cases u <;> simp [run_underlying hu,h,qqe] at hs ⊢
theorem qyx {P:Program} {G:Gh} {ρ : Nat→AV} {t:TypeId} {x y:SV} {a b:Value} {q:DP} {d:Nat} (w:World) (h:eqC1 (P.underlying t) x y=some q) (hx:Rel G (x.ev ρ) a) (hy:Rel G (y.ev ρ) b) :
  (Op.equalIn (d+1) t a b).run P w = .ok (@decide q.q q.h) w∧∃ u,P.underlying t=some u∧qqe u=true:=by
 unfold eqC1 at h
 split at h
 ·rename_i kd hu
  split at h
  ·rename_i k m k' n hm hn
   cases hk:decide (k=k') with
   |false=>rw [hk] at h;simp at h
   |true=>
    rw [hk] at h
    simp only [cond_true,Option.some.injEq] at h
    have hk:=of_decide_eq_true hk
    subst hk
    subst h
    rw [qah hm] at hx
    rw [qah hn] at hy
    cases hx
    cases hy
    refine⟨?_,_,hu,rfl⟩
    rw [run_equalIn_int w d t k kd m n hu]
    congr 1
  ·simp at h
 ·rename_i hu
  split at h
  ·rename_i m n
   simp only [Option.some.injEq] at h
   subst h
   cases hx
   cases hy
   refine⟨?_,_,hu,rfl⟩
   rw [run_equalIn_string w d t _ _ hu]
   simp only [ByteArray.toList_eq]
   congr 1
   by_cases he:m=n <;> simp [he]
  ·simp at h
 ·rename_i hu
  split at h
  ·rename_i m n hm hn
   simp only [Option.some.injEq] at h
   subst h
   rw [qcv hm] at hx
   rw [qcv hn] at hy
   cases hx
   cases hy
   refine⟨?_,_,hu,rfl⟩
   rw [run_equalIn_bool' w d t _ _ hu]
   congr 1
  ·simp at h
 ·simp at h
theorem qpk {P:Program} {G:Gh} {ρ : Nat→AV} {d:Nat} (w:World) (us ws:Array Value):∀ (i:Nat) (fs:List Field) (xs ys:List SV) (q:DP),eqCs P i fs xs ys=some q →
  (∀ j x,xs[j]? = some x→∃ a,us[i+j]? = some a∧Rel G (x.ev ρ) a)→(∀ j x,ys[j]? = some x→∃ a,ws[i+j]? = some a∧Rel G (x.ev ρ) a)→(Op.eqFields (d+1) us ws fs).run P w = .ok (@decide q.q q.h) w
 |i,[],[],[],q,h,_,_=>by
  simp only [eqCs,Option.some.injEq] at h
  subst h
  simp [Op.eqFields]
 |i,f::r,x::xs,y::ys,q,h,hx,hy=>by
  simp only [eqCs] at h
  cases hc : (f.name != "_" && Nat.beq f.offset i) with
  |false=>rw [hc] at h;simp at h
  |true=>
   rw [hc] at h
   simp only [Bool.and_eq_true] at hc
   obtain⟨hc1,hc2⟩:=hc
   have hc2:=Nat.eq_of_beq_eq_true hc2
   simp only [cond_true] at h
   split at h
   ·rename_i qa qb h1 h2
    simp only [Option.some.injEq] at h
    subst h
    obtain⟨a,ha,hra⟩:=hx 0 x rfl
    obtain⟨b,hb,hrb⟩:=hy 0 y rfl
    obtain⟨e1,u,hu,hsc⟩:=qyx (d:=d) w h1 hra hrb
    have ih:=qpk (d:=d) w us ws (i+1) r xs ys qb h2 (fun j z hz=>by
     obtain⟨a,h3,h4⟩:=hx (j+1) z (by simpa using hz)
     exact⟨a,by rw [← h3];congr 1;omega,h4⟩) (fun j z hz=>by
     obtain⟨a,h3,h4⟩:=hy (j+1) z (by simpa using hz)
     exact⟨a,by rw [← h3];congr 1;omega,h4⟩)
    have hn : f.name ≠ "_" := by simpa using hc1
    rw [Nat.add_zero,← hc2] at ha hb
    simp only [Op.eqFields,Sem.run_bind,Sem.run_ite,if_pos hn,qq2 w hu hsc ha,qq2 w hu hsc hb,Result.andThen_ok,e1]
    rcases (Classical.em qa.q) with hq|hq
    ·rw [@decide_eq_true _ qa.h hq]
     simp only [Bool.not_true,Bool.false_eq_true,if_false,ih]
     congr 1
     rcases (Classical.em qb.q) with hr|hr
     ·rw [@decide_eq_true _ qb.h hr];exact (@decide_eq_true _ (@instDecidableAnd _ _ qa.h qb.h) ⟨hq,hr⟩).symm
     ·rw [@decide_eq_false _ qb.h hr];exact (@decide_eq_false _ (@instDecidableAnd _ _ qa.h qb.h) fun h=>hr h.2).symm
    ·rw [@decide_eq_false _ qa.h hq]
     simp only [Bool.not_false,if_true,Sem.run_pure]
     congr 1
     exact (@decide_eq_false _ (@instDecidableAnd _ _ qa.h qb.h) fun h=>hq h.1).symm
   ·simp at h
 | _,[],[],_::_,_,h,_,_=>by simp [eqCs] at h
 | _,[],_::_,_,_,h,_,_=>by simp [eqCs] at h
 | _,_::_,[],_,_,h,_,_=>by simp [eqCs] at h
 | _,_::_,_::_,[],_,h,_,_=>by simp [eqCs] at h
section
variable {E : Env} {N : Nat} {ops : Array Oper} {nx : Nat} {sl : List (Nat × SV)} {H : Nat → Option SR} {k : Ef → Prop} {d : Option Tmp} {T : TypeId} {p : String} {af : Array Edge}
structure EqT (P:Program) (t:TypeId):Prop where
 u:P.underlying t=some (.struct (P.fieldsOf t))
 s:P.stoodInHeld t=false
 g:P.eqGuardType P.depth t=false
theorem qth {G:Gh} {cs:List AV} {v:Value} (h:Rel G (.ag cs) v):∃ vs:Array Value,v = .agg vs∧∀ (j:Nat) x,cs[j]? = some x→∃ a,vs[j]? = some a∧Rel G x a:=by
 cases h with
 |ag _ vs hl h=>
  refine⟨vs,rfl,fun j x hx=>?_⟩
  have hj:j<vs.size:=by have:=lt_of_getElem? hx;omega
  exact⟨vs[j],by simp [hj],h j x _ hx (by simp [hj])⟩
theorem qx1 {t:TypeId} {v1 v2:Value} {G:Gh} {ρ : Nat→AV} {vx vy:SV} {xs ys:List SV} {q:DP} (ht:EqT E.P t) (hx:agOf vx=some xs) (hy:agOf vy=some ys) (hq:eqCs E.P 0 (E.P.fieldsOf t).toList xs ys=some q) (h1:Rel G (vx.ev ρ) v1) (h2:Rel G (vy.ev ρ) v2) (w:World) :
  ∃ us ws,v1 = .agg us∧v2 = .agg ws∧(Op.equalIn 10000 t (.agg us) (.agg ws)).run E.P w = .ok (@decide q.q q.h) w:=by
 rw [qsr hx] at h1
 rw [qsr hy] at h2
 obtain⟨us,rfl,ha⟩:=qth h1
 obtain⟨ws,rfl,hb⟩:=qth h2
 refine⟨us,ws,rfl,rfl,?_⟩
 rw [run_equalIn_agg w 9999 t us ws ht.u ht.s]
 refine qpk (G:=G) (ρ:= ρ) w us ws 0 _ xs ys q hq (fun j x hx=>?_) (fun j x hx=>?_)
 ·rw [Nat.zero_add]
  exact ha j _ (by rw [wt,List.getElem?_map,hx];rfl)
 ·rw [Nat.zero_add]
  exact hb j _ (by rw [wt,List.getElem?_map,hx];rfl)
theorem q3q {t t':TypeId} {x y:Operand} {vx vy:SV} {xs ys:List SV} {q:DP} (ht:EqT E.P t) (hx:sval N sl x=some vx) (hy:sval N sl y=some vy) (h1:agOf vx=some xs) (h2:agOf vy=some ys) (hq:eqCs E.P 0 (E.P.fieldsOf t).toList xs ys=some q) (h:k ⟨.p q.q q.h,[],[],nx⟩) :
  ∃ e,Loc E N ops ⟨d,.binOp .eql t x y t',T,p,af,none⟩ nx sl H e∧k e:=by
 refine⟨_,ji fun df rd K rest ρ t1 S hs hk=>q5 rfl (q6 nofun fun B0 w0 G a w _ hI=>?_),h⟩
 have e1:=hI.eval x
 rw [qq hs hx] at e1
 have e2:=hI.eval y
 rw [qq hs hy] at e2
 obtain⟨us,ws,g1,g2,g3⟩:=qx1 ht h1 h2 hq e1 e2 w
 generalize a.eval=ev at g1 g2
 have hg:(eqGuard .eql t x y (.agg us) (.agg ws)).run E.P w = .ok () w:=run_eqGuard_agg w .eql t x y us ws ht.g
 refine⟨.bool (@decide q.q q.h),w,G,Bv (@decide q.q q.h),S,?_,.refl G,hI.agree,.v _,hk⟩
 simp [execOp,g1,g2,hg,run_eql_struct,g3]
theorem q3r {t t':TypeId} {x y:Operand} {vx vy:SV} {xs ys:List SV} {q:DP} (ht:EqT E.P t) (hx:sval N sl x=some vx) (hy:sval N sl y=some vy) (h1:agOf vx=some xs) (h2:agOf vy=some ys) (hq:eqCs E.P 0 (E.P.fieldsOf t).toList xs ys=some q) (h:k ⟨.p (¬ q.q) (@instDecidableNot _ q.h),[],[],nx⟩) :
  ∃ e,Loc E N ops ⟨d,.binOp .neq t x y t',T,p,af,none⟩ nx sl H e∧k e:=by
 refine⟨_,ji fun df rd K rest ρ t1 S hs hk=>q5 rfl (q6 nofun fun B0 w0 G a w _ hI=>?_),h⟩
 have e1:=hI.eval x
 rw [qq hs hx] at e1
 have e2:=hI.eval y
 rw [qq hs hy] at e2
 obtain⟨us,ws,g1,g2,g3⟩:=qx1 ht h1 h2 hq e1 e2 w
 generalize a.eval=ev at g1 g2
 have hg:(eqGuard .neq t x y (.agg us) (.agg ws)).run E.P w = .ok () w:=run_eqGuard_agg w .neq t x y us ws ht.g
 have hd:(!(@decide q.q q.h)) = @decide (¬ q.q) (@instDecidableNot _ q.h):=by
  rcases (Classical.em q.q) with hq|hq
  ·rw [@decide_eq_true _ q.h hq];exact (@decide_eq_false _ (@instDecidableNot _ q.h) fun h=>h hq).symm
  ·rw [@decide_eq_false _ q.h hq];exact (@decide_eq_true _ (@instDecidableNot _ q.h) hq).symm
 refine⟨.bool (@decide (¬ q.q) (@instDecidableNot _ q.h)),w,G,Bv (@decide (¬ q.q) (@instDecidableNot _ q.h)),S,?_,.refl G,hI.agree,.v _,hk⟩
 simp only [← hd]
 simp [execOp,g1,g2,hg,run_neq_struct,g3]
end
end Go.Av
namespace Go.Av
open Go Go.RowKit
def qby (kind:TypeDesc) (k:Value):List (Value×Value)→Nat→Option (Option (Nat×Value))
 | [],_=>some none
 |e::es,i=>match Instr.sameNow kind k e.1 with
  |some true=>some (some (i,e.2))
  |some false=>qby kind k es (i+1)
  |none=>none
theorem qjn (kind:TypeDesc) (k:Value):∀ (es:List MapEntry) (i:Nat),Instr.findNow kind k es i=qby kind k (es.map fun e=>(e.key,e.val)) i
 | [],_=>rfl
 |e::es,i=>by
  rw [List.map_cons,Instr.findNow,qby]
  cases Instr.sameNow kind k e.key with
  |none=>rfl
  |some b=>cases b with
   |true=>rfl
   |false=>exact qjn kind k es (i+1)
def mset (kvs:List (Value×Value)) (k v:Value):Option (Nat×Value)→List (Value×Value)
 |some (i,_)=>kvs.set i (k,v)
 |none=>kvs++[(k,v)]
theorem qp6 {kind:TypeDesc} {k:Value}:∀ {kvs:List (Value×Value)} {n i:Nat} {v:Value},qby kind k kvs n=some (some (i,v))→n≤i∧∃ q,kvs[i - n]? = some (q,v)∧Instr.sameNow kind k q=some true
 | [],_,_,_,h=>by simp [qby] at h
 |e::es,n,i,v,h=>by
  unfold qby at h
  cases hs:Instr.sameNow kind k e.1 with
  |none=>rw [hs] at h;simp at h
  |some b=>
   rw [hs] at h
   cases b with
   |true=>
    simp only [Option.some.injEq,Prod.mk.injEq] at h
    obtain⟨rfl,rfl⟩:=h
    exact⟨Nat.le_refl _,e.1,by simp,hs⟩
   |false=>
    obtain⟨h1,q,h2,h3⟩:=qp6 h
    exact⟨by omega,q,by rw [show i - n=(i - (n+1))+1 by omega];simpa using h2,h3⟩
section
variable {E : Env} {rd : Option Nat} {N : Nat} {ops : Array Oper} {K : AS → Prop} {s : AS} {rest : List Oper} {d : Option Tmp} {T : TypeId} {p : String} {af : Array Edge}
theorem qo0 {t:TypeId} (h:AOps E rd N ops rest K (AS.put ⟨s.t,s.st++[.map []],s.df⟩ d (.mp s.st.length))):AOps E rd N ops (⟨d,.makeMap t none,T,p,af,none⟩::rest) K s:=by
 refine q5 rfl (q6 nofun fun B0 w0 G a w _ hI=>?_)
 have hn:=hI.agree.n
 have hA:=hI.agree.newAny 0 true (.map []) (.map #[] 0) ⟨by simp [Gh.new,hn],by simp [Gh.new,hn];exact hI.agree.hB,#[],0,by
  have e:((G.new 0 w.heap.size 0 true).ob s.st.length).blk=w.heap.size:=by simp [Gh.new,hn]
  rw [e]
  exact yi w _,rfl⟩
 exact⟨.map (some w.heap.size),_,_,_,_,by simp [execOp,Instr.makeMap,newObj,Sem.run],G.le_new _ _ _ _,hA,.mp _ _ (by simp [Gh.new,hn]) (by simp [Gh.new,hn]) (by simp [Gh.new,hn]),h⟩
def mval (z:Value):Option (Nat×Value)→Value
 |some q=>q.2
 |none=>z
def mkey:TypeDesc→Value→Bool
 | .string,.string _=>true
 | .int _,.int _ _=>true
 | _,_=>false
theorem qio {P:Program} {kt:TypeId} {kd:TypeDesc} {k:Value} (hk:P.underlying kt=some kd) (h:mkey kd k=true) (e:Bool) (n:Nat) (w:World):(Instr.checkKey e (n+1) kt k).run P w = .ok () w:=by
 unfold Instr.checkKey
 rw [Sem.run_bind,run_underlying hk]
 unfold mkey at h
 split at h
 ·rfl
 ·rfl
 ·simp at h
theorem qjv {P:Program} {kt:TypeId} {kd:TypeDesc} {k:Value} {es:List MapEntry} {r:Option (Nat×Value)} (hk:P.underlying kt=some kd) (hf:qby kd k (es.map fun e=>(e.key,e.val)) 0=some r) (w:World):(Instr.findKey kt k es).run P w = .ok r w:=by
 unfold Instr.findKey
 rw [Sem.run_bind,run_underlying hk]
 simp only [Result.andThen_ok,qjn,hf]
 rfl
theorem qzt {P:Program} {t:TypeId} {z:Value} (h:(P.info? t).bind (fun i=>i.zero)=some z) (w:World):(zeroValue t).run P w = .ok z w:=by
 cases hi:P.info? t with
 |none=>rw [hi] at h;simp at h
 |some i=>
  rw [hi] at h
  simp only [Option.bind_some] at h
  simp [zeroValue,typeInfo,hi,h]
theorem qrr {t kt vt:TypeId} {kd:TypeDesc} {x y:Operand} {o:Nat} {k z:Value} {kvs:List (Value×Value)} {r:Option (Nat×Value)} (hx:qh N s x = .mp o) (hy:qh N s y = .v k) (ho:s.st[o]? = some (.map kvs))
  (hu:E.P.underlying t=some (.map kt vt)) (hk:E.P.underlying kt=some kd) (hck:mkey kd k=true) (hf:qby kd k kvs 0=some r) (hz:(E.P.info? vt).bind (fun i=>i.zero)=some z)
  (h:AOps E rd N ops rest K (s.put d (.v (mval z r)))):AOps E rd N ops (⟨d,.lookup t x y false,T,p,af,none⟩::rest) K s:=by
 refine q5 rfl (q6 nofun fun B0 w0 G a w _ hI=>?_)
 have hv:=hI.evalv hy
 have he:=hI.eval_of hx
 generalize hvx:a.eval x=v at he
 cases he with
 |mp _ b hn hr hb=>
  obtain⟨_,_,es,clock,h4,h5⟩:=hI.agree.ob o _ ho
  rw [hb] at h4
  subst h5
  refine⟨_,w,G,_,s.st,?_,.refl G,hI.agree,.v _,h⟩
  have hlk:(Instr.lookup t (.map (some b)) k false).run E.P w = .ok (mval z r) w:=by
   unfold Instr.lookup
   rw [Sem.run_bind,run_underlying hu]
   simp only [Result.andThen_ok,Sem.run_bind]
   simp only [getObj,Sem.run,h4,Result.andThen_ok,Sem.run_bind,Sem.run_pure]
   rw [show (10000:Nat)=9999+1 from rfl,qio hk hck]
   simp only [Result.andThen_ok]
   rw [qjv hk hf]
   cases r with
   |none=>simp [qzt hz,mval]
   |some q=>simp [mval]
  simp only [execOp,hvx,hv]
  rw [Sem.run_bind,hlk]
  rfl
theorem qrs {t kt vt:TypeId} {kd:TypeDesc} {x y q:Operand} {o:Nat} {k u:Value} {kvs:List (Value×Value)} {r:Option (Nat×Value)} (hx:qh N s x = .mp o) (hy:qh N s y = .v k) (hq:qh N s q = .v u) (ho:s.st[o]? = some (.map kvs))
  (hu:E.P.underlying t=some (.map kt vt)) (hk:E.P.underlying kt=some kd) (hck:mkey kd k=true) (hf:qby kd k kvs 0=some r)
  (h:AOps E rd N ops rest K (AS.put ⟨s.t,s.st.set o (.map (mset kvs k u r)),s.df⟩ d (.v undef))):AOps E rd N ops (⟨d,.mapUpdate t x y q,T,p,af,none⟩::rest) K s:=by
 refine q5 rfl (qjf nofun fun B0 w0 G a w _ hI=>?_)
 have hv:=hI.evalv hy
 have hv2:=hI.evalv hq
 have he:=hI.eval_of hx
 generalize hvx:a.eval x=v at he
 cases he with
 |mp _ b hn hr hb=>
  obtain⟨hraw,hge,es,clock,h4,h5⟩:=hI.agree.ob o _ ho
  subst h5
  have key:∀ (es':Array MapEntry) (clock':Nat),es'.toList.map (fun e=>(e.key,e.val))=mset (es.toList.map fun e=>(e.key,e.val)) k u r →
    (Instr.mapUpdate t (.map (some b)) k u).run E.P w = .ok () (w.putObj b (.map es' clock'))→∃ w' G' st',(execOp a.eval ⟨d,.mapUpdate t x y q,T,p,af,none⟩).run E.P w = .ok .skip w'∧G.le G'∧zd B0 w0 G' st' w'∧AOps E rd N ops rest K (AS.put ⟨s.t,st',s.df⟩ d (.v undef)):=fun es' clock' he hrun=>by
   refine⟨_,G,_,?_,.refl G,hI.agree.putRaw (x':=.map (mset (es.toList.map fun e=>(e.key,e.val)) k u r)) (y':=.map es' clock') ho trivial hraw h4 (by simp) ⟨hraw,hge,es',clock',?_,he⟩,h⟩
   ·simp only [execOp,hvx,hv,hv2]
    rw [Sem.run_bind,hrun,hb]
    rfl
   ·have hlt:(G.ob o).blk<w.heap.size:=(Array.getElem?_eq_some_iff.1 h4).1
    simp [World.putObj,hlt]
  rw [hb] at h4
  have hcommon:(Instr.mapUpdate t (.map (some b)) k u).run E.P w=(match r with
   |some (i,_)=>(do
     let key ← Instr.keyThatStays (((es[i]?).map (fun e:MapEntry=>e.key)).getD k) k
     setObj b (.map (es.modify i fun e:MapEntry=>{ e with key,val:=u }) clock):Sem Unit)
   |none=>(setObj b (.map (es.push { key:=k,val:=u,born:=clock }) (clock+1)):Sem Unit)).run E.P w:=by
   unfold Instr.mapUpdate
   rw [Sem.run_bind,run_underlying hu]
   simp only [Result.andThen_ok,Sem.run_bind]
   simp only [getObj,Sem.run,h4,Result.andThen_ok,Sem.run_bind]
   rw [show (10000:Nat)=9999+1 from rfl,qio hk hck]
   simp only [Result.andThen_ok]
   rw [qjv hk hf]
   simp only [Result.andThen_ok]
   cases r with
   |none=>rfl
   |some q=>rfl
  cases r with
  |none=>
   refine key (es.push { key:=k,val:=u,born:=clock }) (clock+1) (by simp [mset]) ?_
   rw [hcommon]
   simp [setObj,Sem.run,World.putObj,h4]
  |some q=>
   obtain⟨i,v0⟩:=q
   obtain⟨_,q0,hq1,hq2⟩:=qp6 hf
   rw [Nat.sub_zero,List.getElem?_map] at hq1
   obtain⟨e0,he0,he1⟩:=Option.map_eq_some_iff.1 hq1
   simp only [Prod.mk.injEq] at he1
   obtain⟨rfl,rfl⟩:=he1
   have hsb:Instr.sameBits 10000 e0.key k=true:=by
    unfold mkey at hck
    split at hck
    ·unfold Instr.sameNow at hq2
     split at hq2
     ·simp at *
     ·rename_i s1 s2 e1 e2 e3
      have hq3:s1=s2:=(Go.MapKept.bytes_beq _ _).1 (Option.some.inj hq2)
      subst hq3
      rw [e3,← e2]
      simp only [Instr.sameBits]
      exact (Go.MapKept.bytes_beq _ _).2 rfl
     ·simp at *
     ·simp at hq2
    ·unfold Instr.sameNow at hq2
     split at hq2
     ·rename_i k1 a1 k2 b1 e1 e2 e3
      split at hq2
      ·rename_i ek
       subst ek
       simp only [Option.some.injEq,beq_iff_eq] at hq2
       subst hq2
       rw [e3,← e2]
       simp [Instr.sameBits]
      ·simp at hq2
     ·simp at *
     ·simp at *
     ·simp at hq2
    ·simp at hck
   refine key (es.modify i fun e:MapEntry=>{ e with key:=k,val:=u }) clock ?_ ?_
   ·simp only [mset,Array.toList_modify]
    apply List.ext_getElem?
    intro j
    rw [List.getElem?_map,List.getElem?_modify,List.getElem?_set,List.getElem?_map]
    by_cases e:i=j
    ·subst e
     rw [he0]
     have:=(List.getElem?_eq_some_iff.1 he0).1
     simp at this ⊢
     exact this
    ·simp [e]
   ·rw [hcommon]
    have:es[i]? = some e0:=by simpa using he0
    simp [this,Instr.keyThatStays,hsb,setObj,Sem.run,World.putObj,h4]
end
end Go.Av
namespace Go.Av
open Go Go.RowKit
structure mapP (kvs:List (Value×Value)) (x:AObj) (c:AV):Prop where
 ob:x = .map kvs
 mp:∃ o,c = .mp o
section
variable {E : Env} {N : Nat} {ops : Array Oper} {nx : Nat} {sl : List (Nat × SV)} {H : Nat → Option SR} {k : Ef → Prop} {d : Option Tmp} {T : TypeId} {p : String} {af : Array Edge}
theorem q1i {t:TypeId} (h:k ⟨.tp nx,[],[(nx,some (.obj (mapP [])))],nx+1⟩):∃ e,Loc E N ops ⟨d,.makeMap t none,T,p,af,none⟩ nx sl H e∧k e:=by
 refine⟨_,qgc (fun k r hk=>by rw [qe2] at hk;simp at hk) fun df rd K rest ρ t1 S ho _ hk=>qo0 ?_,h⟩
 have:=hk (.mp S.length) [.map []] ⟨S.length,_,rfl,qbv,by simp,rfl,_,rfl⟩ (fun o ho=>by simp only [z1,Option.some.injEq] at ho;omega)
 simpa [SV.ev,xh,tpAt,AV.one] using this
theorem q1h {t kt vt:TypeId} {kd:TypeDesc} {x y:Operand} {b:Nat} {kvs:List (Value×Value)} {v:SV} {kv z:Value} {r:Option (Nat×Value)} {n:Int} (hx:sval N sl x=some (.tp b)) (hH:H b=some (.obj (mapP kvs))) (hy:sval N sl y=some v) (hv:∀ ρ,v.ev ρ = .v kv)
  (hu:E.P.underlying t=some (.map kt vt)) (hk:E.P.underlying kt=some kd) (hck:mkey kd kv=true) (hf:qby kd kv kvs 0=some r) (hz:(E.P.info? vt).bind (fun i=>i.zero)=some z) (hn:mval z r = .int .i64 n)
  (h:k ⟨.i n,[b],[],nx⟩):∃ e,Loc E N ops ⟨d,.lookup t x y false,T,p,af,none⟩ nx sl H e∧k e:=by
 refine⟨_,yp (v:=.i n) fun df rd K rest ρ t' S hs hS hk2=>?_,h⟩
 obtain⟨o,x',h1,h2,_,rfl,o',e1⟩:=hS.ok b _ ((y5 b).trans hH)
 rw [e1] at h1
 simp only [z1,Option.some.injEq] at h1
 subst h1
 refine qrr (o:=o') ((qq hs hx).trans (by simp [SV.ev,e1,tpAt,AV.one])) ((qq hs hy).trans (hv ρ)) h2 hu hk hck hf hz ?_
 rw [hn]
 exact hk2
theorem q1j {t kt vt:TypeId} {kd:TypeDesc} {x y q:Operand} {b:Nat} {kvs:List (Value×Value)} {v w:SV} {kv u:Value} {r:Option (Nat×Value)} (hx:sval N sl x=some (.tp b)) (hH:H b=some (.obj (mapP kvs))) (hy:sval N sl y=some v) (hv:∀ ρ,v.ev ρ = .v kv) (hq:sval N sl q=some w) (hw:∀ ρ,w.ev ρ = .v u)
  (hu:E.P.underlying t=some (.map kt vt)) (hk:E.P.underlying kt=some kd) (hck:mkey kd kv=true) (hf:qby kd kv kvs 0=some r)
  (h:k ⟨.a (.v undef),[b],[(b,some (.obj (mapP (mset kvs kv u r))))],nx⟩):∃ e,Loc E N ops ⟨d,.mapUpdate t x y q,T,p,af,none⟩ nx sl H e∧k e:=by
 refine⟨_,fun df rd K rest ρ t' S hs hS hk2=>?_,h⟩
 obtain⟨o,x',h1,h2,_,rfl,o',e1⟩:=hS.ok b _ ((y5 b).trans hH)
 rw [e1] at h1
 simp only [z1,Option.some.injEq] at h1
 subst h1
 refine qrs (o:=o') ((qq hs hx).trans (by simp [SV.ev,e1,tpAt,AV.one])) ((qq hs hy).trans (hv ρ)) ((qq hs hq).trans (hw ρ)) h2 hu hk hck hf ?_
 have key:∀ k r',chF [(b,some (.obj (mapP (mset kvs kv u r))))] (resF [b] H) k=some r'→k=b∧r' = .obj (mapP (mset kvs kv u r)):=fun k r' hk=>by
  simp only [chF,lkS] at hk
  by_cases e:b=k
  ·subst e
   have:Nat.beq b b=true:=by simp
   rw [this] at hk
   simp only [cond_true,Option.some.injEq] at hk
   exact⟨rfl,hk.symm⟩
  ·rw [va e] at hk
   have:=(w7 hk).1
   simp only [memN,List.any_cons,List.any_nil,Bool.or_false] at this
   exact absurd (Nat.eq_of_beq_eq_true this).symm e
 refine hk2 ρ _ ⟨fun _ _=>rfl,⟨fun k r' hk=>?_,fun k k' r1 r2 hne g1 g2=>?_⟩,by simp,fun j hj hne=>?_,fun k r' hk o' ho'=>?_⟩
 ·obtain⟨rfl,rfl⟩:=key k r' hk
  exact⟨o',_,by rw [e1];rfl,qc5 h2,by simp,rfl,o',e1⟩
 ·exact absurd ((key k r1 g1).1.trans (key k' r2 g2).1.symm) hne
 ·have:=hne b _ ((y5 b).trans hH)
  rw [e1] at this
  exact List.getElem?_set_ne (fun e=>this (by rw [e];rfl))
 ·obtain⟨rfl,rfl⟩:=key k r' hk
  exact .inr ⟨k,_,(y5 k).trans hH,ho'⟩
end
end Go.Av
