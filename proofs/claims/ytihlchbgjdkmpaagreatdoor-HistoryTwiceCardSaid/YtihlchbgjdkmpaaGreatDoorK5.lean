/- Contracts and plain facts that the closing text leans on (part 5). No condition of their own beyond those that each states. -/
import Derived.Test.YtihlchbgjdkmpaaGreatDoorK4
import Derived.MapKept
set_option maxRecDepth 100000
set_option linter.unusedVariables false
set_option linter.unusedSimpArgs false
namespace Go.Av
open Go Go.RowKit
def isGd (i:Nat) (l:List Oper):Bool:=l.any fun o=>match o.guard with
 |some (j,_)=>Nat.beq j i
 |none=>false
def Ef.as (e:Ef) (v:SV):Ef:=⟨v,e.ks,e.ch,e.nx⟩
def gdW (g:Bool) (k:Ef→Prop) (e:Ef):Prop:=
 match g with
 |false=>k e
 |true=>match e.val with
  | .p q _=>(q→k (e.as .tt))∧(¬ q→k (e.as .ff))
  | .b c=>(c=true→k (e.as .tt))∧(c=false→k (e.as .ff))
  | _=>k e
section
variable {E : Env} {N : Nat} {ops : Array Oper} {nx : Nat} {sl : List (Nat × SV)} {H : Nat → Option SR} {k : Ef → Prop} {o : Oper}
theorem qoc {e:Ef} {v:SV} (h:Loc E N ops o nx sl H e) (hv:∀ ρ,e.val.ev ρ = v.ev ρ):Loc E N ops o nx sl H (e.as v):=fun df rd K rest ρ t S hs hS hk=>
 h df rd K rest ρ t S hs hS fun ρ' S' hp=>by rw [hv ρ'];exact hk ρ' S' ⟨hp.old,hp.sat,hp.len,hp.fr,hp.loc⟩
theorem q7b {g:Bool} {e:Ef} (hL:Loc E N ops o nx sl H e) (h:gdW g k e):∃ e,Loc E N ops o nx sl H e∧k e:=by
 unfold gdW at h;split at h
 ·exact⟨e,hL,h⟩
 ·split at h
  ·rename_i q i hv
   by_cases hq:q
   ·exact⟨_,qoc hL (fun ρ=>by rw [hv];simp [SV.ev,hq]),h.1 hq⟩
   ·exact⟨_,qoc hL (fun ρ=>by rw [hv];simp [SV.ev,hq]),h.2 hq⟩
  ·rename_i c hv
   cases c with
   |true=>exact⟨_,qoc hL (fun ρ=>by rw [hv];rfl),h.1 rfl⟩
   |false=>exact⟨_,qoc hL (fun ρ=>by rw [hv];rfl),h.2 rfl⟩
  ·exact⟨e,hL,h⟩
def Oper.bare (o:Oper):Oper:=⟨o.dst,o.op,o.type,o.pos,o.after,none⟩
def qwt (l:List Oper) (j:Nat):Option Nat:=match l[j]? with
 |some o=>o.dst
 |none=>none
def opG (E:Env) (N:Nat) (l:List Oper) (bxs:List Nat) (nx:Nat) (sl:List (Nat×SV)) (H:Nat→Option SR) (k:Ef→Prop) (o:Oper):Prop:=
 match o.guard with
 |none=>opW E N l.toArray bxs nx sl H k o
 |some (j,want)=>(match qwt l j with
  |some e=>(match bif Nat.blt e N then lkS sl e else none with
   |some .tt=>bif want then opW E N l.toArray bxs nx sl H k (Oper.bare o) else k (wc nx (.a (.v undef)))
   |some .ff=>bif want then k (wc nx (.a (.v undef))) else opW E N l.toArray bxs nx sl H k (Oper.bare o)
   |some (.a (.v (.tuple ⟨[]⟩)))=>k (wc nx (.a (.v undef)))
   | _=>False)
  |none=>False)
theorem zai {l:List Oper} {j e:Nat} (h:qwt l j=some e):∃ oj,l.toArray[j]? = some oj∧oj.dst=some e:=by
 unfold qwt at h;split at h
 ·rename_i o ho;exact⟨o,by simpa using ho,h⟩
 ·simp at h
theorem q75 {l:List Oper} {bxs:List Nat} (h:opG E N l bxs nx sl H k o):∃ e,Loc E N l.toArray o nx sl H e∧k e:=by
 obtain⟨d,op,T,p,af,g⟩:=o;unfold opG at h;simp only at h;split at h
 ·exact q76 rfl h
 ·rename_i j want
  split at h
  ·rename_i e he
   obtain⟨oj,hj,hd⟩:=zai he
   cases hN:Nat.blt e N with
   |false=>rw [hN] at h;exact h.elim
   |true=>
    rw [hN] at h;simp only [cond_true] at h
    have run:∀ b:Bool,lkS sl e=some (bif b then .tt else .ff)→b=want→opW E N l.toArray bxs nx sl H k ⟨d,op,T,p,af,none⟩→∃ e,Loc E N l.toArray ⟨d,op,T,p,af,some (j,want)⟩ nx sl H e∧k e:=fun b hl hb h=>by
     obtain⟨e1,hL,hk⟩:=q76 rfl h;refine⟨e1,fun df rd K rest ρ t S hs hS hk=>qj3 hj hd hN (b:=b) ?_ hb (hL df rd K rest ρ t S hs hS hk),hk⟩;refine (hs e _ hl).trans ?_
     cases b <;> rfl
    have skp:∀ b:Bool,lkS sl e=some (bif b then .tt else .ff)→(b == want)=false→k (wc nx (.a (.v undef)))→∃ e,Loc E N l.toArray ⟨d,op,T,p,af,some (j,want)⟩ nx sl H e∧k e:=fun b hl hb h=>by
     refine⟨_,jc (v:=.a (.v undef)) fun df rd K rest ρ t S hs hk=>qiv hj hd hN (b:=b) ?_ hb hk,h⟩;refine (hs e _ hl).trans ?_
     cases b <;> rfl
    split at h
    ·rename_i hl
     cases want with
     |true=>exact run true hl rfl h
     |false=>exact skp true hl rfl h
    ·rename_i hl
     cases want with
     |true=>exact skp false hl rfl h
     |false=>exact run false hl rfl h
    ·rename_i hl
     exact⟨_,jc (v:=.a (.v undef)) fun df rd K rest ρ t S hs hk=>qd1 hj hd hN (hs e _ hl) hk,h⟩
    ·exact h.elim
  ·exact h.elim
end
mutual
def fcV:SV→(SV→Prop)→Prop
 | .a x,k=>k (.a x)
 | .i n,k=>k (.i n)
 | .s l,k=>k (.s l)
 | .tt,k=>k .tt
 | .ff,k=>k .ff
 | .b c,k=>k (.b c)
 | .p q h,k=>k (.p q h)
 | .bx a b,k=>k (.bx a b)
 | .tp a,k=>k (.tp a)
 | .ag cs,k=>fcL cs fun cs=>k (.ag cs)
 | .tu cs,k=>fcL cs fun cs=>k (.tu cs)
 | .fn f xs ys,k=>fcL xs fun xs=>fcL ys fun ys=>k (.fn f xs ys)
 | .ifc t x,k=>fcV x fun x=>k (.ifc t x)
def fcL:List SV→(List SV→Prop)→Prop
 | [],k=>k []
 |x::r,k=>fcV x fun x=>fcL r fun r=>k (x::r)
end
mutual
theorem qya:∀ (v:SV) (k:SV→Prop),fcV v k=k v
 | .a _,_=>rfl
 | .i _,_=>rfl
 | .s _,_=>rfl
 | .tt,_=>rfl
 | .ff,_=>rfl
 | .b _,_=>rfl
 | .p _ _,_=>rfl
 | .bx _ _,_=>rfl
 | .tp _,_=>rfl
 | .ag cs,k=>by simp only [fcV,qh3 cs]
 | .tu cs,k=>by simp only [fcV,qh3 cs]
 | .fn f xs ys,k=>by simp only [fcV,qh3 xs,qh3 ys]
 | .ifc t x,k=>by simp only [fcV,qya x]
theorem qh3:∀ (l:List SV) (k:List SV→Prop),fcL l k=k l
 | [],_=>rfl
 |x::r,k=>by simp only [fcL,qya x,qh3 r]
end
def fcR:SR→(SR→Prop)→Prop
 | .cells T cs,k=>fcL cs fun cs=>k (.cells T cs)
 | .tip sz T xs,k=>fcN sz fun sz=>k (.tip sz T xs)
 | .own sz T xs,k=>fcN sz fun sz=>k (.own sz T xs)
 | .obj P,k=>k (.obj P)
 | .rows T ys cs,k=>fcL cs fun cs=>k (.rows T ys cs)
theorem zfr:∀ (r:SR) (k:SR→Prop),fcR r k=k r
 | .cells _ cs,k=>by simp only [fcR,qh3]
 | .tip sz _ _,k=>by simp only [fcR,qm2]
 | .own sz _ _,k=>by simp only [fcR,qm2]
 | .obj _,k=>rfl
 | .rows _ _ cs,k=>by simp only [fcR,qh3]
def fcH:List (Nat×Option SR)→(List (Nat×Option SR)→Prop)→Prop
 | [],k=>k []
 |(a,none)::l,k=>fcH l fun l=>k ((a,none)::l)
 |(a,some r)::l,k=>fcR r fun r=>fcH l fun l=>k ((a,some r)::l)
theorem qx8:∀ (l:List (Nat×Option SR)) (k:List (Nat×Option SR)→Prop),fcH l k=k l
 | [],_=>rfl
 |(a,none)::l,k=>by simp only [fcH,qx8 l]
 |(a,some r)::l,k=>by simp only [fcH,zfr,qx8 l]
def fcE (k:Ef→Prop):Ef→Prop
 | ⟨v,ks,ch,nx⟩=>fcV v fun v=>fcH ch fun ch=>k ⟨v,ks,ch,nx⟩
theorem q66 (k:Ef→Prop) (e:Ef):fcE k e=k e:=by
 obtain⟨v,ks,ch,nx⟩:=e;simp only [fcE,qya,qx8]
def qsq (hp:List (Nat×Option SR)) (k:List (Nat×Option SR)→Prop):List (Nat×Option SR)→Prop
 | []=>k hp
 |c::r=>qsq hp (fun l=>k (c::l)) r
theorem qqj (hp:List (Nat×Option SR)):∀ (ch:List (Nat×Option SR)) (k:List (Nat×Option SR)→Prop),qsq hp k ch=k (ch++hp)
 | [],_=>rfl
 |c::r,k=>by rw [qsq,qqj hp r];rfl
def qwu (sl:List (Nat×SV)) (hp:List (Nat×Option SR)) (nx:Nat) (d:Option Tmp) (k:Conf→Prop):Ef→Prop
 | ⟨v,ks,ch,nx'⟩=>bif Ef.wf ⟨v,ks,ch,nx'⟩ nx then (match d with
  |some d=>qsq hp (fun hp=>k ⟨(d,v)::sl,hp,nx'⟩) ch
  |none=>qsq hp (fun hp=>k ⟨sl,hp,nx'⟩) ch) else False
theorem qy2 {sl:List (Nat×SV)} {hp:List (Nat×Option SR)} {nx:Nat} {d:Option Tmp} {k:Conf→Prop} {e:Ef} (h:qwu sl hp nx d k e):e.wf nx=true∧k ((Conf.mk sl hp nx).app d e):=by
 obtain⟨v,ks,ch,nx'⟩:=e;simp only [qwu] at h
 cases hw:Ef.wf ⟨v,ks,ch,nx'⟩ nx with
 |false=>rw [hw] at h;exact h.elim
 |true=>
  rw [hw] at h;refine⟨rfl,?_⟩
  cases d with
  |none=>simp only [cond_true] at h;rw [qqj] at h;exact h
  |some d=>simp only [cond_true] at h;rw [qqj] at h;exact h
def q5w (E:Env) (N:Nat) (l:List Oper) (bxs:List Nat):Nat→List Oper→(Conf→Prop)→Conf→Prop
 | _,[],K,C=>K C
 |i,o::r,K,⟨sl,hp,nx⟩=>opG E N l bxs nx sl (hpF hp) (gdW (isGd i l) (fcE (qwu sl hp nx o.dst (q5w E N l bxs (i+1) r K)))) o
theorem q0j {E:Env} {rd:Option Nat} {N:Nat} {l:List Oper} {bxs:List Nat} {B:Bs} {K:Conf→Prop}:∀ {r:List Oper} {i:Nat} {C:Conf} {s:AS},q5w E N l bxs i r K C→SatC B C s→AOps E rd N l.toArray r (fun s'=>∃ C',K C'∧SatC B C' s') s
 | [],_,C,s,h,hs=>qf ⟨C,h,hs⟩
 |o::r,i,⟨sl,hp,nx⟩,s,h,hs=>by
  obtain⟨e,hL,h⟩:=q75 h;obtain⟨e,hL,h⟩:=q7b hL h;rw [q66] at h;obtain⟨hw,h⟩:=qy2 h;obtain⟨t,S,df⟩:=s;obtain⟨ρ,i8,hR⟩:=hs;simp only at i8 hR;refine hL _ rd _ r ρ t S hR.sl (hR.hp.res _) fun ρ' S' hp=>q0j h ⟨ρ',?_,?_⟩
  ·have:=i8.step (d:=o.dst) hR.hp hw hp
   cases hd:o.dst with
   |none=>rw [hd] at this;exact this
   |some d=>rw [hd] at this;exact this
  ·have:=hR.step (d:=o.dst) hw hp
   cases hd:o.dst with
   |none=>rw [hd] at this;exact this
   |some d=>rw [hd] at this;exact this
structure Sm (E:Env) (rd:Option Nat) (N:Nat) (B:Bs) (c:Code) (Q:Exit→Conf→Prop) (C:Conf):Prop where
 run:∀ s,SatC B C s→AWp E rd N c (fun e s'=>∃ C',Q e C'∧SatC B C' s') s
@[reducible] def zcu (K : Conf → Prop) (Q : Exit → Conf → Prop) : Exit → Conf → Prop
 | .normal,C=>K C
 |e,C=>Q e C
@[reducible] def qp8 (id : Nat) (Q : Exit → Conf → Prop) : Exit → Conf → Prop
 | .exit id',C=>bif Nat.beq id' id then Q .normal C else Q (.exit id') C
 |e,C=>Q e C
section
variable {E : Env} {rd : Option Nat} {N : Nat} {B : Bs} {C : Conf} {Q : Exit → Conf → Prop}
theorem zet {x y:Code} (h:Sm E rd N B x (zcu (Sm E rd N B y Q) Q) C):Sm E rd N B (.seq x y) Q C:=⟨fun s hs=>
 qm ((h.run s hs).mono fun e s' ⟨C',hq,fx⟩=>by
  cases e with
  |normal=>exact hq.run s' fx
  | _=>exact⟨C',hq,fx⟩)⟩
theorem q8w {id:Nat} {c:Code} (h:Sm E rd N B c (qp8 id Q) C):Sm E rd N B (.block id c) Q C:=⟨fun s hs=>
 q9 ((h.run s hs).mono fun e s' ⟨C',hq,fx⟩=>by
  cases e with
  |exit id'=>
   simp only [qp8] at hq;simp only [qp7]
   cases hb:Nat.beq id' id with
   |true=>rw [hb] at hq;exact⟨C',hq,fx⟩
   |false=>rw [hb] at hq;exact⟨C',hq,fx⟩
  | _=>exact⟨C',hq,fx⟩)⟩
theorem zb5 {c:Operand} {x y:Code} {v:SV} (hv:sval N C.sl c=some v) (h:wayW (Sm E rd N B x Q C) (Sm E rd N B y Q C) v):Sm E rd N B (.cond c x y) Q C:=⟨fun s hs=>by
 obtain⟨b,hb,h⟩:=q9h h;obtain⟨t,S,df⟩:=s;have ⟨ρ,i8,hR⟩:=hs;have he:=(qv (S:=S) (df:=df) hR.sl hv).trans (hb ρ);rcases h with⟨hc,h⟩ | ⟨hc,h⟩
 ·exact q3x he hc (h.run _ hs)
 ·exact q3w he hc (h.run _ hs)⟩
theorem qz3 {c:Code} {Q':Exit→Conf→Prop} (h:Sm E rd N B c Q' C) (hq:∀ e C',Q' e C'→Q e C'):Sm E rd N B c Q C:=⟨fun s hs=>
 (h.run s hs).mono fun e s' ⟨C',hq',fx⟩=>⟨C',hq e C' hq',fx⟩⟩
end
def wpC (E:Env) (rd:Option Nat) (N:Nat) (B:Bs) (bxs:List Nat):Code→(Exit→Conf→Prop)→Conf→Prop
 | .skip,Q,C=>Q .normal C
 | .region id ops false,Q,C=>q5w E N ops.toList bxs 0 ops.toList (Q .normal) C
 | .seq x y,Q,C=>wpC E rd N B bxs x (zcu (wpC E rd N B bxs y Q) Q) C
 | .cond c x y,Q,C=>(match sval N C.sl c with
  |some v=>wayW (wpC E rd N B bxs x Q C) (wpC E rd N B bxs y Q C) v
  |none=>False)
 | .block id c,Q,C=>wpC E rd N B bxs c (qp8 id Q) C
 | .exit id,Q,C=>Q (.exit id) C
 | .ret,Q,C=>Q .ret C
 |c,Q,C=>Sm E rd N B c Q C
theorem q9g {x y x' y':Prop} {v:SV} (hx:x→x') (hy:y→y') (h:wayW x y v):wayW x' y' v:=by
 cases v with
 |tt=>exact hx h
 |ff=>exact hy h
 |p q i=>exact⟨fun hq=>hx (h.1 hq),fun hq=>hy (h.2 hq)⟩
 |b c=>exact⟨fun hq=>hx (h.1 hq),fun hq=>hy (h.2 hq)⟩
 | _=>exact h.elim
theorem qd {E:Env} {rd:Option Nat} {N:Nat} {B:Bs} (bxs:List Nat):∀ {c:Code} {Q:Exit→Conf→Prop} {C:Conf},wpC E rd N B bxs c Q C→Sm E rd N B c Q C
 | .skip,Q,C,h=>⟨fun s hs=>qx ⟨C,h,hs⟩⟩
 | .exit id,Q,C,h=>⟨fun s hs=>vc ⟨C,h,hs⟩⟩
 | .ret,Q,C,h=>⟨fun s hs=>qu ⟨C,h,hs⟩⟩
 | .seq x y,Q,C,h=>zet (qz3 (qd bxs (c:=x) h) fun e C' hq=>by
   cases e with
   |normal=>exact qd bxs (c:=y) hq
   | _=>exact hq)
 | .block id c,Q,C,h=>q8w (qd bxs (c:=c) h)
 | .cond c x y,Q,C,h=>by
  simp only [wpC] at h;split at h
  ·rename_i v hv
   exact zb5 hv (q9g (fun h=>qd bxs (c:=x) h) (fun h=>qd bxs (c:=y) h) h)
  ·exact h.elim
 | .region id ops false,Q,C,h=>⟨fun s hs=>by
  have e:ops=ops.toList.toArray:=by simp
  rw [e]
  exact qe (q0j h hs)⟩
 | .region id ops true,Q,C,h=>h
 | .loop c,Q,C,h=>h
 | .rangeFunc _ _ _ _,Q,C,h=>h
 | .scope _,Q,C,h=>h
 | .label _,Q,C,h=>h
 | .goto _,Q,C,h=>h
 | .refuse _,Q,C,h=>h
mutual
def SV.ren (σ : List (Nat×Nat)):SV→SV
 | .bx k off=>match lkS σ k with
  |some j=>.bx j off
  |none=>.a (.bx 0 0 off)
 | .tp k=>match lkS σ k with
  |some j=>.tp j
  |none=>.a zj
 | .ag cs=>.ag (SV.rens σ cs)
 | .tu cs=>.tu (SV.rens σ cs)
 | .fn f xs ys=>.fn f (SV.rens σ xs) (SV.rens σ ys)
 | .ifc t x=>.ifc t (SV.ren σ x)
 |v=>v
def SV.rens (σ : List (Nat×Nat)):List SV→List SV
 | []=>[]
 |x::r=>SV.ren σ x::SV.rens σ r
end
def renR (σ : List (Nat×Nat)) (ρ : Nat→AV):Nat→AV:=fun k=>match lkS σ k with
 |some j=> ρ j
 |none=>zj
mutual
theorem qsv (σ : List (Nat×Nat)) (ρ : Nat→AV):∀ v:SV,(v.ren σ).ev ρ = v.ev (renR σ ρ)
 | .a _=>rfl
 | .i _=>rfl
 | .s _=>rfl
 | .tt=>rfl
 | .ff=>rfl
 | .b _=>rfl
 | .p _ _=>rfl
 | .bx k off=>by
  simp only [SV.ren,SV.ev,renR]
  cases lkS σ k <;> rfl
 | .tp k=>by
  simp only [SV.ren,SV.ev,renR]
  cases lkS σ k <;> rfl
 | .ag cs=>by simp only [SV.ren,SV.ev,qdj σ ρ cs]
 | .tu cs=>by simp only [SV.ren,SV.ev,qdj σ ρ cs]
 | .fn f xs ys=>by simp only [SV.ren,SV.ev,qdj σ ρ xs,qdj σ ρ ys]
 | .ifc t x=>by simp only [SV.ren,SV.ev,qsv σ ρ x]
theorem qdj (σ : List (Nat×Nat)) (ρ : Nat→AV):∀ l:List SV,SV.evs ρ (SV.rens σ l)=SV.evs (renR σ ρ) l
 | []=>rfl
 |x::r=>by simp only [SV.rens,SV.evs,qsv σ ρ x,qdj σ ρ r]
end
structure Tl (x r:AV):Prop where
 ok:Wk x r
theorem ze4 (x:AV):Tl x x:=⟨wj x⟩
theorem qi {x y:AV} (h:x=y):Tl x y:=⟨zg4 h⟩
theorem zgk {sz:Nat}:Tl zj (.sl sz [] none):=⟨fun _ _ h=>qbt h⟩
def evK (v:SV) (k:AV→Prop):Prop:=
 match v with
 | .a x=>k x
 | .i n=>k (Iv n)
 | .s l=>k (Sv l)
 | .b c=>k (Bv c)
 | .p q h=>k (Bv (@decide q h))
 |v=>k (v.ev fun _=>zj)
theorem zfq (v:SV) (k:AV→Prop):evK v k=k (v.ev fun _=>zj):=by
 cases v <;> rfl
def covW (H:Nat→Option SR) (v:Option SV) (σ : List (Nat×Nat)) (u:SV):Prop:=
 match v with
 |none=>False
 |some v=>match u.all (fun _=>false) with
  |true=>(match frz H v with
   |some x=>evK u fun y=>Tl x y
   |none=>False)
  |false=>∀ ρ,v.ev ρ = (u.ren σ).ev ρ
def entS (H:Nat→Option SR) (sl:List (Nat×SV)) (σ : List (Nat×Nat)):List (Nat×SV)→Prop
 | []=>True
 |(d,v)::r=>covW H (lkS sl d) σ v∧entS H sl σ r
def entR (H:Nat→Option SR) (σ : List (Nat×Nat)) (k:Nat) (r:SR):Prop:=
 match lkS σ k,r with
 |some j,.cells T cs=>(match H j with
  |some (.cells T' cs')=>T'=T∧∀ ρ,SV.evs ρ cs'=SV.evs ρ (SV.rens σ cs)
  | _=>False)
 |some j,.tip sz T xs=>(match H j with
  |some (.tip sz' T' xs')=>(sz'=sz∧T'=T)∧xs'=xs
  | _=>False)
 |none,.tip _ _ xs=>xs=[]
 |some j,.own sz T xs=>(match H j with
  |some (.own sz' T' xs')=>(sz'=sz∧T'=T)∧xs'=xs
  | _=>False)
 |none,.own _ _ xs=>xs=[]
 |none,.cells _ _=>False
 |some j,.obj P=>(match H j with
  |some (.obj P')=>∀ x c,P' x c→P x c
  | _=>False)
 |none,.obj _=>False
 |some j,.rows T ys cs=>(match H j with
  |some (.rows T' ys' cs')=>(T'=T∧ys'=ys)∧∀ ρ,SV.evs ρ cs'=SV.evs ρ (SV.rens σ cs)
  | _=>False)
 |none,.rows _ ys cs=>ys=[]∧cs=[]
def entH (H:Nat→Option SR) (σ : List (Nat×Nat)):List (Nat×Option SR)→Prop
 | []=>True
 |(k,some r)::l=>entR H σ k r∧entH H σ l
 |(_,none)::l=>entH H σ l
def injN:List (Nat×Nat)→Bool
 | []=>true
 |(_,j)::r=>r.all (fun q=> !Nat.beq q.2 j) && injN r
def fltN (hp:List (Nat×Option SR)):List (Nat×Nat)→List (Nat×Nat)
 | []=>[]
 |(k,j)::r=>match lkS hp k with
  |some _=>(k,j)::fltN hp r
  |none=>fltN hp r
theorem qp3 {hp:List (Nat×Option SR)} {k:Nat} {x:Option SR} (hk:lkS hp k=some x):∀ σ : List (Nat×Nat),lkS (fltN hp σ) k=lkS σ k
 | []=>rfl
 |(i,j)::r=>by
  have ih:=qp3 hk r;simp only [fltN];by_cases e:i=k
  ·subst e
   rw [hk];simp [lkS]
  ·cases h:lkS hp i with
   |none=>simp only [lkS,ji e,cond_false];exact ih
   |some y=>simp only [lkS,ji e,cond_false];exact ih
def okC (C:Conf):Bool:=C.sl.all (fun q=>q.2.all fun k=>Nat.blt k C.nx) && C.hp.all (fun q=>Nat.blt q.1 C.nx && match q.2 with
 |some r=>r.all fun k=>Nat.blt k C.nx
 |none=>true)
def rigN (σ : List (Nat×Nat)):Nat→Bool
 | 0=>true
 |n+1=>(match lkS σ n with
  |some j=>Nat.beq j n
  |none=>false) && rigN σ n
def idN:Nat→List (Nat×Nat)
 | 0=>[]
 |n+1=>(n,n)::idN n
theorem qql {σ : List (Nat×Nat)}:∀ {n:Nat},rigN σ n=true→∀ k,k<n→lkS σ k=some k
 | 0,_,k,hk=>by omega
 |n+1,h,k,hk=>by
  simp only [rigN,Bool.and_eq_true] at h;by_cases e:k=n
  ·subst e
   have h1:=h.1;split at h1
   ·rename_i j hj
    rw [hj,Nat.eq_of_beq_eq_true h1]
   ·simp at h1
  ·exact qql h.2 k (by omega)
def EntC (σ : List (Nat×Nat)) (C C':Conf):Prop:=entS (hpF C.hp) C.sl σ C'.sl∧entH (hpF C.hp) σ C'.hp∧(injN (fltN C'.hp σ) && okC C')=true
mutual
def prs:SV→SV→List (Nat×Nat)
 | .tp k,.tp j=>[(k,j)]
 | .bx k _,.bx j _=>[(k,j)]
 | .ag a,.ag b=>prsL a b
 | .tu a,.tu b=>prsL a b
 | .fn _ a b,.fn _ c d=>prsL a c++prsL b d
 | .ifc _ x,.ifc _ y=>prs x y
 | _,_=>[]
def prsL:List SV→List SV→List (Nat×Nat)
 |x::r,y::s=>prs x y++prsL r s
 | _,_=>[]
end
def addS:List (Nat×Nat)→List (Nat×Nat)→List (Nat×Nat)
 |acc,[]=>acc
 |acc,(k,j)::r=>match lkS acc k with
  |some _=>addS acc r
  |none=>addS ((k,j)::acc) r
def sigS (sl:List (Nat×SV)):List (Nat×SV)→List (Nat×Nat)
 | []=>[]
 |(d,v)::r=>(match lkS sl d with
  |some u=>prs v u
  |none=>[])++sigS sl r
def sigH (H:Nat→Option SR) (σ : List (Nat×Nat)):List (Nat×Option SR)→List (Nat×Nat)
 | []=>[]
 |(k,some (.cells _ cs))::r=>(match lkS σ k with
  |some j=>(match H j with
   |some (.cells _ ds)=>prsL cs ds
   | _=>[])
  |none=>[])++sigH H σ r
 | _::r=>sigH H σ r
def fcP:List (Nat×Nat)→(List (Nat×Nat)→Prop)→Prop
 | [],k=>k []
 |(a,b)::r,k=>fcP r fun r=>k ((a,b)::r)
theorem qx9:∀ (l:List (Nat×Nat)) (k:List (Nat×Nat)→Prop),fcP l k=k l
 | [],_=>rfl
 |(a,b)::r,k=>by simp only [fcP,qx9 r]
def EntA (n0:Nat) (C C':Conf):Prop:=
 fcP (addS (idN n0) (sigS C.sl C'.sl)) fun a=>fcP (addS a (sigH (hpF C.hp) a C'.hp)) fun b=>fcP (addS b (sigH (hpF C.hp) b C'.hp)) fun σ=>(rigN σ n0 && Nat.ble n0 C'.nx)=true∧EntC σ C C'
theorem EntA.ent {n0:Nat} {C C':Conf} (h:EntA n0 C C'):∃ σ,(rigN σ n0 && Nat.ble n0 C'.nx)=true∧EntC σ C C':=by
 unfold EntA at h;simp only [qx9] at h;exact⟨_,h⟩
theorem qx7 {H:Nat→Option SR} {sl:List (Nat×SV)} {σ : List (Nat×Nat)}:∀ {l:List (Nat×SV)} {d:Nat} {v:SV},entS H sl σ l→lkS l d=some v→covW H (lkS sl d) σ v
 | [],_,_,_,h=>by simp [lkS] at h
 |(i,x)::r,d,v,h,hl=>by
  unfold lkS at hl
  cases hb:Nat.beq i d with
  |true=>
   rw [hb] at hl;simp only [cond_true,Option.some.injEq] at hl;subst hl;rw [← Nat.eq_of_beq_eq_true hb]
   exact h.1
  |false=>rw [hb] at hl;exact qx7 h.2 hl
theorem qfh {H:Nat→Option SR} {σ : List (Nat×Nat)}:∀ {l:List (Nat×Option SR)} {k:Nat} {r:SR},entH H σ l→lkS l k=some (some r)→entR H σ k r
 | [],_,_,_,h=>by simp [lkS] at h
 |(i,none)::l,k,r,h,hl=>by
  unfold lkS at hl
  cases hb:Nat.beq i k with
  |true=>rw [hb] at hl;simp at hl
  |false=>rw [hb] at hl;exact qfh (l:=l) h hl
 |(i,some x)::l,k,r,h,hl=>by
  unfold lkS at hl
  cases hb:Nat.beq i k with
  |true=>
   rw [hb] at hl;simp only [cond_true,Option.some.injEq] at hl;subst hl;rw [← Nat.eq_of_beq_eq_true hb]
   exact h.1
  |false=>rw [hb] at hl;exact qfh (l:=l) h.2 hl
theorem qyr:∀ {σ : List (Nat×Nat)} {k k' j:Nat},injN σ = true→lkS σ k=some j→lkS σ k'=some j→k=k'
 | [],_,_,_,_,h,_=>by simp [lkS] at h
 |(i,x)::r,k,k',j,h,h1,h2=>by
  simp only [injN,Bool.and_eq_true] at h
  have no:∀ q,lkS r q=some x→False:=fun q hq=>by
   have:=List.all_eq_true.1 h.1 _ (ko hq);simp at this
  unfold lkS at h1 h2
  cases hb:Nat.beq i k with
  |true=>
   rw [hb] at h1;simp only [cond_true,Option.some.injEq] at h1;subst h1
   cases cx:Nat.beq i k' with
   |true=>rw [← Nat.eq_of_beq_eq_true hb,← Nat.eq_of_beq_eq_true cx]
   |false=>rw [cx] at h2;exact (no _ h2).elim
  |false=>
   rw [hb] at h1
   cases cx:Nat.beq i k' with
   |true=>
    rw [cx] at h2;simp only [cond_true,Option.some.injEq] at h2;subst h2
    exact (no _ h1).elim
   |false=>rw [cx] at h2;exact qyr h.2 h1 h2
theorem wy {hp:List (Nat×Option SR)} {k:Nat} {r:SR} (h:hpF hp k=some r):lkS hp k=some (some r):=by
 unfold hpF at h
 cases hl:lkS hp k with
 |none=>rw [hl] at h;simp at h
 |some x=>rw [hl] at h;simp only at h;rw [h]
theorem EntC.sat {σ : List (Nat×Nat)} {C C':Conf} {S0:List AObj} {F:Nat→Prop} {ρ t:Nat→AV} {S:List AObj} (h:EntC σ C C') (hR:SatR S0 F C ρ t S):∃ t',(∀ d,Wk (t d) (t' d))∧SatR S0 F C' (renR σ ρ) t' S:=by
 obtain⟨hs,hh,hb⟩:=h;simp only [Bool.and_eq_true,okC] at hb;obtain⟨hi,p6,cn⟩:=hb;refine⟨fun d=>match lkS C'.sl d with|some v=>v.ev (renR σ ρ)|none=>t d,fun d=>?_,⟨fun d v hd=>by simp only [hd],⟨fun k r hk=>?_,fun k k' r r' b9 h1 h2 o ho=>?_⟩,fun k r hk o ho=>?_,hR.low,hR.len,fun d v hd=>?_,fun k r hk=>?_⟩⟩
 ·simp only
  cases hd:lkS C'.sl d with
  |none=>exact wj _
  |some v=>
   have hc:=qx7 hs hd;unfold covW at hc;split at hc
   ·exact hc.elim
   ·rename_i u hu
    rw [hR.sl d u hu];simp only;split at hc
    ·rename_i s6
     split at hc
     ·rename_i x hx
      rw [zfq] at hc;have e:v.ev (renR σ ρ)=v.ev fun _=>zj:=yy (f:=fun _=>false) (fun k hk=>by simp at hk) _ s6;rw [e];exact fun G y hy=>hc.ok G y (qh8 hR.hp u x hx G y hy)
     ·exact hc.elim
    ·rw [hc ρ,qsv]
     exact wj _
 ·have hc:=qfh hh (wy hk)
  unfold entR at hc;unfold renR;split at hc
  ·rename_i j T cs hj
   rw [hj];split at hc
   ·rename_i T' cs' hH
    obtain⟨rfl,hc⟩:=hc;obtain⟨o,v,h1,h2,h0⟩:=hR.hp.ok j _ hH;refine⟨o,v,h1,?_,h0⟩;rw [h2,hc ρ,qdj];rfl
   ·exact hc.elim
  ·rename_i j sz T xs hj
   rw [hj];split at hc
   ·rename_i sz' T' xs' hH
    obtain⟨⟨rfl,rfl⟩,rfl⟩:=hc;exact hR.hp.ok j _ hH
   ·exact hc.elim
  ·rename_i sz T xs hj
   rw [hj];subst hc;exact .inl (.inl ⟨rfl,rfl⟩)
  ·rename_i j sz T xs hj
   rw [hj];split at hc
   ·rename_i sz' T' xs' hH
    obtain⟨⟨rfl,rfl⟩,rfl⟩:=hc;exact hR.hp.ok j _ hH
   ·exact hc.elim
  ·rename_i sz T xs hj
   rw [hj];subst hc;exact .inl ⟨rfl,qqf none⟩
  ·exact hc.elim
  ·rename_i j P hj
   rw [hj];split at hc
   ·rename_i P' hH
    obtain⟨o,x,h1,h2,h3,h4⟩:=hR.hp.ok j _ hH;exact⟨o,x,h1,h2,h3,hc x _ h4⟩
   ·exact hc.elim
  ·exact hc.elim
  ·rename_i j T ys cs hj
   rw [hj];split at hc
   ·rename_i T' ys' cs' hH
    obtain⟨⟨rfl,rfl⟩,hc⟩:=hc;have h1:=hR.hp.ok j _ hH
    show OwnS _ 1 _ (ys'++SV.evs (renR σ ρ) cs) _
    rw [← qdj,← hc ρ];exact h1
   ·exact hc.elim
  ·rename_i T ys cs hj
   rw [hj];obtain⟨rfl,rfl⟩:=hc;exact .inl ⟨rfl,qqf none⟩
 ·have key:∀ k r,hpF C'.hp k=some r→∀ o,zm (renR σ ρ k)=some o→∃ j r',lkS σ k=some j∧hpF C.hp j=some r'∧zm (ρ j)=some o:=fun k r hk o ho=>by
   have hc:=qfh hh (wy hk);unfold renR at ho
   cases hj:lkS σ k with
   |none=>rw [hj] at ho;simp [zm] at ho
   |some j=>
    rw [hj] at ho;unfold entR at hc;rw [hj] at hc
    cases r with
    |cells T cs=>
     simp only at hc;split at hc
     ·rename_i hH;exact⟨j,_,rfl,hH,ho⟩
     ·exact hc.elim
    |tip sz T xs=>
     simp only at hc;split at hc
     ·rename_i hH;exact⟨j,_,rfl,hH,ho⟩
     ·exact hc.elim
    |own sz T xs=>
     simp only at hc;split at hc
     ·rename_i hH;exact⟨j,_,rfl,hH,ho⟩
     ·exact hc.elim
    |obj P=>
     simp only at hc;split at hc
     ·rename_i hH;exact⟨j,_,rfl,hH,ho⟩
     ·exact hc.elim
    |rows T ys cs=>
     simp only at hc;split at hc
     ·rename_i hH;exact⟨j,_,rfl,hH,ho⟩
     ·exact hc.elim
  obtain⟨j,q,g1,g2,g3⟩:=key k r h1 o ho;intro d7;obtain⟨j',q',g4,g5,g6⟩:=key k' r' h2 o d7;exact hR.hp.sep j j' q q' (fun e=>b9 (qyr hi ((qp3 (wy h1) σ).trans g1) ((qp3 (wy h2) σ).trans (by rw [e];exact g4)))) g2 g5 o g3 g6
 ·have hc:=qfh hh (wy hk)
  unfold renR at ho
  cases hj:lkS σ k with
  |none=>rw [hj] at ho;simp [zm] at ho
  |some j=>
   rw [hj] at ho;unfold entR at hc;rw [hj] at hc
   cases r with
   |cells T cs=>
    simp only at hc;split at hc
    ·rename_i hH;exact hR.own j _ hH o ho
    ·exact hc.elim
   |tip sz T xs=>
    simp only at hc;split at hc
    ·rename_i hH;exact hR.own j _ hH o ho
    ·exact hc.elim
   |own sz T xs=>
    simp only at hc;split at hc
    ·rename_i hH;exact hR.own j _ hH o ho
    ·exact hc.elim
   |obj P=>
    simp only at hc;split at hc
    ·rename_i hH;exact hR.own j _ hH o ho
    ·exact hc.elim
   |rows T ys cs=>
    simp only at hc;split at hc
    ·rename_i hH;exact hR.own j _ hH o ho
    ·exact hc.elim
 ·exact List.all_eq_true.1 p6 _ (ko hd)
 ·have:=List.all_eq_true.1 cn _ (ko (wy hk))
  simp only [Bool.and_eq_true] at this;exact⟨ku this.1,this.2⟩
section
variable {E : Env} {rd : Option Nat} {N : Nat} {B : Bs} {C : Conf} {Q : Exit → Conf → Prop}
theorem Frm.ren {B:Bs} {C C':Conf} {ρ : Nat→AV} {df:List Nat} {S:List AObj} {σ : List (Nat×Nat)} (h:Frm B C ρ df S) (hr:(rigN σ B.n0 && Nat.ble B.n0 C'.nx)=true):Frm B C' (renR σ ρ) df S:=by
 simp only [Bool.and_eq_true] at hr;refine⟨h.dm,h.nd,fun k hk=>?_,Nat.le_of_ble_eq_true hr.2,h.dz⟩;unfold renR;rw [qql hr.1 k hk];exact h.rig k hk
theorem qxo {c:Code} {Q:Exit→AS→Prop} {t t':Nat→AV} {S:List AObj} {df:List Nat} (hw:∀ d,Wk (t d) (t' d)) (h:AWp E rd N c Q ⟨t',S,df⟩):AWp E rd N c Q ⟨t,S,df⟩:=
 ⟨fun B0 w0 G a w hL hI=>h.run B0 w0 G a w hL ⟨hI.agree,hI.defers,hI.size,fun i y hy=>hw i G y (hI.tmps i y hy)⟩⟩
theorem w7 {X:Type} {c:Code} (I:X→Conf) (P:X→Prop) (μ : X→Nat) (x0:X) (h0:P x0) (he:EntA B.n0 C (I x0))
  (hr:∀ x,P x→Sm E rd N B c (fun e C'=>match e with
   | .normal=>∃ x',P x'∧μ x' < μ x∧EntA B.n0 C' (I x')
   |e=>Q e C') (I x)):Sm E rd N B (.loop c) Q C:=⟨fun s hs=>by
 refine v4 (σ:=X) (fun x s=>P x∧∃ t',(∀ d,Wk (s.t d) (t' d))∧SatC B (I x) ⟨t',s.st,s.df⟩) μ x0 ?_ ?_
 ·obtain⟨t,S,df⟩:=s
  obtain⟨ρ,i8,hR⟩:=hs;simp only at i8 hR;obtain⟨σ0,hr0,he⟩:=he.ent;obtain⟨t',hw,lk⟩:=he.sat hR;exact⟨h0,t',hw,_,i8.ren hr0,lk⟩
 ·rintro x ⟨t,S,df⟩ ⟨hP,t',hw,hs⟩
  simp only at hw hs;refine qxo hw (((hr x hP).run ⟨t',S,df⟩ hs).mono fun e s' ⟨C',hq,fx⟩=>?_)
  cases e with
  |normal=>
   obtain⟨x',hP',d9,db⟩:=hq;obtain⟨t2,S2,df2⟩:=s';obtain⟨ρ2,hdf2,gr⟩:=fx;simp only at hdf2 gr;obtain⟨σ,hr2,db⟩:=db.ent;obtain⟨t3,hw3,nv⟩:=db.sat gr
   exact⟨x',⟨hP',t3,hw3,_,hdf2.ren hr2,nv⟩,d9⟩
  | _=>exact⟨C',hq,fx⟩⟩
end
def qdk (P:Program) (N:Nat) (C:Conf):ResultVar→Option SV
 | .tmp t=>sval N C.sl (.tmp t)
 | .cell a T=>(match sval N C.sl (.tmp a),tyOf P T with
  |some (.bx b off),some (sz,agg)=>(match hpF C.hp b with
   |some (.cells _ cs)=>qld sz agg off cs
   | _=>none)
  | _,_=>none)
def resV (P:Program) (N:Nat) (C:Conf):List ResultVar→Option SV
 | []=>some (.tu [])
 | [a]=>qdk P N C a
 | [a,b]=>(match qdk P N C a,qdk P N C b with
  |some x,some y=>some (.tu [x,y])
  | _,_=>none)
 | [a,b,c]=>(match qdk P N C a,qdk P N C b,qdk P N C c with
  |some x,some y,some z=>some (.tu [x,y,z])
  | _,_,_=>none)
 | [a,b,c,d]=>(match qdk P N C a,qdk P N C b,qdk P N C c,qdk P N C d with
  |some x,some y,some z,some u=>some (.tu [x,y,z,u])
  | _,_,_,_=>none)
 | _=>none
theorem zep {G:Gh} {x y z p:AV} {v u t q:Value} (h1:Rel G x v) (h2:Rel G y u) (h3:Rel G z t) (h4:Rel G p q):Rel G (.tu [x,y,z,p]) (.tuple #[v,u,t,q]):=
 .tu _ _ rfl fun i x' y' hx hy=>by
  match i with
  | 0=>simp at hx hy;subst hx;subst hy;exact h1
  | 1=>simp at hx hy;subst hx;subst hy;exact h2
  | 2=>simp at hx hy;subst hx;subst hy;exact h3
  | 3=>simp at hx hy;subst hx;subst hy;exact h4
  |i+4=>simp at hx
def qzz (r:ResultVar) (tm:Array Value):Sem Value:=
 match r with
 | .tmp t=>pure (tm.getD t undef)
 | .cell a t=>do loadVar t (← asAddr (tm.getD a undef))
theorem qhi (fn:Func) (tm:Array Value):results fn tm=(do
  let vs ← fn.results.mapM fun r=>qzz r tm
  pure (if h:vs.size=1 then vs[0] else .tuple vs)):=by
 unfold results;congr 1
theorem qbd {E:Env} {S0:List AObj} {F:Nat→Prop} {C:Conf} {ρ t:Nat→AV} {S:List AObj} {N:Nat} (hR:SatR S0 F C ρ t S) {r:ResultVar} {v:SV} (h:qdk E.P N C r=some v) {B0:Nat} {w0:World} {G:Gh} {a:Act} {w:World} (hI:Inv B0 w0 N G ⟨t,S,[]⟩ a w) :
  ∃ u,(qzz r a.tmps).run E.P w = .ok u w∧Rel G (v.ev ρ) u:=by
 cases r with
 |tmp i=>
  simp only [qdk] at h;refine⟨a.tmps.getD i undef,rfl,?_⟩;have:=hI.rd i;rw [qv hR.sl h] at this
  exact this
 |cell i T=>
  simp only [qdk] at h;split at h
  ·rename_i b off sz agg hb ht
   split at h
   ·rename_i T' cs hH
    obtain⟨o,ver,h1,h2,_⟩:=hR.hp.ok b _ hH;have he:=hI.rd i;rw [qv hR.sl hb] at he;simp only [SV.ev,h1,bxAt] at he;generalize hv:a.tmps.getD i undef=y at he
    cases he with
    |bx _ _ _ bl hn bv gf=>
     obtain⟨_,g1,g2,g3,c,g4,g5,g6⟩:=hI.agree.ob o _ h2;have hb:=gf g1;rw [hb] at g4
     obtain⟨u,a8,hRel⟩:=qac (w:=w) (G:=G) (b:=bl) (off:=off) (off':=off) ht (fun i x hx hi=>by
      obtain⟨y,hy⟩:=wa hx (Nat.le_of_eq g5);refine⟨y,?_,g6 i x y hx hy⟩
      simp [World.cell?,g4,show off+(i - off)=i by omega,hy]) (qqc ρ h)
     refine⟨u,?_,hRel⟩;simp [qzz,hv,asAddr,a8]
   ·simp at h
  ·simp at h
theorem q23 {E:Env} {S0:List AObj} {F:Nat→Prop} {C:Conf} {ρ t:Nat→AV} {S:List AObj} {fn:Func} (hR:SatR S0 F C ρ t S) {v:SV} (h:resV E.P fn.ntmps C fn.results.toList=some v):ARes E fn ⟨t,S,[]⟩ (v.ev ρ):=by
 refine⟨fun B0 w0 G a w hL hI=>?_⟩
 cases hr:fn.results.toList with
 |nil=>
  rw [hr] at h;simp only [resV,Option.some.injEq] at h;subst h;have hr':fn.results = #[]:=by simpa using hr
  exact (xl hr').run B0 w0 G a w hL hI
 |cons r1 l1=>
  cases l1 with
  |nil=>
   rw [hr] at h;obtain⟨u,h1,h2⟩:=qbd hR h hI;have hr':fn.results = #[r1]:=by rw [← Array.toList_inj];exact hr
   refine⟨u,?_,h2⟩;rw [qhi,hr']
   simp [h1]
  |cons r2 l2=>
   cases l2 with
   |nil=>
    rw [hr] at h;simp only [resV] at h;split at h
    ·rename_i x y hx hy
     simp only [Option.some.injEq] at h;subst h;obtain⟨u1,h1,h2⟩:=qbd hR hx hI;obtain⟨u2,h3,h4⟩:=qbd hR hy hI;have hr':fn.results = #[r1,r2]:=by rw [← Array.toList_inj];exact hr
     refine⟨.tuple #[u1,u2],?_,qel h2 h4⟩;rw [qhi,hr'];simp [h1,h3]
    ·simp at h
   |cons r3 l3=>
    cases l3 with
    |nil=>
     rw [hr] at h;simp only [resV] at h;split at h
     ·rename_i x y z hx hy hz
      simp only [Option.some.injEq] at h;subst h;obtain⟨u1,h1,h2⟩:=qbd hR hx hI;obtain⟨u2,h3,h4⟩:=qbd hR hy hI;obtain⟨u3,h5,h6⟩:=qbd hR hz hI;have hr':fn.results = #[r1,r2,r3]:=by rw [← Array.toList_inj];exact hr
      refine⟨.tuple #[u1,u2,u3],?_,qtx h2 h4 h6⟩;rw [qhi,hr'];simp [h1,h3,h5]
     ·simp at h
    |cons r4 l4=>
     cases l4 with
     |nil=>
      rw [hr] at h;simp only [resV] at h;split at h
      ·rename_i x y z p hx hy hz hp
       simp only [Option.some.injEq] at h;subst h;obtain⟨u1,h1,h2⟩:=qbd hR hx hI;obtain⟨u2,h3,h4⟩:=qbd hR hy hI;obtain⟨u3,h5,h6⟩:=qbd hR hz hI;obtain⟨u4,h7,h8⟩:=qbd hR hp hI;have hr':fn.results = #[r1,r2,r3,r4]:=by rw [← Array.toList_inj];exact hr
       refine⟨.tuple #[u1,u2,u3,u4],?_,zep h2 h4 h6 h8⟩;rw [qhi,hr'];simp [h1,h3,h5,h7]
      ·simp at h
     |cons r5 l5=>rw [hr] at h;simp [resV] at h
def q41 (P:Program) (ts:List TypeId) (x:AV) (k:AV→Prop):Prop:=
 match ts,x with
 | [t],x=>nrmK P t x k
 |ts,.tu xs=>zipK P ts xs fun l=>k (.tu l)
 | _,x=>k x
theorem zbg {P:Program} {ts:List TypeId} {x:AV} {k:AV→Prop} (h:q41 P ts x k):∃ y,Wk x y∧k y:=by
 unfold q41 at h;split at h
 ·exact qtr h
 ·obtain⟨m,h1,h2⟩:=q3j h
  exact⟨_,zcx h1.1 h1.2,h2⟩
 ·exact⟨_,wj _,h⟩
def ansW (P:Program) (fn:Func) (C:Conf) (k:AV→Prop):Prop:=
 match resV P fn.ntmps C fn.results.toList with
 |some v=>(match frz (hpF C.hp) v with
  |some x=>q41 P fn.resultTypes.toList x k
  |none=>False)
 |none=>False
theorem q1z {E:Env} {S0:List AObj} {F:Nat→Prop} {C:Conf} {ρ t:Nat→AV} {S:List AObj} {fn:Func} {k:AV→Prop} (hR:SatR S0 F C ρ t S) (h:ansW E.P fn C k):∃ y,ARes E fn ⟨t,S,[]⟩ y∧k y:=by
 unfold ansW at h;split at h
 ·rename_i v hv
  split at h
  ·rename_i x hx
   obtain⟨y,h1,h2⟩:=zbg h;exact⟨y,w9 (q23 hR hv) fun G z hz=>h1 G z (qh8 hR.hp v x hx G z hz),h2⟩
  ·exact h.elim
 ·exact h.elim
def retW (P:Program) (fn:Func) (r0:AV) (e:Exit) (C:Conf):Prop:=
 match e with
 | .normal=>ansW P fn C fun y=>Tl y r0
 | .ret=>ansW P fn C fun y=>Tl y r0
 | _=>False
theorem qc3 {α : Type}:∀ {l:List α} {i0 i:Nat} {v : α},lkS (jd i0 l) i=some v→∃ j,i=i0+j∧l[j]? = some v
 | [],_,_,_,h=>by simp [jd,lkS] at h
 |x::r,i0,i,v,h=>by
  simp only [jd,lkS] at h
  cases hb:Nat.beq i0 i with
  |true=>
   rw [hb] at h;simp only [cond_true,Option.some.injEq] at h;subst h
   exact⟨0,(Nat.eq_of_beq_eq_true hb).symm,rfl⟩
  |false=>
   rw [hb] at h;obtain⟨j,h1,h2⟩:=qc3 h;exact⟨j+1,by omega,by simpa using h2⟩
def numK {α : Type}:Nat→List α→(List (Nat×α)→Prop)→Prop
 | _,[],k=>k []
 |i,x::r,k=>numK (i+1) r fun l=>k ((i,x)::l)
theorem qoe {α : Type}:∀ (l:List α) (i:Nat) (k:List (Nat×α)→Prop),numK i l k=k (jd i l)
 | [],_,_=>rfl
 |x::r,i,k=>by rw [numK,qoe r];rfl
theorem qg2 {E:Env} {fn:Func} {R:AV→List AObj→Prop} {S0:List AObj} {F:Nat→Prop} {C:Conf} {ρ t:Nat→AV}:∀ {df:List Nat} {S:List AObj},SatR S0 F C ρ t S→(∀ d∈df,S[d]? = some .dfr∧S0.length≤d)→df.Nodup→(∀ S',SatR S0 F C ρ t S'→ARet E fn R ⟨t,S',[]⟩)→ARet E fn R ⟨t,S,df⟩
 | [],S,hR,_,_,h=>h S hR
 |d::df,S,hR,hm,hn,h=>by
  have hd:=hm d (by simp);have mf:=List.nodup_cons.1 hn;refine qmp rfl hd.1 (qg2 (hR.dead hd.1 hd.2) (fun x hx=>?_) mf.2 h);have b9:d≠x:=fun e=>mf.1 (e▸hx);simp only;rw [List.getElem?_set_ne b9];exact hm x (List.mem_cons_of_mem _ hx)
theorem zx {E:Env} {f:FuncId} {fn:Func} {c:Code} {args:List AV} {st:List AObj} {r0:AV} (vs:List SV) (hp:Pure r0) (hf:E.P.funcs[f]? = some fn) (hb:fn.body=some c) (hn:Nat.ble args.length fn.ntmps=true) (hv:∀ ρ,SV.evs ρ vs=args) (hc:okC ⟨jd 0 vs,[],0⟩=true)
  (h:∀ S0,numK 0 vs fun sl=>Sm E none fn.ntmps ⟨S0,fun _=>False,fun _=>zj,0,False⟩ c (retW E.P fn r0) ⟨sl,[],0⟩):qn E f args st fun r st'=>r=r0∧st'=st:=by
 simp only [qoe] at h;refine zb hp (qr hf hb (Nat.le_of_ble_eq_true hn) ?_)
 have d8:SatC ⟨st++[],fun _=>False,fun _=>zj,0,False⟩ ⟨jd 0 vs,[],0⟩ ⟨argT args,st++[],[]⟩:=by
  refine⟨fun _=>zj,⟨nofun,List.nodup_nil,fun _ _=>rfl,Nat.le_refl _,nofun⟩,⟨fun d v hd=>?_,⟨fun k r hk=>?_,fun k k' r r' _ hk=>?_⟩,fun k r hk=>?_,fun _ _ _=>rfl,Nat.le_refl _,fun d v hd=>?_,fun k r hk=>?_⟩⟩
  ·obtain⟨j,h1,h2⟩:=qc3 hd
   have:args[j]? = some (v.ev fun _=>zj):=by rw [← hv fun _=>zj,wi,List.getElem?_map,h2];rfl
   rw [h1,Nat.zero_add];simp only [argT,List.getD,this,Option.getD_some]
  ·simp [hpF,lkS] at hk
  ·simp [hpF,lkS] at hk
  ·simp [hpF,lkS] at hk
  ·simp only [okC,Bool.and_eq_true] at hc
   exact List.all_eq_true.1 hc.1 _ (ko hd)
  ·simp [hpF,lkS] at hk
 refine ((h (st++[])).run _ d8).mono fun e s' ⟨C',hq,fx⟩=>?_;obtain⟨t,S,df⟩:=s';obtain⟨ρ,i8,hR⟩:=fx;simp only at i8 hR;have hdm:=i8.dm;have br:=i8.nd;have hl:=hR.len
 have fin:ansW E.P fn C' (fun y=>Tl y r0)→ARet E fn (fun r st2=>r=r0∧∃ ext,st2=st++ext) ⟨t,S,df⟩:=fun h=>by
  refine qg2 hR (fun x hx=>hdm x hx) br fun S' lk=>?_;obtain⟨y,h1,h2⟩:=q1z lk h;refine qo rfl (w9 h1 h2.ok) ⟨rfl,?_⟩;have hl:=lk.len;rw [List.append_nil] at hl
  exact qk1 hl fun k hk=>by
   have:=lk.low k (by simpa using hk) (fun h=>h);rw [List.append_nil] at this;exact this
 cases e with
 |normal=>exact fin hq
 |ret=>exact fin hq
 | _=>exact hq.elim
end Go.Av
namespace Go.Av
open Go Go.RowKit
def cf {α : Type} (L:Nat→Bool):Nat→List (List (Nat×α))→List (Nat×α)→List (Nat×α)
 | _,[],base=>base
 |i,c::r,base=>cf L (i+1) r (bif L i then c++base else base)
def xb {α : Type} (L:Nat→Bool) (k:Nat):Nat→List (List (Nat×α))→Option α
 | _,[]=>none
 |i,c::r=>match xb L k (i+1) r with
  |some v=>some v
  |none=>bif L i then lkS c k else none
theorem qde {α : Type} (L:Nat→Bool) (k:Nat):∀ (i:Nat) (chs:List (List (Nat×α))) (base:List (Nat×α)),lkS (cf L i chs base) k=match xb L k i chs with|some v=>some v|none=>lkS base k
 | _,[],_=>rfl
 |i,c::r,base=>by
  simp only [cf,xb];rw [qde L k (i+1) r]
  cases xb L k (i+1) r with
  |some v=>rfl
  |none=>
   cases L i with
   |true=>simp only [cond_true];rw [qc2];cases lkS c k <;> rfl
   |false=>rfl
theorem qci {α : Type} {L L':Nat→Bool} {k:Nat}:∀ {i:Nat} {chs:List (List (Nat×α))},(∀ j c,chs[j]? = some c→lkS c k≠none→L (i+j)=L' (i+j))→xb L k i chs=xb L' k i chs
 | _,[],_=>rfl
 |i,c::r,h=>by
  simp only [xb]
  rw [qci (L:=L) (L':=L') (i:=i+1) (chs:=r) fun j c hc hl=>by
   have:=h (j+1) c (by simpa using hc) hl;rw [show i+1+j=i+(j+1) by omega]
   exact this]
  cases xb L' k (i+1) r with
  |some v=>rfl
  |none=>
   simp only
   cases hl:lkS c k with
   |none=>cases L i <;> cases L' i <;> rfl
   |some v=>
    have:=h 0 c rfl (by rw [hl];simp);rw [Nat.add_zero] at this;rw [this]
theorem qhc {α : Type} {L:Nat→Bool} {k:Nat} {v : α}:∀ {i:Nat} {chs:List (List (Nat×α))},xb L k i chs=some v→∃ j c,chs[j]? = some c∧L (i+j)=true∧lkS c k=some v
 | _,[],h=>by simp [xb] at h
 |i,c::r,h=>by
  simp only [xb] at h
  cases hr:xb L k (i+1) r with
  |some w=>
   rw [hr] at h;simp only [Option.some.injEq] at h;subst h;obtain⟨j,c',h1,h2,h3⟩:=qhc hr
   exact⟨j+1,c',by simpa using h1,by rw [show i+(j+1)=i+1+j by omega];exact h2,h3⟩
  |none=>
   rw [hr] at h;simp only at h
   cases hL:L i with
   |true=>rw [hL] at h;exact⟨0,c,rfl,hL,h⟩
   |false=>rw [hL] at h;simp at h
theorem qnd {α : Type} {L:Nat→Bool} {k:Nat}:∀ {i j0:Nat} {chs:List (List (Nat×α))} {c0:List (Nat×α)},chs[j0]? = some c0→(∀ j c,j0<j→chs[j]? = some c→L (i+j)=true→lkS c0 k≠none→lkS c k=none) →
  xb (addL L (i+j0)) k i chs=match lkS c0 k with|some v=>some v|none=>bif L (i+j0) then xb (addL L (i+j0)) k i chs else xb L k i chs
 | _,_,[],_,h,_=>by simp at h
 |i,0,c::r,c0,h,hd=>by
  simp only [List.getElem?_cons_zero,Option.some.injEq] at h;subst h
  have hr:xb (addL L (i+0)) k (i+1) r=xb L k (i+1) r:=qci fun j c _ _=>by
   unfold addL;rw [ji (by omega),Bool.false_or]
  have ha:addL L (i+0) i=true:=by simp [addL]
  cases hl:lkS c k with
  |some v=>
   have hn:xb L k (i+1) r=none:=by
    cases hq:xb L k (i+1) r with
    |none=>rfl
    |some w=>
     obtain⟨j,c',h1,h2,h3⟩:=qhc hq;have:=hd (j+1) c' (by omega) (by simpa using h1) (by rw [show i+(j+1)=i+1+j by omega];exact h2) (by rw [hl];simp);rw [this] at h3;simp at h3
   simp only [xb,hr,hn,ha,cond_true,hl]
  |none=>
   cases hLi:L (i+0) with
   |true=>rfl
   |false=>
    simp only [cond_false,xb,hr,ha,cond_true,hl];rw [Nat.add_zero] at hLi;rw [hLi]
    cases xb L k (i+1) r <;> rfl
 |i,j0+1,c::r,c0,h,hd=>by
  have ih:=qnd (L:=L) (k:=k) (i:=i+1) (j0:=j0) (chs:=r) (c0:=c0) (by simpa using h) fun j c hj hc hL hl=>hd (j+1) c (by omega) (by simpa using hc) (by rw [show i+(j+1)=i+1+j by omega];exact hL) hl;rw [show i+1+j0=i+(j0+1) by omega] at ih
  have hi:addL L (i+(j0+1)) i=L i:=by
   unfold addL;rw [ji (by omega),Bool.false_or]
  cases hl:lkS c0 k with
  |some v=>rw [hl] at ih;simp only [xb,ih]
  |none=>
   rw [hl] at ih;simp only at ih
   cases hLi:L (i+(j0+1)) with
   |true=>rfl
   |false=>
    rw [hLi] at ih;simp only [cond_false] at ih ⊢;simp only [xb,ih,hi]
theorem qj9 {α : Type}:∀ {L:Nat→Bool} {i:Nat} {chs:List (List (Nat×α))} {base:List (Nat×α)},(∀ j,j<chs.length→L (i+j)=false)→cf L i chs base=base
 | _,_,[],_,_=>rfl
 |L,i,c::r,base,h=>by
  have h0:=h 0 (by simp);rw [Nat.add_zero] at h0;simp only [cf,h0,cond_false]
  exact qj9 fun j hj=>by
   have:=h (j+1) (by simpa using hj);rw [show i+1+j=i+(j+1) by omega];exact this
structure Tr where
 rd:List Nat
 dst:Option Nat
 e:Ef
 nx:Nat
def Tr.sch (t:Tr):List (Nat×SV):=match t.dst with
 |some d=>[(d,t.e.val)]
 |none=>[]
def runT:List Tr→Conf→Conf
 | [],C=>C
 |t::r,C=>runT r (C.app t.dst t.e)
theorem zfa (C:Conf) (t:Tr):(C.app t.dst t.e).sl=t.sch++C.sl:=by
 unfold Conf.app Tr.sch
 cases t.dst <;> rfl
theorem qka:∀ (tr:List Tr) (i0 n:Nat) (C:Conf),cf (fun j=>Nat.blt j (i0+n)) i0 (tr.map Tr.sch) C.sl=(runT (tr.take n) C).sl∧cf (fun j=>Nat.blt j (i0+n)) i0 (tr.map fun t=>t.e.ch) C.hp=(runT (tr.take n) C).hp
 | [],_,n,C=>by simp [cf,runT]
 |t::r,i0,0,C=>by
  have hf:∀ {m:Nat} (j:Nat),j<m→Nat.blt (i0+j) (i0+0)=false:=fun j _=>by
   cases hb:Nat.blt (i0+j) (i0+0) with
   |false=>rfl
   |true=>have:=ku hb;omega
  exact⟨qj9 fun j hj=>hf j hj,qj9 fun j hj=>hf j hj⟩
 |t::r,i0,n+1,C=>by
  have hb:Nat.blt i0 (i0+(n+1))=true:=qav (by omega);have ih:=qka r (i0+1) n (C.app t.dst t.e);rw [show i0+1+n=i0+(n+1) by omega] at ih;simp only [List.map_cons,cf,hb,cond_true,List.take_succ_cons,runT];rw [← zfa];exact ih
def ju (ch:List (Nat×Option SR)):List Nat:=ch.map Prod.fst
def qai (a b:List Nat):Bool:=a.all fun x=> !memN b x
def dstL:Option Nat→List Nat
 |some d=>[d]
 |none=>[]
def indT (a b:Tr):Bool:=
 qai (dstL a.dst) b.rd && qai (dstL a.dst) (dstL b.dst) && qai (dstL b.dst) a.rd &&
 qai (ju a.e.ch) b.e.ks && qai (ju a.e.ch) (ju b.e.ch) && qai (ju b.e.ch) a.e.ks &&
 b.e.val.all (fun k=>Nat.blt k a.nx ||Nat.ble a.e.nx k) && b.e.ch.all (fun q=>(Nat.blt q.1 a.nx ||Nat.ble a.e.nx q.1) && match q.2 with
  |some r=>r.all fun k=>Nat.blt k a.nx ||Nat.ble a.e.nx k
  |none=>true)
def qhf (o:Oper) (acc:List Nat):Nat:=(qcl o).foldl (fun m d=>(m ||| 2 ^ d) |||acc.getD d 0) 0
def ancs:List Oper→List Nat→List Nat
 | [],acc=>acc
 |o::r,acc=>ancs r (acc++[qhf o acc])
inductive AncR (l:List Oper):Nat→Nat→Prop
 |dep {i j:Nat} {o:Oper} (ho:l[j]? = some o) (hi:i∈qcl o):AncR l i j
 |step {i d j:Nat} {o:Oper} (ho:l[j]? = some o) (hd:d∈qcl o) (h:AncR l i d):AncR l i j
theorem q7u {l:List Oper} {acc:List Nat} (hacc:∀ j i,(acc.getD j 0).testBit i=true→AncR l i j) {o:Oper} {j:Nat} (ho:l[j]? = some o) {i:Nat} (h:(qhf o acc).testBit i=true):AncR l i j:=by
 unfold qhf at h
 have key:∀ (ds:List Nat) (m:Nat),(∀ d∈ds,d∈qcl o)→(m.testBit i=true→AncR l i j)→(ds.foldl (fun m d=>(m ||| 2 ^ d) |||acc.getD d 0) m).testBit i=true→AncR l i j:=by
  intro ds
  induction ds with
  |nil=>exact fun m _ hm h=>hm h
  |cons d r ih=>
   intro m hd hm h;refine ih ((m ||| 2 ^ d) |||acc.getD d 0) (fun d' bw=>hd d' (by simp [bw])) (fun hb=>?_) h;rw [Nat.testBit_or,Nat.testBit_or,Bool.or_eq_true,Bool.or_eq_true,Nat.testBit_two_pow] at hb;rcases hb with (hb|hb)|hb
   ·exact hm hb
   ·have:d=i:=by simpa using hb
    subst this;exact .dep ho (hd d (by simp))
   ·exact .step ho (hd d (by simp)) (hacc d i hb)
 exact key (qcl o) 0 (fun d hd=>hd) (fun h=>by simp at h) h
theorem qw7 {l:List Oper}:∀ (r:List Oper) (acc:List Nat),(∀ k o,r[k]? = some o→l[acc.length+k]? = some o)→(∀ j i,(acc.getD j 0).testBit i=true→AncR l i j)→∀ j i,((ancs r acc).getD j 0).testBit i=true→AncR l i j
 | [],acc,_,h=>h
 |o::r,acc,hr,h=>by
  refine qw7 r (acc++[qhf o acc]) (fun k o' hk=>?_) (fun j i hb=>?_)
  ·have:=hr (k+1) o' (by simpa using hk)
   rw [List.length_append];simp only [List.length_cons,List.length_nil];rw [show acc.length+(0+1)+k=acc.length+(k+1) by omega];exact this
  ·by_cases hj:j<acc.length
   ·have e:(acc++[qhf o acc]).getD j 0=acc.getD j 0:=by simp [List.getD,List.getElem?_append_left hj]
    rw [e] at hb;exact h j i hb
   ·by_cases hj':j=acc.length
    ·subst hj'
     have e:(acc++[qhf o acc]).getD acc.length 0=qhf o acc:=by simp [List.getD]
     rw [e] at hb;exact q7u h (by have:=hr 0 o rfl;simpa using this) hb
    ·have e:(acc++[qhf o acc]).getD j 0=0:=by simp [List.getD,List.getElem?_eq_none (show (acc++[qhf o acc]).length≤j by simp;omega)]
     rw [e] at hb;simp at hb
def chkR:Nat→Tr→Nat→List Tr→List Nat→Bool
 | _,_,_,[],_=>true
 |i,a,j,b::r,m=>((m.getD j 0).testBit i ||indT a b) && chkR i a (j+1) r m
def chkT:Nat→List Tr→List Nat→Bool
 | _,[],_=>true
 |i,a::r,m=>chkR i a (i+1) r m && chkT (i+1) r m
theorem qxu:∀ {i:Nat} {a:Tr} {j0:Nat} {l:List Tr} {m:List Nat},chkR i a j0 l m=true→∀ j b,l[j]? = some b→(m.getD (j0+j) 0).testBit i=true∨indT a b=true
 | _,_,_,[],_,_,j,b,h=>by simp at h
 |i,a,j0,b::r,m,h,j,b',hb=>by
  simp only [chkR,Bool.and_eq_true,Bool.or_eq_true] at h
  cases j with
  |zero=>
   simp only [List.getElem?_cons_zero,Option.some.injEq] at hb;subst hb
   exact h.1
  |succ j=>
   have:=qxu h.2 j b' (by simpa using hb);rw [show j0+(j+1)=j0+1+j by omega];exact this
theorem qxv:∀ {i0:Nat} {l:List Tr} {m:List Nat},chkT i0 l m=true→∀ i j a b,i<j→l[i]? = some a→l[j]? = some b→(m.getD (i0+j) 0).testBit (i0+i)=true∨indT a b=true
 | _,[],_,_,_,_,_,_,_,h,_=>by simp at h
 |i0,a::r,m,h,i,j,a',b',rv,ha,hb=>by
  simp only [chkT,Bool.and_eq_true] at h
  cases i with
  |zero=>
   simp only [List.getElem?_cons_zero,Option.some.injEq] at ha;subst ha;obtain⟨j,rfl⟩:∃ j',j=j'+1:=⟨j - 1,by omega⟩;have:=qxu h.1 j b' (by simpa using hb);rw [show i0+(j+1)=i0+1+j by omega,Nat.add_zero]
   exact this
  |succ i=>
   obtain⟨j,rfl⟩:∃ j',j=j'+1:=⟨j - 1,by omega⟩;have:=qxv h.2 i j a' b' (by omega) (by simpa using ha) (by simpa using hb);rw [show i0+(j+1)=i0+1+j by omega,show i0+(i+1)=i0+1+i by omega];exact this
theorem qea {a b:List Nat} (h:qai a b=true) {x:Nat} (hx:memN a x=true):memN b x=false:=by
 unfold memN at hx;obtain⟨y,hy,e⟩:=List.any_eq_true.1 hx;have:=Nat.eq_of_beq_eq_true e;subst this
 simpa using List.all_eq_true.1 h _ hy
theorem qnh {ch:List (Nat×Option SR)} {k:Nat} (h:lkS ch k≠none):memN (ju ch) k=true:=by
 cases hl:lkS ch k with
 |none=>exact absurd hl h
 |some v=>exact List.any_eq_true.2 ⟨k,List.mem_map.2 ⟨_,ko hl,rfl⟩,by simp⟩
theorem qqd {t:Tr} {d:Nat} (h:lkS t.sch d≠none):memN (dstL t.dst) d=true:=by
 unfold Tr.sch at h
 cases ht:t.dst with
 |none=>rw [ht] at h;simp [lkS] at h
 |some x=>
  rw [ht] at h;simp only [lkS] at h;by_cases e:x=d
  ·subst e;simp [dstL,memN]
  ·rw [ji e] at h;simp at h
def rs (rd:List Nat) (sl:List (Nat×SV)):List (Nat×SV):=rd.filterMap fun d=>match lkS sl d with
 |some v=>some (d,v)
 |none=>none
theorem zgh {rd:List Nat} {sl:List (Nat×SV)} {d:Nat} {v:SV} (h:lkS (rs rd sl) d=some v):memN rd d=true∧lkS sl d=some v:=by
 have:=ko h;unfold rs at this;obtain⟨x,hx,he⟩:=List.mem_filterMap.1 this;split at he
 ·rename_i w hw
  simp only [Option.some.injEq,Prod.mk.injEq] at he;obtain⟨rfl,rfl⟩:=he;exact⟨List.any_eq_true.2 ⟨x,hx,by simp⟩,hw⟩
 ·simp at he
theorem qle {l:List Nat} {x:Nat} (h:memN l x=true):x∈l:=by
 obtain⟨y,hy,e⟩:=List.any_eq_true.1 h;rw [Nat.eq_of_beq_eq_true e];exact hy
theorem SatR.congr {S0:List AObj} {F:Nat→Prop} {C C':Conf} {ρ t:Nat→AV} {S:List AObj} (h:SatR S0 F C ρ t S) (h1:∀ d,lkS C'.sl d=lkS C.sl d) (h2:hpF C'.hp=hpF C.hp) (h3:C.nx≤C'.nx):SatR S0 F C' ρ t S:=
 ⟨fun d v hd=>h.sl d v (by rw [← h1];exact hd),by rw [h2];exact h.hp,by rw [h2];exact h.own,h.low,h.len,fun d v hd=>all_mono (fun k hk=>qav (by have:=ku hk;omega)) v (h.wsl d v (by rw [← h1];exact hd)),fun k r hk=>by
  rw [h2] at hk;obtain⟨g1,g2⟩:=h.whp k r hk
  exact⟨by omega,SR.all_mono (fun k hk=>qav (by have:=ku hk;omega)) r g2⟩⟩
structure q3m (E:Env) (N:Nat) (l:List Oper) (C0:Conf) (tr:List Tr):Prop where
 len:tr.length=l.length
 loc:∀ i o t,l[i]? = some o→tr[i]? = some t→Loc E N l.toArray o t.nx (rs t.rd (runT (tr.take i) C0).sl) (hpF (runT (tr.take i) C0).hp) t.e∧t.e.wf t.nx=true∧t.nx=(runT (tr.take i) C0).nx∧t.dst=o.dst
theorem qkk {E:Env} {N:Nat} {l:List Oper} {C0:Conf} {tr:List Tr} (h:q3m E N l C0 tr):∀ {i j:Nat},i≤j→j≤tr.length→(runT (tr.take i) C0).nx≤(runT (tr.take j) C0).nx:=by
 have step:∀ (r:List Tr) (C:Conf) (t:Tr),(runT (r++[t]) C)=(runT r C).app t.dst t.e:=by
  intro r
  induction r with
  |nil=>exact fun C t=>rfl
  |cons a r ih=>exact fun C t=>ih _ t
 intro i j rv
 induction rv with
 |refl=>exact fun _=>Nat.le_refl _
 |step hm ih=>
  rename_i m;intro hj;refine Nat.le_trans (ih (by omega)) ?_;have ht:tr[m]? = some (tr[m]'(by omega)):=List.getElem?_eq_getElem (by omega);have ho:l[m]? = some (l[m]'(by have:=h.len;omega)):=List.getElem?_eq_getElem _;obtain⟨_,h2,h3,_⟩:=h.loc m _ _ ho ht;rw [List.take_succ_eq_append_getElem (by omega),step];have:=(qfr h2).1;rw [h3] at this;exact this
theorem q8u {tr:List Tr} {i:Nat} {t:Tr} (ht:tr[i]? = some t) (C0:Conf):runT (tr.take (i+1)) C0=(runT (tr.take i) C0).app t.dst t.e:=by
 have step:∀ (r:List Tr) (C:Conf) (t:Tr),(runT (r++[t]) C)=(runT r C).app t.dst t.e:=by
  intro r
  induction r with
  |nil=>exact fun C t=>rfl
  |cons a r ih=>exact fun C t=>ih _ t
 obtain⟨hi,e⟩:=List.getElem?_eq_some_iff.1 ht;rw [List.take_succ_eq_append_getElem hi,step,e]
def qn5 (l:List Oper) (L:Nat→Bool):Prop:=∀ j o,L j=true→l[j]? = some o→∀ d∈qcl o,L d=true
theorem qn5.anc {l:List Oper} {L:Nat→Bool} (h:qn5 l L) {i j:Nat} (ha:AncR l i j):L j=true→L i=true:=by
 induction ha with
 |dep ho hi=>exact fun hj=>h _ _ hj ho _ hi
 |step ho hd _ ih=>exact fun hj=>ih (h _ _ hj ho _ hd)
theorem q6c {E:Env} {rd:Option Nat} {N:Nat} {id:Nat} {l:List Oper} {B:Bs} {C0:Conf} {tr:List Tr} {Q:Exit→AS→Prop} {s:AS} (hm:E.P.follows .mixedOrders=true) (br:l.toArray.all qeg=true) (hd:qf9 0 l=true)
  (hw:q3m E N l C0 tr) (hc:chkT 0 tr (ancs l [])=true) (hs:SatC B C0 s) (hq:∀ s',SatC B (runT tr C0) s'→Q .normal s'):AWp E rd N (.region id l.toArray true) Q s:=by
 have d5:=hw.len
 let NX:=(runT tr C0).nx
 let SC:=tr.map Tr.sch
 let HC:=tr.map fun t:Tr=>t.e.ch
 have hSC:∀ {j:Nat} {c:List (Nat×SV)},SC[j]? = some c→∃ t,tr[j]? = some t∧c=t.sch:=fun {j c} h=>by
  simp only [SC,List.getElem?_map] at h
  cases ht:tr[j]? with
  |none=>rw [ht] at h;simp at h
  |some t=>rw [ht] at h;simp at h;exact⟨t,rfl,h.symm⟩
 have hHC:∀ {j:Nat} {c:List (Nat×Option SR)},HC[j]? = some c→∃ t,tr[j]? = some t∧c=t.e.ch:=fun {j c} h=>by
  simp only [HC,List.getElem?_map] at h
  cases ht:tr[j]? with
  |none=>rw [ht] at h;simp at h
  |some t=>rw [ht] at h;simp at h;exact⟨t,rfl,h.symm⟩
 have hop:∀ {j:Nat} {t:Tr},tr[j]? = some t→∃ o,l[j]? = some o:=fun {j t} h=>⟨_,List.getElem?_eq_getElem (by have:=lt_of_getElem? h;omega)⟩;have bt:tr.take tr.length=tr:=List.take_length
 have dk:∀ {j:Nat} {t:Tr},tr[j]? = some t→t.nx=(runT (tr.take j) C0).nx∧t.e.nx=(runT (tr.take (j+1)) C0).nx:=fun {j t} h=>by
  obtain⟨o,ho⟩:=hop h;refine⟨(hw.loc j o t ho h).2.2.1,?_⟩;rw [q8u h];rfl
 have u6:∀ {i j:Nat} {a b:Tr},i<j→tr[i]? = some a→tr[j]? = some b→a.e.nx≤b.nx:=fun {i j a b} rv ha hb=>by
  rw [(dk ha).2,(dk hb).1];exact qkk hw (by omega) (by have:=lt_of_getElem? hb;omega)
 have hNX:∀ {j:Nat} {t:Tr},tr[j]? = some t→t.e.nx≤NX:=fun {j t} h=>by
  rw [(dk h).2];have:=qkk hw (i:=j+1) (j:=tr.length) (by have:=lt_of_getElem? h;omega) (Nat.le_refl _);rw [bt] at this;exact this
 have h0nx:∀ {j:Nat} {t:Tr},tr[j]? = some t→C0.nx≤t.nx:=fun {j t} h=>by
  rw [(dk h).1];exact qkk hw (i:=0) (Nat.zero_le j) (by have:=lt_of_getElem? h;omega)
 have hanc:∀ j i,((ancs l []).getD j 0).testBit i=true→AncR l i j:=qw7 l [] (fun k o hk=>by simpa using hk) (fun j i h=>by simp [List.getD] at h)
 have pair:∀ {i j:Nat} {a b:Tr},i<j→tr[i]? = some a→tr[j]? = some b→AncR l i j∨indT a b=true:=fun {i j a b} rv ha hb=>by
  have:=qxv hc i j a b rv ha hb;rw [Nat.zero_add,Nat.zero_add] at this;exact this.imp_left fun h=>hanc j i h
 have hb0:B.n0≤C0.nx:=by obtain⟨_,h,_⟩:=hs;exact h.le
 refine q6a hm br hd (fun L s=>qn5 l L∧SatC B ⟨cf L 0 SC C0.sl,cf L 0 HC C0.hp,NX⟩ s) ⟨fun j o h=>by simp at h,?_⟩ ?_ ?_
 ·obtain⟨ρ,i8,hR⟩:=hs
  have hC0:C0.nx≤NX:=by
   have:=qkk hw (i:=0) (j:=tr.length) (Nat.zero_le _) (Nat.le_refl _);rw [bt] at this;exact this
  refine⟨ρ,i8.nx (Nat.le_trans i8.le hC0),hR.congr (fun d=>?_) ?_ ?_⟩
  ·rw [qj9 fun _ _=>rfl]
  ·show hpF (cf (fun _=>false) 0 HC C0.hp)=hpF C0.hp
   rw [qj9 fun _ _=>rfl]
  ·have:=qkk hw (i:=0) (j:=tr.length) (Nat.zero_le _) (Nat.le_refl _)
   rw [bt] at this;exact this
 ·rintro L s' s6 ⟨_,ρ,i8,hR⟩
  refine hq s' ⟨ρ,i8.nx i8.le,hR.congr (fun d=>?_) ?_ (Nat.le_refl _)⟩
  ·have h1:=(qka tr 0 tr.length C0).1
   rw [bt] at h1;rw [← h1];simp only [qde]
   rw [qci (L:=fun j=>Nat.blt j (0+tr.length)) (L':=L) fun j c hc _=>by
    obtain⟨t,ht,_⟩:=hSC hc;have hj:=lt_of_getElem? ht;rw [s6 (0+j) (by omega)]
    exact qav (by omega)]
  ·have h1:=(qka tr 0 tr.length C0).2
   rw [bt] at h1;rw [← h1];funext k;unfold hpF;simp only [qde]
   rw [qci (L:=fun j=>Nat.blt j (0+tr.length)) (L':=L) fun j c hc _=>by
    obtain⟨t,ht,_⟩:=hHC hc;have hj:=lt_of_getElem? ht;rw [s6 (0+j) (by omega)]
    exact qav (by omega)]
 ·-- the steps
  suffices H:∀ (i:Nat) (o:Oper),l[i]? = some o→∀ L s,L i=false→(∀ j,(qcl o).contains j=true→L j=true)→(qn5 l L∧SatC B ⟨cf L 0 SC C0.sl,cf L 0 HC C0.hp,NX⟩ s) →
    AOps E none N l.toArray [o] (fun s=>qn5 l (addL L i)∧SatC B ⟨cf (addL L i) 0 SC C0.sl,cf (addL L i) 0 HC C0.hp,NX⟩ s) s by
   have gen:∀ (r:List Oper) (i0:Nat),(∀ k o,r[k]? = some o→l[i0+k]? = some o)→qmm E N l.toArray (fun L s=>qn5 l L∧SatC B ⟨cf L 0 SC C0.sl,cf L 0 HC C0.hp,NX⟩ s) i0 r:=by
    intro r
    induction r with
    |nil=>exact fun _ _=>trivial
    |cons o r ih=>
     intro i0 hr;exact⟨H i0 o (by have:=hr 0 o rfl;simpa using this),ih (i0+1) fun k o' hk=>by rw [show i0+1+k=i0+(k+1) by omega];exact hr (k+1) o' (by simpa using hk)⟩
   exact gen l 0 fun k o hk=>by simpa using hk
  rintro i o ho L ⟨t0,S,df⟩ hLi hdeps ⟨hdown,ρ,i8,hR⟩;simp only at i8 hR;have rx:=lt_of_getElem? ho;obtain⟨t,ht⟩:∃ t,tr[i]? = some t:=⟨_,List.getElem?_eq_getElem (by omega)⟩;obtain⟨hL,hwf,hnxi,hdst⟩:=hw.loc i o t ho ht;obtain⟨w1,w2,w3⟩:=qfr hwf
  -- who has done what, told by the text
  have anc_in:∀ {j:Nat},AncR l j i→L j=true:=fun {j} h=>by
   cases h with
   |dep d7 hi=>
    rw [ho] at d7;simp only [Option.some.injEq] at d7;subst d7
    exact hdeps j (by simpa using hi)
   |step d7 bw h'=>
    rw [ho] at d7;simp only [Option.some.injEq] at d7;subst d7;exact hdown.anc h' (hdeps _ (by simpa using bw))
  have not_after:∀ {j:Nat},AncR l i j→L j=false:=fun {j} h=>by
   cases hj:L j with
   |false=>rfl
   |true=>rw [hdown.anc h hj] at hLi;simp at hLi
  have agree:∀ {j:Nat} {b:Tr},tr[j]? = some b→(∀ (cd:j<i),indT b t=true→False)→(∀ (rv:i<j),indT t b=true→False)→L j=Nat.blt j i:=fun {j b} hb h1 h2=>by
   rcases Nat.lt_trichotomy j i with cd|cd|cd
   ·rw [qav cd]
    rcases pair cd hb ht with h|h
    ·exact anc_in h
    ·exact (h1 cd h).elim
   ·subst cd
    rw [hLi]
    cases hbb:Nat.blt j j with
    |false=>rfl
    |true=>have:=ku hbb;omega
   ·have:Nat.blt j i=false:=by
     cases hbb:Nat.blt j i with
     |false=>rfl
     |true=>have:=ku hbb;omega
    rw [this];rcases pair cd ht hb with h|h
    ·exact not_after h
    ·exact (h2 cd h).elim
  have hslA:∀ d,memN t.rd d=true→lkS (cf L 0 SC C0.sl) d=lkS (runT (tr.take i) C0).sl d:=fun d hd=>by
   have h1:=(qka tr 0 i C0).1;rw [← h1];simp only [qde]
   rw [qci (L:=L) (L':=fun j=>Nat.blt j (0+i)) fun j c hc hl=>by
    obtain⟨b,hb,rfl⟩:=hSC hc;have hdm:=qqd hl;rw [Nat.zero_add,Nat.zero_add];refine agree hb (fun cd h=>?_) (fun rv h=>?_)
    ·simp only [indT,Bool.and_eq_true] at h
     have:=qea h.1.1.1.1.1.1.1 hdm;rw [hd] at this;simp at this
    ·simp only [indT,Bool.and_eq_true] at h
     have:=qea h.1.1.1.1.1.2 hdm;rw [hd] at this
     simp at this]
  have pb:resF t.e.ks (hpF (runT (tr.take i) C0).hp)=resF t.e.ks (hpF (cf L 0 HC C0.hp)):=by
   funext k;unfold resF
   cases hk:memN t.e.ks k with
   |false=>rfl
   |true=>
    simp only [cond_true];have h1:=(qka tr 0 i C0).2;rw [← h1];unfold hpF;simp only [qde]
    rw [qci (L:=fun j=>Nat.blt j (0+i)) (L':=L) fun j c hc hl=>by
     obtain⟨b,hb,rfl⟩:=hHC hc;have hdm:=qnh hl;rw [Nat.zero_add,Nat.zero_add];refine (agree hb (fun cd h=>?_) (fun rv h=>?_)).symm
     ·simp only [indT,Bool.and_eq_true] at h
      have:=qea h.1.1.1.1.2 hdm;rw [hk] at this;simp at this
     ·simp only [indT,Bool.and_eq_true] at h
      have:=qea h.1.1.2 hdm;rw [hk] at this
      simp at this]
  refine hL _ none _ [] ρ t0 S (fun d v bw=>?_) (by rw [pb];exact hR.hp.res _) fun ρ' S' hp=>qf ⟨fun j o' hj d7 d bw=>?_,ρ',?_,?_⟩
  ·obtain⟨g1,g2⟩:=zgh bw
   exact hR.sl d v (by rw [hslA d g1];exact g2)
  ·unfold addL at hj ⊢
   rcases Bool.or_eq_true_iff.1 hj with hj|hj
   ·have:=Nat.eq_of_beq_eq_true hj
    subst this;rw [ho] at d7;simp only [Option.some.injEq] at d7;subst d7;rw [hdeps d (by simpa using bw),Bool.or_true]
   ·rw [hdown j o' hj d7 d bw,Bool.or_true]
  ·have hp2:qgx ρ S t.nx (hpF (cf L 0 HC C0.hp)) t.e ρ' S':=⟨hp.old,by rw [← pb];exact hp.sat,hp.len,by rw [← pb];exact hp.fr,by rw [← pb];exact hp.loc⟩
   have:=i8.stepG (C':=⟨cf (addL L i) 0 SC C0.sl,cf (addL L i) 0 HC C0.hp,NX⟩) hR.hp hp2 (by have:=hb0;have:=h0nx ht;omega) i8.le
   cases o.dst <;> exact this
  ·have hp2:qgx ρ S t.nx (hpF (cf L 0 HC C0.hp)) t.e ρ' S':=⟨hp.old,by rw [← pb];exact hp.sat,hp.len,by rw [← pb];exact hp.fr,by rw [← pb];exact hp.loc⟩
   have old_lt:∀ k,Nat.blt k C0.nx=true→(Nat.blt k t.nx ||Nat.ble t.e.nx k)=true:=fun k hk=>by
    have:=h0nx ht;rw [qav (by have:=ku hk;omega),Bool.true_or]
   have ear_lt:∀ {j:Nat} {b:Tr},j<i→tr[j]? = some b→∀ k,Nat.blt k b.e.nx=true→(Nat.blt k t.nx ||Nat.ble t.e.nx k)=true:=fun {j b} cd hb k hk=>by
    have:=u6 cd hb ht;rw [qav (by have:=ku hk;omega),Bool.true_or]
   have lat:∀ {j:Nat} {b:Tr},tr[j]? = some b→L j=true→¬ j<i→indT t b=true∧i<j:=fun {j b} hb mt cd=>by
    have rv:i<j:=by
     rcases Nat.lt_trichotomy i j with h|h|h
     ·exact h
     ·subst h;rw [hLi] at mt;simp at mt
     ·omega
    rcases pair rv ht hb with h|h
    ·rw [not_after h] at mt;simp at mt
    ·exact⟨h,rv⟩
   have d8:=hR.stepG (d:=o.dst) (nx:=t.nx) (NX:=NX) (Nat.le_refl _) (all_mono (fun k hk=>qav (by have:=ku hk;have:=hNX ht;omega)) _ w2) (fun q hq'=>⟨by have:=(w3 q hq').1;have:=hNX ht;omega,fun r hr=>SR.all_mono (fun k hk=>qav (by have:=ku hk;have:=hNX ht;omega)) r ((w3 q hq').2.2 r hr)⟩) (fun d v bw=>?_) (fun k r hk=>?_) hp2
   ·refine SatR.congr (S0:=B.S0) (F:=B.F) (C:=⟨match o.dst with|some d=>(d,t.e.val)::cf L 0 SC C0.sl|none=>cf L 0 SC C0.sl,t.e.ch++cf L 0 HC C0.hp,NX⟩) ?_ (fun d=>?_) ?_ (Nat.le_refl _)
    ·cases hod:o.dst with
     |none=>rw [hod] at d8;exact d8
     |some x=>rw [hod] at d8;exact d8
    ·have hSi:SC[i]? = some t.sch:=by simp only [SC,List.getElem?_map,ht];rfl
     have dq:=qnd (L:=L) (k:=d) (i:=0) (j0:=i) hSi fun j c rv hc mt hl=>by
      obtain⟨b,hb,rfl⟩:=hSC hc;rw [Nat.zero_add] at mt;have h:=(lat hb mt (by omega)).1;simp only [indT,Bool.and_eq_true] at h;have h2:=qea h.1.1.1.1.1.1.2 (qqd hl)
      cases hq':lkS b.sch d with
      |none=>rfl
      |some w=>
       have:=qqd (t:=b) (d:=d) (by rw [hq'];simp);rw [h2] at this;simp at this
     rw [Nat.zero_add,hLi] at dq;simp only [cond_false] at dq
     have e:lkS (match o.dst with|some d=>(d,t.e.val)::cf L 0 SC C0.sl|none=>cf L 0 SC C0.sl) d=lkS (t.sch++cf L 0 SC C0.sl) d:=by
      unfold Tr.sch;rw [hdst]
      cases o.dst <;> rfl
     rw [e,qc2];simp only [qde];rw [dq]
     cases lkS t.sch d <;> rfl
    ·rw [q2i]
     funext k;have hHi:HC[i]? = some t.e.ch:=by simp only [HC,List.getElem?_map,ht];rfl
     have dq:=qnd (L:=L) (k:=k) (i:=0) (j0:=i) hHi fun j c rv hc mt hl=>by
      obtain⟨b,hb,rfl⟩:=hHC hc;rw [Nat.zero_add] at mt;have h:=(lat hb mt (by omega)).1;simp only [indT,Bool.and_eq_true] at h;have h2:=qea h.1.1.1.2 (qnh hl)
      cases hq':lkS b.e.ch k with
      |none=>rfl
      |some w=>
       have:=qnh (ch:=b.e.ch) (k:=k) (by rw [hq'];simp);rw [h2] at this;simp at this
     rw [Nat.zero_add,hLi] at dq;simp only [cond_false] at dq;unfold chF hpF;simp only [qde];rw [dq]
     cases lkS t.e.ch k <;> rfl
   ·simp only [qde] at bw
    cases o0:xb L d 0 SC with
    |none=>
     rw [o0] at bw;simp only at bw;obtain⟨ρ0,_,hR0⟩:=hs
     exact all_mono old_lt v (hR0.wsl d v bw)
    |some u=>
     rw [o0] at bw;simp only [Option.some.injEq] at bw;subst bw;obtain⟨j,c,mz,mt,hl⟩:=qhc o0;obtain⟨b,hb,rfl⟩:=hSC mz;rw [Nat.zero_add] at mt;obtain⟨ob,cw⟩:=hop hb
     have hu:u=b.e.val:=by
      unfold Tr.sch at hl
      cases hbd:b.dst with
      |none=>rw [hbd] at hl;simp [lkS] at hl
      |some x=>
       rw [hbd] at hl;simp only [lkS] at hl
       cases hbx:Nat.beq x d with
       |true=>rw [hbx] at hl;simp only [cond_true,Option.some.injEq] at hl;exact hl.symm
       |false=>rw [hbx] at hl;simp at hl
     subst hu;by_cases cd:j<i
     ·exact all_mono (ear_lt cd hb) _ (qfr (hw.loc j ob b cw hb).2.1).2.1
     ·have h:=(lat hb mt cd).1
      simp only [indT,Bool.and_eq_true] at h;exact h.1.2
   ·have s8:=wy hk
    simp only [qde] at s8
    cases o0:xb L k 0 HC with
    |none=>
     rw [o0] at s8;simp only at s8;obtain⟨ρ0,_,hR0⟩:=hs;obtain⟨g1,g2⟩:=hR0.whp k r (by unfold hpF;rw [s8])
     exact⟨.inl (by have:=h0nx ht;omega),SR.all_mono old_lt r g2⟩
    |some u=>
     rw [o0] at s8;simp only [Option.some.injEq] at s8;subst s8;obtain⟨j,c,mz,mt,hl⟩:=qhc o0;obtain⟨b,hb,rfl⟩:=hHC mz;rw [Nat.zero_add] at mt;obtain⟨ob,cw⟩:=hop hb;obtain⟨g1,_,g3⟩:=(qfr (hw.loc j ob b cw hb).2.1).2.2 _ (ko hl);by_cases cd:j<i
     ·exact⟨.inl (by have:=u6 cd hb ht;simp only at g1;omega),SR.all_mono (ear_lt cd hb) r (g3 r rfl)⟩
     ·have h:=(lat hb mt cd).1
      simp only [indT,Bool.and_eq_true] at h;have h2:=List.all_eq_true.1 h.2 _ (ko hl);simp only [Bool.and_eq_true,Bool.or_eq_true] at h2;exact⟨h2.1.imp ku Nat.le_of_ble_eq_true,h2.2⟩
def opTm:Operand→Option Nat
 | .tmp i=>some i
 | _=>none
def rdOf (l:List Oper) (o:Oper):List Nat:=o.op.operands.toList.filterMap opTm++match o.guard with
 |some (j,_)=>dstL (qwt l j)
 |none=>[]
def wpDr (E:Env) (N:Nat) (l:List Oper) (bxs:List Nat):Nat→List Oper→List Tr→(List Tr→Conf→Prop)→Conf→Prop
 | _,[],tr,K,C=>K tr C
 |i,o::r,tr,K,⟨sl,hp,nx⟩=>opG E N l bxs nx (rs (rdOf l o) sl) (hpF hp) (gdW (isGd i l) (fcE fun e=>qwu sl hp nx o.dst (wpDr E N l bxs (i+1) r (tr++[⟨rdOf l o,o.dst,e,nx⟩]) K) e)) o
theorem zb3 (r:List Tr) (t:Tr):∀ C,runT (r++[t]) C=(runT r C).app t.dst t.e:=by
 induction r with
 |nil=>exact fun C=>rfl
 |cons a r ih=>exact fun C=>ih _
theorem q3h {E:Env} {N:Nat} {l:List Oper} {bxs:List Nat} {C0:Conf} {K:List Tr→Conf→Prop}:∀ {r:List Oper} {i:Nat} {tr:List Tr} {C:Conf},(∀ k,r[k]? = l[i+k]?)→tr.length=i→i+r.length=l.length→C=runT tr C0 →
  (∀ j o t,l[j]? = some o→tr[j]? = some t→Loc E N l.toArray o t.nx (rs t.rd (runT (tr.take j) C0).sl) (hpF (runT (tr.take j) C0).hp) t.e∧t.e.wf t.nx=true∧t.nx=(runT (tr.take j) C0).nx∧t.dst=o.dst) →
  wpDr E N l bxs i r tr K C→∃ tr',q3m E N l C0 tr'∧K tr' (runT tr' C0)
 | [],i,tr,C,hr,hl,hn,hC,hw,h=>⟨tr,⟨by simpa [hl] using hn,hw⟩,by rw [← hC];exact h⟩
 |o::r,i,tr,⟨sl,hp,nx⟩,hr,hl,hn,hC,hw,h=>by
  obtain⟨e,hL,h⟩:=q75 h;obtain⟨e,hL,h⟩:=q7b hL h;rw [q66] at h;obtain⟨hwf,h⟩:=qy2 h
  ·refine q3h (r:=r) (i:=i+1) (tr:=tr++[⟨rdOf l o,o.dst,e,nx⟩]) (fun k=>?_) (by simp [hl]) (by simp at hn;omega) (by rw [zb3,← hC]) (fun j o' t ho ht=>?_) h
   ·have:=hr (k+1)
    rw [show i+1+k=i+(k+1) by omega,← this];rfl
   ·by_cases hj:j<tr.length
    ·rw [List.getElem?_append_left hj] at ht
     rw [List.take_append_of_le_length (by omega)];exact hw j o' t ho ht
    ·have cd:j=tr.length:=by
      have:=lt_of_getElem? ht;simp at this;omega
     subst cd;simp only [List.getElem?_concat_length,Option.some.injEq] at ht;subst ht;have ft:=hr 0;rw [← hl,Nat.add_zero,ho] at ft;simp only [List.getElem?_cons_zero,Option.some.injEq] at ft;subst ft;rw [List.take_left,← hC];exact⟨hL,hwf,rfl,rfl⟩
def drB (E:Env) (l:List Oper) (tr:List Tr):Bool:=E.P.follows .mixedOrders && l.toArray.all qeg && qf9 0 l && chkT 0 tr (ancs l [])
structure DrOk (E:Env) (l:List Oper) (tr:List Tr):Prop where
 ok:drB E l tr=true
theorem qb {E:Env} {rd:Option Nat} {N:Nat} {B:Bs} {Q:Exit→Conf→Prop} {C:Conf} {id:Nat} {ops:Array Oper} (bxs:List Nat)
  (h:wpDr E N ops.toList bxs 0 ops.toList [] (fun tr C'=>DrOk E ops.toList tr∧Q .normal C') C):Sm E rd N B (.region id ops true) Q C:=⟨fun s hs=>by
 obtain⟨tr,hw,hb,hq⟩:=q3h (C0:=C) (l:=ops.toList) (i:=0) (tr:=[]) (fun k=>by rw [Nat.zero_add]) rfl (by simp) rfl (fun j o t _ ht=>by simp at ht) h;have hb:=hb.ok;simp only [drB,Bool.and_eq_true] at hb;have e:ops=ops.toList.toArray:=by simp
 rw [e]
 exact q6c hb.1.1.1 hb.1.1.2 hb.1.2 hw hb.2 hs fun s' fx=>⟨_,hq,fx⟩⟩
theorem cSd {P:Prop} (h:P:=by first|exact rfl|exact trivial|exact fun _=>rfl|exact ze4 _|exact DrOk.mk (by kernel_rfl)|exact qbu fun _=>rfl|omega|(simp only [List.length_map,List.length_append,List.length_cons,List.length_nil,List.length_take,List.length_drop];omega)|exact zgk):P:=h
theorem exr {α : Type} {A K : α→Prop} {a : α} (k:K a) (h:A a:=by exact rfl):∃ x,A x∧K x:=⟨a,h,k⟩
theorem cpe {E:Env} {H:Nat→Option SR} {nx:Nat} {f:FuncId} {vs:List SV} {args:List AV} {r0:AV} {k:Ef→Prop} (hc:∀ S,qn E f args S fun r S'=>r=r0∧S'=S) (hk:k ⟨nf r0,SV.kss vs,[],nx⟩) (ha:qwr E.P f (frzs (resF (SV.kss vs) H) vs)=some args:=by exact rfl):∃ e,j8 E f vs nx H e∧k e:=⟨_,zdi hc ha,hk⟩
end Go.Av
namespace Go.Proofs.YtihlchbgjdkmpaaGreatDoor
open Go Go.Av Go.RowKit Go.Proofs Go.Pl
def y5 (n0:Nat) (ks:List Nat) (sl:List (Nat×SV)) (hp:List (Nat×Option SR)) (nx:Nat):Bool:=
 sl.all (fun q=>q.2.all fun k=>Nat.blt k n0) && hp.all (fun q=>match q.2 with
  |some (.cells _ _)=>memN ks q.1
  |some (.own _ _ _)=>false
  |some (.obj _)=>memN ks q.1
  |some (.rows _ _ _)=>false
  | _=>true) && Nat.ble n0 nx
def ksIn (n0:Nat) (ks:List Nat) (hp:List (Nat×Option SR)):Bool:=ks.all fun k=>Nat.blt k n0 && match lkS hp k with
 |some (some (.cells _ _))=>true
 |some (some (.obj _))=>true
 | _=>false
structure RB (E:Env) (N:Nat) (F:Nat→Prop) (ρ : Nat→AV) (n0:Nat) (body:Code) (Q:Exit→Conf→Prop) (C:Conf):Prop where
 run:∀ S rd,Sm E rd N ⟨S,F,ρ,n0,False⟩ body Q C
structure RA (E:Env) (N:Nat) (n0:Nat) (asg:Code) (K:(Nat→Prop)→(Nat→AV)→Conf→Prop) (C:Conf):Prop where
 run:∀ S F ρ rd,Sm E rd N ⟨S,F,ρ,n0,True⟩ asg (fun e C1=>match e with
  | .normal=>∀ F',K F' ρ C1
  | _=>False) C
def qws (Q:Exit→Conf→Prop):Code→Conf→Prop
 | .ret=>Q .ret
 | .exit id=>Q (.exit id)
 | _=>fun _=>False
def qlb (k:Nat) (text rest:List UInt8):SV:=.ag [.i k,.i ((text.length:Int) - rest.length),.s (upto 10 rest),.p (10∈rest) inferInstance]
theorem za5 (k:Nat) (text rest:List UInt8) (ρ : Nat→AV):(qlb k text rest).ev ρ = qdd k text rest:=rfl
@[reducible] def rndQ {X : Type} (n0 : Nat) (P : X → Prop) (D : Code → X → Prop) (C : X → Conf) (e : Exit) (C2 : Conf) : Prop := match e with
 | .normal=>∃ x,P x∧EntA n0 C2 (C x)
 | .ret=>∃ x,D .ret x∧EntA n0 C2 (C x)
 | .exit id=>∃ x,D (.exit id) x∧EntA n0 C2 (C x)
 | _=>False
section
variable {N : Nat} {B : Bs} {C : Conf} {Q : Exit → Conf → Prop} {rd : Option Nat}
structure RInv (B:Bs) (n0 n:Nat) (ks:List Nat) (ρ1 t:Nat→AV) (df:List Nat) (C:Conf) (S:List AObj):Prop where
 ex:∃ ρ,(∀ k,k<n0→ρ k = ρ1 k)∧SatR B.S0 B.F C ρ t S∧(∀ d∈df,S[d]? = some .dfr)∧n≤S.length
theorem qpy {n0 n:Nat} {ks:List Nat} {ρ1 ρ : Nat→AV} {hp:List (Nat×Option SR)} {sl:List (Nat×SV)} {nx k:Nat} {T:TypeId} {cs:List SV} (dv:∀ k∈ks,k<n0∧∃ o,zm (ρ1 k)=some o∧o<n) (hr:y5 n0 ks sl hp nx=true) (hρ : ∀ k,k<n0→ρ k = ρ1 k) (hk:hpF hp k=some (.cells T cs)):k<n0∧∃ o,zm (ρ k)=some o∧o<n:=by
 have h1:=wy hk;simp only [y5,Bool.and_eq_true] at hr;have:=List.all_eq_true.1 hr.1.2 _ (ko h1);simp only at this;obtain⟨g1,g2⟩:=dv k (qle this);refine⟨g1,?_⟩;rw [hρ k g1];exact g2
theorem qzk {n0:Nat} {ks:List Nat} {sl:List (Nat×SV)} {hp:List (Nat×Option SR)} {nx k sz:Nat} {T:TypeId} {xs:List AV} (hr:y5 n0 ks sl hp nx=true) (hk:hpF hp k=some (.own sz T xs)):False:=by
 have h1:=wy hk;simp only [y5,Bool.and_eq_true] at hr;have:=List.all_eq_true.1 hr.1.2 _ (ko h1);simp at this
theorem qzb {n0 n:Nat} {ks:List Nat} {ρ1 ρ : Nat→AV} {hp:List (Nat×Option SR)} {sl:List (Nat×SV)} {nx k:Nat} {P:AObj→AV→Prop} (dv:∀ k∈ks,k<n0∧∃ o,zm (ρ1 k)=some o∧o<n) (hr:y5 n0 ks sl hp nx=true) (hρ : ∀ k,k<n0→ρ k = ρ1 k) (hk:hpF hp k=some (.obj P)):k<n0∧∃ o,zm (ρ k)=some o∧o<n:=by
 have h1:=wy hk;simp only [y5,Bool.and_eq_true] at hr;have:=List.all_eq_true.1 hr.1.2 _ (ko h1);simp only at this;obtain⟨g1,g2⟩:=dv k (qle this);refine⟨g1,?_⟩;rw [hρ k g1];exact g2
theorem qty {n0:Nat} {ks:List Nat} {sl:List (Nat×SV)} {hp:List (Nat×Option SR)} {nx k:Nat} {T2:TypeId} {ys2:List AV} {cs2:List SV} (hr:y5 n0 ks sl hp nx=true) (hk:hpF hp k=some (.rows T2 ys2 cs2)):False:=by
 have h1:=wy hk;simp only [y5,Bool.and_eq_true] at hr;have:=List.all_eq_true.1 hr.1.2 _ (ko h1);simp at this
theorem RInv.ext {n0 n:Nat} {ks:List Nat} {ρ1 t:Nat→AV} {df:List Nat} {C:Conf} {S S':List AObj} (h:RInv B n0 n ks ρ1 t df C S) (dv:∀ k∈ks,k<n0∧∃ o,zm (ρ1 k)=some o∧o<n) (hr:y5 n0 ks C.sl C.hp C.nx=true) (hB:B.S0.length≤n) (td:∀ d∈df,d<n) (hE:Ext n S S'):RInv B n0 n ks ρ1 t df C S':=by
 obtain⟨ρ,hρ,hR,hd,hn⟩:=h.ex;refine⟨ρ,hρ,⟨hR.sl,⟨fun k r hk=>?_,hR.hp.sep⟩,hR.own,fun j hj hF=>?_,Nat.le_trans hR.len hE.len,hR.wsl,hR.whp⟩,fun d fm=>?_,Nat.le_trans hn hE.len⟩
 ·refine SR.ok_of (f:=fun _=>true) (SR.all_mono (fun _ _=>rfl) r (hR.whp k r hk).2) (fun _ _=>rfl) (hR.hp.ok k r hk) fun o ho=>?_
  rcases SR.ok_ct (hR.hp.ok k r hk) ho with⟨T,cs,v,h1,T',cs',rfl⟩ | ⟨m,sz,T,h1⟩ | ⟨sz,T,xs,rfl⟩ | ⟨P1,rfl⟩ | ⟨T2,ys2,cs2,rfl⟩
  rotate_left 2
  ·exact (qzk hr hk).elim
  ·obtain⟨_,o',h2,h3⟩:=qzb dv hr hρ hk
   rw [h2] at ho;simp only [Option.some.injEq] at ho;subst ho;exact hE.low _ h3
  ·exact (qty hr hk).elim
  ·obtain⟨_,o',h2,h3⟩:=qpy dv hr hρ hk
   rw [h2] at ho;simp only [Option.some.injEq] at ho;subst ho;exact hE.low _ h3
  ·exact hE.tips _ _ _ _ h1
 ·rw [hE.low j (by omega)]
  exact hR.low j hj hF
 ·rw [hE.low d (td d fm)]
  exact hd d fm
def evY {ι : Type} (Y : ι→Option (SV×ι)) (i : ι):Option (AV×ι):=match Y i with
 |some (v,j)=>some (v.ev fun _=>zj,j)
 |none=>none
theorem qpl {X:Type} {f:Operand} {p:Tmp} {asg body:Code} {g:FuncId} {T:TypeId} {cs:List AV} {ι : Type} {Y : ι→Option (SV×ι)} {i0 : ι} (pd:ItC g T cs (evY Y) i0) (a8:∀ vs w,(callFunc g vs).run E.P w = .ok (.enter g vs) w) (hY:∀ i v j,Y i=some (v,j)→v.all (fun _=>false)=true) (kb n0:Nat) (cv:List SV) (hcv:∀ ρ,SV.evs ρ cv=cs) (ks:List Nat) (I:X→Conf) (sl0:List (Nat×SV)) (P : ι→X→Prop) (D:Code→X→Prop) (x0:X) (h0:P i0 x0)
  (he:EntA B.n0 C (I x0)) (hz:¬ B.dz) (gb:∀ x,(I x).sl=sl0)
  (hf:sval N sl0 f=some (.fn (.func g) [] [.bx kb 0]))
  (rz:∀ x,lkS (I x).hp kb=some (some (.cells T cv)))
  (hr:∀ x,y5 n0 ks (I x).sl (I x).hp (I x).nx=true) (h0r:(ksIn n0 ks (I x0).hp && Nat.ble B.n0 n0)=true)
  (hb:∀ i x v j,P i x→Y i=some (v,j)→RA E N n0 asg (fun F ρ C1=>RB E N F ρ n0 body (rndQ n0 (P j) D I) C1) ⟨(p,v)::(I x).sl,(I x).hp,(I x).nx⟩)
  (hn:∀ i x,Y i=none→P i x→Q .normal (I x)) (hd:∀ c x,D c x→qws Q c (I x)):Sm E none N B (.rangeFunc f #[p] asg body) Q C:=⟨fun s hs=>by
 obtain⟨ts,S0,df⟩:=s;obtain⟨ρ0,hF0,hR0⟩:=hs;simp only at hF0 hR0;obtain⟨σ,hrg,he⟩:=he.ent;have sq:=hF0.ren (C':=I x0) hrg;obtain⟨t,hw,gc⟩:=he.sat hR0;clear hF0 hR0 he hrg;generalize renR σ ρ0 = ρ1 at sq gc;refine qxo hw ?_;simp only [Bool.and_eq_true] at h0r;have hBn:=Nat.le_of_ble_eq_true h0r.2;have hB:=gc.len
 have dv:∀ k∈ks,k<n0∧∃ o,zm (ρ1 k)=some o∧o<S0.length:=fun k hk=>by
  have:=List.all_eq_true.1 h0r.1 k hk;simp only [Bool.and_eq_true] at this;refine⟨ku this.1,?_⟩;have h2:=this.2;split at h2
  ·rename_i T cs hl
   have bq:hpF (I x0).hp k=some (.cells T cs):=by unfold hpF;rw [hl]
   obtain⟨o,v,h1,h3,rfl⟩:=gc.hp.ok k _ bq;exact⟨o,by rw [h1];rfl,lt_of_getElem? h3⟩
  ·rename_i P hl
   have bq:hpF (I x0).hp k=some (.obj P):=by unfold hpF;rw [hl]
   obtain⟨o,x,h1,h3,_⟩:=gc.hp.ok k _ bq;exact⟨o,h1,lt_of_getElem? h3⟩
  ·simp at h2
 have td:∀ d∈df,d<S0.length:=fun d hd=>lt_of_getElem? (sq.dm d hd).1;have hi0:RInv B n0 S0.length ks ρ1 t df (I x0) S0:=⟨ρ1,fun _ _=>rfl,gc,fun d hd=>(sq.dm d hd).1,Nat.le_refl _⟩
 have hnm:∀ x,(sl0.all fun q=>q.2.all fun k=>Nat.blt k n0)=true:=fun x=>by
  have:=hr x;simp only [y5,Bool.and_eq_true,gb] at this;exact this.1.1
 have hnm:=hnm x0
 have slot:∀ {ρ : Nat→AV},(∀ k,k<n0→ρ k = ρ1 k)→SlOk ρ t sl0:=fun {ρ} hρ d v hd=>by
  rw [gc.sl d v (by rw [gb];exact hd)];exact (yy (fun k hk=>hρ k (ku hk)) v (List.all_eq_true.1 hnm _ (ko hd))).symm
 have dk:∀ x,n0≤(I x).nx:=fun x=>by
  have:=hr x;simp only [y5,Bool.and_eq_true] at this;exact Nat.le_of_ble_eq_true this.2
 have hkb1:kb<n0∧∃ o,ρ1 kb = .bx o 0 0∧o<S0.length:=by
  have h1:=hr x0;simp only [y5,Bool.and_eq_true] at h1;have:=List.all_eq_true.1 h1.1.2 _ (ko (rz x0));have bq:hpF (I x0).hp kb=some (.cells T cv):=by unfold hpF;rw [rz x0]
  obtain⟨o,v,h1,h3,rfl⟩:=gc.hp.ok kb _ bq;exact⟨(dv kb (qle this)).1,o,h1,lt_of_getElem? h3⟩
 obtain⟨hkbn,okb,hokb,hokl⟩:=hkb1;have rq:=qv (S:=S0) (df:=df) (slot fun _ _=>rfl) hf;simp only [SV.ev,SV.evs,hokb,bxAt] at rq
 have out:∀ {x S},RInv B n0 S0.length ks ρ1 t df (I x) S→S[S0.length]? = some .dfr→SatC B (I x) ⟨t,S,S0.length::df⟩:=fun {x S} hi hm=>by
  obtain⟨ρ,hρ,hR,fm,hnS⟩:=hi.ex;refine⟨ρ,⟨fun d hd=>?_,List.nodup_cons.2 ⟨fun h=>Nat.lt_irrefl _ (td _ h),sq.nd⟩,fun k hk=>(hρ k (by omega)).trans (sq.rig k hk),Nat.le_trans hBn (dk x),fun h=>(hz h).elim⟩,hR⟩;rcases List.mem_cons.1 hd with rfl|hd
  ·exact⟨hm,hB⟩
  ·exact⟨fm d hd,(sq.dm d hd).2⟩
 refine qxn (S0:=S0) pd rfl rq a8
  (fun i S=>∃ x,P i x∧RInv B n0 S0.length ks ρ1 t df (I x) S) (fun c S=>∃ x,D c x∧RInv B n0 S0.length ks ρ1 t df (I x) S) ⟨x0,h0,hi0⟩ ?_ ?_ ?_ ?_ ?_ ?_
 ·rintro i S ⟨x,_,hi⟩
  obtain⟨ρ,hρ,hR,_⟩:=hi.ex;have bq:hpF (I x).hp kb=some (.cells T cv):=by unfold hpF;rw [rz x]
  obtain⟨o,v,h1,h3,rfl⟩:=hR.hp.ok kb _ bq;rw [hρ kb hkbn,hokb] at h1;simp only [AV.bx.injEq] at h1;obtain⟨rfl,_⟩:=h1;rw [hcv] at h3;exact h3
 ·rintro i S S' hE ⟨x,hx,hi⟩
  exact⟨x,hx,hi.ext dv (hr x) hB td hE⟩
 ·rintro c S S' hE ⟨x,hx,hi⟩
  exact⟨x,hx,hi.ext dv (hr x) hB td hE⟩
 ·rintro F own rd i u j S hF ⟨x,hx,hi⟩ hy fp hm1 pj
  obtain⟨v,hv,hu⟩:∃ v,Y i=some (v,j)∧u=v.ev fun _=>zj:=by
   unfold evY at hy;split at hy
   ·rename_i v j2 hv
    simp only [Option.some.injEq,Prod.mk.injEq] at hy;obtain⟨rfl,rfl⟩:=hy;exact⟨v,hv,rfl⟩
   ·simp at hy
  subst hu;have hva:=hY i v j hv;obtain⟨ρ,hρ,hR,fm,hnS⟩:=hi.ex
  -- what no resource's place is
  have qai:∀ o y,S[o]? = some y→S0.length≤o→(∀ m sz T,y≠.tip m sz T)→¬ x9 (I x).hp ρ o:=fun o y hy ho hyt ⟨k,r,hk,hl⟩=>by
   rcases SR.ok_ct (hR.hp.ok k r hk) hl with⟨T,cs,v,h1,T',cs',rfl⟩ | ⟨m,sz,T,h1⟩ | ⟨sz,T,xs,rfl⟩ | ⟨P1,rfl⟩ | ⟨T2,ys2,cs2,rfl⟩
   rotate_left 2
   ·exact (qzk (hr x) hk).elim
   ·obtain⟨_,o',h2,h3⟩:=qzb dv (hr x) hρ hk
    rw [h2] at hl;simp only [Option.some.injEq] at hl;omega
   ·exact (qty (hr x) hk).elim
   ·obtain⟨_,o',h2,h3⟩:=qpy dv (hr x) hρ hk
    rw [h2] at hl;simp only [Option.some.injEq] at hl;omega
   ·rw [h1] at hy
    simp only [Option.some.injEq] at hy;exact hyt _ _ _ hy.symm
  have a0:=qai _ _ fp (by omega) (fun _ _ _=>by simp);have a1:=qai _ _ hm1 (by omega) (fun _ _ _=>by rw [hF];simp);have a2:=fun k y hk=>qai _ _ (pj k y hk).1 (by omega) (fun m sz T e=>(pj k y hk).2 m sz T (by rw [e]));have ad:∀ d∈df,¬ x9 (I x).hp ρ d:=fun d hd ⟨k,r,hk,hl⟩=>SR.ok_dfr (hR.hp.ok k r hk) hl (fm d hd);have l2:=lt_of_getElem? hm1
  have s1:=((hb i x v j hx hv).run S (x9 (I x).hp ρ) ρ1 rd).run ⟨put t p (v.ev fun _=>zj),S,[]⟩
   ⟨ρ,⟨nofun,List.nodup_nil,hρ,dk x,fun _=>rfl⟩,?_⟩
  rotate_left
  ·have p6:=hR.rebase (S':=S) fun _ _=>rfl
   refine⟨fun d v hd=>?_,p6.hp,p6.own,p6.low,p6.len,fun d v hd=>?_,p6.whp⟩
   ·simp only [lkS] at hd
    cases s7:Nat.beq p d with
    |true=>
     rw [s7] at hd;simp only [cond_true,Option.some.injEq] at hd;have e:=Nat.eq_of_beq_eq_true s7;subst e hd;simp only [put];rw [yy (f:=fun _=>false) (ρ:=fun _=>zj) (ρ':= ρ) (fun k hk=>by simp at hk) v hva]
     simp
    |false=>
     rw [s7] at hd;have e:d≠p:=fun e=>by subst e;simp at s7
     have:=p6.sl d v hd;simp only [put];rw [show Nat.beq d p=false from ji e];exact this
   ·simp only [lkS] at hd
    cases s7:Nat.beq p d with
    |true=>
     rw [s7] at hd;simp only [cond_true,Option.some.injEq] at hd;subst hd
     exact all_mono (f:=fun _=>false) (fun k hk=>by simp at hk) v hva
    |false=>
     rw [s7] at hd;exact p6.wsl d _ hd
  refine s1.mono fun e s1 ⟨C1,hq,lw⟩=>?_
  cases e with
  |normal=>
   obtain⟨ρs,hFs,sr⟩:=lw;have hdf1:=hFs.dz trivial;have b1:s1.st[S0.length+1]? = some (F .ready none):=(sr.low _ (by simp only;omega) a1).trans hm1;refine⟨b1,hdf1,?_⟩;have hq:=(hq (x9 C1.hp ρs)).run (s1.st.set (S0.length+1) (F .busy none)) (some rd)
   have c0:∀ o,o<S.length→¬ x9 (I x).hp ρ o→¬ x9 C1.hp ρs o:=fun o ho hn ⟨k,r,hk,hl⟩=>by
    rcases sr.own k r hk o hl with h|h
    ·simp only at h
     omega
    ·exact hn h
   have hRb:=sr.rebase (S':=s1.st.set (S0.length+1) (F .busy none)) fun o ho=>List.getElem?_set_ne fun e=>c0 (S0.length+1) (by omega) a1 (by rw [e];exact ho);refine (hq.run ⟨s1.t,s1.st.set (S0.length+1) (F .busy none),[]⟩ ⟨ρs,⟨nofun,List.nodup_nil,hFs.rig,hFs.le,nofun⟩,hRb⟩).mono fun e s2 ⟨C2,o6,ml⟩=>?_;obtain⟨ρ2,hF2,gr⟩:=ml;have u0:=sr.len
   have keep:∀ o y,o≠S0.length+1→S[o]? = some y→¬ x9 (I x).hp ρ o→s2.st[o]? = some y:=fun o y b9 hy hn=>by
    have ho:=lt_of_getElem? hy;rw [gr.low o (by simp only [List.length_set];simp only at u0;omega) (c0 o ho hn)];simp only;rw [List.getElem?_set_ne (fun e=>b9 e.symm),sr.low o ho hn];exact hy
   have k0:=keep _ _ (by omega) fp a0;have k2:∀ k y,own[k]? = some y→s2.st[S0.length+2+k]? = some y:=fun k y hk=>keep _ _ (by omega) (pj k y hk).1 (a2 k y hk)
   have k1:s2.st[S0.length+1]? = some (F .busy none):=by
    rw [gr.low _ (by simp only [List.length_set];simp only at u0;omega) (c0 _ (by omega) a1)];simp only;exact jq b1
   have fin:∀ x',EntA n0 C2 (I x')→RInv B n0 S0.length ks ρ1 t df (I x') s2.st:=fun x' db=>by
    obtain⟨σ2,hrg2,he2⟩:=db.ent;have hF3:=hF2.ren (C':=I x') hrg2;obtain⟨t3,_,nv⟩:=he2.sat gr;have hl3:=nv.len;simp only [List.length_set] at hl3;simp only at u0;refine⟨_,hF3.rig,⟨by rw [gb];exact slot hF3.rig,nv.hp,fun k r hk o ho=>?_,fun j hj hnj=>?_,by omega,nv.wsl,nv.whp⟩,fun d hd=>?_,by omega⟩
    ·rcases nv.own k r hk o ho with h | ⟨k',r',h,h'⟩
     ·simp only [List.length_set] at h
      exact .inl (by omega)
     ·rcases sr.own k' r' h o h' with h | ⟨k2,r2,h2,h3⟩
      ·simp only at h
       exact .inl (by omega)
      ·exact hR.own k2 r2 h2 o h3
    ·have hj0:¬ x9 (I x).hp ρ j:=fun ⟨k',r',h,h'⟩=>by
      rcases hR.own k' r' h j h' with h|h
      ·omega
      ·exact hnj h
     have hjS:j<S.length:=by omega
     rw [← hR.low j hj hnj];obtain⟨y,hy⟩:∃ y,S[j]? = some y:=⟨_,List.getElem?_eq_getElem hjS⟩;rw [hy];exact keep j y (by omega) hy hj0
    ·exact keep d _ (by have:=td d hd;omega) (fm d hd) (ad d hd)
   cases e with
   |normal=>
    obtain⟨x',e7,db⟩:=o6
    exact⟨k0,k1,k2,x',e7,fin x' db⟩
   |ret=>
    obtain⟨x',e7,db⟩:=o6
    exact⟨k0,k1,k2,x',e7,fin x' db⟩
   |exit id=>
    obtain⟨x',e7,db⟩:=o6
    exact⟨k0,k1,k2,x',e7,fin x' db⟩
   | _=>exact o6.elim
  | _=>exact hq.elim
 ·rintro i S hy ⟨x,hx,hi⟩ hm
  exact⟨I x,hn i x (by
   unfold evY at hy;split at hy
   ·simp at hy
   ·assumption) hx,out hi hm⟩
 ·rintro c S ⟨x,hx,hi⟩ hm
  have hq:=hd c x hx
  cases c with
  |ret=>exact qu ⟨I x,hq,out hi hm⟩
  |exit id=>exact vc ⟨I x,hq,out hi hm⟩
  | _=>exact hq.elim⟩
theorem qfo {X:Type} {f:Operand} {p:Tmp} {asg body:Code} (text:List UInt8) (kb n0:Nat) (ks:List Nat) (I:X→Conf) (sl0:List (Nat×SV)) (P:Nat→List UInt8→X→Prop) (D:Code→X→Prop) (x0:X) (h0:P 0 text x0)
  (he:EntA B.n0 C (I x0)) (hz:¬ B.dz) (ht:text.length<4294967281) (gb:∀ x,(I x).sl=sl0)
  (hf:sval N sl0 f=some (.fn (.func 154) [] [.bx kb 0]))
  (rz:∀ x,lkS (I x).hp kb=some (some (.cells 9 [.s text])))
  (hr:∀ x,y5 n0 ks (I x).sl (I x).hp (I x).nx=true) (h0r:(ksIn n0 ks (I x0).hp && Nat.ble B.n0 n0)=true)
  (hb:∀ k rest x,P k rest x→rest≠[]→rest.length≤text.length→RA E N n0 asg (fun F ρ C1=>RB E N F ρ n0 body (rndQ n0 (P (k+1) (past 10 rest)) D I) C1) ⟨(p,qlb k text rest)::(I x).sl,(I x).hp,(I x).nx⟩)
  (hn:∀ k x,P k [] x→Q .normal (I x)) (hd:∀ c x,D c x→qws Q c (I x)):Sm E none N B (.rangeFunc f #[p] asg body) Q C:=by
 have hY:evY (fun (q:Nat×List UInt8)=>if q.2=[]∨text.length<q.2.length then none else some (qlb q.1 text q.2,(q.1+1,past 10 q.2)))=qnx text:=by
  funext ⟨k,rest⟩;by_cases h:rest=[]∨text.length<rest.length
  ·simp [evY,qnx,h]
  ·simp [evY,qnx,h,za5]
 refine qpl (Y:=fun (q:Nat×List UInt8)=>if q.2=[]∨text.length<q.2.length then none else some (qlb q.1 text q.2,(q.1+1,past 10 q.2))) (i0:=(0,text)) (by rw [hY];exact zca text ht) Tryz.call154 (fun i v j h=>?_) kb n0 [.s text] (fun _=>rfl) ks I sl0 (fun i x=>P i.1 i.2 x∧i.2.length≤text.length) D x0 ⟨h0,Nat.le_refl _⟩ he hz gb hf rz hr h0r (fun i x v j hp h=>?_) (fun i x h hp=>?_) hd
 ·split at h
  ·simp at h
  ·simp only [Option.some.injEq,Prod.mk.injEq] at h
   obtain⟨rfl,_⟩:=h;rfl
 ·split at h
  ·simp at h
  ·rename_i b9
   simp only [Option.some.injEq,Prod.mk.injEq] at h;obtain⟨rfl,rfl⟩:=h;have hb:=hb i.1 i.2 x hp.1 (fun e=>b9 (.inl e)) hp.2;have hp2:=km 10 i.2
   exact⟨fun S F ρ rd=>⟨fun s hs=>((hb.run S F ρ rd).run s hs).mono fun e s' ⟨C',hq,fx⟩=>⟨C',by
    cases e with
    |normal=>exact fun F'=>⟨fun S rd=>qz3 ((hq F').run S rd) fun e C2 o6=>by
      cases e with
      |normal=>obtain⟨x,h1,h2⟩:=o6;exact⟨x,⟨h1,by simp only;have:=hp.2;omega⟩,h2⟩
      | _=>exact o6⟩
    | _=>exact hq,fx⟩⟩⟩
 ·split at h
  ·rename_i he
   have:i.2=[]:=he.elim id fun h=>by have:=hp.2;omega
   refine hn i.1 x ?_;rw [← this];exact hp.1
  ·simp at h
end
theorem qlz {nx:Nat} {H:Nat→Option SR} (text:qa):j8 E 113 [.s text] nx H ⟨.fn (.func 154) [] [.bx nx 0],[],[(nx,some (.cells 9 [.s text]))],nx+1⟩:=fun ρ S hS=>by
 refine (qt1 text S _ S.length rfl rfl).mono fun r S' ⟨hr,hs⟩=>⟨upd ρ nx (.bx S.length 0 0),?_,?_⟩
 ·rw [hr]
  simp only [SV.ev,SV.evs,ve,bxAt]
 ·subst hs
  have key:∀ k r',chF [(nx,some (SR.cells 9 [.s text]))] (resF [] H) k=some r'→k=nx∧r' = .cells 9 [.s text]:=fun k r' hk=>by
   simp only [chF,lkS] at hk
   cases hb:Nat.beq nx k with
   |true=>
    rw [hb] at hk;simp only [cond_true,Option.some.injEq] at hk
    exact⟨(Nat.eq_of_beq_eq_true hb).symm,hk.symm⟩
   |false=>
    rw [hb] at hk;simp [resF,memN] at hk
  refine⟨fun k hk=>ye _ _ (by simp only at hk;omega),⟨fun k r hk=>?_,fun k k' r r' b9 h1 h2=>?_⟩,by simp,fun j hj _=>List.getElem?_append_left hj,fun k r hk o ho=>?_⟩
  ·obtain⟨rfl,rfl⟩:=key _ _ hk
   exact⟨S.length,0,ve _ _ _,by simp [SV.evs,SV.ev],rfl⟩
  ·obtain⟨rfl,_⟩:=key _ _ h1
   obtain⟨rfl,_⟩:=key _ _ h2;exact absurd rfl b9
  ·obtain⟨rfl,_⟩:=key _ _ hk
   rw [ve] at ho;simp only [zm,Option.some.injEq] at ho;subst ho;exact .inl (Nat.le_refl _)
end Go.Proofs.YtihlchbgjdkmpaaGreatDoor
namespace Go.Av
open Go Go.RowKit
def kz (hp:List (Nat×Option SR)):List (Nat×Option SR):=hp.map fun q=>(q.1,none)
def retS (P:Program) (fn:Func) (nx0:Nat) (r:SV) (t6:List (Nat×Option SR)) (nx1:Nat) (e:Exit) (C:Conf):Prop:=
 match e with
 | .normal=>(match resV P fn.ntmps C fn.results.toList with
  |some v=>v.all (fun k=>Nat.blt k C.nx)=true∧EntA nx0 ⟨[(0,v)],C.hp,C.nx⟩ ⟨[(0,r)],t6,nx1⟩
  |none=>False)
 | .ret=>(match resV P fn.ntmps C fn.results.toList with
  |some v=>v.all (fun k=>Nat.blt k C.nx)=true∧EntA nx0 ⟨[(0,v)],C.hp,C.nx⟩ ⟨[(0,r)],t6,nx1⟩
  |none=>False)
 | _=>False
theorem q4y {hp:List (Nat×Option SR)} {k:Nat} {r:SR} (h:hpF hp k=some r):memN (ju hp) k=true:=by
 have:=ko (wy h);exact List.any_eq_true.2 ⟨k,List.mem_map.2 ⟨_,this,rfl⟩,by simp⟩
theorem vf (hp:List (Nat×Option SR)):resF (ju hp) (hpF hp)=hpF hp:=by
 funext k;unfold resF
 cases h:memN (ju hp) k with
 |true=>rfl
 |false=>
  cases h2:hpF hp k with
  |none=>rfl
  |some r=>rw [q4y h2] at h;simp at h
theorem qve:∀ (hp:List (Nat×Option SR)) (k:Nat),lkS (kz hp) k=none∧lkS hp k=none∨lkS (kz hp) k=some none
 | [],_=>.inl ⟨rfl,rfl⟩
 |(i,x)::r,k=>by
  simp only [kz,List.map_cons,lkS]
  cases hb:Nat.beq i k with
  |true=>exact .inr rfl
  |false=>exact qve r k
theorem qcf (r6 t6:List (Nat×Option SR)):chF (t6++kz r6) (hpF r6)=hpF t6:=by
 funext k;unfold chF;rw [qc2];unfold hpF
 cases h:lkS t6 k with
 |some r=>rfl
 |none=>
  simp only;rcases qve r6 k with⟨h1,h2⟩|h1
  ·rw [h1,h2]
  ·rw [h1]
theorem wh {E:Env} {f:FuncId} {fn:Func} {c:Code} (vs:List SV) (r6:List (Nat×Option SR)) (nx0:Nat) (r:SV) (t6:List (Nat×Option SR)) (nx1:Nat) (hf:E.P.funcs[f]? = some fn) (hb:fn.body=some c) (hn:Nat.ble vs.length fn.ntmps=true)
  (hc:okC ⟨jd 0 vs,r6,nx0⟩=true) (hc1:okC ⟨[(0,r)],t6,nx1⟩=true)
  (h:∀ S F ρ,numK 0 vs fun sl=>Sm E none fn.ntmps ⟨S,F,ρ,nx0,False⟩ c (retS E.P fn nx0 r t6 nx1) ⟨sl,r6,nx0⟩):j8 E f vs nx0 (hpF r6) ⟨r,ju r6,t6++kz r6,nx1⟩:=fun ρ S hS=>by
 simp only [qoe] at h;simp only [vf] at hS;have d5:(SV.evs ρ vs).length=vs.length:=by rw [wi,List.length_map]
 refine qr hf hb (by rw [d5];exact Nat.le_of_ble_eq_true hn) ?_;rw [List.append_nil];simp only [okC,Bool.and_eq_true] at hc hc1
 have hwhp:∀ k r,hpF r6 k=some r→k<nx0∧r.all (fun k=>Nat.blt k nx0)=true:=fun k r hk=>by
  have:=List.all_eq_true.1 hc.2 _ (ko (wy hk));simp only [Bool.and_eq_true] at this;exact⟨ku this.1,this.2⟩
 have d8:SatC ⟨S,x9 r6 ρ,ρ,nx0,False⟩ ⟨jd 0 vs,r6,nx0⟩ ⟨argT (SV.evs ρ vs),S,[]⟩:=by
  refine⟨ρ,⟨nofun,List.nodup_nil,fun _ _=>rfl,Nat.le_refl _,nofun⟩,⟨fun d v hd=>?_,hS,fun k r hk o ho=>.inr ⟨k,r,hk,ho⟩,fun _ _ _=>rfl,Nat.le_refl _,fun d v hd=>?_,hwhp⟩⟩
  ·obtain⟨j,h1,h2⟩:=qc3 hd
   have:(SV.evs ρ vs)[j]? = some (v.ev ρ):=by rw [wi,List.getElem?_map,h2];rfl
   rw [h1,Nat.zero_add];simp only [argT,List.getD,this,Option.getD_some]
  ·exact List.all_eq_true.1 hc.1 _ (ko hd)
 refine ((h S (x9 r6 ρ) ρ).run _ d8).mono fun e s' ⟨C',hq,fx⟩=>?_;obtain⟨t,S',df⟩:=s';obtain⟨ρ2,i8,hR⟩:=fx;simp only at i8 hR
 have fin:(match resV E.P fn.ntmps C' fn.results.toList with
  |some v=>v.all (fun k=>Nat.blt k C'.nx)=true∧EntA nx0 ⟨[(0,v)],C'.hp,C'.nx⟩ ⟨[(0,r)],t6,nx1⟩
  |none=>False)→ARet E fn (fun r' S'=>∃ ρ',r'=r.ev ρ'∧qgx ρ S nx0 (hpF r6) ⟨r,ju r6,t6++kz r6,nx1⟩ ρ' S') ⟨t,S',df⟩:=fun h=>by
  split at h
  ·rename_i v hv
   obtain⟨hva,he⟩:=h;obtain⟨σ,hrg,he⟩:=he.ent;refine qg2 hR i8.dm i8.nd fun S2 gr=>?_
   have nv:SatR S (x9 r6 ρ) ⟨[(0,v)],C'.hp,C'.nx⟩ ρ2 (fun _=>v.ev ρ2) S2:=
    ⟨fun d u hd=>by
     simp only [lkS] at hd
     cases hb:Nat.beq 0 d with
     |true=>rw [hb] at hd;simp only [cond_true,Option.some.injEq] at hd;rw [hd]
     |false=>rw [hb] at hd;simp [lkS] at hd,gr.hp,gr.own,gr.low,gr.len,fun d u hd=>by
     simp only [lkS] at hd
     cases hb:Nat.beq 0 d with
     |true=>rw [hb] at hd;simp only [cond_true,Option.some.injEq] at hd;rw [← hd];exact hva
     |false=>rw [hb] at hd;simp [lkS] at hd,gr.whp⟩
   obtain⟨t',hw,hR4⟩:=he.sat nv
   have hrig:∀ k,k<nx0→renR σ ρ2 k = ρ k:=fun k hk=>by
    simp only [Bool.and_eq_true] at hrg;unfold renR;rw [qql hrg.1 k hk];exact i8.rig k hk
   have hrn:nx0≤nx1:=by
    simp only [Bool.and_eq_true] at hrg;exact Nat.le_of_ble_eq_true hrg.2
   generalize renR σ ρ2 = ρ3 at hR4 hrig;have h0:t' 0=r.ev ρ3:=hR4.sl 0 r rfl;have hwk:=hw 0;rw [h0] at hwk
   let ρ':Nat→AV:=fun k=>bif Nat.ble nx1 k then ρ k else ρ3 k
   have hρ':∀ k,Nat.blt k nx1=true→ρ' k = ρ3 k:=fun k hk=>by
    show (bif Nat.ble nx1 k then ρ k else ρ3 k)=_
    have:Nat.ble nx1 k=false:=by
     cases hb:Nat.ble nx1 k with
     |false=>rfl
     |true=>have:=Nat.le_of_ble_eq_true hb;have:=ku hk;omega
    rw [this];rfl
   have hra:r.all (fun k=>Nat.blt k nx1)=true:=List.all_eq_true.1 hc1.1 (0,r) (by simp);have hev:r.ev ρ'=r.ev ρ3:=yy hρ' r hra;refine qo rfl (w9 (q23 gr hv) hwk) ⟨ρ',hev.symm,?_⟩
   have hwh:∀ k r,hpF t6 k=some r→ρ' k = ρ3 k∧r.all (fun k=>Nat.blt k nx1)=true:=fun k r hk=>by
    obtain⟨g1,g2⟩:=hR4.whp k r hk;exact⟨hρ' k (qav g1),g2⟩
   refine⟨fun k hk=>?_,?_,hR4.len,fun j hj hn=>?_,fun k r hk o ho=>?_⟩
   ·show (bif Nat.ble nx1 k then ρ k else ρ3 k)=_
    cases hb:Nat.ble nx1 k with
    |true=>rfl
    |false=>
     rcases hk with hk|hk
     ·exact hrig k hk
     ·have:=Nat.ble_eq_true_of_le hk
      simp only at this;rw [this] at hb;simp at hb
   ·simp only [vf,qcf]
    refine⟨fun k r hk=>?_,fun k k' r r' b9 h1 h2 o ho=>?_⟩
    ·obtain⟨g1,g2⟩:=hwh k r hk
     rw [g1];exact SR.ok_of g2 hρ' (hR4.hp.ok k r hk) fun _ _=>rfl
    ·rw [(hwh k r h1).1] at ho
     rw [(hwh k' r' h2).1];exact hR4.hp.sep k k' r r' b9 h1 h2 o ho
   ·simp only [vf] at hn
    exact hR4.low j hj fun ⟨k,r,hk,hl⟩=>hn k r hk hl
   ·simp only [vf,qcf] at hk ⊢
    rw [(hwh k r hk).1] at ho;exact hR4.own k r hk o ho
  ·exact h.elim
 cases e with
 |normal=>exact fin hq
 |ret=>exact fin hq
 | _=>exact hq.elim
def newN:Nat→Nat→Nat→List (Nat×Nat)
 | _,_,0=>[]
 |a,b,m+1=>(a,b)::newN (a+1) (b+1) m
theorem qy1:∀ (m a b k:Nat),lkS (newN a b m) k=if a≤k∧k<a+m then some (b+(k - a)) else none
 | 0,a,b,k=>by rw [if_neg (by omega)];rfl
 |m+1,a,b,k=>by
  simp only [newN,lkS];by_cases h:a=k
  ·subst h
   simp
  ·rw [ji h,qy1 m]
   simp only [cond_false];by_cases h2:a+1≤k∧k<a+1+m
   ·rw [if_pos h2,if_pos (by omega)]
    congr 1;omega
   ·rw [if_neg h2,if_neg (by omega)]
def nmOf (σ : List (Nat×Nat)) (k:Nat):Nat:=match lkS σ k with
 |some j=>j
 |none=>0
def SR.ren (σ : List (Nat×Nat)):SR→SR
 | .cells T cs=>.cells T (SV.rens σ cs)
 | .tip sz T xs=>.tip sz T xs
 | .own sz T xs=>.own sz T xs
 | .obj P=>.obj P
 | .rows T ys cs=>.rows T ys (SV.rens σ cs)
def renO (σ : List (Nat×Nat)):Option SR→Option SR
 |some r=>some (r.ren σ)
 |none=>none
def renH (σ : List (Nat×Nat)):List (Nat×Option SR)→List (Nat×Option SR)
 | []=>[]
 |(k,r)::l=>(nmOf σ k,renO σ r)::renH σ l
def fltH (ks:List Nat):List (Nat×Option SR)→List (Nat×Option SR)
 | []=>[]
 |(k,r)::l=>bif memN ks k then (k,r)::fltH ks l else fltH ks l
def outH (ks:List Nat):List (Nat×Option SR):=ks.map fun k=>(k,none)
def qru:List Nat→Bool
 | []=>true
 |k::r=> !memN r k && qru r
theorem q2s (ks:List Nat):∀ (hp:List (Nat×Option SR)) (k:Nat),lkS (fltH ks hp) k=bif memN ks k then lkS hp k else none
 | [],k=>by simp only [fltH,lkS];cases memN ks k <;> rfl
 |(i,r)::l,k=>by
  have ih:=q2s ks l k;simp only [fltH];by_cases e:i=k
  ·subst e
   cases hm:memN ks i with
   |true=>simp [lkS]
   |false=>rw [hm] at ih;simp only [cond_false] at ih ⊢;exact ih
  ·cases hm:memN ks i with
   |true=>simp only [cond_true,lkS,ji e,cond_false];exact ih
   |false=>simp only [cond_false,lkS,ji e];exact ih
theorem q2j (ks:List Nat) (hp:List (Nat×Option SR)):hpF (fltH ks hp)=resF ks (hpF hp):=by
 funext k;unfold hpF resF;rw [q2s]
 cases memN ks k <;> rfl
theorem q2u {σ : List (Nat×Nat)}:∀ {hp:List (Nat×Option SR)} {j:Nat} {rr:SR},lkS (renH σ hp) j=some (some rr)→∃ k r,(k,some r)∈hp∧nmOf σ k=j∧rr=r.ren σ
 | [],j,rr,h=>by simp [renH,lkS] at h
 |(k,r)::l,j,rr,h=>by
  simp only [renH,lkS] at h
  cases hb:Nat.beq (nmOf σ k) j with
  |true=>
   rw [hb] at h;simp only [cond_true,Option.some.injEq] at h
   cases r with
   |none=>simp [renO] at h
   |some r=>
    simp only [renO,Option.some.injEq] at h
    exact⟨k,r,by simp,Nat.eq_of_beq_eq_true hb,h.symm⟩
  |false=>
   rw [hb] at h;obtain⟨k',r',h1,h2,h3⟩:=q2u h;exact⟨k',r',List.mem_cons_of_mem _ h1,h2,h3⟩
theorem quv:∀ {hp:List (Nat×Option SR)} {k:Nat} {r:SR},qru (ju hp)=true→(k,some r)∈hp→hpF hp k=some r
 | [],k,r,_,h=>by simp at h
 |(i,x)::l,k,r,hd,h=>by
  simp only [ju,List.map_cons,qru,Bool.and_eq_true] at hd;unfold hpF;simp only [lkS];rcases List.mem_cons.1 h with e|e
  ·simp only [Prod.mk.injEq] at e
   obtain⟨rfl,rfl⟩:=e;simp
  ·have b9:i≠k:=fun e'=>by
    subst e';have:memN (List.map Prod.fst l) i=true:=List.any_eq_true.2 ⟨i,List.mem_map.2 ⟨_,e,rfl⟩,by simp⟩;rw [this] at hd;simp at hd
   rw [ji b9];exact quv hd.2 e
theorem q2t:∀ (ks:List Nat) (j:Nat),lkS (outH ks) j=bif memN ks j then some none else none
 | [],j=>rfl
 |k::r,j=>by
  have ih:=q2t r j;simp only [outH,List.map_cons,lkS,memN,List.any_cons];by_cases e:k=j
  ·subst e;simp
  ·rw [ji e,ji (fun h=>e h.symm)]
   exact ih
theorem qy7 {α : Type}:∀ {l:List α} {i0 i:Nat} {v : α},l[i]? = some v→lkS (jd i0 l) (i0+i)=some v
 | [],_,_,_,h=>by simp at h
 |x::r,i0,0,v,h=>by
  simp only [List.getElem?_cons_zero,Option.some.injEq] at h;subst h
  simp [jd,lkS]
 |x::r,i0,i+1,v,h=>by
  simp only [jd,lkS];rw [ji (by omega),show i0+(i+1)=i0+1+i by omega];exact qy7 (by simpa using h)
theorem zfk {E:Env} {f:FuncId} {vs0:List SV} {r6:List (Nat×Option SR)} {nx0:Nat} {r:SV} {t6:List (Nat×Option SR)} {nx1:Nat} (h:j8 E f vs0 nx0 (hpF r6) ⟨r,ju r6,t6++kz r6,nx1⟩)
  (σ : List (Nat×Nat)) {pm:List (Nat×Option SR)} {vs:List SV} {nx:Nat} (hl:vs.length=vs0.length) (hc:okC ⟨jd 0 vs,fltH (σ.map Prod.snd) pm,nx⟩=true)
  (he:EntC σ ⟨jd 0 vs,fltH (σ.map Prod.snd) pm,nx⟩ ⟨jd 0 vs0,r6,nx0⟩) (hc1:okC ⟨[(0,r)],t6,nx1⟩=true)
  (hk:(qru (ju t6) && t6.all (fun q=>(lkS (newN nx0 nx (nx1 - nx0) ++ σ) q.1).isSome) && σ.all (fun q=>Nat.blt q.1 nx0 && Nat.blt q.2 nx) && Nat.ble nx0 nx1)=true) :
  j8 E f vs nx (hpF pm) ⟨r.ren (newN nx0 nx (nx1 - nx0) ++ σ),σ.map Prod.snd,renH (newN nx0 nx (nx1 - nx0) ++ σ) t6++outH (σ.map Prod.snd),nx+(nx1 - nx0)⟩:=fun ρ S hS=>by
 simp only at hS;simp only [Bool.and_eq_true] at hk;obtain⟨⟨⟨hd,hsm⟩,hσ⟩,hn⟩:=hk;have hn:=Nat.le_of_ble_eq_true hn;simp only [okC,Bool.and_eq_true] at hc hc1;generalize dv : σ.map Prod.snd=ks at hS hc he ⊢;obtain⟨m,hm⟩:∃ m,m=nx1 - nx0:=⟨_,rfl⟩;rw [← hm] at hsm ⊢
 have hR:SatR S (x9 (fltH ks pm) ρ) ⟨jd 0 vs,fltH ks pm,nx⟩ ρ (argT (SV.evs ρ vs)) S:=by
  refine⟨fun d v hd=>?_,by simp only [q2j];exact hS,fun k r hk o ho=>.inr ⟨k,r,hk,ho⟩,fun _ _ _=>rfl,Nat.le_refl _,fun d v hd=>List.all_eq_true.1 hc.1 _ (ko hd),fun k r hk=>?_⟩
  ·obtain⟨j,h1,h2⟩:=qc3 hd
   have:(SV.evs ρ vs)[j]? = some (v.ev ρ):=by rw [wi,List.getElem?_map,h2];rfl
   rw [h1,Nat.zero_add];simp only [argT,List.getD,this,Option.getD_some]
  ·have:=List.all_eq_true.1 hc.2 _ (ko (wy hk))
   simp only [Bool.and_eq_true] at this;exact⟨ku this.1,this.2⟩
 obtain⟨t',hw,lk⟩:=he.sat hR;have hrc:∀ k j,lkS σ k=some j→renR σ ρ k = ρ j:=fun k j e=>by unfold renR;rw [e]
 have hrn:∀ k,lkS σ k=none→renR σ ρ k=zj:=fun k e=>by unfold renR;rw [e]
 -- where a canonical resource lies
 have foot:∀ k r,hpF r6 k=some r→∀ o,zm (renR σ ρ k)=some o→∃ j r',resF ks (hpF pm) j=some r'∧zm (ρ j)=some o:=fun k r hk o ho=>by
  have hE:=qfh he.2.1 (wy hk);simp only [q2j] at hE;unfold entR at hE
  cases hl:lkS σ k with
  |none=>
   rw [hrn k hl] at ho
   simp [zm] at ho
  |some j=>
   rw [hrc k j hl] at ho;rw [hl] at hE
   cases hj:resF ks (hpF pm) j with
   |none=>cases r <;> (simp only [hj] at hE)
   |some r'=>exact⟨j,r',hj,ho⟩
 have hS0:SatF S (renR σ ρ) (hpF r6):=lk.hp;refine qwz (ys:=SV.evs (renR σ ρ) vs0) (by simp [wi,hl]) (fun i x y hx hy=>?_) ((h (renR σ ρ) S (by simp only [vf];exact hS0)).mono fun r' S' ⟨ρc,hr,hp⟩=>?_)
 ·have h1:=hw i
  simp only [wi,List.getElem?_map] at hy hx
  cases hv:vs0[i]? with
  |none=>rw [hv] at hy;simp at hy
  |some v=>
   rw [hv] at hy;simp only [Option.map_some,Option.some.injEq] at hy;have h2:=lk.sl i v (by have:=qy7 (i0:=0) hv;rwa [Nat.zero_add] at this);rw [h2,hy] at h1;have:argT (SV.evs ρ vs) i=x:=by simp only [argT,List.getD,wi,List.getElem?_map,hx,Option.getD_some]
   rw [this] at h1;exact h1
 ·let ρ':Nat→AV:=fun j=>bif Nat.ble nx j && Nat.blt j (nx+m) then ρc (nx0+(j - nx)) else ρ j
  have e8:∀ j,(j<nx∨nx+m≤j)→ρ' j = ρ j:=fun j hj=>by
   show (bif Nat.ble nx j && Nat.blt j (nx+m) then ρc (nx0+(j - nx)) else ρ j) = ρ j
   have:(Nat.ble nx j && Nat.blt j (nx+m))=false:=by
    cases hb:(Nat.ble nx j && Nat.blt j (nx+m)) with
    |false=>rfl
    |true=>
     simp only [Bool.and_eq_true] at hb;have h1:=Nat.le_of_ble_eq_true hb.1;have h2:=ku hb.2;omega
   rw [this];rfl
  have p8:∀ i,i<m→ρ' (nx+i) = ρc (nx0+i):=fun i hi=>by
   show (bif Nat.ble nx (nx+i) && Nat.blt (nx+i) (nx+m) then ρc (nx0+(nx+i - nx)) else ρ (nx+i))=_
   have h1:Nat.ble nx (nx+i)=true:=Nat.ble_eq_true_of_le (by omega);have h2:Nat.blt (nx+i) (nx+m)=true:=qav (by omega);rw [h1,h2,show nx+i - nx=i by omega];rfl
  have hσj:∀ k j,lkS σ k=some j→k<nx0∧j<nx:=fun k j e=>by
   have:=List.all_eq_true.1 hσ _ (ko e);simp only [Bool.and_eq_true] at this;exact⟨ku this.1,ku this.2⟩
  have hro:∀ k,k<nx0→ρc k=renR σ ρ k:=fun k hk=>hp.old k (.inl hk)
  have key:∀ k,k<nx1→renR (newN nx0 nx m ++ σ) ρ' k = ρc k:=fun k hk=>by
   have e:renR (newN nx0 nx m ++ σ) ρ' k=match lkS (newN nx0 nx m ++ σ) k with|some j=> ρ' j|none=>zj:=rfl
   rw [e,qc2,qy1];by_cases i6:nx0≤k
   ·rw [if_pos ⟨i6,by omega⟩]
    simp only;rw [p8 _ (by omega),show nx0+(k - nx0)=k by omega]
   ·rw [if_neg (by omega),hro k (by omega)]
    simp only
    cases hl:lkS σ k with
    |none=>rw [hrn k hl]
    |some j=>
     rw [hrc k j hl];exact e8 j (.inl (hσj k j hl).2)
  have keyj:∀ k,k<nx1→(lkS (newN nx0 nx m ++ σ) k).isSome=true→ρ' (nmOf (newN nx0 nx m ++ σ) k) = ρc k:=fun k hk hs=>by
   rw [← key k hk];unfold renR nmOf
   cases hl:lkS (newN nx0 nx m ++ σ) k with
   |none=>rw [hl] at hs;simp at hs
   |some j=>rfl
  have res:∀ j rr,chF (renH (newN nx0 nx m ++ σ) t6++outH ks) (resF ks (hpF pm)) j=some rr→∃ k r,hpF t6 k=some r∧nmOf (newN nx0 nx m ++ σ) k=j∧rr=r.ren (newN nx0 nx m ++ σ)∧ρ' j = ρc k∧r.all (fun k=>Nat.blt k nx1)=true:=fun j rr hj=>by
   unfold chF at hj;rw [qc2] at hj
   cases hl:lkS (renH (newN nx0 nx m ++ σ) t6) j with
   |some x=>
    rw [hl] at hj;simp only at hj;subst hj;obtain⟨k,r,h1,h2,h3⟩:=q2u hl;have h4:=List.all_eq_true.1 hc1.2 _ h1;simp only [Bool.and_eq_true] at h4;have h5:=List.all_eq_true.1 hsm _ h1;refine⟨k,r,quv hd h1,h2,h3,?_,h4.2⟩;rw [← h2]
    exact keyj k (ku h4.1) h5
   |none=>
    rw [hl] at hj;simp only [q2t] at hj
    cases hmm:memN ks j with
    |true=>rw [hmm] at hj;simp at hj
    |false=>
     rw [hmm] at hj;simp [resF,hmm] at hj
  have hra:r.all (fun k=>Nat.blt k nx1)=true:=List.all_eq_true.1 hc1.1 (0,r) (by simp);refine⟨ρ',?_,fun k hk=>e8 k hk,⟨fun j rr hj=>?_,fun j j' rr rr' b9 h1 h2 o ho=>?_⟩,hp.len,fun j hj hnj=>?_,fun j rr hj o ho=>?_⟩
  ·rw [hr]
   simp only;rw [qsv];exact (yy (fun k hk=>key k (ku hk)) r hra).symm
  ·obtain⟨k,r0,h1,h2,rfl,h4,h5⟩:=res j rr hj
   rw [h4];have hsat:=hp.sat;simp only [vf,qcf] at hsat;have hok:=hsat.ok k r0 h1
   cases r0 with
   |cells T cs=>
    obtain⟨o,v,g1,g2,g3⟩:=hok;refine⟨o,v,g1,?_,g3⟩;rw [qdj,y8 (fun k hk=>key k (ku hk)) cs h5]
    exact g2
   |tip sz T xs=>exact hok
   |own sz T xs=>exact hok
   |obj P=>exact hok
   |rows T ys cs=>
    show OwnS _ 1 T (ys++SV.evs _ (SV.rens _ cs)) _
    rw [qdj,y8 (fun k hk=>key k (ku hk)) cs h5];exact hok
  ·obtain⟨k,r0,h3,h4,_,h5,_⟩:=res j rr h1
   obtain⟨k',r0',h3',h4',_,h5',_⟩:=res j' rr' h2;rw [h5] at ho;rw [h5'];have hsat:=hp.sat;simp only [vf,qcf] at hsat;exact hsat.sep k k' r0 r0' (fun e=>b9 (by rw [← h4,← h4',e])) h3 h3' o ho
  ·refine hp.fr j hj fun k r0 hk ck=>?_
   simp only [vf] at hk;obtain⟨j',r',g1,g2⟩:=foot k r0 hk j ck;exact hnj j' r' g1 g2
  ·obtain⟨k,r0,h1,h2,_,h4,_⟩:=res j rr hj
   rw [h4] at ho;have hlc:=hp.loc k r0 (by simp only [vf,qcf];exact h1) o ho;rcases hlc with g | ⟨k',r',g1,g2⟩
   ·exact .inl g
   ·simp only [vf] at g1
    obtain⟨j',r'',g3,g4⟩:=foot k' r' g1 o g2;exact .inr ⟨j',r'',g3,g4⟩
def useW (vs0:List SV) (r6:List (Nat×Option SR)) (nx0:Nat) (r:SV) (t6:List (Nat×Option SR)) (nx1:Nat) (pm:List (Nat×Option SR)) (vs:List SV) (nx:Nat) (k:Ef→Prop):Prop:=
 fcP (addS [] (prsL vs0 vs)) fun a=>fcP (addS a (sigH (hpF pm) a r6)) fun σ=>
  vs.length=vs0.length∧okC ⟨jd 0 vs,fltH (σ.map Prod.snd) pm,nx⟩=true∧EntC σ ⟨jd 0 vs,fltH (σ.map Prod.snd) pm,nx⟩ ⟨jd 0 vs0,r6,nx0⟩∧okC ⟨[(0,r)],t6,nx1⟩=true ∧
   (qru (ju t6) && t6.all (fun q=>(lkS (newN nx0 nx (nx1 - nx0) ++ σ) q.1).isSome) && σ.all (fun q=>Nat.blt q.1 nx0 && Nat.blt q.2 nx) && Nat.ble nx0 nx1)=true ∧
   k ⟨r.ren (newN nx0 nx (nx1 - nx0) ++ σ),σ.map Prod.snd,renH (newN nx0 nx (nx1 - nx0) ++ σ) t6++outH (σ.map Prod.snd),nx+(nx1 - nx0)⟩
theorem zy {E:Env} {f:FuncId} {vs0:List SV} {r6:List (Nat×Option SR)} {nx0:Nat} {r:SV} {t6:List (Nat×Option SR)} {nx1:Nat} (h:j8 E f vs0 nx0 (hpF r6) ⟨r,ju r6,t6++kz r6,nx1⟩) {pm:List (Nat×Option SR)} {vs:List SV} {nx:Nat} {k:Ef→Prop}
  (hw:useW vs0 r6 nx0 r t6 nx1 pm vs nx k):∃ e,j8 E f vs nx (hpF pm) e∧k e:=by
 unfold useW at hw;simp only [qx9] at hw;obtain⟨h1,h2,h3,h4,h5,h6⟩:=hw;exact⟨_,zfk h _ h1 h2 h3 h4 h5,h6⟩
theorem zcw {l m:List AV} (hl:l.length=m.length) (h:∀ (i:Nat) (x y:AV),l[i]? = some x→m[i]? = some y→Wk x y):Wk (.pp l) (.pp m):=fun G v hr=>by
 cases hr with
 |pp _ b off pub hp d5 hr=>
  refine .pp m b off pub hp (by omega) fun i y z hy hz=>?_;have hi:i<l.length:=by have:=lt_of_getElem? hy;omega
  have hx:l[i]? = some l[i]:=List.getElem?_eq_getElem hi;exact h i _ y hx hy G z (hr i _ z hx hz)
theorem qxm {E:Env} {fn:Func} {R:AV→List AObj→Prop} {s:AS} {d o ver:Nat} {T:TypeId} {cs xs:List AV} (hi:s.t d = .bx o ver 0) (ho:s.st[o]? = some (.cells ver T cs)) (hw:Wk (.pp cs) (.pp xs))
  (h:ARet E fn R ⟨Av.put s.t d (.pp xs),s.st.set o .dead,s.df⟩):ARet E fn R s:=
 ⟨fun B0 w0 G a w hL hI R2 hR=>by
  obtain⟨G1,h1,h2⟩:=hI.pub hi ho;refine h.run B0 w0 G1 a w hL ⟨h2.agree,h2.defers,h2.size,fun j y hy=>?_⟩ R2 fun v G' r st' w' hG=>hR v G' r st' w' (h1.trans hG);have hj:=h2.tmps j y hy;by_cases e:j=d
  ·subst e
   simp only [wz] at hj ⊢;exact hw G1 y hj
  ·simp only at hj ⊢
   rw [y3 _ _ _ _ e] at hj ⊢
   exact hj⟩
theorem q57 {E:Env} {fn:Func} {R:AV→List AObj→Prop} {s:AS} {d o ver o2 ver2 sz cap:Nat} {T T2:TypeId} {cs xs ys pad:List AV} (hi:s.t d = .bx o ver 0) (ho:s.st[o]? = some (.cells ver T cs)) (ft:s.st[o2]? = some (.cells ver2 T2 (flat ys++pad))) (b9:o≠o2) (hw:∀ y∈ys,y.cells.length=sz) (hc:ys.length≤cap) (hl:cs.length=xs.length)
  (hx:∀ (i:Nat) (x y:AV),cs[i]? = some x→xs[i]? = some y→Wk x y∨(x = .os o2 ver2 0 ys.length cap∧y = .sl sz ys none)) (h:ARet E fn R ⟨Av.put s.t d (.pp xs),(s.st.set o .dead).set o2 .dead,s.df⟩):ARet E fn R s:=
 ⟨fun B0 w0 G a w hL hI R2 hR=>by
  obtain⟨G1,h1,h2⟩:=hI.pub hi ho;have ho3:(s.st.set o .dead)[o2]? = some (.cells ver2 T2 (flat ys++pad)):=(List.getElem?_set_ne b9).trans ft;obtain⟨vs,d6,hA,hv,hp,lq,hr⟩:=h2.agree.pubOb ho3;refine h.run B0 w0 _ a w hL ⟨hA,h2.defers_mono d6,h2.size,fun j y hy=>?_⟩ R2 fun v G' r st' w' hG=>hR v G' r st' w' (h1.trans (d6.trans hG));have hj:=(h2.tmps j y hy).mono d6;by_cases e:j=d
  ·subst e
   simp only [wz] at hj ⊢
   cases hj with
   |pp _ b off pub hp2 d5 g9=>
    refine .pp xs b off pub hp2 (by omega) fun i z u hz hu=>?_;have hi:i<cs.length:=by have:=lt_of_getElem? hz;omega
    have hg:cs[i]? = some cs[i]:=List.getElem?_eq_getElem hi;have lv:=g9 i _ u hg hu;rcases hx i _ z hg hz with hw1 | ⟨e1,rfl⟩
    ·exact hw1 _ _ lv
    ·rw [e1] at lv
     cases lv with
     |os _ _ _ _ bl _ hn bv hb=>
      have hb:=hb hv;subst hb;refine .sl sz ys none _ 0 cap vs hp hw (by rw [← lq];simp) (fun k x y g1 g2=>hr k x y (by rw [List.getElem?_append_left (lt_of_getElem? g1)];exact g1) (by simpa using g2)) (fun t ht=>by simp at ht) hc
  ·simp only at hj ⊢
   rw [y3 _ _ _ _ e] at hj ⊢
   exact hj⟩
theorem zc4 {E:Env} {fn:Func} {R:AV→List AObj→Prop} {s:AS} {d o ver sz cap:Nat} {T:TypeId} {ys pad:List AV} (hi:s.t d = .os o ver 0 ys.length cap) (ho:s.st[o]? = some (.cells ver T (flat ys++pad))) (hw:∀ y∈ys,y.cells.length=sz) (hc:ys.length≤cap)
  (h:ARet E fn R ⟨Av.put s.t d (.sl sz ys none),s.st.set o .dead,s.df⟩):ARet E fn R s:=
 ⟨fun B0 w0 G a w hL hI R2 hR=>by
  obtain⟨G1,h1,h2⟩:=hI.osPub (xs:=ys) (sz:=sz) hi ho rfl hc hw (by rw [List.length_append,z6 hw];omega) (by rw [List.drop_zero,← z6 hw,List.take_left])
  exact h.run B0 w0 G1 a w hL h2 R2 fun v G' r st' w' hG=>hR v G' r st' w' (h1.trans hG)⟩
def q78 (H:Nat→Option SR):SV→Option (Nat×Nat×List AV)
 | .tp k=>(match H k with
  |some (.own sz _ ys)=>some (k,sz,ys)
  | _=>none)
 | _=>none
def qsm (H:Nat→Option SR):List SV→Option (Nat×Nat×List AV)
 | []=>none
 |c::r=>(match q78 H c with
  |some x=>some x
  |none=>qsm H r)
theorem qzj {H:Nat→Option SR} {j sz:Nat} {ys:List AV}:∀ {cs:List SV},qsm H cs=some (j,sz,ys)→∃ T,H j=some (.own sz T ys)
 | [],h=>by simp [qsm] at h
 |c::r,h=>by
  simp only [qsm] at h;split at h
  ·rename_i x hx
   simp only [Option.some.injEq] at h;subst h;unfold q78 at hx;split at hx
   ·split at hx
    ·rename_i hk
     simp only [Option.some.injEq,Prod.mk.injEq] at hx;obtain⟨rfl,rfl,rfl⟩:=hx;exact⟨_,hk⟩
    ·simp at hx
   ·simp at hx
  ·exact qzj (cs:=r) h
def frzJ (H:Nat→Option SR) (j sz:Nat) (ys:List AV):List SV→Option (List AV)
 | []=>some []
 |c::r=>(match (match c with
   | .tp k=>bif Nat.beq k j then some (.sl sz ys none) else frz H (.tp k)
   |c=>frz H c),frzJ H j sz ys r with
  |some x,some l=>some (x::l)
  | _,_=>none)
theorem q2h {S:List AObj} {ρ : Nat→AV} {H:Nat→Option SR} (hS:SatF S ρ H) {j sz:Nat} {ys:List AV}:∀ (cs:List SV) (xs:List AV),frzJ H j sz ys cs=some xs→(SV.evs ρ cs).length=xs.length∧∀ (i:Nat) (x y:AV),(SV.evs ρ cs)[i]? = some x→xs[i]? = some y→Wk x y∨(x=tpAt (ρ j)∧y = .sl sz ys none)
 | [],xs,h=>by simp only [frzJ,Option.some.injEq] at h;subst h;exact⟨rfl,by simp [SV.evs]⟩
 |c::r,xs,h=>by
  simp only [frzJ] at h;split at h
  ·rename_i x l h1 h2
   simp only [Option.some.injEq] at h;subst h;obtain⟨g1,g2⟩:=q2h hS r l h2;refine⟨by simp [SV.evs,g1],fun i a b ha hb=>?_⟩
   cases i with
   |zero=>
    simp only [SV.evs,List.getElem?_cons_zero,Option.some.injEq] at ha hb;subst ha;subst hb;split at h1
    ·rename_i k
     cases hkj:Nat.beq k j with
     |true=>
      rw [hkj] at h1;simp only [cond_true,Option.some.injEq] at h1;rw [Nat.eq_of_beq_eq_true hkj]
      exact .inr ⟨rfl,h1.symm⟩
     |false=>
      rw [hkj] at h1;exact .inl (qh8 hS _ _ h1)
    ·exact .inl (qh8 hS _ _ h1)
   |succ i=>exact g2 i a b (by simpa [SV.evs] using ha) (by simpa using hb)
  ·simp at h
def pubK (k:Conf→Prop):List ResultVar→Conf→Prop
 | [],C=>k C
 | .tmp t::r,C=>(match lkS C.sl t with
  |some (.bx b 0)=>(match hpF C.hp b with
   |some (.cells _ cs)=>(match qsm (hpF C.hp) cs with
    |some (j,sz,ys)=>(match frzJ (hpF C.hp) j sz ys cs with
     |some xs=>pubK k r ⟨(t,.a (.pp xs))::C.sl,(j,none)::(b,none)::C.hp,C.nx⟩
     |none=>pubK k r C)
    |none=>(match frzs (hpF C.hp) cs with
     |some xs=>pubK k r ⟨(t,.a (.pp xs))::C.sl,(b,none)::C.hp,C.nx⟩
     |none=>pubK k r C))
   | _=>pubK k r C)
  |some (.tp b)=>(match hpF C.hp b with
   |some (.own sz _ ys)=>pubK k r ⟨(t,.a (.sl sz ys none))::C.sl,(b,none)::C.hp,C.nx⟩
   | _=>pubK k r C)
  | _=>pubK k r C)
 | _::r,C=>pubK k r C
theorem SatR.drop {S0:List AObj} {F:Nat→Prop} {C:Conf} {ρ t:Nat→AV} {S:List AObj} (h:SatR S0 F C ρ t S) {b o:Nat} {q:SR} (hb:hpF C.hp b=some q) (ho:∀ o',zm (ρ b)=some o'→o'=o) (hd:zm (ρ b)=some o∨S.set o .dead=S) :
  SatR S0 F ⟨C.sl,(b,none)::C.hp,C.nx⟩ ρ t (S.set o .dead):=by
 have e9:∀ k r,hpF ((b,none)::C.hp) k=some r→k≠b∧hpF C.hp k=some r:=fun k r hk=>by
  unfold hpF at hk ⊢;simp only [lkS] at hk;by_cases e:b=k
  ·subst e;simp at hk
  ·rw [ji e] at hk
   exact⟨fun h=>e h.symm,hk⟩
 rcases hd with hd|hd
 ·refine⟨h.sl,⟨fun k r hk=>?_,fun k k' r r' b9 hk s8=>h.hp.sep k k' r r' b9 (e9 k r hk).2 (e9 k' r' s8).2⟩,fun k r hk=>h.own k r (e9 k r hk).2,fun j hj hF=>?_,by simpa using h.len,h.wsl,fun k r hk=>h.whp k r (e9 k r hk).2⟩
  ·obtain⟨b9,hk⟩:=e9 k r hk
   refine SR.ok_of (f:=fun _=>true) (SR.all_mono (fun _ _=>rfl) r (h.whp k r hk).2) (fun _ _=>rfl) (h.hp.ok k r hk) fun j hj=>?_;have:o≠j:=fun e=>h.hp.sep b k _ r (fun e=>b9 e.symm) hb hk o hd (e▸hj);rw [List.getElem?_set_ne this]
  ·have:o≠j:=fun e=>by
    rcases h.own b _ hb o hd with g|g
    ·omega
    ·exact hF (e▸g)
   rw [List.getElem?_set_ne this];exact h.low j hj hF
 ·rw [hd]
  exact⟨h.sl,⟨fun k r hk=>h.hp.ok k r (e9 k r hk).2,fun k k' r r' b9 hk s8=>h.hp.sep k k' r r' b9 (e9 k r hk).2 (e9 k' r' s8).2⟩,fun k r hk=>h.own k r (e9 k r hk).2,h.low,h.len,h.wsl,fun k r hk=>h.whp k r (e9 k r hk).2⟩
theorem SatR.slot {S0:List AObj} {F:Nat→Prop} {C:Conf} {ρ t:Nat→AV} {S:List AObj} (h:SatR S0 F C ρ t S) (d:Nat) {y:AV}:SatR S0 F ⟨(d,.a y)::C.sl,C.hp,C.nx⟩ ρ (Av.put t d y) S:=by
 refine⟨fun x v hx=>?_,h.hp,h.own,h.low,h.len,fun x v hx=>?_,h.whp⟩
 ·simp only [lkS] at hx
  by_cases e:d=x
  ·subst e
   simp at hx;subst hx;exact wz _ _ _
  ·rw [ji e] at hx
   simp only [cond_false] at hx;exact (y3 _ _ _ _ (fun h=>e h.symm)).trans (h.sl x v hx)
 ·simp only [lkS] at hx
  by_cases e:d=x
  ·subst e
   simp at hx;subst hx;rfl
  ·rw [ji e] at hx
   exact h.wsl x v hx
theorem SatR.pub {S0:List AObj} {F:Nat→Prop} {C:Conf} {ρ t:Nat→AV} {S:List AObj} (h:SatR S0 F C ρ t S) {d b o:Nat} {T:TypeId} {cs:List SV} {xs:List AV} (hb:hpF C.hp b=some (.cells T cs)) (ho:zm (ρ b)=some o) :
  SatR S0 F ⟨(d,.a (.pp xs))::C.sl,(b,none)::C.hp,C.nx⟩ ρ (Av.put t d (.pp xs)) (S.set o .dead):=
 (h.drop hb (fun o' d7=>by rw [ho] at d7;simpa using d7.symm) (.inl ho)).slot d
theorem zc5 {E:Env} {fn:Func} {R:AV→List AObj→Prop} {s:AS} {d:Nat} {x r:AV} (hi:s.t d=x) (hw:Wk x r) (h:ARet E fn R ⟨Av.put s.t d r,s.st,s.df⟩):ARet E fn R s:=
 ⟨fun B0 w0 G a w hL hI R2 hR=>h.run B0 w0 G a w hL ⟨hI.agree,hI.defers,hI.size,fun j y hy=>by
  have hj:=hI.tmps j y hy;by_cases e:j=d
  ·subst e
   simp only [wz];rw [hi] at hj;exact hw G y hj
  ·simp only
   rw [y3 _ _ _ _ e]
   exact hj⟩ R2 hR⟩
theorem qaq {E:Env} {fn:Func} {R:AV→List AObj→Prop} {S0:List AObj} {F:Nat→Prop} {ρ : Nat→AV} {k:Conf→Prop} (hk:∀ C t S,k C→SatR S0 F C ρ t S→ARet E fn R ⟨t,S,[]⟩):∀ {l:List ResultVar} {C:Conf} {t:Nat→AV} {S:List AObj},pubK k l C→SatR S0 F C ρ t S→ARet E fn R ⟨t,S,[]⟩
 | [],C,t,S,h,hR=>hk C t S h hR
 | .cell _ _::r,C,t,S,h,hR=>qaq hk (l:=r) h hR
 | .tmp d::r,C,t,S,h,hR=>by
  simp only [pubK] at h;split at h
  ·rename_i b hd
   split at h
   ·rename_i T cs hb
    obtain⟨o,v,e1,e2,e3⟩:=hR.hp.ok b _ hb;have ht:=hR.sl d _ hd;simp only [SV.ev,e1,bxAt] at ht;split at h
    ·rename_i j sz ys hj
     split at h
     ·rename_i xs hx
      obtain⟨T2,hj⟩:=qzj hj;obtain⟨w1,w2⟩:=q2h hR.hp cs xs hx;have hbj:b≠j:=fun e=>by subst e;rw [hb] at hj;simp at hj
      have hP:=hR.pub (d:=d) (xs:=xs) hb (by rw [e1];rfl)
      have hj2:hpF ((b,none)::C.hp) j=some (.own sz T2 ys):=by
       unfold hpF at hj ⊢;simp only [lkS,ji hbj,cond_false];exact hj
      rcases hR.hp.ok j _ hj with⟨rfl,f1⟩ | ⟨o2,ver2,cap,pad,f1,f2,f3,f4,f5,f6⟩
      ·refine qxm ht e2 (zcw w1 fun i x y hx hy=>?_) (qaq hk (l:=r) h ?_)
       ·rcases w2 i x y hx hy with g | ⟨g1,g2⟩
        ·exact g
        ·subst g1 g2
         unfold tpAt;rw [f1.one];exact f1.wk sz
       ·have:=hP.drop (o:=S.length) hj2 (fun o' d7=>by rw [f1.loc] at d7;simp at d7) (.inr (List.set_eq_of_length_le (by simp)))
        rwa [List.set_eq_of_length_le (by simp)] at this
      ·have b9:o≠o2:=fun e=>hR.hp.sep b j _ _ hbj hb hj o (by rw [e1];rfl) (by rw [f1,e];rfl)
       refine q57 ht e2 f2 b9 f4 f5 w1 (fun i x y hx hy=>?_) (qaq hk (l:=r) h (hP.drop hj2 (fun o' d7=>?_) (.inl (by rw [f1];rfl))))
       ·rcases w2 i x y hx hy with g | ⟨g1,g2⟩
        ·exact .inl g
        ·exact .inr ⟨by rw [g1,f1];rfl,g2⟩
       ·rw [f1] at d7
        simpa [zm] using d7.symm
     ·exact qaq hk (l:=r) h hR
    ·split at h
     ·rename_i xs hx
      obtain⟨w1,w2⟩:=qed hR.hp cs xs hx;exact qxm ht e2 (zcw w1 w2) (qaq hk (l:=r) h (hR.pub hb (by rw [e1];rfl)))
     ·exact qaq hk (l:=r) h hR
   ·exact qaq hk (l:=r) h hR
  ·rename_i b hd
   split at h
   ·rename_i sz T ys hb
    have ht:=hR.sl d _ hd;have hok:=hR.hp.ok b _ hb;simp only [SV.ev,qqw hok] at ht;rcases hok with⟨rfl,f1⟩ | ⟨o,ver,cap,pad,f1,f2,f3,f4,f5,f6⟩
    ·have hP:=hR.drop (o:=S.length) hb (fun o' d7=>by rw [f1.loc] at d7;simp at d7) (.inr (List.set_eq_of_length_le (by simp)))
     rw [List.set_eq_of_length_le (by simp)] at hP;exact zc5 ht (f1.wk sz) (qaq hk (l:=r) h (hP.slot d))
    ·rw [f1] at ht
     have hP:=hR.drop (o:=o) hb (fun o' d7=>by rw [f1] at d7;simpa [zm] using d7.symm) (.inl (by rw [f1];rfl));exact zc4 ht f2 f4 f5 (qaq hk (l:=r) h (hP.slot d))
   ·exact qaq hk (l:=r) h hR
  ·exact qaq hk (l:=r) h hR
def retP (P:Program) (fn:Func) (r0:AV) (e:Exit) (C:Conf):Prop:=
 match e with
 | .normal=>pubK (fun C=>ansW P fn C fun y=>Tl y r0) fn.results.toList C
 | .ret=>pubK (fun C=>ansW P fn C fun y=>Tl y r0) fn.results.toList C
 | _=>False
theorem qlt {E:Env} {f:FuncId} {fn:Func} {c:Code} {args:List AV} {st:List AObj} {r0:AV} (vs:List SV) (hp:Pure r0) (hf:E.P.funcs[f]? = some fn) (hb:fn.body=some c) (hn:Nat.ble args.length fn.ntmps=true) (hv:∀ ρ,SV.evs ρ vs=args) (hc:okC ⟨jd 0 vs,[],0⟩=true)
  (h:∀ S0,numK 0 vs fun sl=>Sm E none fn.ntmps ⟨S0,fun _=>False,fun _=>zj,0,False⟩ c (retP E.P fn r0) ⟨sl,[],0⟩):qn E f args st fun r st'=>r=r0∧st'=st:=by
 simp only [qoe] at h;refine zb hp (qr hf hb (Nat.le_of_ble_eq_true hn) ?_)
 have d8:SatC ⟨st++[],fun _=>False,fun _=>zj,0,False⟩ ⟨jd 0 vs,[],0⟩ ⟨argT args,st++[],[]⟩:=by
  refine⟨fun _=>zj,⟨nofun,List.nodup_nil,fun _ _=>rfl,Nat.le_refl _,nofun⟩,⟨fun d v hd=>?_,⟨fun k r hk=>?_,fun k k' r r' _ hk=>?_⟩,fun k r hk=>?_,fun _ _ _=>rfl,Nat.le_refl _,fun d v hd=>?_,fun k r hk=>?_⟩⟩
  ·obtain⟨j,h1,h2⟩:=qc3 hd
   have:args[j]? = some (v.ev fun _=>zj):=by rw [← hv fun _=>zj,wi,List.getElem?_map,h2];rfl
   rw [h1,Nat.zero_add];simp only [argT,List.getD,this,Option.getD_some]
  ·simp [hpF,lkS] at hk
  ·simp [hpF,lkS] at hk
  ·simp [hpF,lkS] at hk
  ·simp only [okC,Bool.and_eq_true] at hc
   exact List.all_eq_true.1 hc.1 _ (ko hd)
  ·simp [hpF,lkS] at hk
 refine ((h (st++[])).run _ d8).mono fun e s' ⟨C',hq,fx⟩=>?_;obtain⟨t,S,df⟩:=s';obtain⟨ρ,i8,hR⟩:=fx;simp only at i8 hR
 have fin:pubK (fun C=>ansW E.P fn C fun y=>Tl y r0) fn.results.toList C'→ARet E fn (fun r st2=>r=r0∧∃ ext,st2=st++ext) ⟨t,S,df⟩:=fun h=>by
  refine qg2 hR (fun x hx=>i8.dm x hx) i8.nd fun S' lk=>?_;refine qaq (fun C t S h lk=>?_) h lk;obtain⟨y,h1,h2⟩:=q1z lk h;refine qo rfl (w9 h1 h2.ok) ⟨rfl,?_⟩;have hl:=lk.len;rw [List.append_nil] at hl
  exact qk1 hl fun k hk=>by
   have:=lk.low k (by simpa using hk) (fun h=>h);rw [List.append_nil] at this;exact this
 cases e with
 |normal=>exact fin hq
 |ret=>exact fin hq
 | _=>exact hq.elim
section
variable {E : Env} {N : Nat} {ops : Array Oper} {nx : Nat} {sl : List (Nat × SV)} {H : Nat → Option SR} {k : Ef → Prop} {d : Option Tmp} {T : TypeId} {p : String} {af : Array Edge}
theorem qlk {t e e':TypeId} {x y:Operand} {b sz i:Nat} {agg:Bool} {xs:List AV} {kd:IntKind} {v:SV} (hx:sval N sl x=some (.tp b)) (hH:H b=some (.own sz e xs)) (hy:sval N sl y=some v) (hv:qe0 v=some (kd,(i:Int))) (he:elT (E.P.underlying t)=some e') (ht:tyOf E.P e'=some (sz,agg)) (hi:i<xs.length)
  (h:k ⟨.bx b (0+i * sz),[b],[],nx⟩):∃ e,Loc E N ops ⟨d,.indexAddr t x y,T,p,af,none⟩ nx sl H e∧k e:=by
 refine⟨_,xz (v:=.bx b (0+i * sz)) fun df rd K rest ρ t' S hs hS hk=>?_,h⟩;rcases hS.ok b _ ((w6 b).trans hH) with⟨rfl,_⟩ | ⟨o,ver,cap,pad,e1,e2,_⟩
 ·simp at hi
 ·refine qon (o:=o) (ver:=ver) (off:=0) (len:=xs.length) (cp:=cap+1) ((qv hs hx).trans (by simp [SV.ev,e1,tpAt,AV.one])) ((qv hs hy).trans (qb5 hv ρ)) (qct he) ht rfl hi ?_
  simpa only [SV.ev,e1,bxAt] using hk
theorem q68 {sz i j sz':Nat} {agg:Bool} {xs pad:List AV} {z r:AV} (hw:∀ x∈xs,x.cells.length=sz) (hz:xs[i]? = some z) (hr:jo sz' agg j z.cells=some r) (hj:j+sz'≤sz) (h1:agg=false→0<sz'):jo sz' agg (0+i * sz+j) (flat xs++pad)=some r:=by
 have hg:=q3e (pad:=pad) hw hz;have sn:=hw z (List.mem_of_getElem? hz)
 have d5:i * sz+sz≤(flat xs++pad).length:=by
  have:=congrArg List.length hg;simp only [List.length_take,List.length_drop] at this;have h1:i * sz≤xs.length * sz:=Nat.mul_le_mul_right _ (by have:=lt_of_getElem? hz;omega);have h2:(flat xs++pad).length=xs.length * sz+pad.length:=by rw [List.length_append,z6 hw]
  omega
 unfold jo at hr ⊢;rw [Nat.zero_add]
 cases agg with
 |true=>
  simp only [cond_true] at hr ⊢;have b1:Nat.ble (i * sz+j+sz') (flat xs++pad).length=true:=Nat.ble_eq_true_of_le (by omega);have b2:Nat.ble (j+sz') z.cells.length=true:=Nat.ble_eq_true_of_le (by omega);rw [b2] at hr;rw [b1];simp only [cond_true] at hr ⊢;rw [← hr,← hg];congr 2;apply List.ext_getElem?;intro q;simp only [List.getElem?_take,List.getElem?_drop];by_cases hq:q<sz'
  ·rw [if_pos hq,if_pos hq,if_pos (by omega)]
   congr 1;omega
  ·rw [if_neg hq,if_neg hq]
 |false=>
  simp only [cond_false] at hr ⊢;have:=h1 rfl;rw [← hr,← hg,List.getElem?_take_of_lt (by omega),List.getElem?_drop]
theorem qqh {t e:TypeId} {x:Operand} {b off sz i j sz':Nat} {agg:Bool} {xs:List AV} {z r:AV} (hx:sval N sl x=some (.bx b off)) (hH:H b=some (.own sz e xs)) (ht:tyOf E.P t=some (sz',agg)) (ho:off=0+i * sz+j) (hz:xs[i]? = some z) (hr:jo sz' agg j z.cells=some r) (hj:(Nat.ble (j+sz') sz && (agg ||Nat.blt 0 sz'))=true)
  (h:k ⟨nf r,[b],[],nx⟩):∃ e,Loc E N ops ⟨d,.load t x,T,p,af,none⟩ nx sl H e∧k e:=by
 simp only [Bool.and_eq_true,Bool.or_eq_true] at hj;refine⟨_,xz (v:=nf r) fun df rd K rest ρ t' S hs hS hk=>?_,h⟩;rcases hS.ok b _ ((w6 b).trans hH) with⟨rfl,_⟩ | ⟨o,ver,cap,pad,e1,e2,e3,e4,_⟩
 ·simp at hz
 ·subst ho
  refine j9 (o:=o) (ver:=ver) (off:=0+i * sz+j) ((qv hs hx).trans (by simp only [SV.ev,e1,bxAt])) e2 ht (q68 e4 hz hr (Nat.le_of_ble_eq_true hj.1) fun e=>?_) (by rw [← qli ρ r];exact hk);rcases hj.2 with h|h
  ·rw [e] at h;simp at h
  ·exact ku h
theorem qsz (A Z B us:List AV) (j:Nat) (h:j+us.length≤Z.length):zr (A++Z++B) (A.length+j) us=A++zr Z j us++B:=by
 unfold zr;rw [List.append_assoc A Z B,List.take_length_add_append,List.take_append_of_le_length (by omega),Nat.add_assoc,List.drop_length_add_append,List.drop_append_of_le_length (by omega)];simp
theorem q4n {sz i j:Nat} {xs pad us:List AV} {z z':AV} (hw:∀ x∈xs,x.cells.length=sz) (hz:xs[i]? = some z) (dn:z'.cells=zr z.cells j us) (hj:j+us.length≤sz):zr (flat xs++pad) (0+i * sz+j) us=flat (xs.set i z')++pad∧z'.cells.length=sz:=by
 have sn:=hw z (List.mem_of_getElem? hz);have hl:z'.cells.length=sz:=by rw [dn];simp [zr];omega
 have hi:=lt_of_getElem? hz;refine⟨?_,hl⟩;rw [← qye hw hl hi];have hg:=q3e (pad:=pad) hw hz
 have hA:((flat xs++pad).take (i * sz)).length=i * sz:=by
  have h1:i * sz≤xs.length * sz:=Nat.mul_le_mul_right _ (by omega);rw [List.length_take,List.length_append,z6 hw];omega
 generalize flat xs++pad=cs at hg hA
 have nj:cs=cs.take (i * sz)++z.cells++(cs.drop (i * sz)).drop sz:=by
  rw [← hg,List.append_assoc,List.take_append_drop,List.take_append_drop]
 have e1:=qsz (cs.take (i * sz)) z.cells ((cs.drop (i * sz)).drop sz) us j (by omega);have e2:=qsz (cs.take (i * sz)) z.cells ((cs.drop (i * sz)).drop sz) z'.cells 0 (by omega);rw [hA,← nj] at e1 e2
 have e3:zr z.cells 0 z'.cells=z'.cells:=by
  unfold zr;rw [Nat.zero_add,List.drop_eq_nil_of_le (by omega)];simp
 rw [Nat.add_zero,e3] at e2;rw [Nat.zero_add,e1,e2,dn]
theorem q79 {t e:TypeId} {x y:Operand} {b off sz i j sz':Nat} {agg:Bool} {xs:List AV} {z z' u:AV} {v:SV} (hx:sval N sl x=some (.bx b off)) (hy:sval N sl y=some v) (hv:∀ ρ,v.ev ρ = u) (hH:H b=some (.own sz e xs)) (ht:tyOf E.P t=some (sz',agg)) (ho:off=0+i * sz+j) (hz:xs[i]? = some z) (dn:z'.cells=zr z.cells j u.cells)
  (hj:(u.okc && Nat.beq u.cells.length sz' && kr u.cells && Nat.ble (j+sz') sz)=true) (h:k ⟨.a (.v undef),[b],[(b,some (.own sz e (xs.set i z')))],nx⟩):∃ e,Loc E N ops ⟨d,.store t x y,T,p,af,none⟩ nx sl H e∧k e:=by
 simp only [Bool.and_eq_true] at hj;obtain⟨⟨⟨j1,j2⟩,j3⟩,j4⟩:=hj;have j2:=Nat.eq_of_beq_eq_true j2;have j4:=Nat.le_of_ble_eq_true j4;refine⟨_,fun df rd K rest ρ t' S hs hS hk=>?_,h⟩;have hok:=hS.ok b _ ((w6 b).trans hH);rcases hok with⟨rfl,_⟩ | ⟨o,ver,cap,pad,e1,e2,e3,e4,e5,e6⟩
 ·simp at hz
 ·subst ho
  obtain⟨q1,q2⟩:=q4n (pad:=pad) e4 hz dn (by omega);have d9:=lt_of_getElem? hz
  refine qgz (o:=o) (ver:=ver) (off:=0+i * sz+j) (xs:=u.cells) ((qv hs hx).trans (by simp only [SV.ev,e1,bxAt])) ((qv hs hy).trans (hv ρ)) e2 ht j1 rfl j2 (by simpa [kr] using j3) (by
   have h1:i * sz+sz≤xs.length * sz:=by rw [← Nat.succ_mul];exact Nat.mul_le_mul_right _ d9
   rw [List.length_append,z6 e4]
   omega) ?_
  rw [q1]
  have r9:∀ y∈xs.set i z',y.cells.length=sz:=fun y hy=>by
   rcases List.mem_or_eq_of_mem_set hy with h|rfl
   ·exact e4 y h
   ·exact q2
  have key:∀ k r,chF [(b,some (.own sz e (xs.set i z')))] (resF [b] H) k=some r→k=b∧r = .own sz e (xs.set i z'):=fun k r hk=>by
   simp only [chF,lkS] at hk;by_cases e:b=k
   ·subst e
    have:Nat.beq b b=true:=by simp
    rw [this] at hk;simp only [cond_true,Option.some.injEq] at hk;exact⟨rfl,hk.symm⟩
   ·rw [ji e] at hk
    have:=(wd hk).1;simp only [memN,List.any_cons,List.any_nil,Bool.or_false] at this;exact absurd (Nat.eq_of_beq_eq_true this).symm e
  refine hk ρ _ ⟨fun _ _=>rfl,⟨fun k r hk=>?_,fun k k' r r' b9 g1 g2=>?_⟩,by simp,fun j hj b9=>?_,fun k r hk o' d7=>?_⟩
  ·obtain⟨rfl,rfl⟩:=key k r hk
   refine .inr ⟨o,ver,cap,pad,by rw [e1,List.length_set],qbl e2,?_,r9,by rw [List.length_set];exact e5,e6⟩;rw [List.length_append,z6 r9,List.length_set,← z6 e4,← List.length_append];exact e3
  ·exact absurd ((key k r g1).1.trans (key k' r' g2).1.symm) b9
  ·have:=b9 b _ ((w6 b).trans hH)
   rw [e1] at this;exact List.getElem?_set_ne (fun e=>this (by rw [e];rfl))
  ·obtain⟨rfl,rfl⟩:=key k r hk
   exact .inr ⟨k,_,(w6 k).trans hH,d7⟩
structure OwnR (sz:Nat) (T:TypeId) (ys:List AV) (st:List AObj) (c r:AV) (st':List AObj):Prop where
 ok:OwnS st' sz T ys r
 len:st.length≤st'.length
 same:∀ j,j<st.length→zm c≠some j→st'[j]? = st[j]?
 loc:∀ o,zm r=some o→st.length≤o∨zm c=some o
theorem qog {S:List AObj} {sz:Nat} {T:TypeId} {xs:List AV} {c:AV} (h:OwnS S sz T xs c):tpAt c=c:=qqw h
theorem qpw {f:FuncId} {sz:Nat} {T0:TypeId} {xs ys:List AV} (args:List AV) (hc:okC ⟨jd 0 (.tp 0::args.map .a),[(0,some (.own sz T0 xs))],1⟩=true)
  (h:∀ st c,OwnS st sz T0 xs c→qn E f (c::args) st fun r st'=>OwnR sz T0 ys st c r st'):j8 E f (.tp 0::args.map .a) 1 (hpF [(0,some (.own sz T0 xs))]) ⟨.tp 1,ju [(0,some (.own sz T0 xs))],[(1,some (.own sz T0 ys))]++kz [(0,some (.own sz T0 xs))],2⟩:=fun ρ S hS=>by
 simp only [vf] at hS;have hok:OwnS S sz T0 xs (ρ 0):=hS.ok 0 _ rfl
 have e:SV.evs ρ (.tp 0::args.map .a) = ρ 0::args:=by
  simp only [SV.evs,SV.ev,qog hok,wi,List.map_map];congr 1
  conv=>rhs;rw [← List.map_id args]
  exact List.map_congr_left fun x _=>rfl
 rw [e];refine (h S (ρ 0) hok).mono fun r S' hr=>⟨upd ρ 1 r,?_,?_⟩
 ·simp only [SV.ev,ve,qog hr.ok]
 ·have key:∀ k q,hpF [(1,some (.own sz T0 ys))] k=some q→k=1∧q = .own sz T0 ys:=fun k q hk=>by
   have:=wy hk;simp only [lkS] at this
   cases hb:Nat.beq 1 k with
   |true=>
    rw [hb] at this;simp only [cond_true,Option.some.injEq] at this
    exact⟨(Nat.eq_of_beq_eq_true hb).symm,this.symm⟩
   |false=>rw [hb] at this;simp at this
  refine⟨fun k hk=>ye _ _ (by simp only at hk;omega),?_,hr.len,fun j hj hn=>?_,fun k q hk o ho=>?_⟩
  ·simp only [vf,qcf]
   refine⟨fun k q hk=>?_,fun k k' q q' b9 h1 h2=>absurd ((key k q h1).1.trans (key k' q' h2).1.symm) b9⟩;obtain⟨rfl,rfl⟩:=key k q hk;rw [ve];exact hr.ok
  ·simp only [vf] at hn
   exact hr.same j hj (hn 0 _ rfl)
  ·simp only [vf,qcf] at hk ⊢
   obtain⟨rfl,rfl⟩:=key k q hk;rw [ve] at ho;rcases hr.loc o ho with h|h
   ·exact .inl h
   ·exact .inr ⟨0,_,rfl,h⟩
theorem q02 {f:FuncId} {sz:Nat} {T0:TypeId} {ys:List AV} {nx:Nat} {H:Nat→Option SR} (args:List AV) (vs:List SV) (hv:∀ ρ,SV.evs ρ vs=args)
  (h:∀ st,qn E f args st fun r st'=>OwnR sz T0 ys st (.v undef) r st'):j8 E f vs nx H ⟨.tp nx,[],[(nx,some (.own sz T0 ys))],nx+1⟩:=fun ρ S hS=>by
 rw [hv];refine (h S).mono fun r S' hr=>⟨upd ρ nx r,?_,?_⟩
 ·simp only [SV.ev,ve,qog hr.ok]
 ·have key:∀ k q,chF [(nx,some (SR.own sz T0 ys))] (resF [] H) k=some q→k=nx∧q = .own sz T0 ys:=fun k q hk=>by
   simp only [chF,lkS] at hk
   cases hb:Nat.beq nx k with
   |true=>
    rw [hb] at hk;simp only [cond_true,Option.some.injEq] at hk
    exact⟨(Nat.eq_of_beq_eq_true hb).symm,hk.symm⟩
   |false=>
    rw [hb] at hk;simp [resF,memN] at hk
  refine⟨fun k hk=>ye _ _ (by simp only at hk;omega),⟨fun k q hk=>?_,fun k k' q q' b9 h1 h2=>absurd ((key k q h1).1.trans (key k' q' h2).1.symm) b9⟩,hr.len,fun j hj _=>hr.same j hj (by simp [zm]),fun k q hk o ho=>?_⟩
  ·obtain⟨rfl,rfl⟩:=key k q hk
   rw [ve];exact hr.ok
  ·obtain⟨rfl,rfl⟩:=key k q hk
   rw [ve] at ho;rcases hr.loc o ho with h|h
   ·exact .inl h
   ·simp [zm] at h
end
end Go.Av
namespace Go.Proofs.YtihlchbgjdkmpaaGreatDoor
open Go Go.Av Go.RowKit Go.Proofs Go.Pl
def accK (l:qa) (r:List qa) (k:Nat):List qa:=ya 32 (yj l)::(r.take k).map fun s=>ya 46 (s.drop 1)
theorem q5z {l:qa} {r:List qa} {k:Nat} {a:qa} (h:r[k]? = some a):(accK l r (k+1)).map (fun x=>Sv x)=(accK l r k).map (fun x=>Sv x)++[Sv (ya 46 (a.drop 1))]:=by
 obtain⟨d9,rfl⟩:=List.getElem?_eq_some_iff.1 h;unfold accK;rw [← List.take_append_getElem d9];simp only [List.map_append,List.map_cons,List.map_nil,List.cons_append]
set_option maxHeartbeats 4000000 in
theorem qmf (ls:List qa) (st:List AObj) (hB:LsB ls):qn E 218 [Ss ls] st fun r st'=>r=qfq ls∧st'=st:=by
 refine zx [.a (Ss ls)] (q0i _) Tryz.func218 rfl rfl (fun _=>rfl) rfl fun S0=>?_;have hL:=hB.len;have o7:(ls.map fun x=>Sv x).length=ls.length:=by simp
 cases ls with
 |nil=>
  apply qd [2]
  repeat' (first|apply And.intro|(intro h;try exact cDd)|exact cSd|apply qb [2]|refine exr ?_|refine qi ?_)
 |cons l r=>
  have hl:=hB.val l (by simp);simp only [List.length_cons] at hL o7;have hget0:((l::r).map fun x=>Sv x)[0]? = some (Sv l):=rfl;have hrm:(r.map fun x=>Sv x).length=r.length:=by simp
  by_cases h4:qs l=4
  ·have hkf:=qnc.1 h4
   have hcu:=fun st=>q4w l st (by omega) h4;have pq:=fun st=>q3c (yj l) 32 st;apply qd [2,31];repeat' (first|apply And.intro|(intro h;try exact cDd)|(refine Exists.intro (0) ⟨by omega,_,hget0,?_⟩)|exact⟨Tryz.call258⟩|refine cpe hcu ?_|exact⟨Tryz.call112⟩|refine cpe pq ?_|exact cSd|apply qb [2,31]|refine exr ?_|refine qi ?_)
   refine w7 (X:=Nat) (fun k=>⟨[(2,.bx 0 0),(4,.s (j7 l)),(7,.tp 1),(33,.a (.sl 1 (r.map fun x=>Sv x) none)),(34,.i (r.map fun x=>Sv x).length),(35,.i k)],[(0,some (.cells 77 [.s [],.s []])),(1,some (.tip 1 9 ((accK l r k).map fun x=>Sv x)))],2⟩) (fun k=>k≤r.length∧∀ x∈r.take k,qs x=3) (fun k=>r.length - k) 0 ⟨by omega,by simp⟩ ?_ ?_
   ·skip
    repeat' (first|apply And.intro|(intro h;try exact cDd)|exact cSd|apply qb []|refine exr ?_|refine qi ?_)
   ·rintro k ⟨hk,h3⟩
    have hacl:((accK l r k).map fun x=>Sv x).length=k+1:=by unfold accK;simp;omega
    by_cases d9:k<r.length
    ·obtain⟨a,ha⟩:∃ a,r[k]? = some a:=⟨_,List.getElem?_eq_getElem d9⟩
     have e9:(r.map fun x=>Sv x)[k]? = some (Sv a):=by simp [ha]
     have hav:=hB.val a (by simp [List.mem_of_getElem? ha]);have hka:=fun st=>qkd a st (by omega);have ht2:=fun st=>q3c (a.drop 1) 46 st;have dk:=q5z (l:=l) ha;by_cases pf:qs a=3
     ·obtain⟨h2,_⟩:=qtp pf
      simp only [pf] at hka
      have bt:r.take (k+1)=r.take k++[a]:=by
       obtain⟨_,rfl⟩:=List.getElem?_eq_some_iff.1 ha;rw [List.take_append_getElem]
      apply qd [];repeat' (first|apply And.intro|(intro h;try exact cDd)|(refine Exists.intro (k) ⟨by omega,_,e9,?_⟩)|exact⟨Tryz.call156⟩|refine cpe hka ?_|exact⟨Tryz.call112⟩|refine cpe ht2 ?_|(refine Exists.intro (k+1) ⟨⟨by omega,by rw [bt];exact qqe h3 pf⟩,by omega,?_⟩)|exact cSd|apply qb []|refine exr ?_|refine qi ?_)
      all_goals first|(rw [dk];done)|(rw [dk];simp [SV.evs,SV.ev];done)|(simp only [List.length_cons,List.length_nil];omega)
     ·have sd:jr (l::r)=(([],[]),2):=if_neg fun h=>pf (h.2.2 a (List.mem_of_getElem? ha))
      unfold qfq;rw [sd];apply qd [];repeat' (first|apply And.intro|(intro h;try exact cDd)|(refine Exists.intro (k) ⟨by omega,_,e9,?_⟩)|exact⟨Tryz.call156⟩|refine cpe hka ?_|exact absurd (by assumption) pf|exact cSd|apply qb []|refine exr ?_|refine qi ?_)
    ·rw [List.take_of_length_le (by omega)] at h3
     have hkr:k=r.length:=by omega
     subst hkr;have hok:qqy (l::r):=⟨by simp,h4,h3⟩;have hjl:=qz9 r fun s hs=>hB.val s (by simp [hs]);have hj:=q7p (ya 32 (yj l)) r;have hjv:Lib.join (accK l r r.length) [10]=qah l r:=by unfold accK;rw [List.take_length];exact hj
     have htr:(ya 32 (yj l)).length≤l.length:=by unfold ya yj;split <;> simp <;> omega
     have hvl:(qah l r).length≤140737488355328:=by
      unfold qah;rw [List.length_append];omega
     have hjn:=fun tip st=>q2q (accK l r r.length) tip [10] (qah l r) st hjv (by rw [← List.length_map (f:=fun x=>Sv x),hacl];omega) hvl;have hkl:(j7 l).length<4294967281:=by have:=hkf.2.2.2.1;omega
     have pw:jr (l::r)=if 1000<(qah l r).length then (([],[]),6) else ((j7 l,qah l r),0):=if_pos hok;have hjn0:=hjn none;unfold qfq;by_cases hv:1000<(qah l r).length
     ·have hcf:vo (j7 l,qah l r)=6:=(if_neg (by simpa using hkf.2.2)).trans (if_pos hv)
      have cz:=fun st=>qh7 (j7 l,qah l r) st hkl (by rw [hcf];decide);rw [hcf] at cz;rw [pw,if_pos hv];apply qd [10];repeat' (first|apply And.intro|(intro h;try exact cDd)|exact⟨Tryz.call97⟩|refine cpe hjn0 ?_|exact⟨Tryz.call201⟩|refine cpe cz ?_|exact cSd|apply qb [10]|refine exr ?_|refine qi ?_)
     ·have hcf:vo (j7 l,qah l r)=0:=(if_neg (by simpa using hkf.2.2)).trans (if_neg hv)
      have cz:=fun st=>qh6 (j7 l,qah l r) st hkl hcf;rw [pw,if_neg hv];apply qd [10];repeat' (first|apply And.intro|(intro h;try exact cDd)|exact⟨Tryz.call97⟩|refine cpe hjn0 ?_|exact⟨Tryz.call201⟩|refine cpe cz ?_|exact cSd|apply qb [10]|refine exr ?_|refine qi ?_)
  ·have sd:jr (l::r)=(([],[]),2):=if_neg fun h=>h4 h.2.1
   have hcu:=fun st=>q1g l st (by omega) h4;unfold qfq;rw [sd];apply qd [2];repeat' (first|apply And.intro|(intro h;try exact cDd)|(refine Exists.intro (0) ⟨by omega,_,hget0,?_⟩)|exact⟨Tryz.call258⟩|refine cpe hcu ?_|exact cSd|apply qb [2]|refine exr ?_|refine qi ?_)
end Go.Proofs.YtihlchbgjdkmpaaGreatDoor
namespace Go.Av
open Go Go.RowKit
def qbf (kind:TypeDesc) (k:Value):List (Value×Value)→Nat→Option (Option (Nat×Value))
 | [],_=>some none
 |e::es,i=>match Instr.sameNow kind k e.1 with
  |some true=>some (some (i,e.2))
  |some false=>qbf kind k es (i+1)
  |none=>none
theorem qo2 (kind:TypeDesc) (k:Value):∀ (es:List MapEntry) (i:Nat),Instr.findNow kind k es i=qbf kind k (es.map fun e=>(e.key,e.val)) i
 | [],_=>rfl
 |e::es,i=>by
  rw [List.map_cons,Instr.findNow,qbf]
  cases Instr.sameNow kind k e.key with
  |none=>rfl
  |some b=>cases b with
   |true=>rfl
   |false=>exact qo2 kind k es (i+1)
def mset (kvs:List (Value×Value)) (k v:Value):Option (Nat×Value)→List (Value×Value)
 |some (i,_)=>kvs.set i (k,v)
 |none=>kvs++[(k,v)]
theorem qyx {kind:TypeDesc} {k:Value}:∀ {kvs:List (Value×Value)} {n i:Nat} {v:Value},qbf kind k kvs n=some (some (i,v))→n≤i∧∃ q,kvs[i - n]? = some (q,v)∧Instr.sameNow kind k q=some true
 | [],_,_,_,h=>by simp [qbf] at h
 |e::es,n,i,v,h=>by
  unfold qbf at h
  cases hs:Instr.sameNow kind k e.1 with
  |none=>rw [hs] at h;simp at h
  |some b=>
   rw [hs] at h
   cases b with
   |true=>
    simp only [Option.some.injEq,Prod.mk.injEq] at h;obtain⟨rfl,rfl⟩:=h
    exact⟨Nat.le_refl _,e.1,by simp,hs⟩
   |false=>
    obtain⟨h1,q,h2,h3⟩:=qyx h;exact⟨by omega,q,by rw [show i - n=(i - (n+1))+1 by omega];simpa using h2,h3⟩
section
variable {E : Env} {rd : Option Nat} {N : Nat} {ops : Array Oper} {K : AS → Prop} {s : AS} {rest : List Oper} {d : Option Tmp} {T : TypeId} {p : String} {af : Array Edge}
theorem qxe {t:TypeId} (h:AOps E rd N ops rest K (AS.put ⟨s.t,s.st++[.map []],s.df⟩ d (.mp s.st.length))):AOps E rd N ops (⟨d,.makeMap t none,T,p,af,none⟩::rest) K s:=by
 refine qz rfl (qw nofun fun B0 w0 G a w _ hI=>?_);have hn:=hI.agree.n
 have hA:=hI.agree.newAny 0 true (.map []) (.map #[] 0) ⟨by simp [Gh.new,hn],by simp [Gh.new,hn];exact hI.agree.hB,#[],0,by
  have e:((G.new 0 w.heap.size 0 true).ob s.st.length).blk=w.heap.size:=by simp [Gh.new,hn]
  rw [e]
  exact xo w _,rfl⟩
 exact⟨.map (some w.heap.size),_,_,_,_,by simp [execOp,Instr.makeMap,newObj,Sem.run],G.le_new _ _ _ _,hA,.mp _ _ (by simp [Gh.new,hn]) (by simp [Gh.new,hn]) (by simp [Gh.new,hn]),h⟩
def mval (z:Value):Option (Nat×Value)→Value
 |some q=>q.2
 |none=>z
def mkey:TypeDesc→Value→Bool
 | .string,.string _=>true
 | .int _,.int _ _=>true
 | _,_=>false
theorem qnu {P:Program} {kt:TypeId} {kd:TypeDesc} {k:Value} (hk:P.underlying kt=some kd) (h:mkey kd k=true) (e:Bool) (n:Nat) (w:World):(Instr.checkKey e (n+1) kt k).run P w = .ok () w:=by
 unfold Instr.checkKey;rw [Sem.run_bind,run_underlying hk];unfold mkey at h;split at h
 ·rfl
 ·rfl
 ·simp at h
theorem qpk {P:Program} {kt:TypeId} {kd:TypeDesc} {k:Value} {es:List MapEntry} {r:Option (Nat×Value)} (hk:P.underlying kt=some kd) (hf:qbf kd k (es.map fun e=>(e.key,e.val)) 0=some r) (w:World):(Instr.findKey kt k es).run P w = .ok r w:=by
 unfold Instr.findKey;rw [Sem.run_bind,run_underlying hk];simp only [Result.andThen_ok,qo2,hf];rfl
theorem zb4 {P:Program} {t:TypeId} {z:Value} (h:(P.info? t).bind (fun i=>i.zero)=some z) (w:World):(zeroValue t).run P w = .ok z w:=by
 cases hi:P.info? t with
 |none=>rw [hi] at h;simp at h
 |some i=>
  rw [hi] at h;simp only [Option.bind_some] at h;simp [zeroValue,typeInfo,hi,h]
theorem qxf {t kt vt:TypeId} {kd:TypeDesc} {x y:Operand} {o:Nat} {k z:Value} {kvs:List (Value×Value)} {r:Option (Nat×Value)} (hx:qg N s x = .mp o) (hy:qg N s y = .v k) (ho:s.st[o]? = some (.map kvs))
  (hu:E.P.underlying t=some (.map kt vt)) (hk:E.P.underlying kt=some kd) (cz:mkey kd k=true) (hf:qbf kd k kvs 0=some r) (hz:(E.P.info? vt).bind (fun i=>i.zero)=some z)
  (h:AOps E rd N ops rest K (s.put d (.tu [.v (mval z r),Bv r.isSome]))):AOps E rd N ops (⟨d,.lookup t x y true,T,p,af,none⟩::rest) K s:=by
 refine qz rfl (qw nofun fun B0 w0 G a w _ hI=>?_);have hv:=hI.evalv hy;have he:=hI.eval_of hx;generalize hvx:a.eval x=v at he
 cases he with
 |mp _ b hn hr hb=>
  obtain⟨_,_,es,clock,h4,h5⟩:=hI.agree.ob o _ ho;rw [hb] at h4;subst h5;refine⟨_,w,G,_,s.st,?_,.refl G,hI.agree,qel (.v (mval z r)) (.v (.bool r.isSome)),h⟩
  have hlk:(Instr.lookup t (.map (some b)) k true).run E.P w = .ok (.tuple #[mval z r,.bool r.isSome]) w:=by
   unfold Instr.lookup;rw [Sem.run_bind,run_underlying hu];simp only [Result.andThen_ok,Sem.run_bind];simp only [getObj,Sem.run,h4,Result.andThen_ok,Sem.run_bind,Sem.run_pure];rw [show (10000:Nat)=9999+1 from rfl,qnu hk cz];simp only [Result.andThen_ok];rw [qpk hk hf]
   cases r with
   |none=>simp [zb4 hz,mval]
   |some q=>simp [mval]
  simp only [execOp,hvx,hv];rw [Sem.run_bind,hlk];rfl
theorem q0p {t kt vt:TypeId} {kd:TypeDesc} {x y q:Operand} {o:Nat} {k u:Value} {kvs:List (Value×Value)} {r:Option (Nat×Value)} (hx:qg N s x = .mp o) (hy:qg N s y = .v k) (hq:qg N s q = .v u) (ho:s.st[o]? = some (.map kvs))
  (hu:E.P.underlying t=some (.map kt vt)) (hk:E.P.underlying kt=some kd) (cz:mkey kd k=true) (hf:qbf kd k kvs 0=some r)
  (h:AOps E rd N ops rest K (AS.put ⟨s.t,s.st.set o (.map (mset kvs k u r)),s.df⟩ d (.v undef))):AOps E rd N ops (⟨d,.mapUpdate t x y q,T,p,af,none⟩::rest) K s:=by
 refine qz rfl (qoq nofun fun B0 w0 G a w _ hI=>?_);have hv:=hI.evalv hy;have px:=hI.evalv hq;have he:=hI.eval_of hx;generalize hvx:a.eval x=v at he
 cases he with
 |mp _ b hn hr hb=>
  obtain⟨hraw,dj,es,clock,h4,h5⟩:=hI.agree.ob o _ ho;subst h5
  have key:∀ (es':Array MapEntry) (clock':Nat),es'.toList.map (fun e=>(e.key,e.val))=mset (es.toList.map fun e=>(e.key,e.val)) k u r →
    (Instr.mapUpdate t (.map (some b)) k u).run E.P w = .ok () (w.putObj b (.map es' clock'))→∃ w' G' st',(execOp a.eval ⟨d,.mapUpdate t x y q,T,p,af,none⟩).run E.P w = .ok .skip w'∧G.le G'∧zf B0 w0 G' st' w'∧AOps E rd N ops rest K (AS.put ⟨s.t,st',s.df⟩ d (.v undef)):=fun es' clock' he a8=>by
   refine⟨_,G,_,?_,.refl G,hI.agree.putRaw (x':=.map (mset (es.toList.map fun e=>(e.key,e.val)) k u r)) (y':=.map es' clock') ho trivial hraw h4 (by simp) ⟨hraw,dj,es',clock',?_,he⟩,h⟩
   ·simp only [execOp,hvx,hv,px]
    rw [Sem.run_bind,a8,hb];rfl
   ·have d9:(G.ob o).blk<w.heap.size:=(Array.getElem?_eq_some_iff.1 h4).1
    simp [World.putObj,d9]
  rw [hb] at h4
  have rp:(Instr.mapUpdate t (.map (some b)) k u).run E.P w=(match r with
   |some (i,_)=>(do
     let key ← Instr.keyThatStays (((es[i]?).map (fun e:MapEntry=>e.key)).getD k) k
     setObj b (.map (es.modify i fun e:MapEntry=>{ e with key,val:=u }) clock):Sem Unit)
   |none=>(setObj b (.map (es.push { key:=k,val:=u,born:=clock }) (clock+1)):Sem Unit)).run E.P w:=by
   unfold Instr.mapUpdate;rw [Sem.run_bind,run_underlying hu];simp only [Result.andThen_ok,Sem.run_bind];simp only [getObj,Sem.run,h4,Result.andThen_ok,Sem.run_bind];rw [show (10000:Nat)=9999+1 from rfl,qnu hk cz];simp only [Result.andThen_ok];rw [qpk hk hf];simp only [Result.andThen_ok]
   cases r with
   |none=>rfl
   |some q=>rfl
  cases r with
  |none=>
   refine key (es.push { key:=k,val:=u,born:=clock }) (clock+1) (by simp [mset]) ?_;rw [rp]
   simp [setObj,Sem.run,World.putObj,h4]
  |some q=>
   obtain⟨i,v0⟩:=q;obtain⟨_,q0,hq1,o6⟩:=qyx hf;rw [Nat.sub_zero,List.getElem?_map] at hq1;obtain⟨e0,he0,he1⟩:=Option.map_eq_some_iff.1 hq1;simp only [Prod.mk.injEq] at he1;obtain⟨rfl,rfl⟩:=he1
   have hsb:Instr.sameBits 10000 e0.key k=true:=by
    unfold mkey at cz;split at cz
    ·unfold Instr.sameNow at o6
     split at o6
     ·simp at *
     ·rename_i s1 s2 e1 e2 e3
      have hq3:s1=s2:=(Go.MapKept.bytes_beq _ _).1 (Option.some.inj o6);subst hq3;rw [e3,← e2];simp only [Instr.sameBits];exact (Go.MapKept.bytes_beq _ _).2 rfl
     ·simp at *
     ·simp at o6
    ·unfold Instr.sameNow at o6
     split at o6
     ·rename_i k1 a1 k2 b1 e1 e2 e3
      split at o6
      ·rename_i ek
       subst ek;simp only [Option.some.injEq,beq_iff_eq] at o6;subst o6;rw [e3,← e2];simp [Instr.sameBits]
      ·simp at o6
     ·simp at *
     ·simp at *
     ·simp at o6
    ·simp at cz
   refine key (es.modify i fun e:MapEntry=>{ e with key:=k,val:=u }) clock ?_ ?_
   ·simp only [mset,Array.toList_modify]
    apply List.ext_getElem?;intro j;rw [List.getElem?_map,List.getElem?_modify,List.getElem?_set,List.getElem?_map];by_cases e:i=j
    ·subst e
     rw [he0];have:=(List.getElem?_eq_some_iff.1 he0).1;simp at this ⊢;exact this
    ·simp [e]
   ·rw [rp]
    have:es[i]? = some e0:=by simpa using he0
    simp [this,Instr.keyThatStays,hsb,setObj,Sem.run,World.putObj,h4]
end
end Go.Av
namespace Go.Av
open Go Go.RowKit
structure mapP (kvs:List (Value×Value)) (x:AObj) (c:AV):Prop where
 ob:x = .map kvs
 mp:∃ o,c = .mp o
section
variable {E : Env} {N : Nat} {ops : Array Oper} {nx : Nat} {sl : List (Nat × SV)} {H : Nat → Option SR} {k : Ef → Prop} {d : Option Tmp} {T : TypeId} {p : String} {af : Array Edge}
theorem zeg {t:TypeId} (h:k ⟨.tp nx,[],[(nx,some (.obj (mapP [])))],nx+1⟩):∃ e,Loc E N ops ⟨d,.makeMap t none,T,p,af,none⟩ nx sl H e∧k e:=by
 refine⟨_,qkg (fun k r hk=>by rw [qik] at hk;simp at hk) fun df rd K rest ρ t1 S ho _ hk=>qxe ?_,h⟩;have:=hk (.mp S.length) [.map []] ⟨S.length,_,rfl,xc,by simp,rfl,_,rfl⟩ (fun o ho=>by simp only [zm,Option.some.injEq] at ho;omega)
 simpa [SV.ev,ve,tpAt,AV.one] using this
theorem zbe {t kt vt:TypeId} {kd:TypeDesc} {x y:Operand} {b:Nat} {kvs:List (Value×Value)} {v:SV} {kv z:Value} {r:Option (Nat×Value)} {n:Int} (hx:sval N sl x=some (.tp b)) (hH:H b=some (.obj (mapP kvs))) (hy:sval N sl y=some v) (hv:∀ ρ,v.ev ρ = .v kv)
  (hu:E.P.underlying t=some (.map kt vt)) (hk:E.P.underlying kt=some kd) (cz:mkey kd kv=true) (hf:qbf kd kv kvs 0=some r) (hz:(E.P.info? vt).bind (fun i=>i.zero)=some z) (hn:mval z r = .int .i64 n)
  (h:k ⟨.tu [.i n,.b r.isSome],[b],[],nx⟩):∃ e,Loc E N ops ⟨d,.lookup t x y true,T,p,af,none⟩ nx sl H e∧k e:=by
 refine⟨_,xz (v:=.tu [.i n,.b r.isSome]) fun df rd K rest ρ t' S hs hS bq=>?_,h⟩;obtain⟨o,x',h1,h2,_,rfl,o',e1⟩:=hS.ok b _ ((w6 b).trans hH);rw [e1] at h1;simp only [zm,Option.some.injEq] at h1;subst h1;refine qxf (o:=o') ((qv hs hx).trans (by simp [SV.ev,e1,tpAt,AV.one])) ((qv hs hy).trans (hv ρ)) h2 hu hk cz hf hz ?_;rw [hn];exact bq
theorem zeh {t kt vt:TypeId} {kd:TypeDesc} {x y q:Operand} {b:Nat} {kvs:List (Value×Value)} {v w:SV} {kv u:Value} {r:Option (Nat×Value)} (hx:sval N sl x=some (.tp b)) (hH:H b=some (.obj (mapP kvs))) (hy:sval N sl y=some v) (hv:∀ ρ,v.ev ρ = .v kv) (hq:sval N sl q=some w) (hw:∀ ρ,w.ev ρ = .v u)
  (hu:E.P.underlying t=some (.map kt vt)) (hk:E.P.underlying kt=some kd) (cz:mkey kd kv=true) (hf:qbf kd kv kvs 0=some r)
  (h:k ⟨.a (.v undef),[b],[(b,some (.obj (mapP (mset kvs kv u r))))],nx⟩):∃ e,Loc E N ops ⟨d,.mapUpdate t x y q,T,p,af,none⟩ nx sl H e∧k e:=by
 refine⟨_,fun df rd K rest ρ t' S hs hS bq=>?_,h⟩;obtain⟨o,x',h1,h2,_,rfl,o',e1⟩:=hS.ok b _ ((w6 b).trans hH);rw [e1] at h1;simp only [zm,Option.some.injEq] at h1;subst h1;refine q0p (o:=o') ((qv hs hx).trans (by simp [SV.ev,e1,tpAt,AV.one])) ((qv hs hy).trans (hv ρ)) ((qv hs hq).trans (hw ρ)) h2 hu hk cz hf ?_
 have key:∀ k r',chF [(b,some (.obj (mapP (mset kvs kv u r))))] (resF [b] H) k=some r'→k=b∧r' = .obj (mapP (mset kvs kv u r)):=fun k r' hk=>by
  simp only [chF,lkS] at hk;by_cases e:b=k
  ·subst e
   have:Nat.beq b b=true:=by simp
   rw [this] at hk;simp only [cond_true,Option.some.injEq] at hk;exact⟨rfl,hk.symm⟩
  ·rw [ji e] at hk
   have:=(wd hk).1;simp only [memN,List.any_cons,List.any_nil,Bool.or_false] at this;exact absurd (Nat.eq_of_beq_eq_true this).symm e
 refine bq ρ _ ⟨fun _ _=>rfl,⟨fun k r' hk=>?_,fun k k' r1 r2 b9 g1 g2=>?_⟩,by simp,fun j hj b9=>?_,fun k r' hk o' d7=>?_⟩
 ·obtain⟨rfl,rfl⟩:=key k r' hk
  exact⟨o',_,by rw [e1];rfl,qbl h2,by simp,rfl,o',e1⟩
 ·exact absurd ((key k r1 g1).1.trans (key k' r2 g2).1.symm) b9
 ·have:=b9 b _ ((w6 b).trans hH)
  rw [e1] at this;exact List.getElem?_set_ne (fun e=>this (by rw [e];rfl))
 ·obtain⟨rfl,rfl⟩:=key k r' hk
  exact .inr ⟨k,_,(w6 k).trans hH,d7⟩
end
end Go.Av
namespace Go.Av
open Go Go.RowKit
def getM {α : Type} [DecidableEq α] (s : α):List (α×Int)→Int
 | []=>0
 |q::r=>if q.1=s then q.2 else getM s r
def setM {α : Type} [DecidableEq α] (s : α) (n:Int):List (α×Int)→List (α×Int)
 | []=>[(s,n)]
 |q::r=>if q.1=s then (s,n)::r else q::setM s n r
theorem qyj {α : Type} [DecidableEq α] (s t : α) (n:Int):∀ (L:List (α×Int)),getM t (setM s n L)=if t=s then n else getM t L
 | []=>by
  unfold setM getM getM;by_cases h:t=s
  ·rw [if_pos h,if_pos h.symm]
  ·rw [if_neg h,if_neg fun e=>h e.symm]
 |q::r=>by
  have ih:=qyj s t n r;unfold setM;by_cases hq:q.1=s
  ·rw [if_pos hq]
   unfold getM;by_cases h:t=s
   ·rw [if_pos h,if_pos h.symm]
   ·rw [if_neg h,if_neg fun e=>h e.symm,if_neg fun e=>h (e.symm.trans hq)]
  ·rw [if_neg hq]
   unfold getM;rw [ih];by_cases ht:q.1=t
   ·rw [if_pos ht,if_pos ht,if_neg fun e=>hq (ht.trans e)]
   ·rw [if_neg ht,if_neg ht]
section
variable {α : Type} [DecidableEq α] {kd : TypeDesc} {key : α → Value}
def kvM (key : α→Value) (q : α×Int):Value×Value:=(key q.1,.int .i64 q.2)
theorem qtq (hs:∀ a b,Instr.sameNow kd (key a) (key b)=some (decide (b=a))) (s : α) (n:Int):∀ (L:List (α×Int)) (pre:List (Value×Value)),∃ r,qbf kd (key s) (L.map (kvM key)) pre.length=some r∧mval (.int .i64 0) r = .int .i64 (getM s L)∧mset (pre++L.map (kvM key)) (key s) (.int .i64 n) r=pre++(setM s n L).map (kvM key)
 | [],pre=>⟨none,rfl,rfl,by simp [mset,setM,kvM]⟩
 |q::r,pre=>by
  rw [List.map_cons,qbf]
  show ∃ r',(match Instr.sameNow kd (key s) (key q.1) with|some true=>_|some false=>_|none=>_)=some r'∧_
  rw [hs];unfold getM setM;by_cases h:q.1=s
  ·rw [if_pos h,if_pos h]
   simp only [h,decide_true];refine⟨_,rfl,rfl,?_⟩;simp only [mset];rw [List.set_append_right _ _ (Nat.le_refl _),Nat.sub_self];rfl
  ·rw [if_neg h,if_neg h]
   simp only [h,decide_false];obtain⟨r',h1,h2,h3⟩:=qtq hs s n r (pre++[kvM key q]);rw [List.length_append,List.length_singleton] at h1;exact⟨r',h1,h2,by simpa using h3⟩
variable {E : Env} {N : Nat} {ops : Array Oper} {nx : Nat} {sl : List (Nat × SV)} {H : Nat → Option SR} {k : Ef → Prop} {d : Option Tmp} {T : TypeId} {p : String} {af : Array Edge}
theorem zba {t kt vt:TypeId} {x y q:Operand} {b:Nat} {L:List (α×Int)} {v w:SV} {s : α} {n:Int} (hs:∀ a b,Instr.sameNow kd (key a) (key b)=some (decide (b=a))) (hx:sval N sl x=some (.tp b)) (hH:H b=some (.obj (mapP (L.map (kvM key))))) (hy:sval N sl y=some v) (hv:∀ ρ,v.ev ρ = .v (key s)) (hq:sval N sl q=some w) (hw:∀ ρ,w.ev ρ = .v (.int .i64 n))
  (hu:E.P.underlying t=some (.map kt vt)) (hk:E.P.underlying kt=some kd) (cz:mkey kd (key s)=true)
  (h:k ⟨.a (.v undef),[b],[(b,some (.obj (mapP ((setM s n L).map (kvM key)))))],nx⟩):∃ e,Loc E N ops ⟨d,.mapUpdate t x y q,T,p,af,none⟩ nx sl H e∧k e:=by
 obtain⟨r,h1,_,h3⟩:=qtq hs s n L [];rw [List.nil_append,List.nil_append] at h3;rw [← h3] at h;exact zeh hx hH hy hv hq hw hu hk cz h1 h
end
def keyI (n:Int):Value:=.int .i64 n
theorem qz2 (a b:Int):Instr.sameNow (.int .i64) (keyI a) (keyI b)=some (decide (b=a)):=by
 show (if IntKind.i64=IntKind.i64 then some (a == b) else none)=_
 rw [if_pos rfl];congr 1;by_cases h:b=a
 ·subst h;simp
 ·rw [decide_eq_false h]
  simpa using fun e=>h e.symm
end Go.Av
