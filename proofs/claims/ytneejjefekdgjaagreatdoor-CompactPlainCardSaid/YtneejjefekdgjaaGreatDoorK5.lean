/- Contracts and plain facts that the closing text leans on (part 5). No condition of their own beyond those that each states. -/
import Derived.Test.YtneejjefekdgjaaGreatDoorK4
import Derived.Sort.Row
import Derived.Sort.Grow
set_option maxRecDepth 100000
set_option linter.unusedVariables false
set_option linter.unusedSimpArgs false
namespace Go.Av
open Go Go.RowKit
def isGd (i:Nat) (l:List Oper):Bool:=l.any fun o=>match o.guard with
 |some (j,_)=>Nat.beq j i
 |none=>false
def Ef.as (e:Ef) (v:SV):Ef:=⟨v,e.ks,e.ch,e.nx⟩
def gdW (g:Bool) (k:Ef→Prop) (e:Ef):Prop:=
 match g with
 |false=>k e
 |true=>match e.val with
  | .p q _=>(q→k (e.as .tt))∧(¬ q→k (e.as .ff))
  | .b c=>(c=true→k (e.as .tt))∧(c=false→k (e.as .ff))
  | _=>k e
section
variable {E : Env} {N : Nat} {ops : Array Oper} {nx : Nat} {sl : List (Nat × SV)} {H : Nat → Option SR} {k : Ef → Prop} {o : Oper}
theorem qmh {e:Ef} {v:SV} (h:Loc E N ops o nx sl H e) (hv:∀ ρ,e.val.ev ρ = v.ev ρ):Loc E N ops o nx sl H (e.as v):=fun df rd K rest ρ t S hs hS hk=>
 h df rd K rest ρ t S hs hS fun ρ' S' hp=>by rw [hv ρ'];exact hk ρ' S' ⟨hp.old,hp.sat,hp.len,hp.fr,hp.loc⟩
theorem q3u {g:Bool} {e:Ef} (hL:Loc E N ops o nx sl H e) (h:gdW g k e):∃ e,Loc E N ops o nx sl H e∧k e:=by
 unfold gdW at h
 split at h
 ·exact⟨e,hL,h⟩
 ·split at h
  ·rename_i q i hv
   by_cases hq:q
   ·exact⟨_,qmh hL (fun ρ=>by rw [hv];simp [SV.ev,hq]),h.1 hq⟩
   ·exact⟨_,qmh hL (fun ρ=>by rw [hv];simp [SV.ev,hq]),h.2 hq⟩
  ·rename_i c hv
   cases c with
   |true=>exact⟨_,qmh hL (fun ρ=>by rw [hv];rfl),h.1 rfl⟩
   |false=>exact⟨_,qmh hL (fun ρ=>by rw [hv];rfl),h.2 rfl⟩
  ·exact⟨e,hL,h⟩
def Oper.bare (o:Oper):Oper:=⟨o.dst,o.op,o.type,o.pos,o.after,none⟩
def quf (l:List Oper) (j:Nat):Option Nat:=match l[j]? with
 |some o=>o.dst
 |none=>none
def opG (E:Env) (N:Nat) (l:List Oper) (bxs:List Nat) (nx:Nat) (sl:List (Nat×SV)) (H:Nat→Option SR) (k:Ef→Prop) (o:Oper):Prop:=
 match o.guard with
 |none=>opW E N l.toArray bxs nx sl H k o
 |some (j,want)=>(match quf l j with
  |some e=>(match bif Nat.blt e N then lkS sl e else none with
   |some .tt=>bif want then opW E N l.toArray bxs nx sl H k (Oper.bare o) else k (vo nx (.a (.v undef)))
   |some .ff=>bif want then k (vo nx (.a (.v undef))) else opW E N l.toArray bxs nx sl H k (Oper.bare o)
   |some (.a (.v (.tuple ⟨[]⟩)))=>k (vo nx (.a (.v undef)))
   | _=>False)
  |none=>False)
theorem q6y {l:List Oper} {j e:Nat} (h:quf l j=some e):∃ oj,l.toArray[j]? = some oj∧oj.dst=some e:=by
 unfold quf at h
 split at h
 ·rename_i o ho;exact⟨o,by simpa using ho,h⟩
 ·simp at h
theorem q4l {l:List Oper} {bxs:List Nat} (h:opG E N l bxs nx sl H k o):∃ e,Loc E N l.toArray o nx sl H e∧k e:=by
 obtain⟨d,op,T,p,af,g⟩:=o
 unfold opG at h
 simp only at h
 split at h
 ·exact q4m rfl h
 ·rename_i j want
  split at h
  ·rename_i e he
   obtain⟨oj,hj,hd⟩:=q6y he
   cases hN:Nat.blt e N with
   |false=>rw [hN] at h;exact h.elim
   |true=>
    rw [hN] at h
    simp only [cond_true] at h
    have run:∀ b:Bool,lkS sl e=some (bif b then .tt else .ff)→b=want→opW E N l.toArray bxs nx sl H k ⟨d,op,T,p,af,none⟩→∃ e,Loc E N l.toArray ⟨d,op,T,p,af,some (j,want)⟩ nx sl H e∧k e:=fun b hl hb h=>by
     obtain⟨e1,hL,hk⟩:=q4m rfl h
     refine⟨e1,fun df rd K rest ρ t S hs hS hk=>qik hj hd hN (b:=b) ?_ hb (hL df rd K rest ρ t S hs hS hk),hk⟩
     refine (hs e _ hl).trans ?_
     cases b <;> rfl
    have skp:∀ b:Bool,lkS sl e=some (bif b then .tt else .ff)→(b == want)=false→k (vo nx (.a (.v undef)))→∃ e,Loc E N l.toArray ⟨d,op,T,p,af,some (j,want)⟩ nx sl H e∧k e:=fun b hl hb h=>by
     refine⟨_,zy (v:=.a (.v undef)) fun df rd K rest ρ t S hs hk=>qhi hj hd hN (b:=b) ?_ hb hk,h⟩
     refine (hs e _ hl).trans ?_
     cases b <;> rfl
    split at h
    ·rename_i hl
     cases want with
     |true=>exact run true hl rfl h
     |false=>exact skp true hl rfl h
    ·rename_i hl
     cases want with
     |true=>exact skp false hl rfl h
     |false=>exact run false hl rfl h
    ·rename_i hl
     exact⟨_,zy (v:=.a (.v undef)) fun df rd K rest ρ t S hs hk=>qc3 hj hd hN (hs e _ hl) hk,h⟩
    ·exact h.elim
  ·exact h.elim
end
mutual
def fcV:SV→(SV→Prop)→Prop
 | .a x,k=>k (.a x)
 | .i n,k=>k (.i n)
 | .s l,k=>k (.s l)
 | .tt,k=>k .tt
 | .ff,k=>k .ff
 | .b c,k=>k (.b c)
 | .p q h,k=>k (.p q h)
 | .bx a b,k=>k (.bx a b)
 | .tp a,k=>k (.tp a)
 | .ag cs,k=>fcL cs fun cs=>k (.ag cs)
 | .tu cs,k=>fcL cs fun cs=>k (.tu cs)
 | .fn f xs ys,k=>fcL xs fun xs=>fcL ys fun ys=>k (.fn f xs ys)
 | .ifc t x,k=>fcV x fun x=>k (.ifc t x)
def fcL:List SV→(List SV→Prop)→Prop
 | [],k=>k []
 |x::r,k=>fcV x fun x=>fcL r fun r=>k (x::r)
end
mutual
theorem qvs:∀ (v:SV) (k:SV→Prop),fcV v k=k v
 | .a _,_=>rfl
 | .i _,_=>rfl
 | .s _,_=>rfl
 | .tt,_=>rfl
 | .ff,_=>rfl
 | .b _,_=>rfl
 | .p _ _,_=>rfl
 | .bx _ _,_=>rfl
 | .tp _,_=>rfl
 | .ag cs,k=>by simp only [fcV,qgs cs]
 | .tu cs,k=>by simp only [fcV,qgs cs]
 | .fn f xs ys,k=>by simp only [fcV,qgs xs,qgs ys]
 | .ifc t x,k=>by simp only [fcV,qvs x]
theorem qgs:∀ (l:List SV) (k:List SV→Prop),fcL l k=k l
 | [],_=>rfl
 |x::r,k=>by simp only [fcL,qvs x,qgs r]
end
def fcR:SR→(SR→Prop)→Prop
 | .cells T cs,k=>fcL cs fun cs=>k (.cells T cs)
 | .tip sz T xs,k=>fcN sz fun sz=>k (.tip sz T xs)
 | .own sz T xs,k=>fcN sz fun sz=>k (.own sz T xs)
 | .obj P,k=>k (.obj P)
 | .rows T cs,k=>fcL cs fun cs=>k (.rows T cs)
theorem zce:∀ (r:SR) (k:SR→Prop),fcR r k=k r
 | .cells _ cs,k=>by simp only [fcR,qgs]
 | .tip sz _ _,k=>by simp only [fcR,qk8]
 | .own sz _ _,k=>by simp only [fcR,qk8]
 | .obj _,k=>rfl
 | .rows _ cs,k=>by simp only [fcR,qgs]
def fcH:List (Nat×Option SR)→(List (Nat×Option SR)→Prop)→Prop
 | [],k=>k []
 |(a,none)::l,k=>fcH l fun l=>k ((a,none)::l)
 |(a,some r)::l,k=>fcR r fun r=>fcH l fun l=>k ((a,some r)::l)
theorem qvq:∀ (l:List (Nat×Option SR)) (k:List (Nat×Option SR)→Prop),fcH l k=k l
 | [],_=>rfl
 |(a,none)::l,k=>by simp only [fcH,qvq l]
 |(a,some r)::l,k=>by simp only [fcH,zce,qvq l]
def fcE (k:Ef→Prop):Ef→Prop
 | ⟨v,ks,ch,nx⟩=>fcV v fun v=>fcH ch fun ch=>k ⟨v,ks,ch,nx⟩
theorem q3n (k:Ef→Prop) (e:Ef):fcE k e=k e:=by
 obtain⟨v,ks,ch,nx⟩:=e
 simp only [fcE,qvs,qvq]
def qqr (hp:List (Nat×Option SR)) (k:List (Nat×Option SR)→Prop):List (Nat×Option SR)→Prop
 | []=>k hp
 |c::r=>qqr hp (fun l=>k (c::l)) r
theorem qoj (hp:List (Nat×Option SR)):∀ (ch:List (Nat×Option SR)) (k:List (Nat×Option SR)→Prop),qqr hp k ch=k (ch++hp)
 | [],_=>rfl
 |c::r,k=>by rw [qqr,qoj hp r];rfl
def quh (sl:List (Nat×SV)) (hp:List (Nat×Option SR)) (nx:Nat) (d:Option Tmp) (k:Conf→Prop):Ef→Prop
 | ⟨v,ks,ch,nx'⟩=>bif Ef.wf ⟨v,ks,ch,nx'⟩ nx then (match d with
  |some d=>qqr hp (fun hp=>k ⟨(d,v)::sl,hp,nx'⟩) ch
  |none=>qqr hp (fun hp=>k ⟨sl,hp,nx'⟩) ch) else False
theorem qwg {sl:List (Nat×SV)} {hp:List (Nat×Option SR)} {nx:Nat} {d:Option Tmp} {k:Conf→Prop} {e:Ef} (h:quh sl hp nx d k e):e.wf nx=true∧k ((Conf.mk sl hp nx).app d e):=by
 obtain⟨v,ks,ch,nx'⟩:=e
 simp only [quh] at h
 cases hw:Ef.wf ⟨v,ks,ch,nx'⟩ nx with
 |false=>rw [hw] at h;exact h.elim
 |true=>
  rw [hw] at h
  refine⟨rfl,?_⟩
  cases d with
  |none=>simp only [cond_true] at h;rw [qoj] at h;exact h
  |some d=>simp only [cond_true] at h;rw [qoj] at h;exact h
def q2e (E:Env) (N:Nat) (l:List Oper) (bxs:List Nat):Nat→List Oper→(Conf→Prop)→Conf→Prop
 | _,[],K,C=>K C
 |i,o::r,K,⟨sl,hp,nx⟩=>opG E N l bxs nx sl (hpF hp) (gdW (isGd i l) (fcE (quh sl hp nx o.dst (q2e E N l bxs (i+1) r K)))) o
theorem qxm {E:Env} {rd:Option Nat} {N:Nat} {l:List Oper} {bxs:List Nat} {B:Bs} {K:Conf→Prop}:∀ {r:List Oper} {i:Nat} {C:Conf} {s:AS},q2e E N l bxs i r K C→SatC B C s→AOps E rd N l.toArray r (fun s'=>∃ C',K C'∧SatC B C' s') s
 | [],_,C,s,h,hs=>qf ⟨C,h,hs⟩
 |o::r,i,⟨sl,hp,nx⟩,s,h,hs=>by
  obtain⟨e,hL,h⟩:=q4l h
  obtain⟨e,hL,h⟩:=q3u hL h
  rw [q3n] at h
  obtain⟨hw,h⟩:=qwg h
  obtain⟨t,S,df⟩:=s
  obtain⟨ρ,hdf,hR⟩:=hs
  simp only at hdf hR
  refine hL _ rd _ r ρ t S hR.sl (hR.hp.res _) fun ρ' S' hp=>qxm h ⟨ρ',?_,?_⟩
  ·have:=hdf.step (d:=o.dst) hR.hp hw hp
   cases hd:o.dst with
   |none=>rw [hd] at this;exact this
   |some d=>rw [hd] at this;exact this
  ·have:=hR.step (d:=o.dst) hw hp
   cases hd:o.dst with
   |none=>rw [hd] at this;exact this
   |some d=>rw [hd] at this;exact this
structure Sm (E:Env) (rd:Option Nat) (N:Nat) (B:Bs) (c:Code) (Q:Exit→Conf→Prop) (C:Conf):Prop where
 run:∀ s,SatC B C s→AWp E rd N c (fun e s'=>∃ C',Q e C'∧SatC B C' s') s
@[reducible] def q9b (K : Conf → Prop) (Q : Exit → Conf → Prop) : Exit → Conf → Prop
 | .normal,C=>K C
 |e,C=>Q e C
@[reducible] def qn8 (id : Nat) (Q : Exit → Conf → Prop) : Exit → Conf → Prop
 | .exit id',C=>bif Nat.beq id' id then Q .normal C else Q (.exit id') C
 |e,C=>Q e C
section
variable {E : Env} {rd : Option Nat} {N : Nat} {B : Bs} {C : Conf} {Q : Exit → Conf → Prop}
theorem zbe {x y:Code} (h:Sm E rd N B x (q9b (Sm E rd N B y Q) Q) C):Sm E rd N B (.seq x y) Q C:=⟨fun s hs=>
 qm ((h.run s hs).mono fun e s' ⟨C',hq,hs'⟩=>by
  cases e with
  |normal=>exact hq.run s' hs'
  | _=>exact⟨C',hq,hs'⟩)⟩
theorem q5b {id:Nat} {c:Code} (h:Sm E rd N B c (qn8 id Q) C):Sm E rd N B (.block id c) Q C:=⟨fun s hs=>
 q8 ((h.run s hs).mono fun e s' ⟨C',hq,hs'⟩=>by
  cases e with
  |exit id'=>
   simp only [qn8] at hq
   simp only [qn7]
   cases hb:Nat.beq id' id with
   |true=>rw [hb] at hq;exact⟨C',hq,hs'⟩
   |false=>rw [hb] at hq;exact⟨C',hq,hs'⟩
  | _=>exact⟨C',hq,hs'⟩)⟩
theorem q8i {c:Operand} {x y:Code} {v:SV} (hv:sval N C.sl c=some v) (h:wayW (Sm E rd N B x Q C) (Sm E rd N B y Q C) v):Sm E rd N B (.cond c x y) Q C:=⟨fun s hs=>by
 obtain⟨b,hb,h⟩:=q5y h
 obtain⟨t,S,df⟩:=s
 have ⟨ρ,hdf,hR⟩:=hs
 have he:=(qv (S:=S) (df:=df) hR.sl hv).trans (hb ρ)
 rcases h with⟨hc,h⟩ | ⟨hc,h⟩
 ·exact q0i he hc (h.run _ hs)
 ·exact q0h he hc (h.run _ hs)⟩
theorem qw8 {c:Code} {Q':Exit→Conf→Prop} (h:Sm E rd N B c Q' C) (hq:∀ e C',Q' e C'→Q e C'):Sm E rd N B c Q C:=⟨fun s hs=>
 (h.run s hs).mono fun e s' ⟨C',hq',hs'⟩=>⟨C',hq e C' hq',hs'⟩⟩
end
def wpC (E:Env) (rd:Option Nat) (N:Nat) (B:Bs) (bxs:List Nat):Code→(Exit→Conf→Prop)→Conf→Prop
 | .skip,Q,C=>Q .normal C
 | .region id ops false,Q,C=>q2e E N ops.toList bxs 0 ops.toList (Q .normal) C
 | .seq x y,Q,C=>wpC E rd N B bxs x (q9b (wpC E rd N B bxs y Q) Q) C
 | .cond c x y,Q,C=>(match sval N C.sl c with
  |some v=>wayW (wpC E rd N B bxs x Q C) (wpC E rd N B bxs y Q C) v
  |none=>False)
 | .block id c,Q,C=>wpC E rd N B bxs c (qn8 id Q) C
 | .exit id,Q,C=>Q (.exit id) C
 | .ret,Q,C=>Q .ret C
 |c,Q,C=>Sm E rd N B c Q C
theorem q5x {x y x' y':Prop} {v:SV} (hx:x→x') (hy:y→y') (h:wayW x y v):wayW x' y' v:=by
 cases v with
 |tt=>exact hx h
 |ff=>exact hy h
 |p q i=>exact⟨fun hq=>hx (h.1 hq),fun hq=>hy (h.2 hq)⟩
 |b c=>exact⟨fun hq=>hx (h.1 hq),fun hq=>hy (h.2 hq)⟩
 | _=>exact h.elim
theorem qd {E:Env} {rd:Option Nat} {N:Nat} {B:Bs} (bxs:List Nat):∀ {c:Code} {Q:Exit→Conf→Prop} {C:Conf},wpC E rd N B bxs c Q C→Sm E rd N B c Q C
 | .skip,Q,C,h=>⟨fun s hs=>qz ⟨C,h,hs⟩⟩
 | .exit id,Q,C,h=>⟨fun s hs=>vj ⟨C,h,hs⟩⟩
 | .ret,Q,C,h=>⟨fun s hs=>qx ⟨C,h,hs⟩⟩
 | .seq x y,Q,C,h=>zbe (qw8 (qd bxs (c:=x) h) fun e C' hq=>by
   cases e with
   |normal=>exact qd bxs (c:=y) hq
   | _=>exact hq)
 | .block id c,Q,C,h=>q5b (qd bxs (c:=c) h)
 | .cond c x y,Q,C,h=>by
  simp only [wpC] at h
  split at h
  ·rename_i v hv
   exact q8i hv (q5x (fun h=>qd bxs (c:=x) h) (fun h=>qd bxs (c:=y) h) h)
  ·exact h.elim
 | .region id ops false,Q,C,h=>⟨fun s hs=>by
  have e:ops=ops.toList.toArray:=by simp
  rw [e]
  exact qg (qxm h hs)⟩
 | .region id ops true,Q,C,h=>h
 | .loop c,Q,C,h=>h
 | .rangeFunc _ _ _ _,Q,C,h=>h
 | .scope _,Q,C,h=>h
 | .label _,Q,C,h=>h
 | .goto _,Q,C,h=>h
 | .refuse _,Q,C,h=>h
mutual
def SV.ren (σ : List (Nat×Nat)):SV→SV
 | .bx k off=>match lkS σ k with
  |some j=>.bx j off
  |none=>.a (.bx 0 0 off)
 | .tp k=>match lkS σ k with
  |some j=>.tp j
  |none=>.a zl
 | .ag cs=>.ag (SV.rens σ cs)
 | .tu cs=>.tu (SV.rens σ cs)
 | .fn f xs ys=>.fn f (SV.rens σ xs) (SV.rens σ ys)
 | .ifc t x=>.ifc t (SV.ren σ x)
 |v=>v
def SV.rens (σ : List (Nat×Nat)):List SV→List SV
 | []=>[]
 |x::r=>SV.ren σ x::SV.rens σ r
end
def renR (σ : List (Nat×Nat)) (ρ : Nat→AV):Nat→AV:=fun k=>match lkS σ k with
 |some j=> ρ j
 |none=>zl
mutual
theorem qqx (σ : List (Nat×Nat)) (ρ : Nat→AV):∀ v:SV,(v.ren σ).ev ρ = v.ev (renR σ ρ)
 | .a _=>rfl
 | .i _=>rfl
 | .s _=>rfl
 | .tt=>rfl
 | .ff=>rfl
 | .b _=>rfl
 | .p _ _=>rfl
 | .bx k off=>by
  simp only [SV.ren,SV.ev,renR]
  cases lkS σ k <;> rfl
 | .tp k=>by
  simp only [SV.ren,SV.ev,renR]
  cases lkS σ k <;> rfl
 | .ag cs=>by simp only [SV.ren,SV.ev,qcj σ ρ cs]
 | .tu cs=>by simp only [SV.ren,SV.ev,qcj σ ρ cs]
 | .fn f xs ys=>by simp only [SV.ren,SV.ev,qcj σ ρ xs,qcj σ ρ ys]
 | .ifc t x=>by simp only [SV.ren,SV.ev,qqx σ ρ x]
theorem qcj (σ : List (Nat×Nat)) (ρ : Nat→AV):∀ l:List SV,SV.evs ρ (SV.rens σ l)=SV.evs (renR σ ρ) l
 | []=>rfl
 |x::r=>by simp only [SV.rens,SV.evs,qqx σ ρ x,qcj σ ρ r]
end
structure Tl (x r:AV):Prop where
 ok:Wk x r
theorem zbq (x:AV):Tl x x:=⟨vv x⟩
theorem qj {x y:AV} (h:x=y):Tl x y:=⟨zdu h⟩
theorem zdc {sz:Nat}:Tl zl (.sl sz [] none):=⟨fun _ _ h=>qau h⟩
def evK (v:SV) (k:AV→Prop):Prop:=
 match v with
 | .a x=>k x
 | .i n=>k (Iv n)
 | .s l=>k (Sv l)
 | .b c=>k (Bv c)
 | .p q h=>k (Bv (@decide q h))
 |v=>k (v.ev fun _=>zl)
theorem zcd (v:SV) (k:AV→Prop):evK v k=k (v.ev fun _=>zl):=by
 cases v <;> rfl
def covW (H:Nat→Option SR) (v:Option SV) (σ : List (Nat×Nat)) (u:SV):Prop:=
 match v with
 |none=>False
 |some v=>match u.all (fun _=>false) with
  |true=>(match frz H v with
   |some x=>evK u fun y=>Tl x y
   |none=>False)
  |false=>∀ ρ,v.ev ρ = (u.ren σ).ev ρ
def entS (H:Nat→Option SR) (sl:List (Nat×SV)) (σ : List (Nat×Nat)):List (Nat×SV)→Prop
 | []=>True
 |(d,v)::r=>covW H (lkS sl d) σ v∧entS H sl σ r
def entR (H:Nat→Option SR) (σ : List (Nat×Nat)) (k:Nat) (r:SR):Prop:=
 match lkS σ k,r with
 |some j,.cells T cs=>(match H j with
  |some (.cells T' cs')=>T'=T∧∀ ρ,SV.evs ρ cs'=SV.evs ρ (SV.rens σ cs)
  | _=>False)
 |some j,.tip sz T xs=>(match H j with
  |some (.tip sz' T' xs')=>(sz'=sz∧T'=T)∧xs'=xs
  | _=>False)
 |none,.tip _ _ xs=>xs=[]
 |some j,.own sz T xs=>(match H j with
  |some (.own sz' T' xs')=>(sz'=sz∧T'=T)∧xs'=xs
  | _=>False)
 |none,.own _ _ xs=>xs=[]
 |none,.cells _ _=>False
 |some j,.obj P=>(match H j with
  |some (.obj P')=>∀ x c,P' x c→P x c
  | _=>False)
 |none,.obj _=>False
 |some j,.rows T cs=>(match H j with
  |some (.rows T' cs')=>T'=T∧∀ ρ,SV.evs ρ cs'=SV.evs ρ (SV.rens σ cs)
  | _=>False)
 |none,.rows _ cs=>cs=[]
def entH (H:Nat→Option SR) (σ : List (Nat×Nat)):List (Nat×Option SR)→Prop
 | []=>True
 |(k,some r)::l=>entR H σ k r∧entH H σ l
 |(_,none)::l=>entH H σ l
def injN:List (Nat×Nat)→Bool
 | []=>true
 |(_,j)::r=>r.all (fun q=> !Nat.beq q.2 j) && injN r
def fltN (hp:List (Nat×Option SR)):List (Nat×Nat)→List (Nat×Nat)
 | []=>[]
 |(k,j)::r=>match lkS hp k with
  |some _=>(k,j)::fltN hp r
  |none=>fltN hp r
theorem qn2 {hp:List (Nat×Option SR)} {k:Nat} {x:Option SR} (hk:lkS hp k=some x):∀ σ : List (Nat×Nat),lkS (fltN hp σ) k=lkS σ k
 | []=>rfl
 |(i,j)::r=>by
  have ih:=qn2 hk r
  simp only [fltN]
  by_cases e:i=k
  ·subst e
   rw [hk]
   simp [lkS]
  ·cases h:lkS hp i with
   |none=>simp only [lkS,ji e,cond_false];exact ih
   |some y=>simp only [lkS,ji e,cond_false];exact ih
def okC (C:Conf):Bool:=C.sl.all (fun q=>q.2.all fun k=>Nat.blt k C.nx) && C.hp.all (fun q=>Nat.blt q.1 C.nx && match q.2 with
 |some r=>r.all fun k=>Nat.blt k C.nx
 |none=>true)
def rigN (σ : List (Nat×Nat)):Nat→Bool
 | 0=>true
 |n+1=>(match lkS σ n with
  |some j=>Nat.beq j n
  |none=>false) && rigN σ n
def idN:Nat→List (Nat×Nat)
 | 0=>[]
 |n+1=>(n,n)::idN n
theorem qol {σ : List (Nat×Nat)}:∀ {n:Nat},rigN σ n=true→∀ k,k<n→lkS σ k=some k
 | 0,_,k,hk=>by omega
 |n+1,h,k,hk=>by
  simp only [rigN,Bool.and_eq_true] at h
  by_cases e:k=n
  ·subst e
   have h1:=h.1
   split at h1
   ·rename_i j hj
    rw [hj,Nat.eq_of_beq_eq_true h1]
   ·simp at h1
  ·exact qol h.2 k (by omega)
def EntC (σ : List (Nat×Nat)) (C C':Conf):Prop:=entS (hpF C.hp) C.sl σ C'.sl∧entH (hpF C.hp) σ C'.hp∧(injN (fltN C'.hp σ) && okC C')=true
mutual
def prs:SV→SV→List (Nat×Nat)
 | .tp k,.tp j=>[(k,j)]
 | .bx k _,.bx j _=>[(k,j)]
 | .ag a,.ag b=>prsL a b
 | .tu a,.tu b=>prsL a b
 | .fn _ a b,.fn _ c d=>prsL a c++prsL b d
 | .ifc _ x,.ifc _ y=>prs x y
 | _,_=>[]
def prsL:List SV→List SV→List (Nat×Nat)
 |x::r,y::s=>prs x y++prsL r s
 | _,_=>[]
end
def addS:List (Nat×Nat)→List (Nat×Nat)→List (Nat×Nat)
 |acc,[]=>acc
 |acc,(k,j)::r=>match lkS acc k with
  |some _=>addS acc r
  |none=>addS ((k,j)::acc) r
def sigS (sl:List (Nat×SV)):List (Nat×SV)→List (Nat×Nat)
 | []=>[]
 |(d,v)::r=>(match lkS sl d with
  |some u=>prs v u
  |none=>[])++sigS sl r
def sigH (H:Nat→Option SR) (σ : List (Nat×Nat)):List (Nat×Option SR)→List (Nat×Nat)
 | []=>[]
 |(k,some (.cells _ cs))::r=>(match lkS σ k with
  |some j=>(match H j with
   |some (.cells _ ds)=>prsL cs ds
   | _=>[])
  |none=>[])++sigH H σ r
 | _::r=>sigH H σ r
def fcP:List (Nat×Nat)→(List (Nat×Nat)→Prop)→Prop
 | [],k=>k []
 |(a,b)::r,k=>fcP r fun r=>k ((a,b)::r)
theorem qvr:∀ (l:List (Nat×Nat)) (k:List (Nat×Nat)→Prop),fcP l k=k l
 | [],_=>rfl
 |(a,b)::r,k=>by simp only [fcP,qvr r]
def EntA (n0:Nat) (C C':Conf):Prop:=
 fcP (addS (idN n0) (sigS C.sl C'.sl)) fun a=>fcP (addS a (sigH (hpF C.hp) a C'.hp)) fun b=>fcP (addS b (sigH (hpF C.hp) b C'.hp)) fun σ=>(rigN σ n0 && Nat.ble n0 C'.nx)=true∧EntC σ C C'
theorem EntA.ent {n0:Nat} {C C':Conf} (h:EntA n0 C C'):∃ σ,(rigN σ n0 && Nat.ble n0 C'.nx)=true∧EntC σ C C':=by
 unfold EntA at h
 simp only [qvr] at h
 exact⟨_,h⟩
theorem qvp {H:Nat→Option SR} {sl:List (Nat×SV)} {σ : List (Nat×Nat)}:∀ {l:List (Nat×SV)} {d:Nat} {v:SV},entS H sl σ l→lkS l d=some v→covW H (lkS sl d) σ v
 | [],_,_,_,h=>by simp [lkS] at h
 |(i,x)::r,d,v,h,hl=>by
  unfold lkS at hl
  cases hb:Nat.beq i d with
  |true=>
   rw [hb] at hl
   simp only [cond_true,Option.some.injEq] at hl
   subst hl
   rw [← Nat.eq_of_beq_eq_true hb]
   exact h.1
  |false=>rw [hb] at hl;exact qvp h.2 hl
theorem qef {H:Nat→Option SR} {σ : List (Nat×Nat)}:∀ {l:List (Nat×Option SR)} {k:Nat} {r:SR},entH H σ l→lkS l k=some (some r)→entR H σ k r
 | [],_,_,_,h=>by simp [lkS] at h
 |(i,none)::l,k,r,h,hl=>by
  unfold lkS at hl
  cases hb:Nat.beq i k with
  |true=>rw [hb] at hl;simp at hl
  |false=>rw [hb] at hl;exact qef (l:=l) h hl
 |(i,some x)::l,k,r,h,hl=>by
  unfold lkS at hl
  cases hb:Nat.beq i k with
  |true=>
   rw [hb] at hl
   simp only [cond_true,Option.some.injEq] at hl
   subst hl
   rw [← Nat.eq_of_beq_eq_true hb]
   exact h.1
  |false=>rw [hb] at hl;exact qef (l:=l) h.2 hl
theorem qv6:∀ {σ : List (Nat×Nat)} {k k' j:Nat},injN σ = true→lkS σ k=some j→lkS σ k'=some j→k=k'
 | [],_,_,_,_,h,_=>by simp [lkS] at h
 |(i,x)::r,k,k',j,h,h1,h2=>by
  simp only [injN,Bool.and_eq_true] at h
  have no:∀ q,lkS r q=some x→False:=fun q hq=>by
   have:=List.all_eq_true.1 h.1 _ (km hq)
   simp at this
  unfold lkS at h1 h2
  cases hb:Nat.beq i k with
  |true=>
   rw [hb] at h1
   simp only [cond_true,Option.some.injEq] at h1
   subst h1
   cases hb':Nat.beq i k' with
   |true=>rw [← Nat.eq_of_beq_eq_true hb,← Nat.eq_of_beq_eq_true hb']
   |false=>rw [hb'] at h2;exact (no _ h2).elim
  |false=>
   rw [hb] at h1
   cases hb':Nat.beq i k' with
   |true=>
    rw [hb'] at h2
    simp only [cond_true,Option.some.injEq] at h2
    subst h2
    exact (no _ h1).elim
   |false=>rw [hb'] at h2;exact qv6 h.2 h1 h2
theorem wj {hp:List (Nat×Option SR)} {k:Nat} {r:SR} (h:hpF hp k=some r):lkS hp k=some (some r):=by
 unfold hpF at h
 cases hl:lkS hp k with
 |none=>rw [hl] at h;simp at h
 |some x=>rw [hl] at h;simp only at h;rw [h]
theorem EntC.sat {σ : List (Nat×Nat)} {C C':Conf} {S0:List AObj} {F:Nat→Prop} {ρ t:Nat→AV} {S:List AObj} (h:EntC σ C C') (hR:SatR S0 F C ρ t S):∃ t',(∀ d,Wk (t d) (t' d))∧SatR S0 F C' (renR σ ρ) t' S:=by
 obtain⟨hs,hh,hb⟩:=h
 simp only [Bool.and_eq_true,okC] at hb
 obtain⟨hi,hb1,hb2⟩:=hb
 refine⟨fun d=>match lkS C'.sl d with|some v=>v.ev (renR σ ρ)|none=>t d,fun d=>?_,⟨fun d v hd=>by simp only [hd],⟨fun k r hk=>?_,fun k k' r r' hne h1 h2 o ho=>?_⟩,fun k r hk o ho=>?_,hR.low,hR.len,fun d v hd=>?_,fun k r hk=>?_⟩⟩
 ·simp only
  cases hd:lkS C'.sl d with
  |none=>exact vv _
  |some v=>
   have hc:=qvp hs hd
   unfold covW at hc
   split at hc
   ·exact hc.elim
   ·rename_i u hu
    rw [hR.sl d u hu]
    simp only
    split at hc
    ·rename_i hall
     split at hc
     ·rename_i x hx
      rw [zcd] at hc
      have e:v.ev (renR σ ρ)=v.ev fun _=>zl:=qa0 (f:=fun _=>false) (fun k hk=>by simp at hk) _ hall
      rw [e]
      exact fun G y hy=>hc.ok G y (qgx hR.hp u x hx G y hy)
     ·exact hc.elim
    ·rw [hc ρ,qqx]
     exact vv _
 ·have hc:=qef hh (wj hk)
  unfold entR at hc
  unfold renR
  split at hc
  ·rename_i j T cs hj
   rw [hj]
   split at hc
   ·rename_i T' cs' hH
    obtain⟨rfl,hc⟩:=hc
    obtain⟨o,v,h1,h2,h0⟩:=hR.hp.ok j _ hH
    refine⟨o,v,h1,?_,h0⟩
    rw [h2,hc ρ,qcj]
    rfl
   ·exact hc.elim
  ·rename_i j sz T xs hj
   rw [hj]
   split at hc
   ·rename_i sz' T' xs' hH
    obtain⟨⟨rfl,rfl⟩,rfl⟩:=hc
    exact hR.hp.ok j _ hH
   ·exact hc.elim
  ·rename_i sz T xs hj
   rw [hj]
   subst hc
   exact .inl (.inl ⟨rfl,rfl⟩)
  ·rename_i j sz T xs hj
   rw [hj]
   split at hc
   ·rename_i sz' T' xs' hH
    obtain⟨⟨rfl,rfl⟩,rfl⟩:=hc
    exact hR.hp.ok j _ hH
   ·exact hc.elim
  ·rename_i sz T xs hj
   rw [hj]
   subst hc
   exact .inl ⟨rfl,qof none⟩
  ·exact hc.elim
  ·rename_i j P hj
   rw [hj]
   split at hc
   ·rename_i P' hH
    obtain⟨o,x,h1,h2,h3,h4⟩:=hR.hp.ok j _ hH
    exact⟨o,x,h1,h2,h3,hc x _ h4⟩
   ·exact hc.elim
  ·exact hc.elim
  ·rename_i j T cs hj
   rw [hj]
   split at hc
   ·rename_i T' cs' hH
    obtain⟨rfl,hc⟩:=hc
    have h1:=hR.hp.ok j _ hH
    show OwnS _ 1 _ (SV.evs (renR σ ρ) cs) _
    rw [← qcj,← hc ρ]
    exact h1
   ·exact hc.elim
  ·rename_i T cs hj
   rw [hj]
   subst hc
   exact .inl ⟨rfl,qof none⟩
 ·have key:∀ k r,hpF C'.hp k=some r→∀ o,zh (renR σ ρ k)=some o→∃ j r',lkS σ k=some j∧hpF C.hp j=some r'∧zh (ρ j)=some o:=fun k r hk o ho=>by
   have hc:=qef hh (wj hk)
   unfold renR at ho
   cases hj:lkS σ k with
   |none=>rw [hj] at ho;simp [zh] at ho
   |some j=>
    rw [hj] at ho
    unfold entR at hc
    rw [hj] at hc
    cases r with
    |cells T cs=>
     simp only at hc
     split at hc
     ·rename_i hH;exact⟨j,_,rfl,hH,ho⟩
     ·exact hc.elim
    |tip sz T xs=>
     simp only at hc
     split at hc
     ·rename_i hH;exact⟨j,_,rfl,hH,ho⟩
     ·exact hc.elim
    |own sz T xs=>
     simp only at hc
     split at hc
     ·rename_i hH;exact⟨j,_,rfl,hH,ho⟩
     ·exact hc.elim
    |obj P=>
     simp only at hc
     split at hc
     ·rename_i hH;exact⟨j,_,rfl,hH,ho⟩
     ·exact hc.elim
    |rows T cs=>
     simp only at hc
     split at hc
     ·rename_i hH;exact⟨j,_,rfl,hH,ho⟩
     ·exact hc.elim
  obtain⟨j,q,g1,g2,g3⟩:=key k r h1 o ho
  intro ho'
  obtain⟨j',q',g4,g5,g6⟩:=key k' r' h2 o ho'
  exact hR.hp.sep j j' q q' (fun e=>hne (qv6 hi ((qn2 (wj h1) σ).trans g1) ((qn2 (wj h2) σ).trans (by rw [e];exact g4)))) g2 g5 o g3 g6
 ·have hc:=qef hh (wj hk)
  unfold renR at ho
  cases hj:lkS σ k with
  |none=>rw [hj] at ho;simp [zh] at ho
  |some j=>
   rw [hj] at ho
   unfold entR at hc
   rw [hj] at hc
   cases r with
   |cells T cs=>
    simp only at hc
    split at hc
    ·rename_i hH;exact hR.own j _ hH o ho
    ·exact hc.elim
   |tip sz T xs=>
    simp only at hc
    split at hc
    ·rename_i hH;exact hR.own j _ hH o ho
    ·exact hc.elim
   |own sz T xs=>
    simp only at hc
    split at hc
    ·rename_i hH;exact hR.own j _ hH o ho
    ·exact hc.elim
   |obj P=>
    simp only at hc
    split at hc
    ·rename_i hH;exact hR.own j _ hH o ho
    ·exact hc.elim
   |rows T cs=>
    simp only at hc
    split at hc
    ·rename_i hH;exact hR.own j _ hH o ho
    ·exact hc.elim
 ·exact List.all_eq_true.1 hb1 _ (km hd)
 ·have:=List.all_eq_true.1 hb2 _ (km (wj hk))
  simp only [Bool.and_eq_true] at this
  exact⟨kj this.1,this.2⟩
section
variable {E : Env} {rd : Option Nat} {N : Nat} {B : Bs} {C : Conf} {Q : Exit → Conf → Prop}
theorem Frm.ren {B:Bs} {C C':Conf} {ρ : Nat→AV} {df:List Nat} {S:List AObj} {σ : List (Nat×Nat)} (h:Frm B C ρ df S) (hr:(rigN σ B.n0 && Nat.ble B.n0 C'.nx)=true):Frm B C' (renR σ ρ) df S:=by
 simp only [Bool.and_eq_true] at hr
 refine⟨h.dm,h.nd,fun k hk=>?_,Nat.le_of_ble_eq_true hr.2,h.dz⟩
 unfold renR
 rw [qol hr.1 k hk]
 exact h.rig k hk
theorem q2u {c:Code} {Q:Exit→AS→Prop} {t t':Nat→AV} {S:List AObj} {df:List Nat} (hw:∀ d,Wk (t d) (t' d)) (h:AWp E rd N c Q ⟨t',S,df⟩):AWp E rd N c Q ⟨t,S,df⟩:=
 ⟨fun B0 w0 G a w hL hI=>h.run B0 w0 G a w hL ⟨hI.agree,hI.defers,hI.size,fun i y hy=>hw i G y (hI.tmps i y hy)⟩⟩
theorem wm {X:Type} {c:Code} (I:X→Conf) (P:X→Prop) (μ : X→Nat) (x0:X) (h0:P x0) (he:EntA B.n0 C (I x0))
  (hr:∀ x,P x→Sm E rd N B c (fun e C'=>match e with
   | .normal=>∃ x',P x'∧μ x' < μ x∧EntA B.n0 C' (I x')
   |e=>Q e C') (I x)):Sm E rd N B (.loop c) Q C:=⟨fun s hs=>by
 refine wy (σ:=X) (fun x s=>P x∧∃ t',(∀ d,Wk (s.t d) (t' d))∧SatC B (I x) ⟨t',s.st,s.df⟩) μ x0 ?_ ?_
 ·obtain⟨t,S,df⟩:=s
  obtain⟨ρ,hdf,hR⟩:=hs
  simp only at hdf hR
  obtain⟨σ0,hr0,he⟩:=he.ent
  obtain⟨t',hw,hR'⟩:=he.sat hR
  exact⟨h0,t',hw,_,hdf.ren hr0,hR'⟩
 ·rintro x ⟨t,S,df⟩ ⟨hP,t',hw,hs⟩
  simp only at hw hs
  refine q2u hw (((hr x hP).run ⟨t',S,df⟩ hs).mono fun e s' ⟨C',hq,hs'⟩=>?_)
  cases e with
  |normal=>
   obtain⟨x',hP',hlt,he'⟩:=hq
   obtain⟨t2,S2,df2⟩:=s'
   obtain⟨ρ2,hdf2,hR2⟩:=hs'
   simp only at hdf2 hR2
   obtain⟨σ,hr2,he'⟩:=he'.ent
   obtain⟨t3,hw3,hR3⟩:=he'.sat hR2
   exact⟨x',⟨hP',t3,hw3,_,hdf2.ren hr2,hR3⟩,hlt⟩
  | _=>exact⟨C',hq,hs'⟩⟩
end
def qck (P:Program) (N:Nat) (C:Conf):ResultVar→Option SV
 | .tmp t=>sval N C.sl (.tmp t)
 | .cell a T=>(match sval N C.sl (.tmp a),tyOf P T with
  |some (.bx b off),some (sz,agg)=>(match hpF C.hp b with
   |some (.cells _ cs)=>qjp sz agg off cs
   | _=>none)
  | _,_=>none)
def resV (P:Program) (N:Nat) (C:Conf):List ResultVar→Option SV
 | []=>some (.tu [])
 | [a]=>qck P N C a
 | [a,b]=>(match qck P N C a,qck P N C b with
  |some x,some y=>some (.tu [x,y])
  | _,_=>none)
 | [a,b,c]=>(match qck P N C a,qck P N C b,qck P N C c with
  |some x,some y,some z=>some (.tu [x,y,z])
  | _,_,_=>none)
 | [a,b,c,d]=>(match qck P N C a,qck P N C b,qck P N C c,qck P N C d with
  |some x,some y,some z,some u=>some (.tu [x,y,z,u])
  | _,_,_,_=>none)
 | _=>none
theorem za9 {G:Gh} {x y z p:AV} {v u t q:Value} (h1:Rel G x v) (h2:Rel G y u) (h3:Rel G z t) (h4:Rel G p q):Rel G (.tu [x,y,z,p]) (.tuple #[v,u,t,q]):=
 .tu _ _ rfl fun i x' y' hx hy=>by
  match i with
  | 0=>simp at hx hy;subst hx;subst hy;exact h1
  | 1=>simp at hx hy;subst hx;subst hy;exact h2
  | 2=>simp at hx hy;subst hx;subst hy;exact h3
  | 3=>simp at hx hy;subst hx;subst hy;exact h4
  |i+4=>simp at hx
def qw5 (r:ResultVar) (tm:Array Value):Sem Value:=
 match r with
 | .tmp t=>pure (tm.getD t undef)
 | .cell a t=>do loadVar t (← asAddr (tm.getD a undef))
theorem qgb (fn:Func) (tm:Array Value):results fn tm=(do
  let vs ← fn.results.mapM fun r=>qw5 r tm
  pure (if h:vs.size=1 then vs[0] else .tuple vs)):=by
 unfold results
 congr 1
theorem qah {E:Env} {S0:List AObj} {F:Nat→Prop} {C:Conf} {ρ t:Nat→AV} {S:List AObj} {N:Nat} (hR:SatR S0 F C ρ t S) {r:ResultVar} {v:SV} (h:qck E.P N C r=some v) {B0:Nat} {w0:World} {G:Gh} {a:Act} {w:World} (hI:Inv B0 w0 N G ⟨t,S,[]⟩ a w) :
  ∃ u,(qw5 r a.tmps).run E.P w = .ok u w∧Rel G (v.ev ρ) u:=by
 cases r with
 |tmp i=>
  simp only [qck] at h
  refine⟨a.tmps.getD i undef,rfl,?_⟩
  have:=hI.rd i
  rw [qv hR.sl h] at this
  exact this
 |cell i T=>
  simp only [qck] at h
  split at h
  ·rename_i b off sz agg hb ht
   split at h
   ·rename_i T' cs hH
    obtain⟨o,ver,h1,h2,_⟩:=hR.hp.ok b _ hH
    have he:=hI.rd i
    rw [qv hR.sl hb] at he
    simp only [SV.ev,h1,bxAt] at he
    generalize hv:a.tmps.getD i undef=y at he
    cases he with
    |bx _ _ _ bl hn hv' hbl=>
     obtain⟨_,g1,g2,g3,c,g4,g5,g6⟩:=hI.agree.ob o _ h2
     have hb:=hbl g1
     rw [hb] at g4
     obtain⟨u,hrun,hRel⟩:=yo (w:=w) (G:=G) (b:=bl) (off:=off) (off':=off) ht (fun i x hx hi=>by
      obtain⟨y,hy⟩:=vn hx (Nat.le_of_eq g5)
      refine⟨y,?_,g6 i x y hx hy⟩
      simp [World.cell?,g4,show off+(i - off)=i by omega,hy]) (qob ρ h)
     refine⟨u,?_,hRel⟩
     simp [qw5,hv,asAddr,hrun]
   ·simp at h
  ·simp at h
theorem qzr {E:Env} {S0:List AObj} {F:Nat→Prop} {C:Conf} {ρ t:Nat→AV} {S:List AObj} {fn:Func} (hR:SatR S0 F C ρ t S) {v:SV} (h:resV E.P fn.ntmps C fn.results.toList=some v):ARes E fn ⟨t,S,[]⟩ (v.ev ρ):=by
 refine⟨fun B0 w0 G a w hL hI=>?_⟩
 cases hr:fn.results.toList with
 |nil=>
  rw [hr] at h
  simp only [resV,Option.some.injEq] at h
  subst h
  have hr':fn.results = #[]:=by simpa using hr
  exact (x5 hr').run B0 w0 G a w hL hI
 |cons r1 l1=>
  cases l1 with
  |nil=>
   rw [hr] at h
   obtain⟨u,h1,h2⟩:=qah hR h hI
   have hr':fn.results = #[r1]:=by rw [← Array.toList_inj];exact hr
   refine⟨u,?_,h2⟩
   rw [qgb,hr']
   simp [h1]
  |cons r2 l2=>
   cases l2 with
   |nil=>
    rw [hr] at h
    simp only [resV] at h
    split at h
    ·rename_i x y hx hy
     simp only [Option.some.injEq] at h
     subst h
     obtain⟨u1,h1,h2⟩:=qah hR hx hI
     obtain⟨u2,h3,h4⟩:=qah hR hy hI
     have hr':fn.results = #[r1,r2]:=by rw [← Array.toList_inj];exact hr
     refine⟨.tuple #[u1,u2],?_,qiy h2 h4⟩
     rw [qgb,hr']
     simp [h1,h3]
    ·simp at h
   |cons r3 l3=>
    cases l3 with
    |nil=>
     rw [hr] at h
     simp only [resV] at h
     split at h
     ·rename_i x y z hx hy hz
      simp only [Option.some.injEq] at h
      subst h
      obtain⟨u1,h1,h2⟩:=qah hR hx hI
      obtain⟨u2,h3,h4⟩:=qah hR hy hI
      obtain⟨u3,h5,h6⟩:=qah hR hz hI
      have hr':fn.results = #[r1,r2,r3]:=by rw [← Array.toList_inj];exact hr
      refine⟨.tuple #[u1,u2,u3],?_,qrz h2 h4 h6⟩
      rw [qgb,hr']
      simp [h1,h3,h5]
     ·simp at h
    |cons r4 l4=>
     cases l4 with
     |nil=>
      rw [hr] at h
      simp only [resV] at h
      split at h
      ·rename_i x y z p hx hy hz hp
       simp only [Option.some.injEq] at h
       subst h
       obtain⟨u1,h1,h2⟩:=qah hR hx hI
       obtain⟨u2,h3,h4⟩:=qah hR hy hI
       obtain⟨u3,h5,h6⟩:=qah hR hz hI
       obtain⟨u4,h7,h8⟩:=qah hR hp hI
       have hr':fn.results = #[r1,r2,r3,r4]:=by rw [← Array.toList_inj];exact hr
       refine⟨.tuple #[u1,u2,u3,u4],?_,za9 h2 h4 h6 h8⟩
       rw [qgb,hr']
       simp [h1,h3,h5,h7]
      ·simp at h
     |cons r5 l5=>rw [hr] at h;simp [resV] at h
def q1l (P:Program) (ts:List TypeId) (x:AV) (k:AV→Prop):Prop:=
 match ts,x with
 | [t],x=>nrmK P t x k
 |ts,.tu xs=>zipK P ts xs fun l=>k (.tu l)
 | _,x=>k x
theorem q7p {P:Program} {ts:List TypeId} {x:AV} {k:AV→Prop} (h:q1l P ts x k):∃ y,Wk x y∧k y:=by
 unfold q1l at h
 split at h
 ·exact qrt h
 ·obtain⟨m,h1,h2⟩:=qz6 h
  exact⟨_,q9e h1.1 h1.2,h2⟩
 ·exact⟨_,vv _,h⟩
def ansW (P:Program) (fn:Func) (C:Conf) (k:AV→Prop):Prop:=
 match resV P fn.ntmps C fn.results.toList with
 |some v=>(match frz (hpF C.hp) v with
  |some x=>q1l P fn.resultTypes.toList x k
  |none=>False)
 |none=>False
theorem qyy {E:Env} {S0:List AObj} {F:Nat→Prop} {C:Conf} {ρ t:Nat→AV} {S:List AObj} {fn:Func} {k:AV→Prop} (hR:SatR S0 F C ρ t S) (h:ansW E.P fn C k):∃ y,ARes E fn ⟨t,S,[]⟩ y∧k y:=by
 unfold ansW at h
 split at h
 ·rename_i v hv
  split at h
  ·rename_i x hx
   obtain⟨y,h1,h2⟩:=q7p h
   exact⟨y,wn (qzr hR hv) fun G z hz=>h1 G z (qgx hR.hp v x hx G z hz),h2⟩
  ·exact h.elim
 ·exact h.elim
def retW (P:Program) (fn:Func) (r0:AV) (e:Exit) (C:Conf):Prop:=
 match e with
 | .normal=>ansW P fn C fun y=>Tl y r0
 | .ret=>ansW P fn C fun y=>Tl y r0
 | _=>False
theorem qb5 {α : Type}:∀ {l:List α} {i0 i:Nat} {v : α},lkS (zz i0 l) i=some v→∃ j,i=i0+j∧l[j]? = some v
 | [],_,_,_,h=>by simp [zz,lkS] at h
 |x::r,i0,i,v,h=>by
  simp only [zz,lkS] at h
  cases hb:Nat.beq i0 i with
  |true=>
   rw [hb] at h
   simp only [cond_true,Option.some.injEq] at h
   subst h
   exact⟨0,(Nat.eq_of_beq_eq_true hb).symm,rfl⟩
  |false=>
   rw [hb] at h
   obtain⟨j,h1,h2⟩:=qb5 h
   exact⟨j+1,by omega,by simpa using h2⟩
def numK {α : Type}:Nat→List α→(List (Nat×α)→Prop)→Prop
 | _,[],k=>k []
 |i,x::r,k=>numK (i+1) r fun l=>k ((i,x)::l)
theorem qmj {α : Type}:∀ (l:List α) (i:Nat) (k:List (Nat×α)→Prop),numK i l k=k (zz i l)
 | [],_,_=>rfl
 |x::r,i,k=>by rw [numK,qmj r];rfl
theorem qfv {E:Env} {fn:Func} {R:AV→List AObj→Prop} {S0:List AObj} {F:Nat→Prop} {C:Conf} {ρ t:Nat→AV}:∀ {df:List Nat} {S:List AObj},SatR S0 F C ρ t S→(∀ d∈df,S[d]? = some .dfr∧S0.length≤d)→df.Nodup→(∀ S',SatR S0 F C ρ t S'→ARet E fn R ⟨t,S',[]⟩)→ARet E fn R ⟨t,S,df⟩
 | [],S,hR,_,_,h=>h S hR
 |d::df,S,hR,hm,hn,h=>by
  have hd:=hm d (by simp)
  have hn':=List.nodup_cons.1 hn
  refine qkt rfl hd.1 (qfv (hR.dead hd.1 hd.2) (fun x hx=>?_) hn'.2 h)
  have hne:d≠x:=fun e=>hn'.1 (e▸hx)
  simp only
  rw [List.getElem?_set_ne hne]
  exact hm x (List.mem_cons_of_mem _ hx)
theorem z4 {E:Env} {f:FuncId} {fn:Func} {c:Code} {args:List AV} {st:List AObj} {r0:AV} (vs:List SV) (hp:Pure r0) (hf:E.P.funcs[f]? = some fn) (hb:fn.body=some c) (hn:Nat.ble args.length fn.ntmps=true) (hv:∀ ρ,SV.evs ρ vs=args) (hc:okC ⟨zz 0 vs,[],0⟩=true)
  (h:∀ S0,numK 0 vs fun sl=>Sm E none fn.ntmps ⟨S0,fun _=>False,fun _=>zl,0,False⟩ c (retW E.P fn r0) ⟨sl,[],0⟩):ql E f args st fun r st'=>r=r0∧st'=st:=by
 simp only [qmj] at h
 refine q6 hp (qp hf hb (Nat.le_of_ble_eq_true hn) ?_)
 have hst:SatC ⟨st++[],fun _=>False,fun _=>zl,0,False⟩ ⟨zz 0 vs,[],0⟩ ⟨argT args,st++[],[]⟩:=by
  refine⟨fun _=>zl,⟨nofun,List.nodup_nil,fun _ _=>rfl,Nat.le_refl _,nofun⟩,⟨fun d v hd=>?_,⟨fun k r hk=>?_,fun k k' r r' _ hk=>?_⟩,fun k r hk=>?_,fun _ _ _=>rfl,Nat.le_refl _,fun d v hd=>?_,fun k r hk=>?_⟩⟩
  ·obtain⟨j,h1,h2⟩:=qb5 hd
   have:args[j]? = some (v.ev fun _=>zl):=by rw [← hv fun _=>zl,vu,List.getElem?_map,h2];rfl
   rw [h1,Nat.zero_add]
   simp only [argT,List.getD,this,Option.getD_some]
  ·simp [hpF,lkS] at hk
  ·simp [hpF,lkS] at hk
  ·simp [hpF,lkS] at hk
  ·simp only [okC,Bool.and_eq_true] at hc
   exact List.all_eq_true.1 hc.1 _ (km hd)
  ·simp [hpF,lkS] at hk
 refine ((h (st++[])).run _ hst).mono fun e s' ⟨C',hq,hs'⟩=>?_
 obtain⟨t,S,df⟩:=s'
 obtain⟨ρ,hdf,hR⟩:=hs'
 simp only at hdf hR
 have hdm:=hdf.dm
 have hnd:=hdf.nd
 have hl:=hR.len
 have fin:ansW E.P fn C' (fun y=>Tl y r0)→ARet E fn (fun r st2=>r=r0∧∃ ext,st2=st++ext) ⟨t,S,df⟩:=fun h=>by
  refine qfv hR (fun x hx=>hdm x hx) hnd fun S' hR'=>?_
  obtain⟨y,h1,h2⟩:=qyy hR' h
  refine qo rfl (wn h1 h2.ok) ⟨rfl,?_⟩
  have hl:=hR'.len
  rw [List.append_nil] at hl
  exact qjf hl fun k hk=>by
   have:=hR'.low k (by simpa using hk) (fun h=>h)
   rw [List.append_nil] at this
   exact this
 cases e with
 |normal=>exact fin hq
 |ret=>exact fin hq
 | _=>exact hq.elim
end Go.Av
namespace Go.Av
open Go Go.RowKit
def cf {α : Type} (L:Nat→Bool):Nat→List (List (Nat×α))→List (Nat×α)→List (Nat×α)
 | _,[],base=>base
 |i,c::r,base=>cf L (i+1) r (bif L i then c++base else base)
def wo {α : Type} (L:Nat→Bool) (k:Nat):Nat→List (List (Nat×α))→Option α
 | _,[]=>none
 |i,c::r=>match wo L k (i+1) r with
  |some v=>some v
  |none=>bif L i then lkS c k else none
theorem qcf {α : Type} (L:Nat→Bool) (k:Nat):∀ (i:Nat) (chs:List (List (Nat×α))) (base:List (Nat×α)),lkS (cf L i chs base) k=match wo L k i chs with|some v=>some v|none=>lkS base k
 | _,[],_=>rfl
 |i,c::r,base=>by
  simp only [cf,wo]
  rw [qcf L k (i+1) r]
  cases wo L k (i+1) r with
  |some v=>rfl
  |none=>
   cases L i with
   |true=>simp only [cond_true];rw [qb4];cases lkS c k <;> rfl
   |false=>rfl
theorem qbg {α : Type} {L L':Nat→Bool} {k:Nat}:∀ {i:Nat} {chs:List (List (Nat×α))},(∀ j c,chs[j]? = some c→lkS c k≠none→L (i+j)=L' (i+j))→wo L k i chs=wo L' k i chs
 | _,[],_=>rfl
 |i,c::r,h=>by
  simp only [wo]
  rw [qbg (L:=L) (L':=L') (i:=i+1) (chs:=r) fun j c hc hl=>by
   have:=h (j+1) c (by simpa using hc) hl
   rw [show i+1+j=i+(j+1) by omega]
   exact this]
  cases wo L' k (i+1) r with
  |some v=>rfl
  |none=>
   simp only
   cases hl:lkS c k with
   |none=>cases L i <;> cases L' i <;> rfl
   |some v=>
    have:=h 0 c rfl (by rw [hl];simp)
    rw [Nat.add_zero] at this
    rw [this]
theorem qf5 {α : Type} {L:Nat→Bool} {k:Nat} {v : α}:∀ {i:Nat} {chs:List (List (Nat×α))},wo L k i chs=some v→∃ j c,chs[j]? = some c∧L (i+j)=true∧lkS c k=some v
 | _,[],h=>by simp [wo] at h
 |i,c::r,h=>by
  simp only [wo] at h
  cases hr:wo L k (i+1) r with
  |some w=>
   rw [hr] at h
   simp only [Option.some.injEq] at h
   subst h
   obtain⟨j,c',h1,h2,h3⟩:=qf5 hr
   exact⟨j+1,c',by simpa using h1,by rw [show i+(j+1)=i+1+j by omega];exact h2,h3⟩
  |none=>
   rw [hr] at h
   simp only at h
   cases hL:L i with
   |true=>rw [hL] at h;exact⟨0,c,rfl,hL,h⟩
   |false=>rw [hL] at h;simp at h
theorem qli {α : Type} {L:Nat→Bool} {k:Nat}:∀ {i j0:Nat} {chs:List (List (Nat×α))} {c0:List (Nat×α)},chs[j0]? = some c0→(∀ j c,j0<j→chs[j]? = some c→L (i+j)=true→lkS c0 k≠none→lkS c k=none) →
  wo (addL L (i+j0)) k i chs=match lkS c0 k with|some v=>some v|none=>bif L (i+j0) then wo (addL L (i+j0)) k i chs else wo L k i chs
 | _,_,[],_,h,_=>by simp at h
 |i,0,c::r,c0,h,hd=>by
  simp only [List.getElem?_cons_zero,Option.some.injEq] at h
  subst h
  have hr:wo (addL L (i+0)) k (i+1) r=wo L k (i+1) r:=qbg fun j c _ _=>by
   unfold addL
   rw [ji (by omega),Bool.false_or]
  have ha:addL L (i+0) i=true:=by simp [addL]
  cases hl:lkS c k with
  |some v=>
   have hn:wo L k (i+1) r=none:=by
    cases hq:wo L k (i+1) r with
    |none=>rfl
    |some w=>
     obtain⟨j,c',h1,h2,h3⟩:=qf5 hq
     have:=hd (j+1) c' (by omega) (by simpa using h1) (by rw [show i+(j+1)=i+1+j by omega];exact h2) (by rw [hl];simp)
     rw [this] at h3
     simp at h3
   simp only [wo,hr,hn,ha,cond_true,hl]
  |none=>
   cases hLi:L (i+0) with
   |true=>rfl
   |false=>
    simp only [cond_false,wo,hr,ha,cond_true,hl]
    rw [Nat.add_zero] at hLi
    rw [hLi]
    cases wo L k (i+1) r <;> rfl
 |i,j0+1,c::r,c0,h,hd=>by
  have ih:=qli (L:=L) (k:=k) (i:=i+1) (j0:=j0) (chs:=r) (c0:=c0) (by simpa using h) fun j c hj hc hL hl=>hd (j+1) c (by omega) (by simpa using hc) (by rw [show i+(j+1)=i+1+j by omega];exact hL) hl
  rw [show i+1+j0=i+(j0+1) by omega] at ih
  have hi:addL L (i+(j0+1)) i=L i:=by
   unfold addL
   rw [ji (by omega),Bool.false_or]
  cases hl:lkS c0 k with
  |some v=>rw [hl] at ih;simp only [wo,ih]
  |none=>
   rw [hl] at ih
   simp only at ih
   cases hLi:L (i+(j0+1)) with
   |true=>rfl
   |false=>
    rw [hLi] at ih
    simp only [cond_false] at ih ⊢
    simp only [wo,ih,hi]
theorem qip {α : Type}:∀ {L:Nat→Bool} {i:Nat} {chs:List (List (Nat×α))} {base:List (Nat×α)},(∀ j,j<chs.length→L (i+j)=false)→cf L i chs base=base
 | _,_,[],_,_=>rfl
 |L,i,c::r,base,h=>by
  have h0:=h 0 (by simp)
  rw [Nat.add_zero] at h0
  simp only [cf,h0,cond_false]
  exact qip fun j hj=>by
   have:=h (j+1) (by simpa using hj)
   rw [show i+1+j=i+(j+1) by omega]
   exact this
structure Tr where
 rd:List Nat
 dst:Option Nat
 e:Ef
 nx:Nat
def Tr.sch (t:Tr):List (Nat×SV):=match t.dst with
 |some d=>[(d,t.e.val)]
 |none=>[]
def runT:List Tr→Conf→Conf
 | [],C=>C
 |t::r,C=>runT r (C.app t.dst t.e)
theorem zbv (C:Conf) (t:Tr):(C.app t.dst t.e).sl=t.sch++C.sl:=by
 unfold Conf.app Tr.sch
 cases t.dst <;> rfl
theorem qiq:∀ (tr:List Tr) (i0 n:Nat) (C:Conf),cf (fun j=>Nat.blt j (i0+n)) i0 (tr.map Tr.sch) C.sl=(runT (tr.take n) C).sl∧cf (fun j=>Nat.blt j (i0+n)) i0 (tr.map fun t=>t.e.ch) C.hp=(runT (tr.take n) C).hp
 | [],_,n,C=>by simp [cf,runT]
 |t::r,i0,0,C=>by
  have hf:∀ {m:Nat} (j:Nat),j<m→Nat.blt (i0+j) (i0+0)=false:=fun j _=>by
   cases hb:Nat.blt (i0+j) (i0+0) with
   |false=>rfl
   |true=>have:=kj hb;omega
  exact⟨qip fun j hj=>hf j hj,qip fun j hj=>hf j hj⟩
 |t::r,i0,n+1,C=>by
  have hb:Nat.blt i0 (i0+(n+1))=true:=y4 (by omega)
  have ih:=qiq r (i0+1) n (C.app t.dst t.e)
  rw [show i0+1+n=i0+(n+1) by omega] at ih
  simp only [List.map_cons,cf,hb,cond_true,List.take_succ_cons,runT]
  rw [← zbv]
  exact ih
def vb (ch:List (Nat×Option SR)):List Nat:=ch.map Prod.fst
def qbk (a b:List Nat):Bool:=a.all fun x=> !memN b x
def dstL:Option Nat→List Nat
 |some d=>[d]
 |none=>[]
def indT (a b:Tr):Bool:=
 qbk (dstL a.dst) b.rd && qbk (dstL a.dst) (dstL b.dst) && qbk (dstL b.dst) a.rd &&
 qbk (vb a.e.ch) b.e.ks && qbk (vb a.e.ch) (vb b.e.ch) && qbk (vb b.e.ch) a.e.ks &&
 b.e.val.all (fun k=>Nat.blt k a.nx ||Nat.ble a.e.nx k) && b.e.ch.all (fun q=>(Nat.blt q.1 a.nx ||Nat.ble a.e.nx q.1) && match q.2 with
  |some r=>r.all fun k=>Nat.blt k a.nx ||Nat.ble a.e.nx k
  |none=>true)
def qf7 (o:Oper) (acc:List Nat):Nat:=(qbl o).foldl (fun m d=>(m ||| 2 ^ d) |||acc.getD d 0) 0
def ancs:List Oper→List Nat→List Nat
 | [],acc=>acc
 |o::r,acc=>ancs r (acc++[qf7 o acc])
inductive AncR (l:List Oper):Nat→Nat→Prop
 |dep {i j:Nat} {o:Oper} (ho:l[j]? = some o) (hi:i∈qbl o):AncR l i j
 |step {i d j:Nat} {o:Oper} (ho:l[j]? = some o) (hd:d∈qbl o) (h:AncR l i d):AncR l i j
theorem q39 {l:List Oper} {acc:List Nat} (hacc:∀ j i,(acc.getD j 0).testBit i=true→AncR l i j) {o:Oper} {j:Nat} (ho:l[j]? = some o) {i:Nat} (h:(qf7 o acc).testBit i=true):AncR l i j:=by
 unfold qf7 at h
 have key:∀ (ds:List Nat) (m:Nat),(∀ d∈ds,d∈qbl o)→(m.testBit i=true→AncR l i j)→(ds.foldl (fun m d=>(m ||| 2 ^ d) |||acc.getD d 0) m).testBit i=true→AncR l i j:=by
  intro ds
  induction ds with
  |nil=>exact fun m _ hm h=>hm h
  |cons d r ih=>
   intro m hd hm h
   refine ih ((m ||| 2 ^ d) |||acc.getD d 0) (fun d' hd'=>hd d' (by simp [hd'])) (fun hb=>?_) h
   rw [Nat.testBit_or,Nat.testBit_or,Bool.or_eq_true,Bool.or_eq_true,Nat.testBit_two_pow] at hb
   rcases hb with (hb|hb)|hb
   ·exact hm hb
   ·have:d=i:=by simpa using hb
    subst this
    exact .dep ho (hd d (by simp))
   ·exact .step ho (hd d (by simp)) (hacc d i hb)
 exact key (qbl o) 0 (fun d hd=>hd) (fun h=>by simp at h) h
theorem qut {l:List Oper}:∀ (r:List Oper) (acc:List Nat),(∀ k o,r[k]? = some o→l[acc.length+k]? = some o)→(∀ j i,(acc.getD j 0).testBit i=true→AncR l i j)→∀ j i,((ancs r acc).getD j 0).testBit i=true→AncR l i j
 | [],acc,_,h=>h
 |o::r,acc,hr,h=>by
  refine qut r (acc++[qf7 o acc]) (fun k o' hk=>?_) (fun j i hb=>?_)
  ·have:=hr (k+1) o' (by simpa using hk)
   rw [List.length_append]
   simp only [List.length_cons,List.length_nil]
   rw [show acc.length+(0+1)+k=acc.length+(k+1) by omega]
   exact this
  ·by_cases hj:j<acc.length
   ·have e:(acc++[qf7 o acc]).getD j 0=acc.getD j 0:=by simp [List.getD,List.getElem?_append_left hj]
    rw [e] at hb
    exact h j i hb
   ·by_cases hj':j=acc.length
    ·subst hj'
     have e:(acc++[qf7 o acc]).getD acc.length 0=qf7 o acc:=by simp [List.getD]
     rw [e] at hb
     exact q39 h (by have:=hr 0 o rfl;simpa using this) hb
    ·have e:(acc++[qf7 o acc]).getD j 0=0:=by simp [List.getD,List.getElem?_eq_none (show (acc++[qf7 o acc]).length≤j by simp;omega)]
     rw [e] at hb
     simp at hb
def chkR:Nat→Tr→Nat→List Tr→List Nat→Bool
 | _,_,_,[],_=>true
 |i,a,j,b::r,m=>((m.getD j 0).testBit i ||indT a b) && chkR i a (j+1) r m
def chkT:Nat→List Tr→List Nat→Bool
 | _,[],_=>true
 |i,a::r,m=>chkR i a (i+1) r m && chkT (i+1) r m
theorem qvf:∀ {i:Nat} {a:Tr} {j0:Nat} {l:List Tr} {m:List Nat},chkR i a j0 l m=true→∀ j b,l[j]? = some b→(m.getD (j0+j) 0).testBit i=true∨indT a b=true
 | _,_,_,[],_,_,j,b,h=>by simp at h
 |i,a,j0,b::r,m,h,j,b',hb=>by
  simp only [chkR,Bool.and_eq_true,Bool.or_eq_true] at h
  cases j with
  |zero=>
   simp only [List.getElem?_cons_zero,Option.some.injEq] at hb
   subst hb
   exact h.1
  |succ j=>
   have:=qvf h.2 j b' (by simpa using hb)
   rw [show j0+(j+1)=j0+1+j by omega]
   exact this
theorem qvg:∀ {i0:Nat} {l:List Tr} {m:List Nat},chkT i0 l m=true→∀ i j a b,i<j→l[i]? = some a→l[j]? = some b→(m.getD (i0+j) 0).testBit (i0+i)=true∨indT a b=true
 | _,[],_,_,_,_,_,_,_,h,_=>by simp at h
 |i0,a::r,m,h,i,j,a',b',hij,ha,hb=>by
  simp only [chkT,Bool.and_eq_true] at h
  cases i with
  |zero=>
   simp only [List.getElem?_cons_zero,Option.some.injEq] at ha
   subst ha
   obtain⟨j,rfl⟩:∃ j',j=j'+1:=⟨j - 1,by omega⟩
   have:=qvf h.1 j b' (by simpa using hb)
   rw [show i0+(j+1)=i0+1+j by omega,Nat.add_zero]
   exact this
  |succ i=>
   obtain⟨j,rfl⟩:∃ j',j=j'+1:=⟨j - 1,by omega⟩
   have:=qvg h.2 i j a' b' (by omega) (by simpa using ha) (by simpa using hb)
   rw [show i0+(j+1)=i0+1+j by omega,show i0+(i+1)=i0+1+i by omega]
   exact this
theorem qdd {a b:List Nat} (h:qbk a b=true) {x:Nat} (hx:memN a x=true):memN b x=false:=by
 unfold memN at hx
 obtain⟨y,hy,e⟩:=List.any_eq_true.1 hx
 have:=Nat.eq_of_beq_eq_true e
 subst this
 simpa using List.all_eq_true.1 h _ hy
theorem qll {ch:List (Nat×Option SR)} {k:Nat} (h:lkS ch k≠none):memN (vb ch) k=true:=by
 cases hl:lkS ch k with
 |none=>exact absurd hl h
 |some v=>exact List.any_eq_true.2 ⟨k,List.mem_map.2 ⟨_,km hl,rfl⟩,by simp⟩
theorem qoc {t:Tr} {d:Nat} (h:lkS t.sch d≠none):memN (dstL t.dst) d=true:=by
 unfold Tr.sch at h
 cases ht:t.dst with
 |none=>rw [ht] at h;simp [lkS] at h
 |some x=>
  rw [ht] at h
  simp only [lkS] at h
  by_cases e:x=d
  ·subst e;simp [dstL,memN]
  ·rw [ji e] at h;simp at h
def rs (rd:List Nat) (sl:List (Nat×SV)):List (Nat×SV):=rd.filterMap fun d=>match lkS sl d with
 |some v=>some (d,v)
 |none=>none
theorem zc9 {rd:List Nat} {sl:List (Nat×SV)} {d:Nat} {v:SV} (h:lkS (rs rd sl) d=some v):memN rd d=true∧lkS sl d=some v:=by
 have:=km h
 unfold rs at this
 obtain⟨x,hx,he⟩:=List.mem_filterMap.1 this
 split at he
 ·rename_i w hw
  simp only [Option.some.injEq,Prod.mk.injEq] at he
  obtain⟨rfl,rfl⟩:=he
  exact⟨List.any_eq_true.2 ⟨x,hx,by simp⟩,hw⟩
 ·simp at he
theorem qwb {l:List Nat} {x:Nat} (h:memN l x=true):x∈l:=by
 obtain⟨y,hy,e⟩:=List.any_eq_true.1 h
 rw [Nat.eq_of_beq_eq_true e]
 exact hy
theorem SatR.congr {S0:List AObj} {F:Nat→Prop} {C C':Conf} {ρ t:Nat→AV} {S:List AObj} (h:SatR S0 F C ρ t S) (h1:∀ d,lkS C'.sl d=lkS C.sl d) (h2:hpF C'.hp=hpF C.hp) (h3:C.nx≤C'.nx):SatR S0 F C' ρ t S:=
 ⟨fun d v hd=>h.sl d v (by rw [← h1];exact hd),by rw [h2];exact h.hp,by rw [h2];exact h.own,h.low,h.len,fun d v hd=>all_mono (fun k hk=>y4 (by have:=kj hk;omega)) v (h.wsl d v (by rw [← h1];exact hd)),fun k r hk=>by
  rw [h2] at hk
  obtain⟨g1,g2⟩:=h.whp k r hk
  exact⟨by omega,SR.all_mono (fun k hk=>y4 (by have:=kj hk;omega)) r g2⟩⟩
structure qz8 (E:Env) (N:Nat) (l:List Oper) (C0:Conf) (tr:List Tr):Prop where
 len:tr.length=l.length
 loc:∀ i o t,l[i]? = some o→tr[i]? = some t→Loc E N l.toArray o t.nx (rs t.rd (runT (tr.take i) C0).sl) (hpF (runT (tr.take i) C0).hp) t.e∧t.e.wf t.nx=true∧t.nx=(runT (tr.take i) C0).nx∧t.dst=o.dst
theorem qi0 {E:Env} {N:Nat} {l:List Oper} {C0:Conf} {tr:List Tr} (h:qz8 E N l C0 tr):∀ {i j:Nat},i≤j→j≤tr.length→(runT (tr.take i) C0).nx≤(runT (tr.take j) C0).nx:=by
 have step:∀ (r:List Tr) (C:Conf) (t:Tr),(runT (r++[t]) C)=(runT r C).app t.dst t.e:=by
  intro r
  induction r with
  |nil=>exact fun C t=>rfl
  |cons a r ih=>exact fun C t=>ih _ t
 intro i j hij
 induction hij with
 |refl=>exact fun _=>Nat.le_refl _
 |step hm ih=>
  rename_i m
  intro hj
  refine Nat.le_trans (ih (by omega)) ?_
  have ht:tr[m]? = some (tr[m]'(by omega)):=List.getElem?_eq_getElem (by omega)
  have ho:l[m]? = some (l[m]'(by have:=h.len;omega)):=List.getElem?_eq_getElem _
  obtain⟨_,h2,h3,_⟩:=h.loc m _ _ ho ht
  rw [List.take_succ_eq_append_getElem (by omega),step]
  have:=(qeq h2).1
  rw [h3] at this
  exact this
theorem q49 {tr:List Tr} {i:Nat} {t:Tr} (ht:tr[i]? = some t) (C0:Conf):runT (tr.take (i+1)) C0=(runT (tr.take i) C0).app t.dst t.e:=by
 have step:∀ (r:List Tr) (C:Conf) (t:Tr),(runT (r++[t]) C)=(runT r C).app t.dst t.e:=by
  intro r
  induction r with
  |nil=>exact fun C t=>rfl
  |cons a r ih=>exact fun C t=>ih _ t
 obtain⟨hi,e⟩:=List.getElem?_eq_some_iff.1 ht
 rw [List.take_succ_eq_append_getElem hi,step,e]
def ql9 (l:List Oper) (L:Nat→Bool):Prop:=∀ j o,L j=true→l[j]? = some o→∀ d∈qbl o,L d=true
theorem ql9.anc {l:List Oper} {L:Nat→Bool} (h:ql9 l L) {i j:Nat} (ha:AncR l i j):L j=true→L i=true:=by
 induction ha with
 |dep ho hi=>exact fun hj=>h _ _ hj ho _ hi
 |step ho hd _ ih=>exact fun hj=>ih (h _ _ hj ho _ hd)
theorem q2s {E:Env} {rd:Option Nat} {N:Nat} {id:Nat} {l:List Oper} {B:Bs} {C0:Conf} {tr:List Tr} {Q:Exit→AS→Prop} {s:AS} (hm:E.P.follows .mixedOrders=true) (hnd:l.toArray.all qdl=true) (hd:qe6 0 l=true)
  (hw:qz8 E N l C0 tr) (hc:chkT 0 tr (ancs l [])=true) (hs:SatC B C0 s) (hq:∀ s',SatC B (runT tr C0) s'→Q .normal s'):AWp E rd N (.region id l.toArray true) Q s:=by
 have hlen:=hw.len
 let NX:=(runT tr C0).nx
 let SC:=tr.map Tr.sch
 let HC:=tr.map fun t:Tr=>t.e.ch
 have hSC:∀ {j:Nat} {c:List (Nat×SV)},SC[j]? = some c→∃ t,tr[j]? = some t∧c=t.sch:=fun {j c} h=>by
  simp only [SC,List.getElem?_map] at h
  cases ht:tr[j]? with
  |none=>rw [ht] at h;simp at h
  |some t=>rw [ht] at h;simp at h;exact⟨t,rfl,h.symm⟩
 have hHC:∀ {j:Nat} {c:List (Nat×Option SR)},HC[j]? = some c→∃ t,tr[j]? = some t∧c=t.e.ch:=fun {j c} h=>by
  simp only [HC,List.getElem?_map] at h
  cases ht:tr[j]? with
  |none=>rw [ht] at h;simp at h
  |some t=>rw [ht] at h;simp at h;exact⟨t,rfl,h.symm⟩
 have hop:∀ {j:Nat} {t:Tr},tr[j]? = some t→∃ o,l[j]? = some o:=fun {j t} h=>⟨_,List.getElem?_eq_getElem (by have:=lt_of_getElem? h;omega)⟩
 have htk:tr.take tr.length=tr:=List.take_length
 have hnx:∀ {j:Nat} {t:Tr},tr[j]? = some t→t.nx=(runT (tr.take j) C0).nx∧t.e.nx=(runT (tr.take (j+1)) C0).nx:=fun {j t} h=>by
  obtain⟨o,ho⟩:=hop h
  refine⟨(hw.loc j o t ho h).2.2.1,?_⟩
  rw [q49 h]
  rfl
 have hmono:∀ {i j:Nat} {a b:Tr},i<j→tr[i]? = some a→tr[j]? = some b→a.e.nx≤b.nx:=fun {i j a b} hij ha hb=>by
  rw [(hnx ha).2,(hnx hb).1]
  exact qi0 hw (by omega) (by have:=lt_of_getElem? hb;omega)
 have hNX:∀ {j:Nat} {t:Tr},tr[j]? = some t→t.e.nx≤NX:=fun {j t} h=>by
  rw [(hnx h).2]
  have:=qi0 hw (i:=j+1) (j:=tr.length) (by have:=lt_of_getElem? h;omega) (Nat.le_refl _)
  rw [htk] at this
  exact this
 have h0nx:∀ {j:Nat} {t:Tr},tr[j]? = some t→C0.nx≤t.nx:=fun {j t} h=>by
  rw [(hnx h).1]
  exact qi0 hw (i:=0) (Nat.zero_le j) (by have:=lt_of_getElem? h;omega)
 have hanc:∀ j i,((ancs l []).getD j 0).testBit i=true→AncR l i j:=qut l [] (fun k o hk=>by simpa using hk) (fun j i h=>by simp [List.getD] at h)
 have pair:∀ {i j:Nat} {a b:Tr},i<j→tr[i]? = some a→tr[j]? = some b→AncR l i j∨indT a b=true:=fun {i j a b} hij ha hb=>by
  have:=qvg hc i j a b hij ha hb
  rw [Nat.zero_add,Nat.zero_add] at this
  exact this.imp_left fun h=>hanc j i h
 have hb0:B.n0≤C0.nx:=by obtain⟨_,h,_⟩:=hs;exact h.le
 refine q2q hm hnd hd (fun L s=>ql9 l L∧SatC B ⟨cf L 0 SC C0.sl,cf L 0 HC C0.hp,NX⟩ s) ⟨fun j o h=>by simp at h,?_⟩ ?_ ?_
 ·obtain⟨ρ,hdf,hR⟩:=hs
  have hC0:C0.nx≤NX:=by
   have:=qi0 hw (i:=0) (j:=tr.length) (Nat.zero_le _) (Nat.le_refl _)
   rw [htk] at this
   exact this
  refine⟨ρ,hdf.nx (Nat.le_trans hdf.le hC0),hR.congr (fun d=>?_) ?_ ?_⟩
  ·rw [qip fun _ _=>rfl]
  ·show hpF (cf (fun _=>false) 0 HC C0.hp)=hpF C0.hp
   rw [qip fun _ _=>rfl]
  ·have:=qi0 hw (i:=0) (j:=tr.length) (Nat.zero_le _) (Nat.le_refl _)
   rw [htk] at this
   exact this
 ·rintro L s' hall ⟨_,ρ,hdf,hR⟩
  refine hq s' ⟨ρ,hdf.nx hdf.le,hR.congr (fun d=>?_) ?_ (Nat.le_refl _)⟩
  ·have h1:=(qiq tr 0 tr.length C0).1
   rw [htk] at h1
   rw [← h1]
   simp only [qcf]
   rw [qbg (L:=fun j=>Nat.blt j (0+tr.length)) (L':=L) fun j c hc _=>by
    obtain⟨t,ht,_⟩:=hSC hc
    have hj:=lt_of_getElem? ht
    rw [hall (0+j) (by omega)]
    exact y4 (by omega)]
  ·have h1:=(qiq tr 0 tr.length C0).2
   rw [htk] at h1
   rw [← h1]
   funext k
   unfold hpF
   simp only [qcf]
   rw [qbg (L:=fun j=>Nat.blt j (0+tr.length)) (L':=L) fun j c hc _=>by
    obtain⟨t,ht,_⟩:=hHC hc
    have hj:=lt_of_getElem? ht
    rw [hall (0+j) (by omega)]
    exact y4 (by omega)]
 ·-- the steps
  suffices H:∀ (i:Nat) (o:Oper),l[i]? = some o→∀ L s,L i=false→(∀ j,(qbl o).contains j=true→L j=true)→(ql9 l L∧SatC B ⟨cf L 0 SC C0.sl,cf L 0 HC C0.hp,NX⟩ s) →
    AOps E none N l.toArray [o] (fun s=>ql9 l (addL L i)∧SatC B ⟨cf (addL L i) 0 SC C0.sl,cf (addL L i) 0 HC C0.hp,NX⟩ s) s by
   have gen:∀ (r:List Oper) (i0:Nat),(∀ k o,r[k]? = some o→l[i0+k]? = some o)→qkp E N l.toArray (fun L s=>ql9 l L∧SatC B ⟨cf L 0 SC C0.sl,cf L 0 HC C0.hp,NX⟩ s) i0 r:=by
    intro r
    induction r with
    |nil=>exact fun _ _=>trivial
    |cons o r ih=>
     intro i0 hr
     exact⟨H i0 o (by have:=hr 0 o rfl;simpa using this),ih (i0+1) fun k o' hk=>by rw [show i0+1+k=i0+(k+1) by omega];exact hr (k+1) o' (by simpa using hk)⟩
   exact gen l 0 fun k o hk=>by simpa using hk
  rintro i o ho L ⟨t0,S,df⟩ hLi hdeps ⟨hdown,ρ,hdf,hR⟩
  simp only at hdf hR
  have hil:=lt_of_getElem? ho
  obtain⟨t,ht⟩:∃ t,tr[i]? = some t:=⟨_,List.getElem?_eq_getElem (by omega)⟩
  obtain⟨hL,hwf,hnxi,hdst⟩:=hw.loc i o t ho ht
  obtain⟨w1,w2,w3⟩:=qeq hwf
  -- who has done what, told by the text
  have anc_in:∀ {j:Nat},AncR l j i→L j=true:=fun {j} h=>by
   cases h with
   |dep ho' hi=>
    rw [ho] at ho'
    simp only [Option.some.injEq] at ho'
    subst ho'
    exact hdeps j (by simpa using hi)
   |step ho' hd' h'=>
    rw [ho] at ho'
    simp only [Option.some.injEq] at ho'
    subst ho'
    exact hdown.anc h' (hdeps _ (by simpa using hd'))
  have not_after:∀ {j:Nat},AncR l i j→L j=false:=fun {j} h=>by
   cases hj:L j with
   |false=>rfl
   |true=>rw [hdown.anc h hj] at hLi;simp at hLi
  have agree:∀ {j:Nat} {b:Tr},tr[j]? = some b→(∀ (hji:j<i),indT b t=true→False)→(∀ (hij:i<j),indT t b=true→False)→L j=Nat.blt j i:=fun {j b} hb h1 h2=>by
   rcases Nat.lt_trichotomy j i with hji|hji|hji
   ·rw [y4 hji]
    rcases pair hji hb ht with h|h
    ·exact anc_in h
    ·exact (h1 hji h).elim
   ·subst hji
    rw [hLi]
    cases hbb:Nat.blt j j with
    |false=>rfl
    |true=>have:=kj hbb;omega
   ·have:Nat.blt j i=false:=by
     cases hbb:Nat.blt j i with
     |false=>rfl
     |true=>have:=kj hbb;omega
    rw [this]
    rcases pair hji ht hb with h|h
    ·exact not_after h
    ·exact (h2 hji h).elim
  have hslA:∀ d,memN t.rd d=true→lkS (cf L 0 SC C0.sl) d=lkS (runT (tr.take i) C0).sl d:=fun d hd=>by
   have h1:=(qiq tr 0 i C0).1
   rw [← h1]
   simp only [qcf]
   rw [qbg (L:=L) (L':=fun j=>Nat.blt j (0+i)) fun j c hc hl=>by
    obtain⟨b,hb,rfl⟩:=hSC hc
    have hdm:=qoc hl
    rw [Nat.zero_add,Nat.zero_add]
    refine agree hb (fun hji h=>?_) (fun hij h=>?_)
    ·simp only [indT,Bool.and_eq_true] at h
     have:=qdd h.1.1.1.1.1.1.1 hdm
     rw [hd] at this
     simp at this
    ·simp only [indT,Bool.and_eq_true] at h
     have:=qdd h.1.1.1.1.1.2 hdm
     rw [hd] at this
     simp at this]
  have hhpA:resF t.e.ks (hpF (runT (tr.take i) C0).hp)=resF t.e.ks (hpF (cf L 0 HC C0.hp)):=by
   funext k
   unfold resF
   cases hk:memN t.e.ks k with
   |false=>rfl
   |true=>
    simp only [cond_true]
    have h1:=(qiq tr 0 i C0).2
    rw [← h1]
    unfold hpF
    simp only [qcf]
    rw [qbg (L:=fun j=>Nat.blt j (0+i)) (L':=L) fun j c hc hl=>by
     obtain⟨b,hb,rfl⟩:=hHC hc
     have hdm:=qll hl
     rw [Nat.zero_add,Nat.zero_add]
     refine (agree hb (fun hji h=>?_) (fun hij h=>?_)).symm
     ·simp only [indT,Bool.and_eq_true] at h
      have:=qdd h.1.1.1.1.2 hdm
      rw [hk] at this
      simp at this
     ·simp only [indT,Bool.and_eq_true] at h
      have:=qdd h.1.1.2 hdm
      rw [hk] at this
      simp at this]
  refine hL _ none _ [] ρ t0 S (fun d v hd'=>?_) (by rw [hhpA];exact hR.hp.res _) fun ρ' S' hp=>qf ⟨fun j o' hj ho' d hd'=>?_,ρ',?_,?_⟩
  ·obtain⟨g1,g2⟩:=zc9 hd'
   exact hR.sl d v (by rw [hslA d g1];exact g2)
  ·unfold addL at hj ⊢
   rcases Bool.or_eq_true_iff.1 hj with hj|hj
   ·have:=Nat.eq_of_beq_eq_true hj
    subst this
    rw [ho] at ho'
    simp only [Option.some.injEq] at ho'
    subst ho'
    rw [hdeps d (by simpa using hd'),Bool.or_true]
   ·rw [hdown j o' hj ho' d hd',Bool.or_true]
  ·have hp2:qer ρ S t.nx (hpF (cf L 0 HC C0.hp)) t.e ρ' S':=⟨hp.old,by rw [← hhpA];exact hp.sat,hp.len,by rw [← hhpA];exact hp.fr,by rw [← hhpA];exact hp.loc⟩
   have:=hdf.stepG (C':=⟨cf (addL L i) 0 SC C0.sl,cf (addL L i) 0 HC C0.hp,NX⟩) hR.hp hp2 (by have:=hb0;have:=h0nx ht;omega) hdf.le
   cases o.dst <;> exact this
  ·have hp2:qer ρ S t.nx (hpF (cf L 0 HC C0.hp)) t.e ρ' S':=⟨hp.old,by rw [← hhpA];exact hp.sat,hp.len,by rw [← hhpA];exact hp.fr,by rw [← hhpA];exact hp.loc⟩
   have old_lt:∀ k,Nat.blt k C0.nx=true→(Nat.blt k t.nx ||Nat.ble t.e.nx k)=true:=fun k hk=>by
    have:=h0nx ht
    rw [y4 (by have:=kj hk;omega),Bool.true_or]
   have ear_lt:∀ {j:Nat} {b:Tr},j<i→tr[j]? = some b→∀ k,Nat.blt k b.e.nx=true→(Nat.blt k t.nx ||Nat.ble t.e.nx k)=true:=fun {j b} hji hb k hk=>by
    have:=hmono hji hb ht
    rw [y4 (by have:=kj hk;omega),Bool.true_or]
   have lat:∀ {j:Nat} {b:Tr},tr[j]? = some b→L j=true→¬ j<i→indT t b=true∧i<j:=fun {j b} hb hLj hji=>by
    have hij:i<j:=by
     rcases Nat.lt_trichotomy i j with h|h|h
     ·exact h
     ·subst h;rw [hLi] at hLj;simp at hLj
     ·omega
    rcases pair hij ht hb with h|h
    ·rw [not_after h] at hLj;simp at hLj
    ·exact⟨h,hij⟩
   have hst:=hR.stepG (d:=o.dst) (nx:=t.nx) (NX:=NX) (Nat.le_refl _) (all_mono (fun k hk=>y4 (by have:=kj hk;have:=hNX ht;omega)) _ w2) (fun q hq'=>⟨by have:=(w3 q hq').1;have:=hNX ht;omega,fun r hr=>SR.all_mono (fun k hk=>y4 (by have:=kj hk;have:=hNX ht;omega)) r ((w3 q hq').2.2 r hr)⟩) (fun d v hd'=>?_) (fun k r hk=>?_) hp2
   ·refine SatR.congr (S0:=B.S0) (F:=B.F) (C:=⟨match o.dst with|some d=>(d,t.e.val)::cf L 0 SC C0.sl|none=>cf L 0 SC C0.sl,t.e.ch++cf L 0 HC C0.hp,NX⟩) ?_ (fun d=>?_) ?_ (Nat.le_refl _)
    ·cases hod:o.dst with
     |none=>rw [hod] at hst;exact hst
     |some x=>rw [hod] at hst;exact hst
    ·have hSi:SC[i]? = some t.sch:=by simp only [SC,List.getElem?_map,ht];rfl
     have hadd:=qli (L:=L) (k:=d) (i:=0) (j0:=i) hSi fun j c hij hc hLj hl=>by
      obtain⟨b,hb,rfl⟩:=hSC hc
      rw [Nat.zero_add] at hLj
      have h:=(lat hb hLj (by omega)).1
      simp only [indT,Bool.and_eq_true] at h
      have h2:=qdd h.1.1.1.1.1.1.2 (qoc hl)
      cases hq':lkS b.sch d with
      |none=>rfl
      |some w=>
       have:=qoc (t:=b) (d:=d) (by rw [hq'];simp)
       rw [h2] at this
       simp at this
     rw [Nat.zero_add,hLi] at hadd
     simp only [cond_false] at hadd
     have e:lkS (match o.dst with|some d=>(d,t.e.val)::cf L 0 SC C0.sl|none=>cf L 0 SC C0.sl) d=lkS (t.sch++cf L 0 SC C0.sl) d:=by
      unfold Tr.sch
      rw [hdst]
      cases o.dst <;> rfl
     rw [e,qb4]
     simp only [qcf]
     rw [hadd]
     cases lkS t.sch d <;> rfl
    ·rw [qze]
     funext k
     have hHi:HC[i]? = some t.e.ch:=by simp only [HC,List.getElem?_map,ht];rfl
     have hadd:=qli (L:=L) (k:=k) (i:=0) (j0:=i) hHi fun j c hij hc hLj hl=>by
      obtain⟨b,hb,rfl⟩:=hHC hc
      rw [Nat.zero_add] at hLj
      have h:=(lat hb hLj (by omega)).1
      simp only [indT,Bool.and_eq_true] at h
      have h2:=qdd h.1.1.1.2 (qll hl)
      cases hq':lkS b.e.ch k with
      |none=>rfl
      |some w=>
       have:=qll (ch:=b.e.ch) (k:=k) (by rw [hq'];simp)
       rw [h2] at this
       simp at this
     rw [Nat.zero_add,hLi] at hadd
     simp only [cond_false] at hadd
     unfold chF hpF
     simp only [qcf]
     rw [hadd]
     cases lkS t.e.ch k <;> rfl
   ·simp only [qcf] at hd'
    cases hlast:wo L d 0 SC with
    |none=>
     rw [hlast] at hd'
     simp only at hd'
     obtain⟨ρ0,_,hR0⟩:=hs
     exact all_mono old_lt v (hR0.wsl d v hd')
    |some u=>
     rw [hlast] at hd'
     simp only [Option.some.injEq] at hd'
     subst hd'
     obtain⟨j,c,hc',hLj,hl⟩:=qf5 hlast
     obtain⟨b,hb,rfl⟩:=hSC hc'
     rw [Nat.zero_add] at hLj
     obtain⟨ob,hob⟩:=hop hb
     have hu:u=b.e.val:=by
      unfold Tr.sch at hl
      cases hbd:b.dst with
      |none=>rw [hbd] at hl;simp [lkS] at hl
      |some x=>
       rw [hbd] at hl
       simp only [lkS] at hl
       cases hbx:Nat.beq x d with
       |true=>rw [hbx] at hl;simp only [cond_true,Option.some.injEq] at hl;exact hl.symm
       |false=>rw [hbx] at hl;simp at hl
     subst hu
     by_cases hji:j<i
     ·exact all_mono (ear_lt hji hb) _ (qeq (hw.loc j ob b hob hb).2.1).2.1
     ·have h:=(lat hb hLj hji).1
      simp only [indT,Bool.and_eq_true] at h
      exact h.1.2
   ·have hk':=wj hk
    simp only [qcf] at hk'
    cases hlast:wo L k 0 HC with
    |none=>
     rw [hlast] at hk'
     simp only at hk'
     obtain⟨ρ0,_,hR0⟩:=hs
     obtain⟨g1,g2⟩:=hR0.whp k r (by unfold hpF;rw [hk'])
     exact⟨.inl (by have:=h0nx ht;omega),SR.all_mono old_lt r g2⟩
    |some u=>
     rw [hlast] at hk'
     simp only [Option.some.injEq] at hk'
     subst hk'
     obtain⟨j,c,hc',hLj,hl⟩:=qf5 hlast
     obtain⟨b,hb,rfl⟩:=hHC hc'
     rw [Nat.zero_add] at hLj
     obtain⟨ob,hob⟩:=hop hb
     obtain⟨g1,_,g3⟩:=(qeq (hw.loc j ob b hob hb).2.1).2.2 _ (km hl)
     by_cases hji:j<i
     ·exact⟨.inl (by have:=hmono hji hb ht;simp only at g1;omega),SR.all_mono (ear_lt hji hb) r (g3 r rfl)⟩
     ·have h:=(lat hb hLj hji).1
      simp only [indT,Bool.and_eq_true] at h
      have h2:=List.all_eq_true.1 h.2 _ (km hl)
      simp only [Bool.and_eq_true,Bool.or_eq_true] at h2
      exact⟨h2.1.imp kj Nat.le_of_ble_eq_true,h2.2⟩
def opTm:Operand→Option Nat
 | .tmp i=>some i
 | _=>none
def rdOf (l:List Oper) (o:Oper):List Nat:=o.op.operands.toList.filterMap opTm++match o.guard with
 |some (j,_)=>dstL (quf l j)
 |none=>[]
def wpDr (E:Env) (N:Nat) (l:List Oper) (bxs:List Nat):Nat→List Oper→List Tr→(List Tr→Conf→Prop)→Conf→Prop
 | _,[],tr,K,C=>K tr C
 |i,o::r,tr,K,⟨sl,hp,nx⟩=>opG E N l bxs nx (rs (rdOf l o) sl) (hpF hp) (gdW (isGd i l) (fcE fun e=>quh sl hp nx o.dst (wpDr E N l bxs (i+1) r (tr++[⟨rdOf l o,o.dst,e,nx⟩]) K) e)) o
theorem q8h (r:List Tr) (t:Tr):∀ C,runT (r++[t]) C=(runT r C).app t.dst t.e:=by
 induction r with
 |nil=>exact fun C=>rfl
 |cons a r ih=>exact fun C=>ih _
theorem qz4 {E:Env} {N:Nat} {l:List Oper} {bxs:List Nat} {C0:Conf} {K:List Tr→Conf→Prop}:∀ {r:List Oper} {i:Nat} {tr:List Tr} {C:Conf},(∀ k,r[k]? = l[i+k]?)→tr.length=i→i+r.length=l.length→C=runT tr C0 →
  (∀ j o t,l[j]? = some o→tr[j]? = some t→Loc E N l.toArray o t.nx (rs t.rd (runT (tr.take j) C0).sl) (hpF (runT (tr.take j) C0).hp) t.e∧t.e.wf t.nx=true∧t.nx=(runT (tr.take j) C0).nx∧t.dst=o.dst) →
  wpDr E N l bxs i r tr K C→∃ tr',qz8 E N l C0 tr'∧K tr' (runT tr' C0)
 | [],i,tr,C,hr,hl,hn,hC,hw,h=>⟨tr,⟨by simpa [hl] using hn,hw⟩,by rw [← hC];exact h⟩
 |o::r,i,tr,⟨sl,hp,nx⟩,hr,hl,hn,hC,hw,h=>by
  obtain⟨e,hL,h⟩:=q4l h
  obtain⟨e,hL,h⟩:=q3u hL h
  rw [q3n] at h
  obtain⟨hwf,h⟩:=qwg h
  ·refine qz4 (r:=r) (i:=i+1) (tr:=tr++[⟨rdOf l o,o.dst,e,nx⟩]) (fun k=>?_) (by simp [hl]) (by simp at hn;omega) (by rw [q8h,← hC]) (fun j o' t ho ht=>?_) h
   ·have:=hr (k+1)
    rw [show i+1+k=i+(k+1) by omega,← this]
    rfl
   ·by_cases hj:j<tr.length
    ·rw [List.getElem?_append_left hj] at ht
     rw [List.take_append_of_le_length (by omega)]
     exact hw j o' t ho ht
    ·have hji:j=tr.length:=by
      have:=lt_of_getElem? ht
      simp at this
      omega
     subst hji
     simp only [List.getElem?_concat_length,Option.some.injEq] at ht
     subst ht
     have ho2:=hr 0
     rw [← hl,Nat.add_zero,ho] at ho2
     simp only [List.getElem?_cons_zero,Option.some.injEq] at ho2
     subst ho2
     rw [List.take_left,← hC]
     exact⟨hL,hwf,rfl,rfl⟩
def drB (E:Env) (l:List Oper) (tr:List Tr):Bool:=E.P.follows .mixedOrders && l.toArray.all qdl && qe6 0 l && chkT 0 tr (ancs l [])
structure DrOk (E:Env) (l:List Oper) (tr:List Tr):Prop where
 ok:drB E l tr=true
theorem qb {E:Env} {rd:Option Nat} {N:Nat} {B:Bs} {Q:Exit→Conf→Prop} {C:Conf} {id:Nat} {ops:Array Oper} (bxs:List Nat)
  (h:wpDr E N ops.toList bxs 0 ops.toList [] (fun tr C'=>DrOk E ops.toList tr∧Q .normal C') C):Sm E rd N B (.region id ops true) Q C:=⟨fun s hs=>by
 obtain⟨tr,hw,hb,hq⟩:=qz4 (C0:=C) (l:=ops.toList) (i:=0) (tr:=[]) (fun k=>by rw [Nat.zero_add]) rfl (by simp) rfl (fun j o t _ ht=>by simp at ht) h
 have hb:=hb.ok
 simp only [drB,Bool.and_eq_true] at hb
 have e:ops=ops.toList.toArray:=by simp
 rw [e]
 exact q2s hb.1.1.1 hb.1.1.2 hb.1.2 hw hb.2 hs fun s' hs'=>⟨_,hq,hs'⟩⟩
theorem cSd {P:Prop} (h:P:=by first|exact rfl|exact trivial|exact fun _=>rfl|exact zbq _|exact DrOk.mk (by kernel_rfl)|exact qav fun _=>rfl|omega|(simp only [List.length_map,List.length_append,List.length_cons,List.length_nil,List.length_take,List.length_drop];omega)|exact zdc):P:=h
theorem exr {α : Type} {A K : α→Prop} {a : α} (k:K a) (h:A a:=by exact rfl):∃ x,A x∧K x:=⟨a,h,k⟩
theorem cpe {E:Env} {H:Nat→Option SR} {nx:Nat} {f:FuncId} {vs:List SV} {args:List AV} {r0:AV} {k:Ef→Prop} (hc:∀ S,ql E f args S fun r S'=>r=r0∧S'=S) (hk:k ⟨nf r0,SV.kss vs,[],nx⟩) (ha:que E.P f (frzs (resF (SV.kss vs) H) vs)=some args:=by exact rfl):∃ e,kr E f vs nx H e∧k e:=⟨_,q9x hc ha,hk⟩
end Go.Av
namespace Go.Proofs.YtneejjefekdgjaaGreatDoor
open Go Go.Av Go.RowKit Go.Proofs Go.Pl
def qa7 (n0:Nat) (ks:List Nat) (sl:List (Nat×SV)) (hp:List (Nat×Option SR)) (nx:Nat):Bool:=
 sl.all (fun q=>q.2.all fun k=>Nat.blt k n0) && hp.all (fun q=>match q.2 with
  |some (.cells _ _)=>memN ks q.1
  |some (.own _ _ _)=>false
  |some (.obj _)=>false
  |some (.rows _ _)=>false
  | _=>true) && Nat.ble n0 nx
def ksIn (n0:Nat) (ks:List Nat) (hp:List (Nat×Option SR)):Bool:=ks.all fun k=>Nat.blt k n0 && match lkS hp k with
 |some (some (.cells _ _))=>true
 | _=>false
structure RB (E:Env) (N:Nat) (F:Nat→Prop) (ρ : Nat→AV) (n0:Nat) (body:Code) (Q:Exit→Conf→Prop) (C:Conf):Prop where
 run:∀ S rd,Sm E rd N ⟨S,F,ρ,n0,False⟩ body Q C
structure RA (E:Env) (N:Nat) (n0:Nat) (asg:Code) (K:(Nat→Prop)→(Nat→AV)→Conf→Prop) (C:Conf):Prop where
 run:∀ S F ρ rd,Sm E rd N ⟨S,F,ρ,n0,True⟩ asg (fun e C1=>match e with
  | .normal=>∀ F',K F' ρ C1
  | _=>False) C
def q0q (Q:Exit→Conf→Prop):Code→Conf→Prop
 | .ret=>Q .ret
 | .exit id=>Q (.exit id)
 | _=>fun _=>False
def qjn (k:Nat) (text rest:List UInt8):SV:=.ag [.i k,.i ((text.length:Int) - rest.length),.s (upto 10 rest),.p (10∈rest) inferInstance]
theorem q7g (k:Nat) (text rest:List UInt8) (ρ : Nat→AV):(qjn k text rest).ev ρ = qce k text rest:=rfl
@[reducible] def rndQ {X : Type} (n0 : Nat) (P : X → Prop) (D : Code → X → Prop) (C : X → Conf) (e : Exit) (C2 : Conf) : Prop := match e with
 | .normal=>∃ x,P x∧EntA n0 C2 (C x)
 | .ret=>∃ x,D .ret x∧EntA n0 C2 (C x)
 | .exit id=>∃ x,D (.exit id) x∧EntA n0 C2 (C x)
 | _=>False
section
variable {N : Nat} {B : Bs} {C : Conf} {Q : Exit → Conf → Prop} {rd : Option Nat}
structure RInv (B:Bs) (n0 n:Nat) (ks:List Nat) (ρ1 t:Nat→AV) (df:List Nat) (C:Conf) (S:List AObj):Prop where
 ex:∃ ρ,(∀ k,k<n0→ρ k = ρ1 k)∧SatR B.S0 B.F C ρ t S∧(∀ d∈df,S[d]? = some .dfr)∧n≤S.length
theorem qvd {n0 n:Nat} {ks:List Nat} {ρ1 ρ : Nat→AV} {hp:List (Nat×Option SR)} {sl:List (Nat×SV)} {nx k:Nat} {T:TypeId} {cs:List SV} (hks:∀ k∈ks,k<n0∧∃ o,ρ1 k = .bx o 0 0∧o<n) (hr:qa7 n0 ks sl hp nx=true) (hρ : ∀ k,k<n0→ρ k = ρ1 k) (hk:hpF hp k=some (.cells T cs)):k<n0∧∃ o,ρ k = .bx o 0 0∧o<n:=by
 have h1:=wj hk
 simp only [qa7,Bool.and_eq_true] at hr
 have:=List.all_eq_true.1 hr.1.2 _ (km h1)
 simp only at this
 obtain⟨g1,g2⟩:=hks k (qwb this)
 refine⟨g1,?_⟩
 rw [hρ k g1]
 exact g2
theorem q4p {n0:Nat} {ks:List Nat} {sl:List (Nat×SV)} {hp:List (Nat×Option SR)} {nx k sz:Nat} {T:TypeId} {xs:List AV} (hr:qa7 n0 ks sl hp nx=true) (hk:hpF hp k=some (.own sz T xs)):False:=by
 have h1:=wj hk
 simp only [qa7,Bool.and_eq_true] at hr
 have:=List.all_eq_true.1 hr.1.2 _ (km h1)
 simp at this
theorem q4d {n0:Nat} {ks:List Nat} {sl:List (Nat×SV)} {hp:List (Nat×Option SR)} {nx k:Nat} {P:AObj→AV→Prop} (hr:qa7 n0 ks sl hp nx=true) (hk:hpF hp k=some (.obj P)):False:=by
 have h1:=wj hk
 simp only [qa7,Bool.and_eq_true] at hr
 have:=List.all_eq_true.1 hr.1.2 _ (km h1)
 simp at this
theorem qzs {n0:Nat} {ks:List Nat} {sl:List (Nat×SV)} {hp:List (Nat×Option SR)} {nx k:Nat} {T2:TypeId} {cs2:List SV} (hr:qa7 n0 ks sl hp nx=true) (hk:hpF hp k=some (.rows T2 cs2)):False:=by
 have h1:=wj hk
 simp only [qa7,Bool.and_eq_true] at hr
 have:=List.all_eq_true.1 hr.1.2 _ (km h1)
 simp at this
theorem RInv.ext {n0 n:Nat} {ks:List Nat} {ρ1 t:Nat→AV} {df:List Nat} {C:Conf} {S S':List AObj} (h:RInv B n0 n ks ρ1 t df C S) (hks:∀ k∈ks,k<n0∧∃ o,ρ1 k = .bx o 0 0∧o<n) (hr:qa7 n0 ks C.sl C.hp C.nx=true) (hB:B.S0.length≤n) (hdn:∀ d∈df,d<n) (hE:Ext n S S'):RInv B n0 n ks ρ1 t df C S':=by
 obtain⟨ρ,hρ,hR,hd,hn⟩:=h.ex
 refine⟨ρ,hρ,⟨hR.sl,⟨fun k r hk=>?_,hR.hp.sep⟩,hR.own,fun j hj hF=>?_,Nat.le_trans hR.len hE.len,hR.wsl,hR.whp⟩,fun d hdd=>?_,Nat.le_trans hn hE.len⟩
 ·refine SR.ok_of (f:=fun _=>true) (SR.all_mono (fun _ _=>rfl) r (hR.whp k r hk).2) (fun _ _=>rfl) (hR.hp.ok k r hk) fun o ho=>?_
  rcases SR.ok_ct (hR.hp.ok k r hk) ho with⟨T,cs,v,h1,T',cs',rfl⟩ | ⟨m,sz,T,h1⟩ | ⟨sz,T,xs,rfl⟩ | ⟨P1,rfl⟩ | ⟨T2,cs2,rfl⟩
  rotate_left 2
  ·exact (q4p hr hk).elim
  ·exact (q4d hr hk).elim
  ·exact (qzs hr hk).elim
  ·obtain⟨_,o',h2,h3⟩:=qvd hks hr hρ hk
   rw [h2] at ho
   simp only [zh,Option.some.injEq] at ho
   subst ho
   exact hE.low _ h3
  ·exact hE.tips _ _ _ _ h1
 ·rw [hE.low j (by omega)]
  exact hR.low j hj hF
 ·rw [hE.low d (hdn d hdd)]
  exact hd d hdd
def evY {ι : Type} (Y : ι→Option (SV×ι)) (i : ι):Option (AV×ι):=match Y i with
 |some (v,j)=>some (v.ev fun _=>zl,j)
 |none=>none
theorem qnl {X:Type} {f:Operand} {p:Tmp} {asg body:Code} {g:FuncId} {T:TypeId} {cs:List AV} {ι : Type} {Y : ι→Option (SV×ι)} {i0 : ι} (hit:ItC g T cs (evY Y) i0) (hrun:∀ vs w,(callFunc g vs).run E.P w = .ok (.enter g vs) w) (hY:∀ i v j,Y i=some (v,j)→v.all (fun _=>false)=true) (kb n0:Nat) (cv:List SV) (hcv:∀ ρ,SV.evs ρ cv=cs) (ks:List Nat) (I:X→Conf) (sl0:List (Nat×SV)) (P : ι→X→Prop) (D:Code→X→Prop) (x0:X) (h0:P i0 x0)
  (he:EntA B.n0 C (I x0)) (hz:¬ B.dz) (hsl:∀ x,(I x).sl=sl0)
  (hf:sval N sl0 f=some (.fn (.func g) [] [.bx kb 0]))
  (hkb:∀ x,lkS (I x).hp kb=some (some (.cells T cv)))
  (hr:∀ x,qa7 n0 ks (I x).sl (I x).hp (I x).nx=true) (h0r:(ksIn n0 ks (I x0).hp && Nat.ble B.n0 n0)=true)
  (hb:∀ i x v j,P i x→Y i=some (v,j)→RA E N n0 asg (fun F ρ C1=>RB E N F ρ n0 body (rndQ n0 (P j) D I) C1) ⟨(p,v)::(I x).sl,(I x).hp,(I x).nx⟩)
  (hn:∀ i x,Y i=none→P i x→Q .normal (I x)) (hd:∀ c x,D c x→q0q Q c (I x)):Sm E none N B (.rangeFunc f #[p] asg body) Q C:=⟨fun s hs=>by
 obtain⟨ts,S0,df⟩:=s
 obtain⟨ρ0,hF0,hR0⟩:=hs
 simp only at hF0 hR0
 obtain⟨σ,hrg,he⟩:=he.ent
 have hF1:=hF0.ren (C':=I x0) hrg
 obtain⟨t,hw,hR1⟩:=he.sat hR0
 clear hF0 hR0 he hrg
 generalize renR σ ρ0 = ρ1 at hF1 hR1
 refine q2u hw ?_
 simp only [Bool.and_eq_true] at h0r
 have hBn:=Nat.le_of_ble_eq_true h0r.2
 have hB:=hR1.len
 have hks:∀ k∈ks,k<n0∧∃ o,ρ1 k = .bx o 0 0∧o<S0.length:=fun k hk=>by
  have:=List.all_eq_true.1 h0r.1 k hk
  simp only [Bool.and_eq_true] at this
  refine⟨kj this.1,?_⟩
  have h2:=this.2
  split at h2
  ·rename_i T cs hl
   have hk2:hpF (I x0).hp k=some (.cells T cs):=by unfold hpF;rw [hl]
   obtain⟨o,v,h1,h3,rfl⟩:=hR1.hp.ok k _ hk2
   exact⟨o,h1,lt_of_getElem? h3⟩
  ·simp at h2
 have hdn:∀ d∈df,d<S0.length:=fun d hd=>lt_of_getElem? (hF1.dm d hd).1
 have hi0:RInv B n0 S0.length ks ρ1 t df (I x0) S0:=⟨ρ1,fun _ _=>rfl,hR1,fun d hd=>(hF1.dm d hd).1,Nat.le_refl _⟩
 have hnm:∀ x,(sl0.all fun q=>q.2.all fun k=>Nat.blt k n0)=true:=fun x=>by
  have:=hr x
  simp only [qa7,Bool.and_eq_true,hsl] at this
  exact this.1.1
 have hnm:=hnm x0
 have slot:∀ {ρ : Nat→AV},(∀ k,k<n0→ρ k = ρ1 k)→SlOk ρ t sl0:=fun {ρ} hρ d v hd=>by
  rw [hR1.sl d v (by rw [hsl];exact hd)]
  exact (qa0 (fun k hk=>hρ k (kj hk)) v (List.all_eq_true.1 hnm _ (km hd))).symm
 have hnx:∀ x,n0≤(I x).nx:=fun x=>by
  have:=hr x
  simp only [qa7,Bool.and_eq_true] at this
  exact Nat.le_of_ble_eq_true this.2
 have hkb1:kb<n0∧∃ o,ρ1 kb = .bx o 0 0∧o<S0.length:=by
  have h1:=hr x0
  simp only [qa7,Bool.and_eq_true] at h1
  have:=List.all_eq_true.1 h1.1.2 _ (km (hkb x0))
  exact hks kb (qwb this)
 obtain⟨hkbn,okb,hokb,hokl⟩:=hkb1
 have hfe:=qv (S:=S0) (df:=df) (slot fun _ _=>rfl) hf
 simp only [SV.ev,SV.evs,hokb,bxAt] at hfe
 have out:∀ {x S},RInv B n0 S0.length ks ρ1 t df (I x) S→S[S0.length]? = some .dfr→SatC B (I x) ⟨t,S,S0.length::df⟩:=fun {x S} hi hm=>by
  obtain⟨ρ,hρ,hR,hdd,hnS⟩:=hi.ex
  refine⟨ρ,⟨fun d hd=>?_,List.nodup_cons.2 ⟨fun h=>Nat.lt_irrefl _ (hdn _ h),hF1.nd⟩,fun k hk=>(hρ k (by omega)).trans (hF1.rig k hk),Nat.le_trans hBn (hnx x),fun h=>(hz h).elim⟩,hR⟩
  rcases List.mem_cons.1 hd with rfl|hd
  ·exact⟨hm,hB⟩
  ·exact⟨hdd d hd,(hF1.dm d hd).2⟩
 refine qu7 (S0:=S0) hit rfl hfe hrun
  (fun i S=>∃ x,P i x∧RInv B n0 S0.length ks ρ1 t df (I x) S) (fun c S=>∃ x,D c x∧RInv B n0 S0.length ks ρ1 t df (I x) S) ⟨x0,h0,hi0⟩ ?_ ?_ ?_ ?_ ?_ ?_
 ·rintro i S ⟨x,_,hi⟩
  obtain⟨ρ,hρ,hR,_⟩:=hi.ex
  have hk2:hpF (I x).hp kb=some (.cells T cv):=by unfold hpF;rw [hkb x]
  obtain⟨o,v,h1,h3,rfl⟩:=hR.hp.ok kb _ hk2
  rw [hρ kb hkbn,hokb] at h1
  simp only [AV.bx.injEq] at h1
  obtain⟨rfl,_⟩:=h1
  rw [hcv] at h3
  exact h3
 ·rintro i S S' hE ⟨x,hx,hi⟩
  exact⟨x,hx,hi.ext hks (hr x) hB hdn hE⟩
 ·rintro c S S' hE ⟨x,hx,hi⟩
  exact⟨x,hx,hi.ext hks (hr x) hB hdn hE⟩
 ·rintro F own rd i u j S hF ⟨x,hx,hi⟩ hy hm0 hm1 hm2
  obtain⟨v,hv,hu⟩:∃ v,Y i=some (v,j)∧u=v.ev fun _=>zl:=by
   unfold evY at hy
   split at hy
   ·rename_i v j2 hv
    simp only [Option.some.injEq,Prod.mk.injEq] at hy
    obtain⟨rfl,rfl⟩:=hy
    exact⟨v,hv,rfl⟩
   ·simp at hy
  subst hu
  have hva:=hY i v j hv
  obtain⟨ρ,hρ,hR,hdd,hnS⟩:=hi.ex
  -- what no resource's place is
  have qbk:∀ o y,S[o]? = some y→S0.length≤o→(∀ m sz T,y≠.tip m sz T)→¬ qbo (I x).hp ρ o:=fun o y hy ho hyt ⟨k,r,hk,hl⟩=>by
   rcases SR.ok_ct (hR.hp.ok k r hk) hl with⟨T,cs,v,h1,T',cs',rfl⟩ | ⟨m,sz,T,h1⟩ | ⟨sz,T,xs,rfl⟩ | ⟨P1,rfl⟩ | ⟨T2,cs2,rfl⟩
   rotate_left 2
   ·exact (q4p (hr x) hk).elim
   ·exact (q4d (hr x) hk).elim
   ·exact (qzs (hr x) hk).elim
   ·obtain⟨_,o',h2,h3⟩:=qvd hks (hr x) hρ hk
    rw [h2] at hl
    simp only [zh,Option.some.injEq] at hl
    omega
   ·rw [h1] at hy
    simp only [Option.some.injEq] at hy
    exact hyt _ _ _ hy.symm
  have a0:=qbk _ _ hm0 (by omega) (fun _ _ _=>by simp)
  have a1:=qbk _ _ hm1 (by omega) (fun _ _ _=>by rw [hF];simp)
  have a2:=fun k y hk=>qbk _ _ (hm2 k y hk).1 (by omega) (fun m sz T e=>(hm2 k y hk).2 m sz T (by rw [e]))
  have ad:∀ d∈df,¬ qbo (I x).hp ρ d:=fun d hd ⟨k,r,hk,hl⟩=>SR.ok_dfr (hR.hp.ok k r hk) hl (hdd d hd)
  have l2:=lt_of_getElem? hm1
  have s1:=((hb i x v j hx hv).run S (qbo (I x).hp ρ) ρ1 rd).run ⟨put t p (v.ev fun _=>zl),S,[]⟩
   ⟨ρ,⟨nofun,List.nodup_nil,hρ,hnx x,fun _=>rfl⟩,?_⟩
  rotate_left
  ·have hb1:=hR.rebase (S':=S) fun _ _=>rfl
   refine⟨fun d v hd=>?_,hb1.hp,hb1.own,hb1.low,hb1.len,fun d v hd=>?_,hb1.whp⟩
   ·simp only [lkS] at hd
    cases hbe:Nat.beq p d with
    |true=>
     rw [hbe] at hd
     simp only [cond_true,Option.some.injEq] at hd
     have e:=Nat.eq_of_beq_eq_true hbe
     subst e hd
     simp only [put]
     rw [qa0 (f:=fun _=>false) (ρ:=fun _=>zl) (ρ':= ρ) (fun k hk=>by simp at hk) v hva]
     simp
    |false=>
     rw [hbe] at hd
     have e:d≠p:=fun e=>by subst e;simp at hbe
     have:=hb1.sl d v hd
     simp only [put]
     rw [show Nat.beq d p=false from ji e]
     exact this
   ·simp only [lkS] at hd
    cases hbe:Nat.beq p d with
    |true=>
     rw [hbe] at hd
     simp only [cond_true,Option.some.injEq] at hd
     subst hd
     exact all_mono (f:=fun _=>false) (fun k hk=>by simp at hk) v hva
    |false=>
     rw [hbe] at hd
     exact hb1.wsl d _ hd
  refine s1.mono fun e s1 ⟨C1,hq,hs1⟩=>?_
  cases e with
  |normal=>
   obtain⟨ρs,hFs,hRs⟩:=hs1
   have hdf1:=hFs.dz trivial
   have b1:s1.st[S0.length+1]? = some (F .ready none):=(hRs.low _ (by simp only;omega) a1).trans hm1
   refine⟨b1,hdf1,?_⟩
   have hq:=(hq (qbo C1.hp ρs)).run (s1.st.set (S0.length+1) (F .busy none)) (some rd)
   have c0:∀ o,o<S.length→¬ qbo (I x).hp ρ o→¬ qbo C1.hp ρs o:=fun o ho hn ⟨k,r,hk,hl⟩=>by
    rcases hRs.own k r hk o hl with h|h
    ·simp only at h
     omega
    ·exact hn h
   have hRb:=hRs.rebase (S':=s1.st.set (S0.length+1) (F .busy none)) fun o ho=>List.getElem?_set_ne fun e=>c0 (S0.length+1) (by omega) a1 (by rw [e];exact ho)
   refine (hq.run ⟨s1.t,s1.st.set (S0.length+1) (F .busy none),[]⟩ ⟨ρs,⟨nofun,List.nodup_nil,hFs.rig,hFs.le,nofun⟩,hRb⟩).mono fun e s2 ⟨C2,hq2,hs2⟩=>?_
   obtain⟨ρ2,hF2,hR2⟩:=hs2
   have hl1:=hRs.len
   have keep:∀ o y,o≠S0.length+1→S[o]? = some y→¬ qbo (I x).hp ρ o→s2.st[o]? = some y:=fun o y hne hy hn=>by
    have ho:=lt_of_getElem? hy
    rw [hR2.low o (by simp only [List.length_set];simp only at hl1;omega) (c0 o ho hn)]
    simp only
    rw [List.getElem?_set_ne (fun e=>hne e.symm),hRs.low o ho hn]
    exact hy
   have k0:=keep _ _ (by omega) hm0 a0
   have k2:∀ k y,own[k]? = some y→s2.st[S0.length+2+k]? = some y:=fun k y hk=>keep _ _ (by omega) (hm2 k y hk).1 (a2 k y hk)
   have k1:s2.st[S0.length+1]? = some (F .busy none):=by
    rw [hR2.low _ (by simp only [List.length_set];simp only at hl1;omega) (c0 _ (by omega) a1)]
    simp only
    exact js b1
   have fin:∀ x',EntA n0 C2 (I x')→RInv B n0 S0.length ks ρ1 t df (I x') s2.st:=fun x' he'=>by
    obtain⟨σ2,hrg2,he2⟩:=he'.ent
    have hF3:=hF2.ren (C':=I x') hrg2
    obtain⟨t3,_,hR3⟩:=he2.sat hR2
    have hl3:=hR3.len
    simp only [List.length_set] at hl3
    simp only at hl1
    refine⟨_,hF3.rig,⟨by rw [hsl];exact slot hF3.rig,hR3.hp,fun k r hk o ho=>?_,fun j hj hnj=>?_,by omega,hR3.wsl,hR3.whp⟩,fun d hd=>?_,by omega⟩
    ·rcases hR3.own k r hk o ho with h | ⟨k',r',h,h'⟩
     ·simp only [List.length_set] at h
      exact .inl (by omega)
     ·rcases hRs.own k' r' h o h' with h | ⟨k2,r2,h2,h3⟩
      ·simp only at h
       exact .inl (by omega)
      ·exact hR.own k2 r2 h2 o h3
    ·have hj0:¬ qbo (I x).hp ρ j:=fun ⟨k',r',h,h'⟩=>by
      rcases hR.own k' r' h j h' with h|h
      ·omega
      ·exact hnj h
     have hjS:j<S.length:=by omega
     rw [← hR.low j hj hnj]
     obtain⟨y,hy⟩:∃ y,S[j]? = some y:=⟨_,List.getElem?_eq_getElem hjS⟩
     rw [hy]
     exact keep j y (by omega) hy hj0
    ·exact keep d _ (by have:=hdn d hd;omega) (hdd d hd) (ad d hd)
   cases e with
   |normal=>
    obtain⟨x',hx',he'⟩:=hq2
    exact⟨k0,k1,k2,x',hx',fin x' he'⟩
   |ret=>
    obtain⟨x',hx',he'⟩:=hq2
    exact⟨k0,k1,k2,x',hx',fin x' he'⟩
   |exit id=>
    obtain⟨x',hx',he'⟩:=hq2
    exact⟨k0,k1,k2,x',hx',fin x' he'⟩
   | _=>exact hq2.elim
  | _=>exact hq.elim
 ·rintro i S hy ⟨x,hx,hi⟩ hm
  exact⟨I x,hn i x (by
   unfold evY at hy
   split at hy
   ·simp at hy
   ·assumption) hx,out hi hm⟩
 ·rintro c S ⟨x,hx,hi⟩ hm
  have hq:=hd c x hx
  cases c with
  |ret=>exact qx ⟨I x,hq,out hi hm⟩
  |exit id=>exact vj ⟨I x,hq,out hi hm⟩
  | _=>exact hq.elim⟩
theorem qen {X:Type} {f:Operand} {p:Tmp} {asg body:Code} (text:List UInt8) (kb n0:Nat) (ks:List Nat) (I:X→Conf) (sl0:List (Nat×SV)) (P:Nat→List UInt8→X→Prop) (D:Code→X→Prop) (x0:X) (h0:P 0 text x0)
  (he:EntA B.n0 C (I x0)) (hz:¬ B.dz) (ht:text.length<4294967281) (hsl:∀ x,(I x).sl=sl0)
  (hf:sval N sl0 f=some (.fn (.func 121) [] [.bx kb 0]))
  (hkb:∀ x,lkS (I x).hp kb=some (some (.cells 9 [.s text])))
  (hr:∀ x,qa7 n0 ks (I x).sl (I x).hp (I x).nx=true) (h0r:(ksIn n0 ks (I x0).hp && Nat.ble B.n0 n0)=true)
  (hb:∀ k rest x,P k rest x→rest≠[]→rest.length≤text.length→RA E N n0 asg (fun F ρ C1=>RB E N F ρ n0 body (rndQ n0 (P (k+1) (past 10 rest)) D I) C1) ⟨(p,qjn k text rest)::(I x).sl,(I x).hp,(I x).nx⟩)
  (hn:∀ k x,P k [] x→Q .normal (I x)) (hd:∀ c x,D c x→q0q Q c (I x)):Sm E none N B (.rangeFunc f #[p] asg body) Q C:=by
 have hY:evY (fun (q:Nat×List UInt8)=>if q.2=[]∨text.length<q.2.length then none else some (qjn q.1 text q.2,(q.1+1,past 10 q.2)))=qlz text:=by
  funext ⟨k,rest⟩
  by_cases h:rest=[]∨text.length<rest.length
  ·simp [evY,qlz,h]
  ·simp [evY,qlz,h,q7g]
 refine qnl (Y:=fun (q:Nat×List UInt8)=>if q.2=[]∨text.length<q.2.length then none else some (qjn q.1 text q.2,(q.1+1,past 10 q.2))) (i0:=(0,text)) (by rw [hY];exact q8n text ht) Tryz.call121 (fun i v j h=>?_) kb n0 [.s text] (fun _=>rfl) ks I sl0 (fun i x=>P i.1 i.2 x∧i.2.length≤text.length) D x0 ⟨h0,Nat.le_refl _⟩ he hz hsl hf hkb hr h0r (fun i x v j hp h=>?_) (fun i x h hp=>?_) hd
 ·split at h
  ·simp at h
  ·simp only [Option.some.injEq,Prod.mk.injEq] at h
   obtain⟨rfl,_⟩:=h
   rfl
 ·split at h
  ·simp at h
  ·rename_i hne
   simp only [Option.some.injEq,Prod.mk.injEq] at h
   obtain⟨rfl,rfl⟩:=h
   have hb:=hb i.1 i.2 x hp.1 (fun e=>hne (.inl e)) hp.2
   have hp2:=jz 10 i.2
   exact⟨fun S F ρ rd=>⟨fun s hs=>((hb.run S F ρ rd).run s hs).mono fun e s' ⟨C',hq,hs'⟩=>⟨C',by
    cases e with
    |normal=>exact fun F'=>⟨fun S rd=>qw8 ((hq F').run S rd) fun e C2 hq2=>by
      cases e with
      |normal=>obtain⟨x,h1,h2⟩:=hq2;exact⟨x,⟨h1,by simp only;have:=hp.2;omega⟩,h2⟩
      | _=>exact hq2⟩
    | _=>exact hq,hs'⟩⟩⟩
 ·split at h
  ·rename_i he
   have:i.2=[]:=he.elim id fun h=>by have:=hp.2;omega
   refine hn i.1 x ?_
   rw [← this]
   exact hp.1
  ·simp at h
end
theorem qj4 {nx:Nat} {H:Nat→Option SR} (text:qa):kr E 67 [.s text] nx H ⟨.fn (.func 121) [] [.bx nx 0],[],[(nx,some (.cells 9 [.s text]))],nx+1⟩:=fun ρ S hS=>by
 refine (qr2 text S _ S.length rfl rfl).mono fun r S' ⟨hr,hs⟩=>⟨upd ρ nx (.bx S.length 0 0),?_,?_⟩
 ·rw [hr]
  simp only [SV.ev,SV.evs,j5,bxAt]
 ·subst hs
  have key:∀ k r',chF [(nx,some (SR.cells 9 [.s text]))] (resF [] H) k=some r'→k=nx∧r' = .cells 9 [.s text]:=fun k r' hk=>by
   simp only [chF,lkS] at hk
   cases hb:Nat.beq nx k with
   |true=>
    rw [hb] at hk
    simp only [cond_true,Option.some.injEq] at hk
    exact⟨(Nat.eq_of_beq_eq_true hb).symm,hk.symm⟩
   |false=>
    rw [hb] at hk
    simp [resF,memN] at hk
  refine⟨fun k hk=>xg _ _ (by simp only at hk;omega),⟨fun k r hk=>?_,fun k k' r r' hne h1 h2=>?_⟩,by simp,fun j hj _=>List.getElem?_append_left hj,fun k r hk o ho=>?_⟩
  ·obtain⟨rfl,rfl⟩:=key _ _ hk
   exact⟨S.length,0,j5 _ _ _,by simp [SV.evs,SV.ev],rfl⟩
  ·obtain⟨rfl,_⟩:=key _ _ h1
   obtain⟨rfl,_⟩:=key _ _ h2
   exact absurd rfl hne
  ·obtain⟨rfl,_⟩:=key _ _ hk
   rw [j5] at ho
   simp only [zh,Option.some.injEq] at ho
   subst ho
   exact .inl (Nat.le_refl _)
end Go.Proofs.YtneejjefekdgjaaGreatDoor
namespace Go.Av
open Go Go.RowKit
def vl (hp:List (Nat×Option SR)):List (Nat×Option SR):=hp.map fun q=>(q.1,none)
def retS (P:Program) (fn:Func) (nx0:Nat) (r:SV) (hp1:List (Nat×Option SR)) (nx1:Nat) (e:Exit) (C:Conf):Prop:=
 match e with
 | .normal=>(match resV P fn.ntmps C fn.results.toList with
  |some v=>v.all (fun k=>Nat.blt k C.nx)=true∧EntA nx0 ⟨[(0,v)],C.hp,C.nx⟩ ⟨[(0,r)],hp1,nx1⟩
  |none=>False)
 | .ret=>(match resV P fn.ntmps C fn.results.toList with
  |some v=>v.all (fun k=>Nat.blt k C.nx)=true∧EntA nx0 ⟨[(0,v)],C.hp,C.nx⟩ ⟨[(0,r)],hp1,nx1⟩
  |none=>False)
 | _=>False
theorem q1i {hp:List (Nat×Option SR)} {k:Nat} {r:SR} (h:hpF hp k=some r):memN (vb hp) k=true:=by
 have:=km (wj h)
 exact List.any_eq_true.2 ⟨k,List.mem_map.2 ⟨_,this,rfl⟩,by simp⟩
theorem wq (hp:List (Nat×Option SR)):resF (vb hp) (hpF hp)=hpF hp:=by
 funext k
 unfold resF
 cases h:memN (vb hp) k with
 |true=>rfl
 |false=>
  cases h2:hpF hp k with
  |none=>rfl
  |some r=>rw [q1i h2] at h;simp at h
theorem qta:∀ (hp:List (Nat×Option SR)) (k:Nat),lkS (vl hp) k=none∧lkS hp k=none∨lkS (vl hp) k=some none
 | [],_=>.inl ⟨rfl,rfl⟩
 |(i,x)::r,k=>by
  simp only [vl,List.map_cons,lkS]
  cases hb:Nat.beq i k with
  |true=>exact .inr rfl
  |false=>exact qta r k
theorem qeb (hp0 hp1:List (Nat×Option SR)):chF (hp1++vl hp0) (hpF hp0)=hpF hp1:=by
 funext k
 unfold chF
 rw [qb4]
 unfold hpF
 cases h:lkS hp1 k with
 |some r=>rfl
 |none=>
  simp only
  rcases qta hp0 k with⟨h1,h2⟩|h1
  ·rw [h1,h2]
  ·rw [h1]
theorem wr {E:Env} {f:FuncId} {fn:Func} {c:Code} (vs:List SV) (hp0:List (Nat×Option SR)) (nx0:Nat) (r:SV) (hp1:List (Nat×Option SR)) (nx1:Nat) (hf:E.P.funcs[f]? = some fn) (hb:fn.body=some c) (hn:Nat.ble vs.length fn.ntmps=true)
  (hc:okC ⟨zz 0 vs,hp0,nx0⟩=true) (hc1:okC ⟨[(0,r)],hp1,nx1⟩=true)
  (h:∀ S F ρ,numK 0 vs fun sl=>Sm E none fn.ntmps ⟨S,F,ρ,nx0,False⟩ c (retS E.P fn nx0 r hp1 nx1) ⟨sl,hp0,nx0⟩):kr E f vs nx0 (hpF hp0) ⟨r,vb hp0,hp1++vl hp0,nx1⟩:=fun ρ S hS=>by
 simp only [qmj] at h
 simp only [wq] at hS
 have hlen:(SV.evs ρ vs).length=vs.length:=by rw [vu,List.length_map]
 refine qp hf hb (by rw [hlen];exact Nat.le_of_ble_eq_true hn) ?_
 rw [List.append_nil]
 simp only [okC,Bool.and_eq_true] at hc hc1
 have hwhp:∀ k r,hpF hp0 k=some r→k<nx0∧r.all (fun k=>Nat.blt k nx0)=true:=fun k r hk=>by
  have:=List.all_eq_true.1 hc.2 _ (km (wj hk))
  simp only [Bool.and_eq_true] at this
  exact⟨kj this.1,this.2⟩
 have hst:SatC ⟨S,qbo hp0 ρ,ρ,nx0,False⟩ ⟨zz 0 vs,hp0,nx0⟩ ⟨argT (SV.evs ρ vs),S,[]⟩:=by
  refine⟨ρ,⟨nofun,List.nodup_nil,fun _ _=>rfl,Nat.le_refl _,nofun⟩,⟨fun d v hd=>?_,hS,fun k r hk o ho=>.inr ⟨k,r,hk,ho⟩,fun _ _ _=>rfl,Nat.le_refl _,fun d v hd=>?_,hwhp⟩⟩
  ·obtain⟨j,h1,h2⟩:=qb5 hd
   have:(SV.evs ρ vs)[j]? = some (v.ev ρ):=by rw [vu,List.getElem?_map,h2];rfl
   rw [h1,Nat.zero_add]
   simp only [argT,List.getD,this,Option.getD_some]
  ·exact List.all_eq_true.1 hc.1 _ (km hd)
 refine ((h S (qbo hp0 ρ) ρ).run _ hst).mono fun e s' ⟨C',hq,hs'⟩=>?_
 obtain⟨t,S',df⟩:=s'
 obtain⟨ρ2,hdf,hR⟩:=hs'
 simp only at hdf hR
 have fin:(match resV E.P fn.ntmps C' fn.results.toList with
  |some v=>v.all (fun k=>Nat.blt k C'.nx)=true∧EntA nx0 ⟨[(0,v)],C'.hp,C'.nx⟩ ⟨[(0,r)],hp1,nx1⟩
  |none=>False)→ARet E fn (fun r' S'=>∃ ρ',r'=r.ev ρ'∧qer ρ S nx0 (hpF hp0) ⟨r,vb hp0,hp1++vl hp0,nx1⟩ ρ' S') ⟨t,S',df⟩:=fun h=>by
  split at h
  ·rename_i v hv
   obtain⟨hva,he⟩:=h
   obtain⟨σ,hrg,he⟩:=he.ent
   refine qfv hR hdf.dm hdf.nd fun S2 hR2=>?_
   have hR3:SatR S (qbo hp0 ρ) ⟨[(0,v)],C'.hp,C'.nx⟩ ρ2 (fun _=>v.ev ρ2) S2:=
    ⟨fun d u hd=>by
     simp only [lkS] at hd
     cases hb:Nat.beq 0 d with
     |true=>rw [hb] at hd;simp only [cond_true,Option.some.injEq] at hd;rw [hd]
     |false=>rw [hb] at hd;simp [lkS] at hd,hR2.hp,hR2.own,hR2.low,hR2.len,fun d u hd=>by
     simp only [lkS] at hd
     cases hb:Nat.beq 0 d with
     |true=>rw [hb] at hd;simp only [cond_true,Option.some.injEq] at hd;rw [← hd];exact hva
     |false=>rw [hb] at hd;simp [lkS] at hd,hR2.whp⟩
   obtain⟨t',hw,hR4⟩:=he.sat hR3
   have hrig:∀ k,k<nx0→renR σ ρ2 k = ρ k:=fun k hk=>by
    simp only [Bool.and_eq_true] at hrg
    unfold renR
    rw [qol hrg.1 k hk]
    exact hdf.rig k hk
   have hrn:nx0≤nx1:=by
    simp only [Bool.and_eq_true] at hrg
    exact Nat.le_of_ble_eq_true hrg.2
   generalize renR σ ρ2 = ρ3 at hR4 hrig
   have h0:t' 0=r.ev ρ3:=hR4.sl 0 r rfl
   have hwk:=hw 0
   rw [h0] at hwk
   let ρ':Nat→AV:=fun k=>bif Nat.ble nx1 k then ρ k else ρ3 k
   have hρ':∀ k,Nat.blt k nx1=true→ρ' k = ρ3 k:=fun k hk=>by
    show (bif Nat.ble nx1 k then ρ k else ρ3 k)=_
    have:Nat.ble nx1 k=false:=by
     cases hb:Nat.ble nx1 k with
     |false=>rfl
     |true=>have:=Nat.le_of_ble_eq_true hb;have:=kj hk;omega
    rw [this]
    rfl
   have hra:r.all (fun k=>Nat.blt k nx1)=true:=List.all_eq_true.1 hc1.1 (0,r) (by simp)
   have hev:r.ev ρ'=r.ev ρ3:=qa0 hρ' r hra
   refine qo rfl (wn (qzr hR2 hv) hwk) ⟨ρ',hev.symm,?_⟩
   have hwh:∀ k r,hpF hp1 k=some r→ρ' k = ρ3 k∧r.all (fun k=>Nat.blt k nx1)=true:=fun k r hk=>by
    obtain⟨g1,g2⟩:=hR4.whp k r hk
    exact⟨hρ' k (y4 g1),g2⟩
   refine⟨fun k hk=>?_,?_,hR4.len,fun j hj hn=>?_,fun k r hk o ho=>?_⟩
   ·show (bif Nat.ble nx1 k then ρ k else ρ3 k)=_
    cases hb:Nat.ble nx1 k with
    |true=>rfl
    |false=>
     rcases hk with hk|hk
     ·exact hrig k hk
     ·have:=Nat.ble_eq_true_of_le hk
      simp only at this
      rw [this] at hb
      simp at hb
   ·simp only [wq,qeb]
    refine⟨fun k r hk=>?_,fun k k' r r' hne h1 h2 o ho=>?_⟩
    ·obtain⟨g1,g2⟩:=hwh k r hk
     rw [g1]
     exact SR.ok_of g2 hρ' (hR4.hp.ok k r hk) fun _ _=>rfl
    ·rw [(hwh k r h1).1] at ho
     rw [(hwh k' r' h2).1]
     exact hR4.hp.sep k k' r r' hne h1 h2 o ho
   ·simp only [wq] at hn
    exact hR4.low j hj fun ⟨k,r,hk,hl⟩=>hn k r hk hl
   ·simp only [wq,qeb] at hk ⊢
    rw [(hwh k r hk).1] at ho
    exact hR4.own k r hk o ho
  ·exact h.elim
 cases e with
 |normal=>exact fin hq
 |ret=>exact fin hq
 | _=>exact hq.elim
def newN:Nat→Nat→Nat→List (Nat×Nat)
 | _,_,0=>[]
 |a,b,m+1=>(a,b)::newN (a+1) (b+1) m
theorem qwf:∀ (m a b k:Nat),lkS (newN a b m) k=if a≤k∧k<a+m then some (b+(k - a)) else none
 | 0,a,b,k=>by rw [if_neg (by omega)];rfl
 |m+1,a,b,k=>by
  simp only [newN,lkS]
  by_cases h:a=k
  ·subst h
   simp
  ·rw [ji h,qwf m]
   simp only [cond_false]
   by_cases h2:a+1≤k∧k<a+1+m
   ·rw [if_pos h2,if_pos (by omega)]
    congr 1
    omega
   ·rw [if_neg h2,if_neg (by omega)]
def nmOf (σ : List (Nat×Nat)) (k:Nat):Nat:=match lkS σ k with
 |some j=>j
 |none=>0
def SR.ren (σ : List (Nat×Nat)):SR→SR
 | .cells T cs=>.cells T (SV.rens σ cs)
 | .tip sz T xs=>.tip sz T xs
 | .own sz T xs=>.own sz T xs
 | .obj P=>.obj P
 | .rows T cs=>.rows T (SV.rens σ cs)
def renO (σ : List (Nat×Nat)):Option SR→Option SR
 |some r=>some (r.ren σ)
 |none=>none
def renH (σ : List (Nat×Nat)):List (Nat×Option SR)→List (Nat×Option SR)
 | []=>[]
 |(k,r)::l=>(nmOf σ k,renO σ r)::renH σ l
def fltH (ks:List Nat):List (Nat×Option SR)→List (Nat×Option SR)
 | []=>[]
 |(k,r)::l=>bif memN ks k then (k,r)::fltH ks l else fltH ks l
def outH (ks:List Nat):List (Nat×Option SR):=ks.map fun k=>(k,none)
def qpp:List Nat→Bool
 | []=>true
 |k::r=> !memN r k && qpp r
theorem qzi (ks:List Nat):∀ (hp:List (Nat×Option SR)) (k:Nat),lkS (fltH ks hp) k=bif memN ks k then lkS hp k else none
 | [],k=>by simp only [fltH,lkS];cases memN ks k <;> rfl
 |(i,r)::l,k=>by
  have ih:=qzi ks l k
  simp only [fltH]
  by_cases e:i=k
  ·subst e
   cases hm:memN ks i with
   |true=>simp [lkS]
   |false=>rw [hm] at ih;simp only [cond_false] at ih ⊢;exact ih
  ·cases hm:memN ks i with
   |true=>simp only [cond_true,lkS,ji e,cond_false];exact ih
   |false=>simp only [cond_false,lkS,ji e];exact ih
theorem qzf (ks:List Nat) (hp:List (Nat×Option SR)):hpF (fltH ks hp)=resF ks (hpF hp):=by
 funext k
 unfold hpF resF
 rw [qzi]
 cases memN ks k <;> rfl
theorem qzk {σ : List (Nat×Nat)}:∀ {hp:List (Nat×Option SR)} {j:Nat} {rr:SR},lkS (renH σ hp) j=some (some rr)→∃ k r,(k,some r)∈hp∧nmOf σ k=j∧rr=r.ren σ
 | [],j,rr,h=>by simp [renH,lkS] at h
 |(k,r)::l,j,rr,h=>by
  simp only [renH,lkS] at h
  cases hb:Nat.beq (nmOf σ k) j with
  |true=>
   rw [hb] at h
   simp only [cond_true,Option.some.injEq] at h
   cases r with
   |none=>simp [renO] at h
   |some r=>
    simp only [renO,Option.some.injEq] at h
    exact⟨k,r,by simp,Nat.eq_of_beq_eq_true hb,h.symm⟩
  |false=>
   rw [hb] at h
   obtain⟨k',r',h1,h2,h3⟩:=qzk h
   exact⟨k',r',List.mem_cons_of_mem _ h1,h2,h3⟩
theorem qst:∀ {hp:List (Nat×Option SR)} {k:Nat} {r:SR},qpp (vb hp)=true→(k,some r)∈hp→hpF hp k=some r
 | [],k,r,_,h=>by simp at h
 |(i,x)::l,k,r,hd,h=>by
  simp only [vb,List.map_cons,qpp,Bool.and_eq_true] at hd
  unfold hpF
  simp only [lkS]
  rcases List.mem_cons.1 h with e|e
  ·simp only [Prod.mk.injEq] at e
   obtain⟨rfl,rfl⟩:=e
   simp
  ·have hne:i≠k:=fun e'=>by
    subst e'
    have:memN (List.map Prod.fst l) i=true:=List.any_eq_true.2 ⟨i,List.mem_map.2 ⟨_,e,rfl⟩,by simp⟩
    rw [this] at hd
    simp at hd
   rw [ji hne]
   exact qst hd.2 e
theorem qzj:∀ (ks:List Nat) (j:Nat),lkS (outH ks) j=bif memN ks j then some none else none
 | [],j=>rfl
 |k::r,j=>by
  have ih:=qzj r j
  simp only [outH,List.map_cons,lkS,memN,List.any_cons]
  by_cases e:k=j
  ·subst e;simp
  ·rw [ji e,ji (fun h=>e h.symm)]
   exact ih
theorem qwl {α : Type}:∀ {l:List α} {i0 i:Nat} {v : α},l[i]? = some v→lkS (zz i0 l) (i0+i)=some v
 | [],_,_,_,h=>by simp at h
 |x::r,i0,0,v,h=>by
  simp only [List.getElem?_cons_zero,Option.some.injEq] at h
  subst h
  simp [zz,lkS]
 |x::r,i0,i+1,v,h=>by
  simp only [zz,lkS]
  rw [ji (by omega),show i0+(i+1)=i0+1+i by omega]
  exact qwl (by simpa using h)
theorem zb5 {E:Env} {f:FuncId} {vs0:List SV} {hp0:List (Nat×Option SR)} {nx0:Nat} {r:SV} {hp1:List (Nat×Option SR)} {nx1:Nat} (h:kr E f vs0 nx0 (hpF hp0) ⟨r,vb hp0,hp1++vl hp0,nx1⟩)
  (σ : List (Nat×Nat)) {hpU:List (Nat×Option SR)} {vs:List SV} {nx:Nat} (hl:vs.length=vs0.length) (hc:okC ⟨zz 0 vs,fltH (σ.map Prod.snd) hpU,nx⟩=true)
  (he:EntC σ ⟨zz 0 vs,fltH (σ.map Prod.snd) hpU,nx⟩ ⟨zz 0 vs0,hp0,nx0⟩) (hc1:okC ⟨[(0,r)],hp1,nx1⟩=true)
  (hk:(qpp (vb hp1) && hp1.all (fun q=>(lkS (newN nx0 nx (nx1 - nx0) ++ σ) q.1).isSome) && σ.all (fun q=>Nat.blt q.1 nx0 && Nat.blt q.2 nx) && Nat.ble nx0 nx1)=true) :
  kr E f vs nx (hpF hpU) ⟨r.ren (newN nx0 nx (nx1 - nx0) ++ σ),σ.map Prod.snd,renH (newN nx0 nx (nx1 - nx0) ++ σ) hp1++outH (σ.map Prod.snd),nx+(nx1 - nx0)⟩:=fun ρ S hS=>by
 simp only at hS
 simp only [Bool.and_eq_true] at hk
 obtain⟨⟨⟨hd,hsm⟩,hσ⟩,hn⟩:=hk
 have hn:=Nat.le_of_ble_eq_true hn
 simp only [okC,Bool.and_eq_true] at hc hc1
 generalize hks : σ.map Prod.snd=ks at hS hc he ⊢
 obtain⟨m,hm⟩:∃ m,m=nx1 - nx0:=⟨_,rfl⟩
 rw [← hm] at hsm ⊢
 have hR:SatR S (qbo (fltH ks hpU) ρ) ⟨zz 0 vs,fltH ks hpU,nx⟩ ρ (argT (SV.evs ρ vs)) S:=by
  refine⟨fun d v hd=>?_,by simp only [qzf];exact hS,fun k r hk o ho=>.inr ⟨k,r,hk,ho⟩,fun _ _ _=>rfl,Nat.le_refl _,fun d v hd=>List.all_eq_true.1 hc.1 _ (km hd),fun k r hk=>?_⟩
  ·obtain⟨j,h1,h2⟩:=qb5 hd
   have:(SV.evs ρ vs)[j]? = some (v.ev ρ):=by rw [vu,List.getElem?_map,h2];rfl
   rw [h1,Nat.zero_add]
   simp only [argT,List.getD,this,Option.getD_some]
  ·have:=List.all_eq_true.1 hc.2 _ (km (wj hk))
   simp only [Bool.and_eq_true] at this
   exact⟨kj this.1,this.2⟩
 obtain⟨t',hw,hR'⟩:=he.sat hR
 have hrc:∀ k j,lkS σ k=some j→renR σ ρ k = ρ j:=fun k j e=>by unfold renR;rw [e]
 have hrn:∀ k,lkS σ k=none→renR σ ρ k=zl:=fun k e=>by unfold renR;rw [e]
 -- where a canonical resource lies
 have foot:∀ k r,hpF hp0 k=some r→∀ o,zh (renR σ ρ k)=some o→∃ j r',resF ks (hpF hpU) j=some r'∧zh (ρ j)=some o:=fun k r hk o ho=>by
  have hE:=qef he.2.1 (wj hk)
  simp only [qzf] at hE
  unfold entR at hE
  cases hl:lkS σ k with
  |none=>
   rw [hrn k hl] at ho
   simp [zh] at ho
  |some j=>
   rw [hrc k j hl] at ho
   rw [hl] at hE
   cases hj:resF ks (hpF hpU) j with
   |none=>cases r <;> (simp only [hj] at hE)
   |some r'=>exact⟨j,r',hj,ho⟩
 have hS0:SatF S (renR σ ρ) (hpF hp0):=hR'.hp
 refine qup (ys:=SV.evs (renR σ ρ) vs0) (by simp [vu,hl]) (fun i x y hx hy=>?_) ((h (renR σ ρ) S (by simp only [wq];exact hS0)).mono fun r' S' ⟨ρc,hr,hp⟩=>?_)
 ·have h1:=hw i
  simp only [vu,List.getElem?_map] at hy hx
  cases hv:vs0[i]? with
  |none=>rw [hv] at hy;simp at hy
  |some v=>
   rw [hv] at hy
   simp only [Option.map_some,Option.some.injEq] at hy
   have h2:=hR'.sl i v (by have:=qwl (i0:=0) hv;rwa [Nat.zero_add] at this)
   rw [h2,hy] at h1
   have:argT (SV.evs ρ vs) i=x:=by simp only [argT,List.getD,vu,List.getElem?_map,hx,Option.getD_some]
   rw [this] at h1
   exact h1
 ·let ρ':Nat→AV:=fun j=>bif Nat.ble nx j && Nat.blt j (nx+m) then ρc (nx0+(j - nx)) else ρ j
  have hold:∀ j,(j<nx∨nx+m≤j)→ρ' j = ρ j:=fun j hj=>by
   show (bif Nat.ble nx j && Nat.blt j (nx+m) then ρc (nx0+(j - nx)) else ρ j) = ρ j
   have:(Nat.ble nx j && Nat.blt j (nx+m))=false:=by
    cases hb:(Nat.ble nx j && Nat.blt j (nx+m)) with
    |false=>rfl
    |true=>
     simp only [Bool.and_eq_true] at hb
     have h1:=Nat.le_of_ble_eq_true hb.1
     have h2:=kj hb.2
     omega
   rw [this]
   rfl
  have hnew:∀ i,i<m→ρ' (nx+i) = ρc (nx0+i):=fun i hi=>by
   show (bif Nat.ble nx (nx+i) && Nat.blt (nx+i) (nx+m) then ρc (nx0+(nx+i - nx)) else ρ (nx+i))=_
   have h1:Nat.ble nx (nx+i)=true:=Nat.ble_eq_true_of_le (by omega)
   have h2:Nat.blt (nx+i) (nx+m)=true:=y4 (by omega)
   rw [h1,h2,show nx+i - nx=i by omega]
   rfl
  have hσj:∀ k j,lkS σ k=some j→k<nx0∧j<nx:=fun k j e=>by
   have:=List.all_eq_true.1 hσ _ (km e)
   simp only [Bool.and_eq_true] at this
   exact⟨kj this.1,kj this.2⟩
  have hro:∀ k,k<nx0→ρc k=renR σ ρ k:=fun k hk=>hp.old k (.inl hk)
  have key:∀ k,k<nx1→renR (newN nx0 nx m ++ σ) ρ' k = ρc k:=fun k hk=>by
   have e:renR (newN nx0 nx m ++ σ) ρ' k=match lkS (newN nx0 nx m ++ σ) k with|some j=> ρ' j|none=>zl:=rfl
   rw [e,qb4,qwf]
   by_cases hkn:nx0≤k
   ·rw [if_pos ⟨hkn,by omega⟩]
    simp only
    rw [hnew _ (by omega),show nx0+(k - nx0)=k by omega]
   ·rw [if_neg (by omega),hro k (by omega)]
    simp only
    cases hl:lkS σ k with
    |none=>rw [hrn k hl]
    |some j=>
     rw [hrc k j hl]
     exact hold j (.inl (hσj k j hl).2)
  have keyj:∀ k,k<nx1→(lkS (newN nx0 nx m ++ σ) k).isSome=true→ρ' (nmOf (newN nx0 nx m ++ σ) k) = ρc k:=fun k hk hs=>by
   rw [← key k hk]
   unfold renR nmOf
   cases hl:lkS (newN nx0 nx m ++ σ) k with
   |none=>rw [hl] at hs;simp at hs
   |some j=>rfl
  have res:∀ j rr,chF (renH (newN nx0 nx m ++ σ) hp1++outH ks) (resF ks (hpF hpU)) j=some rr→∃ k r,hpF hp1 k=some r∧nmOf (newN nx0 nx m ++ σ) k=j∧rr=r.ren (newN nx0 nx m ++ σ)∧ρ' j = ρc k∧r.all (fun k=>Nat.blt k nx1)=true:=fun j rr hj=>by
   unfold chF at hj
   rw [qb4] at hj
   cases hl:lkS (renH (newN nx0 nx m ++ σ) hp1) j with
   |some x=>
    rw [hl] at hj
    simp only at hj
    subst hj
    obtain⟨k,r,h1,h2,h3⟩:=qzk hl
    have h4:=List.all_eq_true.1 hc1.2 _ h1
    simp only [Bool.and_eq_true] at h4
    have h5:=List.all_eq_true.1 hsm _ h1
    refine⟨k,r,qst hd h1,h2,h3,?_,h4.2⟩
    rw [← h2]
    exact keyj k (kj h4.1) h5
   |none=>
    rw [hl] at hj
    simp only [qzj] at hj
    cases hmm:memN ks j with
    |true=>rw [hmm] at hj;simp at hj
    |false=>
     rw [hmm] at hj
     simp [resF,hmm] at hj
  have hra:r.all (fun k=>Nat.blt k nx1)=true:=List.all_eq_true.1 hc1.1 (0,r) (by simp)
  refine⟨ρ',?_,fun k hk=>hold k hk,⟨fun j rr hj=>?_,fun j j' rr rr' hne h1 h2 o ho=>?_⟩,hp.len,fun j hj hnj=>?_,fun j rr hj o ho=>?_⟩
  ·rw [hr]
   simp only
   rw [qqx]
   exact (qa0 (fun k hk=>key k (kj hk)) r hra).symm
  ·obtain⟨k,r0,h1,h2,rfl,h4,h5⟩:=res j rr hj
   rw [h4]
   have hsat:=hp.sat
   simp only [wq,qeb] at hsat
   have hok:=hsat.ok k r0 h1
   cases r0 with
   |cells T cs=>
    obtain⟨o,v,g1,g2,g3⟩:=hok
    refine⟨o,v,g1,?_,g3⟩
    rw [qcj,yl (fun k hk=>key k (kj hk)) cs h5]
    exact g2
   |tip sz T xs=>exact hok
   |own sz T xs=>exact hok
   |obj P=>exact hok
   |rows T cs=>
    show OwnS _ 1 T (SV.evs _ (SV.rens _ cs)) _
    rw [qcj,yl (fun k hk=>key k (kj hk)) cs h5]
    exact hok
  ·obtain⟨k,r0,h3,h4,_,h5,_⟩:=res j rr h1
   obtain⟨k',r0',h3',h4',_,h5',_⟩:=res j' rr' h2
   rw [h5] at ho
   rw [h5']
   have hsat:=hp.sat
   simp only [wq,qeb] at hsat
   exact hsat.sep k k' r0 r0' (fun e=>hne (by rw [← h4,← h4',e])) h3 h3' o ho
  ·refine hp.fr j hj fun k r0 hk hlo=>?_
   simp only [wq] at hk
   obtain⟨j',r',g1,g2⟩:=foot k r0 hk j hlo
   exact hnj j' r' g1 g2
  ·obtain⟨k,r0,h1,h2,_,h4,_⟩:=res j rr hj
   rw [h4] at ho
   have hlc:=hp.loc k r0 (by simp only [wq,qeb];exact h1) o ho
   rcases hlc with g | ⟨k',r',g1,g2⟩
   ·exact .inl g
   ·simp only [wq] at g1
    obtain⟨j',r'',g3,g4⟩:=foot k' r' g1 o g2
    exact .inr ⟨j',r'',g3,g4⟩
def useW (vs0:List SV) (hp0:List (Nat×Option SR)) (nx0:Nat) (r:SV) (hp1:List (Nat×Option SR)) (nx1:Nat) (hpU:List (Nat×Option SR)) (vs:List SV) (nx:Nat) (k:Ef→Prop):Prop:=
 fcP (addS [] (prsL vs0 vs)) fun a=>fcP (addS a (sigH (hpF hpU) a hp0)) fun σ=>
  vs.length=vs0.length∧okC ⟨zz 0 vs,fltH (σ.map Prod.snd) hpU,nx⟩=true∧EntC σ ⟨zz 0 vs,fltH (σ.map Prod.snd) hpU,nx⟩ ⟨zz 0 vs0,hp0,nx0⟩∧okC ⟨[(0,r)],hp1,nx1⟩=true ∧
   (qpp (vb hp1) && hp1.all (fun q=>(lkS (newN nx0 nx (nx1 - nx0) ++ σ) q.1).isSome) && σ.all (fun q=>Nat.blt q.1 nx0 && Nat.blt q.2 nx) && Nat.ble nx0 nx1)=true ∧
   k ⟨r.ren (newN nx0 nx (nx1 - nx0) ++ σ),σ.map Prod.snd,renH (newN nx0 nx (nx1 - nx0) ++ σ) hp1++outH (σ.map Prod.snd),nx+(nx1 - nx0)⟩
theorem z6 {E:Env} {f:FuncId} {vs0:List SV} {hp0:List (Nat×Option SR)} {nx0:Nat} {r:SV} {hp1:List (Nat×Option SR)} {nx1:Nat} (h:kr E f vs0 nx0 (hpF hp0) ⟨r,vb hp0,hp1++vl hp0,nx1⟩) {hpU:List (Nat×Option SR)} {vs:List SV} {nx:Nat} {k:Ef→Prop}
  (hw:useW vs0 hp0 nx0 r hp1 nx1 hpU vs nx k):∃ e,kr E f vs nx (hpF hpU) e∧k e:=by
 unfold useW at hw
 simp only [qvr] at hw
 obtain⟨h1,h2,h3,h4,h5,h6⟩:=hw
 exact⟨_,zb5 h _ h1 h2 h3 h4 h5,h6⟩
theorem q9d {l m:List AV} (hl:l.length=m.length) (h:∀ (i:Nat) (x y:AV),l[i]? = some x→m[i]? = some y→Wk x y):Wk (.pp l) (.pp m):=fun G v hr=>by
 cases hr with
 |pp _ b off pub hp hlen hr=>
  refine .pp m b off pub hp (by omega) fun i y z hy hz=>?_
  have hi:i<l.length:=by have:=lt_of_getElem? hy;omega
  have hx:l[i]? = some l[i]:=List.getElem?_eq_getElem hi
  exact h i _ y hx hy G z (hr i _ z hx hz)
theorem qu5 {E:Env} {fn:Func} {R:AV→List AObj→Prop} {s:AS} {d o ver:Nat} {T:TypeId} {cs xs:List AV} (hi:s.t d = .bx o ver 0) (ho:s.st[o]? = some (.cells ver T cs)) (hw:Wk (.pp cs) (.pp xs))
  (h:ARet E fn R ⟨Av.put s.t d (.pp xs),s.st.set o .dead,s.df⟩):ARet E fn R s:=
 ⟨fun B0 w0 G a w hL hI R2 hR=>by
  obtain⟨G1,h1,h2⟩:=hI.pub hi ho
  refine h.run B0 w0 G1 a w hL ⟨h2.agree,h2.defers,h2.size,fun j y hy=>?_⟩ R2 fun v G' r st' w' hG=>hR v G' r st' w' (h1.trans hG)
  have hj:=h2.tmps j y hy
  by_cases e:j=d
  ·subst e
   simp only [wl] at hj ⊢
   exact hw G1 y hj
  ·simp only at hj ⊢
   rw [yg _ _ _ _ e] at hj ⊢
   exact hj⟩
theorem q2n {E:Env} {fn:Func} {R:AV→List AObj→Prop} {s:AS} {d o ver o2 ver2 sz cap:Nat} {T T2:TypeId} {cs xs ys pad:List AV} (hi:s.t d = .bx o ver 0) (ho:s.st[o]? = some (.cells ver T cs)) (ho2:s.st[o2]? = some (.cells ver2 T2 (flat ys++pad))) (hne:o≠o2) (hw:∀ y∈ys,y.cells.length=sz) (hc:ys.length≤cap) (hl:cs.length=xs.length)
  (hx:∀ (i:Nat) (x y:AV),cs[i]? = some x→xs[i]? = some y→Wk x y∨(x = .os o2 ver2 0 ys.length cap∧y = .sl sz ys none)) (h:ARet E fn R ⟨Av.put s.t d (.pp xs),(s.st.set o .dead).set o2 .dead,s.df⟩):ARet E fn R s:=
 ⟨fun B0 w0 G a w hL hI R2 hR=>by
  obtain⟨G1,h1,h2⟩:=hI.pub hi ho
  have ho3:(s.st.set o .dead)[o2]? = some (.cells ver2 T2 (flat ys++pad)):=(List.getElem?_set_ne hne).trans ho2
  obtain⟨vs,hle,hA,hv,hp,hl2,hr⟩:=h2.agree.pubOb ho3
  refine h.run B0 w0 _ a w hL ⟨hA,h2.defers_mono hle,h2.size,fun j y hy=>?_⟩ R2 fun v G' r st' w' hG=>hR v G' r st' w' (h1.trans (hle.trans hG))
  have hj:=(h2.tmps j y hy).mono hle
  by_cases e:j=d
  ·subst e
   simp only [wl] at hj ⊢
   cases hj with
   |pp _ b off pub hp2 hlen hrel=>
    refine .pp xs b off pub hp2 (by omega) fun i z u hz hu=>?_
    have hi:i<cs.length:=by have:=lt_of_getElem? hz;omega
    have hg:cs[i]? = some cs[i]:=List.getElem?_eq_getElem hi
    have hrl:=hrel i _ u hg hu
    rcases hx i _ z hg hz with hw1 | ⟨e1,rfl⟩
    ·exact hw1 _ _ hrl
    ·rw [e1] at hrl
     cases hrl with
     |os _ _ _ _ bl _ hn hv' hb=>
      have hb:=hb hv
      subst hb
      refine .sl sz ys none _ 0 cap vs hp hw (by rw [← hl2];simp) (fun k x y g1 g2=>hr k x y (by rw [List.getElem?_append_left (lt_of_getElem? g1)];exact g1) (by simpa using g2)) (fun t ht=>by simp at ht) hc
  ·simp only at hj ⊢
   rw [yg _ _ _ _ e] at hj ⊢
   exact hj⟩
theorem q9l {E:Env} {fn:Func} {R:AV→List AObj→Prop} {s:AS} {d o ver sz cap:Nat} {T:TypeId} {ys pad:List AV} (hi:s.t d = .os o ver 0 ys.length cap) (ho:s.st[o]? = some (.cells ver T (flat ys++pad))) (hw:∀ y∈ys,y.cells.length=sz) (hc:ys.length≤cap)
  (h:ARet E fn R ⟨Av.put s.t d (.sl sz ys none),s.st.set o .dead,s.df⟩):ARet E fn R s:=
 ⟨fun B0 w0 G a w hL hI R2 hR=>by
  obtain⟨G1,h1,h2⟩:=hI.osPub (xs:=ys) (sz:=sz) hi ho rfl hc hw (by rw [List.length_append,zx hw];omega) (by rw [List.drop_zero,← zx hw,List.take_left])
  exact h.run B0 w0 G1 a w hL h2 R2 fun v G' r st' w' hG=>hR v G' r st' w' (h1.trans hG)⟩
def q4o (H:Nat→Option SR):SV→Option (Nat×Nat×List AV)
 | .tp k=>(match H k with
  |some (.own sz _ ys)=>some (k,sz,ys)
  | _=>none)
 | _=>none
def qqm (H:Nat→Option SR):List SV→Option (Nat×Nat×List AV)
 | []=>none
 |c::r=>(match q4o H c with
  |some x=>some x
  |none=>qqm H r)
theorem qww {H:Nat→Option SR} {j sz:Nat} {ys:List AV}:∀ {cs:List SV},qqm H cs=some (j,sz,ys)→∃ T,H j=some (.own sz T ys)
 | [],h=>by simp [qqm] at h
 |c::r,h=>by
  simp only [qqm] at h
  split at h
  ·rename_i x hx
   simp only [Option.some.injEq] at h
   subst h
   unfold q4o at hx
   split at hx
   ·split at hx
    ·rename_i hk
     simp only [Option.some.injEq,Prod.mk.injEq] at hx
     obtain⟨rfl,rfl,rfl⟩:=hx
     exact⟨_,hk⟩
    ·simp at hx
   ·simp at hx
  ·exact qww (cs:=r) h
def frzJ (H:Nat→Option SR) (j sz:Nat) (ys:List AV):List SV→Option (List AV)
 | []=>some []
 |c::r=>(match (match c with
   | .tp k=>bif Nat.beq k j then some (.sl sz ys none) else frz H (.tp k)
   |c=>frz H c),frzJ H j sz ys r with
  |some x,some l=>some (x::l)
  | _,_=>none)
theorem qzd {S:List AObj} {ρ : Nat→AV} {H:Nat→Option SR} (hS:SatF S ρ H) {j sz:Nat} {ys:List AV}:∀ (cs:List SV) (xs:List AV),frzJ H j sz ys cs=some xs→(SV.evs ρ cs).length=xs.length∧∀ (i:Nat) (x y:AV),(SV.evs ρ cs)[i]? = some x→xs[i]? = some y→Wk x y∨(x=tpAt (ρ j)∧y = .sl sz ys none)
 | [],xs,h=>by simp only [frzJ,Option.some.injEq] at h;subst h;exact⟨rfl,by simp [SV.evs]⟩
 |c::r,xs,h=>by
  simp only [frzJ] at h
  split at h
  ·rename_i x l h1 h2
   simp only [Option.some.injEq] at h
   subst h
   obtain⟨g1,g2⟩:=qzd hS r l h2
   refine⟨by simp [SV.evs,g1],fun i a b ha hb=>?_⟩
   cases i with
   |zero=>
    simp only [SV.evs,List.getElem?_cons_zero,Option.some.injEq] at ha hb
    subst ha
    subst hb
    split at h1
    ·rename_i k
     cases hkj:Nat.beq k j with
     |true=>
      rw [hkj] at h1
      simp only [cond_true,Option.some.injEq] at h1
      rw [Nat.eq_of_beq_eq_true hkj]
      exact .inr ⟨rfl,h1.symm⟩
     |false=>
      rw [hkj] at h1
      exact .inl (qgx hS _ _ h1)
    ·exact .inl (qgx hS _ _ h1)
   |succ i=>exact g2 i a b (by simpa [SV.evs] using ha) (by simpa using hb)
  ·simp at h
def pubK (k:Conf→Prop):List ResultVar→Conf→Prop
 | [],C=>k C
 | .tmp t::r,C=>(match lkS C.sl t with
  |some (.bx b 0)=>(match hpF C.hp b with
   |some (.cells _ cs)=>(match qqm (hpF C.hp) cs with
    |some (j,sz,ys)=>(match frzJ (hpF C.hp) j sz ys cs with
     |some xs=>pubK k r ⟨(t,.a (.pp xs))::C.sl,(j,none)::(b,none)::C.hp,C.nx⟩
     |none=>pubK k r C)
    |none=>(match frzs (hpF C.hp) cs with
     |some xs=>pubK k r ⟨(t,.a (.pp xs))::C.sl,(b,none)::C.hp,C.nx⟩
     |none=>pubK k r C))
   | _=>pubK k r C)
  |some (.tp b)=>(match hpF C.hp b with
   |some (.own sz _ ys)=>pubK k r ⟨(t,.a (.sl sz ys none))::C.sl,(b,none)::C.hp,C.nx⟩
   | _=>pubK k r C)
  | _=>pubK k r C)
 | _::r,C=>pubK k r C
theorem SatR.drop {S0:List AObj} {F:Nat→Prop} {C:Conf} {ρ t:Nat→AV} {S:List AObj} (h:SatR S0 F C ρ t S) {b o:Nat} {q:SR} (hb:hpF C.hp b=some q) (ho:∀ o',zh (ρ b)=some o'→o'=o) (hd:zh (ρ b)=some o∨S.set o .dead=S) :
  SatR S0 F ⟨C.sl,(b,none)::C.hp,C.nx⟩ ρ t (S.set o .dead):=by
 have hget:∀ k r,hpF ((b,none)::C.hp) k=some r→k≠b∧hpF C.hp k=some r:=fun k r hk=>by
  unfold hpF at hk ⊢
  simp only [lkS] at hk
  by_cases e:b=k
  ·subst e;simp at hk
  ·rw [ji e] at hk
   exact⟨fun h=>e h.symm,hk⟩
 rcases hd with hd|hd
 ·refine⟨h.sl,⟨fun k r hk=>?_,fun k k' r r' hne hk hk'=>h.hp.sep k k' r r' hne (hget k r hk).2 (hget k' r' hk').2⟩,fun k r hk=>h.own k r (hget k r hk).2,fun j hj hF=>?_,by simpa using h.len,h.wsl,fun k r hk=>h.whp k r (hget k r hk).2⟩
  ·obtain⟨hne,hk⟩:=hget k r hk
   refine SR.ok_of (f:=fun _=>true) (SR.all_mono (fun _ _=>rfl) r (h.whp k r hk).2) (fun _ _=>rfl) (h.hp.ok k r hk) fun j hj=>?_
   have:o≠j:=fun e=>h.hp.sep b k _ r (fun e=>hne e.symm) hb hk o hd (e▸hj)
   rw [List.getElem?_set_ne this]
  ·have:o≠j:=fun e=>by
    rcases h.own b _ hb o hd with g|g
    ·omega
    ·exact hF (e▸g)
   rw [List.getElem?_set_ne this]
   exact h.low j hj hF
 ·rw [hd]
  exact⟨h.sl,⟨fun k r hk=>h.hp.ok k r (hget k r hk).2,fun k k' r r' hne hk hk'=>h.hp.sep k k' r r' hne (hget k r hk).2 (hget k' r' hk').2⟩,fun k r hk=>h.own k r (hget k r hk).2,h.low,h.len,h.wsl,fun k r hk=>h.whp k r (hget k r hk).2⟩
theorem SatR.slot {S0:List AObj} {F:Nat→Prop} {C:Conf} {ρ t:Nat→AV} {S:List AObj} (h:SatR S0 F C ρ t S) (d:Nat) {y:AV}:SatR S0 F ⟨(d,.a y)::C.sl,C.hp,C.nx⟩ ρ (Av.put t d y) S:=by
 refine⟨fun x v hx=>?_,h.hp,h.own,h.low,h.len,fun x v hx=>?_,h.whp⟩
 ·simp only [lkS] at hx
  by_cases e:d=x
  ·subst e
   simp at hx
   subst hx
   exact wl _ _ _
  ·rw [ji e] at hx
   simp only [cond_false] at hx
   exact (yg _ _ _ _ (fun h=>e h.symm)).trans (h.sl x v hx)
 ·simp only [lkS] at hx
  by_cases e:d=x
  ·subst e
   simp at hx
   subst hx
   rfl
  ·rw [ji e] at hx
   exact h.wsl x v hx
theorem SatR.pub {S0:List AObj} {F:Nat→Prop} {C:Conf} {ρ t:Nat→AV} {S:List AObj} (h:SatR S0 F C ρ t S) {d b o:Nat} {T:TypeId} {cs:List SV} {xs:List AV} (hb:hpF C.hp b=some (.cells T cs)) (ho:zh (ρ b)=some o) :
  SatR S0 F ⟨(d,.a (.pp xs))::C.sl,(b,none)::C.hp,C.nx⟩ ρ (Av.put t d (.pp xs)) (S.set o .dead):=
 (h.drop hb (fun o' ho'=>by rw [ho] at ho';simpa using ho'.symm) (.inl ho)).slot d
theorem q9m {E:Env} {fn:Func} {R:AV→List AObj→Prop} {s:AS} {d:Nat} {x r:AV} (hi:s.t d=x) (hw:Wk x r) (h:ARet E fn R ⟨Av.put s.t d r,s.st,s.df⟩):ARet E fn R s:=
 ⟨fun B0 w0 G a w hL hI R2 hR=>h.run B0 w0 G a w hL ⟨hI.agree,hI.defers,hI.size,fun j y hy=>by
  have hj:=hI.tmps j y hy
  by_cases e:j=d
  ·subst e
   simp only [wl]
   rw [hi] at hj
   exact hw G y hj
  ·simp only
   rw [yg _ _ _ _ e]
   exact hj⟩ R2 hR⟩
theorem yy {E:Env} {fn:Func} {R:AV→List AObj→Prop} {S0:List AObj} {F:Nat→Prop} {ρ : Nat→AV} {k:Conf→Prop} (hk:∀ C t S,k C→SatR S0 F C ρ t S→ARet E fn R ⟨t,S,[]⟩):∀ {l:List ResultVar} {C:Conf} {t:Nat→AV} {S:List AObj},pubK k l C→SatR S0 F C ρ t S→ARet E fn R ⟨t,S,[]⟩
 | [],C,t,S,h,hR=>hk C t S h hR
 | .cell _ _::r,C,t,S,h,hR=>yy hk (l:=r) h hR
 | .tmp d::r,C,t,S,h,hR=>by
  simp only [pubK] at h
  split at h
  ·rename_i b hd
   split at h
   ·rename_i T cs hb
    obtain⟨o,v,e1,e2,e3⟩:=hR.hp.ok b _ hb
    have ht:=hR.sl d _ hd
    simp only [SV.ev,e1,bxAt] at ht
    split at h
    ·rename_i j sz ys hj
     split at h
     ·rename_i xs hx
      obtain⟨T2,hj⟩:=qww hj
      obtain⟨w1,w2⟩:=qzd hR.hp cs xs hx
      have hbj:b≠j:=fun e=>by subst e;rw [hb] at hj;simp at hj
      have hP:=hR.pub (d:=d) (xs:=xs) hb (by rw [e1];rfl)
      have hj2:hpF ((b,none)::C.hp) j=some (.own sz T2 ys):=by
       unfold hpF at hj ⊢
       simp only [lkS,ji hbj,cond_false]
       exact hj
      rcases hR.hp.ok j _ hj with⟨rfl,f1⟩ | ⟨o2,ver2,cap,pad,f1,f2,f3,f4,f5,f6⟩
      ·refine qu5 ht e2 (q9d w1 fun i x y hx hy=>?_) (yy hk (l:=r) h ?_)
       ·rcases w2 i x y hx hy with g | ⟨g1,g2⟩
        ·exact g
        ·subst g1 g2
         unfold tpAt
         rw [f1.one]
         exact f1.wk sz
       ·have:=hP.drop (o:=S.length) hj2 (fun o' ho'=>by rw [f1.loc] at ho';simp at ho') (.inr (List.set_eq_of_length_le (by simp)))
        rwa [List.set_eq_of_length_le (by simp)] at this
      ·have hne:o≠o2:=fun e=>hR.hp.sep b j _ _ hbj hb hj o (by rw [e1];rfl) (by rw [f1,e];rfl)
       refine q2n ht e2 f2 hne f4 f5 w1 (fun i x y hx hy=>?_) (yy hk (l:=r) h (hP.drop hj2 (fun o' ho'=>?_) (.inl (by rw [f1];rfl))))
       ·rcases w2 i x y hx hy with g | ⟨g1,g2⟩
        ·exact .inl g
        ·exact .inr ⟨by rw [g1,f1];rfl,g2⟩
       ·rw [f1] at ho'
        simpa [zh] using ho'.symm
     ·exact yy hk (l:=r) h hR
    ·split at h
     ·rename_i xs hx
      obtain⟨w1,w2⟩:=qdh hR.hp cs xs hx
      exact qu5 ht e2 (q9d w1 w2) (yy hk (l:=r) h (hR.pub hb (by rw [e1];rfl)))
     ·exact yy hk (l:=r) h hR
   ·exact yy hk (l:=r) h hR
  ·rename_i b hd
   split at h
   ·rename_i sz T ys hb
    have ht:=hR.sl d _ hd
    have hok:=hR.hp.ok b _ hb
    simp only [SV.ev,qhd hok] at ht
    rcases hok with⟨rfl,f1⟩ | ⟨o,ver,cap,pad,f1,f2,f3,f4,f5,f6⟩
    ·have hP:=hR.drop (o:=S.length) hb (fun o' ho'=>by rw [f1.loc] at ho';simp at ho') (.inr (List.set_eq_of_length_le (by simp)))
     rw [List.set_eq_of_length_le (by simp)] at hP
     exact q9m ht (f1.wk sz) (yy hk (l:=r) h (hP.slot d))
    ·rw [f1] at ht
     have hP:=hR.drop (o:=o) hb (fun o' ho'=>by rw [f1] at ho';simpa [zh] using ho'.symm) (.inl (by rw [f1];rfl))
     exact q9l ht f2 f4 f5 (yy hk (l:=r) h (hP.slot d))
   ·exact yy hk (l:=r) h hR
  ·exact yy hk (l:=r) h hR
def retP (P:Program) (fn:Func) (r0:AV) (e:Exit) (C:Conf):Prop:=
 match e with
 | .normal=>pubK (fun C=>ansW P fn C fun y=>Tl y r0) fn.results.toList C
 | .ret=>pubK (fun C=>ansW P fn C fun y=>Tl y r0) fn.results.toList C
 | _=>False
theorem qjy {E:Env} {f:FuncId} {fn:Func} {c:Code} {args:List AV} {st:List AObj} {r0:AV} (vs:List SV) (hp:Pure r0) (hf:E.P.funcs[f]? = some fn) (hb:fn.body=some c) (hn:Nat.ble args.length fn.ntmps=true) (hv:∀ ρ,SV.evs ρ vs=args) (hc:okC ⟨zz 0 vs,[],0⟩=true)
  (h:∀ S0,numK 0 vs fun sl=>Sm E none fn.ntmps ⟨S0,fun _=>False,fun _=>zl,0,False⟩ c (retP E.P fn r0) ⟨sl,[],0⟩):ql E f args st fun r st'=>r=r0∧st'=st:=by
 simp only [qmj] at h
 refine q6 hp (qp hf hb (Nat.le_of_ble_eq_true hn) ?_)
 have hst:SatC ⟨st++[],fun _=>False,fun _=>zl,0,False⟩ ⟨zz 0 vs,[],0⟩ ⟨argT args,st++[],[]⟩:=by
  refine⟨fun _=>zl,⟨nofun,List.nodup_nil,fun _ _=>rfl,Nat.le_refl _,nofun⟩,⟨fun d v hd=>?_,⟨fun k r hk=>?_,fun k k' r r' _ hk=>?_⟩,fun k r hk=>?_,fun _ _ _=>rfl,Nat.le_refl _,fun d v hd=>?_,fun k r hk=>?_⟩⟩
  ·obtain⟨j,h1,h2⟩:=qb5 hd
   have:args[j]? = some (v.ev fun _=>zl):=by rw [← hv fun _=>zl,vu,List.getElem?_map,h2];rfl
   rw [h1,Nat.zero_add]
   simp only [argT,List.getD,this,Option.getD_some]
  ·simp [hpF,lkS] at hk
  ·simp [hpF,lkS] at hk
  ·simp [hpF,lkS] at hk
  ·simp only [okC,Bool.and_eq_true] at hc
   exact List.all_eq_true.1 hc.1 _ (km hd)
  ·simp [hpF,lkS] at hk
 refine ((h (st++[])).run _ hst).mono fun e s' ⟨C',hq,hs'⟩=>?_
 obtain⟨t,S,df⟩:=s'
 obtain⟨ρ,hdf,hR⟩:=hs'
 simp only at hdf hR
 have fin:pubK (fun C=>ansW E.P fn C fun y=>Tl y r0) fn.results.toList C'→ARet E fn (fun r st2=>r=r0∧∃ ext,st2=st++ext) ⟨t,S,df⟩:=fun h=>by
  refine qfv hR (fun x hx=>hdf.dm x hx) hdf.nd fun S' hR'=>?_
  refine yy (fun C t S h hR'=>?_) h hR'
  obtain⟨y,h1,h2⟩:=qyy hR' h
  refine qo rfl (wn h1 h2.ok) ⟨rfl,?_⟩
  have hl:=hR'.len
  rw [List.append_nil] at hl
  exact qjf hl fun k hk=>by
   have:=hR'.low k (by simpa using hk) (fun h=>h)
   rw [List.append_nil] at this
   exact this
 cases e with
 |normal=>exact fin hq
 |ret=>exact fin hq
 | _=>exact hq.elim
section
variable {E : Env} {N : Nat} {ops : Array Oper} {nx : Nat} {sl : List (Nat × SV)} {H : Nat → Option SR} {k : Ef → Prop} {d : Option Tmp} {T : TypeId} {p : String} {af : Array Edge}
theorem qoh {t e e':TypeId} {x y:Operand} {b sz i:Nat} {agg:Bool} {xs:List AV} {kd:IntKind} {v:SV} (hx:sval N sl x=some (.tp b)) (hH:H b=some (.own sz e xs)) (hy:sval N sl y=some v) (hv:qd0 v=some (kd,(i:Int))) (he:elT (E.P.underlying t)=some e') (ht:tyOf E.P e'=some (sz,agg)) (hi:i<xs.length)
  (h:k ⟨.bx b (0+i * sz),[b],[],nx⟩):∃ e,Loc E N ops ⟨d,.indexAddr t x y,T,p,af,none⟩ nx sl H e∧k e:=by
 refine⟨_,xx (v:=.bx b (0+i * sz)) fun df rd K rest ρ t' S hs hS hk=>?_,h⟩
 rcases hS.ok b _ ((v4 b).trans hH) with⟨rfl,_⟩ | ⟨o,ver,cap,pad,e1,e2,_⟩
 ·simp at hi
 ·refine qms (o:=o) (ver:=ver) (off:=0) (len:=xs.length) (cp:=cap+1) ((qv hs hx).trans (by simp [SV.ev,e1,tpAt,AV.one])) ((qv hs hy).trans (qa5 hv ρ)) (x6 he) ht rfl hi ?_
  simpa only [SV.ev,e1,bxAt] using hk
theorem q3o {sz i j sz':Nat} {agg:Bool} {xs pad:List AV} {z r:AV} (hw:∀ x∈xs,x.cells.length=sz) (hz:xs[i]? = some z) (hr:jg sz' agg j z.cells=some r) (hj:j+sz'≤sz) (h1:agg=false→0<sz'):jg sz' agg (0+i * sz+j) (flat xs++pad)=some r:=by
 have hg:=qzz (pad:=pad) hw hz
 have hzl:=hw z (List.mem_of_getElem? hz)
 have hlen:i * sz+sz≤(flat xs++pad).length:=by
  have:=congrArg List.length hg
  simp only [List.length_take,List.length_drop] at this
  have h1:i * sz≤xs.length * sz:=Nat.mul_le_mul_right _ (by have:=lt_of_getElem? hz;omega)
  have h2:(flat xs++pad).length=xs.length * sz+pad.length:=by rw [List.length_append,zx hw]
  omega
 unfold jg at hr ⊢
 rw [Nat.zero_add]
 cases agg with
 |true=>
  simp only [cond_true] at hr ⊢
  have b1:Nat.ble (i * sz+j+sz') (flat xs++pad).length=true:=Nat.ble_eq_true_of_le (by omega)
  have b2:Nat.ble (j+sz') z.cells.length=true:=Nat.ble_eq_true_of_le (by omega)
  rw [b2] at hr
  rw [b1]
  simp only [cond_true] at hr ⊢
  rw [← hr,← hg]
  congr 2
  apply List.ext_getElem?
  intro q
  simp only [List.getElem?_take,List.getElem?_drop]
  by_cases hq:q<sz'
  ·rw [if_pos hq,if_pos hq,if_pos (by omega)]
   congr 1
   omega
  ·rw [if_neg hq,if_neg hq]
 |false=>
  simp only [cond_false] at hr ⊢
  have:=h1 rfl
  rw [← hr,← hg,List.getElem?_take_of_lt (by omega),List.getElem?_drop]
theorem qwx {t e:TypeId} {x:Operand} {b off sz i j sz':Nat} {agg:Bool} {xs:List AV} {z r:AV} (hx:sval N sl x=some (.bx b off)) (hH:H b=some (.own sz e xs)) (ht:tyOf E.P t=some (sz',agg)) (ho:off=0+i * sz+j) (hz:xs[i]? = some z) (hr:jg sz' agg j z.cells=some r) (hj:(Nat.ble (j+sz') sz && (agg ||Nat.blt 0 sz'))=true)
  (h:k ⟨nf r,[b],[],nx⟩):∃ e,Loc E N ops ⟨d,.load t x,T,p,af,none⟩ nx sl H e∧k e:=by
 simp only [Bool.and_eq_true,Bool.or_eq_true] at hj
 refine⟨_,xx (v:=nf r) fun df rd K rest ρ t' S hs hS hk=>?_,h⟩
 rcases hS.ok b _ ((v4 b).trans hH) with⟨rfl,_⟩ | ⟨o,ver,cap,pad,e1,e2,e3,e4,_⟩
 ·simp at hz
 ·subst ho
  refine j8 (o:=o) (ver:=ver) (off:=0+i * sz+j) ((qv hs hx).trans (by simp only [SV.ev,e1,bxAt])) e2 ht (q3o e4 hz hr (Nat.le_of_ble_eq_true hj.1) fun e=>?_) (by rw [← qh1 ρ r];exact hk)
  rcases hj.2 with h|h
  ·rw [e] at h;simp at h
  ·exact kj h
theorem qq1 (A Z B us:List AV) (j:Nat) (h:j+us.length≤Z.length):zp (A++Z++B) (A.length+j) us=A++zp Z j us++B:=by
 unfold zp
 rw [List.append_assoc A Z B,List.take_length_add_append,List.take_append_of_le_length (by omega),Nat.add_assoc,List.drop_length_add_append,List.drop_append_of_le_length (by omega)]
 simp
theorem q05 {sz i j:Nat} {xs pad us:List AV} {z z':AV} (hw:∀ x∈xs,x.cells.length=sz) (hz:xs[i]? = some z) (hz':z'.cells=zp z.cells j us) (hj:j+us.length≤sz):zp (flat xs++pad) (0+i * sz+j) us=flat (xs.set i z')++pad∧z'.cells.length=sz:=by
 have hzl:=hw z (List.mem_of_getElem? hz)
 have hl:z'.cells.length=sz:=by rw [hz'];simp [zp];omega
 have hi:=lt_of_getElem? hz
 refine⟨?_,hl⟩
 rw [← qvw hw hl hi]
 have hg:=qzz (pad:=pad) hw hz
 have hA:((flat xs++pad).take (i * sz)).length=i * sz:=by
  have h1:i * sz≤xs.length * sz:=Nat.mul_le_mul_right _ (by omega)
  rw [List.length_take,List.length_append,zx hw]
  omega
 generalize flat xs++pad=cs at hg hA
 have hcs:cs=cs.take (i * sz)++z.cells++(cs.drop (i * sz)).drop sz:=by
  rw [← hg,List.append_assoc,List.take_append_drop,List.take_append_drop]
 have e1:=qq1 (cs.take (i * sz)) z.cells ((cs.drop (i * sz)).drop sz) us j (by omega)
 have e2:=qq1 (cs.take (i * sz)) z.cells ((cs.drop (i * sz)).drop sz) z'.cells 0 (by omega)
 rw [hA,← hcs] at e1 e2
 have e3:zp z.cells 0 z'.cells=z'.cells:=by
  unfold zp
  rw [Nat.zero_add,List.drop_eq_nil_of_le (by omega)]
  simp
 rw [Nat.add_zero,e3] at e2
 rw [Nat.zero_add,e1,e2,hz']
theorem q4q {t e:TypeId} {x y:Operand} {b off sz i j sz':Nat} {agg:Bool} {xs:List AV} {z z' u:AV} {v:SV} (hx:sval N sl x=some (.bx b off)) (hy:sval N sl y=some v) (hv:∀ ρ,v.ev ρ = u) (hH:H b=some (.own sz e xs)) (ht:tyOf E.P t=some (sz',agg)) (ho:off=0+i * sz+j) (hz:xs[i]? = some z) (hz':z'.cells=zp z.cells j u.cells)
  (hj:(u.okc && Nat.beq u.cells.length sz' && j7 u.cells && Nat.ble (j+sz') sz)=true) (h:k ⟨.a (.v undef),[b],[(b,some (.own sz e (xs.set i z')))],nx⟩):∃ e,Loc E N ops ⟨d,.store t x y,T,p,af,none⟩ nx sl H e∧k e:=by
 simp only [Bool.and_eq_true] at hj
 obtain⟨⟨⟨j1,j2⟩,j3⟩,j4⟩:=hj
 have j2:=Nat.eq_of_beq_eq_true j2
 have j4:=Nat.le_of_ble_eq_true j4
 refine⟨_,fun df rd K rest ρ t' S hs hS hk=>?_,h⟩
 have hok:=hS.ok b _ ((v4 b).trans hH)
 rcases hok with⟨rfl,_⟩ | ⟨o,ver,cap,pad,e1,e2,e3,e4,e5,e6⟩
 ·simp at hz
 ·subst ho
  obtain⟨q1,q2⟩:=q05 (pad:=pad) e4 hz hz' (by omega)
  have hlt:=lt_of_getElem? hz
  refine qft (o:=o) (ver:=ver) (off:=0+i * sz+j) (xs:=u.cells) ((qv hs hx).trans (by simp only [SV.ev,e1,bxAt])) ((qv hs hy).trans (hv ρ)) e2 ht j1 rfl j2 (by simpa [j7] using j3) (by
   have h1:i * sz+sz≤xs.length * sz:=by rw [← Nat.succ_mul];exact Nat.mul_le_mul_right _ hlt
   rw [List.length_append,zx e4]
   omega) ?_
  rw [q1]
  have hw':∀ y∈xs.set i z',y.cells.length=sz:=fun y hy=>by
   rcases List.mem_or_eq_of_mem_set hy with h|rfl
   ·exact e4 y h
   ·exact q2
  have key:∀ k r,chF [(b,some (.own sz e (xs.set i z')))] (resF [b] H) k=some r→k=b∧r = .own sz e (xs.set i z'):=fun k r hk=>by
   simp only [chF,lkS] at hk
   by_cases e:b=k
   ·subst e
    have:Nat.beq b b=true:=by simp
    rw [this] at hk
    simp only [cond_true,Option.some.injEq] at hk
    exact⟨rfl,hk.symm⟩
   ·rw [ji e] at hk
    have:=(vg hk).1
    simp only [memN,List.any_cons,List.any_nil,Bool.or_false] at this
    exact absurd (Nat.eq_of_beq_eq_true this).symm e
  refine hk ρ _ ⟨fun _ _=>rfl,⟨fun k r hk=>?_,fun k k' r r' hne g1 g2=>?_⟩,by simp,fun j hj hne=>?_,fun k r hk o' ho'=>?_⟩
  ·obtain⟨rfl,rfl⟩:=key k r hk
   refine .inr ⟨o,ver,cap,pad,by rw [e1,List.length_set],yr e2,?_,hw',by rw [List.length_set];exact e5,e6⟩
   rw [List.length_append,zx hw',List.length_set,← zx e4,← List.length_append]
   exact e3
  ·exact absurd ((key k r g1).1.trans (key k' r' g2).1.symm) hne
  ·have:=hne b _ ((v4 b).trans hH)
   rw [e1] at this
   exact List.getElem?_set_ne (fun e=>this (by rw [e];rfl))
  ·obtain⟨rfl,rfl⟩:=key k r hk
   exact .inr ⟨k,_,(v4 k).trans hH,ho'⟩
theorem qmk {b:Nat} {q:SR}:∀ k r,chF [(b,none),(nx,some q)] (resF [b] H) k=some r→k=nx∧r=q:=fun k r hk=>by
 simp only [chF,lkS] at hk
 by_cases e:b=k
 ·subst e
  simp at hk
 ·rw [ji e] at hk
  simp only [cond_false] at hk
  by_cases e2:nx=k
  ·subst e2
   simp at hk
   exact⟨rfl,hk.symm⟩
  ·rw [ji e2] at hk
   simp only [cond_false] at hk
   have:=(vg hk).1
   simp only [memN,List.any_cons,List.any_nil,Bool.or_false] at this
   exact absurd (Nat.eq_of_beq_eq_true this).symm e
theorem q1n {x y:Operand} {t u e:TypeId} {b sz bytes:Nat} {xs ys:List AV} {vy:SV} (hx:sval N sl x=some (.tp b)) (hH:H b=some (.own sz e xs)) (hy:sval N sl y=some vy) (hel:qhq H sz vy=some (ys,[])) (ht:elT (E.P.underlying t)=some e) (hu:elT (E.P.underlying u)=some e) (hb:qug E.P e=some (sz,bytes))
  (hn:(Nat.blt 0 bytes && Nat.ble bytes 140737 && !Nat.beq b nx)=true) (h1:xs.length+ys.length≤1000000000) (hone:j7 (flat ys)=true)
  (h:k ⟨.tp nx,[b],[(b,none),(nx,some (.own sz e (xs++ys)))],nx+1⟩):∃ e,Loc E N ops ⟨d,.call ⟨.builtin .append,#[x,y],#[t,u]⟩,T,p,af,none⟩ nx sl H e∧k e:=by
 simp only [Bool.and_eq_true] at hn
 have hbp:=kj hn.1.1
 have hbl:=Nat.le_of_ble_eq_true hn.1.2
 refine⟨_,fun df rd K rest ρ t' S hs hS hk=>?_,h⟩
 have hw:∀ (G:Gh) (v:Value),Rel G (qe N ⟨t',S,df⟩ y) v→Rel G (.sl sz ys none) v:=by
  rw [qv hs hy]
  exact qc5 (S:=S) hel ⟨fun k r hk=>by rw [qel] at hk;simp at hk,fun k k' r r' _ hk=>by rw [qel] at hk;simp at hk⟩
 have hok:=hS.ok b _ ((v4 b).trans hH)
 have hev:qe N ⟨t',S,df⟩ x = ρ b:=(qv hs hx).trans (qhd hok)
 have hmul:(xs.length+ys.length) * bytes≤140737488355328:=Nat.le_trans (Nat.mul_le_mul h1 hbl) (by decide)
 have fin:∀ (c:AV) (S':List AObj),OwnS S' sz e (xs++ys) c→S.length≤S'.length→(∀ j,j<S.length→zh (ρ b)≠some j→S'[j]? = S[j]?)→(∀ o,zh c=some o→S.length≤o∨zh (ρ b)=some o)→AOps E rd N ops rest K (AS.put ⟨t',S',df⟩ d c):=fun c S' g1 g2 g3 g4=>by
  have:=hk (upd ρ nx c) S' ⟨fun k hk=>xg _ _ (by simp only at hk;omega),⟨fun k r hk=>?_,fun k k' r r' hne q1 q2=>absurd ((qmk k r q1).1.trans (qmk k' r' q2).1.symm) hne⟩,g2,fun j hj hne=>g3 j hj (hne b _ ((v4 b).trans hH)),fun k r hk o ho=>?_⟩
  ·simpa only [SV.ev,j5,qhd g1] using this
  ·obtain⟨rfl,rfl⟩:=qmk k r hk
   rw [j5]
   exact g1
  ·obtain⟨rfl,rfl⟩:=qmk k r hk
   rw [j5] at ho
   exact (g4 o ho).imp_right fun h=>⟨b,_,(v4 b).trans hH,h⟩
 by_cases hy0:ys=[]
 ·subst hy0
  have hc:∀ G v,Rel G (ρ b) v→∃ b n cp,v = .slice b n cp∧n≤cp:=fun G v hv=>by
   rcases hok with⟨_,e1⟩ | ⟨o,ver,cap,pad,e1,e2,e3,e4,e5,e6⟩
   ·obtain⟨base,rfl⟩:=e1.val G v hv
    exact⟨_,_,_,rfl,Nat.le_refl _⟩
   ·rw [e1] at hv
    cases hv with
    |os=>exact⟨_,_,_,rfl,e5⟩
  exact qkq hev hc hw (x6 ht) (x6 hu) (qje hb) (fin (ρ b) S (by rw [List.append_nil];exact hok) (Nat.le_refl _) (fun _ _ _=>rfl) fun o ho=>.inr ho)
 ·rcases hok with⟨rfl,e1⟩ | ⟨o,ver,cap,pad,e1,e2,e3,e4,e5,e6⟩
  ·refine qc2 (by rw [hev];exact e1.val) hw (x6 ht) (x6 hu) (qje hb) hone hy0 (by simp only [maxLen];simp only [List.length_nil] at h1;omega) (by simpa using hmul) fun cap pad q1 q2 q3 q4=>?_
   exact fin _ _ (.inr ⟨S.length,0,cap,pad,rfl,wt,q1,q2,q3,q4⟩) (by simp) (fun j hj _=>List.getElem?_append_left hj) fun o ho=>.inl (by simp only [zh,Option.some.injEq] at ho;omega)
  ·refine qke (o:=o) (hev.trans e1) hw (.os ver (cap+1) pad e3 e4 e5 e6) e2 (x6 ht) (x6 hu) (qje hb) hone (by simp only [maxLen];omega) hmul fun a' ob' hV=>?_
   rcases q5w hV with⟨q,_,_⟩ | ⟨ver',cap',pad',rfl,rfl,q1,q2,q3,q4⟩
   ·simp [hy0] at q
   ·obtain⟨cap',rfl⟩:∃ c,cap'=c+1:=⟨cap' - 1,by
     have:0<ys.length:=List.length_pos_iff.2 hy0
     simp at q3
     omega⟩
    refine fin _ _ (.inr ⟨o,ver',cap',pad',rfl,yr e2,q1,q2,q3,q4⟩) (by simp) (fun j hj hne=>List.getElem?_set_ne fun e=>hne (by rw [e1,e];rfl)) fun o' ho'=>.inr (by rw [e1];exact ho')
structure OwnR (sz:Nat) (T:TypeId) (ys:List AV) (st:List AObj) (c r:AV) (st':List AObj):Prop where
 ok:OwnS st' sz T ys r
 len:st.length≤st'.length
 same:∀ j,j<st.length→zh c≠some j→st'[j]? = st[j]?
 loc:∀ o,zh r=some o→st.length≤o∨zh c=some o
theorem qml {S:List AObj} {sz:Nat} {T:TypeId} {xs:List AV} {c:AV} (h:OwnS S sz T xs c):tpAt c=c:=qhd h
theorem qnw {f:FuncId} {sz:Nat} {T0:TypeId} {xs ys:List AV} (args:List AV) (hc:okC ⟨zz 0 (.tp 0::args.map .a),[(0,some (.own sz T0 xs))],1⟩=true)
  (h:∀ st c,OwnS st sz T0 xs c→ql E f (c::args) st fun r st'=>OwnR sz T0 ys st c r st'):kr E f (.tp 0::args.map .a) 1 (hpF [(0,some (.own sz T0 xs))]) ⟨.tp 1,vb [(0,some (.own sz T0 xs))],[(1,some (.own sz T0 ys))]++vl [(0,some (.own sz T0 xs))],2⟩:=fun ρ S hS=>by
 simp only [wq] at hS
 have hok:OwnS S sz T0 xs (ρ 0):=hS.ok 0 _ rfl
 have e:SV.evs ρ (.tp 0::args.map .a) = ρ 0::args:=by
  simp only [SV.evs,SV.ev,qml hok,vu,List.map_map]
  congr 1
  conv=>rhs;rw [← List.map_id args]
  exact List.map_congr_left fun x _=>rfl
 rw [e]
 refine (h S (ρ 0) hok).mono fun r S' hr=>⟨upd ρ 1 r,?_,?_⟩
 ·simp only [SV.ev,j5,qml hr.ok]
 ·have key:∀ k q,hpF [(1,some (.own sz T0 ys))] k=some q→k=1∧q = .own sz T0 ys:=fun k q hk=>by
   have:=wj hk
   simp only [lkS] at this
   cases hb:Nat.beq 1 k with
   |true=>
    rw [hb] at this
    simp only [cond_true,Option.some.injEq] at this
    exact⟨(Nat.eq_of_beq_eq_true hb).symm,this.symm⟩
   |false=>rw [hb] at this;simp at this
  refine⟨fun k hk=>xg _ _ (by simp only at hk;omega),?_,hr.len,fun j hj hn=>?_,fun k q hk o ho=>?_⟩
  ·simp only [wq,qeb]
   refine⟨fun k q hk=>?_,fun k k' q q' hne h1 h2=>absurd ((key k q h1).1.trans (key k' q' h2).1.symm) hne⟩
   obtain⟨rfl,rfl⟩:=key k q hk
   rw [j5]
   exact hr.ok
  ·simp only [wq] at hn
   exact hr.same j hj (hn 0 _ rfl)
  ·simp only [wq,qeb] at hk ⊢
   obtain⟨rfl,rfl⟩:=key k q hk
   rw [j5] at ho
   rcases hr.loc o ho with h|h
   ·exact .inl h
   ·exact .inr ⟨0,_,rfl,h⟩
theorem qx4 {f:FuncId} {sz:Nat} {T0:TypeId} {ys:List AV} {nx:Nat} {H:Nat→Option SR} (args:List AV) (vs:List SV) (hv:∀ ρ,SV.evs ρ vs=args)
  (h:∀ st,ql E f args st fun r st'=>OwnR sz T0 ys st (.v undef) r st'):kr E f vs nx H ⟨.tp nx,[],[(nx,some (.own sz T0 ys))],nx+1⟩:=fun ρ S hS=>by
 rw [hv]
 refine (h S).mono fun r S' hr=>⟨upd ρ nx r,?_,?_⟩
 ·simp only [SV.ev,j5,qml hr.ok]
 ·have key:∀ k q,chF [(nx,some (SR.own sz T0 ys))] (resF [] H) k=some q→k=nx∧q = .own sz T0 ys:=fun k q hk=>by
   simp only [chF,lkS] at hk
   cases hb:Nat.beq nx k with
   |true=>
    rw [hb] at hk
    simp only [cond_true,Option.some.injEq] at hk
    exact⟨(Nat.eq_of_beq_eq_true hb).symm,hk.symm⟩
   |false=>
    rw [hb] at hk
    simp [resF,memN] at hk
  refine⟨fun k hk=>xg _ _ (by simp only at hk;omega),⟨fun k q hk=>?_,fun k k' q q' hne h1 h2=>absurd ((key k q h1).1.trans (key k' q' h2).1.symm) hne⟩,hr.len,fun j hj _=>hr.same j hj (by simp [zh]),fun k q hk o ho=>?_⟩
  ·obtain⟨rfl,rfl⟩:=key k q hk
   rw [j5]
   exact hr.ok
  ·obtain⟨rfl,rfl⟩:=key k q hk
   rw [j5] at ho
   rcases hr.loc o ho with h|h
   ·exact .inl h
   ·simp [zh] at h
end
end Go.Av
namespace Go.Proofs.YtneejjefekdgjaaGreatDoor
open Go Go.Av Go.RowKit Go.Proofs Go.Pl
def accK (l:qa) (r:List qa) (k:Nat):List qa:=xn 32 (xz l)::(r.take k).map fun s=>xn 46 (s.drop 1)
theorem q2g {l:qa} {r:List qa} {k:Nat} {a:qa} (h:r[k]? = some a):(accK l r (k+1)).map (fun x=>Sv x)=(accK l r k).map (fun x=>Sv x)++[Sv (xn 46 (a.drop 1))]:=by
 obtain⟨hlt,rfl⟩:=List.getElem?_eq_some_iff.1 h
 unfold accK
 rw [← List.take_append_getElem hlt]
 simp only [List.map_append,List.map_cons,List.map_nil,List.cons_append]
set_option maxHeartbeats 4000000 in
theorem qkj (ls:List qa) (st:List AObj) (hB:LsB ls):ql E 210 [Ss ls] st fun r st'=>r=qep ls∧st'=st:=by
 refine z4 [.a (Ss ls)] (qxl _) Tryz.func210 rfl rfl (fun _=>rfl) rfl fun S0=>?_
 have hL:=hB.len
 have hml:(ls.map fun x=>Sv x).length=ls.length:=by simp
 cases ls with
 |nil=>
  apply qd [2]
  repeat' (first|apply And.intro|(intro h;try exact cDd)|exact cSd|apply qb [2]|refine exr ?_|refine qj ?_)
 |cons l r=>
  have hl:=hB.val l (by simp)
  simp only [List.length_cons] at hL hml
  have hget0:((l::r).map fun x=>Sv x)[0]? = some (Sv l):=rfl
  have hrm:(r.map fun x=>Sv x).length=r.length:=by simp
  by_cases h4:qr l=4
  ·have hkf:=qlh.1 h4
   have hcu:=fun st=>q1g l st (by omega) h4
   have ht1:=fun st=>qzy (xz l) 32 st
   apply qd [2,31]
   repeat' (first|apply And.intro|(intro h;try exact cDd)|(refine Exists.intro (0) ⟨by omega,_,hget0,?_⟩)|exact⟨Tryz.call272⟩|refine cpe hcu ?_|exact⟨Tryz.call74⟩|refine cpe ht1 ?_|exact cSd|apply qb [2,31]|refine exr ?_|refine qj ?_)
   refine wm (X:=Nat) (fun k=>⟨[(2,.bx 0 0),(4,.s (ju l)),(7,.tp 1),(33,.a (.sl 1 (r.map fun x=>Sv x) none)),(34,.i (r.map fun x=>Sv x).length),(35,.i k)],[(0,some (.cells 111 [.s [],.s []])),(1,some (.tip 1 9 ((accK l r k).map fun x=>Sv x)))],2⟩) (fun k=>k≤r.length∧∀ x∈r.take k,qr x=3) (fun k=>r.length - k) 0 ⟨by omega,by simp⟩ ?_ ?_
   ·skip
    repeat' (first|apply And.intro|(intro h;try exact cDd)|exact cSd|apply qb []|refine exr ?_|refine qj ?_)
   ·rintro k ⟨hk,h3⟩
    have hacl:((accK l r k).map fun x=>Sv x).length=k+1:=by unfold accK;simp;omega
    by_cases hlt:k<r.length
    ·obtain⟨a,ha⟩:∃ a,r[k]? = some a:=⟨_,List.getElem?_eq_getElem hlt⟩
     have hget:(r.map fun x=>Sv x)[k]? = some (Sv a):=by simp [ha]
     have hav:=hB.val a (by simp [List.mem_of_getElem? ha])
     have hka:=fun st=>qit a st (by omega)
     have ht2:=fun st=>qzy (a.drop 1) 46 st
     have hnx:=q2g (l:=l) ha
     by_cases hk3:qr a=3
     ·obtain⟨h2,_⟩:=qrs hk3
      simp only [hk3] at hka
      have htk:r.take (k+1)=r.take k++[a]:=by
       obtain⟨_,rfl⟩:=List.getElem?_eq_some_iff.1 ha
       rw [List.take_append_getElem]
      apply qd []
      repeat' (first|apply And.intro|(intro h;try exact cDd)|(refine Exists.intro (k) ⟨by omega,_,hget,?_⟩)|exact⟨Tryz.call122⟩|refine cpe hka ?_|exact⟨Tryz.call74⟩|refine cpe ht2 ?_|(refine Exists.intro (k+1) ⟨⟨by omega,by rw [htk];exact qoe h3 hk3⟩,by omega,?_⟩)|exact cSd|apply qb []|refine exr ?_|refine qj ?_)
      all_goals first|(rw [hnx];done)|(rw [hnx];simp [SV.evs,SV.ev];done)|(simp only [List.length_cons,List.length_nil];omega)
     ·have hno:jh (l::r)=(([],[]),2):=if_neg fun h=>hk3 (h.2.2 a (List.mem_of_getElem? ha))
      unfold qep
      rw [hno]
      apply qd []
      repeat' (first|apply And.intro|(intro h;try exact cDd)|(refine Exists.intro (k) ⟨by omega,_,hget,?_⟩)|exact⟨Tryz.call122⟩|refine cpe hka ?_|exact absurd (by assumption) hk3|exact cSd|apply qb []|refine exr ?_|refine qj ?_)
    ·rw [List.take_of_length_le (by omega)] at h3
     have hkr:k=r.length:=by omega
     subst hkr
     have hok:qov (l::r):=⟨by simp,h4,h3⟩
     have hjl:=qxe r fun s hs=>hB.val s (by simp [hs])
     have hj:=q37 (xn 32 (xz l)) r
     have hjv:Lib.join (accK l r r.length) [10]=yu l r:=by unfold accK;rw [List.take_length];exact hj
     have htr:(xn 32 (xz l)).length≤l.length:=by unfold xn xz;split <;> simp <;> omega
     have hvl:(yu l r).length≤140737488355328:=by
      unfold yu
      rw [List.length_append]
      omega
     have hjn:=fun tip st=>qzh (accK l r r.length) tip [10] (yu l r) st hjv (by rw [← List.length_map (f:=fun x=>Sv x),hacl];omega) hvl
     have hkl:(ju l).length<4294967281:=by have:=hkf.2.2.2.1;omega
     have hun:jh (l::r)=if 1000<(yu l r).length then (([],[]),6) else ((ju l,yu l r),0):=if_pos hok
     have hjn0:=hjn none
     unfold qep
     by_cases hv:1000<(yu l r).length
     ·have hcf:vd (ju l,yu l r)=6:=(if_neg (by simpa using hkf.2.2)).trans (if_pos hv)
      have hck:=fun st=>qgw (ju l,yu l r) st hkl (by rw [hcf];decide)
      rw [hcf] at hck
      rw [hun,if_pos hv]
      apply qd [10]
      repeat' (first|apply And.intro|(intro h;try exact cDd)|exact⟨Tryz.call127⟩|refine cpe hjn0 ?_|exact⟨Tryz.call273⟩|refine cpe hck ?_|exact cSd|apply qb [10]|refine exr ?_|refine qj ?_)
     ·have hcf:vd (ju l,yu l r)=0:=(if_neg (by simpa using hkf.2.2)).trans (if_neg hv)
      have hck:=fun st=>qgv (ju l,yu l r) st hkl hcf
      rw [hun,if_neg hv]
      apply qd [10]
      repeat' (first|apply And.intro|(intro h;try exact cDd)|exact⟨Tryz.call127⟩|refine cpe hjn0 ?_|exact⟨Tryz.call273⟩|refine cpe hck ?_|exact cSd|apply qb [10]|refine exr ?_|refine qj ?_)
  ·have hno:jh (l::r)=(([],[]),2):=if_neg fun h=>h4 h.2.1
   have hcu:=fun st=>qyh l st (by omega) h4
   unfold qep
   rw [hno]
   apply qd [2]
   repeat' (first|apply And.intro|(intro h;try exact cDd)|(refine Exists.intro (0) ⟨by omega,_,hget0,?_⟩)|exact⟨Tryz.call272⟩|refine cpe hcu ?_|exact cSd|apply qb [2]|refine exr ?_|refine qj ?_)
end Go.Proofs.YtneejjefekdgjaaGreatDoor
namespace Go.Av
open Go Go.RowKit
def qak (ns:List Int):List Int:=ns.mergeSort fun x y=>decide (x≤y)
theorem qq0 (ns:List Int):(qak ns).Perm ns:=List.mergeSort_perm ns _
theorem qff (ns:List Int):(qak ns).length=ns.length:=(qq0 ns).length_eq
theorem q1t {w:World} {b:Nat} {c:Array Value} {T:TypeId} {fr:Nat×Nat} (d:Array Int) (h:w.heap[b]? = some (.cells c T fr)):Sort.putRow (Value.int .i64) w b 0 d=w.setRow b (Sort.putCells (Value.int .i64) 0 d c):=by
 unfold Sort.putRow Sort.mapBlock World.setRow
 congr 1
 apply Array.ext_getElem?
 intro k
 rw [Array.getElem?_modify,Array.getElem?_modify]
 by_cases hk:b=k
 ·subst hk
  rw [if_pos rfl,if_pos rfl,h]
  rfl
 ·rw [if_neg hk,if_neg hk]
theorem qxo {E:Env} {f:FuncId} (hC:∀ (blk off cap:Nat) (zs:List Int) (w:World),Sort.Holds (Value.int .i64) w blk off zs.toArray→blk<w.heap.size→zs.length<4611686018427387904 →
   Calls E.P f #[.slice (some ⟨blk,off,none⟩) zs.length cap] w fun e w'=>e = .returned (.tuple #[])∧∃ n os,w'=Sort.grow (Sort.putRow (Value.int .i64) (Sort.ahead w n) blk off (zs.mergeSort fun x y=>decide (x≤y)).toArray) os)
  {st:List AObj} {o ver cap:Nat} {T:TypeId} {ns:List Int} {pad:List AV} (ho:st[o]? = some (.cells ver T (ns.map (fun n=>Iv n)++pad))) (hl:ns.length<4611686018427387904) :
  ql E f [.os o ver 0 ns.length cap] st fun r st'=>r = .tu []∧st'=st.set o (.cells ver T ((qak ns).map (fun n=>Iv n)++pad)):=by
 refine⟨fun B0 w0 G vs w hL hA hR=>?_⟩
 obtain⟨v,rfl⟩:∃ v,vs = #[v]:=by
  have h1:vs.size=1:=by have:=hR.1;simpa using this.symm
  refine⟨vs[0],Array.ext (by simp [h1]) fun i h2 h3=>?_⟩
  have:i=0:=by omega
  subst this
  rfl
 have hr:=hR.2 0 _ v rfl rfl
 obtain⟨h0,h1,h2,h3,c,h4,h5,h6⟩:=hA.ob o _ ho
 cases hr with
 |os _ _ _ _ b _ hn hv hb=>
  have hb:=hb h1
  subst hb
  have hget:∀ j,j<ns.length→c[j]? = some (.int .i64 (ns.getD j 0)):=fun j hj=>by
   have hlt:j<c.size:=by rw [← h5];simp;omega
   have e1:(ns.map (fun n=>Iv n)++pad)[j]? = some (Iv (ns.getD j 0)):=by
    rw [List.getElem?_append_left (by simpa using hj)]
    simp [List.getD,hj]
   have:=h6 j _ c[j] e1 (by simp [hlt])
   rw [Array.getElem?_eq_getElem hlt]
   generalize c[j]=y at this
   cases this
   rfl
  have hH:Sort.Holds (Value.int .i64) w (G.ob o).blk 0 ns.toArray:=fun j hj=>by
   have hj:j<ns.length:=by simpa using hj
   refine⟨?_,?_⟩
   ·simp only [World.cell?,h4,Nat.zero_add,Option.isSome_none,Bool.false_eq_true,if_false]
    rw [hget j hj]
    simp [List.getD,hj]
   ·simp only [World.frozen?,h4]
    simp
  have hblk:(G.ob o).blk<w.heap.size:=(hA.ob o _ ho).lt trivial
  refine (hC (G.ob o).blk 0 cap ns w hH hblk hl).mono ?_
  rintro e w' ⟨rfl,n,os,rfl⟩
  have hA1:q7 B0 w0 G st (Sort.ahead w n):=hA.fresh ⟨rfl,rfl,rfl,Nat.le_refl _,fun _ _=>rfl⟩
  have h4':(Sort.ahead w n).heap[(G.ob o).blk]? = some (.cells c T (0,0)):=h4
  have hps:=q1t (w:=Sort.ahead w n) (ns.mergeSort fun x y=>decide (x≤y)).toArray h4'
  have hsl:=qff ns
  have hA2:q7 B0 w0 G (st.set o (.cells ver T ((qak ns).map (fun n=>Iv n)++pad))) (Sort.putRow (Value.int .i64) (Sort.ahead w n) (G.ob o).blk 0 (ns.mergeSort fun x y=>decide (x≤y)).toArray):=by
   rw [hps]
   refine hA1.setRow ho ?_ fun i x y hx hy=>?_
   ·simp only [Sort.putCells,Array.size_mapIdx,← h5]
    simp [hsl]
   ·simp only [Sort.putCells,Array.getElem?_mapIdx] at hy
    have hlt:i<c.size:=by
     rcases Nat.lt_or_ge i c.size with h|h
     ·exact h
     ·rw [Array.getElem?_eq_none h] at hy;simp at hy
    rw [Array.getElem?_eq_getElem hlt] at hy
    simp only [Option.map_some,Option.some.injEq] at hy
    by_cases hi:i<ns.length
    ·rw [if_pos (by simp;omega)] at hy
     rw [List.getElem?_append_left (by simp;omega)] at hx
     have hi2:i<(qak ns).length:=by omega
     rw [List.getElem?_map,List.getElem?_eq_getElem hi2] at hx
     simp only [Option.map_some,Option.some.injEq] at hx
     subst hx
     subst hy
     have:(ns.mergeSort fun x y=>decide (x≤y)).toArray[i - 0]! = (qak ns)[i]:=by
      rw [Nat.sub_zero,getElem!_pos _ i (by simpa [qak] using hi2)]
      simp [qak]
     rw [this]
     exact .v _
    ·rw [if_neg (by simp;omega)] at hy
     subst hy
     rw [List.getElem?_append_right (by simp;omega)] at hx
     refine h6 i x c[i] ?_ (by simp [hlt])
     rw [List.getElem?_append_right (by simp;omega)]
     simpa [hsl] using hx
  have hgr:Below (Sort.putRow (Value.int .i64) (Sort.ahead w n) (G.ob o).blk 0 (ns.mergeSort fun x y=>decide (x≤y)).toArray).heap.size (Sort.putRow (Value.int .i64) (Sort.ahead w n) (G.ob o).blk 0 (ns.mergeSort fun x y=>decide (x≤y)).toArray) (Sort.grow (Sort.putRow (Value.int .i64) (Sort.ahead w n) (G.ob o).blk 0 (ns.mergeSort fun x y=>decide (x≤y)).toArray) os):=by
   generalize Sort.putRow (Value.int .i64) (Sort.ahead w n) (G.ob o).blk 0 (ns.mergeSort fun x y=>decide (x≤y)).toArray=w2
   exact⟨rfl,rfl,rfl,by simp [Sort.grow],fun k hk=>by simp [Sort.grow,Array.getElem?_append,hk]⟩
  exact⟨.tuple #[],G,.tu [],_,rfl,.refl G,hA2.fresh hgr,.tu _ _ rfl (by simp),rfl,rfl⟩
theorem qk9 (ns:List Int):flat (ns.map fun n=>Iv n)=ns.map fun n=>Iv n:=by
 unfold flat
 rw [List.flatMap_map]
 induction ns with
 |nil=>rfl
 |cons a r ih=>rw [List.flatMap_cons,ih];rfl
theorem q9y {E:Env} {f:FuncId} {H:Nat→Option SR} {nx b:Nat} {e:TypeId} {ns:List Int} (hC:∀ (blk off cap:Nat) (zs:List Int) (w:World),Sort.Holds (Value.int .i64) w blk off zs.toArray→blk<w.heap.size→zs.length<4611686018427387904 →
   Calls E.P f #[.slice (some ⟨blk,off,none⟩) zs.length cap] w fun e w'=>e = .returned (.tuple #[])∧∃ n os,w'=Sort.grow (Sort.putRow (Value.int .i64) (Sort.ahead w n) blk off (zs.mergeSort fun x y=>decide (x≤y)).toArray) os)
  (hN:∀ (p:Option Addr) (cap:Nat) (w:World),Calls E.P f #[.slice p 0 cap] w fun e w'=>e = .returned (.tuple #[])∧w'=w)
  (hH:H b=some (.own 1 e (ns.map fun n=>Iv n))) (hl:ns.length<4611686018427387904):kr E f [.tp b] nx H ⟨nf (.tu []),[b],[(b,some (.own 1 e ((qak ns).map fun n=>Iv n)))],nx⟩:=fun ρ S hS=>by
 have hok:OwnS S 1 e (ns.map fun n=>Iv n) (ρ b):=hS.ok b _ ((v4 b).trans hH)
 have hev:SV.evs ρ [.tp b]=[ρ b]:=by simp only [SV.evs,SV.ev,qml hok]
 rw [hev]
 have key:∀ k r,chF [(b,some (.own 1 e ((qak ns).map fun n=>Iv n)))] (resF [b] H) k=some r→k=b∧r = .own 1 e ((qak ns).map fun n=>Iv n):=fun k r hk=>by
  simp only [chF,lkS] at hk
  by_cases e:b=k
  ·subst e
   have:Nat.beq b b=true:=by simp
   rw [this] at hk
   simp only [cond_true,Option.some.injEq] at hk
   exact⟨rfl,hk.symm⟩
  ·rw [ji e] at hk
   have:=(vg hk).1
   simp only [memN,List.any_cons,List.any_nil,Bool.or_false] at this
   exact absurd (Nat.eq_of_beq_eq_true this).symm e
 have fin:∀ S',OwnS S' 1 e ((qak ns).map fun n=>Iv n) (ρ b)→S.length≤S'.length→(∀ j,j<S.length→zh (ρ b)≠some j→S'[j]? = S[j]?) →
   ∃ ρ',AV.tu []=(nf (.tu [])).ev ρ'∧qer ρ S nx H ⟨nf (.tu []),[b],[(b,some (.own 1 e ((qak ns).map fun n=>Iv n)))],nx⟩ ρ' S':=fun S' g1 g2 g3=>by
  refine⟨ρ,(qh1 ρ _).symm,fun _ _=>rfl,⟨fun k r hk=>?_,fun k k' r r' hne q1 q2=>absurd ((key k r q1).1.trans (key k' r' q2).1.symm) hne⟩,g2,fun j hj hne=>g3 j hj (hne b _ ((v4 b).trans hH)),fun k r hk o' ho'=>?_⟩
  ·obtain⟨rfl,rfl⟩:=key k r hk
   exact g1
  ·obtain⟨rfl,rfl⟩:=key k r hk
   exact .inr ⟨k,_,(v4 k).trans hH,ho'⟩
 rcases hok with⟨h0,hnr⟩ | ⟨o,ver,cap,pad,e1,e2,e3,e4,e5,e6⟩
 ·have hns:ns=[]:=by simpa using h0
  subst hns
  refine⟨fun B0 w0 G vs w hL hA hR=>?_⟩
  obtain⟨v,rfl⟩:∃ v,vs = #[v]:=by
   have h1:vs.size=1:=by have:=hR.1;simpa using this.symm
   refine⟨vs[0],Array.ext (by simp [h1]) fun i h2 h3=>?_⟩
   have:i=0:=by omega
   subst this
   rfl
  have hr:=hR.2 0 _ v rfl rfl
  obtain⟨base,rfl⟩:=hnr.val G v hr
  refine (hN base 0 w).mono ?_
  rintro e' w' ⟨rfl,rfl⟩
  exact⟨.tuple #[],G,.tu [],S,rfl,.refl G,hA,.tu _ _ rfl (by simp),fin S (.inl ⟨by simp [qak],hnr⟩) (Nat.le_refl _) fun _ _ _=>rfl⟩
 ·rw [qk9] at e2 e3
  rw [List.length_map] at e1 e5
  have hS2:=qxo hC (cap:=cap+1) e2 hl
  rw [e1]
  refine hS2.mono ?_
  rintro r S' ⟨rfl,rfl⟩
  refine fin _ (.inr ⟨o,ver,cap,pad,?_,?_,?_,fun x hx=>?_,?_,e6⟩) (by simp) fun j hj hne=>?_
  ·rw [e1,List.length_map,qff]
  ·rw [qk9]
   exact yr e2
  ·rw [qk9]
   simpa [qff] using e3
  ·obtain⟨n,_,rfl⟩:=List.mem_map.1 hx
   rfl
  ·rw [List.length_map,qff]
   exact e5
  ·rw [e1] at hne
   exact List.getElem?_set_ne fun e=>hne (by rw [e];rfl)
end Go.Av
namespace Go.Pl
open Go Go.Proofs
structure qt where
 kind:Int
 raw:qa
 fields:List Fld
structure PSt where
 lines:List qa
 frm:Int
 full:Bool
 items:List qt
 block:List qa
 fields:List Fld
 records:Int
def jc (p:PSt):Option (Int×Int)×PSt:=
 if p.lines=[] then (none,p)
 else if (jh p.lines).2≠0 then (some (p.frm,(jh p.lines).2),p)
 else if p.full=true then (some (p.frm,11),p)
 else (none,{ p with lines:=[],fields:=p.fields++[(jh p.lines).1] })
end Go.Pl
namespace Go.Proofs.YtneejjefekdgjaaGreatDoor
open Go Go.Av Go.RowKit Go.Proofs Go.Pl
@[reducible] def vh (x : qt) : AV := .ag [Iv x.kind, Sv x.raw, vm x.fields]
@[reducible] def wh (xs : List qt) : AV := .sl 3 (xs.map vh) none
@[reducible] def parC (c1 c2 c3 c4 : AV) (p : PSt) : List AV := [c1, Iv p.frm, Bv p.full, c2, c3, c4, Iv p.records]
@[reducible] def parO (c1 c2 c3 c4 : AV) (p : PSt) : AObj := .cells 0 140 (parC c1 c2 c3 c4 p)
structure ParS (b o:Nat) (p:PSt) (st:List AObj) (c1 c2 c3 c4:AV):Prop where
 lt:o<b
 le:b≤st.length
 ob:st[o]? = some (parO c1 c2 c3 c4 p)
 h1:TipC b st 1 9 (p.lines.map fun x=>Sv x) c1
 h2:TipC b st 3 52 (p.items.map vh) c2
 h3:TipC b st 1 9 (p.block.map fun x=>Sv x) c3
 h4:TipC b st 2 111 (p.fields.map fldA) c4
 ne:∀ t xs ys,c1 = .sl 1 xs (some t)→c3 = .sl 1 ys (some t)→False
structure Keep (b o:Nat) (st st':List AObj):Prop where
 len:st.length≤st'.length
 same:∀ k,k≠o→k<st.length→(k<b∨qg6 st[k]?)→st'[k]? = st[k]?
theorem Keep.trans {b o:Nat} {st st' st'':List AObj} (h:Keep b o st st') (k:Keep b o st' st''):Keep b o st st'':=⟨Nat.le_trans h.len k.len,fun i hne hi hc=>by
 have e:=h.same i hne hi hc
 refine (k.same i hne (Nat.lt_of_lt_of_le hi h.len) ?_).trans e
 rw [e]
 exact hc⟩
def qe7 (a n:Int):AV:=.ifc 121 (.pp [Iv a,.ifc 62 (Iv n)])
def errP:Option (Int×Int)→AV
 |none=>.v .nilIface
 |some (a,n)=>qe7 a n
theorem qid (a n:Int):Pure (qe7 a n):=qag (qry fun x hx=>by
 simp only [List.mem_cons,List.not_mem_nil,or_false] at hx
 rcases hx with rfl|rfl
 ·exact qu _
 ·exact qag (qu _))
theorem qjw (a n:Int) (st:List AObj):ql E 124 [Iv a,.ifc 62 (Iv n)] st fun r st'=>r=qe7 a n∧st'=st:=by
 refine q6 (qid a n) (qp Tryz.func124 rfl (Nat.le_of_ble_eq_true rfl) ?_)
 repeat' (first|(apply qkr;(iterate 3 exact rfl))|apply qm|apply qg|apply qf|apply qk|apply qh|(apply va;exact rfl;exact rfl)|(apply x2;(iterate 3 exact rfl))|apply qx)
 exact qo rfl (zi rfl) ⟨rfl,_,rfl⟩
theorem q2b (ls:List qa) (t:Option Nat) (st:List AObj) (hB:LsB ls) (h:(jh ls).2=0):ql E 210 [.sl 1 (ls.map fun x=>Sv x) t] st fun r st'=>r = .tu [fldA (jh ls).1,.v .nilIface]∧st'=st:=by
 have:=qkj ls st hB
 unfold qep at this
 rw [h] at this
 exact qmt (qka _ _ _) this
theorem q2c (ls:List qa) (t:Option Nat) (st:List AObj) (hB:LsB ls) (h:(jh ls).2≠0):ql E 210 [.sl 1 (ls.map fun x=>Sv x) t] st fun r st'=>r = .tu [fldA (jh ls).1,.ifc 62 (Iv (jh ls).2)]∧st'=st:=by
 have:=qkj ls st hB
 unfold qep at this
 rw [qis h] at this
 exact qmt (qka _ _ _) this
structure PB (n:Nat) (p:PSt):Prop where
 small:n<900000
 lines:p.lines.length≤n
 linesV:∀ s∈p.lines,s.length<1000000
 items:p.items.length≤n
 block:p.block.length≤n
 blockV:∀ s∈p.block,s.length<1000000
 fields:p.fields.length≤n
 rec0:0≤p.records
 rec1:p.records≤n
theorem PB.ls {n:Nat} {p:PSt} (h:PB n p):LsB p.lines:=⟨by have:=h.lines;have:=h.small;omega,h.linesV⟩
theorem ParS.pre {b o:Nat} {p:PSt} {st l:List AObj} {c1 c2 c3 c4:AV} (P:ParS b o p st c1 c2 c3 c4):ParS b o p (st++l) c1 c2 c3 c4:=
 ⟨P.lt,by have:=P.le;simp;omega,qac P.ob,qhb P.h1,qhb P.h2,qhb P.h3,qhb P.h4,P.ne⟩
end Go.Proofs.YtneejjefekdgjaaGreatDoor
