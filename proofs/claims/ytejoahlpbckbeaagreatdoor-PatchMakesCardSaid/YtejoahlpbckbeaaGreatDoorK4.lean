/- Contracts and plain facts that the closing text leans on (part 4). No condition of their own beyond those that each states. -/
import Derived.Test.YtejoahlpbckbeaaGreatDoorK3
set_option maxRecDepth 100000
set_option linter.unusedVariables false
set_option linter.unusedSimpArgs false
namespace Go.Av
open Go Go.RowKit
def Wk (x r:AV):Prop:=∀ (G:Gh) (v:Value),Rel G x v→Rel G r v
theorem vh (x:AV):Wk x x:=fun _ _ h=>h
theorem zbx {x y:AV} (h:x=y):Wk x y:=h▸vh x
theorem q6k (sz:Nat) (xs:List AV) (tip:Option Nat):Wk (.sl sz xs tip) (.sl sz xs none):=fun _ _ h=>qju h
theorem q0q {xs ys:List AV} (hl:xs.length=ys.length) (h:∀ (i:Nat) (x y:AV),xs[i]? = some x→ys[i]? = some y→Wk x y):Wk (.ag xs) (.ag ys):=fun G v hr=>by
 cases hr with
 |ag _ vs hl' hr=>
  refine .ag _ vs (by omega) fun i y b hy hb=>?_
  have hi:=lt_of_getElem? hy
  have hx:xs[i]? = some (xs[i]'(by omega)):=List.getElem?_eq_getElem (by omega)
  exact h i _ y hx hy G b (hr i _ b hx hb)
theorem q60 {xs ys:List AV} (hl:xs.length=ys.length) (h:∀ (i:Nat) (x y:AV),xs[i]? = some x→ys[i]? = some y→Wk x y):Wk (.tu xs) (.tu ys):=fun G v hr=>by
 cases hr with
 |tu _ vs hl' hr=>
  refine .tu _ vs (by omega) fun i y b hy hb=>?_
  have hi:=lt_of_getElem? hy
  have hx:xs[i]? = some (xs[i]'(by omega)):=List.getElem?_eq_getElem (by omega)
  exact h i _ y hx hy G b (hr i _ b hx hb)
theorem zbf {t:TypeId} {x y:AV} (h:Wk x y):Wk (.ifc t x) (.ifc t y):=fun G v hr=>by
 cases hr with
 |ifc _ _ z hz=>exact .ifc t y z (h G z hz)
theorem zby {f:Fn} {a b c d:List AV} (h1:a.length=c.length) (h2:∀ (i:Nat) (x y:AV),a[i]? = some x→c[i]? = some y→Wk x y) (h3:b.length=d.length) (h4:∀ (i:Nat) (x y:AV),b[i]? = some x→d[i]? = some y→Wk x y):Wk (.fn f a b) (.fn f c d):=fun G v hr=>by
 cases hr with
 |fn _ _ _ a' b' g1 g2 g3 g4=>
  refine .fn f c d a' b' (by omega) (by omega) (fun i x y hx hy=>?_) (fun i x y hx hy=>?_)
  ·have hi:i<a.length:=by have:=lt_of_getElem? hx;omega
   have hz:a[i]? = some a[i]:=List.getElem?_eq_getElem hi
   exact h2 i _ x hz hx G y (g3 i _ y hz hy)
  ·have hi:i<b.length:=by have:=lt_of_getElem? hx;omega
   have hz:b[i]? = some b[i]:=List.getElem?_eq_getElem hi
   exact h4 i _ x hz hx G y (g4 i _ y hz hy)
mutual
def frz (H:Nat→Option SR):SV→Option AV
 | .a x=>some x
 | .i n=>some (Iv n)
 | .s l=>some (Sv l)
 | .tt=>some (Bv true)
 | .ff=>some (Bv false)
 | .b c=>some (Bv c)
 | .p q h=>some (Bv (@decide q h))
 | .bx _ _=>none
 | .tp k=>match H k with
  |some (.tip sz _ xs)=>some (.sl sz xs none)
  | _=>none
 | .ag cs=>match frzs H cs with
  |some l=>some (.ag l)
  |none=>none
 | .tu cs=>match frzs H cs with
  |some l=>some (.tu l)
  |none=>none
 | .fn f xs ys=>match frzs H xs,frzs H ys with
  |some a,some b=>some (.fn f a b)
  | _,_=>none
 | .ifc t x=>match frz H x with
  |some y=>some (.ifc t y)
  |none=>none
def frzs (H:Nat→Option SR):List SV→Option (List AV)
 | []=>some []
 |x::r=>match frz H x,frzs H r with
  |some y,some l=>some (y::l)
  | _,_=>none
end
theorem qf5 {x:AV} (h:x.one=true):x.cells=[x]:=by
 cases x <;> first|rfl|simp [AV.one] at h
theorem qpw {b:Nat} {S:List AObj} {sz:Nat} {T:TypeId} {xs:List AV} {c:AV} (h:TipO b S sz T xs c):Wk (tpAt c) (.sl sz xs none)∧c.one=true:=by
 have h1:c.one=true:=by rcases h with (⟨_,rfl⟩ | ⟨t,rfl,_⟩) | ⟨_,o,v,f,rfl⟩ <;> rfl
 refine⟨?_,h1⟩
 unfold tpAt
 rw [h1]
 exact qu4 h
mutual
theorem qe5 {S:List AObj} {ρ : Nat→AV} {H:Nat→Option SR} (hS:SatF S ρ H):∀ (v:SV) (x:AV),frz H v=some x→Wk (v.ev ρ) x
 | .a y,x,h=>by simp only [frz,Option.some.injEq] at h;subst h;exact vh _
 | .i y,x,h=>by simp only [frz,Option.some.injEq] at h;subst h;exact vh _
 | .s y,x,h=>by simp only [frz,Option.some.injEq] at h;subst h;exact vh _
 | .tt,x,h=>by simp only [frz,Option.some.injEq] at h;subst h;exact vh _
 | .ff,x,h=>by simp only [frz,Option.some.injEq] at h;subst h;exact vh _
 | .b y,x,h=>by simp only [frz,Option.some.injEq] at h;subst h;exact vh _
 | .p q d,x,h=>by simp only [frz,Option.some.injEq] at h;subst h;exact vh _
 | .bx _ _,x,h=>by simp [frz] at h
 | .tp k,x,h=>by
  simp only [frz] at h
  split at h
  ·rename_i sz T xs hk
   simp only [Option.some.injEq] at h
   subst h
   exact (qpw (hS.ok k _ hk)).1
  ·simp at h
 | .ag cs,x,h=>by
  simp only [frz] at h
  split at h
  ·rename_i l hl
   simp only [Option.some.injEq] at h
   subst h
   obtain⟨h1,h2⟩:=qb6 hS cs l hl
   exact q0q h1 h2
  ·simp at h
 | .tu cs,x,h=>by
  simp only [frz] at h
  split at h
  ·rename_i l hl
   simp only [Option.some.injEq] at h
   subst h
   obtain⟨h1,h2⟩:=qb6 hS cs l hl
   exact q60 h1 h2
  ·simp at h
 | .fn f xs ys,x,h=>by
  simp only [frz] at h
  split at h
  ·rename_i a b ha hb
   simp only [Option.some.injEq] at h
   subst h
   obtain⟨h1,h2⟩:=qb6 hS xs a ha
   obtain⟨h3,h4⟩:=qb6 hS ys b hb
   exact zby h1 h2 h3 h4
  ·simp at h
 | .ifc t y,x,h=>by
  simp only [frz] at h
  split at h
  ·rename_i z hz
   simp only [Option.some.injEq] at h
   subst h
   exact zbf (qe5 hS y z hz)
  ·simp at h
theorem qb6 {S:List AObj} {ρ : Nat→AV} {H:Nat→Option SR} (hS:SatF S ρ H):∀ (l:List SV) (ys:List AV),frzs H l=some ys→(SV.evs ρ l).length=ys.length∧∀ (i:Nat) (x y:AV),(SV.evs ρ l)[i]? = some x→ys[i]? = some y→Wk x y
 | [],ys,h=>by simp only [frzs,Option.some.injEq] at h;subst h;exact⟨rfl,by simp [SV.evs]⟩
 |v::r,ys,h=>by
  simp only [frzs] at h
  split at h
  ·rename_i y l hy hl
   simp only [Option.some.injEq] at h
   subst h
   obtain⟨h1,h2⟩:=qb6 hS r l hl
   have h3:=qe5 hS v y hy
   refine⟨by simp [SV.evs,h1],fun i a b ha hb=>?_⟩
   cases i with
   |zero=>simp [SV.evs] at ha hb;subst ha;subst hb;exact h3
   |succ i=>exact h2 i a b (by simpa [SV.evs] using ha) (by simpa using hb)
  ·simp at h
end
mutual
def SV.ks:SV→List Nat
 | .bx k _=>[k]
 | .tp k=>[k]
 | .ag cs=>SV.kss cs
 | .tu cs=>SV.kss cs
 | .fn _ xs ys=>SV.kss xs++SV.kss ys
 | .ifc _ x=>SV.ks x
 | _=>[]
def SV.kss:List SV→List Nat
 | []=>[]
 |x::r=>SV.ks x++SV.kss r
end
mutual
def nf:AV→SV
 | .v (.int .i64 n)=>.i n
 | .v (.string ⟨⟨l⟩⟩)=>.s l
 | .v (.bool c)=>.b c
 | .ag cs=>.ag (nfs cs)
 | .tu cs=>.tu (nfs cs)
 |x=>.a x
def nfs:List AV→List SV
 | []=>[]
 |x::r=>nf x::nfs r
end
mutual
theorem qhv (ρ : Nat→AV):∀ x:AV,(nf x).ev ρ = x
 | .v x=>by
  unfold nf
  split <;> first|rfl|(rename_i h;cases h;done)|(rename_i h;cases h;rfl)
 | .ag cs=>by simp only [nf,SV.ev,qdu ρ cs]
 | .tu cs=>by simp only [nf,SV.ev,qdu ρ cs]
 | .ifc _ _=>rfl
 | .fn _ _ _=>rfl
 | .sl _ _ _=>rfl
 | .pp _=>rfl
 | .bx _ _ _=>rfl
 | .os _ _ _ _ _=>rfl
 | .mp _=>rfl
 | .yd _=>rfl
theorem qdu (ρ : Nat→AV):∀ l:List AV,SV.evs ρ (nfs l)=l
 | []=>rfl
 |x::r=>by simp only [nfs,SV.evs,qhv ρ x,qdu ρ r]
end
mutual
theorem zat {f:Nat→Bool}:∀ x:AV,(nf x).all f=true
 | .v x=>by unfold nf;split <;> first|rfl|(rename_i h;cases h)
 | .ag cs=>by simp only [nf,SV.all];exact qke cs
 | .tu cs=>by simp only [nf,SV.all];exact qke cs
 | .ifc _ _=>rfl
 | .fn _ _ _=>rfl
 | .sl _ _ _=>rfl
 | .pp _=>rfl
 | .bx _ _ _=>rfl
 | .os _ _ _ _ _=>rfl
 | .mp _=>rfl
 | .yd _=>rfl
theorem qke {f:Nat→Bool}:∀ l:List AV,SV.alls f (nfs l)=true
 | []=>rfl
 |x::r=>by simp only [nfs,SV.alls,zat x,qke r];rfl
end
def cst:Value→SV
 | .bool true=>.tt
 | .bool false=>.ff
 |x=>nf (.v x)
theorem q96 (ρ : Nat→AV) (x:Value):(cst x).ev ρ = .v x:=by
 unfold cst
 split
 ·rfl
 ·rfl
 ·exact qhv ρ _
def SV.cells:SV→List SV
 | .ag cs=>cs
 | .a x=>nfs x.cells
 |v=>[v]
theorem qlp (ρ : Nat→AV) (v:SV):SV.evs ρ v.cells=(v.ev ρ).cells:=by
 cases v with
 |a x=>exact qdu ρ _
 |bx k off=>simp only [SV.cells,SV.evs,SV.ev];cases ρ k <;> rfl
 |tp k=>simp only [SV.cells,SV.evs,SV.ev,tpAt];cases h:(ρ k).one <;> first|rfl|(simp only [cond_true];exact (qf5 h).symm)
 | _=>rfl
def SV.okc:SV→Bool
 | .a x=>x.okc
 | _=>true
theorem qn7 (ρ : Nat→AV) (v:SV) (h:v.okc=true):(v.ev ρ).okc=true:=by
 cases v with
 |a x=>exact h
 |bx k off=>simp only [SV.ev];cases ρ k <;> rfl
 |tp k=>
  simp only [SV.ev,tpAt]
  cases h:(ρ k).one
  ·rfl
  ·simp only [cond_true]
   cases hk : ρ k with
   |v x=>rw [hk] at h;cases x <;> first|rfl|simp [AV.one] at h
   | _=>rfl
 | _=>rfl
def SV.one:SV→Bool
 | .a x=>x.one
 | .ag _=>false
 | .tu _=>false
 | _=>true
theorem qpq (ρ : Nat→AV) (v:SV) (h:v.one=true):(v.ev ρ).one=true:=by
 cases v with
 |a x=>exact h
 |bx k off=>simp only [SV.ev];cases ρ k <;> rfl
 |tp k=>simp only [SV.ev,tpAt];cases h:(ρ k).one <;> first|rfl|exact h
 |ag _=>simp [SV.one] at h
 |tu _=>simp [SV.one] at h
 | _=>rfl
def ones (l:List SV):Bool:=l.all SV.one
theorem qph (ρ : Nat→AV):∀ l:List SV,ones l=true→∀ z∈SV.evs ρ l,z.one=true
 | [],_,z,hz=>by simp [SV.evs] at hz
 |x::r,h,z,hz=>by
  simp only [ones,List.all_cons,Bool.and_eq_true] at h
  simp only [SV.evs,List.mem_cons] at hz
  rcases hz with rfl|hz
  ·exact qpq ρ x h.1
  ·exact qph ρ r h.2 z hz
def sval (N:Nat) (sl:List (Nat×SV)):Operand→Option SV
 | .tmp i=>bif Nat.blt i N then lkS sl i else none
 | .const x=>some (cst x)
 | .global g=>some (.a (.v (.pointer (some ⟨g,0,none⟩))))
 | .func f=>some (.a (.fn (.func f) [] []))
theorem qo {N:Nat} {sl:List (Nat×SV)} {ρ t:Nat→AV} {S:List AObj} {df:List Nat} (h:SlOk ρ t sl) {x:Operand} {v:SV} (hx:sval N sl x=some v):qf N ⟨t,S,df⟩ x=v.ev ρ:=by
 cases x with
 |tmp i=>
  simp only [sval] at hx
  simp only [qf]
  cases hb:Nat.blt i N with
  |true=>rw [hb] at hx;exact h i v hx
  |false=>rw [hb] at hx;simp at hx
 |const x=>simp only [sval,Option.some.injEq] at hx;subst hx;exact (q96 ρ x).symm
 |global g=>simp only [sval,Option.some.injEq] at hx;subst hx;rfl
 |func f=>simp only [sval,Option.some.injEq] at hx;subst hx;rfl
def qie (N:Nat) (sl:List (Nat×SV)):List Operand→Option (List SV)
 | []=>some []
 |x::r=>match sval N sl x,qie N sl r with
  |some v,some l=>some (v::l)
  | _,_=>none
theorem qif {N:Nat} {sl:List (Nat×SV)} {ρ t:Nat→AV} {S:List AObj} {df:List Nat} (h:SlOk ρ t sl):∀ {xs:List Operand} {l:List SV},qie N sl xs=some l→xs.map (qf N ⟨t,S,df⟩)=SV.evs ρ l
 | [],l,hx=>by simp only [qie,Option.some.injEq] at hx;subst hx;rfl
 |x::r,l,hx=>by
  simp only [qie] at hx
  split at hx
  ·rename_i v l' h1 h2
   simp only [Option.some.injEq] at hx
   subst hx
   simp only [List.map_cons,SV.evs,qo h h1,qif h h2]
  ·simp at hx
section
variable {E : Env} {N : Nat} {ops : Array Oper} {o : Oper} {nx : Nat} {sl : List (Nat × SV)} {H : Nat → Option SR}
theorem we {v:SV} {ks:List Nat} (h:∀ (df:List Nat) (rd:Option Nat) (K:AS→Prop) (rest:List Oper) (ρ t:Nat→AV) (S:List AObj),SlOk ρ t sl→SatF S ρ (resF ks H)→AOps E rd N ops rest K (AS.put ⟨t,S,df⟩ o.dst (v.ev ρ))→AOps E rd N ops (o::rest) K ⟨t,S,df⟩) :
  Loc E N ops o nx sl H ⟨v,ks,[],nx⟩:=fun df rd K rest ρ t S hs hS hk=>
 h df rd K rest ρ t S hs hS (hk ρ S ⟨fun _ _=>rfl,⟨fun k r hk=>hS.ok k r hk,fun k k' r r' hne h1 h2=>hS.sep k k' r r' hne h1 h2⟩,Nat.le_refl _,fun _ _ _=>rfl,fun k r hk o ho=>.inr ⟨k,r,hk,ho⟩⟩)
theorem zm {v:SV} (h:∀ (df:List Nat) (rd:Option Nat) (K:AS→Prop) (rest:List Oper) (ρ t:Nat→AV) (S:List AObj),SlOk ρ t sl→AOps E rd N ops rest K (AS.put ⟨t,S,df⟩ o.dst (v.ev ρ))→AOps E rd N ops (o::rest) K ⟨t,S,df⟩) :
  Loc E N ops o nx sl H ⟨v,[],[],nx⟩:=we fun df rd K rest ρ t S hs _ hk=>h df rd K rest ρ t S hs hk
def upd (ρ : Nat→AV) (n:Nat) (c:AV):Nat→AV:=fun k=>bif Nat.beq k n then c else ρ k
theorem z8 (ρ : Nat→AV) (n:Nat) (c:AV):upd ρ n c n=c:=by simp [upd]
theorem vr (ρ : Nat→AV) {n k:Nat} (c:AV) (h:k≠n):upd ρ n c k = ρ k:=by simp [upd,zp h]
theorem qer {v:SV} {r:SR} {ks:List Nat} (hks:∀ k r,resF ks H k=some r→k≠nx∧r.all (fun k=> !Nat.beq k nx)=true) (h:∀ (df:List Nat) (rd:Option Nat) (K:AS→Prop) (rest:List Oper) (ρ t:Nat→AV) (S:List AObj),SlOk ρ t sl→SatF S ρ (resF ks H) →
   (∀ c l,r.ok (upd ρ nx c) (S++l) c→(∀ o,qy c=some o→S.length≤o)→AOps E rd N ops rest K (AS.put ⟨t,S++l,df⟩ o.dst (v.ev (upd ρ nx c))))→AOps E rd N ops (o::rest) K ⟨t,S,df⟩) :
  Loc E N ops o nx sl H ⟨v,ks,[(nx,some r)],nx+1⟩:=fun df rd K rest ρ t S hs hS hk=>by
 refine h df rd K rest ρ t S hs hS fun c l hc hl=>hk _ _ ⟨fun k hk=>vr _ _ (by simp only at hk;omega),?_,by simp,fun j hj _=>List.getElem?_append_left hj,?_⟩
 ·have key:∀ k r',chF [(nx,some r)] (resF ks H) k=some r'→(k=nx∧r'=r)∨(k≠nx∧resF ks H k=some r'):=fun k r' hk=>by
   simp only [chF,lkS] at hk
   by_cases e:nx=k
   ·subst e
    have:Nat.beq nx nx=true:=by simp
    rw [this] at hk
    simp only [cond_true,Option.some.injEq] at hk
    exact .inl ⟨rfl,hk.symm⟩
   ·rw [zp e] at hk
    exact .inr ⟨fun h=>e h.symm,hk⟩
  refine⟨fun k r' hk=>?_,fun k k' r1 r2 hne h1 h2 o ho=>?_⟩
  ·rcases key k r' hk with⟨rfl,rfl⟩ | ⟨h1,h2⟩
   ·rw [z8];exact hc
   ·rw [vr _ _ h1]
    have h3:=hS.ok k r' h2
    exact SR.ok_of (hks k r' h2).2 (fun k hk=>vr _ _ (fun e=>by subst e;simp at hk)) h3 fun o ho=>List.getElem?_append_left (SR.ok_lt h3 ho)
  ·rcases key k r1 h1 with⟨rfl,rfl⟩ | ⟨g1,g2⟩
   ·rcases key k' r2 h2 with⟨rfl,rfl⟩ | ⟨f1,f2⟩
    ·exact absurd rfl hne
    ·rw [z8] at ho
     rw [vr _ _ f1]
     intro ho'
     have:=SR.ok_lt (hS.ok k' r2 f2) ho'
     have:=hl o ho
     omega
   ·rcases key k' r2 h2 with⟨rfl,rfl⟩ | ⟨f1,f2⟩
    ·rw [vr _ _ g1] at ho
     rw [z8]
     intro ho'
     have:=SR.ok_lt (hS.ok k r1 g2) ho
     have:=hl o ho'
     omega
    ·rw [vr _ _ g1] at ho
     rw [vr _ _ f1]
     exact hS.sep k k' r1 r2 hne g2 f2 o ho
 ·intro k r' hk o ho
  simp only [chF,lkS] at hk
  by_cases e:nx=k
  ·subst e
   rw [z8] at ho
   exact .inl (hl o ho)
  ·rw [zp e] at hk
   rw [vr _ _ (fun h=>e h.symm)] at ho
   exact .inr ⟨k,r',hk,ho⟩
end
end Go.Av
namespace Go.Av
open Go Go.RowKit
section
variable {E : Env} {N : Nat} {ops : Array Oper} {nx : Nat} {sl : List (Nat × SV)} {H : Nat → Option SR} {k : Ef → Prop} {d : Option Tmp} {T : TypeId} {p : String} {af : Array Edge}
def kj (nx:Nat) (v:SV):Ef:=⟨v,[],[],nx⟩
def mvW (nx:Nat) (k:Ef→Prop):Option SV→Prop
 |some v=>k (kj nx v)
 |none=>False
theorem q8r {x:Operand} (h:mvW nx k (sval N sl x)):∃ e,Loc E N ops ⟨d,.move x,T,p,af,none⟩ nx sl H e∧k e:=by
 cases hv:sval N sl x with
 |none=>rw [hv] at h;exact h.elim
 |some v=>rw [hv] at h;exact⟨_,zm fun df rd K rest ρ t S hs hk=>ql (by rw [qo hs hv];exact hk),h⟩
theorem q07 {x:Operand} (h:mvW nx k (sval N sl x)):∃ e,Loc E N ops ⟨d,.assign x,T,p,af,none⟩ nx sl H e∧k e:=by
 cases hv:sval N sl x with
 |none=>rw [hv] at h;exact h.elim
 |some v=>rw [hv] at h;exact⟨_,zm fun df rd K rest ρ t S hs hk=>qk (by rw [qo hs hv];exact hk),h⟩
def wayW (x y:Prop):SV→Prop
 | .tt=>x
 | .ff=>y
 | .p q _=>(q→x)∧(¬ q→y)
 | .b c=>(c=true→x)∧(c=false→y)
 | _=>False
theorem q3y {x y:Prop} {v:SV} (h:wayW x y v):∃ c:Bool,(∀ ρ,v.ev ρ = Bv c)∧((c=true∧x)∨(c=false∧y)):=by
 cases v with
 |tt=>exact⟨true,fun _=>rfl,.inl ⟨rfl,h⟩⟩
 |ff=>exact⟨false,fun _=>rfl,.inr ⟨rfl,h⟩⟩
 |p q i=>
  by_cases hq:q
  ·exact⟨_,fun _=>rfl,.inl ⟨by simp [hq],h.1 hq⟩⟩
  ·exact⟨_,fun _=>rfl,.inr ⟨by simp [hq],h.2 hq⟩⟩
 |b c=>
  cases c with
  |true=>exact⟨true,fun _=>rfl,.inl ⟨rfl,h.1 rfl⟩⟩
  |false=>exact⟨false,fun _=>rfl,.inr ⟨rfl,h.2 rfl⟩⟩
 | _=>exact h.elim
def qz5 (N:Nat) (sl:List (Nat×SV)) (nx:Nat) (k:Ef→Prop) (c x y:Operand):Prop:=
 match sval N sl c with
 |some v=>wayW (mvW nx k (sval N sl x)) (mvW nx k (sval N sl y)) v
 |none=>False
theorem q80 {c x y:Operand} (h:qz5 N sl nx k c x y):∃ e,Loc E N ops ⟨d,.pick c x y,T,p,af,none⟩ nx sl H e∧k e:=by
 unfold qz5 at h
 split at h
 ·rename_i v hv
  obtain⟨b,hb,h⟩:=q3y h
  rcases h with⟨hc,h⟩ | ⟨hc,h⟩
  ·cases hx:sval N sl x with
   |none=>rw [hx] at h;exact h.elim
   |some u=>rw [hx] at h;exact⟨_,zm fun df rd K rest ρ t S hs hk=>qku ((qo hs hv).trans (hb ρ)) hc (by rw [qo hs hx];exact hk),h⟩
  ·cases hx:sval N sl y with
   |none=>rw [hx] at h;exact h.elim
   |some u=>rw [hx] at h;exact⟨_,zm fun df rd K rest ρ t S hs hk=>qkt ((qo hs hv).trans (hb ρ)) hc (by rw [qo hs hx];exact hk),h⟩
 ·exact h.elim
def qsr (P:Program) (nx:Nat) (k:Ef→Prop) (t:TypeId):Prop:=
 match qgc P t with
 |some cs=>k ⟨.bx nx 0,[],[(nx,some (.cells t (nfs cs)))],nx+1⟩
 |none=>False
theorem qax (k:Nat):resF [] H k=none:=rfl
theorem vn (k:Nat):resF [k] H k=H k:=by simp [resF,memN]
theorem q34 {t:TypeId} (h:qsr E.P nx k t):∃ e,Loc E N ops ⟨d,.alloc t,T,p,af,none⟩ nx sl H e∧k e:=by
 unfold qsr at h
 split at h
 ·rename_i cs hz
  refine⟨_,qer (fun k r hk=>by rw [qax] at hk;simp at hk) fun df rd K rest ρ t' S hs _ hk=>qv0 rfl hz ?_,h⟩
  have:=hk (.bx S.length 0 0) [.cells 0 t cs] ⟨S.length,0,rfl,by rw [qdu];exact wl,rfl⟩ (fun o ho=>by simp only [qy,Option.some.injEq] at ho;omega)
  simpa only [SV.ev,z8,bxAt] using this
 ·exact h.elim
theorem qyi {rd:Option Nat} {K:AS→Prop} {rest:List Oper} {s:AS} {t:TypeId} {x:Operand} {r:AV} {cs:List AV} (hx:Wk (qf N s x) r) (hok:r.okc=true) (hc:r.cells=cs)
  (h:AOps E rd N ops rest K (s.put d (.pp cs))):AOps E rd N ops (⟨d,.box t x,T,p,af,none⟩::rest) K s:=by
 refine qs rfl (qq nofun fun B0 w0 G a w _ hI=>?_)
 have hr:=(hx _ _ (hI.eval x)).cells hok
 rw [hc] at hr
 obtain⟨hle,hA⟩:=hI.agree.newPub t (a.eval x).cells (0,0) (a.eval x).cells.toList (fun i y hy=>by simpa using hy)
 have hrun:(execOp a.eval ⟨d,.box t x,T,p,af,none⟩).run E.P w = .ok (.value (.pointer (some ⟨w.heap.size,0,none⟩))) (w.alloc (.cells (a.eval x).cells t)):=by
  generalize a.eval = ρ
  simp [execOp,Instr.box,newVar,newRow,newObj,Sem.run]
 refine⟨_,_,_,.pp cs,s.st,hrun,hle,hA,.pp cs w.heap.size 0 (a.eval x).cells.toList (by simp [Gh.publish]) (by rw [hr.1];simp) fun i x y hx hy=>(hr.2 i x y hx (by simpa using hy)).mono hle,h⟩
def qnr (bxs:List Nat):Option Tmp→Bool
 |some d=>memN bxs d
 |none=>false
def boxW (bxs:List Nat) (H:Nat→Option SR) (nx:Nat) (k:Ef→Prop) (d:Option Tmp) (t:TypeId):Option SV→Prop
 |some v=>bif qnr bxs d then (bif v.okc && v.all (fun k=> !Nat.beq k nx) then k ⟨.bx nx 0,[],[(nx,some (.cells t v.cells))],nx+1⟩ else False)
  else match frz (resF v.ks H) v with
   |some y=>bif y.okc then k ⟨.a (.pp y.cells),v.ks,[],nx⟩ else False
   |none=>False
 |none=>False
theorem q1l {f:Nat→Bool}:∀ v:SV,v.all f=true→SV.alls f v.cells=true
 | .ag cs,h=>h
 | .a x,_=>qke _
 | .i _,_=>rfl
 | .s _,_=>rfl
 | .tt,_=>rfl
 | .ff,_=>rfl
 | .b _,_=>rfl
 | .p _ _,_=>rfl
 | .bx k _,h=>by simpa [SV.cells,SV.alls] using h
 | .tp k,h=>by simpa [SV.cells,SV.alls] using h
 | .tu cs,h=>by simpa [SV.cells,SV.alls] using h
 | .fn _ _ _,h=>by simpa [SV.cells,SV.alls] using h
 | .ifc _ _,h=>by simpa [SV.cells,SV.alls] using h
theorem q93 {bxs:List Nat} {t:TypeId} {x:Operand} (h:boxW bxs H nx k d t (sval N sl x)):∃ e,Loc E N ops ⟨d,.box t x,T,p,af,none⟩ nx sl H e∧k e:=by
 cases hv:sval N sl x with
 |none=>rw [hv] at h;exact h.elim
 |some v=>
  rw [hv] at h
  unfold boxW at h
  cases hb:qnr bxs d with
  |true=>
   rw [hb] at h
   simp only [cond_true] at h
   cases hc:(v.okc && v.all (fun k=> !Nat.beq k nx)) with
   |false=>rw [hc] at h;exact h.elim
   |true=>
    rw [hc] at h
    simp only [Bool.and_eq_true] at hc
    refine⟨_,qer (fun k r hk=>by rw [qax] at hk;simp at hk) fun df rd K rest ρ t' S hs _ hk=>q0z rfl (qo hs hv) (qn7 ρ v hc.1) (qlp ρ v).symm ?_,h⟩
    have he:SV.evs (upd ρ nx (.bx S.length 0 0)) v.cells=SV.evs ρ v.cells:=xb (f:=fun k=> !Nat.beq k nx) (fun k hk=>vr _ _ (fun e=>by subst e;simp at hk)) _ (q1l v hc.2)
    have:=hk (.bx S.length 0 0) [.cells 0 t (SV.evs ρ v.cells)] ⟨S.length,0,rfl,by rw [he];exact wl,rfl⟩ (fun o ho=>by simp only [qy,Option.some.injEq] at ho;omega)
    simpa only [SV.ev,z8,bxAt] using this
  |false=>
   rw [hb] at h
   simp only [cond_false] at h
   split at h
   ·rename_i y hy
    cases hc:y.okc with
    |false=>rw [hc] at h;exact h.elim
    |true=>
     rw [hc] at h
     exact⟨_,we (v:=.a (.pp y.cells)) fun df rd K rest ρ t' S hs hS hk=>qyi (by rw [qo hs hv];exact qe5 hS v y hy) hc rfl hk,h⟩
   ·exact h.elim
def spl {α : Type} (cs:List α) (off:Nat) (xs:List α):List α:=cs.take off++xs++cs.drop (off+xs.length)
theorem q3l (ρ : Nat→AV) (cs xs:List SV) (off:Nat):SV.evs ρ (spl cs off xs)=zh (SV.evs ρ cs) off (SV.evs ρ xs):=by
 simp [spl,zh,jl]
def qni (place:Nat→Option (Nat×Nat)) (cells:List SV):List (Nat×SV)→Option (List SV)
 | []=>some cells
 |(i,x)::rest=>
  match place i with
  |none=>none
  |some (off,size)=>bif x.okc && Nat.beq x.cells.length size && Nat.ble (off+size) cells.length then qni place (spl cells off x.cells) rest else none
theorem qtu (ρ : Nat→AV) (place:Nat→Option (Nat×Nat)):∀ (ps:List (Nat×SV)) (cells cs:List SV),qni place cells ps=some cs→y7 place (SV.evs ρ cells) (ps.map fun q=>(q.1,q.2.ev ρ))=some (SV.evs ρ cs)
 | [],cells,cs,h=>by simp only [qni,Option.some.injEq] at h;subst h;rfl
 |(i,x)::rest,cells,cs,h=>by
  simp only [qni] at h
  simp only [List.map_cons,y7]
  cases hp:place i with
  |none=>rw [hp] at h;simp at h
  |some q=>
   obtain⟨off,size⟩:=q
   rw [hp] at h
   simp only at h ⊢
   cases hb:(x.okc && Nat.beq x.cells.length size && Nat.ble (off+size) cells.length) with
   |false=>rw [hb] at h;simp at h
   |true=>
    rw [hb] at h
    simp only [Bool.and_eq_true] at hb
    have hl:∀ l:List SV,(SV.evs ρ l).length=l.length:=fun l=>by simp [jl]
    rw [qn7 ρ x hb.1.1,← qlp,hl,hl,hb.1.2,hb.2,← q3l]
    exact qtu ρ place rest _ cs h
def qic (N:Nat) (sl:List (Nat×SV)):List (Nat×Operand)→Option (List (Nat×SV))
 | []=>some []
 |(i,x)::r=>match sval N sl x,qic N sl r with
  |some v,some l=>some ((i,v)::l)
  | _,_=>none
theorem qc7 {ρ t:Nat→AV} {S:List AObj} {df:List Nat} (h:SlOk ρ t sl):∀ {xs:List (Nat×Operand)} {l:List (Nat×SV)},qic N sl xs=some l→(xs.map fun x=>(x.1,qf N ⟨t,S,df⟩ x.2))=l.map fun q=>(q.1,q.2.ev ρ)
 | [],l,hx=>by simp only [qic,Option.some.injEq] at hx;subst hx;rfl
 |(i,x)::r,l,hx=>by
  simp only [qic] at hx
  split at hx
  ·rename_i v l' h1 h2
   simp only [Option.some.injEq] at hx
   subst hx
   simp only [List.map_cons,qo h h1,qc7 h h2]
  ·simp at hx
def qta (P:Program) (N:Nat) (sl:List (Nat×SV)) (nx:Nat) (k:Ef→Prop) (t:TypeId) (parts:Array (Nat×Operand)):Prop:=
 match qgc P t,qpj P t,qic N sl parts.toList with
 |some zs,some pl,some ps=>(match qni (pl[·]?) (nfs zs) ps with
  |some cs=>k (kj nx (.ag cs))
  |none=>False)
 | _,_,_=>False
theorem q4i {t:TypeId} {parts:Array (Nat×Operand)} (h:qta E.P N sl nx k t parts):∃ e,Loc E N ops ⟨d,.build t parts,T,p,af,none⟩ nx sl H e∧k e:=by
 unfold qta at h
 split at h
 ·rename_i zs pl ps hz hp hs
  split at h
  ·rename_i cs hf
   refine⟨_,zm (v:=.ag cs) fun df rd K rest ρ t' S ho hk=>qa1 hz hp (cs:=SV.evs ρ cs) ?_ hk,h⟩
   have:=qtu ρ _ _ _ _ hf
   rw [qdu] at this
   unfold j7
   rw [qc7 ho hs]
   exact this
  ·exact h.elim
 ·exact h.elim
def qhu (sz:Nat) (agg:Bool) (off:Nat) (cs:List SV):Option SV:=
 bif agg then (bif Nat.ble (off+sz) cs.length then some (.ag ((cs.drop off).take sz)) else none) else cs[off]?
theorem qlz (ρ : Nat→AV) {sz:Nat} {agg:Bool} {off:Nat} {cs:List SV} {v:SV} (h:qhu sz agg off cs=some v):jp sz agg off (SV.evs ρ cs)=some (v.ev ρ):=by
 unfold qhu at h
 unfold jp
 cases agg with
 |true=>
  simp only [cond_true] at h ⊢
  rw [jl,List.length_map]
  cases hb:Nat.ble (off+sz) cs.length with
  |false=>rw [hb] at h;simp at h
  |true=>
   rw [hb] at h
   simp only [cond_true,Option.some.injEq] at h ⊢
   subst h
   simp [SV.ev,jl]
 |false=>
  simp only [cond_false] at h ⊢
  rw [jl,List.getElem?_map,h]
  rfl
def optW (nx:Nat) (ks:List Nat) (k:Ef→Prop):Option SV→Prop
 |some v=>k ⟨v,ks,[],nx⟩
 |none=>False
def qzr (P:Program) (H:Nat→Option SR) (nx:Nat) (k:Ef→Prop) (t:TypeId):Option SV→Prop
 |some (.bx b off)=>(match H b,tyOf P t with
  |some (.cells _ cs),some (sz,agg)=>optW nx [b] k (qhu sz agg off cs)
  | _,_=>False)
 |some (.a (.pp cs))=>(match tyOf P t with
  |some (sz,agg)=>(match jp sz agg 0 cs with
   |some r=>k (kj nx (nf r))
   |none=>False)
  |none=>False)
 | _=>False
theorem q8m {t:TypeId} {x:Operand} (h:qzr E.P H nx k t (sval N sl x)):∃ e,Loc E N ops ⟨d,.load t x,T,p,af,none⟩ nx sl H e∧k e:=by
 unfold qzr at h
 split at h
 ·rename_i b off hv
  split at h
  ·rename_i T' cs sz agg hH ht
   cases hl:qhu sz agg off cs with
   |none=>rw [hl] at h;exact h.elim
   |some v=>
    rw [hl] at h
    refine⟨_,we fun df rd K rest ρ t' S hs hS hk=>?_,h⟩
    obtain⟨o,ver,h1,h2,h0⟩:=hS.ok b _ ((vn b).trans hH)
    exact ko (o:=o) (ver:=ver) (off:=off) ((qo hs hv).trans (by simp only [SV.ev,h1,bxAt])) h2 ht (qlz ρ hl) hk
  ·exact h.elim
 ·rename_i cs hv
  split at h
  ·rename_i sz agg ht
   split at h
   ·rename_i r hr
    exact⟨_,zm fun df rd K rest ρ t' S hs hk=>j9 (qo hs hv) ht hr (by rw [← qhv ρ r];exact hk),h⟩
   ·exact h.elim
  ·exact h.elim
 ·exact h.elim
def qvi (P:Program) (H:Nat→Option SR) (nx:Nat) (k:Ef→Prop) (t:TypeId):Option SV→Option SV→Prop
 |some (.bx b off),some v=>(match H b,tyOf P t with
  |some (.cells T cs),some (sz,agg)=>bif v.okc && Nat.beq v.cells.length sz && ones v.cells && Nat.ble (off+sz) cs.length then k ⟨.a (.v undef),[b],[(b,some (.cells T (spl cs off v.cells)))],nx⟩ else False
  | _,_=>False)
 | _,_=>False
theorem q59 {t:TypeId} {x y:Operand} (h:qvi E.P H nx k t (sval N sl x) (sval N sl y)):∃ e,Loc E N ops ⟨d,.store t x y,T,p,af,none⟩ nx sl H e∧k e:=by
 unfold qvi at h
 split at h
 ·rename_i b off v hv hy
  split at h
  ·rename_i T' cs sz agg hH ht
   cases hb:(v.okc && Nat.beq v.cells.length sz && ones v.cells && Nat.ble (off+sz) cs.length) with
   |false=>rw [hb] at h;exact h.elim
   |true=>
    rw [hb] at h
    simp only [Bool.and_eq_true] at hb
    refine⟨_,fun df rd K rest ρ t' S hs hS hk=>?_,h⟩
    obtain⟨o,ver,h1,h2,h0⟩:=hS.ok b _ ((vn b).trans hH)
    have hl:∀ l:List SV,(SV.evs ρ l).length=l.length:=fun l=>by simp [jl]
    refine qea (o:=o) (ver:=ver) (off:=off) (xs:=SV.evs ρ v.cells) ((qo hs hv).trans (by simp only [SV.ev,h1,bxAt])) (qo hs hy) h2 ht (qn7 ρ v hb.1.1.1) (qlp ρ v).symm (by rw [hl];exact Nat.eq_of_beq_eq_true hb.1.1.2) (qph ρ _ hb.1.2) (by rw [hl];exact Nat.le_of_ble_eq_true hb.2) ?_
    rw [← q3l]
    have key:∀ k r,chF [(b,some (.cells T' (spl cs off v.cells)))] (resF [b] H) k=some r→k=b∧r = .cells T' (spl cs off v.cells):=fun k r hk=>by
     simp only [chF,lkS] at hk
     by_cases e:b=k
     ·subst e
      have:Nat.beq b b=true:=by simp
      rw [this] at hk
      simp only [cond_true,Option.some.injEq] at hk
      exact⟨rfl,hk.symm⟩
     ·rw [zp e] at hk
      have:=(kh hk).1
      simp only [memN,List.any_cons,List.any_nil,Bool.or_false] at this
      exact absurd (Nat.eq_of_beq_eq_true this).symm e
    refine hk ρ _ ⟨fun _ _=>rfl,⟨fun k r hk=>?_,fun k k' r r' hne g1 g2=>?_⟩,by simp,fun j hj hne=>?_,fun k r hk o' ho'=>?_⟩
    ·obtain⟨rfl,rfl⟩:=key k r hk
     exact⟨o,ver,h1,xc h2,h0⟩
    ·exact absurd ((key k r g1).1.trans (key k' r' g2).1.symm) hne
    ·have:=hne b _ ((vn b).trans hH)
     rw [h1] at this
     exact List.getElem?_set_ne (fun e=>this (by rw [e];rfl))
    ·obtain⟨rfl,rfl⟩:=key k r hk
     exact .inr ⟨k,_,(vn k).trans hH,ho'⟩
  ·exact h.elim
 ·exact h.elim
def quf (nx:Nat) (k:Ef→Prop):Option SV→Prop
 |some (.bx b off)=>k (kj nx (.bx b off))
 |some (.a (.pp cs))=>k (kj nx (.a (.pp cs)))
 | _=>False
theorem q5f {x:Operand} (h:quf nx k (sval N sl x)):∃ e,Loc E N ops ⟨d,.nilCheck x,T,p,af,none⟩ nx sl H e∧k e:=by
 unfold quf at h
 split at h
 ·rename_i b off hv
  exact⟨_,zm fun df rd K rest ρ t' S hs hk=>wc (qo hs hv) (by simp only [SV.ev];cases ρ b <;> rfl) hk,h⟩
 ·rename_i cs hv
  exact⟨_,zm fun df rd K rest ρ t' S hs hk=>wc (qo hs hv) rfl hk,h⟩
 ·exact h.elim
end
end Go.Av
namespace Go.Av
open Go Go.RowKit
def x3:SV→Option (IntKind×Int)
 | .i n=>some (.i64,n)
 | .a (.v (.int k n))=>some (k,n)
 | _=>none
theorem wd {v:SV} {k:IntKind} {n:Int} (h:x3 v=some (k,n)) (ρ : Nat→AV):v.ev ρ = .v (.int k n):=by
 unfold x3 at h
 split at h
 ·simp only [Option.some.injEq,Prod.mk.injEq] at h;obtain⟨rfl,rfl⟩:=h;rfl
 ·simp only [Option.some.injEq,Prod.mk.injEq] at h;obtain⟨rfl,rfl⟩:=h;rfl
 ·simp at h
def cmpW (op:BinOp) (m n:Int) (k:SV→Prop):Prop:=
 match op with
 | .eql=>k (.p (m=n) inferInstance)
 | .neq=>k (.p (¬ m=n) inferInstance)
 | .lss=>k (.p (m<n) inferInstance)
 | .leq=>k (.p (m≤n) inferInstance)
 | .gtr=>k (.p (n<m) inferInstance)
 | .geq=>k (.p (n≤m) inferInstance)
 | _=>False
theorem q7i {op:BinOp} {m n:Int} {k:SV→Prop} (h:cmpW op m n k):∃ v b,cmpI op m n=some b∧(∀ ρ,SV.ev ρ v=Bv b)∧k v:=by
 cases op <;> first|exact h.elim|exact⟨_,_,rfl,fun _=>rfl,h⟩
def rngW (r:Int) (k:SV→Prop):Prop:=(-9223372036854775808≤r∧r≤9223372036854775807)∧k (.i r)
def arW (kd:IntKind) (r:Int) (k:SV→Prop):Prop:=
 match kd with
 | .i64=>rngW r k
 |kd=>k (.a (.v (.int kd (kd.wrap r))))
theorem qm3 {kd:IntKind} {r:Int} {k:SV→Prop} (h:arW kd r k):∃ v,(∀ ρ,SV.ev ρ v = .v (.int kd (kd.wrap r)))∧k v:=by
 cases kd <;> first|exact⟨.i r,fun ρ=>by rw [zy h.1.1 h.1.2];rfl,h.2⟩|exact⟨_,fun _=>rfl,h⟩
def remW (kd:IntKind) (r:Int) (k:SV→Prop):Prop:=
 match kd with
 | .i64=>k (.i r)
 |kd=>k (.a (.v (.int kd r)))
theorem q86 {kd:IntKind} {r:Int} {k:SV→Prop} (h:remW kd r k):∃ v,(∀ ρ,SV.ev ρ v = .v (.int kd r))∧k v:=by
 cases kd <;> exact⟨_,fun _=>rfl,h⟩
def intW (op:BinOp) (kd:IntKind) (m n:Int) (k:SV→Prop):Prop:=
 match op with
 | .add=>arW kd (m+n) k
 | .sub=>arW kd (m - n) k
 | .mul=>arW kd (m * n) k
 | .quo=>n≠0∧arW kd (m.tdiv n) k
 | .rem=>n≠0∧remW kd (m.tmod n) k
 |op=>cmpW op m n k
def strW (op:BinOp) (m n:List UInt8) (k:SV→Prop):Prop:=
 match op with
 | .add=>m.length+n.length<9223372036854775808∧k (.s (m++n))
 | .eql=>k (.p (m=n) inferInstance)
 | .neq=>k (.p (¬ m=n) inferInstance)
 |op=>match cmpS op m n with
  |some b=>k (.b b)
  |none=>False
def qgx:SV→Option Bool
 | .tt=>some true
 | .ff=>some false
 | .b c=>some c
 | .p q h=>some (@decide q h)
 | _=>none
theorem qb3 {v:SV} {b:Bool} (h:qgx v=some b) (ρ : Nat→AV):v.ev ρ = Bv b:=by
 unfold qgx at h
 split at h <;> first|(simp only [Option.some.injEq] at h;subst h;rfl)|simp at h
def nilQ:SV→Option Bool
 | .ifc _ _=>some false
 | .a (.ifc _ _)=>some false
 | .a (.v .nilIface)=>some true
 | _=>none
def nilP:SV→Option Bool
 | .bx _ _=>some false
 | .a (.pp _)=>some false
 | .a (.bx _ _ _)=>some false
 | .a (.v (.pointer none))=>some true
 | _=>none
def tf:Bool→SV
 |true=>.tt
 |false=>.ff
def eqW (op:BinOp) (b:Bool) (k:SV→Prop):Prop:=
 match op with
 | .eql=>k (tf b)
 | .neq=>k (tf (!b))
 | _=>False
def qt6:Option TypeDesc→Bool
 |some (.interface _)=>true
 | _=>false
def qt7:Option TypeDesc→Bool
 |some (.pointer _)=>true
 | _=>false
def binW (P:Program) (op:BinOp) (t:TypeId) (y:Operand) (k:SV→Prop) (vx vy:SV):Prop:=
 match y with
 | .const .nilIface=>(match nilQ vx with
  |some b=>bif qt6 (P.underlying t) then eqW op b k else False
  |none=>False)
 | .const (.pointer none)=>(match nilP vx with
  |some b=>bif qt7 (P.underlying t) then eqW op b k else False
  |none=>False)
 | _=>match x3 vx,x3 vy with
  |some (kd,m),some (kd',n)=>bif decide (kd=kd') then intW op kd m n k else False
  | _,_=>match vx,vy with
   | .s m,.s n=>strW op m n k
   |vx,vy=>match qgx vx,qgx vy,P.underlying t,op with
    |some a,some b,some .bool,.eql=>k (.b (a == b))
    |some a,some b,some .bool,.neq=>k (.b (!(a == b)))
    | _,_,_,_=>False
section
variable {E : Env} {N : Nat} {ops : Array Oper} {nx : Nat} {sl : List (Nat × SV)} {H : Nat → Option SR} {k : Ef → Prop} {d : Option Tmp} {T : TypeId} {p : String} {af : Array Edge}
def Rule (E:Env) (N:Nat) (ops:Array Oper) (o:Oper) (sl:List (Nat×SV)) (v:SV):Prop:=∀ (df:List Nat) (rd:Option Nat) (K:AS→Prop) (rest:List Oper) (ρ t:Nat→AV) (S:List AObj),SlOk ρ t sl→AOps E rd N ops rest K (AS.put ⟨t,S,df⟩ o.dst (v.ev ρ))→AOps E rd N ops (o::rest) K ⟨t,S,df⟩
theorem zak {op:BinOp} {t t':TypeId} {x y:Operand} {vx vy:SV} {kd:IntKind} {m n:Int} {q:SV→Prop} (hx:sval N sl x=some vx) (hy:sval N sl y=some vy) (h1:x3 vx=some (kd,m)) (h2:x3 vy=some (kd,n)) (h:intW op kd m n q) :
  ∃ v,Rule E N ops ⟨d,.binOp op t x y t',T,p,af,none⟩ sl v∧q v:=by
 have e1:∀ {ρ t:Nat→AV} {S:List AObj} {df:List Nat},SlOk ρ t sl→qf N ⟨t,S,df⟩ x = .v (.int kd m):=fun hs=>(qo hs hx).trans (wd h1 _)
 have e2:∀ {ρ t:Nat→AV} {S:List AObj} {df:List Nat},SlOk ρ t sl→qf N ⟨t,S,df⟩ y = .v (.int kd n):=fun hs=>(qo hs hy).trans (wd h2 _)
 have cmp:cmpW op m n q→∃ v,Rule E N ops ⟨d,.binOp op t x y t',T,p,af,none⟩ sl v∧q v:=fun h=>by
  obtain⟨v,b,hb,hv,hq⟩:=q7i h
  exact⟨v,fun df rd K rest ρ t S hs hk=>q7 (e1 hs) (e2 hs) hb (by rw [← hv ρ];exact hk),hq⟩
 cases op with
 |add=>
  obtain⟨v,hv,hq⟩:=qm3 h
  exact⟨v,fun df rd K rest ρ t S hs hk=>jj (e1 hs) (e2 hs) rfl (by rw [← hv ρ];exact hk),hq⟩
 |sub=>
  obtain⟨v,hv,hq⟩:=qm3 h
  exact⟨v,fun df rd K rest ρ t S hs hk=>qcx (e1 hs) (e2 hs) rfl (by rw [← hv ρ];exact hk),hq⟩
 |mul=>
  obtain⟨v,hv,hq⟩:=qm3 h
  exact⟨v,fun df rd K rest ρ t S hs hk=>qlk (e1 hs) (e2 hs) rfl (by rw [← hv ρ];exact hk),hq⟩
 |quo=>
  obtain⟨hn,h⟩:=h
  obtain⟨v,hv,hq⟩:=qm3 h
  exact⟨v,fun df rd K rest ρ t S hs hk=>qsz (e1 hs) (e2 hs) hn rfl (by rw [← hv ρ];exact hk),hq⟩
 |rem=>
  obtain⟨hn,h⟩:=h
  obtain⟨v,hv,hq⟩:=q86 h
  exact⟨v,fun df rd K rest ρ t S hs hk=>q38 (e1 hs) (e2 hs) hn (by rw [← hv ρ];exact hk),hq⟩
 | _=>exact cmp h
theorem zba {op:BinOp} {t t':TypeId} {x y:Operand} {m n:List UInt8} {q:SV→Prop} (hx:sval N sl x=some (.s m)) (hy:sval N sl y=some (.s n)) (h:strW op m n q):∃ v,Rule E N ops ⟨d,.binOp op t x y t',T,p,af,none⟩ sl v∧q v:=by
 have cmp:(match cmpS op m n with|some b=>q (.b b)|none=>False)→∃ v,Rule E N ops ⟨d,.binOp op t x y t',T,p,af,none⟩ sl v∧q v:=fun h=>by
  cases hc:cmpS op m n with
  |none=>rw [hc] at h;exact h.elim
  |some b=>rw [hc] at h;exact⟨.b b,fun df rd K rest ρ t S hs hk=>xa (qo hs hx) (qo hs hy) hc hk,h⟩
 cases op with
 |add=>exact⟨.s (m++n),fun df rd K rest ρ t S hs hk=>qae (qo hs hx) (qo hs hy) h.1 hk,h.2⟩
 |eql=>exact⟨.p (m=n) inferInstance,fun df rd K rest ρ t S hs hk=>xa (b:=decide (m=n)) (qo hs hx) (qo hs hy) rfl hk,h⟩
 |neq=>exact⟨.p (¬ m=n) inferInstance,fun df rd K rest ρ t S hs hk=>xa (b:=decide (¬ m=n)) (qo hs hx) (qo hs hy) rfl hk,h⟩
 | _=>exact cmp h
theorem q6x (ρ : Nat→AV) (b:Bool):(tf b).ev ρ = Bv b:=by cases b <;> rfl
theorem q92 {op:BinOp} {t t':TypeId} {x y:Operand} {vx vy:SV} {q:SV→Prop} (hx:sval N sl x=some vx) (hy:sval N sl y=some vy) (h:binW E.P op t y q vx vy):∃ v,Rule E N ops ⟨d,.binOp op t x y t',T,p,af,none⟩ sl v∧q v:=by
 unfold binW at h
 split at h
 ·split at h
  ·rename_i b hb
   cases hu:qt6 (E.P.underlying t) with
   |false=>rw [hu] at h;exact h.elim
   |true=>
    rw [hu] at h
    have hu':∃ ms,E.P.underlying t=some (.interface ms):=by
     unfold qt6 at hu
     split at hu
     ·rename_i ms he;exact⟨ms,he⟩
     ·simp at hu
    obtain⟨ms,hu'⟩:=hu'
    simp only [cond_true] at h
    have hcase:(∃ (u:TypeId) (z:(Nat→AV)→AV),∀ ρ,vx.ev ρ = .ifc u (z ρ))∧b=false∨(∀ ρ,vx.ev ρ = .v .nilIface)∧b=true:=by
     unfold nilQ at hb
     split at hb <;> simp only [Option.some.injEq,reduceCtorEq] at hb <;> subst hb
     ·rename_i u z;exact .inl ⟨⟨u,fun ρ=>z.ev ρ,fun _=>rfl⟩,rfl⟩
     ·rename_i u z;exact .inl ⟨⟨u,fun _=>z,fun _=>rfl⟩,rfl⟩
     ·exact .inr ⟨fun _=>rfl,rfl⟩
    rcases hcase with⟨⟨u,z,hz⟩,rfl⟩ | ⟨hz,rfl⟩
    ·cases op with
     |eql=>exact⟨.ff,fun df rd K rest ρ t S hs hk=>qab ((qo hs hx).trans (hz ρ)) hu' hk,h⟩
     |neq=>exact⟨.tt,fun df rd K rest ρ t S hs hk=>qbm ((qo hs hx).trans (hz ρ)) hu' hk,h⟩
     | _=>exact h.elim
    ·cases op with
     |eql=>exact⟨.tt,fun df rd K rest ρ t S hs hk=>qd0 ((qo hs hx).trans (hz ρ)) hu' hk,h⟩
     |neq=>exact⟨.ff,fun df rd K rest ρ t S hs hk=>qbn ((qo hs hx).trans (hz ρ)) hu' hk,h⟩
     | _=>exact h.elim
  ·exact h.elim
 ·split at h
  ·rename_i b hb
   cases hu:qt7 (E.P.underlying t) with
   |false=>rw [hu] at h;exact h.elim
   |true=>
    rw [hu] at h
    have hu':∃ ms,E.P.underlying t=some (.pointer ms):=by
     unfold qt7 at hu
     split at hu
     ·rename_i ms he;exact⟨ms,he⟩
     ·simp at hu
    obtain⟨ms,hu'⟩:=hu'
    simp only [cond_true] at h
    have hcase:∀ ρ,yu (vx.ev ρ)=some b:=fun ρ=>by
     unfold nilP at hb
     split at hb <;> simp only [Option.some.injEq,reduceCtorEq] at hb <;> subst hb
     ·rename_i kk off;simp only [SV.ev];cases ρ kk <;> rfl
     ·rfl
     ·rfl
     ·rfl
    cases op with
    |eql=>exact⟨tf b,fun df rd K rest ρ t S hs hk=>x5 (b:=b) rfl (by rw [qo hs hx];exact hcase ρ) hu' (by rw [← q6x ρ];exact hk),h⟩
    |neq=>exact⟨tf (!b),fun df rd K rest ρ t S hs hk=>qip (b:=b) rfl (by rw [qo hs hx];exact hcase ρ) hu' (by rw [← q6x ρ];exact hk),h⟩
    | _=>exact h.elim
  ·exact h.elim
 ·split at h
  ·rename_i kd m kd' n h1 h2
   cases hd:decide (kd=kd') with
   |false=>rw [hd] at h;exact h.elim
   |true=>
    rw [hd] at h
    have:kd=kd':=of_decide_eq_true hd
    subst this
    exact zak hx hy h1 h2 h
  ·split at h
   ·exact zba hx hy h
   ·split at h
    ·rename_i a b h1 h2 h3
     exact⟨.b (a == b),fun df rd K rest ρ t S hs hk=>q36 ((qo hs hx).trans (qb3 h1 ρ)) ((qo hs hy).trans (qb3 h2 ρ)) h3 hk,h⟩
    ·rename_i a b h1 h2 h3
     exact⟨.b (!(a == b)),fun df rd K rest ρ t S hs hk=>q37 ((qo hs hx).trans (qb3 h1 ρ)) ((qo hs hy).trans (qb3 h2 ρ)) h3 hk,h⟩
    ·exact h.elim
def notW (nx:Nat) (k:Ef→Prop):Option SV→Prop
 |some .tt=>k (kj nx .ff)
 |some .ff=>k (kj nx .tt)
 |some (.b c)=>k (kj nx (.b (!c)))
 |some (.p q h)=>k (kj nx (.p (¬ q) (@instDecidableNot q h)))
 | _=>False
theorem zau {t:TypeId} {x:Operand} (h:notW nx k (sval N sl x)):∃ e,Loc E N ops ⟨d,.unOp .not t x,T,p,af,none⟩ nx sl H e∧k e:=by
 unfold notW at h
 split at h
 ·rename_i hv;exact⟨_,zm (v:=.ff) fun df rd K rest ρ t' S hs hk=>wx (m:=true) (qo hs hv) hk,h⟩
 ·rename_i hv;exact⟨_,zm (v:=.tt) fun df rd K rest ρ t' S hs hk=>wx (m:=false) (qo hs hv) hk,h⟩
 ·rename_i c hv;exact⟨_,zm (v:=.b (!c)) fun df rd K rest ρ t' S hs hk=>wx (qo hs hv) hk,h⟩
 ·rename_i q i hv;exact⟨_,zm (v:=.p (¬ q) (@instDecidableNot q i)) fun df rd K rest ρ t' S hs hk=>qmv (q:=q) (qo hs hv) hk,h⟩
 ·exact h.elim
def qy1 (P:Program) (t t':TypeId) (nx:Nat) (k:Ef→Prop):Option SV→Prop
 |some v=>(match x3 v,P.underlying t,P.underlying t' with
  |some (_,m),some _,some (.int kd)=>(match kd with
   | .i64=>(-9223372036854775808≤m∧m≤9223372036854775807)∧k (kj nx (.i m))
   |kd=>k (kj nx (.a (.v (.int kd (kd.wrap m))))))
  | _,_,_=>False)
 |none=>False
theorem q7j {t t':TypeId} {x:Operand} (h:qy1 E.P t t' nx k (sval N sl x)):∃ e,Loc E N ops ⟨d,.convert t t' x,T,p,af,none⟩ nx sl H e∧k e:=by
 unfold qy1 at h
 split at h
 ·rename_i v hv
  split at h
  ·rename_i kk m e kd h1 h2 h3
   have:∃ v,(∀ ρ,SV.ev ρ v = .v (.int kd (kd.wrap m)))∧k (kj nx v):=by
    cases kd <;> first|exact⟨.i m,fun ρ=>by rw [zy h.1.1 h.1.2];rfl,h.2⟩|exact⟨_,fun _=>rfl,h⟩
   obtain⟨u,hu,hk⟩:=this
   exact⟨_,zm fun df rd K rest ρ t' S hs hk=>qmr ((qo hs hv).trans (wd h1 ρ)) h2 h3 rfl (by rw [← hu ρ];exact hk),hk⟩
  ·exact h.elim
 ·exact h.elim
def qub (P:Program) (t:TypeId) (nx:Nat) (k:Ef→Prop):Option SV→Prop
 |some v=>(match P.underlying t with
  |some dsc=>bif qkb dsc then False else k (kj nx (.ifc t v))
  |none=>False)
 |none=>False
theorem q5e {t:TypeId} {x:Operand} (h:qub E.P t nx k (sval N sl x)):∃ e,Loc E N ops ⟨d,.makeInterface t x,T,p,af,none⟩ nx sl H e∧k e:=by
 unfold qub at h
 split at h
 ·rename_i v hv
  split at h
  ·rename_i dsc hd
   cases hi:qkb dsc with
   |true=>rw [hi] at h;exact h.elim
   |false=>rw [hi] at h;exact⟨_,zm fun df rd K rest ρ t' S hs hk=>ku hd hi (by rw [qo hs hv];exact hk),h⟩
  ·exact h.elim
 ·exact h.elim
def qzt (N:Nat) (sl:List (Nat×SV)) (fn:Fn) (xs ys:Array Operand) (nx:Nat) (k:Ef→Prop):Prop:=
 match qie N sl xs.toList,qie N sl ys.toList with
 |some a,some b=>k (kj nx (.fn fn a b))
 | _,_=>False
theorem q8q {fn:Fn} {xs ys:Array Operand} (h:qzt N sl fn xs ys nx k):∃ e,Loc E N ops ⟨d,.makeFunc fn xs ys,T,p,af,none⟩ nx sl H e∧k e:=by
 unfold qzt at h
 split at h
 ·rename_i a b ha hb
  exact⟨_,zm fun df rd K rest ρ t' S hs hk=>qdz (by rw [qif hs ha,qif hs hb];exact hk),h⟩
 ·exact h.elim
def qhh (P:Program) (t:TypeId) (f:Nat) (nx:Nat) (k:Ef→Prop):Option SV→Prop
 |some (.bx b off)=>(match x6 P t f with
  |some (o,sz,_)=>bif Nat.beq sz 0 then False else k (kj nx (.bx b (off+o)))
  |none=>False)
 |some (.a (.pp cs))=>(match x6 P t f with
  |some (o,sz,_)=>bif !Nat.beq sz 0 && Nat.ble o cs.length then k (kj nx (.a (.pp (cs.drop o)))) else False
  |none=>False)
 | _=>False
theorem q4j (x:AV) (off o:Nat):∃ a b,bxAt x off = .bx a b off∧bxAt x (off+o) = .bx a b (off+o):=by
 cases x <;> exact⟨_,_,rfl,rfl⟩
theorem qts {t:TypeId} {f:Nat} {x:Operand} (h:qhh E.P t f nx k (sval N sl x)):∃ e,Loc E N ops ⟨d,.fieldAddr t x f,T,p,af,none⟩ nx sl H e∧k e:=by
 unfold qhh at h
 split at h
 ·rename_i b off hv
  split at h
  ·rename_i o sz agg hf
   cases hz:Nat.beq sz 0 with
   |true=>rw [hz] at h;exact h.elim
   |false=>
    rw [hz] at h
    refine⟨_,zm fun df rd K rest ρ t' S hs hk=>?_,h⟩
    obtain⟨a1,b1,g1,g2⟩:=q4j (ρ b) off o
    exact jg ((qo hs hv).trans g1) hf hz (by rw [← g2];exact hk)
  ·exact h.elim
 ·rename_i cs hv
  split at h
  ·rename_i o sz agg hf
   cases hz:(!Nat.beq sz 0 && Nat.ble o cs.length) with
   |false=>rw [hz] at h;exact h.elim
   |true=>
    rw [hz] at h
    simp only [Bool.and_eq_true,Bool.not_eq_true'] at hz
    exact⟨_,zm (v:=.a (.pp (cs.drop o))) fun df rd K rest ρ t' S hs hk=>xj (qo hs hv) hf hz.1 hz.2 hk,h⟩
  ·exact h.elim
 ·exact h.elim
def qtt (P:Program) (t:TypeId) (f:Nat) (nx:Nat) (k:Ef→Prop):Option SV→Prop
 |some (.ag cs)=>(match x6 P t f with
  |some (o,sz,agg)=>optW nx [] k (qhu sz agg o cs)
  |none=>False)
 |some (.a (.ag cs))=>(match x6 P t f with
  |some (o,sz,agg)=>(match jp sz agg o cs with
   |some r=>k (kj nx (nf r))
   |none=>False)
  |none=>False)
 | _=>False
theorem q4y {t:TypeId} {f:Nat} {x:Operand} (h:qtt E.P t f nx k (sval N sl x)):∃ e,Loc E N ops ⟨d,.field t x f,T,p,af,none⟩ nx sl H e∧k e:=by
 unfold qtt at h
 split at h
 ·rename_i cs hv
  split at h
  ·rename_i o sz agg hf
   cases hl:qhu sz agg o cs with
   |none=>rw [hl] at h;exact h.elim
   |some v=>
    rw [hl] at h
    exact⟨_,zm fun df rd K rest ρ t' S hs hk=>qhc (qo hs hv) hf (qlz ρ hl) hk,h⟩
  ·exact h.elim
 ·rename_i cs hv
  split at h
  ·rename_i o sz agg hf
   split at h
   ·rename_i r hr
    exact⟨_,zm fun df rd K rest ρ t' S hs hk=>qhc (qo hs hv) hf hr (by rw [← qhv ρ r];exact hk),h⟩
   ·exact h.elim
  ·exact h.elim
 ·exact h.elim
def qlr (i:Nat) (nx:Nat) (k:Ef→Prop):Option SV→Prop
 |some (.tu vs)=>optW nx [] k vs[i]?
 |some (.a (.tu vs))=>(match vs[i]? with
  |some r=>k (kj nx (nf r))
  |none=>False)
 | _=>False
theorem qzf {i:Nat} {x:Operand} (h:qlr i nx k (sval N sl x)):∃ e,Loc E N ops ⟨d,.extract x i,T,p,af,none⟩ nx sl H e∧k e:=by
 unfold qlr at h
 split at h
 ·rename_i vs hv
  cases hl:vs[i]? with
  |none=>rw [hl] at h;exact h.elim
  |some v=>
   rw [hl] at h
   exact⟨_,zm fun df rd K rest ρ t' S hs hk=>vl (xs:=SV.evs ρ vs) (qo hs hv) (by rw [jl,List.getElem?_map,hl];rfl) hk,h⟩
 ·rename_i vs hv
  split at h
  ·rename_i r hr
   exact⟨_,zm fun df rd K rest ρ t' S hs hk=>vl (qo hs hv) hr (by rw [← qhv ρ r];exact hk),h⟩
  ·exact h.elim
 ·exact h.elim
def qfw (H:Nat→Option SR) (sz:Nat):SV→Option (List AV×List Nat)
 | .a (.sl z xs _)=>bif Nat.beq z sz then some (xs,[]) else none
 | .a (.v (.slice none 0 0))=>some ([],[])
 | .tp b=>(match H b with
  |some (.tip z _ xs)=>bif Nat.beq z sz then some (xs,[b]) else none
  | _=>none)
 | _=>none
theorem qbu {S:List AObj} {ρ : Nat→AV} {v:SV} {sz:Nat} {xs:List AV} {ks:List Nat} (h:qfw H sz v=some (xs,ks)) (hS:SatF S ρ (resF ks H)):Wk (v.ev ρ) (.sl sz xs none):=by
 unfold qfw at h
 split at h
 ·rename_i z ys tip
  cases hz:Nat.beq z sz with
  |false=>rw [hz] at h;simp at h
  |true=>
   rw [hz] at h
   simp only [cond_true,Option.some.injEq,Prod.mk.injEq] at h
   obtain⟨rfl,rfl⟩:=h
   rw [← Nat.eq_of_beq_eq_true hz]
   exact q6k _ _ _
 ·simp only [Option.some.injEq,Prod.mk.injEq] at h
  obtain⟨rfl,rfl⟩:=h
  exact fun _ _ h=>y0 h
 ·rename_i b
  split at h
  ·rename_i z T' ys hb
   cases hz:Nat.beq z sz with
   |false=>rw [hz] at h;simp at h
   |true=>
    rw [hz] at h
    simp only [cond_true,Option.some.injEq,Prod.mk.injEq] at h
    obtain⟨rfl,rfl⟩:=h
    rw [← Nat.eq_of_beq_eq_true hz]
    exact (qpw (hS.ok b _ ((vn b).trans hb))).1
  ·simp at h
 ·simp at h
end
end Go.Av
namespace Go.Av
open Go Go.RowKit
section
variable {E : Env} {rd : Option Nat} {N : Nat} {ops : Array Oper} {K : AS → Prop} {s : AS} {rest : List Oper} {d : Option Tmp} {T : TypeId} {p : String} {af : Array Edge}
theorem qcj {x:Operand} {t e:TypeId} {lo hi:Option Operand} {sz:Nat} {agg:Bool} {xs:List AV} {i j:Nat} (hx:Wk (qf N s x) (.sl sz xs none)) (hu:E.P.underlying t=some (.slice e)) (ht:tyOf E.P e=some (sz,agg))
  (hlo:match lo with|none=>i=0|some y=>∃ k,qf N s y = .v (.int k (i:Int))) (hhi:match hi with|none=>j=xs.length|some y=>∃ k,qf N s y = .v (.int k (j:Int))) (h1:i≤j) (h2:j≤xs.length)
  (h:AOps E rd N ops rest K (s.put d (.sl sz ((xs.take j).drop i) none))):AOps E rd N ops (⟨d,.slice t x lo hi none,T,p,af,none⟩::rest) K s:=by
 refine qs rfl (qq nofun fun B0 w0 G a w _ hI=>?_)
 have he:=hx _ _ (hI.eval x)
 generalize hv:a.eval x=v at he
 have hsl:∃ b len cap,v = .slice b len cap:=by cases he <;> exact⟨_,_,_,rfl⟩
 obtain⟨b,len,cap,rfl⟩:=hsl
 obtain⟨hl,hlc,hr⟩:=qoh he h1 h2
 refine⟨_,w,G,_,s.st,?_,.refl G,hI.agree,hr,h⟩
 have hrun:=qol hu ht b len cap (lo.map a.eval) (hi.map a.eval) i j w (by
  cases lo with
  |none=>exact hlo
  |some y=>obtain⟨k,hy⟩:=hlo;exact⟨k,hI.evalv hy⟩) (by
  cases hi with
  |none=>simp only at hhi;simp only [Option.map_none];omega
  |some y=>obtain⟨k,hy⟩:=hhi;exact⟨⟨k,hI.evalv hy⟩,by omega⟩) h1
 generalize a.eval = ρ at hv hrun
 simp only [execOp,hv]
 simp [Instr.sliceAt,run_underlying hu,hrun]
theorem qmu {x y:Operand} {t e:TypeId} {sz:Nat} {agg:Bool} {xs:List AV} {k:IntKind} {i:Int} {n:Nat} {z:AV} (hx:Wk (qf N s x) (.sl sz xs none)) (hy:qf N s y = .v (.int k i)) (hu:E.P.underlying t=some (.slice e)) (ht:tyOf E.P e=some (sz,agg)) (hi:i=n) (hz:xs[n]? = some z)
  (h:AOps E rd N ops rest K (s.put d (.pp z.cells))):AOps E rd N ops (⟨d,.indexAddr t x y,T,p,af,none⟩::rest) K s:=by
 refine qs rfl (qq nofun fun B0 w0 G a w _ hI=>?_)
 subst hi
 have he:=hx _ _ (hI.eval x)
 have hey:=hI.evalv hy
 generalize hv:a.eval x=v at he
 have hlt:=lt_of_getElem? hz
 cases he with
 |sl0=>simp at hz
 |sl _ _ _ b off cap pub hp hw hlen hrel htip hcap=>
  have hzs:z.cells.length=sz:=hw z (List.mem_of_getElem? hz)
  have hfl:=zo hw
  have hle:(n+1) * sz≤xs.length * sz:=Nat.mul_le_mul_right _ hlt
  rw [Nat.succ_mul] at hle
  refine⟨.pointer (some ⟨b,off+n * sz,none⟩),w,G,.pp z.cells,s.st,?_,.refl G,hI.agree,?_,h⟩
  ·generalize a.eval = ρ at hv hey
   simp only [execOp,hv,hey]
   simp [Instr.indexAt,asIntOf,run_underlying hu,hlt,(jz ht w).1,Addr.add_lit]
  ·refine .pp _ b _ pub hp (by omega) fun j q r h1 h2=>?_
   have hj:j<sz:=by have:=lt_of_getElem? h1;omega
   have hf:=qhk hw hz j hj
   exact hrel (n * sz+j) q r (by rw [hf];exact h1) (by rw [← h2];congr 1;omega)
theorem qsw {x y:Operand} {t u T':TypeId} {sz bytes:Nat} {xs ys:List AV} {c:AV} (hx:qf N s x=c) (hy:Wk (qf N s y) (.sl sz ys none))
  (ht:E.P.underlying t=some (.slice T')) (hu:E.P.underlying u=some (.slice T')) (hT:wh E.P T' sz bytes) (hc:TipO 0 s.st sz T' xs c) (hone:jq (flat ys)=true) (h63:xs.length+ys.length≤maxLen) (hby:(xs.length+ys.length) * bytes≤140737488355328)
  (h:∀ c' st' t1,TipO 0 st' sz T' (xs++ys) c'→Fr s.st st' t1→(c = .sl sz xs (some t1)∨s.st.length≤t1)→(∀ o,qy c'=some o→o=t1)→AOps E rd N ops rest K (AS.put ⟨s.t,st',s.df⟩ d c')):AOps E rd N ops (⟨d,.call ⟨.builtin .append,#[x,y],#[t,u]⟩,T,p,af,none⟩::rest) K s:=by
 refine qs rfl (qq nofun fun B0 w0 G a w _ hI=>?_)
 have hyr:Rel G (.sl sz ys none) (a.eval y):=hy _ _ (hI.eval y)
 rcases hc with (⟨hxs,hcn⟩ | ⟨t1,h1,h2,h3⟩) | ⟨hxs,o,ver,f,hco⟩
 ·subst hxs
  have hle:=G.le_new 0 0 0 false
  have hA:=hI.agree.newTip sz T'
  have hv:a.eval x = .slice none 0 0:=hI.evalv (hx.trans hcn)
  have hn:=hI.agree.n
  obtain⟨news,k1,k2,k3⟩:=xd (P:=E.P) hA (hyr.mono hle) (by simpa [jq] using hone)
  have hr:Rel (G.new 0 0 0 false) (.sl sz [] (some s.st.length)) (a.eval x):=by
   rw [hv]
   exact .sl0 sz _ none 0 fun t ht=>by simp only [Option.some.injEq] at ht;subst ht;exact⟨by simp [Gh.new,hn],rfl,rfl⟩
  obtain⟨v',w',G',e1,e2,e3,e4⟩:=yq (ty:=T) hA ht hu (.inr ⟨_,rfl⟩) hT (t:=s.st.length) (n:=0) (by simp) hr rfl rfl k1 k2 k3 (by simpa using h63) (by simpa using hby)
  refine⟨v',w',G',_,_,?_,hle.trans e2,e3,e4,h _ _ s.st.length (.inl (.inr ⟨s.st.length,rfl,?_,Nat.zero_le _⟩)) ⟨by simp,fun k hk hlt=>?_⟩ (.inr (Nat.le_refl _)) (fun o ho=>by simp only [qy,Option.some.injEq] at ho;exact ho.symm)⟩
  ·generalize a.eval = ρ at e1
   simp [execOp,resolve,invoke,builtin,e1]
  ·simp
  ·rw [List.getElem?_set_ne (Ne.symm hk),List.getElem?_append_left hlt]
 ·obtain⟨news,k1,k2,k3⟩:=xd (P:=E.P) hI.agree hyr (by simpa [jq] using hone)
  obtain⟨v',w',G',e1,e2,e3,e4⟩:=yq (ty:=T) hI.agree ht hu (.inr ⟨_,rfl⟩) hT h2 (hI.eval_of (hx.trans h1)) rfl rfl k1 k2 k3 h63 hby
  refine⟨v',w',G',_,_,?_,e2,e3,e4,h _ _ t1 (.inl (.inr ⟨t1,rfl,?_,Nat.zero_le _⟩)) ⟨by simp,fun k hk hlt=>?_⟩ (.inl h1) (fun o ho=>by simp only [qy,Option.some.injEq] at ho;exact ho.symm)⟩
  ·generalize a.eval = ρ at e1
   simp [execOp,resolve,invoke,builtin,e1]
  ·rw [List.length_append]
   exact jy h2
  ·rw [List.getElem?_set_ne (Ne.symm hk)]
 ·subst hxs
  have he:=hI.eval_of (hx.trans hco)
  obtain⟨news,k1,k2,k3⟩:=xd (P:=E.P) hI.agree hyr (by simpa [jq] using hone)
  have hex:=hT.ex
  obtain⟨i,z,hi,hz,hsz,hbt,hzs⟩:=hex
  generalize hv:a.eval x=v at he
  cases he with
  |os _ _ _ _ blk _ hn hvv hbb=>
   by_cases hm0:ys.length=0
   ·have hy0:ys=[]:=List.eq_nil_of_length_eq_zero hm0
    subst hy0
    have hk1':Src E.P w (a.eval y) 0 i.size []:=by
     have:news=[]:=List.eq_nil_of_length_eq_zero (by simpa using k1.count)
     rw [hsz]
     rw [this] at k1
     exact k1
    refine⟨_,w,G,_,s.st,?_,.refl G,hI.agree,.os o ver f 0 blk 0 hn hvv hbb,h _ s.st s.st.length (.inr ⟨rfl,o,ver,f,rfl⟩) ⟨Nat.le_refl _,fun _ _ _=>rfl⟩ (.inr (Nat.le_refl _)) (fun o ho=>by simp [qy] at ho)⟩
    have:=yv (ty:=T) ht hu (.inr ⟨_,rfl⟩) hi hk1' (some ⟨blk,f,none⟩) 0 0 (Nat.le_refl _)
    generalize a.eval = ρ at hv this
    simp [execOp,resolve,invoke,builtin,hv,this]
   ·have hle:=G.le_new 0 0 0 false
    have hA:=hI.agree.newTip sz T'
    have hz63:0+ys.length≤maxLen:=by simpa using h63
    obtain⟨v',w',G',e1,e2,e3,e4⟩:=qmk (ty:=T) hA ht hu (.inr ⟨_,rfl⟩) hT (t:=s.st.length) (n:=0) (xs:=[]) (by simp) rfl rfl k1 k2 (fun i a b h1 h2=>(k3 i a b h1 h2).mono hle) hz63 (some ⟨blk,f,none⟩) 0 []
     (run_firstCells_some w.drew sz 0 ⟨blk,f,none⟩ 0 0 [] (by simp) (by simp)) (by omega) (by simp) (by simp [flat]) (by simp) (by simp [flat]) (by rw [Nat.zero_add,nextslicecap_zero (by omega)];have:=hby;simp at this;omega) hm0
    refine⟨v',w',G',_,_,?_,hle.trans e2,e3,e4,h _ _ s.st.length (.inl (.inr ⟨s.st.length,rfl,?_,Nat.zero_le _⟩)) ⟨by simp,fun k hk hlt=>?_⟩ (.inr (Nat.le_refl _)) (fun o ho=>by simp only [qy,Option.some.injEq] at ho;exact ho.symm)⟩
    ·generalize a.eval = ρ at e1 hv
     simp [execOp,resolve,invoke,builtin,hv,e1]
    ·simp
    ·rw [List.getElem?_set_ne (Ne.symm hk),List.getElem?_append_left hlt]
theorem qli {t e:TypeId} {len sz:Nat} {agg:Bool} {parts:Array (Nat×Operand)} {zs cs xs:List AV} (ps:List (Nat×AV)) (hpl:(j7 N s parts).length=ps.length) (hps:∀ (i:Nat) (q p:Nat×AV),(j7 N s parts)[i]? = some q→ps[i]? = some p→q.1=p.1∧Wk q.2 p.2)
  (hu:E.P.underlying t=some (.slice e)) (ht:tyOf E.P e=some (sz,agg)) (hz:qbl E.P e len=some zs)
  (hf:y7 (fun i=>some (i * sz,sz)) zs ps=some cs) (hlen:xs.length=len) (hfl:flat xs=cs) (hw:∀ x∈xs,x.cells.length=sz) (hsz:Nat.ble (len * sz) 16777216=true)
  (h:AOps E rd N ops rest K (s.put d (.sl sz xs none))):AOps E rd N ops (⟨d,.buildSlice t len parts,T,p,af,none⟩::rest) K s:=by
 refine qs rfl (qq nofun fun B0 w0 G a w _ hI=>?_)
 have hparts:∀ (i:Nat) (p:Nat×AV) (v:Nat×Value),ps[i]? = some p→(parts.toList.map fun x=>(x.1,a.eval x.2))[i]? = some v→p.1=v.1∧Rel G p.2 v.2:=fun i p v hp hv=>by
  have hi:i<(j7 N s parts).length:=by rw [hpl];exact lt_of_getElem? hp
  have hq:(j7 N s parts)[i]? = some (j7 N s parts)[i]:=List.getElem?_eq_getElem hi
  obtain⟨h1,h2⟩:=hps i _ p hq hp
  obtain⟨h3,h4⟩:=qf7 hI parts i _ v hq hv
  exact⟨h1.symm.trans h3,h2 _ _ h4⟩
 have hsizeOf:=(jz ht w).1
 have hsz:=Nat.le_of_ble_eq_true hsz
 have hrunE:∃ c':Array Value,(execOp a.eval ⟨d,.buildSlice t len parts,T,p,af,none⟩).run E.P w = .ok (.value (.slice (some ⟨w.heap.size,0,none⟩) len len)) (w.alloc (.cells c' e))∧RelC G cs c':=by
  unfold qbl at hz
  cases hi:E.P.info? e with
  |none=>rw [hi] at hz;simp at hz
  |some i=>
   rw [hi] at hz
   simp only at hz
   have hs:i.size=sz:=by simpa [sizeOf,typeInfo,hi] using hsizeOf
   rw [hs] at hz
   have key:∃ c0:Array Value,RelC G zs c0∧∀ (Q:Array Value→Sem Value),((do
     let zero ← if len * sz=0 then pure #[] else do pure (← zeroValue e).cells
     Q ((Array.range (len * sz)).map (zero[· % zero.size]!)):Sem Value)).run E.P w=(Q c0).run E.P w:=by
    by_cases h0:len * sz=0
    ·rw [h0] at hz
     simp at hz
     subst hz
     exact⟨#[],⟨rfl,by simp⟩,fun Q=>by have e:Array.range 0 = #[]:=(by simp [Array.range]);simp [h0,e]⟩
    ·have:Nat.beq (len * sz) 0=false:=zp h0
     rw [this] at hz
     simp only [cond_false] at hz
     cases hzr:i.zero with
     |none=>rw [hzr] at hz;simp at hz
     |some z=>
      rw [hzr] at hz
      simp only [Option.map_some,Option.some.injEq] at hz
      subst hz
      refine⟨(Array.range (len * sz)).map (z.cells[· % z.cells.size]!),⟨by simp,fun k x y h1 h2=>?_⟩,fun Q=>by simp [h0,zeroValue,typeInfo,hi,hzr]⟩
      have hk:k<len * sz:=by have:=lt_of_getElem? h1;simpa using this
      simp [hk] at h1 h2
      subst h1;subst h2
      exact .v _
   obtain⟨c0,hc0,hrun0⟩:=key
   obtain⟨c',h1,h2⟩:=qe1 (fun i=>some (i * sz,sz)) ps (parts.toList.map fun x=>(x.1,a.eval x.2)) zs c0 cs (by rw [← hpl];simp [j7]) hparts hc0 hf
   refine⟨c',?_,h2⟩
   generalize a.eval = ρ at h1
   have hb:¬ 16777216<len * sz:=by omega
   have hg:∃ m:String,(execOp ρ ⟨d,.buildSlice t len parts,T,p,af,none⟩).run E.P w=(((do
    let zero ← if len * sz=0 then pure #[] else do pure (← zeroValue e).cells
    (fun c=>(do
    let some cells:=Instr.fill (fun i=>some (i * sz,sz)) c (parts.map fun x=>(x.1,ρ x.2)).toList|stuck m
    pure (Value.slice (some (← newRow e cells)) len len):Sem Value)) ((Array.range (len * sz)).map (zero[· % zero.size]!)):Sem Value)).run E.P w).andThen fun v w'=>.ok (.value v) w':=by
    apply Exists.intro
    simp only [execOp,Instr.buildSlice]
    simp [run_underlying hu,hsizeOf,hb]
    rfl
   obtain⟨m,hg⟩:=hg
   have hQ:=hrun0 (fun c=>do
    let some cells:=Instr.fill (fun i=>some (i * sz,sz)) c (parts.map fun x=>(x.1,ρ x.2)).toList|stuck m
    pure (.slice (some (← newRow e cells)) len len))
   rw [hg,hQ]
   simp [h1,newRow,newObj,Sem.run]
 obtain⟨c',hrun,h2⟩:=hrunE
 obtain⟨hle,hA⟩:=hI.agree.newPub e c' (0,0) c'.toList (fun i y hy=>by simpa using hy)
 refine⟨.slice (some ⟨w.heap.size,0,none⟩) len len,w.alloc (.cells c' e),_,.sl sz xs none,s.st,hrun,hle,hA,?_,h⟩
 rw [← hlen]
 cases xs with
 |nil=>exact .sl0 sz none _ _ (by simp)
 |cons x0 xr=>
  refine .sl sz _ none w.heap.size 0 _ c'.toList (by simp [Gh.publish]) hw (by rw [hfl,h2.1];simp) (fun k x y g1 g2=>?_) (fun t ht=>by simp at ht) (Nat.le_refl _)
  rw [hfl] at g1
  exact (h2.2 k x y g1 (by simpa using g2)).mono hle
end
def zq {α : Type}:Nat→List α→List (Nat×α)
 | _,[]=>[]
 |i,x::r=>(i,x)::zq (i+1) r
theorem qhi {sz:Nat}:∀ (ys:List AV) (k:Nat) (done zs:List AV),(∀ y∈ys,y.okc=true∧y.cells.length=sz)→done.length=k * sz→zs.length=ys.length * sz →
  y7 (fun i=>some (i * sz,sz)) (done++zs) (zq k ys)=some (done++flat ys)
 | [],k,done,zs,_,_,hz=>by
  have:zs=[]:=List.eq_nil_of_length_eq_zero (by simpa using hz)
  subst this
  rfl
 |y::r,k,done,zs,hy,hd,hz=>by
  obtain⟨h1,h2⟩:=hy y (by simp)
  simp only [List.length_cons,Nat.succ_mul] at hz
  simp only [zq,y7,h1,h2]
  have hb:Nat.beq sz sz=true:=by simp
  have hl:Nat.ble (k * sz+sz) (done++zs).length=true:=Nat.ble_eq_true_of_le (by simp;omega)
  rw [hb,hl]
  have e:zh (done++zs) (k * sz) y.cells=(done++y.cells)++zs.drop sz:=by
   unfold zh
   rw [← hd,List.take_left,h2,List.drop_append]
   simp
  simp only [Bool.and_self,cond_true]
  rw [e,qhi r (k+1) (done++y.cells) (zs.drop sz) (fun y' hy'=>hy y' (by simp [hy'])) (by simp [hd,h2,Nat.succ_mul]) (by simp;omega)]
  simp [flat]
def qg1 (P:Program):Nat→TypeId→List (Option Nat)
 | 0,_=>[none]
 |n+1,t=>match P.underlying t with
  |some (.struct fs)=>fs.toList.flatMap fun f=>qg1 P n f.type
  |some (.slice e)=>(match tyOf P e with
   |some (sz,_)=>[some sz]
   |none=>[none])
  | _=>[none]
def nrm1:Option Nat→AV→AV
 |some sz,.v (.slice none 0 0)=>.sl sz [] none
 | _,x=>x
def nrmL:List (Option Nat)→List AV→List AV
 |k::r,x::s=>nrm1 k x::nrmL r s
 | _,l=>l
def nrmT (P:Program) (t:TypeId) (x:AV):AV:=
 match x with
 | .ag cs=>.ag (nrmL (qg1 P 4 t) cs)
 | .v (.slice none 0 0)=>(match qg1 P 1 t with
  | [k]=>nrm1 k (.v (.slice none 0 0))
  | _=>.v (.slice none 0 0))
 |x=>x
def zipT (P:Program):List TypeId→List AV→List AV
 |t::r,x::s=>nrmT P t x::zipT P r s
 | _,l=>l
theorem qyc (k:Option Nat) (x:AV):Wk x (nrm1 k x):=by
 unfold nrm1
 split
 ·exact fun _ _ h=>y0 h
 ·exact vh _
theorem qxx:∀ (ks:List (Option Nat)) (l:List AV),l.length=(nrmL ks l).length∧∀ (i:Nat) (x y:AV),l[i]? = some x→(nrmL ks l)[i]? = some y→Wk x y
 | [],l=>⟨by simp [nrmL],fun i x y hx hy=>by simp only [nrmL] at hy;rw [hx] at hy;simp only [Option.some.injEq] at hy;subst hy;exact vh _⟩
 |k::r,[]=>⟨by simp [nrmL],fun i x y hx=>by simp at hx⟩
 |k::r,z::s=>by
  obtain⟨h1,h2⟩:=qxx r s
  refine⟨by simp [nrmL,h1],fun i x y hx hy=>?_⟩
  simp only [nrmL] at hy
  cases i with
  |zero=>simp at hx hy;subst hx;subst hy;exact qyc k _
  |succ i=>exact h2 i x y (by simpa using hx) (by simpa using hy)
theorem q9t (P:Program) (t:TypeId) (x:AV):Wk x (nrmT P t x):=by
 unfold nrmT
 split
 ·obtain⟨h1,h2⟩:=qxx (qg1 P 4 t) (by assumption)
  exact q0q h1 h2
 ·split
  ·exact qyc _ _
  ·exact vh _
 ·exact vh _
theorem qyh (P:Program):∀ (ts:List TypeId) (l:List AV),l.length=(zipT P ts l).length∧∀ (i:Nat) (x y:AV),l[i]? = some x→(zipT P ts l)[i]? = some y→Wk x y
 | [],l=>⟨by simp [zipT],fun i x y hx hy=>by simp only [zipT] at hy;rw [hx] at hy;simp only [Option.some.injEq] at hy;subst hy;exact vh _⟩
 |t::r,[]=>⟨by simp [zipT],fun i x y hx=>by simp at hx⟩
 |t::r,z::s=>by
  obtain⟨h1,h2⟩:=qyh P r s
  refine⟨by simp [zipT,h1],fun i x y hx hy=>?_⟩
  simp only [zipT] at hy
  cases i with
  |zero=>simp at hx hy;subst hx;subst hy;exact q9t P t _
  |succ i=>exact h2 i x y (by simpa using hx) (by simpa using hy)
def qns:AV→Bool
 | .v (.slice none 0 0)=>true
 | _=>false
theorem qqy {x:AV} (h:qns x=true):x=zv:=by
 unfold qns at h
 split at h
 ·rfl
 ·simp at h
def fcN (n:Nat) (k:Nat→Prop):Prop:=
 bif Nat.beq n 1 then k 1 else bif Nat.beq n 2 then k 2 else bif Nat.beq n 3 then k 3 else bif Nat.beq n 4 then k 4 else bif Nat.beq n 5 then k 5 else k n
theorem qi7 (n:Nat) (k:Nat→Prop):fcN n k=k n:=by
 unfold fcN
 by_cases h1:n=1
 ·subst h1;rfl
 rw [zp h1]
 by_cases h2:n=2
 ·subst h2;rfl
 rw [zp h2]
 by_cases h3:n=3
 ·subst h3;rfl
 rw [zp h3]
 by_cases h4:n=4
 ·subst h4;rfl
 rw [zp h4]
 by_cases h5:n=5
 ·subst h5;rfl
 rw [zp h5]
 rfl
def qn6:List (Option Nat)→List AV→(List AV→Prop)→Prop
 |c::r,x::s,k=>(match qns x,c with
  |true,some sz=>fcN sz fun sz=>qn6 r s fun l=>k (.sl sz [] none::l)
  | _,_=>qn6 r s fun l=>k (x::l))
 | _,l,k=>k l
def qzv:List AV→Bool
 | []=>false
 |x::r=>qns x ||qzv r
def nrmK (P:Program) (t:TypeId) (x:AV) (k:AV→Prop):Prop:=
 match qzv x.cells with
 |false=>k x
 |true=>(match x with
  | .ag cs=>qn6 (qg1 P 4 t) cs fun l=>k (.ag l)
  |x=>(match qg1 P 1 t with
   | [some sz]=>fcN sz fun sz=>k (.sl sz [] none)
   | _=>k x))
def WkL (l m:List AV):Prop:=l.length=m.length∧∀ (i:Nat) (x y:AV),l[i]? = some x→m[i]? = some y→Wk x y
theorem qkp:WkL [] []:=⟨rfl,fun i x y h=>by simp at h⟩
theorem qfk {x y:AV} {l m:List AV} (h:Wk x y) (hl:WkL l m):WkL (x::l) (y::m):=⟨by simp [hl.1],fun i a b ha hb=>by
 cases i with
 |zero=>simp at ha hb;subst ha;subst hb;exact h
 |succ i=>exact hl.2 i a b (by simpa using ha) (by simpa using hb)⟩
theorem qmi:∀ l:List AV,WkL l l
 | []=>qkp
 |x::r=>qfk (vh x) (qmi r)
theorem ql6:∀ (cs:List (Option Nat)) (l:List AV) (k:List AV→Prop),qn6 cs l k→∃ m,WkL l m∧k m
 | [],l,k,h=>⟨l,qmi l,by cases l <;> exact h⟩
 |c::r,[],k,h=>⟨[],qkp,h⟩
 |c::r,x::s,k,h=>by
  simp only [qn6] at h
  split at h
  ·rename_i sz hx
   rw [qi7] at h
   obtain⟨m,h1,h2⟩:=ql6 r s _ h
   exact⟨_,qfk (by rw [qqy hx];exact fun _ _ h=>y0 h) h1,h2⟩
  ·obtain⟨m,h1,h2⟩:=ql6 r s _ h
   exact⟨_,qfk (vh x) h1,h2⟩
theorem qpf {P:Program} {t:TypeId} {x:AV} {k:AV→Prop} (h:nrmK P t x k):∃ y,Wk x y∧k y:=by
 unfold nrmK at h
 split at h
 ·exact⟨x,vh x,h⟩
 ·rename_i hn
  split at h
  ·rename_i cs
   obtain⟨m,h1,h2⟩:=ql6 _ _ _ h
   exact⟨_,q0q h1.1 h1.2,h2⟩
  ·rename_i hx
   split at h
   ·rename_i sz _
    rw [qi7] at h
    have:x=zv:=by
     have hc:x.cells=[x]:=by cases x <;> first|rfl|exact absurd rfl (hx _)
     rw [hc] at hn
     simp only [qzv,Bool.or_false] at hn
     exact qqy hn
    exact⟨_,by rw [this];exact fun _ _ h=>y0 h,h⟩
   ·exact⟨x,vh x,h⟩
def qzx (P:Program) (t:TypeId):List AV→(List AV→Prop)→Prop
 | [],k=>k []
 |x::r,k=>nrmK P t x fun x=>qzx P t r fun r=>k (x::r)
theorem qui {P:Program} {t:TypeId}:∀ {l:List AV} {k:List AV→Prop},qzx P t l k→∃ m,WkL l m∧k m
 | [],k,h=>⟨[],qkp,h⟩
 |x::r,k,h=>by
  obtain⟨y,h1,h2⟩:=qpf h
  obtain⟨m,h3,h4⟩:=qui h2
  exact⟨_,qfk h1 h3,h4⟩
def zipK (P:Program):List TypeId→List AV→(List AV→Prop)→Prop
 |t::r,x::s,k=>nrmK P t x fun x=>zipK P r s fun l=>k (x::l)
 | _,l,k=>k l
theorem qyg {P:Program}:∀ {ts:List TypeId} {l:List AV} {k:List AV→Prop},zipK P ts l k→∃ m,WkL l m∧k m
 | [],l,k,h=>⟨l,qmi l,by cases l <;> exact h⟩
 |t::r,[],k,h=>⟨[],qkp,h⟩
 |t::r,x::s,k,h=>by
  obtain⟨y,h1,h2⟩:=qpf h
  obtain⟨m,h3,h4⟩:=qyg h2
  exact⟨_,qfk h1 h3,h4⟩
def qnd (P:Program) (T:TypeId):Option (Nat×Nat):=
 match P.info? T with
 |some i=>(match i.zero with
  |some z=>bif Nat.beq z.cells.size i.size then some (i.size,i.bytes) else none
  |none=>none)
 |none=>none
theorem qcz {P:Program} {T:TypeId} {sz bytes:Nat} (h:qnd P T=some (sz,bytes)):wh P T sz bytes:=by
 unfold qnd at h
 split at h
 ·rename_i i hi
  split at h
  ·rename_i z hz
   cases hb:Nat.beq z.cells.size i.size with
   |false=>rw [hb] at h;simp at h
   |true=>
    rw [hb] at h
    simp only [cond_true,Option.some.injEq,Prod.mk.injEq] at h
    exact⟨i,z,hi,hz,h.1,h.2,(Nat.eq_of_beq_eq_true hb).trans h.1⟩
  ·simp at h
 ·simp at h
end Go.Av
namespace Go.Av
open Go Go.RowKit
section
variable {E : Env} {N : Nat} {ops : Array Oper} {nx : Nat} {sl : List (Nat × SV)} {H : Nat → Option SR} {k : Ef → Prop} {d : Option Tmp} {T : TypeId} {p : String} {af : Array Edge}
def bndW (v:Option SV) (q:Nat→Prop):Prop:=
 match v with
 |some v=>(match x3 v with
  |some (_,n)=>∃ i:Nat,n=(i:Int)∧q i
  |none=>False)
 |none=>False
theorem qag {x:Operand} {q:Nat→Prop} (h:bndW (sval N sl x) q):∃ (i:Nat) (kd:IntKind),(∀ {ρ t:Nat→AV} {S:List AObj} {df:List Nat},SlOk ρ t sl→qf N ⟨t,S,df⟩ x = .v (.int kd (i:Int)))∧q i:=by
 unfold bndW at h
 split at h
 ·rename_i v hv
  split at h
  ·rename_i kd n hn
   obtain⟨i,rfl,h⟩:=h
   exact⟨i,kd,fun hs=>(qo hs hv).trans (wd hn _),h⟩
  ·exact h.elim
 ·exact h.elim
def qf1:Option TypeDesc→Bool
 |some .string=>true
 | _=>false
theorem qly {u:Option TypeDesc} (h:qf1 u=true):u=some .string:=by
 unfold qf1 at h
 split at h
 ·rfl
 ·simp at h
def elT:Option TypeDesc→Option TypeId
 |some (.slice e)=>some e
 | _=>none
theorem vm {u:Option TypeDesc} {e:TypeId} (h:elT u=some e):u=some (.slice e):=by
 unfold elT at h
 split at h
 ·simp only [Option.some.injEq] at h;subst h;rfl
 ·simp at h
def qvf (P:Program) (N:Nat) (sl:List (Nat×SV)) (H:Nat→Option SR) (nx:Nat) (k:Ef→Prop) (t:TypeId) (x:Operand) (lo hi:Option Operand):Prop:=
 match sval N sl x with
 |some (.s l)=>bif qf1 (P.underlying t) then (match lo,hi with
  |none,none=>k (kj nx (.s l))
  |some y,none=>bndW (sval N sl y) fun i=>i≤l.length∧k (kj nx (.s (l.drop i)))
  |none,some z=>bndW (sval N sl z) fun j=>j≤l.length∧k (kj nx (.s (l.take j)))
  |some y,some z=>bndW (sval N sl y) fun i=>bndW (sval N sl z) fun j=>i≤j∧j≤l.length∧k (kj nx (.s ((l.take j).drop i)))) else False
 |some v=>(match elT (P.underlying t) with
  |some e=>(match tyOf P e with
   |some (sz,_)=>(match qfw H sz v with
    |some (xs,ks)=>(match lo,hi with
     |none,none=>k ⟨.a (.sl sz xs none),ks,[],nx⟩
     |some y,none=>bndW (sval N sl y) fun i=>i≤xs.length∧k ⟨.a (.sl sz (xs.drop i) none),ks,[],nx⟩
     |none,some z=>bndW (sval N sl z) fun j=>j≤xs.length∧k ⟨.a (.sl sz (xs.take j) none),ks,[],nx⟩
     |some y,some z=>bndW (sval N sl y) fun i=>bndW (sval N sl z) fun j=>i≤j∧j≤xs.length∧k ⟨.a (.sl sz ((xs.take j).drop i) none),ks,[],nx⟩)
    |none=>False)
   |none=>False)
  |none=>False)
 |none=>False
theorem q56 {t:TypeId} {x:Operand} {lo hi:Option Operand} (h:qvf E.P N sl H nx k t x lo hi):∃ e,Loc E N ops ⟨d,.slice t x lo hi none,T,p,af,none⟩ nx sl H e∧k e:=by
 unfold qvf at h
 split at h
 ·rename_i l hv
  cases hu:qf1 (E.P.underlying t) with
  |false=>rw [hu] at h;exact h.elim
  |true=>
   rw [hu] at h
   simp only [cond_true] at h
   have hu:=qly hu
   split at h
   ·exact⟨_,zm (v:=.s l) fun df rd K rest ρ t' S hs hk=>qbd (i:=0) (j:=l.length) (qo hs hv) hu rfl rfl (by omega) (by omega) (by omega) (by simpa [SV.ev] using hk),h⟩
   ·obtain⟨i,kd,hi,h1,h⟩:=qag h
    exact⟨_,zm (v:=.s (l.drop i)) fun df rd K rest ρ t' S hs hk=>qp2 (qo hs hv) (hi hs) hu h1 hk,h⟩
   ·obtain⟨j,kd,hj,h1,h⟩:=qag h
    exact⟨_,zm (v:=.s (l.take j)) fun df rd K rest ρ t' S hs hk=>qp4 (qo hs hv) (hj hs) hu h1 hk,h⟩
   ·obtain⟨i,kd,hi,h⟩:=qag h
    obtain⟨j,kd',hj,h1,h2,h⟩:=qag h
    exact⟨_,zm (v:=.s ((l.take j).drop i)) fun df rd K rest ρ t' S hs hk=>qp3 (qo hs hv) (hi hs) (hj hs) hu h1 h2 hk,h⟩
 ·rename_i v hns hv
  split at h
  ·rename_i e he
   have hu:=vm he
   split at h
   ·rename_i sz agg ht
    split at h
    ·rename_i xs ks hel
     split at h
     ·exact⟨_,we (v:=.a (.sl sz xs none)) fun df rd K rest ρ t' S hs hS hk=>qcj (i:=0) (j:=xs.length) (by rw [qo hs hv];exact qbu hel hS) hu ht rfl rfl (by omega) (by omega) (by simpa [SV.ev] using hk),h⟩
     ·obtain⟨i,kd,hi,h1,h⟩:=qag h
      exact⟨_,we (v:=.a (.sl sz (xs.drop i) none)) fun df rd K rest ρ t' S hs hS hk=>qcj (i:=i) (j:=xs.length) (by rw [qo hs hv];exact qbu hel hS) hu ht ⟨kd,hi hs⟩ rfl h1 (by omega) (by simpa [SV.ev] using hk),h⟩
     ·obtain⟨j,kd,hj,h1,h⟩:=qag h
      exact⟨_,we (v:=.a (.sl sz (xs.take j) none)) fun df rd K rest ρ t' S hs hS hk=>qcj (i:=0) (j:=j) (by rw [qo hs hv];exact qbu hel hS) hu ht rfl ⟨kd,hj hs⟩ (by omega) h1 (by simpa [SV.ev] using hk),h⟩
     ·obtain⟨i,kd,hi,h⟩:=qag h
      obtain⟨j,kd',hj,h1,h2,h⟩:=qag h
      exact⟨_,we (v:=.a (.sl sz ((xs.take j).drop i) none)) fun df rd K rest ρ t' S hs hS hk=>qcj (i:=i) (j:=j) (by rw [qo hs hv];exact qbu hel hS) hu ht ⟨kd,hi hs⟩ ⟨kd',hj hs⟩ h1 h2 (by simpa [SV.ev] using hk),h⟩
    ·exact h.elim
   ·exact h.elim
  ·exact h.elim
 ·exact h.elim
def qt4 (P:Program) (N:Nat) (sl:List (Nat×SV)) (nx:Nat) (k:Ef→Prop) (t:TypeId) (x y:Operand):Prop:=
 match sval N sl x with
 |some (.s l)=>bif qf1 (P.underlying t) then bndW (sval N sl y) fun i=>i<l.length∧k (kj nx (.a (Uv (l.getD i 0)))) else False
 | _=>False
theorem q45 {t:TypeId} {x y:Operand} (h:qt4 E.P N sl nx k t x y):∃ e,Loc E N ops ⟨d,.index t x y,T,p,af,none⟩ nx sl H e∧k e:=by
 unfold qt4 at h
 split at h
 ·rename_i l hv
  cases hu:qf1 (E.P.underlying t) with
  |false=>rw [hu] at h;exact h.elim
  |true=>
   rw [hu] at h
   simp only [cond_true] at h
   obtain⟨i,kd,hi,h1,h⟩:=qag h
   exact⟨_,zm (v:=.a (Uv (l.getD i 0))) fun df rd K rest ρ t' S hs hk=>qlj (qo hs hv) (hi hs) (qly hu) h1 hk,h⟩
 ·exact h.elim
def qho (P:Program) (N:Nat) (sl:List (Nat×SV)) (H:Nat→Option SR) (nx:Nat) (k:Ef→Prop) (t:TypeId) (x y:Operand):Prop:=
 match sval N sl x,elT (P.underlying t) with
 |some v,some e=>(match tyOf P e with
  |some (sz,_)=>(match qfw H sz v with
   |some (xs,ks)=>bndW (sval N sl y) fun i=>∃ z,xs[i]? = some z∧k ⟨.a (.pp z.cells),ks,[],nx⟩
   |none=>False)
  |none=>False)
 | _,_=>False
theorem qt3 {t:TypeId} {x y:Operand} (h:qho E.P N sl H nx k t x y):∃ e,Loc E N ops ⟨d,.indexAddr t x y,T,p,af,none⟩ nx sl H e∧k e:=by
 unfold qho at h
 split at h
 ·rename_i v e hv he
  split at h
  ·rename_i sz agg ht
   split at h
   ·rename_i xs ks hel
    obtain⟨i,kd,hi,z,hz,h⟩:=qag h
    exact⟨_,we (v:=.a (.pp z.cells)) fun df rd K rest ρ t' S hs hS hk=>qmu (by rw [qo hs hv];exact qbu hel hS) (hi hs) (vm he) ht rfl hz hk,h⟩
   ·exact h.elim
  ·exact h.elim
 ·exact h.elim
def lenW (P:Program) (H:Nat→Option SR) (nx:Nat) (k:Ef→Prop) (t:TypeId):Option SV→Prop
 |some (.s l)=>bif qf1 (P.underlying t) then k (kj nx (.i l.length)) else False
 |some (.tp b)=>(match H b,elT (P.underlying t) with
  |some (.tip _ _ xs),some _=>k ⟨.i xs.length,[b],[],nx⟩
  |some (.own _ _ xs),some _=>k ⟨.i xs.length,[b],[],nx⟩
  | _,_=>False)
 |some (.a x)=>(match lenA x,elT (P.underlying t) with
  |some n,some _=>k (kj nx (.i n))
  | _,_=>False)
 | _=>False
theorem q3u {b sz:Nat} {T:TypeId} {xs:List AV} {c:AV} {S:List AObj} (h:TipO b S sz T xs c):lenA c=some xs.length:=by
 rcases h with (⟨rfl,rfl⟩ | ⟨t,rfl,_⟩) | ⟨rfl,o,v,f,rfl⟩ <;> rfl
theorem qmf {b sz:Nat} {T:TypeId} {xs:List AV} {c:AV} {S:List AObj} (h:TipO b S sz T xs c):tpAt c=c:=by
 unfold tpAt
 rw [(qpw h).2]
 rfl
theorem q5i {sz:Nat} {T:TypeId} {xs:List AV} {c:AV} {S:List AObj} (h:OwnS S sz T xs c):lenA c=some xs.length:=by
 rcases h with⟨rfl,h⟩ | ⟨_,_,_,_,rfl,_⟩
 ·exact h.len
 ·rfl
theorem qb0 {sz:Nat} {T:TypeId} {xs:List AV} {c:AV} {S:List AObj} (h:OwnS S sz T xs c):tpAt c=c:=by
 rcases h with⟨_,h⟩ | ⟨_,_,_,_,rfl,_⟩
 ·unfold tpAt
  rw [h.one]
  rfl
 ·rfl
theorem zap {t:TypeId} {ts:Array TypeId} {x:Operand} (ht:ts[0]? = some t) (h:lenW E.P H nx k t (sval N sl x)):∃ e,Loc E N ops ⟨d,.call ⟨.builtin .len,#[x],ts⟩,T,p,af,none⟩ nx sl H e∧k e:=by
 unfold lenW at h
 split at h
 ·rename_i l hv
  cases hu:qf1 (E.P.underlying t) with
  |false=>rw [hu] at h;exact h.elim
  |true=>rw [hu] at h;exact⟨_,zm (v:=.i l.length) fun df rd K rest ρ t' S hs hk=>yx (qo hs hv) ht (qly hu) hk,h⟩
 ·rename_i b hv
  split at h
  ·rename_i sz T' xs e hb he
   refine⟨_,we (v:=.i xs.length) fun df rd K rest ρ t' S hs hS hk=>?_,h⟩
   have:=hS.ok b _ ((vn b).trans hb)
   exact jx (v:= ρ b) ((qo hs hv).trans (qmf this)) (q3u this) ht (vm he) hk
  ·rename_i sz T' xs e hb he
   refine⟨_,we (v:=.i xs.length) fun df rd K rest ρ t' S hs hS hk=>?_,h⟩
   have:=hS.ok b _ ((vn b).trans hb)
   exact jx (v:= ρ b) ((qo hs hv).trans (qb0 this)) (q5i this) ht (vm he) hk
  ·exact h.elim
 ·rename_i y hv
  split at h
  ·rename_i n e hn he
   exact⟨_,zm (v:=.i n) fun df rd K rest ρ t' S hs hk=>jx (qo hs hv) hn ht (vm he) hk,h⟩
  ·exact h.elim
 ·exact h.elim
def qjc (H:Nat→Option SR) (sz:Nat) (T:TypeId):SV→Option (List AV×List Nat)
 | .tp b=>(match H b with
  |some (.tip z T' xs)=>bif Nat.beq z sz && Nat.beq T' T then some (xs,[b]) else none
  | _=>none)
 | .a (.v (.slice none 0 0))=>some ([],[])
 | _=>none
theorem q2a {S:List AObj} {ρ : Nat→AV} {v:SV} {sz:Nat} {T:TypeId} {xs:List AV} {ks ks':List Nat} (h:qjc H sz T v=some (xs,ks)) (hS:SatF S ρ (resF (ks++ks') H)):TipO 0 S sz T xs (v.ev ρ)∧∀ o,qy (v.ev ρ)=some o→∃ b,ks=[b]∧qy (ρ b)=some o:=by
 unfold qjc at h
 split at h
 ·rename_i b
  split at h
  ·rename_i z T' ys hb
   cases hz:(Nat.beq z sz && Nat.beq T' T) with
   |false=>rw [hz] at h;simp at h
   |true=>
    rw [hz] at h
    simp only [cond_true,Option.some.injEq,Prod.mk.injEq] at h
    obtain⟨rfl,rfl⟩:=h
    simp only [Bool.and_eq_true] at hz
    have e1:=Nat.eq_of_beq_eq_true hz.1
    have e2:=Nat.eq_of_beq_eq_true hz.2
    subst e1
    subst e2
    have:=hS.ok b _ (by unfold resF;simp [memN];exact hb)
    have e:(SV.tp b).ev ρ = ρ b:=qmf this
    rw [e]
    exact⟨this,fun o ho=>⟨b,rfl,ho⟩⟩
  ·simp at h
 ·simp only [Option.some.injEq,Prod.mk.injEq] at h
  obtain⟨rfl,rfl⟩:=h
  exact⟨.inl (.inl ⟨rfl,rfl⟩),fun o ho=>by simp [SV.ev,qy] at ho⟩
 ·simp at h
theorem qzo {v:SV} {sz:Nat} {T:TypeId} {xs:List AV} {ks:List Nat} (h:qjc H sz T v=some (xs,ks)):∀ b,ks=[b]→∃ z T ys,H b=some (.tip z T ys):=fun b hb=>by
 unfold qjc at h
 split at h
 ·split at h
  ·rename_i b' z T' ys hk
   cases hz:(Nat.beq z sz && Nat.beq T' T) with
   |false=>rw [hz] at h;simp at h
   |true=>
    rw [hz] at h
    simp only [cond_true,Option.some.injEq,Prod.mk.injEq] at h
    rw [hb] at h
    simp only [List.cons.injEq,and_true] at h
    exact⟨z,T',ys,by rw [← h.2];exact hk⟩
  ·simp at h
 ·simp only [Option.some.injEq,Prod.mk.injEq] at h
  rw [hb] at h
  simp at h
 ·simp at h
theorem qqp {v:SV} {sz:Nat} {xs:List AV} {ks:List Nat} (h:qfw H sz v=some (xs,ks)):∀ b,memN ks b=true→∃ z T ys,H b=some (.tip z T ys):=fun b hb=>by
 unfold qfw at h
 split at h
 ·rename_i z ys tip
  cases hz:Nat.beq z sz with
  |false=>rw [hz] at h;simp at h
  |true=>
   rw [hz] at h
   simp only [cond_true,Option.some.injEq,Prod.mk.injEq] at h
   rw [← h.2] at hb
   simp [memN] at hb
 ·simp only [Option.some.injEq,Prod.mk.injEq] at h
  rw [← h.2] at hb
  simp [memN] at hb
 ·rename_i b'
  split at h
  ·rename_i z T' ys hk
   cases hz:Nat.beq z sz with
   |false=>rw [hz] at h;simp at h
   |true=>
    rw [hz] at h
    simp only [cond_true,Option.some.injEq,Prod.mk.injEq] at h
    rw [← h.2] at hb
    simp only [memN,List.any_cons,List.any_nil,Bool.or_false] at hb
    rw [Nat.eq_of_beq_eq_true hb]
    exact⟨z,T',ys,hk⟩
  ·simp at h
 ·simp at h
def appW (P:Program) (H:Nat→Option SR) (nx:Nat) (k:Ef→Prop) (t u:TypeId):Option SV→Option SV→Prop
 |some vx,some vy=>(match elT (P.underlying t),elT (P.underlying u) with
  |some e,some e'=>(match qnd P e with
   |some (sz,bytes)=>(match qjc H sz e vx,qfw H sz vy with
    |some (xs,kx),some (ys,ky)=>bif Nat.beq e e' && Nat.blt 0 bytes && Nat.ble bytes 140737 && (kx++ky).all (fun b=> !Nat.beq b nx) then ((xs.length+ys.length≤1000000000∨(xs.length+ys.length) * bytes≤140737488355328)∧jq (flat ys)=true)∧k ⟨.tp nx,kx++ky,kx.map (fun b=>(b,none))++[(nx,some (.tip sz e (xs++ys)))],nx+1⟩ else False
    | _,_=>False)
   |none=>False)
  | _,_=>False)
 | _,_=>False
theorem q2k (l:List Nat) (k:Nat):lkS (l.map fun b=>(b,(none:Option SR))) k=bif memN l k then some none else none:=by
 induction l with
 |nil=>rfl
 |cons b r ih=>
  simp only [List.map_cons,lkS,memN,List.any_cons] at ih ⊢
  by_cases h:b=k
  ·subst h
   have:Nat.beq b b=true:=by simp
   simp only [this,cond_true,Bool.true_or]
  ·rw [zp h,zp (fun e=>h e.symm),Bool.false_or]
   simp only [cond_false]
   exact ih
theorem qe9 (a b:List Nat) (k:Nat):memN (a++b) k=(memN a k ||memN b k):=by simp [memN]
theorem q9w {t u:TypeId} {x y:Operand} (h:appW E.P H nx k t u (sval N sl x) (sval N sl y)):∃ e,Loc E N ops ⟨d,.call ⟨.builtin .append,#[x,y],#[t,u]⟩,T,p,af,none⟩ nx sl H e∧k e:=by
 unfold appW at h
 split at h
 ·rename_i vx vy hvx hvy
  split at h
  ·rename_i e e' he he'
   split at h
   ·rename_i sz bytes hb
    split at h
    ·rename_i xs kx ys ky hg hel
     cases hc:(Nat.beq e e' && Nat.blt 0 bytes && Nat.ble bytes 140737 && (kx++ky).all (fun b=> !Nat.beq b nx)) with
     |false=>rw [hc] at h;exact h.elim
     |true=>
      rw [hc] at h
      simp only [Bool.and_eq_true] at hc
      have ee:=Nat.eq_of_beq_eq_true hc.1.1.1
      subst ee
      have hbp:=ju hc.1.1.2
      have hbl:=Nat.le_of_ble_eq_true hc.1.2
      have hnx:∀ b∈kx++ky,b≠nx:=fun b hb e=>by
       have:=List.all_eq_true.1 hc.2 b hb
       subst e
       simp at this
      obtain⟨⟨h1,h2⟩,h⟩:=h
      refine⟨_,fun df rd K rest ρ t' S hs hS hk=>?_,h⟩
      simp only at hS hk
      obtain⟨hT,hl⟩:=q2a hg hS
      have hSy:SatF S ρ (resF ky H):=⟨fun k r hk=>hS.ok k r (by have:=kh hk;unfold resF;rw [qe9,this.1,Bool.or_true];exact this.2),fun k k' r r' hne g1 g2=>hS.sep k k' r r' hne (by have:=kh g1;unfold resF;rw [qe9,this.1,Bool.or_true];exact this.2) (by have:=kh g2;unfold resF;rw [qe9,this.1,Bool.or_true];exact this.2)⟩
      have h47:(xs.length+ys.length) * bytes≤140737488355328:=h1.elim (fun h=>Nat.le_trans (Nat.mul_le_mul h hbl) (by omega)) id
      have h63:xs.length+ys.length≤maxLen:=Nat.le_trans (Nat.le_trans (Nat.le_mul_of_pos_right _ hbp) h47) (by decide)
      refine qsw (qo hs hvx) (by rw [qo hs hvy];exact qbu hel hSy) (vm he) (vm he') (qcz hb) hT h2 h63 h47 fun c' S' t1 g1 g2 g3 g4=>?_
      simp only at g2 g3
      have hresE:∀ b,kx=[b]→∃ r,resF (kx++ky) H b=some r:=fun b hb1=>by
       obtain⟨z,T2,ys2,q⟩:=qzo hg b hb1
       refine⟨.tip z T2 ys2,?_⟩
       unfold resF
       rw [hb1]
       simp [memN]
       exact q
      have key:∀ k r,chF (kx.map (fun b=>(b,none))++[(nx,some (.tip sz e (xs++ys)))]) (resF (kx++ky) H) k=some r→(k=nx∧r = .tip sz e (xs++ys))∨(k≠nx∧memN kx k=false∧resF (kx++ky) H k=some r):=fun k r hk=>by
       unfold chF at hk
       rw [qav] at hk
       rw [q2k] at hk
       cases hm:memN kx k with
       |true=>rw [hm] at hk;simp at hk
       |false=>
        rw [hm] at hk
        simp only [cond_false,lkS] at hk
        by_cases hn:nx=k
        ·subst hn
         have:Nat.beq nx nx=true:=by simp
         rw [this] at hk
         simp only [cond_true,Option.some.injEq] at hk
         exact .inl ⟨rfl,hk.symm⟩
        ·rw [zp hn] at hk
         exact .inr ⟨fun e=>hn e.symm,rfl,hk⟩
      have hold:∀ k r,k≠nx→memN kx k=false→resF (kx++ky) H k=some r→∀ o,qy (ρ k)=some o→o≠t1∧o<S.length:=fun k r hne hm hk o ho=>by
       have hlt:=SR.ok_lt (hS.ok k r hk) ho
       refine⟨fun e=>?_,hlt⟩
       subst e
       rcases g3 with g3|g3
       ·obtain⟨b,hb1,hb2⟩:=hl o (by rw [g3];rfl)
        have hbk:b≠k:=fun e=>by subst e;rw [hb1] at hm;simp [memN] at hm
        have hbr:=hresE b hb1
        obtain⟨r',hbr⟩:=hbr
        exact hS.sep b k r' r hbk hbr hk o hb2 ho
       ·omega
      have:=hk (upd ρ nx c') S' ⟨fun k hk=>vr _ _ (by simp only at hk;omega),⟨fun k r hk=>?_,fun k k' r1 r2 hne q1 q2 o ho ho'=>?_⟩,g2.len,fun j hj hne=>?_,fun k r hk o ho=>?_⟩
      ·simpa only [SV.ev,z8,qmf g1] using this
      ·rcases key k r hk with⟨rfl,rfl⟩ | ⟨q1,q2,q3⟩
       ·rw [z8];exact g1
       ·rw [vr _ _ q1]
        have h3:=hS.ok k r q3
        cases r with
        |cells T1 cs=>
         exfalso
         have:=(kh q3)
         have hmy:memN ky k=true:=by
          have h5:=this.1
          rw [qe9,q2,Bool.false_or] at h5
          exact h5
         obtain⟨z,T2,ys2,q⟩:=qqp hel k hmy
         rw [this.2] at q
         simp at q
        |tip z T1 zs=>exact SR.ok_of (f:=fun _=>false) (r:=.tip z T1 zs) (ρ:= ρ) rfl (fun k hk=>by simp at hk) h3 fun o ho=>g2.same o (hold k _ q1 q2 q3 o ho).1 (hold k _ q1 q2 q3 o ho).2
        |own z T1 zs=>exact SR.ok_of (f:=fun _=>false) (r:=.own z T1 zs) (ρ:= ρ) rfl (fun k hk=>by simp at hk) h3 fun o ho=>g2.same o (hold k _ q1 q2 q3 o ho).1 (hold k _ q1 q2 q3 o ho).2
        |obj P1=>exact SR.ok_of (f:=fun _=>false) (r:=.obj P1) (ρ:= ρ) rfl (fun k hk=>by simp at hk) h3 fun o ho=>g2.same o (hold k _ q1 q2 q3 o ho).1 (hold k _ q1 q2 q3 o ho).2
        |rows T1 ys cs=>
         exfalso
         have:=(kh q3)
         have hmy:memN ky k=true:=by
          have h5:=this.1
          rw [qe9,q2,Bool.false_or] at h5
          exact h5
         obtain⟨z,T2,ys2,q⟩:=qqp hel k hmy
         rw [this.2] at q
         simp at q
      ·rcases key k r1 q1 with⟨rfl,rfl⟩ | ⟨f1,f2,f3⟩
       ·rcases key k' r2 q2 with⟨rfl,rfl⟩ | ⟨e1,e2,e3⟩
        ·exact hne rfl
        ·rw [z8] at ho
         rw [vr _ _ e1] at ho'
         exact (hold k' r2 e1 e2 e3 o ho').1 (g4 o ho)
       ·rw [vr _ _ f1] at ho
        rcases key k' r2 q2 with⟨rfl,rfl⟩ | ⟨e1,e2,e3⟩
        ·rw [z8] at ho'
         exact (hold k r1 f1 f2 f3 o ho).1 (g4 o ho')
        ·rw [vr _ _ e1] at ho'
         exact hS.sep k k' r1 r2 hne f3 e3 o ho ho'
      ·refine g2.same j (fun e=>?_) hj
       subst e
       rcases g3 with g3|g3
       ·obtain⟨b,hb1,hb2⟩:=hl j (by rw [g3];rfl)
        obtain⟨r2,hr2⟩:=hresE b hb1
        exact hne b r2 hr2 hb2
       ·omega
      ·rcases key k r hk with⟨rfl,rfl⟩ | ⟨q1,q2,q3⟩
       ·rw [z8] at ho
        have:=g4 o ho
        subst this
        rcases g3 with g3|g3
        ·obtain⟨b,hb1,hb2⟩:=hl o (by rw [g3];rfl)
         obtain⟨r2,hr2⟩:=hresE b hb1
         exact .inr ⟨b,r2,hr2,hb2⟩
        ·exact .inl g3
       ·rw [vr _ _ q1] at ho
        exact .inr ⟨k,r,q3,ho⟩
    ·exact h.elim
   ·exact h.elim
  ·exact h.elim
 ·exact h.elim
end
end Go.Av
namespace Go.Av
open Go Go.RowKit
structure zbg (E:Env) (f:FuncId):Prop where
 run:∀ vs w,(callFunc f vs).run E.P w = .ok (.enter f vs) w
def jo (E:Env) (f:FuncId) (vs:List SV) (nx:Nat) (H:Nat→Option SR) (e:Ef):Prop:=
 ∀ (ρ : Nat→AV) (S:List AObj),SatF S ρ (resF e.ks H)→qn E f (SV.evs ρ vs) S fun r S'=>∃ ρ',r=e.val.ev ρ'∧qd8 ρ S nx H e ρ' S'
def nums:Nat→List (Nat×SV)→Bool
 | _,[]=>true
 |i,(j,_)::r=>Nat.beq j i && nums (i+1) r
section
variable {E : Env} {N : Nat} {ops : Array Oper} {nx : Nat} {sl : List (Nat × SV)} {H : Nat → Option SR} {k : Ef → Prop} {d : Option Tmp} {T : TypeId} {p : String} {af : Array Edge}
theorem qsn {f:FuncId} {xs ys:List AV} {st:List AObj} {R:AV→List AObj→Prop} (hl:xs.length=ys.length) (hw:∀ (i:Nat) (x y:AV),xs[i]? = some x→ys[i]? = some y→Wk x y) (h:qn E f ys st R):qn E f xs st R:=
 ⟨fun B0 w0 G vals w hL hA hR=>h.run B0 w0 G vals w hL hA ⟨by rw [← hl];exact hR.1,fun i a b ha hb=>by
  have hi:=lt_of_getElem? ha
  have hx:xs[i]? = some (xs[i]'(by omega)):=List.getElem?_eq_getElem (by omega)
  exact hw i _ a hx ha G b (hR.2 i _ b hx hb)⟩⟩
def parT (P:Program) (f:FuncId):List TypeId:=match P.funcs[f]? with
 |some fn=>fn.params.toList
 |none=>[]
def qr9 (P:Program) (f:FuncId):Option (List AV)→Option (List AV)
 |some xs=>some (zipT P (parT P f) xs)
 |none=>none
theorem q7l {f:FuncId} {vs:List SV} {args:List AV} {r0:AV} (hc:∀ S,qn E f args S fun r S'=>r=r0∧S'=S) (ha:qr9 E.P f (frzs (resF (SV.kss vs) H) vs)=some args):jo E f vs nx H ⟨nf r0,SV.kss vs,[],nx⟩:=fun ρ S hS=>by
 cases hf:frzs (resF (SV.kss vs) H) vs with
 |none=>rw [hf] at ha;simp [qr9] at ha
 |some xs=>
 rw [hf] at ha
 simp only [qr9,Option.some.injEq] at ha
 obtain⟨h1,h2⟩:=qb6 hS vs xs hf
 obtain⟨h3,h4⟩:=qyh E.P (parT E.P f) xs
 rw [ha] at h3 h4
 refine qsn (h1.trans h3) (fun i x y hx hy=>?_) ((hc S).mono ?_)
 ·have hi:i<xs.length:=by rw [← h1];exact lt_of_getElem? hx
  have hz:xs[i]? = some xs[i]:=List.getElem?_eq_getElem hi
  exact fun G v hv=>h4 i _ y hz hy G v (h2 i x _ hx hz G v hv)
 rintro r S' ⟨rfl,rfl⟩
 exact⟨ρ,(qhv ρ _).symm,fun _ _=>rfl,⟨fun k r hk=>hS.ok k r hk,fun k k' r r' hne h1 h2=>hS.sep k k' r r' hne h1 h2⟩,Nat.le_refl _,fun _ _ _=>rfl,fun k r hk o ho=>.inr ⟨k,r,hk,ho⟩⟩
def fnOf:SV→Option (FuncId×List SV×List SV)
 | .fn (.func f) a b=>some (f,a,b)
 | .a (.fn (.func f) a b)=>some (f,nfs a,nfs b)
 | _=>none
theorem q73 {v:SV} {f:FuncId} {a b:List SV} (h:fnOf v=some (f,a,b)) (ρ : Nat→AV):v.ev ρ = .fn (.func f) (SV.evs ρ a) (SV.evs ρ b):=by
 unfold fnOf at h
 split at h
 ·simp only [Option.some.injEq,Prod.mk.injEq] at h;obtain⟨rfl,rfl,rfl⟩:=h;rfl
 ·simp only [Option.some.injEq,Prod.mk.injEq] at h;obtain⟨rfl,rfl,rfl⟩:=h;simp only [SV.ev,qdu]
 ·simp at h
def qyv (E:Env) (N:Nat) (sl:List (Nat×SV)) (H:Nat→Option SR) (nx:Nat) (k:Ef→Prop) (x:Operand) (xs:Array Operand):Prop:=
 match sval N sl x,qie N sl xs.toList with
 |some v,some vs=>(match fnOf v with
  |some (f,a,b)=>zbg E f∧∃ e,jo E f (a++(vs++b)) nx H e∧k e
  |none=>False)
 | _,_=>False
theorem q7f {x:Operand} {xs:Array Operand} {ts:Array TypeId} (h:qyv E N sl H nx k x xs):∃ e,Loc E N ops ⟨d,.call ⟨.value x,xs,ts⟩,T,p,af,none⟩ nx sl H e∧k e:=by
 unfold qyv at h
 split at h
 ·rename_i v vs hv hvs
  split at h
  ·rename_i f a b hf
   obtain⟨hE,e,hc,h⟩:=h
   refine⟨e,fun df rd K rest ρ t S hs hS hk=>qyj ((qo hs hv).trans (q73 hf ρ)) hE.run ?_,h⟩
   have:=hc ρ S hS
   rw [qif hs hvs]
   have he:SV.evs ρ (a++(vs++b))=SV.evs ρ a++SV.evs ρ vs++SV.evs ρ b:=by simp [jl]
   rw [he] at this
   refine this.mono ?_
   rintro r S' ⟨ρ',rfl,hp⟩
   exact hk ρ' S' hp
  ·exact h.elim
 ·exact h.elim
def bslW (P:Program) (N:Nat) (bxs:List Nat) (d:Option Tmp) (sl:List (Nat×SV)) (H:Nat→Option SR) (nx:Nat) (k:Ef→Prop) (t:TypeId) (len:Nat) (parts:Array (Nat×Operand)):Prop:=
 match elT (P.underlying t) with
 |some e=>(match tyOf P e,qbl P e len,qic N sl parts.toList with
  |some (sz,_),some zs,some ps=>(match len with
   | 0=>(match ps with
    | []=>k ⟨.tp nx,[],[(nx,some (.tip sz e []))],nx+1⟩
    | _=>False)
   |len=>bif qnr bxs d then (bif ps.all (fun q=>q.2.all fun _=>false) && nums 0 ps && Nat.beq ps.length len && (SV.evs (fun _=>zv) (ps.map Prod.snd)).all (fun y=>y.okc && Nat.beq y.cells.length sz) && Nat.beq zs.length (len * sz) && Nat.ble (len * sz) 16777216 && Nat.blt 0 len && Nat.ble len 16777216 then
     k ⟨.tp nx,[],[(nx,some (.tip sz e (SV.evs (fun _=>zv) (ps.map Prod.snd))))],nx+1⟩ else False) else (match frzs (resF (SV.kss (ps.map Prod.snd)) H) (ps.map Prod.snd) with
    |some ys=>qzx P e ys fun ys=>fcN sz fun sz=>bif nums 0 ps && Nat.beq ys.length len && ys.all (fun y=>y.okc && Nat.beq y.cells.length sz) && Nat.beq zs.length (len * sz) && Nat.ble (len * sz) 16777216 then k ⟨.a (.sl sz ys none),SV.kss (ps.map Prod.snd),[],nx⟩ else False
    |none=>False))
  | _,_,_=>False)
 |none=>False
theorem qul:∀ {ps:List (Nat×SV)} {i0:Nat} {ys:List AV},nums i0 ps=true→ps.length=ys.length→∀ (i:Nat) (q:Nat×SV) (r:Nat×AV),ps[i]? = some q→(zq i0 ys)[i]? = some r→q.1=r.1∧(ps.map Prod.snd)[i]? = some q.2∧ys[i]? = some r.2
 | [],_,_,_,_,i,_,_,h,_=>by simp at h
 |(j,v)::ps,i0,[],_,hl,_,_,_,_,_=>by simp at hl
 |(j,v)::ps,i0,y::ys,h,hl,i,q,r,hq,hr=>by
  simp only [nums,Bool.and_eq_true] at h
  simp only [zq] at hr
  cases i with
  |zero=>
   simp only [List.getElem?_cons_zero,Option.some.injEq] at hq hr
   subst hq
   subst hr
   exact⟨Nat.eq_of_beq_eq_true h.1,rfl,rfl⟩
  |succ i=>
   have:=qul h.2 (by simpa using hl) i q r (by simpa using hq) (by simpa using hr)
   simpa using this
theorem qjp {α : Type}:∀ (l:List α) (i:Nat),(zq i l).length=l.length
 | [],_=>rfl
 |x::r,i=>by simp [zq,qjp r]
theorem q28 (t:Nat→AV) (i:Nat) (a b:AV):put (put t i a) i b=put t i b:=by
 funext j
 by_cases h:j=i
 ·subst h;rw [wg,wg]
 ·rw [xx _ _ _ _ h,xx _ _ _ _ h,xx _ _ _ _ h]
theorem qjq:∀ (ps:List (Nat×SV)) (i:Nat),nums i ps=true→(ps.map fun q=>(q.1,q.2.ev fun _=>zv))=zq i (SV.evs (fun _=>zv) (ps.map Prod.snd))
 | [],_,_=>rfl
 |(j,v)::r,i,h=>by
  simp only [nums,Bool.and_eq_true] at h
  simp only [List.map_cons,SV.evs,zq,qjq r (i+1) h.2]
  rw [Nat.eq_of_beq_eq_true h.1]
theorem q94 {bxs:List Nat} {t:TypeId} {len:Nat} {parts:Array (Nat×Operand)} (h:bslW E.P N bxs d sl H nx k t len parts):∃ e,Loc E N ops ⟨d,.buildSlice t len parts,T,p,af,none⟩ nx sl H e∧k e:=by
 unfold bslW at h
 split at h
 ·rename_i e he
  split at h
  ·rename_i sz agg zs ps ht hz hp
   split at h
   ·split at h
    ·refine⟨_,qer (fun k r hk=>by rw [qax] at hk;simp at hk) fun df rd K rest ρ t' S hs _ hk=>?_,h⟩
     have hpa:j7 N ⟨t',S,df⟩ parts=[]:=by unfold j7;rw [qc7 hs hp];rfl
     have hfl:zs=[]:=by
      unfold qbl at hz
      split at hz
      ·simp at hz;exact hz
      ·simp at hz
     subst hfl
     refine xq (loc:=[]) (st:=S) (by simp) (vm he) ht hz (by rw [hpa];rfl) (by simp) ?_
     have:=hk (.os S.length 0 0 0 0) [.cells 0 e []] (.inr ⟨rfl,_,_,_,rfl⟩) (fun o ho=>by simp [qy] at ho)
     simpa [SV.ev,z8,tpAt,AV.one] using this
    ·exact h.elim
   ·rename_i hne
    cases hnew:qnr bxs d with
    |true=>
     rw [hnew] at h
     simp only [cond_true] at h
     cases hc:(ps.all (fun q=>q.2.all fun _=>false) && nums 0 ps && Nat.beq ps.length len && (SV.evs (fun _=>zv) (ps.map Prod.snd)).all (fun y=>y.okc && Nat.beq y.cells.length sz) && Nat.beq zs.length (len * sz) && Nat.ble (len * sz) 16777216 && Nat.blt 0 len && Nat.ble len 16777216) with
     |false=>rw [hc] at h;exact h.elim
     |true=>
      rw [hc] at h
      simp only [Bool.and_eq_true] at hc
      obtain⟨⟨⟨⟨⟨⟨⟨c0,c1⟩,c2⟩,c3⟩,c4⟩,c5⟩,c6⟩,c7⟩:=hc
      have c2:=Nat.eq_of_beq_eq_true c2
      have c4:=Nat.eq_of_beq_eq_true c4
      have hyl:(SV.evs (fun _=>zv) (ps.map Prod.snd)).length=len:=by rw [jl];simpa using c2
      have c3:∀ y∈SV.evs (fun _=>zv) (ps.map Prod.snd),y.okc=true∧y.cells.length=sz:=fun y hy=>by
       have:=List.all_eq_true.1 c3 y hy
       simp only [Bool.and_eq_true] at this
       exact⟨this.1,Nat.eq_of_beq_eq_true this.2⟩
      refine⟨_,qer (fun k r hk=>by rw [qax] at hk;simp at hk) fun df rd K rest ρ t' S hs _ hk=>?_,h⟩
      have hev:(ps.map fun q=>(q.1,q.2.ev ρ))=zq 0 (SV.evs (fun _=>zv) (ps.map Prod.snd)):=by
       rw [← qjq ps 0 c1]
       refine List.map_congr_left fun q hq=>?_
       rw [yl (f:=fun _=>false) (ρ:=fun _=>zv) (ρ':= ρ) (fun k hk=>by simp at hk) q.2 (List.all_eq_true.1 c0 q hq)]
      have hpa:j7 N ⟨t',S,df⟩ parts=zq 0 (SV.evs (fun _=>zv) (ps.map Prod.snd)):=by rw [← hev];unfold j7;exact qc7 hs hp
      have hfill:=qhi (sz:=sz) _ 0 [] zs c3 (by simp) (by rw [c4,hyl])
      have hfl:(flat (SV.evs (fun _=>zv) (ps.map Prod.snd))).length=len * sz:=by rw [zo fun x hx=>(c3 x hx).2,hyl]
      refine xq (loc:=[]) (st:=S) (by simp) (vm he) ht hz (by rw [hpa];simpa using hfill) c5 ?_
      cases d with
      |none=>simp [qnr] at hnew
      |some x=>
       refine qym x (o:=S.length) (sz:=sz) (len:=len) (cap:=len) (T':=e) (xs:=SV.evs (fun _=>zv) (ps.map Prod.snd)) (by simp [AS.put,wg]) (by simp [AS.put]) hfl hyl (ju c6) (Nat.le_refl _) (by have:=Nat.le_of_ble_eq_true c7;simp only [maxLen];omega) (fun x hx=>(c3 x hx).2) (by rw [← hfl,List.take_length]) ?_
       have:=hk (.sl sz (SV.evs (fun _=>zv) (ps.map Prod.snd)) (some S.length)) [.tip len sz e] (.inl (.inr ⟨S.length,rfl,by rw [hyl];exact wl,Nat.zero_le _⟩)) (fun o ho=>by simp only [qy,Option.some.injEq] at ho;omega)
       simp only [SV.ev,z8,tpAt,AV.one,cond_true,AS.put] at this
       simpa [AS.put,q28] using this
    |false=>
    rw [hnew] at h
    simp only [cond_false] at h
    split at h
    ·rename_i ys0 hys
     obtain⟨ys,hyn,h⟩:=qui h
     rw [qi7] at h
     cases hc:(nums 0 ps && Nat.beq ys.length len && ys.all (fun y=>y.okc && Nat.beq y.cells.length sz) && Nat.beq zs.length (len * sz) && Nat.ble (len * sz) 16777216) with
     |false=>rw [hc] at h;exact h.elim
     |true=>
      rw [hc] at h
      simp only [Bool.and_eq_true] at hc
      obtain⟨⟨⟨⟨c1,c2⟩,c3⟩,c4⟩,c5⟩:=hc
      have c2:=Nat.eq_of_beq_eq_true c2
      have c4:=Nat.eq_of_beq_eq_true c4
      have c3:∀ y∈ys,y.okc=true∧y.cells.length=sz:=fun y hy=>by
       have:=List.all_eq_true.1 c3 y hy
       simp only [Bool.and_eq_true] at this
       exact⟨this.1,Nat.eq_of_beq_eq_true this.2⟩
      refine⟨_,we (v:=.a (.sl sz ys none)) fun df rd K rest ρ t' S hs hS hk=>?_,h⟩
      obtain⟨w1,w2⟩:=qb6 hS _ _ hys
      have hlp:ps.length=ys.length:=by rw [← hyn.1,← w1];simp [jl]
      have hpa:j7 N ⟨t',S,df⟩ parts=ps.map fun q=>(q.1,q.2.ev ρ):=by unfold j7;exact qc7 hs hp
      have hfill:=qhi (sz:=sz) ys 0 [] zs c3 (by simp) (by rw [c4,c2])
      refine qli (zq 0 ys) (by rw [hpa,qjp];simpa using hlp) (fun i q r hq hr=>?_) (vm he) ht hz (by simpa using hfill) c2 (by simp) (fun x hx=>(c3 x hx).2) c5 hk
      rw [hpa,List.getElem?_map] at hq
      cases hpi:ps[i]? with
      |none=>rw [hpi] at hq;simp at hq
      |some q'=>
       rw [hpi] at hq
       simp only [Option.map_some,Option.some.injEq] at hq
       subst hq
       obtain⟨g1,g2,g3⟩:=qul c1 hlp i q' r hpi hr
       have hi:i<ys0.length:=by rw [hyn.1];exact lt_of_getElem? g3
       have hy0:ys0[i]? = some ys0[i]:=List.getElem?_eq_getElem hi
       exact⟨g1,fun G v hv=>hyn.2 i _ _ hy0 g3 G v (w2 i _ _ (by rw [jl,List.getElem?_map,g2];rfl) hy0 G v hv)⟩
    ·exact h.elim
  ·exact h.elim
 ·exact h.elim
def mmW (nx:Nat) (k:Ef→Prop) (f:Int→Int→Int):Option SV→Option SV→Prop
 |some a,some b=>(match x3 a,x3 b with
  |some (.i64,m),some (.i64,n)=>k (kj nx (.i (f m n)))
  | _,_=>False)
 | _,_=>False
theorem zas {ts:Array TypeId} {x y:Operand} (h:mmW nx k min (sval N sl x) (sval N sl y)):∃ e,Loc E N ops ⟨d,.call ⟨.builtin .min,#[x,y],ts⟩,T,p,af,none⟩ nx sl H e∧k e:=by
 unfold mmW at h
 split at h
 ·rename_i a b ha hb
  split at h
  ·rename_i m n hm hn
   exact⟨_,zm (v:=.i (min m n)) fun df rd K rest ρ t' S hs hk=>zk (.int .i64 (min m n)) rfl nofun (fun a w he=>by
    have e1:=he _ _ ((qo hs ha).trans (wd hm ρ))
    have e2:=he _ _ ((qo hs hb).trans (wd hn ρ))
    have e:min m n=if n<m then n else m:=by simp only [Int.min_def];split <;> split <;> omega
    simp [execOp,resolve,invoke,builtin,Builtin.min_,Builtin.min2,e1,e2,e]) hk,h⟩
  ·exact h.elim
 ·exact h.elim
theorem zar {ts:Array TypeId} {x y:Operand} (h:mmW nx k max (sval N sl x) (sval N sl y)):∃ e,Loc E N ops ⟨d,.call ⟨.builtin .max,#[x,y],ts⟩,T,p,af,none⟩ nx sl H e∧k e:=by
 unfold mmW at h
 split at h
 ·rename_i a b ha hb
  split at h
  ·rename_i m n hm hn
   exact⟨_,zm (v:=.i (max m n)) fun df rd K rest ρ t' S hs hk=>zk (.int .i64 (max m n)) rfl nofun (fun a w he=>by
    have e1:=he _ _ ((qo hs ha).trans (wd hm ρ))
    have e2:=he _ _ ((qo hs hb).trans (wd hn ρ))
    have e:max m n=if n > m then n else m:=by simp only [Int.max_def];split <;> split <;> omega
    simp [execOp,resolve,invoke,builtin,Builtin.max_,Builtin.max2,e1,e2,e]) hk,h⟩
  ·exact h.elim
 ·exact h.elim
def qsh (H:Nat→Option SR):Option SV→Bool
 |some (.tp b)=>(match H b with
  |some (.own _ _ _)=>true
  |some (.obj _)=>true
  |some (.rows _ _ _)=>true
  | _=>false)
 |some (.bx b _)=>(match H b with
  |some (.own _ _ _)=>true
  |some (.obj _)=>true
  |some (.rows _ _ _)=>true
  | _=>false)
 | _=>false
def zbo (H:Nat→Option SR):Option SV→Bool
 |some (.tp b)=>(match H b with
  |some (.obj _)=>true
  | _=>false)
 | _=>false
def orW (c:Bool) (x y:Prop):Prop:=
 match c with
 |true=>x
 |false=>y
theorem qfc {c:Bool} {x y:Prop} (h:orW c x y) (hy:y→x):x:=by
 cases c with
 |true=>exact h
 |false=>exact hy h
def oddT (u:Option TypeDesc) (y:Operand):Bool:=
 match u with
 |some (.struct _)=>true
 |some (.array _ _)=>true
 |some (.interface _)=>(match y with
  | .const .nilIface=>false
  | _=>true)
 | _=>false
def oddB (P:Program) (op:BinOp) (t:TypeId) (y:Operand):Bool:=
 match op with
 | .and=>true
 | .or=>true
 | .xor=>true
 | .shl=>true
 | .shr=>true
 | .andNot=>true
 | .eql=>oddT (P.underlying t) y
 | .neq=>oddT (P.underlying t) y
 | _=>false
def slT:Option TypeDesc→Bool
 |some (.slice _)=>true
 | _=>false
def opW (E:Env) (N:Nat) (ops:Array Oper) (bxs:List Nat) (nx:Nat) (sl:List (Nat×SV)) (H:Nat→Option SR) (k:Ef→Prop) (o:Oper):Prop:=
 match o.op with
 | .move x=>mvW nx k (sval N sl x)
 | .assign x=>mvW nx k (sval N sl x)
 | .pick c x y=>qz5 N sl nx k c x y
 | .alloc t=>qsr E.P nx k t
 | .box t x=>boxW bxs H nx k o.dst t (sval N sl x)
 | .build t ps=>qta E.P N sl nx k t ps
 | .buildSlice t len ps=>bslW E.P N bxs o.dst sl H nx k t len ps
 | .load t x=>orW (qsh H (sval N sl x)) (∃ e,Loc E N ops o nx sl H e∧k e) (qzr E.P H nx k t (sval N sl x))
 | .store t x y=>orW (qsh H (sval N sl x)) (∃ e,Loc E N ops o nx sl H e∧k e) (qvi E.P H nx k t (sval N sl x) (sval N sl y))
 | .nilCheck x=>quf nx k (sval N sl x)
 | .binOp op t x y _=>orW (oddB E.P op t y) (∃ e,Loc E N ops o nx sl H e∧k e) (match sval N sl x,sval N sl y with
  |some vx,some vy=>binW E.P op t y (fun v=>k (kj nx v)) vx vy
  | _,_=>False)
 | .unOp .not _ x=>notW nx k (sval N sl x)
 | .convert t t' x=>orW (slT (E.P.underlying t) ||slT (E.P.underlying t')) (∃ e,Loc E N ops o nx sl H e∧k e) (qy1 E.P t t' nx k (sval N sl x))
 | .makeInterface t x=>qub E.P t nx k (sval N sl x)
 | .makeFunc fn xs ys=>qzt N sl fn xs ys nx k
 | .slice t x lo hi none=>qvf E.P N sl H nx k t x lo hi
 | .fieldAddr t x f=>qhh E.P t f nx k (sval N sl x)
 | .field t x f=>qtt E.P t f nx k (sval N sl x)
 | .indexAddr t x y=>orW (qsh H (sval N sl x)) (∃ e,Loc E N ops o nx sl H e∧k e) (qho E.P N sl H nx k t x y)
 | .index t x y=>qt4 E.P N sl nx k t x y
 | .extract x i=>qlr i nx k (sval N sl x)
 | .call c=>(match c.callee,c.args,c.argTypes with
  | .value x,xs,_=>qyv E N sl H nx k x xs
  | .builtin .len,⟨[x]⟩,⟨t::_⟩=>orW (zbo H (sval N sl x)) (∃ e,Loc E N ops o nx sl H e∧k e) (lenW E.P H nx k t (sval N sl x))
  | .builtin .append,⟨[x,y]⟩,⟨[t,u]⟩=>orW (qsh H (sval N sl x)) (∃ e,Loc E N ops o nx sl H e∧k e) (appW E.P H nx k t u (sval N sl x) (sval N sl y))
  | .builtin .min,⟨[x,y]⟩,_=>mmW nx k min (sval N sl x) (sval N sl y)
  | .builtin .max,⟨[x,y]⟩,_=>mmW nx k max (sval N sl x) (sval N sl y)
  | _,_,_=>∃ e,Loc E N ops o nx sl H e∧k e)
 | _=>∃ e,Loc E N ops o nx sl H e∧k e
theorem q2v {bxs:List Nat} {o:Oper} (hg:o.guard=none) (h:opW E N ops bxs nx sl H k o):∃ e,Loc E N ops o nx sl H e∧k e:=by
 obtain⟨d,op,T,p,af,g⟩:=o
 subst hg
 unfold opW at h
 split at h
 ·rename_i he;simp only at he;subst he;exact q8r h
 ·rename_i he;simp only at he;subst he;exact q07 h
 ·rename_i he;simp only at he;subst he;exact q80 h
 ·rename_i he;simp only at he;subst he;exact q34 h
 ·rename_i he;simp only at he;subst he;exact q93 h
 ·rename_i he;simp only at he;subst he;exact q4i h
 ·rename_i he;simp only at he;subst he;exact q94 h
 ·rename_i he;simp only at he;subst he;exact qfc h q8m
 ·rename_i he;simp only at he;subst he;exact qfc h q59
 ·rename_i he;simp only at he;subst he;exact q5f h
 ·rename_i he
  simp only at he
  subst he
  refine qfc h fun h=>?_
  split at h
  ·rename_i hx hy
   obtain⟨v,hv,hk⟩:=q92 hx hy h
   exact⟨_,zm hv,hk⟩
  ·exact h.elim
 ·rename_i he;simp only at he;subst he;exact zau h
 ·rename_i he;simp only at he;subst he;exact qfc h q7j
 ·rename_i he;simp only at he;subst he;exact q5e h
 ·rename_i he;simp only at he;subst he;exact q8q h
 ·rename_i he;simp only at he;subst he;exact q56 h
 ·rename_i he;simp only at he;subst he;exact qts h
 ·rename_i he;simp only at he;subst he;exact q4y h
 ·rename_i he;simp only at he;subst he;exact qfc h qt3
 ·rename_i he;simp only at he;subst he;exact q45 h
 ·rename_i he;simp only at he;subst he;exact qzf h
 ·rename_i c he
  simp only at he
  subst he
  obtain⟨cl,xs,ts⟩:=c
  split at h
  ·rename_i e1;simp only at e1;subst e1;exact q7f h
  ·rename_i e1 e2 e3;simp only at e1 e2 e3;subst e1;subst e2;subst e3;exact qfc h (zap rfl)
  ·rename_i e1 e2 e3;simp only at e1 e2 e3;subst e1;subst e2;subst e3;exact qfc h q9w
  ·rename_i e1 e2;simp only at e1 e2;subst e1;subst e2;exact zas h
  ·rename_i e1 e2;simp only at e1 e2;subst e1;subst e2;exact zar h
  ·exact h
 ·exact h
end
end Go.Av
namespace Go.Av
open Go Go.RowKit
def isGd (i:Nat) (l:List Oper):Bool:=l.any fun o=>match o.guard with
 |some (j,_)=>Nat.beq j i
 |none=>false
def Ef.as (e:Ef) (v:SV):Ef:=⟨v,e.ks,e.ch,e.nx⟩
def gdW (g:Bool) (k:Ef→Prop) (e:Ef):Prop:=
 match g with
 |false=>k e
 |true=>match e.val with
  | .p q _=>(q→k (e.as .tt))∧(¬ q→k (e.as .ff))
  | .b c=>(c=true→k (e.as .tt))∧(c=false→k (e.as .ff))
  | _=>k e
section
variable {E : Env} {N : Nat} {ops : Array Oper} {nx : Nat} {sl : List (Nat × SV)} {H : Nat → Option SR} {k : Ef → Prop} {o : Oper}
theorem qkd {e:Ef} {v:SV} (h:Loc E N ops o nx sl H e) (hv:∀ ρ,e.val.ev ρ = v.ev ρ):Loc E N ops o nx sl H (e.as v):=fun df rd K rest ρ t S hs hS hk=>
 h df rd K rest ρ t S hs hS fun ρ' S' hp=>by rw [hv ρ'];exact hk ρ' S' ⟨hp.old,hp.sat,hp.len,hp.fr,hp.loc⟩
theorem qtz {g:Bool} {e:Ef} (hL:Loc E N ops o nx sl H e) (h:gdW g k e):∃ e,Loc E N ops o nx sl H e∧k e:=by
 unfold gdW at h
 split at h
 ·exact⟨e,hL,h⟩
 ·split at h
  ·rename_i q i hv
   by_cases hq:q
   ·exact⟨_,qkd hL (fun ρ=>by rw [hv];simp [SV.ev,hq]),h.1 hq⟩
   ·exact⟨_,qkd hL (fun ρ=>by rw [hv];simp [SV.ev,hq]),h.2 hq⟩
  ·rename_i c hv
   cases c with
   |true=>exact⟨_,qkd hL (fun ρ=>by rw [hv];rfl),h.1 rfl⟩
   |false=>exact⟨_,qkd hL (fun ρ=>by rw [hv];rfl),h.2 rfl⟩
  ·exact⟨e,hL,h⟩
def Oper.bare (o:Oper):Oper:=⟨o.dst,o.op,o.type,o.pos,o.after,none⟩
def qsd (l:List Oper) (j:Nat):Option Nat:=match l[j]? with
 |some o=>o.dst
 |none=>none
def opG (E:Env) (N:Nat) (l:List Oper) (bxs:List Nat) (nx:Nat) (sl:List (Nat×SV)) (H:Nat→Option SR) (k:Ef→Prop) (o:Oper):Prop:=
 match o.guard with
 |none=>opW E N l.toArray bxs nx sl H k o
 |some (j,want)=>(match qsd l j with
  |some e=>(match bif Nat.blt e N then lkS sl e else none with
   |some .tt=>bif want then opW E N l.toArray bxs nx sl H k (Oper.bare o) else k (kj nx (.a (.v undef)))
   |some .ff=>bif want then k (kj nx (.a (.v undef))) else opW E N l.toArray bxs nx sl H k (Oper.bare o)
   |some (.a (.v (.tuple ⟨[]⟩)))=>k (kj nx (.a (.v undef)))
   | _=>False)
  |none=>False)
theorem q4r {l:List Oper} {j e:Nat} (h:qsd l j=some e):∃ oj,l.toArray[j]? = some oj∧oj.dst=some e:=by
 unfold qsd at h
 split at h
 ·rename_i o ho;exact⟨o,by simpa using ho,h⟩
 ·simp at h
theorem qur {l:List Oper} {bxs:List Nat} (h:opG E N l bxs nx sl H k o):∃ e,Loc E N l.toArray o nx sl H e∧k e:=by
 obtain⟨d,op,T,p,af,g⟩:=o
 unfold opG at h
 simp only at h
 split at h
 ·exact q2v rfl h
 ·rename_i j want
  split at h
  ·rename_i e he
   obtain⟨oj,hj,hd⟩:=q4r he
   cases hN:Nat.blt e N with
   |false=>rw [hN] at h;exact h.elim
   |true=>
    rw [hN] at h
    simp only [cond_true] at h
    have run:∀ b:Bool,lkS sl e=some (bif b then .tt else .ff)→b=want→opW E N l.toArray bxs nx sl H k ⟨d,op,T,p,af,none⟩→∃ e,Loc E N l.toArray ⟨d,op,T,p,af,some (j,want)⟩ nx sl H e∧k e:=fun b hl hb h=>by
     obtain⟨e1,hL,hk⟩:=q2v rfl h
     refine⟨e1,fun df rd K rest ρ t S hs hS hk=>qgt hj hd hN (b:=b) ?_ hb (hL df rd K rest ρ t S hs hS hk),hk⟩
     refine (hs e _ hl).trans ?_
     cases b <;> rfl
    have skp:∀ b:Bool,lkS sl e=some (bif b then .tt else .ff)→(b == want)=false→k (kj nx (.a (.v undef)))→∃ e,Loc E N l.toArray ⟨d,op,T,p,af,some (j,want)⟩ nx sl H e∧k e:=fun b hl hb h=>by
     refine⟨_,zm (v:=.a (.v undef)) fun df rd K rest ρ t S hs hk=>qfn hj hd hN (b:=b) ?_ hb hk,h⟩
     refine (hs e _ hl).trans ?_
     cases b <;> rfl
    split at h
    ·rename_i hl
     cases want with
     |true=>exact run true hl rfl h
     |false=>exact skp true hl rfl h
    ·rename_i hl
     cases want with
     |true=>exact skp false hl rfl h
     |false=>exact run false hl rfl h
    ·rename_i hl
     exact⟨_,zm (v:=.a (.v undef)) fun df rd K rest ρ t S hs hk=>qex hj hd hN (hs e _ hl) hk,h⟩
    ·exact h.elim
  ·exact h.elim
end
mutual
def fcV:SV→(SV→Prop)→Prop
 | .a x,k=>k (.a x)
 | .i n,k=>k (.i n)
 | .s l,k=>k (.s l)
 | .tt,k=>k .tt
 | .ff,k=>k .ff
 | .b c,k=>k (.b c)
 | .p q h,k=>k (.p q h)
 | .bx a b,k=>k (.bx a b)
 | .tp a,k=>k (.tp a)
 | .ag cs,k=>fcL cs fun cs=>k (.ag cs)
 | .tu cs,k=>fcL cs fun cs=>k (.tu cs)
 | .fn f xs ys,k=>fcL xs fun xs=>fcL ys fun ys=>k (.fn f xs ys)
 | .ifc t x,k=>fcV x fun x=>k (.ifc t x)
def fcL:List SV→(List SV→Prop)→Prop
 | [],k=>k []
 |x::r,k=>fcV x fun x=>fcL r fun r=>k (x::r)
end
mutual
theorem qtr:∀ (v:SV) (k:SV→Prop),fcV v k=k v
 | .a _,_=>rfl
 | .i _,_=>rfl
 | .s _,_=>rfl
 | .tt,_=>rfl
 | .ff,_=>rfl
 | .b _,_=>rfl
 | .p _ _,_=>rfl
 | .bx _ _,_=>rfl
 | .tp _,_=>rfl
 | .ag cs,k=>by simp only [fcV,qe0 cs]
 | .tu cs,k=>by simp only [fcV,qe0 cs]
 | .fn f xs ys,k=>by simp only [fcV,qe0 xs,qe0 ys]
 | .ifc t x,k=>by simp only [fcV,qtr x]
theorem qe0:∀ (l:List SV) (k:List SV→Prop),fcL l k=k l
 | [],_=>rfl
 |x::r,k=>by simp only [fcL,qtr x,qe0 r]
end
def fcR:SR→(SR→Prop)→Prop
 | .cells T cs,k=>fcL cs fun cs=>k (.cells T cs)
 | .tip sz T xs,k=>fcN sz fun sz=>k (.tip sz T xs)
 | .own sz T xs,k=>fcN sz fun sz=>k (.own sz T xs)
 | .obj P,k=>k (.obj P)
 | .rows T ys cs,k=>fcL cs fun cs=>k (.rows T ys cs)
theorem zai:∀ (r:SR) (k:SR→Prop),fcR r k=k r
 | .cells _ cs,k=>by simp only [fcR,qe0]
 | .tip sz _ _,k=>by simp only [fcR,qi7]
 | .own sz _ _,k=>by simp only [fcR,qi7]
 | .obj _,k=>rfl
 | .rows _ _ cs,k=>by simp only [fcR,qe0]
def fcH:List (Nat×Option SR)→(List (Nat×Option SR)→Prop)→Prop
 | [],k=>k []
 |(a,none)::l,k=>fcH l fun l=>k ((a,none)::l)
 |(a,some r)::l,k=>fcR r fun r=>fcH l fun l=>k ((a,some r)::l)
theorem qtp:∀ (l:List (Nat×Option SR)) (k:List (Nat×Option SR)→Prop),fcH l k=k l
 | [],_=>rfl
 |(a,none)::l,k=>by simp only [fcH,qtp l]
 |(a,some r)::l,k=>by simp only [fcH,zai,qtp l]
def fcE (k:Ef→Prop):Ef→Prop
 | ⟨v,ks,ch,nx⟩=>fcV v fun v=>fcH ch fun ch=>k ⟨v,ks,ch,nx⟩
theorem qto (k:Ef→Prop) (e:Ef):fcE k e=k e:=by
 obtain⟨v,ks,ch,nx⟩:=e
 simp only [fcE,qtr,qtp]
def qoc (hp:List (Nat×Option SR)) (k:List (Nat×Option SR)→Prop):List (Nat×Option SR)→Prop
 | []=>k hp
 |c::r=>qoc hp (fun l=>k (c::l)) r
theorem ql8 (hp:List (Nat×Option SR)):∀ (ch:List (Nat×Option SR)) (k:List (Nat×Option SR)→Prop),qoc hp k ch=k (ch++hp)
 | [],_=>rfl
 |c::r,k=>by rw [qoc,ql8 hp r];rfl
def qn2 (sl:List (Nat×SV)) (hp:List (Nat×Option SR)) (nx:Nat) (d:Option Tmp) (k:Conf→Prop):Ef→Prop
 | ⟨v,ks,ch,nx'⟩=>bif Ef.wf ⟨v,ks,ch,nx'⟩ nx then (match d with
  |some d=>qoc hp (fun hp=>k ⟨(d,v)::sl,hp,nx'⟩) ch
  |none=>qoc hp (fun hp=>k ⟨sl,hp,nx'⟩) ch) else False
theorem ql4 {sl:List (Nat×SV)} {hp:List (Nat×Option SR)} {nx:Nat} {d:Option Tmp} {k:Conf→Prop} {e:Ef} (h:qn2 sl hp nx d k e):e.wf nx=true∧k ((Conf.mk sl hp nx).app d e):=by
 obtain⟨v,ks,ch,nx'⟩:=e
 simp only [qn2] at h
 cases hw:Ef.wf ⟨v,ks,ch,nx'⟩ nx with
 |false=>rw [hw] at h;exact h.elim
 |true=>
  rw [hw] at h
  refine⟨rfl,?_⟩
  cases d with
  |none=>simp only [cond_true] at h;rw [ql8] at h;exact h
  |some d=>simp only [cond_true] at h;rw [ql8] at h;exact h
def q0s (E:Env) (N:Nat) (l:List Oper) (bxs:List Nat):Nat→List Oper→(Conf→Prop)→Conf→Prop
 | _,[],K,C=>K C
 |i,o::r,K,⟨sl,hp,nx⟩=>opG E N l bxs nx sl (hpF hp) (gdW (isGd i l) (fcE (qn2 sl hp nx o.dst (q0s E N l bxs (i+1) r K)))) o
theorem qvw {E:Env} {rd:Option Nat} {N:Nat} {l:List Oper} {bxs:List Nat} {B:Bs} {K:Conf→Prop}:∀ {r:List Oper} {i:Nat} {C:Conf} {s:AS},q0s E N l bxs i r K C→SatC B C s→AOps E rd N l.toArray r (fun s'=>∃ C',K C'∧SatC B C' s') s
 | [],_,C,s,h,hs=>qi ⟨C,h,hs⟩
 |o::r,i,⟨sl,hp,nx⟩,s,h,hs=>by
  obtain⟨e,hL,h⟩:=qur h
  obtain⟨e,hL,h⟩:=qtz hL h
  rw [qto] at h
  obtain⟨hw,h⟩:=ql4 h
  obtain⟨t,S,df⟩:=s
  obtain⟨ρ,hdf,hR⟩:=hs
  simp only at hdf hR
  refine hL _ rd _ r ρ t S hR.sl (hR.hp.res _) fun ρ' S' hp=>qvw h ⟨ρ',?_,?_⟩
  ·have:=hdf.step (d:=o.dst) hR.hp hw hp
   cases hd:o.dst with
   |none=>rw [hd] at this;exact this
   |some d=>rw [hd] at this;exact this
  ·have:=hR.step (d:=o.dst) hw hp
   cases hd:o.dst with
   |none=>rw [hd] at this;exact this
   |some d=>rw [hd] at this;exact this
structure Sm (E:Env) (rd:Option Nat) (N:Nat) (B:Bs) (c:Code) (Q:Exit→Conf→Prop) (C:Conf):Prop where
 run:∀ s,SatC B C s→AWp E rd N c (fun e s'=>∃ C',Q e C'∧SatC B C' s') s
@[reducible] def q6y (K : Conf → Prop) (Q : Exit → Conf → Prop) : Exit → Conf → Prop
 | .normal,C=>K C
 |e,C=>Q e C
@[reducible] def qlx (id : Nat) (Q : Exit → Conf → Prop) : Exit → Conf → Prop
 | .exit id',C=>bif Nat.beq id' id then Q .normal C else Q (.exit id') C
 |e,C=>Q e C
section
variable {E : Env} {rd : Option Nat} {N : Nat} {B : Bs} {C : Conf} {Q : Exit → Conf → Prop}
theorem q87 {x y:Code} (h:Sm E rd N B x (q6y (Sm E rd N B y Q) Q) C):Sm E rd N B (.seq x y) Q C:=⟨fun s hs=>
 qt ((h.run s hs).mono fun e s' ⟨C',hq,hs'⟩=>by
  cases e with
  |normal=>exact hq.run s' hs'
  | _=>exact⟨C',hq,hs'⟩)⟩
theorem q3g {id:Nat} {c:Code} (h:Sm E rd N B c (qlx id Q) C):Sm E rd N B (.block id c) Q C:=⟨fun s hs=>
 za ((h.run s hs).mono fun e s' ⟨C',hq,hs'⟩=>by
  cases e with
  |exit id'=>
   simp only [qlx] at hq
   simp only [qlw]
   cases hb:Nat.beq id' id with
   |true=>rw [hb] at hq;exact⟨C',hq,hs'⟩
   |false=>rw [hb] at hq;exact⟨C',hq,hs'⟩
  | _=>exact⟨C',hq,hs'⟩)⟩
theorem q52 {c:Operand} {x y:Code} {v:SV} (hv:sval N C.sl c=some v) (h:wayW (Sm E rd N B x Q C) (Sm E rd N B y Q C) v):Sm E rd N B (.cond c x y) Q C:=⟨fun s hs=>by
 obtain⟨b,hb,h⟩:=q3y h
 obtain⟨t,S,df⟩:=s
 have ⟨ρ,hdf,hR⟩:=hs
 have he:=(qo (S:=S) (df:=df) hR.sl hv).trans (hb ρ)
 rcases h with⟨hc,h⟩ | ⟨hc,h⟩
 ·exact qyr he hc (h.run _ hs)
 ·exact qyq he hc (h.run _ hs)⟩
theorem qvd {c:Code} {Q':Exit→Conf→Prop} (h:Sm E rd N B c Q' C) (hq:∀ e C',Q' e C'→Q e C'):Sm E rd N B c Q C:=⟨fun s hs=>
 (h.run s hs).mono fun e s' ⟨C',hq',hs'⟩=>⟨C',hq e C' hq',hs'⟩⟩
end
def wpC (E:Env) (rd:Option Nat) (N:Nat) (B:Bs) (bxs:List Nat):Code→(Exit→Conf→Prop)→Conf→Prop
 | .skip,Q,C=>Q .normal C
 | .region id ops false,Q,C=>q0s E N ops.toList bxs 0 ops.toList (Q .normal) C
 | .seq x y,Q,C=>wpC E rd N B bxs x (q6y (wpC E rd N B bxs y Q) Q) C
 | .cond c x y,Q,C=>(match sval N C.sl c with
  |some v=>wayW (wpC E rd N B bxs x Q C) (wpC E rd N B bxs y Q C) v
  |none=>False)
 | .block id c,Q,C=>wpC E rd N B bxs c (qlx id Q) C
 | .exit id,Q,C=>Q (.exit id) C
 | .ret,Q,C=>Q .ret C
 |c,Q,C=>Sm E rd N B c Q C
theorem q3x {x y x' y':Prop} {v:SV} (hx:x→x') (hy:y→y') (h:wayW x y v):wayW x' y' v:=by
 cases v with
 |tt=>exact hx h
 |ff=>exact hy h
 |p q i=>exact⟨fun hq=>hx (h.1 hq),fun hq=>hy (h.2 hq)⟩
 |b c=>exact⟨fun hq=>hx (h.1 hq),fun hq=>hy (h.2 hq)⟩
 | _=>exact h.elim
theorem qe {E:Env} {rd:Option Nat} {N:Nat} {B:Bs} (bxs:List Nat):∀ {c:Code} {Q:Exit→Conf→Prop} {C:Conf},wpC E rd N B bxs c Q C→Sm E rd N B c Q C
 | .skip,Q,C,h=>⟨fun s hs=>q9 ⟨C,h,hs⟩⟩
 | .exit id,Q,C,h=>⟨fun s hs=>vt ⟨C,h,hs⟩⟩
 | .ret,Q,C,h=>⟨fun s hs=>zi ⟨C,h,hs⟩⟩
 | .seq x y,Q,C,h=>q87 (qvd (qe bxs (c:=x) h) fun e C' hq=>by
   cases e with
   |normal=>exact qe bxs (c:=y) hq
   | _=>exact hq)
 | .block id c,Q,C,h=>q3g (qe bxs (c:=c) h)
 | .cond c x y,Q,C,h=>by
  simp only [wpC] at h
  split at h
  ·rename_i v hv
   exact q52 hv (q3x (fun h=>qe bxs (c:=x) h) (fun h=>qe bxs (c:=y) h) h)
  ·exact h.elim
 | .region id ops false,Q,C,h=>⟨fun s hs=>by
  have e:ops=ops.toList.toArray:=by simp
  rw [e]
  exact qj (qvw h hs)⟩
 | .region id ops true,Q,C,h=>h
 | .loop c,Q,C,h=>h
 | .rangeFunc _ _ _ _,Q,C,h=>h
 | .scope _,Q,C,h=>h
 | .label _,Q,C,h=>h
 | .goto _,Q,C,h=>h
 | .refuse _,Q,C,h=>h
mutual
def SV.ren (σ : List (Nat×Nat)):SV→SV
 | .bx k off=>match lkS σ k with
  |some j=>.bx j off
  |none=>.a (.bx 0 0 off)
 | .tp k=>match lkS σ k with
  |some j=>.tp j
  |none=>.a zv
 | .ag cs=>.ag (SV.rens σ cs)
 | .tu cs=>.tu (SV.rens σ cs)
 | .fn f xs ys=>.fn f (SV.rens σ xs) (SV.rens σ ys)
 | .ifc t x=>.ifc t (SV.ren σ x)
 |v=>v
def SV.rens (σ : List (Nat×Nat)):List SV→List SV
 | []=>[]
 |x::r=>SV.ren σ x::SV.rens σ r
end
def renR (σ : List (Nat×Nat)) (ρ : Nat→AV):Nat→AV:=fun k=>match lkS σ k with
 |some j=> ρ j
 |none=>zv
mutual
theorem qoi (σ : List (Nat×Nat)) (ρ : Nat→AV):∀ v:SV,(v.ren σ).ev ρ = v.ev (renR σ ρ)
 | .a _=>rfl
 | .i _=>rfl
 | .s _=>rfl
 | .tt=>rfl
 | .ff=>rfl
 | .b _=>rfl
 | .p _ _=>rfl
 | .bx k off=>by
  simp only [SV.ren,SV.ev,renR]
  cases lkS σ k <;> rfl
 | .tp k=>by
  simp only [SV.ren,SV.ev,renR]
  cases lkS σ k <;> rfl
 | .ag cs=>by simp only [SV.ren,SV.ev,qa8 σ ρ cs]
 | .tu cs=>by simp only [SV.ren,SV.ev,qa8 σ ρ cs]
 | .fn f xs ys=>by simp only [SV.ren,SV.ev,qa8 σ ρ xs,qa8 σ ρ ys]
 | .ifc t x=>by simp only [SV.ren,SV.ev,qoi σ ρ x]
theorem qa8 (σ : List (Nat×Nat)) (ρ : Nat→AV):∀ l:List SV,SV.evs ρ (SV.rens σ l)=SV.evs (renR σ ρ) l
 | []=>rfl
 |x::r=>by simp only [SV.rens,SV.evs,qoi σ ρ x,qa8 σ ρ r]
end
structure Tl (x r:AV):Prop where
 ok:Wk x r
theorem q9q (x:AV):Tl x x:=⟨vh x⟩
theorem qg {x y:AV} (h:x=y):Tl x y:=⟨zbx h⟩
theorem zbb {sz:Nat}:Tl zv (.sl sz [] none):=⟨fun _ _ h=>y0 h⟩
def evK (v:SV) (k:AV→Prop):Prop:=
 match v with
 | .a x=>k x
 | .i n=>k (Iv n)
 | .s l=>k (Sv l)
 | .b c=>k (Bv c)
 | .p q h=>k (Bv (@decide q h))
 |v=>k (v.ev fun _=>zv)
theorem zah (v:SV) (k:AV→Prop):evK v k=k (v.ev fun _=>zv):=by
 cases v <;> rfl
def covW (H:Nat→Option SR) (v:Option SV) (σ : List (Nat×Nat)) (u:SV):Prop:=
 match v with
 |none=>False
 |some v=>match u.all (fun _=>false) with
  |true=>(match frz H v with
   |some x=>evK u fun y=>Tl x y
   |none=>False)
  |false=>∀ ρ,v.ev ρ = (u.ren σ).ev ρ
def entS (H:Nat→Option SR) (sl:List (Nat×SV)) (σ : List (Nat×Nat)):List (Nat×SV)→Prop
 | []=>True
 |(d,v)::r=>covW H (lkS sl d) σ v∧entS H sl σ r
def entR (H:Nat→Option SR) (σ : List (Nat×Nat)) (k:Nat) (r:SR):Prop:=
 match lkS σ k,r with
 |some j,.cells T cs=>(match H j with
  |some (.cells T' cs')=>T'=T∧∀ ρ,SV.evs ρ cs'=SV.evs ρ (SV.rens σ cs)
  | _=>False)
 |some j,.tip sz T xs=>(match H j with
  |some (.tip sz' T' xs')=>(sz'=sz∧T'=T)∧xs'=xs
  | _=>False)
 |none,.tip _ _ xs=>xs=[]
 |some j,.own sz T xs=>(match H j with
  |some (.own sz' T' xs')=>(sz'=sz∧T'=T)∧xs'=xs
  | _=>False)
 |none,.own _ _ xs=>xs=[]
 |none,.cells _ _=>False
 |some j,.obj P=>(match H j with
  |some (.obj P')=>∀ x c,P' x c→P x c
  | _=>False)
 |none,.obj _=>False
 |some j,.rows T ys cs=>(match H j with
  |some (.rows T' ys' cs')=>(T'=T∧ys'=ys)∧∀ ρ,SV.evs ρ cs'=SV.evs ρ (SV.rens σ cs)
  | _=>False)
 |none,.rows _ ys cs=>ys=[]∧cs=[]
def entH (H:Nat→Option SR) (σ : List (Nat×Nat)):List (Nat×Option SR)→Prop
 | []=>True
 |(k,some r)::l=>entR H σ k r∧entH H σ l
 |(_,none)::l=>entH H σ l
def injN:List (Nat×Nat)→Bool
 | []=>true
 |(_,j)::r=>r.all (fun q=> !Nat.beq q.2 j) && injN r
def fltN (hp:List (Nat×Option SR)):List (Nat×Nat)→List (Nat×Nat)
 | []=>[]
 |(k,j)::r=>match lkS hp k with
  |some _=>(k,j)::fltN hp r
  |none=>fltN hp r
theorem qls {hp:List (Nat×Option SR)} {k:Nat} {x:Option SR} (hk:lkS hp k=some x):∀ σ : List (Nat×Nat),lkS (fltN hp σ) k=lkS σ k
 | []=>rfl
 |(i,j)::r=>by
  have ih:=qls hk r
  simp only [fltN]
  by_cases e:i=k
  ·subst e
   rw [hk]
   simp [lkS]
  ·cases h:lkS hp i with
   |none=>simp only [lkS,zp e,cond_false];exact ih
   |some y=>simp only [lkS,zp e,cond_false];exact ih
def okC (C:Conf):Bool:=C.sl.all (fun q=>q.2.all fun k=>Nat.blt k C.nx) && C.hp.all (fun q=>Nat.blt q.1 C.nx && match q.2 with
 |some r=>r.all fun k=>Nat.blt k C.nx
 |none=>true)
def rigN (σ : List (Nat×Nat)):Nat→Bool
 | 0=>true
 |n+1=>(match lkS σ n with
  |some j=>Nat.beq j n
  |none=>false) && rigN σ n
def idN:Nat→List (Nat×Nat)
 | 0=>[]
 |n+1=>(n,n)::idN n
theorem ql9 {σ : List (Nat×Nat)}:∀ {n:Nat},rigN σ n=true→∀ k,k<n→lkS σ k=some k
 | 0,_,k,hk=>by omega
 |n+1,h,k,hk=>by
  simp only [rigN,Bool.and_eq_true] at h
  by_cases e:k=n
  ·subst e
   have h1:=h.1
   split at h1
   ·rename_i j hj
    rw [hj,Nat.eq_of_beq_eq_true h1]
   ·simp at h1
  ·exact ql9 h.2 k (by omega)
def EntC (σ : List (Nat×Nat)) (C C':Conf):Prop:=entS (hpF C.hp) C.sl σ C'.sl∧entH (hpF C.hp) σ C'.hp∧(injN (fltN C'.hp σ) && okC C')=true
mutual
def prs:SV→SV→List (Nat×Nat)
 | .tp k,.tp j=>[(k,j)]
 | .bx k _,.bx j _=>[(k,j)]
 | .ag a,.ag b=>prsL a b
 | .tu a,.tu b=>prsL a b
 | .fn _ a b,.fn _ c d=>prsL a c++prsL b d
 | .ifc _ x,.ifc _ y=>prs x y
 | _,_=>[]
def prsL:List SV→List SV→List (Nat×Nat)
 |x::r,y::s=>prs x y++prsL r s
 | _,_=>[]
end
def addS:List (Nat×Nat)→List (Nat×Nat)→List (Nat×Nat)
 |acc,[]=>acc
 |acc,(k,j)::r=>match lkS acc k with
  |some _=>addS acc r
  |none=>addS ((k,j)::acc) r
def sigS (sl:List (Nat×SV)):List (Nat×SV)→List (Nat×Nat)
 | []=>[]
 |(d,v)::r=>(match lkS sl d with
  |some u=>prs v u
  |none=>[])++sigS sl r
def sigH (H:Nat→Option SR) (σ : List (Nat×Nat)):List (Nat×Option SR)→List (Nat×Nat)
 | []=>[]
 |(k,some (.cells _ cs))::r=>(match lkS σ k with
  |some j=>(match H j with
   |some (.cells _ ds)=>prsL cs ds
   | _=>[])
  |none=>[])++sigH H σ r
 | _::r=>sigH H σ r
def fcP:List (Nat×Nat)→(List (Nat×Nat)→Prop)→Prop
 | [],k=>k []
 |(a,b)::r,k=>fcP r fun r=>k ((a,b)::r)
theorem qtq:∀ (l:List (Nat×Nat)) (k:List (Nat×Nat)→Prop),fcP l k=k l
 | [],_=>rfl
 |(a,b)::r,k=>by simp only [fcP,qtq r]
def EntA (n0:Nat) (C C':Conf):Prop:=
 fcP (addS (idN n0) (sigS C.sl C'.sl)) fun a=>fcP (addS a (sigH (hpF C.hp) a C'.hp)) fun b=>fcP (addS b (sigH (hpF C.hp) b C'.hp)) fun σ=>(rigN σ n0 && Nat.ble n0 C'.nx)=true∧EntC σ C C'
theorem EntA.ent {n0:Nat} {C C':Conf} (h:EntA n0 C C'):∃ σ,(rigN σ n0 && Nat.ble n0 C'.nx)=true∧EntC σ C C':=by
 unfold EntA at h
 simp only [qtq] at h
 exact⟨_,h⟩
theorem qtm {H:Nat→Option SR} {sl:List (Nat×SV)} {σ : List (Nat×Nat)}:∀ {l:List (Nat×SV)} {d:Nat} {v:SV},entS H sl σ l→lkS l d=some v→covW H (lkS sl d) σ v
 | [],_,_,_,h=>by simp [lkS] at h
 |(i,x)::r,d,v,h,hl=>by
  unfold lkS at hl
  cases hb:Nat.beq i d with
  |true=>
   rw [hb] at hl
   simp only [cond_true,Option.some.injEq] at hl
   subst hl
   rw [← Nat.eq_of_beq_eq_true hb]
   exact h.1
  |false=>rw [hb] at hl;exact qtm h.2 hl
theorem qc1 {H:Nat→Option SR} {σ : List (Nat×Nat)}:∀ {l:List (Nat×Option SR)} {k:Nat} {r:SR},entH H σ l→lkS l k=some (some r)→entR H σ k r
 | [],_,_,_,h=>by simp [lkS] at h
 |(i,none)::l,k,r,h,hl=>by
  unfold lkS at hl
  cases hb:Nat.beq i k with
  |true=>rw [hb] at hl;simp at hl
  |false=>rw [hb] at hl;exact qc1 (l:=l) h hl
 |(i,some x)::l,k,r,h,hl=>by
  unfold lkS at hl
  cases hb:Nat.beq i k with
  |true=>
   rw [hb] at hl
   simp only [cond_true,Option.some.injEq] at hl
   subst hl
   rw [← Nat.eq_of_beq_eq_true hb]
   exact h.1
  |false=>rw [hb] at hl;exact qc1 (l:=l) h.2 hl
theorem qt5:∀ {σ : List (Nat×Nat)} {k k' j:Nat},injN σ = true→lkS σ k=some j→lkS σ k'=some j→k=k'
 | [],_,_,_,_,h,_=>by simp [lkS] at h
 |(i,x)::r,k,k',j,h,h1,h2=>by
  simp only [injN,Bool.and_eq_true] at h
  have no:∀ q,lkS r q=some x→False:=fun q hq=>by
   have:=List.all_eq_true.1 h.1 _ (jv hq)
   simp at this
  unfold lkS at h1 h2
  cases hb:Nat.beq i k with
  |true=>
   rw [hb] at h1
   simp only [cond_true,Option.some.injEq] at h1
   subst h1
   cases hb':Nat.beq i k' with
   |true=>rw [← Nat.eq_of_beq_eq_true hb,← Nat.eq_of_beq_eq_true hb']
   |false=>rw [hb'] at h2;exact (no _ h2).elim
  |false=>
   rw [hb] at h1
   cases hb':Nat.beq i k' with
   |true=>
    rw [hb'] at h2
    simp only [cond_true,Option.some.injEq] at h2
    subst h2
    exact (no _ h1).elim
   |false=>rw [hb'] at h2;exact qt5 h.2 h1 h2
theorem vu {hp:List (Nat×Option SR)} {k:Nat} {r:SR} (h:hpF hp k=some r):lkS hp k=some (some r):=by
 unfold hpF at h
 cases hl:lkS hp k with
 |none=>rw [hl] at h;simp at h
 |some x=>rw [hl] at h;simp only at h;rw [h]
theorem EntC.sat {σ : List (Nat×Nat)} {C C':Conf} {S0:List AObj} {F:Nat→Prop} {ρ t:Nat→AV} {S:List AObj} (h:EntC σ C C') (hR:SatR S0 F C ρ t S):∃ t',(∀ d,Wk (t d) (t' d))∧SatR S0 F C' (renR σ ρ) t' S:=by
 obtain⟨hs,hh,hb⟩:=h
 simp only [Bool.and_eq_true,okC] at hb
 obtain⟨hi,hb1,hb2⟩:=hb
 refine⟨fun d=>match lkS C'.sl d with|some v=>v.ev (renR σ ρ)|none=>t d,fun d=>?_,⟨fun d v hd=>by simp only [hd],⟨fun k r hk=>?_,fun k k' r r' hne h1 h2 o ho=>?_⟩,fun k r hk o ho=>?_,hR.low,hR.len,fun d v hd=>?_,fun k r hk=>?_⟩⟩
 ·simp only
  cases hd:lkS C'.sl d with
  |none=>exact vh _
  |some v=>
   have hc:=qtm hs hd
   unfold covW at hc
   split at hc
   ·exact hc.elim
   ·rename_i u hu
    rw [hR.sl d u hu]
    simp only
    split at hc
    ·rename_i hall
     split at hc
     ·rename_i x hx
      rw [zah] at hc
      have e:v.ev (renR σ ρ)=v.ev fun _=>zv:=yl (f:=fun _=>false) (fun k hk=>by simp at hk) _ hall
      rw [e]
      exact fun G y hy=>hc.ok G y (qe5 hR.hp u x hx G y hy)
     ·exact hc.elim
    ·rw [hc ρ,qoi]
     exact vh _
 ·have hc:=qc1 hh (vu hk)
  unfold entR at hc
  unfold renR
  split at hc
  ·rename_i j T cs hj
   rw [hj]
   split at hc
   ·rename_i T' cs' hH
    obtain⟨rfl,hc⟩:=hc
    obtain⟨o,v,h1,h2,h0⟩:=hR.hp.ok j _ hH
    refine⟨o,v,h1,?_,h0⟩
    rw [h2,hc ρ,qa8]
    rfl
   ·exact hc.elim
  ·rename_i j sz T xs hj
   rw [hj]
   split at hc
   ·rename_i sz' T' xs' hH
    obtain⟨⟨rfl,rfl⟩,rfl⟩:=hc
    exact hR.hp.ok j _ hH
   ·exact hc.elim
  ·rename_i sz T xs hj
   rw [hj]
   subst hc
   exact .inl (.inl ⟨rfl,rfl⟩)
  ·rename_i j sz T xs hj
   rw [hj]
   split at hc
   ·rename_i sz' T' xs' hH
    obtain⟨⟨rfl,rfl⟩,rfl⟩:=hc
    exact hR.hp.ok j _ hH
   ·exact hc.elim
  ·rename_i sz T xs hj
   rw [hj]
   subst hc
   exact .inl ⟨rfl,ql5 none⟩
  ·exact hc.elim
  ·rename_i j P hj
   rw [hj]
   split at hc
   ·rename_i P' hH
    obtain⟨o,x,h1,h2,h3,h4⟩:=hR.hp.ok j _ hH
    exact⟨o,x,h1,h2,h3,hc x _ h4⟩
   ·exact hc.elim
  ·exact hc.elim
  ·rename_i j T ys cs hj
   rw [hj]
   split at hc
   ·rename_i T' ys' cs' hH
    obtain⟨⟨rfl,rfl⟩,hc⟩:=hc
    have h1:=hR.hp.ok j _ hH
    show OwnS _ 1 _ (ys'++SV.evs (renR σ ρ) cs) _
    rw [← qa8,← hc ρ]
    exact h1
   ·exact hc.elim
  ·rename_i T ys cs hj
   rw [hj]
   obtain⟨rfl,rfl⟩:=hc
   exact .inl ⟨rfl,ql5 none⟩
 ·have key:∀ k r,hpF C'.hp k=some r→∀ o,qy (renR σ ρ k)=some o→∃ j r',lkS σ k=some j∧hpF C.hp j=some r'∧qy (ρ j)=some o:=fun k r hk o ho=>by
   have hc:=qc1 hh (vu hk)
   unfold renR at ho
   cases hj:lkS σ k with
   |none=>rw [hj] at ho;simp [qy] at ho
   |some j=>
    rw [hj] at ho
    unfold entR at hc
    rw [hj] at hc
    cases r with
    |cells T cs=>
     simp only at hc
     split at hc
     ·rename_i hH;exact⟨j,_,rfl,hH,ho⟩
     ·exact hc.elim
    |tip sz T xs=>
     simp only at hc
     split at hc
     ·rename_i hH;exact⟨j,_,rfl,hH,ho⟩
     ·exact hc.elim
    |own sz T xs=>
     simp only at hc
     split at hc
     ·rename_i hH;exact⟨j,_,rfl,hH,ho⟩
     ·exact hc.elim
    |obj P=>
     simp only at hc
     split at hc
     ·rename_i hH;exact⟨j,_,rfl,hH,ho⟩
     ·exact hc.elim
    |rows T ys cs=>
     simp only at hc
     split at hc
     ·rename_i hH;exact⟨j,_,rfl,hH,ho⟩
     ·exact hc.elim
  obtain⟨j,q,g1,g2,g3⟩:=key k r h1 o ho
  intro ho'
  obtain⟨j',q',g4,g5,g6⟩:=key k' r' h2 o ho'
  exact hR.hp.sep j j' q q' (fun e=>hne (qt5 hi ((qls (vu h1) σ).trans g1) ((qls (vu h2) σ).trans (by rw [e];exact g4)))) g2 g5 o g3 g6
 ·have hc:=qc1 hh (vu hk)
  unfold renR at ho
  cases hj:lkS σ k with
  |none=>rw [hj] at ho;simp [qy] at ho
  |some j=>
   rw [hj] at ho
   unfold entR at hc
   rw [hj] at hc
   cases r with
   |cells T cs=>
    simp only at hc
    split at hc
    ·rename_i hH;exact hR.own j _ hH o ho
    ·exact hc.elim
   |tip sz T xs=>
    simp only at hc
    split at hc
    ·rename_i hH;exact hR.own j _ hH o ho
    ·exact hc.elim
   |own sz T xs=>
    simp only at hc
    split at hc
    ·rename_i hH;exact hR.own j _ hH o ho
    ·exact hc.elim
   |obj P=>
    simp only at hc
    split at hc
    ·rename_i hH;exact hR.own j _ hH o ho
    ·exact hc.elim
   |rows T ys cs=>
    simp only at hc
    split at hc
    ·rename_i hH;exact hR.own j _ hH o ho
    ·exact hc.elim
 ·exact List.all_eq_true.1 hb1 _ (jv hd)
 ·have:=List.all_eq_true.1 hb2 _ (jv (vu hk))
  simp only [Bool.and_eq_true] at this
  exact⟨ju this.1,this.2⟩
section
variable {E : Env} {rd : Option Nat} {N : Nat} {B : Bs} {C : Conf} {Q : Exit → Conf → Prop}
theorem Frm.ren {B:Bs} {C C':Conf} {ρ : Nat→AV} {df:List Nat} {S:List AObj} {σ : List (Nat×Nat)} (h:Frm B C ρ df S) (hr:(rigN σ B.n0 && Nat.ble B.n0 C'.nx)=true):Frm B C' (renR σ ρ) df S:=by
 simp only [Bool.and_eq_true] at hr
 refine⟨h.dm,h.nd,fun k hk=>?_,Nat.le_of_ble_eq_true hr.2,h.dz⟩
 unfold renR
 rw [ql9 hr.1 k hk]
 exact h.rig k hk
theorem q1c {c:Code} {Q:Exit→AS→Prop} {t t':Nat→AV} {S:List AObj} {df:List Nat} (hw:∀ d,Wk (t d) (t' d)) (h:AWp E rd N c Q ⟨t',S,df⟩):AWp E rd N c Q ⟨t,S,df⟩:=
 ⟨fun B0 w0 G a w hL hI=>h.run B0 w0 G a w hL ⟨hI.agree,hI.defers,hI.size,fun i y hy=>hw i G y (hI.tmps i y hy)⟩⟩
theorem vv {X:Type} {c:Code} (I:X→Conf) (P:X→Prop) (μ : X→Nat) (x0:X) (h0:P x0) (he:EntA B.n0 C (I x0))
  (hr:∀ x,P x→Sm E rd N B c (fun e C'=>match e with
   | .normal=>∃ x',P x'∧μ x' < μ x∧EntA B.n0 C' (I x')
   |e=>Q e C') (I x)):Sm E rd N B (.loop c) Q C:=⟨fun s hs=>by
 refine vw (σ:=X) (fun x s=>P x∧∃ t',(∀ d,Wk (s.t d) (t' d))∧SatC B (I x) ⟨t',s.st,s.df⟩) μ x0 ?_ ?_
 ·obtain⟨t,S,df⟩:=s
  obtain⟨ρ,hdf,hR⟩:=hs
  simp only at hdf hR
  obtain⟨σ0,hr0,he⟩:=he.ent
  obtain⟨t',hw,hR'⟩:=he.sat hR
  exact⟨h0,t',hw,_,hdf.ren hr0,hR'⟩
 ·rintro x ⟨t,S,df⟩ ⟨hP,t',hw,hs⟩
  simp only at hw hs
  refine q1c hw (((hr x hP).run ⟨t',S,df⟩ hs).mono fun e s' ⟨C',hq,hs'⟩=>?_)
  cases e with
  |normal=>
   obtain⟨x',hP',hlt,he'⟩:=hq
   obtain⟨t2,S2,df2⟩:=s'
   obtain⟨ρ2,hdf2,hR2⟩:=hs'
   simp only at hdf2 hR2
   obtain⟨σ,hr2,he'⟩:=he'.ent
   obtain⟨t3,hw3,hR3⟩:=he'.sat hR2
   exact⟨x',⟨hP',t3,hw3,_,hdf2.ren hr2,hR3⟩,hlt⟩
  | _=>exact⟨C',hq,hs'⟩⟩
end
def qa9 (P:Program) (N:Nat) (C:Conf):ResultVar→Option SV
 | .tmp t=>sval N C.sl (.tmp t)
 | .cell a T=>(match sval N C.sl (.tmp a),tyOf P T with
  |some (.bx b off),some (sz,agg)=>(match hpF C.hp b with
   |some (.cells _ cs)=>qhu sz agg off cs
   | _=>none)
  | _,_=>none)
def resV (P:Program) (N:Nat) (C:Conf):List ResultVar→Option SV
 | []=>some (.tu [])
 | [a]=>qa9 P N C a
 | [a,b]=>(match qa9 P N C a,qa9 P N C b with
  |some x,some y=>some (.tu [x,y])
  | _,_=>none)
 | [a,b,c]=>(match qa9 P N C a,qa9 P N C b,qa9 P N C c with
  |some x,some y,some z=>some (.tu [x,y,z])
  | _,_,_=>none)
 | [a,b,c,d]=>(match qa9 P N C a,qa9 P N C b,qa9 P N C c,qa9 P N C d with
  |some x,some y,some z,some u=>some (.tu [x,y,z,u])
  | _,_,_,_=>none)
 | _=>none
theorem q85 {G:Gh} {x y z p:AV} {v u t q:Value} (h1:Rel G x v) (h2:Rel G y u) (h3:Rel G z t) (h4:Rel G p q):Rel G (.tu [x,y,z,p]) (.tuple #[v,u,t,q]):=
 .tu _ _ rfl fun i x' y' hx hy=>by
  match i with
  | 0=>simp at hx hy;subst hx;subst hy;exact h1
  | 1=>simp at hx hy;subst hx;subst hy;exact h2
  | 2=>simp at hx hy;subst hx;subst hy;exact h3
  | 3=>simp at hx hy;subst hx;subst hy;exact h4
  |i+4=>simp at hx
def qu5 (r:ResultVar) (tm:Array Value):Sem Value:=
 match r with
 | .tmp t=>pure (tm.getD t undef)
 | .cell a t=>do loadVar t (← asAddr (tm.getD a undef))
theorem qei (fn:Func) (tm:Array Value):results fn tm=(do
  let vs ← fn.results.mapM fun r=>qu5 r tm
  pure (if h:vs.size=1 then vs[0] else .tuple vs)):=by
 unfold results
 congr 1
theorem yn {E:Env} {S0:List AObj} {F:Nat→Prop} {C:Conf} {ρ t:Nat→AV} {S:List AObj} {N:Nat} (hR:SatR S0 F C ρ t S) {r:ResultVar} {v:SV} (h:qa9 E.P N C r=some v) {B0:Nat} {w0:World} {G:Gh} {a:Act} {w:World} (hI:Inv B0 w0 N G ⟨t,S,[]⟩ a w) :
  ∃ u,(qu5 r a.tmps).run E.P w = .ok u w∧Rel G (v.ev ρ) u:=by
 cases r with
 |tmp i=>
  simp only [qa9] at h
  refine⟨a.tmps.getD i undef,rfl,?_⟩
  have:=hI.rd i
  rw [qo hR.sl h] at this
  exact this
 |cell i T=>
  simp only [qa9] at h
  split at h
  ·rename_i b off sz agg hb ht
   split at h
   ·rename_i T' cs hH
    obtain⟨o,ver,h1,h2,_⟩:=hR.hp.ok b _ hH
    have he:=hI.rd i
    rw [qo hR.sl hb] at he
    simp only [SV.ev,h1,bxAt] at he
    generalize hv:a.tmps.getD i undef=y at he
    cases he with
    |bx _ _ _ bl hn hv' hbl=>
     obtain⟨_,g1,g2,g3,c,g4,g5,g6⟩:=hI.agree.ob o _ h2
     have hb:=hbl g1
     rw [hb] at g4
     obtain⟨u,hrun,hRel⟩:=xo (w:=w) (G:=G) (b:=bl) (off:=off) (off':=off) ht (fun i x hx hi=>by
      obtain⟨y,hy⟩:=kr hx (Nat.le_of_eq g5)
      refine⟨y,?_,g6 i x y hx hy⟩
      simp [World.cell?,g4,show off+(i - off)=i by omega,hy]) (qlz ρ h)
     refine⟨u,?_,hRel⟩
     simp [qu5,hv,asAddr,hrun]
   ·simp at h
  ·simp at h
theorem qx4 {E:Env} {S0:List AObj} {F:Nat→Prop} {C:Conf} {ρ t:Nat→AV} {S:List AObj} {fn:Func} (hR:SatR S0 F C ρ t S) {v:SV} (h:resV E.P fn.ntmps C fn.results.toList=some v):ARes E fn ⟨t,S,[]⟩ (v.ev ρ):=by
 refine⟨fun B0 w0 G a w hL hI=>?_⟩
 cases hr:fn.results.toList with
 |nil=>
  rw [hr] at h
  simp only [resV,Option.some.injEq] at h
  subst h
  have hr':fn.results = #[]:=by simpa using hr
  exact (qas hr').run B0 w0 G a w hL hI
 |cons r1 l1=>
  cases l1 with
  |nil=>
   rw [hr] at h
   obtain⟨u,h1,h2⟩:=yn hR h hI
   have hr':fn.results = #[r1]:=by rw [← Array.toList_inj];exact hr
   refine⟨u,?_,h2⟩
   rw [qei,hr']
   simp [h1]
  |cons r2 l2=>
   cases l2 with
   |nil=>
    rw [hr] at h
    simp only [resV] at h
    split at h
    ·rename_i x y hx hy
     simp only [Option.some.injEq] at h
     subst h
     obtain⟨u1,h1,h2⟩:=yn hR hx hI
     obtain⟨u2,h3,h4⟩:=yn hR hy hI
     have hr':fn.results = #[r1,r2]:=by rw [← Array.toList_inj];exact hr
     refine⟨.tuple #[u1,u2],?_,qkl h2 h4⟩
     rw [qei,hr']
     simp [h1,h3]
    ·simp at h
   |cons r3 l3=>
    cases l3 with
    |nil=>
     rw [hr] at h
     simp only [resV] at h
     split at h
     ·rename_i x y z hx hy hz
      simp only [Option.some.injEq] at h
      subst h
      obtain⟨u1,h1,h2⟩:=yn hR hx hI
      obtain⟨u2,h3,h4⟩:=yn hR hy hI
      obtain⟨u3,h5,h6⟩:=yn hR hz hI
      have hr':fn.results = #[r1,r2,r3]:=by rw [← Array.toList_inj];exact hr
      refine⟨.tuple #[u1,u2,u3],?_,qx3 h2 h4 h6⟩
      rw [qei,hr']
      simp [h1,h3,h5]
     ·simp at h
    |cons r4 l4=>
     cases l4 with
     |nil=>
      rw [hr] at h
      simp only [resV] at h
      split at h
      ·rename_i x y z p hx hy hz hp
       simp only [Option.some.injEq] at h
       subst h
       obtain⟨u1,h1,h2⟩:=yn hR hx hI
       obtain⟨u2,h3,h4⟩:=yn hR hy hI
       obtain⟨u3,h5,h6⟩:=yn hR hz hI
       obtain⟨u4,h7,h8⟩:=yn hR hp hI
       have hr':fn.results = #[r1,r2,r3,r4]:=by rw [← Array.toList_inj];exact hr
       refine⟨.tuple #[u1,u2,u3,u4],?_,q85 h2 h4 h6 h8⟩
       rw [qei,hr']
       simp [h1,h3,h5,h7]
      ·simp at h
     |cons r5 l5=>rw [hr] at h;simp [resV] at h
def qzw (P:Program) (ts:List TypeId) (x:AV) (k:AV→Prop):Prop:=
 match ts,x with
 | [t],x=>nrmK P t x k
 |ts,.tu xs=>zipK P ts xs fun l=>k (.tu l)
 | _,x=>k x
theorem q5g {P:Program} {ts:List TypeId} {x:AV} {k:AV→Prop} (h:qzw P ts x k):∃ y,Wk x y∧k y:=by
 unfold qzw at h
 split at h
 ·exact qpf h
 ·obtain⟨m,h1,h2⟩:=qyg h
  exact⟨_,q60 h1.1 h1.2,h2⟩
 ·exact⟨_,vh _,h⟩
def ansW (P:Program) (fn:Func) (C:Conf) (k:AV→Prop):Prop:=
 match resV P fn.ntmps C fn.results.toList with
 |some v=>(match frz (hpF C.hp) v with
  |some x=>qzw P fn.resultTypes.toList x k
  |none=>False)
 |none=>False
theorem qxf {E:Env} {S0:List AObj} {F:Nat→Prop} {C:Conf} {ρ t:Nat→AV} {S:List AObj} {fn:Func} {k:AV→Prop} (hR:SatR S0 F C ρ t S) (h:ansW E.P fn C k):∃ y,ARes E fn ⟨t,S,[]⟩ y∧k y:=by
 unfold ansW at h
 split at h
 ·rename_i v hv
  split at h
  ·rename_i x hx
   obtain⟨y,h1,h2⟩:=q5g h
   exact⟨y,yy (qx4 hR hv) fun G z hz=>h1 G z (qe5 hR.hp v x hx G z hz),h2⟩
  ·exact h.elim
 ·exact h.elim
def retW (P:Program) (fn:Func) (r0:AV) (e:Exit) (C:Conf):Prop:=
 match e with
 | .normal=>ansW P fn C fun y=>Tl y r0
 | .ret=>ansW P fn C fun y=>Tl y r0
 | _=>False
theorem qaw {α : Type}:∀ {l:List α} {i0 i:Nat} {v : α},lkS (zq i0 l) i=some v→∃ j,i=i0+j∧l[j]? = some v
 | [],_,_,_,h=>by simp [zq,lkS] at h
 |x::r,i0,i,v,h=>by
  simp only [zq,lkS] at h
  cases hb:Nat.beq i0 i with
  |true=>
   rw [hb] at h
   simp only [cond_true,Option.some.injEq] at h
   subst h
   exact⟨0,(Nat.eq_of_beq_eq_true hb).symm,rfl⟩
  |false=>
   rw [hb] at h
   obtain⟨j,h1,h2⟩:=qaw h
   exact⟨j+1,by omega,by simpa using h2⟩
def numK {α : Type}:Nat→List α→(List (Nat×α)→Prop)→Prop
 | _,[],k=>k []
 |i,x::r,k=>numK (i+1) r fun l=>k ((i,x)::l)
theorem qkf {α : Type}:∀ (l:List α) (i:Nat) (k:List (Nat×α)→Prop),numK i l k=k (zq i l)
 | [],_,_=>rfl
 |x::r,i,k=>by rw [numK,qkf r];rfl
theorem qeb {E:Env} {fn:Func} {R:AV→List AObj→Prop} {S0:List AObj} {F:Nat→Prop} {C:Conf} {ρ t:Nat→AV}:∀ {df:List Nat} {S:List AObj},SatR S0 F C ρ t S→(∀ d∈df,S[d]? = some .dfr∧S0.length≤d)→df.Nodup→(∀ S',SatR S0 F C ρ t S'→ARet E fn R ⟨t,S',[]⟩)→ARet E fn R ⟨t,S,df⟩
 | [],S,hR,_,_,h=>h S hR
 |d::df,S,hR,hm,hn,h=>by
  have hd:=hm d (by simp)
  have hn':=List.nodup_cons.1 hn
  refine q05 rfl hd.1 (qeb (hR.dead hd.1 hd.2) (fun x hx=>?_) hn'.2 h)
  have hne:d≠x:=fun e=>hn'.1 (e▸hx)
  simp only
  rw [List.getElem?_set_ne hne]
  exact hm x (List.mem_cons_of_mem _ hx)
theorem jc {E:Env} {f:FuncId} {fn:Func} {c:Code} {args:List AV} {st:List AObj} {r0:AV} (vs:List SV) (hp:Pure r0) (hf:E.P.funcs[f]? = some fn) (hb:fn.body=some c) (hn:Nat.ble args.length fn.ntmps=true) (hv:∀ ρ,SV.evs ρ vs=args) (hc:okC ⟨zq 0 vs,[],0⟩=true)
  (h:∀ S0,numK 0 vs fun sl=>Sm E none fn.ntmps ⟨S0,fun _=>False,fun _=>zv,0,False⟩ c (retW E.P fn r0) ⟨sl,[],0⟩):qn E f args st fun r st'=>r=r0∧st'=st:=by
 simp only [qkf] at h
 refine zz hp (qx hf hb (Nat.le_of_ble_eq_true hn) ?_)
 have hst:SatC ⟨st++[],fun _=>False,fun _=>zv,0,False⟩ ⟨zq 0 vs,[],0⟩ ⟨argT args,st++[],[]⟩:=by
  refine⟨fun _=>zv,⟨nofun,List.nodup_nil,fun _ _=>rfl,Nat.le_refl _,nofun⟩,⟨fun d v hd=>?_,⟨fun k r hk=>?_,fun k k' r r' _ hk=>?_⟩,fun k r hk=>?_,fun _ _ _=>rfl,Nat.le_refl _,fun d v hd=>?_,fun k r hk=>?_⟩⟩
  ·obtain⟨j,h1,h2⟩:=qaw hd
   have:args[j]? = some (v.ev fun _=>zv):=by rw [← hv fun _=>zv,jl,List.getElem?_map,h2];rfl
   rw [h1,Nat.zero_add]
   simp only [argT,List.getD,this,Option.getD_some]
  ·simp [hpF,lkS] at hk
  ·simp [hpF,lkS] at hk
  ·simp [hpF,lkS] at hk
  ·simp only [okC,Bool.and_eq_true] at hc
   exact List.all_eq_true.1 hc.1 _ (jv hd)
  ·simp [hpF,lkS] at hk
 refine ((h (st++[])).run _ hst).mono fun e s' ⟨C',hq,hs'⟩=>?_
 obtain⟨t,S,df⟩:=s'
 obtain⟨ρ,hdf,hR⟩:=hs'
 simp only at hdf hR
 have hdm:=hdf.dm
 have hnd:=hdf.nd
 have hl:=hR.len
 have fin:ansW E.P fn C' (fun y=>Tl y r0)→ARet E fn (fun r st2=>r=r0∧∃ ext,st2=st++ext) ⟨t,S,df⟩:=fun h=>by
  refine qeb hR (fun x hx=>hdm x hx) hnd fun S' hR'=>?_
  obtain⟨y,h1,h2⟩:=qxf hR' h
  refine qv rfl (yy h1 h2.ok) ⟨rfl,?_⟩
  have hl:=hR'.len
  rw [List.append_nil] at hl
  exact qhg hl fun k hk=>by
   have:=hR'.low k (by simpa using hk) (fun h=>h)
   rw [List.append_nil] at this
   exact this
 cases e with
 |normal=>exact fin hq
 |ret=>exact fin hq
 | _=>exact hq.elim
end Go.Av
namespace Go.Av
open Go Go.RowKit
def cf {α : Type} (L:Nat→Bool):Nat→List (List (Nat×α))→List (Nat×α)→List (Nat×α)
 | _,[],base=>base
 |i,c::r,base=>cf L (i+1) r (bif L i then c++base else base)
def v7 {α : Type} (L:Nat→Bool) (k:Nat):Nat→List (List (Nat×α))→Option α
 | _,[]=>none
 |i,c::r=>match v7 L k (i+1) r with
  |some v=>some v
  |none=>bif L i then lkS c k else none
theorem qa6 {α : Type} (L:Nat→Bool) (k:Nat):∀ (i:Nat) (chs:List (List (Nat×α))) (base:List (Nat×α)),lkS (cf L i chs base) k=match v7 L k i chs with|some v=>some v|none=>lkS base k
 | _,[],_=>rfl
 |i,c::r,base=>by
  simp only [cf,v7]
  rw [qa6 L k (i+1) r]
  cases v7 L k (i+1) r with
  |some v=>rfl
  |none=>
   cases L i with
   |true=>simp only [cond_true];rw [qav];cases lkS c k <;> rfl
   |false=>rfl
theorem qah {α : Type} {L L':Nat→Bool} {k:Nat}:∀ {i:Nat} {chs:List (List (Nat×α))},(∀ j c,chs[j]? = some c→lkS c k≠none→L (i+j)=L' (i+j))→v7 L k i chs=v7 L' k i chs
 | _,[],_=>rfl
 |i,c::r,h=>by
  simp only [v7]
  rw [qah (L:=L) (L':=L') (i:=i+1) (chs:=r) fun j c hc hl=>by
   have:=h (j+1) c (by simpa using hc) hl
   rw [show i+1+j=i+(j+1) by omega]
   exact this]
  cases v7 L' k (i+1) r with
  |some v=>rfl
  |none=>
   simp only
   cases hl:lkS c k with
   |none=>cases L i <;> cases L' i <;> rfl
   |some v=>
    have:=h 0 c rfl (by rw [hl];simp)
    rw [Nat.add_zero] at this
    rw [this]
theorem qed {α : Type} {L:Nat→Bool} {k:Nat} {v : α}:∀ {i:Nat} {chs:List (List (Nat×α))},v7 L k i chs=some v→∃ j c,chs[j]? = some c∧L (i+j)=true∧lkS c k=some v
 | _,[],h=>by simp [v7] at h
 |i,c::r,h=>by
  simp only [v7] at h
  cases hr:v7 L k (i+1) r with
  |some w=>
   rw [hr] at h
   simp only [Option.some.injEq] at h
   subst h
   obtain⟨j,c',h1,h2,h3⟩:=qed hr
   exact⟨j+1,c',by simpa using h1,by rw [show i+(j+1)=i+1+j by omega];exact h2,h3⟩
  |none=>
   rw [hr] at h
   simp only at h
   cases hL:L i with
   |true=>rw [hL] at h;exact⟨0,c,rfl,hL,h⟩
   |false=>rw [hL] at h;simp at h
theorem qjh {α : Type} {L:Nat→Bool} {k:Nat}:∀ {i j0:Nat} {chs:List (List (Nat×α))} {c0:List (Nat×α)},chs[j0]? = some c0→(∀ j c,j0<j→chs[j]? = some c→L (i+j)=true→lkS c0 k≠none→lkS c k=none) →
  v7 (addL L (i+j0)) k i chs=match lkS c0 k with|some v=>some v|none=>bif L (i+j0) then v7 (addL L (i+j0)) k i chs else v7 L k i chs
 | _,_,[],_,h,_=>by simp at h
 |i,0,c::r,c0,h,hd=>by
  simp only [List.getElem?_cons_zero,Option.some.injEq] at h
  subst h
  have hr:v7 (addL L (i+0)) k (i+1) r=v7 L k (i+1) r:=qah fun j c _ _=>by
   unfold addL
   rw [zp (by omega),Bool.false_or]
  have ha:addL L (i+0) i=true:=by simp [addL]
  cases hl:lkS c k with
  |some v=>
   have hn:v7 L k (i+1) r=none:=by
    cases hq:v7 L k (i+1) r with
    |none=>rfl
    |some w=>
     obtain⟨j,c',h1,h2,h3⟩:=qed hq
     have:=hd (j+1) c' (by omega) (by simpa using h1) (by rw [show i+(j+1)=i+1+j by omega];exact h2) (by rw [hl];simp)
     rw [this] at h3
     simp at h3
   simp only [v7,hr,hn,ha,cond_true,hl]
  |none=>
   cases hLi:L (i+0) with
   |true=>rfl
   |false=>
    simp only [cond_false,v7,hr,ha,cond_true,hl]
    rw [Nat.add_zero] at hLi
    rw [hLi]
    cases v7 L k (i+1) r <;> rfl
 |i,j0+1,c::r,c0,h,hd=>by
  have ih:=qjh (L:=L) (k:=k) (i:=i+1) (j0:=j0) (chs:=r) (c0:=c0) (by simpa using h) fun j c hj hc hL hl=>hd (j+1) c (by omega) (by simpa using hc) (by rw [show i+(j+1)=i+1+j by omega];exact hL) hl
  rw [show i+1+j0=i+(j0+1) by omega] at ih
  have hi:addL L (i+(j0+1)) i=L i:=by
   unfold addL
   rw [zp (by omega),Bool.false_or]
  cases hl:lkS c0 k with
  |some v=>rw [hl] at ih;simp only [v7,ih]
  |none=>
   rw [hl] at ih
   simp only at ih
   cases hLi:L (i+(j0+1)) with
   |true=>rfl
   |false=>
    rw [hLi] at ih
    simp only [cond_false] at ih ⊢
    simp only [v7,ih,hi]
theorem qgz {α : Type}:∀ {L:Nat→Bool} {i:Nat} {chs:List (List (Nat×α))} {base:List (Nat×α)},(∀ j,j<chs.length→L (i+j)=false)→cf L i chs base=base
 | _,_,[],_,_=>rfl
 |L,i,c::r,base,h=>by
  have h0:=h 0 (by simp)
  rw [Nat.add_zero] at h0
  simp only [cf,h0,cond_false]
  exact qgz fun j hj=>by
   have:=h (j+1) (by simpa using hj)
   rw [show i+1+j=i+(j+1) by omega]
   exact this
structure Tr where
 rd:List Nat
 dst:Option Nat
 e:Ef
 nx:Nat
def Tr.sch (t:Tr):List (Nat×SV):=match t.dst with
 |some d=>[(d,t.e.val)]
 |none=>[]
def runT:List Tr→Conf→Conf
 | [],C=>C
 |t::r,C=>runT r (C.app t.dst t.e)
theorem q9x (C:Conf) (t:Tr):(C.app t.dst t.e).sl=t.sch++C.sl:=by
 unfold Conf.app Tr.sch
 cases t.dst <;> rfl
theorem qg0:∀ (tr:List Tr) (i0 n:Nat) (C:Conf),cf (fun j=>Nat.blt j (i0+n)) i0 (tr.map Tr.sch) C.sl=(runT (tr.take n) C).sl∧cf (fun j=>Nat.blt j (i0+n)) i0 (tr.map fun t=>t.e.ch) C.hp=(runT (tr.take n) C).hp
 | [],_,n,C=>by simp [cf,runT]
 |t::r,i0,0,C=>by
  have hf:∀ {m:Nat} (j:Nat),j<m→Nat.blt (i0+j) (i0+0)=false:=fun j _=>by
   cases hb:Nat.blt (i0+j) (i0+0) with
   |false=>rfl
   |true=>have:=ju hb;omega
  exact⟨qgz fun j hj=>hf j hj,qgz fun j hj=>hf j hj⟩
 |t::r,i0,n+1,C=>by
  have hb:Nat.blt i0 (i0+(n+1))=true:=ya (by omega)
  have ih:=qg0 r (i0+1) n (C.app t.dst t.e)
  rw [show i0+1+n=i0+(n+1) by omega] at ih
  simp only [List.map_cons,cf,hb,cond_true,List.take_succ_cons,runT]
  rw [← q9x]
  exact ih
def je (ch:List (Nat×Option SR)):List Nat:=ch.map Prod.fst
def qal (a b:List Nat):Bool:=a.all fun x=> !memN b x
def dstL:Option Nat→List Nat
 |some d=>[d]
 |none=>[]
def indT (a b:Tr):Bool:=
 qal (dstL a.dst) b.rd && qal (dstL a.dst) (dstL b.dst) && qal (dstL b.dst) a.rd &&
 qal (je a.e.ch) b.e.ks && qal (je a.e.ch) (je b.e.ch) && qal (je b.e.ch) a.e.ks &&
 b.e.val.all (fun k=>Nat.blt k a.nx ||Nat.ble a.e.nx k) && b.e.ch.all (fun q=>(Nat.blt q.1 a.nx ||Nat.ble a.e.nx q.1) && match q.2 with
  |some r=>r.all fun k=>Nat.blt k a.nx ||Nat.ble a.e.nx k
  |none=>true)
def qee (o:Oper) (acc:List Nat):Nat:=(qam o).foldl (fun m d=>(m ||| 2 ^ d) |||acc.getD d 0) 0
def ancs:List Oper→List Nat→List Nat
 | [],acc=>acc
 |o::r,acc=>ancs r (acc++[qee o acc])
inductive AncR (l:List Oper):Nat→Nat→Prop
 |dep {i j:Nat} {o:Oper} (ho:l[j]? = some o) (hi:i∈qam o):AncR l i j
 |step {i d j:Nat} {o:Oper} (ho:l[j]? = some o) (hd:d∈qam o) (h:AncR l i d):AncR l i j
theorem q2l {l:List Oper} {acc:List Nat} (hacc:∀ j i,(acc.getD j 0).testBit i=true→AncR l i j) {o:Oper} {j:Nat} (ho:l[j]? = some o) {i:Nat} (h:(qee o acc).testBit i=true):AncR l i j:=by
 unfold qee at h
 have key:∀ (ds:List Nat) (m:Nat),(∀ d∈ds,d∈qam o)→(m.testBit i=true→AncR l i j)→(ds.foldl (fun m d=>(m ||| 2 ^ d) |||acc.getD d 0) m).testBit i=true→AncR l i j:=by
  intro ds
  induction ds with
  |nil=>exact fun m _ hm h=>hm h
  |cons d r ih=>
   intro m hd hm h
   refine ih ((m ||| 2 ^ d) |||acc.getD d 0) (fun d' hd'=>hd d' (by simp [hd'])) (fun hb=>?_) h
   rw [Nat.testBit_or,Nat.testBit_or,Bool.or_eq_true,Bool.or_eq_true,Nat.testBit_two_pow] at hb
   rcases hb with (hb|hb)|hb
   ·exact hm hb
   ·have:d=i:=by simpa using hb
    subst this
    exact .dep ho (hd d (by simp))
   ·exact .step ho (hd d (by simp)) (hacc d i hb)
 exact key (qam o) 0 (fun d hd=>hd) (fun h=>by simp at h) h
theorem qss {l:List Oper}:∀ (r:List Oper) (acc:List Nat),(∀ k o,r[k]? = some o→l[acc.length+k]? = some o)→(∀ j i,(acc.getD j 0).testBit i=true→AncR l i j)→∀ j i,((ancs r acc).getD j 0).testBit i=true→AncR l i j
 | [],acc,_,h=>h
 |o::r,acc,hr,h=>by
  refine qss r (acc++[qee o acc]) (fun k o' hk=>?_) (fun j i hb=>?_)
  ·have:=hr (k+1) o' (by simpa using hk)
   rw [List.length_append]
   simp only [List.length_cons,List.length_nil]
   rw [show acc.length+(0+1)+k=acc.length+(k+1) by omega]
   exact this
  ·by_cases hj:j<acc.length
   ·have e:(acc++[qee o acc]).getD j 0=acc.getD j 0:=by simp [List.getD,List.getElem?_append_left hj]
    rw [e] at hb
    exact h j i hb
   ·by_cases hj':j=acc.length
    ·subst hj'
     have e:(acc++[qee o acc]).getD acc.length 0=qee o acc:=by simp [List.getD]
     rw [e] at hb
     exact q2l h (by have:=hr 0 o rfl;simpa using this) hb
    ·have e:(acc++[qee o acc]).getD j 0=0:=by simp [List.getD,List.getElem?_eq_none (show (acc++[qee o acc]).length≤j by simp;omega)]
     rw [e] at hb
     simp at hb
def chkR:Nat→Tr→Nat→List Tr→List Nat→Bool
 | _,_,_,[],_=>true
 |i,a,j,b::r,m=>((m.getD j 0).testBit i ||indT a b) && chkR i a (j+1) r m
def chkT:Nat→List Tr→List Nat→Bool
 | _,[],_=>true
 |i,a::r,m=>chkR i a (i+1) r m && chkT (i+1) r m
theorem qtc:∀ {i:Nat} {a:Tr} {j0:Nat} {l:List Tr} {m:List Nat},chkR i a j0 l m=true→∀ j b,l[j]? = some b→(m.getD (j0+j) 0).testBit i=true∨indT a b=true
 | _,_,_,[],_,_,j,b,h=>by simp at h
 |i,a,j0,b::r,m,h,j,b',hb=>by
  simp only [chkR,Bool.and_eq_true,Bool.or_eq_true] at h
  cases j with
  |zero=>
   simp only [List.getElem?_cons_zero,Option.some.injEq] at hb
   subst hb
   exact h.1
  |succ j=>
   have:=qtc h.2 j b' (by simpa using hb)
   rw [show j0+(j+1)=j0+1+j by omega]
   exact this
theorem qtd:∀ {i0:Nat} {l:List Tr} {m:List Nat},chkT i0 l m=true→∀ i j a b,i<j→l[i]? = some a→l[j]? = some b→(m.getD (i0+j) 0).testBit (i0+i)=true∨indT a b=true
 | _,[],_,_,_,_,_,_,_,h,_=>by simp at h
 |i0,a::r,m,h,i,j,a',b',hij,ha,hb=>by
  simp only [chkT,Bool.and_eq_true] at h
  cases i with
  |zero=>
   simp only [List.getElem?_cons_zero,Option.some.injEq] at ha
   subst ha
   obtain⟨j,rfl⟩:∃ j',j=j'+1:=⟨j - 1,by omega⟩
   have:=qtc h.1 j b' (by simpa using hb)
   rw [show i0+(j+1)=i0+1+j by omega,Nat.add_zero]
   exact this
  |succ i=>
   obtain⟨j,rfl⟩:∃ j',j=j'+1:=⟨j - 1,by omega⟩
   have:=qtd h.2 i j a' b' (by omega) (by simpa using ha) (by simpa using hb)
   rw [show i0+(j+1)=i0+1+j by omega,show i0+(i+1)=i0+1+i by omega]
   exact this
theorem qb2 {a b:List Nat} (h:qal a b=true) {x:Nat} (hx:memN a x=true):memN b x=false:=by
 unfold memN at hx
 obtain⟨y,hy,e⟩:=List.any_eq_true.1 hx
 have:=Nat.eq_of_beq_eq_true e
 subst this
 simpa using List.all_eq_true.1 h _ hy
theorem qjn {ch:List (Nat×Option SR)} {k:Nat} (h:lkS ch k≠none):memN (je ch) k=true:=by
 cases hl:lkS ch k with
 |none=>exact absurd hl h
 |some v=>exact List.any_eq_true.2 ⟨k,List.mem_map.2 ⟨_,jv hl,rfl⟩,by simp⟩
theorem ql1 {t:Tr} {d:Nat} (h:lkS t.sch d≠none):memN (dstL t.dst) d=true:=by
 unfold Tr.sch at h
 cases ht:t.dst with
 |none=>rw [ht] at h;simp [lkS] at h
 |some x=>
  rw [ht] at h
  simp only [lkS] at h
  by_cases e:x=d
  ·subst e;simp [dstL,memN]
  ·rw [zp e] at h;simp at h
def rs (rd:List Nat) (sl:List (Nat×SV)):List (Nat×SV):=rd.filterMap fun d=>match lkS sl d with
 |some v=>some (d,v)
 |none=>none
theorem za7 {rd:List Nat} {sl:List (Nat×SV)} {d:Nat} {v:SV} (h:lkS (rs rd sl) d=some v):memN rd d=true∧lkS sl d=some v:=by
 have:=jv h
 unfold rs at this
 obtain⟨x,hx,he⟩:=List.mem_filterMap.1 this
 split at he
 ·rename_i w hw
  simp only [Option.some.injEq,Prod.mk.injEq] at he
  obtain⟨rfl,rfl⟩:=he
  exact⟨List.any_eq_true.2 ⟨x,hx,by simp⟩,hw⟩
 ·simp at he
theorem ql0 {l:List Nat} {x:Nat} (h:memN l x=true):x∈l:=by
 obtain⟨y,hy,e⟩:=List.any_eq_true.1 h
 rw [Nat.eq_of_beq_eq_true e]
 exact hy
theorem SatR.congr {S0:List AObj} {F:Nat→Prop} {C C':Conf} {ρ t:Nat→AV} {S:List AObj} (h:SatR S0 F C ρ t S) (h1:∀ d,lkS C'.sl d=lkS C.sl d) (h2:hpF C'.hp=hpF C.hp) (h3:C.nx≤C'.nx):SatR S0 F C' ρ t S:=
 ⟨fun d v hd=>h.sl d v (by rw [← h1];exact hd),by rw [h2];exact h.hp,by rw [h2];exact h.own,h.low,h.len,fun d v hd=>all_mono (fun k hk=>ya (by have:=ju hk;omega)) v (h.wsl d v (by rw [← h1];exact hd)),fun k r hk=>by
  rw [h2] at hk
  obtain⟨g1,g2⟩:=h.whp k r hk
  exact⟨by omega,SR.all_mono (fun k hk=>ya (by have:=ju hk;omega)) r g2⟩⟩
structure qr8 (E:Env) (N:Nat) (l:List Oper) (C0:Conf) (tr:List Tr):Prop where
 len:tr.length=l.length
 loc:∀ i o t,l[i]? = some o→tr[i]? = some t→Loc E N l.toArray o t.nx (rs t.rd (runT (tr.take i) C0).sl) (hpF (runT (tr.take i) C0).hp) t.e∧t.e.wf t.nx=true∧t.nx=(runT (tr.take i) C0).nx∧t.dst=o.dst
theorem qg8 {E:Env} {N:Nat} {l:List Oper} {C0:Conf} {tr:List Tr} (h:qr8 E N l C0 tr):∀ {i j:Nat},i≤j→j≤tr.length→(runT (tr.take i) C0).nx≤(runT (tr.take j) C0).nx:=by
 have step:∀ (r:List Tr) (C:Conf) (t:Tr),(runT (r++[t]) C)=(runT r C).app t.dst t.e:=by
  intro r
  induction r with
  |nil=>exact fun C t=>rfl
  |cons a r ih=>exact fun C t=>ih _ t
 intro i j hij
 induction hij with
 |refl=>exact fun _=>Nat.le_refl _
 |step hm ih=>
  rename_i m
  intro hj
  refine Nat.le_trans (ih (by omega)) ?_
  have ht:tr[m]? = some (tr[m]'(by omega)):=List.getElem?_eq_getElem (by omega)
  have ho:l[m]? = some (l[m]'(by have:=h.len;omega)):=List.getElem?_eq_getElem _
  obtain⟨_,h2,h3,_⟩:=h.loc m _ _ ho ht
  rw [List.take_succ_eq_append_getElem (by omega),step]
  have:=(qdb h2).1
  rw [h3] at this
  exact this
theorem q3d {tr:List Tr} {i:Nat} {t:Tr} (ht:tr[i]? = some t) (C0:Conf):runT (tr.take (i+1)) C0=(runT (tr.take i) C0).app t.dst t.e:=by
 have step:∀ (r:List Tr) (C:Conf) (t:Tr),(runT (r++[t]) C)=(runT r C).app t.dst t.e:=by
  intro r
  induction r with
  |nil=>exact fun C t=>rfl
  |cons a r ih=>exact fun C t=>ih _ t
 obtain⟨hi,e⟩:=List.getElem?_eq_some_iff.1 ht
 rw [List.take_succ_eq_append_getElem hi,step,e]
def qj4 (l:List Oper) (L:Nat→Bool):Prop:=∀ j o,L j=true→l[j]? = some o→∀ d∈qam o,L d=true
theorem qj4.anc {l:List Oper} {L:Nat→Bool} (h:qj4 l L) {i j:Nat} (ha:AncR l i j):L j=true→L i=true:=by
 induction ha with
 |dep ho hi=>exact fun hj=>h _ _ hj ho _ hi
 |step ho hd _ ih=>exact fun hj=>ih (h _ _ hj ho _ hd)
theorem qqa {E:Env} {rd:Option Nat} {N:Nat} {id:Nat} {l:List Oper} {B:Bs} {C0:Conf} {tr:List Tr} {Q:Exit→AS→Prop} {s:AS} (hm:E.P.follows .mixedOrders=true) (hnd:l.toArray.all qb9=true) (hd:qdo 0 l=true)
  (hw:qr8 E N l C0 tr) (hc:chkT 0 tr (ancs l [])=true) (hs:SatC B C0 s) (hq:∀ s',SatC B (runT tr C0) s'→Q .normal s'):AWp E rd N (.region id l.toArray true) Q s:=by
 have hlen:=hw.len
 let NX:=(runT tr C0).nx
 let SC:=tr.map Tr.sch
 let HC:=tr.map fun t:Tr=>t.e.ch
 have hSC:∀ {j:Nat} {c:List (Nat×SV)},SC[j]? = some c→∃ t,tr[j]? = some t∧c=t.sch:=fun {j c} h=>by
  simp only [SC,List.getElem?_map] at h
  cases ht:tr[j]? with
  |none=>rw [ht] at h;simp at h
  |some t=>rw [ht] at h;simp at h;exact⟨t,rfl,h.symm⟩
 have hHC:∀ {j:Nat} {c:List (Nat×Option SR)},HC[j]? = some c→∃ t,tr[j]? = some t∧c=t.e.ch:=fun {j c} h=>by
  simp only [HC,List.getElem?_map] at h
  cases ht:tr[j]? with
  |none=>rw [ht] at h;simp at h
  |some t=>rw [ht] at h;simp at h;exact⟨t,rfl,h.symm⟩
 have hop:∀ {j:Nat} {t:Tr},tr[j]? = some t→∃ o,l[j]? = some o:=fun {j t} h=>⟨_,List.getElem?_eq_getElem (by have:=lt_of_getElem? h;omega)⟩
 have htk:tr.take tr.length=tr:=List.take_length
 have hnx:∀ {j:Nat} {t:Tr},tr[j]? = some t→t.nx=(runT (tr.take j) C0).nx∧t.e.nx=(runT (tr.take (j+1)) C0).nx:=fun {j t} h=>by
  obtain⟨o,ho⟩:=hop h
  refine⟨(hw.loc j o t ho h).2.2.1,?_⟩
  rw [q3d h]
  rfl
 have hmono:∀ {i j:Nat} {a b:Tr},i<j→tr[i]? = some a→tr[j]? = some b→a.e.nx≤b.nx:=fun {i j a b} hij ha hb=>by
  rw [(hnx ha).2,(hnx hb).1]
  exact qg8 hw (by omega) (by have:=lt_of_getElem? hb;omega)
 have hNX:∀ {j:Nat} {t:Tr},tr[j]? = some t→t.e.nx≤NX:=fun {j t} h=>by
  rw [(hnx h).2]
  have:=qg8 hw (i:=j+1) (j:=tr.length) (by have:=lt_of_getElem? h;omega) (Nat.le_refl _)
  rw [htk] at this
  exact this
 have h0nx:∀ {j:Nat} {t:Tr},tr[j]? = some t→C0.nx≤t.nx:=fun {j t} h=>by
  rw [(hnx h).1]
  exact qg8 hw (i:=0) (Nat.zero_le j) (by have:=lt_of_getElem? h;omega)
 have hanc:∀ j i,((ancs l []).getD j 0).testBit i=true→AncR l i j:=qss l [] (fun k o hk=>by simpa using hk) (fun j i h=>by simp [List.getD] at h)
 have pair:∀ {i j:Nat} {a b:Tr},i<j→tr[i]? = some a→tr[j]? = some b→AncR l i j∨indT a b=true:=fun {i j a b} hij ha hb=>by
  have:=qtd hc i j a b hij ha hb
  rw [Nat.zero_add,Nat.zero_add] at this
  exact this.imp_left fun h=>hanc j i h
 have hb0:B.n0≤C0.nx:=by obtain⟨_,h,_⟩:=hs;exact h.le
 refine q09 hm hnd hd (fun L s=>qj4 l L∧SatC B ⟨cf L 0 SC C0.sl,cf L 0 HC C0.hp,NX⟩ s) ⟨fun j o h=>by simp at h,?_⟩ ?_ ?_
 ·obtain⟨ρ,hdf,hR⟩:=hs
  have hC0:C0.nx≤NX:=by
   have:=qg8 hw (i:=0) (j:=tr.length) (Nat.zero_le _) (Nat.le_refl _)
   rw [htk] at this
   exact this
  refine⟨ρ,hdf.nx (Nat.le_trans hdf.le hC0),hR.congr (fun d=>?_) ?_ ?_⟩
  ·rw [qgz fun _ _=>rfl]
  ·show hpF (cf (fun _=>false) 0 HC C0.hp)=hpF C0.hp
   rw [qgz fun _ _=>rfl]
  ·have:=qg8 hw (i:=0) (j:=tr.length) (Nat.zero_le _) (Nat.le_refl _)
   rw [htk] at this
   exact this
 ·rintro L s' hall ⟨_,ρ,hdf,hR⟩
  refine hq s' ⟨ρ,hdf.nx hdf.le,hR.congr (fun d=>?_) ?_ (Nat.le_refl _)⟩
  ·have h1:=(qg0 tr 0 tr.length C0).1
   rw [htk] at h1
   rw [← h1]
   simp only [qa6]
   rw [qah (L:=fun j=>Nat.blt j (0+tr.length)) (L':=L) fun j c hc _=>by
    obtain⟨t,ht,_⟩:=hSC hc
    have hj:=lt_of_getElem? ht
    rw [hall (0+j) (by omega)]
    exact ya (by omega)]
  ·have h1:=(qg0 tr 0 tr.length C0).2
   rw [htk] at h1
   rw [← h1]
   funext k
   unfold hpF
   simp only [qa6]
   rw [qah (L:=fun j=>Nat.blt j (0+tr.length)) (L':=L) fun j c hc _=>by
    obtain⟨t,ht,_⟩:=hHC hc
    have hj:=lt_of_getElem? ht
    rw [hall (0+j) (by omega)]
    exact ya (by omega)]
 ·-- the steps
  suffices H:∀ (i:Nat) (o:Oper),l[i]? = some o→∀ L s,L i=false→(∀ j,(qam o).contains j=true→L j=true)→(qj4 l L∧SatC B ⟨cf L 0 SC C0.sl,cf L 0 HC C0.hp,NX⟩ s) →
    AOps E none N l.toArray [o] (fun s=>qj4 l (addL L i)∧SatC B ⟨cf (addL L i) 0 SC C0.sl,cf (addL L i) 0 HC C0.hp,NX⟩ s) s by
   have gen:∀ (r:List Oper) (i0:Nat),(∀ k o,r[k]? = some o→l[i0+k]? = some o)→qiw E N l.toArray (fun L s=>qj4 l L∧SatC B ⟨cf L 0 SC C0.sl,cf L 0 HC C0.hp,NX⟩ s) i0 r:=by
    intro r
    induction r with
    |nil=>exact fun _ _=>trivial
    |cons o r ih=>
     intro i0 hr
     exact⟨H i0 o (by have:=hr 0 o rfl;simpa using this),ih (i0+1) fun k o' hk=>by rw [show i0+1+k=i0+(k+1) by omega];exact hr (k+1) o' (by simpa using hk)⟩
   exact gen l 0 fun k o hk=>by simpa using hk
  rintro i o ho L ⟨t0,S,df⟩ hLi hdeps ⟨hdown,ρ,hdf,hR⟩
  simp only at hdf hR
  have hil:=lt_of_getElem? ho
  obtain⟨t,ht⟩:∃ t,tr[i]? = some t:=⟨_,List.getElem?_eq_getElem (by omega)⟩
  obtain⟨hL,hwf,hnxi,hdst⟩:=hw.loc i o t ho ht
  obtain⟨w1,w2,w3⟩:=qdb hwf
  -- who has done what, told by the text
  have anc_in:∀ {j:Nat},AncR l j i→L j=true:=fun {j} h=>by
   cases h with
   |dep ho' hi=>
    rw [ho] at ho'
    simp only [Option.some.injEq] at ho'
    subst ho'
    exact hdeps j (by simpa using hi)
   |step ho' hd' h'=>
    rw [ho] at ho'
    simp only [Option.some.injEq] at ho'
    subst ho'
    exact hdown.anc h' (hdeps _ (by simpa using hd'))
  have not_after:∀ {j:Nat},AncR l i j→L j=false:=fun {j} h=>by
   cases hj:L j with
   |false=>rfl
   |true=>rw [hdown.anc h hj] at hLi;simp at hLi
  have agree:∀ {j:Nat} {b:Tr},tr[j]? = some b→(∀ (hji:j<i),indT b t=true→False)→(∀ (hij:i<j),indT t b=true→False)→L j=Nat.blt j i:=fun {j b} hb h1 h2=>by
   rcases Nat.lt_trichotomy j i with hji|hji|hji
   ·rw [ya hji]
    rcases pair hji hb ht with h|h
    ·exact anc_in h
    ·exact (h1 hji h).elim
   ·subst hji
    rw [hLi]
    cases hbb:Nat.blt j j with
    |false=>rfl
    |true=>have:=ju hbb;omega
   ·have:Nat.blt j i=false:=by
     cases hbb:Nat.blt j i with
     |false=>rfl
     |true=>have:=ju hbb;omega
    rw [this]
    rcases pair hji ht hb with h|h
    ·exact not_after h
    ·exact (h2 hji h).elim
  have hslA:∀ d,memN t.rd d=true→lkS (cf L 0 SC C0.sl) d=lkS (runT (tr.take i) C0).sl d:=fun d hd=>by
   have h1:=(qg0 tr 0 i C0).1
   rw [← h1]
   simp only [qa6]
   rw [qah (L:=L) (L':=fun j=>Nat.blt j (0+i)) fun j c hc hl=>by
    obtain⟨b,hb,rfl⟩:=hSC hc
    have hdm:=ql1 hl
    rw [Nat.zero_add,Nat.zero_add]
    refine agree hb (fun hji h=>?_) (fun hij h=>?_)
    ·simp only [indT,Bool.and_eq_true] at h
     have:=qb2 h.1.1.1.1.1.1.1 hdm
     rw [hd] at this
     simp at this
    ·simp only [indT,Bool.and_eq_true] at h
     have:=qb2 h.1.1.1.1.1.2 hdm
     rw [hd] at this
     simp at this]
  have hhpA:resF t.e.ks (hpF (runT (tr.take i) C0).hp)=resF t.e.ks (hpF (cf L 0 HC C0.hp)):=by
   funext k
   unfold resF
   cases hk:memN t.e.ks k with
   |false=>rfl
   |true=>
    simp only [cond_true]
    have h1:=(qg0 tr 0 i C0).2
    rw [← h1]
    unfold hpF
    simp only [qa6]
    rw [qah (L:=fun j=>Nat.blt j (0+i)) (L':=L) fun j c hc hl=>by
     obtain⟨b,hb,rfl⟩:=hHC hc
     have hdm:=qjn hl
     rw [Nat.zero_add,Nat.zero_add]
     refine (agree hb (fun hji h=>?_) (fun hij h=>?_)).symm
     ·simp only [indT,Bool.and_eq_true] at h
      have:=qb2 h.1.1.1.1.2 hdm
      rw [hk] at this
      simp at this
     ·simp only [indT,Bool.and_eq_true] at h
      have:=qb2 h.1.1.2 hdm
      rw [hk] at this
      simp at this]
  refine hL _ none _ [] ρ t0 S (fun d v hd'=>?_) (by rw [hhpA];exact hR.hp.res _) fun ρ' S' hp=>qi ⟨fun j o' hj ho' d hd'=>?_,ρ',?_,?_⟩
  ·obtain⟨g1,g2⟩:=za7 hd'
   exact hR.sl d v (by rw [hslA d g1];exact g2)
  ·unfold addL at hj ⊢
   rcases Bool.or_eq_true_iff.1 hj with hj|hj
   ·have:=Nat.eq_of_beq_eq_true hj
    subst this
    rw [ho] at ho'
    simp only [Option.some.injEq] at ho'
    subst ho'
    rw [hdeps d (by simpa using hd'),Bool.or_true]
   ·rw [hdown j o' hj ho' d hd',Bool.or_true]
  ·have hp2:qd8 ρ S t.nx (hpF (cf L 0 HC C0.hp)) t.e ρ' S':=⟨hp.old,by rw [← hhpA];exact hp.sat,hp.len,by rw [← hhpA];exact hp.fr,by rw [← hhpA];exact hp.loc⟩
   have:=hdf.stepG (C':=⟨cf (addL L i) 0 SC C0.sl,cf (addL L i) 0 HC C0.hp,NX⟩) hR.hp hp2 (by have:=hb0;have:=h0nx ht;omega) hdf.le
   cases o.dst <;> exact this
  ·have hp2:qd8 ρ S t.nx (hpF (cf L 0 HC C0.hp)) t.e ρ' S':=⟨hp.old,by rw [← hhpA];exact hp.sat,hp.len,by rw [← hhpA];exact hp.fr,by rw [← hhpA];exact hp.loc⟩
   have old_lt:∀ k,Nat.blt k C0.nx=true→(Nat.blt k t.nx ||Nat.ble t.e.nx k)=true:=fun k hk=>by
    have:=h0nx ht
    rw [ya (by have:=ju hk;omega),Bool.true_or]
   have ear_lt:∀ {j:Nat} {b:Tr},j<i→tr[j]? = some b→∀ k,Nat.blt k b.e.nx=true→(Nat.blt k t.nx ||Nat.ble t.e.nx k)=true:=fun {j b} hji hb k hk=>by
    have:=hmono hji hb ht
    rw [ya (by have:=ju hk;omega),Bool.true_or]
   have lat:∀ {j:Nat} {b:Tr},tr[j]? = some b→L j=true→¬ j<i→indT t b=true∧i<j:=fun {j b} hb hLj hji=>by
    have hij:i<j:=by
     rcases Nat.lt_trichotomy i j with h|h|h
     ·exact h
     ·subst h;rw [hLi] at hLj;simp at hLj
     ·omega
    rcases pair hij ht hb with h|h
    ·rw [not_after h] at hLj;simp at hLj
    ·exact⟨h,hij⟩
   have hst:=hR.stepG (d:=o.dst) (nx:=t.nx) (NX:=NX) (Nat.le_refl _) (all_mono (fun k hk=>ya (by have:=ju hk;have:=hNX ht;omega)) _ w2) (fun q hq'=>⟨by have:=(w3 q hq').1;have:=hNX ht;omega,fun r hr=>SR.all_mono (fun k hk=>ya (by have:=ju hk;have:=hNX ht;omega)) r ((w3 q hq').2.2 r hr)⟩) (fun d v hd'=>?_) (fun k r hk=>?_) hp2
   ·refine SatR.congr (S0:=B.S0) (F:=B.F) (C:=⟨match o.dst with|some d=>(d,t.e.val)::cf L 0 SC C0.sl|none=>cf L 0 SC C0.sl,t.e.ch++cf L 0 HC C0.hp,NX⟩) ?_ (fun d=>?_) ?_ (Nat.le_refl _)
    ·cases hod:o.dst with
     |none=>rw [hod] at hst;exact hst
     |some x=>rw [hod] at hst;exact hst
    ·have hSi:SC[i]? = some t.sch:=by simp only [SC,List.getElem?_map,ht];rfl
     have hadd:=qjh (L:=L) (k:=d) (i:=0) (j0:=i) hSi fun j c hij hc hLj hl=>by
      obtain⟨b,hb,rfl⟩:=hSC hc
      rw [Nat.zero_add] at hLj
      have h:=(lat hb hLj (by omega)).1
      simp only [indT,Bool.and_eq_true] at h
      have h2:=qb2 h.1.1.1.1.1.1.2 (ql1 hl)
      cases hq':lkS b.sch d with
      |none=>rfl
      |some w=>
       have:=ql1 (t:=b) (d:=d) (by rw [hq'];simp)
       rw [h2] at this
       simp at this
     rw [Nat.zero_add,hLi] at hadd
     simp only [cond_false] at hadd
     have e:lkS (match o.dst with|some d=>(d,t.e.val)::cf L 0 SC C0.sl|none=>cf L 0 SC C0.sl) d=lkS (t.sch++cf L 0 SC C0.sl) d:=by
      unfold Tr.sch
      rw [hdst]
      cases o.dst <;> rfl
     rw [e,qav]
     simp only [qa6]
     rw [hadd]
     cases lkS t.sch d <;> rfl
    ·rw [qxo]
     funext k
     have hHi:HC[i]? = some t.e.ch:=by simp only [HC,List.getElem?_map,ht];rfl
     have hadd:=qjh (L:=L) (k:=k) (i:=0) (j0:=i) hHi fun j c hij hc hLj hl=>by
      obtain⟨b,hb,rfl⟩:=hHC hc
      rw [Nat.zero_add] at hLj
      have h:=(lat hb hLj (by omega)).1
      simp only [indT,Bool.and_eq_true] at h
      have h2:=qb2 h.1.1.1.2 (qjn hl)
      cases hq':lkS b.e.ch k with
      |none=>rfl
      |some w=>
       have:=qjn (ch:=b.e.ch) (k:=k) (by rw [hq'];simp)
       rw [h2] at this
       simp at this
     rw [Nat.zero_add,hLi] at hadd
     simp only [cond_false] at hadd
     unfold chF hpF
     simp only [qa6]
     rw [hadd]
     cases lkS t.e.ch k <;> rfl
   ·simp only [qa6] at hd'
    cases hlast:v7 L d 0 SC with
    |none=>
     rw [hlast] at hd'
     simp only at hd'
     obtain⟨ρ0,_,hR0⟩:=hs
     exact all_mono old_lt v (hR0.wsl d v hd')
    |some u=>
     rw [hlast] at hd'
     simp only [Option.some.injEq] at hd'
     subst hd'
     obtain⟨j,c,hc',hLj,hl⟩:=qed hlast
     obtain⟨b,hb,rfl⟩:=hSC hc'
     rw [Nat.zero_add] at hLj
     obtain⟨ob,hob⟩:=hop hb
     have hu:u=b.e.val:=by
      unfold Tr.sch at hl
      cases hbd:b.dst with
      |none=>rw [hbd] at hl;simp [lkS] at hl
      |some x=>
       rw [hbd] at hl
       simp only [lkS] at hl
       cases hbx:Nat.beq x d with
       |true=>rw [hbx] at hl;simp only [cond_true,Option.some.injEq] at hl;exact hl.symm
       |false=>rw [hbx] at hl;simp at hl
     subst hu
     by_cases hji:j<i
     ·exact all_mono (ear_lt hji hb) _ (qdb (hw.loc j ob b hob hb).2.1).2.1
     ·have h:=(lat hb hLj hji).1
      simp only [indT,Bool.and_eq_true] at h
      exact h.1.2
   ·have hk':=vu hk
    simp only [qa6] at hk'
    cases hlast:v7 L k 0 HC with
    |none=>
     rw [hlast] at hk'
     simp only at hk'
     obtain⟨ρ0,_,hR0⟩:=hs
     obtain⟨g1,g2⟩:=hR0.whp k r (by unfold hpF;rw [hk'])
     exact⟨.inl (by have:=h0nx ht;omega),SR.all_mono old_lt r g2⟩
    |some u=>
     rw [hlast] at hk'
     simp only [Option.some.injEq] at hk'
     subst hk'
     obtain⟨j,c,hc',hLj,hl⟩:=qed hlast
     obtain⟨b,hb,rfl⟩:=hHC hc'
     rw [Nat.zero_add] at hLj
     obtain⟨ob,hob⟩:=hop hb
     obtain⟨g1,_,g3⟩:=(qdb (hw.loc j ob b hob hb).2.1).2.2 _ (jv hl)
     by_cases hji:j<i
     ·exact⟨.inl (by have:=hmono hji hb ht;simp only at g1;omega),SR.all_mono (ear_lt hji hb) r (g3 r rfl)⟩
     ·have h:=(lat hb hLj hji).1
      simp only [indT,Bool.and_eq_true] at h
      have h2:=List.all_eq_true.1 h.2 _ (jv hl)
      simp only [Bool.and_eq_true,Bool.or_eq_true] at h2
      exact⟨h2.1.imp ju Nat.le_of_ble_eq_true,h2.2⟩
def opTm:Operand→Option Nat
 | .tmp i=>some i
 | _=>none
def rdOf (l:List Oper) (o:Oper):List Nat:=o.op.operands.toList.filterMap opTm++match o.guard with
 |some (j,_)=>dstL (qsd l j)
 |none=>[]
def wpDr (E:Env) (N:Nat) (l:List Oper) (bxs:List Nat):Nat→List Oper→List Tr→(List Tr→Conf→Prop)→Conf→Prop
 | _,[],tr,K,C=>K tr C
 |i,o::r,tr,K,⟨sl,hp,nx⟩=>opG E N l bxs nx (rs (rdOf l o) sl) (hpF hp) (gdW (isGd i l) (fcE fun e=>qn2 sl hp nx o.dst (wpDr E N l bxs (i+1) r (tr++[⟨rdOf l o,o.dst,e,nx⟩]) K) e)) o
theorem qva (r:List Tr) (t:Tr):∀ C,runT (r++[t]) C=(runT r C).app t.dst t.e:=by
 induction r with
 |nil=>exact fun C=>rfl
 |cons a r ih=>exact fun C=>ih _
theorem qye {E:Env} {N:Nat} {l:List Oper} {bxs:List Nat} {C0:Conf} {K:List Tr→Conf→Prop}:∀ {r:List Oper} {i:Nat} {tr:List Tr} {C:Conf},(∀ k,r[k]? = l[i+k]?)→tr.length=i→i+r.length=l.length→C=runT tr C0 →
  (∀ j o t,l[j]? = some o→tr[j]? = some t→Loc E N l.toArray o t.nx (rs t.rd (runT (tr.take j) C0).sl) (hpF (runT (tr.take j) C0).hp) t.e∧t.e.wf t.nx=true∧t.nx=(runT (tr.take j) C0).nx∧t.dst=o.dst) →
  wpDr E N l bxs i r tr K C→∃ tr',qr8 E N l C0 tr'∧K tr' (runT tr' C0)
 | [],i,tr,C,hr,hl,hn,hC,hw,h=>⟨tr,⟨by simpa [hl] using hn,hw⟩,by rw [← hC];exact h⟩
 |o::r,i,tr,⟨sl,hp,nx⟩,hr,hl,hn,hC,hw,h=>by
  obtain⟨e,hL,h⟩:=qur h
  obtain⟨e,hL,h⟩:=qtz hL h
  rw [qto] at h
  obtain⟨hwf,h⟩:=ql4 h
  ·refine qye (r:=r) (i:=i+1) (tr:=tr++[⟨rdOf l o,o.dst,e,nx⟩]) (fun k=>?_) (by simp [hl]) (by simp at hn;omega) (by rw [qva,← hC]) (fun j o' t ho ht=>?_) h
   ·have:=hr (k+1)
    rw [show i+1+k=i+(k+1) by omega,← this]
    rfl
   ·by_cases hj:j<tr.length
    ·rw [List.getElem?_append_left hj] at ht
     rw [List.take_append_of_le_length (by omega)]
     exact hw j o' t ho ht
    ·have hji:j=tr.length:=by
      have:=lt_of_getElem? ht
      simp at this
      omega
     subst hji
     simp only [List.getElem?_concat_length,Option.some.injEq] at ht
     subst ht
     have ho2:=hr 0
     rw [← hl,Nat.add_zero,ho] at ho2
     simp only [List.getElem?_cons_zero,Option.some.injEq] at ho2
     subst ho2
     rw [List.take_left,← hC]
     exact⟨hL,hwf,rfl,rfl⟩
def drB (E:Env) (l:List Oper) (tr:List Tr):Bool:=E.P.follows .mixedOrders && l.toArray.all qb9 && qdo 0 l && chkT 0 tr (ancs l [])
structure DrOk (E:Env) (l:List Oper) (tr:List Tr):Prop where
 ok:drB E l tr=true
theorem qd {E:Env} {rd:Option Nat} {N:Nat} {B:Bs} {Q:Exit→Conf→Prop} {C:Conf} {id:Nat} {ops:Array Oper} (bxs:List Nat)
  (h:wpDr E N ops.toList bxs 0 ops.toList [] (fun tr C'=>DrOk E ops.toList tr∧Q .normal C') C):Sm E rd N B (.region id ops true) Q C:=⟨fun s hs=>by
 obtain⟨tr,hw,hb,hq⟩:=qye (C0:=C) (l:=ops.toList) (i:=0) (tr:=[]) (fun k=>by rw [Nat.zero_add]) rfl (by simp) rfl (fun j o t _ ht=>by simp at ht) h
 have hb:=hb.ok
 simp only [drB,Bool.and_eq_true] at hb
 have e:ops=ops.toList.toArray:=by simp
 rw [e]
 exact qqa hb.1.1.1 hb.1.1.2 hb.1.2 hw hb.2 hs fun s' hs'=>⟨_,hq,hs'⟩⟩
theorem cSd {P:Prop} (h:P:=by first|exact rfl|exact trivial|exact fun _=>rfl|exact q9q _|exact DrOk.mk (by kernel_rfl)|exact qch fun _=>rfl|omega|(simp only [List.length_map,List.length_append,List.length_cons,List.length_nil,List.length_take,List.length_drop];omega)|exact zbb):P:=h
theorem exr {α : Type} {A K : α→Prop} {a : α} (k:K a) (h:A a:=by exact rfl):∃ x,A x∧K x:=⟨a,h,k⟩
theorem cpe {E:Env} {H:Nat→Option SR} {nx:Nat} {f:FuncId} {vs:List SV} {args:List AV} {r0:AV} {k:Ef→Prop} (hc:∀ S,qn E f args S fun r S'=>r=r0∧S'=S) (hk:k ⟨nf r0,SV.kss vs,[],nx⟩) (ha:qr9 E.P f (frzs (resF (SV.kss vs) H) vs)=some args:=by exact rfl):∃ e,jo E f vs nx H e∧k e:=⟨_,q7l hc ha,hk⟩
end Go.Av
