/- Contracts and plain facts that the closing text leans on (part 5). No condition of their own beyond those that each states. -/
import Derived.Test.YtneejjefekdgjaaGreatDoorK4
set_option maxRecDepth 100000
set_option linter.unusedVariables false
set_option linter.unusedSimpArgs false
namespace Go.Av
open Go Go.RowKit
inductive SV where
 |a (x:AV)
 |i (n:Int)
 |s (l:List UInt8)
 |tt
 |ff
 |b (c:Bool)
 |p (q:Prop) (h:Decidable q)
 |bx (k off:Nat)
 |tp (k:Nat)
 |ag (cs:List SV)
 |tu (cs:List SV)
 |fn (f:Fn) (xs ys:List SV)
 |ifc (t:TypeId) (x:SV)
def bxAt:AV→Nat→AV
 | .bx o v _,off=>.bx o v off
 | .os o v _ _ _,off=>.bx o v off
 | _,off=>.bx 0 0 off
def tpAt (x:AV):AV:=bif x.one then x else Bv false
mutual
def SV.ev (ρ : Nat→AV):SV→AV
 | .a x=>x
 | .i n=>Iv n
 | .s l=>Sv l
 | .tt=>Bv true
 | .ff=>Bv false
 | .b c=>Bv c
 | .p q h=>Bv (@decide q h)
 | .bx k off=>bxAt (ρ k) off
 | .tp k=>tpAt (ρ k)
 | .ag cs=>.ag (SV.evs ρ cs)
 | .tu cs=>.tu (SV.evs ρ cs)
 | .fn f xs ys=>.fn f (SV.evs ρ xs) (SV.evs ρ ys)
 | .ifc t x=>.ifc t (SV.ev ρ x)
def SV.evs (ρ : Nat→AV):List SV→List AV
 | []=>[]
 |x::r=>SV.ev ρ x::SV.evs ρ r
end
mutual
def SV.all (f:Nat→Bool):SV→Bool
 | .bx k _=>f k
 | .tp k=>f k
 | .ag cs=>SV.alls f cs
 | .tu cs=>SV.alls f cs
 | .fn _ xs ys=>SV.alls f xs && SV.alls f ys
 | .ifc _ x=>SV.all f x
 | _=>true
def SV.alls (f:Nat→Bool):List SV→Bool
 | []=>true
 |x::r=>SV.all f x && SV.alls f r
end
theorem w8 (ρ : Nat→AV):∀ l:List SV,SV.evs ρ l=l.map (SV.ev ρ)
 | []=>rfl
 |x::r=>by rw [SV.evs,w8 ρ r];rfl
mutual
theorem qc6 {f:Nat→Bool} {ρ ρ':Nat→AV} (h:∀ k,f k=true→ρ' k = ρ k):∀ v:SV,v.all f=true→v.ev ρ'=v.ev ρ
 | .a _,_=>rfl
 | .i _,_=>rfl
 | .s _,_=>rfl
 | .tt,_=>rfl
 | .ff,_=>rfl
 | .b _,_=>rfl
 | .p _ _,_=>rfl
 | .bx k off,hv=>by simp only [SV.all] at hv;simp only [SV.ev,h k hv]
 | .tp k,hv=>by simp only [SV.all] at hv;simp only [SV.ev,h k hv]
 | .ag cs,hv=>by simp only [SV.all] at hv;simp only [SV.ev,qa6 h cs hv]
 | .tu cs,hv=>by simp only [SV.all] at hv;simp only [SV.ev,qa6 h cs hv]
 | .fn f xs ys,hv=>by simp only [SV.all,Bool.and_eq_true] at hv;simp only [SV.ev,qa6 h xs hv.1,qa6 h ys hv.2]
 | .ifc t x,hv=>by simp only [SV.all] at hv;simp only [SV.ev,qc6 h x hv]
theorem qa6 {f:Nat→Bool} {ρ ρ':Nat→AV} (h:∀ k,f k=true→ρ' k = ρ k):∀ l:List SV,SV.alls f l=true→SV.evs ρ' l=SV.evs ρ l
 | [],_=>rfl
 |x::r,hv=>by simp only [SV.alls,Bool.and_eq_true] at hv;simp only [SV.evs,qc6 h x hv.1,qa6 h r hv.2]
end
mutual
theorem all_mono {f g:Nat→Bool} (h:∀ k,f k=true→g k=true):∀ v:SV,v.all f=true→v.all g=true
 | .a _,_=>rfl
 | .i _,_=>rfl
 | .s _,_=>rfl
 | .tt,_=>rfl
 | .ff,_=>rfl
 | .b _,_=>rfl
 | .p _ _,_=>rfl
 | .bx k off,hv=>h k hv
 | .tp k,hv=>h k hv
 | .ag cs,hv=>qdw h cs hv
 | .tu cs,hv=>qdw h cs hv
 | .fn f xs ys,hv=>by simp only [SV.all,Bool.and_eq_true] at hv ⊢;exact⟨qdw h xs hv.1,qdw h ys hv.2⟩
 | .ifc t x,hv=>all_mono h x hv
theorem qdw {f g:Nat→Bool} (h:∀ k,f k=true→g k=true):∀ l:List SV,SV.alls f l=true→SV.alls g l=true
 | [],_=>rfl
 |x::r,hv=>by simp only [SV.alls,Bool.and_eq_true] at hv ⊢;exact⟨all_mono h x hv.1,qdw h r hv.2⟩
end
inductive SR where
 |cells (T:TypeId) (cs:List SV)
 |tip (sz:Nat) (T:TypeId) (xs:List AV)
 |own (sz:Nat) (T:TypeId) (xs:List AV)
 |obj (P:AObj→AV→Prop)
  |rows (T:TypeId) (ys:List AV) (cs:List SV)
def SR.all (f:Nat→Bool):SR→Bool
 | .cells _ cs=>SV.alls f cs
 | .tip _ _ _=>true
 | .own _ _ _=>true
 | .obj _=>true
 | .rows _ _ cs=>SV.alls f cs
structure qdd (c:AV):Prop where
 val:∀ (G:Gh) (v:Value),Rel G c v→∃ base,v = .slice base 0 0
 one:c.one=true
 len:lenA c=some 0
 bx:∀ (o ver off len cap:Nat),c≠.os o ver off len (cap+1)
 nb:∀ (o ver off:Nat),c≠.bx o ver off
 ns:∀ (sz:Nat) (xs:List AV) (t:Nat),c≠.sl sz xs (some t)
theorem qss (base:Option Addr):qdd (.v (.slice base 0 0)):=⟨fun G v h=>by cases h;exact⟨base,rfl⟩,rfl,rfl,by simp,by simp,by simp⟩
theorem qpi (o v f:Nat):qdd (.os o v f 0 0):=⟨fun G v h=>by cases h;exact⟨_,rfl⟩,rfl,rfl,by simp,by simp,by simp⟩
def OwnS (S:List AObj) (sz:Nat) (T:TypeId) (xs:List AV) (c:AV):Prop:=
 (xs=[]∧qdd c)∨∃ o ver cap pad,c = .os o ver 0 xs.length (cap+1)∧S[o]? = some (.cells ver T (flat xs++pad))∧(flat xs++pad).length=(cap+1) * sz∧(∀ x∈xs,x.cells.length=sz)∧xs.length≤cap+1∧cap+1≤maxLen
def zq:AV→Option Nat
 | .bx o _ _=>some o
 | .sl _ _ (some t)=>some t
 | .os o _ _ _ (_+1)=>some o
 | .mp o=>some o
 | _=>none
def SR.ok (ρ : Nat→AV) (S:List AObj) (c:AV):SR→Prop
 | .cells T cs=>∃ o v,c = .bx o v 0∧S[o]? = some (.cells v T (SV.evs ρ cs))∧v=0
 | .tip sz T xs=>TipO 0 S sz T xs c
 | .own sz T xs=>OwnS S sz T xs c
 | .obj P=>∃ o x,zq c=some o∧S[o]? = some x∧x≠.dfr∧P x c
 | .rows T ys cs=>OwnS S 1 T (ys++SV.evs ρ cs) c
theorem SR.all_mono {f g:Nat→Bool} (h:∀ k,f k=true→g k=true):∀ r:SR,r.all f=true→r.all g=true
 | .cells _ cs,hr=>qdw h cs hr
 | .tip _ _ _,_=>rfl
 | .own _ _ _,_=>rfl
 | .obj _,_=>rfl
 | .rows _ _ cs,hr=>qdw h cs hr
theorem qdd.nm {o:Nat} (h:qdd (.mp o)):False:=by
 obtain⟨_,e⟩:=h.val ⟨fun _=>none,fun _=>⟨0,0,0,true⟩,o+1⟩ (.map (some 0)) (.mp _ _ (Nat.lt_succ_self _) rfl rfl)
 cases e
theorem OwnS.loc {S:List AObj} {sz:Nat} {T:TypeId} {xs:List AV} {c:AV} (h:OwnS S sz T xs c) {o:Nat} (ho:zq c=some o):∃ ver cap pad,c = .os o ver 0 xs.length (cap+1)∧S[o]? = some (.cells ver T (flat xs++pad))∧(flat xs++pad).length=(cap+1) * sz∧(∀ x∈xs,x.cells.length=sz)∧xs.length≤cap+1∧cap+1≤maxLen:=by
 rcases h with⟨_,h⟩ | ⟨o',ver,cap,pad,rfl,h⟩
 ·unfold zq at ho
  split at ho
  ·exact absurd rfl (h.nb _ _ _)
  ·exact absurd rfl (h.ns _ _ _)
  ·exact absurd rfl (h.bx _ _ _ _ _)
  ·exact h.nm.elim
  ·simp at ho
 ·simp only [zq,Option.some.injEq] at ho
  subst ho;exact⟨ver,cap,pad,rfl,h⟩
theorem qdd.loc {c:AV} (h:qdd c):zq c=none:=by
 unfold zq;split
 ·exact absurd rfl (h.nb _ _ _)
 ·exact absurd rfl (h.ns _ _ _)
 ·exact absurd rfl (h.bx _ _ _ _ _)
 ·exact h.nm.elim
 ·rfl
theorem qdd.wk {c:AV} (h:qdd c) (sz:Nat):∀ (G:Gh) (v:Value),Rel G c v→Rel G (.sl sz [] none) v:=fun G v hv=>by
 obtain⟨base,rfl⟩:=h.val G v hv;exact .sl0 sz none _ _ (by simp)
theorem OwnS.of {S S':List AObj} {sz:Nat} {T:TypeId} {xs:List AV} {c:AV} (h:OwnS S sz T xs c) (hs:∀ o,zq c=some o→S'[o]? = S[o]?):OwnS S' sz T xs c:=by
 rcases h with h | ⟨o,ver,cap,pad,rfl,h1,h2⟩
 ·exact .inl h
 ·exact .inr ⟨o,ver,cap,pad,rfl,(hs o rfl).trans h1,h2⟩
theorem SR.ok_lt {ρ : Nat→AV} {S:List AObj} {c:AV} {r:SR} (h:r.ok ρ S c) {o:Nat} (ho:zq c=some o):o<S.length:=by
 cases r with
 |cells T cs=>
  obtain⟨o',v,rfl,h,_⟩:=h;simp only [zq,Option.some.injEq] at ho;subst ho
  exact lt_of_getElem? h
 |tip sz T xs=>
  rcases h with (⟨_,rfl⟩ | ⟨t,rfl,ht,_⟩) | ⟨_,o',v,f,rfl⟩
  ·simp [zq] at ho
  ·simp only [zq,Option.some.injEq] at ho
   subst ho;exact lt_of_getElem? ht
  ·simp [zq] at ho
 |own sz T xs=>
  obtain⟨_,_,_,_,h,_⟩:=OwnS.loc h ho
  exact lt_of_getElem? h
 |obj P=>
  obtain⟨o',x,h1,h2,_⟩:=h;rw [h1,Option.some.injEq] at ho;subst ho
  exact lt_of_getElem? h2
 |rows T ys cs=>
  obtain⟨_,_,_,_,h,_⟩:=OwnS.loc h ho;exact lt_of_getElem? h
theorem SR.ok_of {ρ ρ':Nat→AV} {S S':List AObj} {c:AV} {r:SR} {f:Nat→Bool} (hf:r.all f=true) (hr:∀ k,f k=true→ρ' k = ρ k) (h:r.ok ρ S c) (hs:∀ o,zq c=some o→S'[o]? = S[o]?):r.ok ρ' S' c:=by
 cases r with
 |cells T cs=>
  obtain⟨o,v,rfl,h,h0⟩:=h;refine⟨o,v,rfl,?_,h0⟩;rw [hs o rfl,qa6 hr cs hf]
  exact h
 |tip sz T xs=>
  rcases h with (⟨h1,h2⟩ | ⟨t,rfl,ht,h0⟩)|h
  ·exact .inl (.inl ⟨h1,h2⟩)
  ·exact .inl (.inr ⟨t,rfl,(hs t rfl).trans ht,h0⟩)
  ·exact .inr h
 |own sz T xs=>exact OwnS.of h hs
 |obj P=>
  obtain⟨o,x,h1,h2,h3⟩:=h
  exact⟨o,x,h1,(hs o h1).trans h2,h3⟩
 |rows T ys cs=>
  have h2:=OwnS.of (S':=S') (show OwnS S 1 T (ys++SV.evs ρ cs) c from h) hs
  show OwnS S' 1 T (ys++SV.evs ρ' cs) c
  rw [qa6 hr cs hf];exact h2
structure SatF (S:List AObj) (ρ : Nat→AV) (H:Nat→Option SR):Prop where
 ok:∀ k r,H k=some r→r.ok ρ S (ρ k)
 sep:∀ k k' r r',k≠k'→H k=some r→H k'=some r'→∀ o,zq (ρ k)=some o→zq (ρ k')≠some o
def lkS {α : Type}:List (Nat×α)→Nat→Option α
 | [],_=>none
 |(i,v)::r,k=>bif Nat.beq i k then some v else lkS r k
theorem qd7 {α : Type}:∀ (l r:List (Nat×α)) (k:Nat),lkS (l++r) k=match lkS l k with|some v=>some v|none=>lkS r k
 | [],_,_=>rfl
 |(i,v)::l,r,k=>by
  simp only [List.cons_append,lkS]
  cases Nat.beq i k
  ·simp only [cond_false];exact qd7 l r k
  ·rfl
def hpF (hp:List (Nat×Option SR)) (k:Nat):Option SR:=match lkS hp k with|some r=>r|none=>none
def chF (ch:List (Nat×Option SR)) (H:Nat→Option SR) (k:Nat):Option SR:=match lkS ch k with|some r=>r|none=>H k
theorem q6b (ch hp:List (Nat×Option SR)):hpF (ch++hp)=chF ch (hpF hp):=by
 funext k;unfold hpF chF;rw [qd7]
 cases lkS ch k <;> rfl
def memN (ks:List Nat) (k:Nat):Bool:=ks.any (Nat.beq k)
def resF (ks:List Nat) (H:Nat→Option SR) (k:Nat):Option SR:=bif memN ks k then H k else none
theorem we {ks:List Nat} {H:Nat→Option SR} {k:Nat} {r:SR} (h:resF ks H k=some r):memN ks k=true∧H k=some r:=by
 unfold resF at h
 cases hm:memN ks k with
 |true=>rw [hm] at h;exact⟨rfl,h⟩
 |false=>rw [hm] at h;simp at h
theorem SatF.res {S:List AObj} {ρ : Nat→AV} {H:Nat→Option SR} (h:SatF S ρ H) (ks:List Nat):SatF S ρ (resF ks H):=
 ⟨fun k r hk=>h.ok k r (we hk).2,fun k k' r r' a6 h1 h2=>h.sep k k' r r' a6 (we h1).2 (we h2).2⟩
structure Ef where
 val:SV
 ks:List Nat
 ch:List (Nat×Option SR)
 nx:Nat
def Ef.wf (e:Ef) (nx:Nat):Bool:=Nat.ble nx e.nx && e.val.all (fun k=>Nat.blt k e.nx) && e.ch.all (fun p=>Nat.blt p.1 e.nx && (memN e.ks p.1 ||Nat.ble nx p.1) && match p.2 with|some r=>r.all (fun k=>Nat.blt k e.nx)|none=>true)
def SlOk (ρ : Nat→AV) (t:Nat→AV) (sl:List (Nat×SV)):Prop:=∀ d v,lkS sl d=some v→t d=v.ev ρ
structure qhi (ρ : Nat→AV) (S:List AObj) (nx:Nat) (H:Nat→Option SR) (e:Ef) (ρ':Nat→AV) (S':List AObj):Prop where
 old:∀ k,(k<nx∨e.nx≤k)→ρ' k = ρ k
 sat:SatF S' ρ' (chF e.ch (resF e.ks H))
 len:S.length≤S'.length
 fr:∀ j,j<S.length→(∀ k r,resF e.ks H k=some r→zq (ρ k)≠some j)→S'[j]? = S[j]?
 loc:∀ k r,chF e.ch (resF e.ks H) k=some r→∀ o,zq (ρ' k)=some o→S.length≤o∨∃ k' r',resF e.ks H k'=some r'∧zq (ρ k')=some o
def Loc (E:Env) (N:Nat) (ops:Array Oper) (o:Oper) (nx:Nat) (sl:List (Nat×SV)) (H:Nat→Option SR) (e:Ef):Prop:=
 ∀ (df:List Nat) (rd:Option Nat) (K:AS→Prop) (rest:List Oper) (ρ : Nat→AV) (t:Nat→AV) (S:List AObj),SlOk ρ t sl→SatF S ρ (resF e.ks H) →
  (∀ ρ' S',qhi ρ S nx H e ρ' S'→AOps E rd N ops rest K (AS.put ⟨t,S',df⟩ o.dst (e.val.ev ρ')))→AOps E rd N ops (o::rest) K ⟨t,S,df⟩
structure Conf where
 sl:List (Nat×SV)
 hp:List (Nat×Option SR)
 nx:Nat
def Conf.app (C:Conf) (d:Option Tmp) (e:Ef):Conf:=⟨match d with|some d=>(d,e.val)::C.sl|none=>C.sl,e.ch++C.hp,e.nx⟩
structure SatR (S0:List AObj) (F:Nat→Prop) (C:Conf) (ρ : Nat→AV) (t:Nat→AV) (S:List AObj):Prop where
 sl:SlOk ρ t C.sl
 hp:SatF S ρ (hpF C.hp)
 own:∀ k r,hpF C.hp k=some r→∀ o,zq (ρ k)=some o→S0.length≤o∨F o
 low:∀ j,j<S0.length→¬ F j→S[j]? = S0[j]?
 len:S0.length≤S.length
 wsl:∀ d v,lkS C.sl d=some v→v.all (fun k=>Nat.blt k C.nx)=true
 whp:∀ k r,hpF C.hp k=some r→k<C.nx∧r.all (fun k=>Nat.blt k C.nx)=true
structure Bs where
 S0:List AObj
 F:Nat→Prop
 ρ0:Nat→AV
 n0:Nat
 dz:Prop
structure Frm (B:Bs) (C:Conf) (ρ : Nat→AV) (df:List Nat) (S:List AObj):Prop where
 dm:∀ d∈df,S[d]? = some .dfr∧B.S0.length≤d
 nd:df.Nodup
 rig:∀ k,k<B.n0→ρ k=B.ρ0 k
 le:B.n0≤C.nx
 dz:B.dz→df=[]
def SatC (B:Bs) (C:Conf) (s:AS):Prop:=∃ ρ,Frm B C ρ s.df s.st∧SatR B.S0 B.F C ρ s.t s.st
theorem SR.ok_dfr {ρ : Nat→AV} {S:List AObj} {c:AV} {r:SR} (h:r.ok ρ S c) {o:Nat} (ho:zq c=some o):S[o]?≠some .dfr:=by
 cases r with
 |cells T cs=>
  obtain⟨o',v,rfl,h,_⟩:=h;simp only [zq,Option.some.injEq] at ho;subst ho;rw [h]
  simp
 |tip sz T xs=>
  rcases h with (⟨_,rfl⟩ | ⟨t,rfl,ht,_⟩) | ⟨_,o',v,f,rfl⟩
  ·simp [zq] at ho
  ·simp only [zq,Option.some.injEq] at ho
   subst ho;rw [ht];simp
  ·simp [zq] at ho
 |own sz T xs=>
  obtain⟨_,_,_,_,h,_⟩:=OwnS.loc h ho;rw [h]
  simp
 |obj P=>
  obtain⟨o',x,h1,h2,h3,_⟩:=h;rw [h1,Option.some.injEq] at ho;subst ho;rw [h2]
  simpa using h3
 |rows T ys cs=>
  obtain⟨_,_,_,_,h,_⟩:=OwnS.loc h ho;rw [h];simp
theorem vo {a b:Nat} (h:Nat.blt a b=true):a<b:=by simpa [Nat.blt_eq] using h
theorem qbw {a b:Nat} (h:a<b):Nat.blt a b=true:=by simpa [Nat.blt_eq] using h
theorem qhg {e:Ef} {nx:Nat} (h:e.wf nx=true):nx≤e.nx∧e.val.all (fun k=>Nat.blt k e.nx)=true∧∀ p∈e.ch,p.1<e.nx∧(memN e.ks p.1=true∨nx≤p.1)∧∀ r,p.2=some r→r.all (fun k=>Nat.blt k e.nx)=true:=by
 simp only [Ef.wf,Bool.and_eq_true] at h;refine⟨Nat.le_of_ble_eq_true h.1.1,h.1.2,fun p hp=>?_⟩;have:=List.all_eq_true.1 h.2 p hp;simp only [Bool.and_eq_true,Bool.or_eq_true] at this;refine⟨vo this.1.1,this.1.2.imp_right Nat.le_of_ble_eq_true,fun r hr=>?_⟩;have h3:=this.2;rw [hr] at h3;exact h3
theorem vq {α : Type}:∀ {l:List (Nat×α)} {k:Nat} {v : α},lkS l k=some v→(k,v)∈l
 | [],_,_,h=>by simp [lkS] at h
 |(i,x)::r,k,v,h=>by
  unfold lkS at h
  cases hb:Nat.beq i k with
  |true=>
   rw [hb] at h;simp only [cond_true,Option.some.injEq] at h;have:=Nat.eq_of_beq_eq_true hb;subst this;subst h
   simp
  |false=>
   rw [hb] at h;exact List.mem_cons_of_mem _ (vq h)
theorem SatR.stepG {S0:List AObj} {F:Nat→Prop} {C:Conf} {ρ ρ' t:Nat→AV} {S S':List AObj} {e:Ef} {d:Option Tmp} {nx NX:Nat} (h:SatR S0 F C ρ t S) (hN:C.nx≤NX) (w2:e.val.all (fun k=>Nat.blt k NX)=true) (w3:∀ p∈e.ch,p.1<NX∧∀ r,p.2=some r→r.all (fun k=>Nat.blt k NX)=true)
  (a1:∀ d v,lkS C.sl d=some v→v.all (fun k=>Nat.blt k nx ||Nat.ble e.nx k)=true) (a2:∀ k r,hpF C.hp k=some r→(k<nx∨e.nx≤k)∧r.all (fun k=>Nat.blt k nx ||Nat.ble e.nx k)=true) (hp:qhi ρ S nx (hpF C.hp) e ρ' S') :
  SatR S0 F ⟨match d with|some d=>(d,e.val)::C.sl|none=>C.sl,e.ch++C.hp,NX⟩ ρ' (AS.put ⟨t,S',[]⟩ d (e.val.ev ρ')).t S':=by
 have hav:∀ k,(Nat.blt k nx ||Nat.ble e.nx k)=true→ρ' k = ρ k:=fun k hk=>by
  rcases Bool.or_eq_true_iff.1 hk with hk|hk
  ·exact hp.old k (.inl (vo hk))
  ·exact hp.old k (.inr (Nat.le_of_ble_eq_true hk))
 have pb:∀ d v,lkS C.sl d=some v→v.ev ρ'=v.ev ρ:=fun d v hd=>qc6 hav v (a1 d v hd);have hres:∀ k r,hpF C.hp k=some r→memN e.ks k=true→resF e.ks (hpF C.hp) k=some r:=fun k r h1 h2=>by unfold resF;rw [h2];exact h1
 -- what lies at a name behind the operation
 have key:∀ k r,hpF (e.ch++C.hp) k=some r→chF e.ch (resF e.ks (hpF C.hp)) k=some r∨(memN e.ks k=false∧lkS e.ch k=none∧hpF C.hp k=some r):=fun k r hk=>by
  rw [q6b] at hk;unfold chF at hk ⊢
  cases hl:lkS e.ch k with
  |some x=>rw [hl] at hk;exact .inl hk
  |none=>
   rw [hl] at hk;simp only at hk ⊢
   cases hm:memN e.ks k with
   |true=>exact .inl (hres k r hk hm)
   |false=>exact .inr ⟨rfl,trivial,hk⟩
 have b7:∀ k r,memN e.ks k=false→hpF C.hp k=some r→∀ o,zq (ρ k)=some o→S'[o]? = S[o]?∧o<S.length:=fun k r hm hk o ho=>by
  have b4:=SR.ok_lt (h.hp.ok k r hk) ho;refine⟨hp.fr o b4 fun k' r' l9=>?_,b4⟩;obtain⟨hm',l9⟩:=we l9;have a6:k≠k':=fun e=>by subst e;rw [hm] at hm';simp at hm'
  exact h.hp.sep k k' r r' a6 hk l9 o ho
 have hρ : ∀ k r,hpF C.hp k=some r→ρ' k = ρ k:=fun k r hk=>hp.old k (a2 k r hk).1
 have sepx:∀ k k' r r',memN e.ks k=false→hpF C.hp k=some r→chF e.ch (resF e.ks (hpF C.hp)) k'=some r'→∀ o,zq (ρ' k)=some o→zq (ρ' k')≠some o:=fun k k' r r' hm hk l9 o ho b6=>by
  rw [hρ k r hk] at ho;obtain⟨_,b4⟩:=b7 k r hm hk o ho;rcases hp.loc k' r' l9 o b6 with h1 | ⟨k2,r2,h2,h3⟩
  ·omega
  ·obtain⟨tx,s3⟩:=we h2
   have a6:k≠k2:=fun e=>by subst e;rw [hm] at tx;simp at tx
   exact h.hp.sep k k2 r r2 a6 hk s3 o ho h3
 refine⟨?_,⟨?_,?_⟩,?_,?_,Nat.le_trans h.len hp.len,?_,?_⟩
 ·cases d with
  |none=>exact fun x v hx=>(h.sl x v hx).trans (pb x v hx).symm
  |some d=>
   intro x v hx;simp only [lkS] at hx;by_cases hd:x=d
   ·subst hd
    have hb:Nat.beq x x=true:=by simp
    rw [hb] at hx;simp only [cond_true,Option.some.injEq] at hx;subst hx;exact xd _ _ _
   ·rw [j9 (fun e=>hd e.symm)] at hx
    simp only [cond_false] at hx;exact (qab _ _ _ _ hd).trans ((h.sl x v hx).trans (pb x v hx).symm)
 ·intro k r hk
  rcases key k r hk with h1 | ⟨hm,_,h1⟩
  ·exact hp.sat.ok k r h1
  ·rw [hρ k r h1]
   exact SR.ok_of (a2 k r h1).2 hav (h.hp.ok k r h1) fun o ho=>(b7 k r hm h1 o ho).1
 ·intro k k' r r' a6 hk l9 o ho
  rcases key k r hk with h1 | ⟨hm,_,h1⟩
  ·rcases key k' r' l9 with h2 | ⟨tx,_,h2⟩
   ·exact hp.sat.sep k k' r r' a6 h1 h2 o ho
   ·exact fun b6=>sepx k' k r' r tx h2 h1 o b6 ho
  ·rcases key k' r' l9 with h2 | ⟨tx,_,h2⟩
   ·exact sepx k k' r r' hm h1 h2 o ho
   ·rw [hρ k r h1] at ho
    rw [hρ k' r' h2];exact h.hp.sep k k' r r' a6 h1 h2 o ho
 ·intro k r hk o ho
  rcases key k r hk with h1 | ⟨hm,_,h1⟩
  ·rcases hp.loc k r h1 o ho with h2 | ⟨k',r',h2,h3⟩
   ·exact .inl (Nat.le_trans h.len h2)
   ·exact h.own k' r' (we h2).2 o h3
  ·rw [hρ k r h1] at ho
   exact h.own k r h1 o ho
 ·intro j hj hF
  refine (hp.fr j (Nat.lt_of_lt_of_le hj h.len) fun k r hk ho=>?_).trans (h.low j hj hF);rcases h.own k r (we hk).2 j ho with h1|h1
  ·omega
  ·exact hF h1
 ·intro x v hx
  have d1:lkS C.sl x=some v→v.all (fun k=>Nat.blt k NX)=true:=fun hx=>all_mono (fun k hk=>qbw (by have:=vo hk;omega)) v (h.wsl x v hx)
  cases d with
  |none=>exact d1 hx
  |some d=>
   simp only [lkS] at hx
   cases hb:Nat.beq d x with
   |true=>
    rw [hb] at hx;simp only [cond_true,Option.some.injEq] at hx;subst hx
    exact w2
   |false=>
    rw [hb] at hx;exact d1 hx
 ·intro k r hk
  have d1:hpF C.hp k=some r→k<NX∧r.all (fun k=>Nat.blt k NX)=true:=fun hk=>⟨by have:=(h.whp k r hk).1;omega,SR.all_mono (fun k hk=>qbw (by have:=vo hk;omega)) r (h.whp k r hk).2⟩;rcases key k r hk with h1 | ⟨_,_,h1⟩
  ·unfold chF at h1
   cases hl:lkS e.ch k with
   |some x=>
    rw [hl] at h1;simp only at h1;obtain⟨h2,h3⟩:=w3 _ (vq hl)
    exact⟨h2,h3 r h1⟩
   |none=>
    rw [hl] at h1;exact d1 (we h1).2
  ·exact d1 h1
theorem SatR.step {S0:List AObj} {F:Nat→Prop} {C:Conf} {ρ ρ' t:Nat→AV} {S S':List AObj} {e:Ef} {d:Option Tmp} (h:SatR S0 F C ρ t S) (hw:e.wf C.nx=true) (hp:qhi ρ S C.nx (hpF C.hp) e ρ' S') :
  SatR S0 F (C.app d e) ρ' (AS.put ⟨t,S',[]⟩ d (e.val.ev ρ')).t S':=by
 obtain⟨w1,w2,w3⟩:=qhg hw;exact h.stepG w1 w2 (fun p hp=>⟨(w3 p hp).1,(w3 p hp).2.2⟩) (fun d v hd=>all_mono (fun k hk=>by rw [hk];rfl) v (h.wsl d v hd)) (fun k r hk=>⟨.inl (h.whp k r hk).1,SR.all_mono (fun k hk=>by rw [hk];rfl) r (h.whp k r hk).2⟩) hp
theorem Frm.nx {B:Bs} {C C':Conf} {ρ : Nat→AV} {S:List AObj} {df:List Nat} (h:Frm B C ρ df S) (hn:B.n0≤C'.nx):Frm B C' ρ df S:=⟨h.dm,h.nd,h.rig,hn,h.dz⟩
theorem Frm.stepG {B:Bs} {C C':Conf} {ρ ρ':Nat→AV} {S S':List AObj} {df:List Nat} {e:Ef} {nx:Nat} {H:Nat→Option SR} (h:Frm B C ρ df S) (hS:SatF S ρ H) (hp:qhi ρ S nx H e ρ' S') (hn:B.n0≤nx) (fg:B.n0≤C'.nx):Frm B C' ρ' df S':=by
 refine⟨fun x hx=>?_,h.nd,fun k hk=>?_,fg,h.dz⟩
 ·have hm:=h.dm x hx
  refine⟨?_,hm.2⟩;rw [hp.fr x (lt_of_getElem? hm.1) fun k r hk hl=>?_]
  ·exact hm.1
  ·exact SR.ok_dfr (hS.ok k r (we hk).2) hl hm.1
 ·rw [hp.old k (.inl (Nat.lt_of_lt_of_le hk hn))]
  exact h.rig k hk
theorem Frm.step {B:Bs} {C:Conf} {ρ ρ':Nat→AV} {S S':List AObj} {df:List Nat} {e:Ef} {d:Option Tmp} (h:Frm B C ρ df S) (hS:SatF S ρ (hpF C.hp)) (hw:e.wf C.nx=true) (hp:qhi ρ S C.nx (hpF C.hp) e ρ' S'):Frm B (C.app d e) ρ' df S':=
 h.stepG hS hp h.le (Nat.le_trans h.le (qhg hw).1)
theorem SatR.dead {S0:List AObj} {F:Nat→Prop} {C:Conf} {ρ t:Nat→AV} {S:List AObj} {d:Nat} (h:SatR S0 F C ρ t S) (hd:S[d]? = some .dfr) (hl:S0.length≤d):SatR S0 F C ρ t (S.set d .dead):=by
 refine⟨h.sl,⟨fun k r hk=>?_,h.hp.sep⟩,h.own,fun j hj hF=>?_,by simpa using h.len,h.wsl,h.whp⟩
 ·refine SR.ok_of (f:=fun _=>true) (SR.all_mono (fun _ _=>rfl) r (h.whp k r hk).2) (fun _ _=>rfl) (h.hp.ok k r hk) fun o ho=>?_
  have a6:d≠o:=fun e=>SR.ok_dfr (h.hp.ok k r hk) ho (e▸hd);rw [List.getElem?_set_ne a6]
 ·rw [List.getElem?_set_ne (by omega)]
  exact h.low j hj hF
theorem SR.ok_ct {ρ : Nat→AV} {S:List AObj} {c:AV} {r:SR} (h:r.ok ρ S c) {o:Nat} (ho:zq c=some o):(∃ T cs v,S[o]? = some (.cells v T cs)∧∃ T' cs',r = .cells T' cs')∨(∃ m sz T,S[o]? = some (.tip m sz T))∨(∃ sz T xs,r = .own sz T xs)∨(∃ P,r = .obj P)∨∃ T ys cs,r = .rows T ys cs:=by
 cases r with
 |cells T cs=>
  obtain⟨o',v,rfl,h,_⟩:=h;simp only [zq,Option.some.injEq] at ho;subst ho
  exact .inl ⟨_,_,_,h,_,_,rfl⟩
 |tip sz T xs=>
  rcases h with (⟨_,rfl⟩ | ⟨t,rfl,ht,_⟩) | ⟨_,o',v,f,rfl⟩
  ·simp [zq] at ho
  ·simp only [zq,Option.some.injEq] at ho
   subst ho;exact .inr (.inl ⟨_,_,_,ht⟩)
  ·simp [zq] at ho
 |own sz T xs=>exact .inr (.inr (.inl ⟨_,_,_,rfl⟩))
 |obj P=>exact .inr (.inr (.inr (.inl ⟨_,rfl⟩)))
 |rows T ys cs=>exact .inr (.inr (.inr (.inr ⟨_,_,_,rfl⟩)))
def qdu (hp:List (Nat×Option SR)) (ρ : Nat→AV) (o:Nat):Prop:=∃ k r,hpF hp k=some r∧zq (ρ k)=some o
theorem SatR.rebase {S0:List AObj} {F:Nat→Prop} {C:Conf} {ρ t:Nat→AV} {S S':List AObj} (h:SatR S0 F C ρ t S) (hs:∀ o,qdu C.hp ρ o→S'[o]? = S[o]?):SatR S' (qdu C.hp ρ) C ρ t S':=
 ⟨h.sl,⟨fun k r hk=>SR.ok_of (f:=fun _=>true) (SR.all_mono (fun _ _=>rfl) r (h.whp k r hk).2) (fun _ _=>rfl) (h.hp.ok k r hk) fun o ho=>hs o ⟨k,r,hk,ho⟩,h.hp.sep⟩,
  fun k r hk o ho=>.inr ⟨k,r,hk,ho⟩,fun _ _ _=>rfl,Nat.le_refl _,h.wsl,h.whp⟩
def Wk (x r:AV):Prop:=∀ (G:Gh) (v:Value),Rel G x v→Rel G r v
theorem wx (x:AV):Wk x x:=fun _ _ h=>h
theorem zk0 {x y:AV} (h:x=y):Wk x y:=h▸wx x
theorem zf9 (sz:Nat) (xs:List AV) (tip:Option Nat):Wk (.sl sz xs tip) (.sl sz xs none):=fun _ _ h=>qle h
theorem q9j {xs ys:List AV} (hl:xs.length=ys.length) (h:∀ (i:Nat) (x y:AV),xs[i]? = some x→ys[i]? = some y→Wk x y):Wk (.ag xs) (.ag ys):=fun G v hr=>by
 cases hr with
 |ag _ vs m0 hr=>
  refine .ag _ vs (by omega) fun i y b hy hb=>?_;have hi:=lt_of_getElem? hy;have hx:xs[i]? = some (xs[i]'(by omega)):=List.getElem?_eq_getElem (by omega);exact h i _ y hx hy G b (hr i _ b hx hb)
theorem zgo {xs ys:List AV} (hl:xs.length=ys.length) (h:∀ (i:Nat) (x y:AV),xs[i]? = some x→ys[i]? = some y→Wk x y):Wk (.tu xs) (.tu ys):=fun G v hr=>by
 cases hr with
 |tu _ vs m0 hr=>
  refine .tu _ vs (by omega) fun i y b hy hb=>?_;have hi:=lt_of_getElem? hy;have hx:xs[i]? = some (xs[i]'(by omega)):=List.getElem?_eq_getElem (by omega);exact h i _ y hx hy G b (hr i _ b hx hb)
theorem zkk {t:TypeId} {x y:AV} (h:Wk x y):Wk (.ifc t x) (.ifc t y):=fun G v hr=>by
 cases hr with
 |ifc _ _ z hz=>exact .ifc t y z (h G z hz)
theorem zk1 {f:Fn} {a b c d:List AV} (h1:a.length=c.length) (h2:∀ (i:Nat) (x y:AV),a[i]? = some x→c[i]? = some y→Wk x y) (h3:b.length=d.length) (h4:∀ (i:Nat) (x y:AV),b[i]? = some x→d[i]? = some y→Wk x y):Wk (.fn f a b) (.fn f c d):=fun G v hr=>by
 cases hr with
 |fn _ _ _ a' b' g1 g2 g3 g4=>
  refine .fn f c d a' b' (by omega) (by omega) (fun i x y hx hy=>?_) (fun i x y hx hy=>?_)
  ·have hi:i<a.length:=by have:=lt_of_getElem? hx;omega
   have hz:a[i]? = some a[i]:=List.getElem?_eq_getElem hi;exact h2 i _ x hz hx G y (g3 i _ y hz hy)
  ·have hi:i<b.length:=by have:=lt_of_getElem? hx;omega
   have hz:b[i]? = some b[i]:=List.getElem?_eq_getElem hi;exact h4 i _ x hz hx G y (g4 i _ y hz hy)
mutual
def frz (H:Nat→Option SR):SV→Option AV
 | .a x=>some x
 | .i n=>some (Iv n)
 | .s l=>some (Sv l)
 | .tt=>some (Bv true)
 | .ff=>some (Bv false)
 | .b c=>some (Bv c)
 | .p q h=>some (Bv (@decide q h))
 | .bx _ _=>none
 | .tp k=>match H k with
  |some (.tip sz _ xs)=>some (.sl sz xs none)
  | _=>none
 | .ag cs=>match frzs H cs with
  |some l=>some (.ag l)
  |none=>none
 | .tu cs=>match frzs H cs with
  |some l=>some (.tu l)
  |none=>none
 | .fn f xs ys=>match frzs H xs,frzs H ys with
  |some a,some b=>some (.fn f a b)
  | _,_=>none
 | .ifc t x=>match frz H x with
  |some y=>some (.ifc t y)
  |none=>none
def frzs (H:Nat→Option SR):List SV→Option (List AV)
 | []=>some []
 |x::r=>match frz H x,frzs H r with
  |some y,some l=>some (y::l)
  | _,_=>none
end
theorem zbi {x:AV} (h:x.one=true):x.cells=[x]:=by
 cases x <;> first|rfl|simp [AV.one] at h
theorem qw9 {b:Nat} {S:List AObj} {sz:Nat} {T:TypeId} {xs:List AV} {c:AV} (h:TipO b S sz T xs c):Wk (tpAt c) (.sl sz xs none)∧c.one=true:=by
 have h1:c.one=true:=by rcases h with (⟨_,rfl⟩ | ⟨t,rfl,_⟩) | ⟨_,o,v,f,rfl⟩ <;> rfl
 refine⟨?_,h1⟩;unfold tpAt;rw [h1];exact qnp h
mutual
theorem qib {S:List AObj} {ρ : Nat→AV} {H:Nat→Option SR} (hS:SatF S ρ H):∀ (v:SV) (x:AV),frz H v=some x→Wk (v.ev ρ) x
 | .a y,x,h=>by simp only [frz,Option.some.injEq] at h;subst h;exact wx _
 | .i y,x,h=>by simp only [frz,Option.some.injEq] at h;subst h;exact wx _
 | .s y,x,h=>by simp only [frz,Option.some.injEq] at h;subst h;exact wx _
 | .tt,x,h=>by simp only [frz,Option.some.injEq] at h;subst h;exact wx _
 | .ff,x,h=>by simp only [frz,Option.some.injEq] at h;subst h;exact wx _
 | .b y,x,h=>by simp only [frz,Option.some.injEq] at h;subst h;exact wx _
 | .p q d,x,h=>by simp only [frz,Option.some.injEq] at h;subst h;exact wx _
 | .bx _ _,x,h=>by simp [frz] at h
 | .tp k,x,h=>by
  simp only [frz] at h;split at h
  ·rename_i sz T xs hk
   simp only [Option.some.injEq] at h;subst h;exact (qw9 (hS.ok k _ hk)).1
  ·simp at h
 | .ag cs,x,h=>by
  simp only [frz] at h;split at h
  ·rename_i l hl
   simp only [Option.some.injEq] at h;subst h;obtain⟨h1,h2⟩:=qf0 hS cs l hl;exact q9j h1 h2
  ·simp at h
 | .tu cs,x,h=>by
  simp only [frz] at h;split at h
  ·rename_i l hl
   simp only [Option.some.injEq] at h;subst h;obtain⟨h1,h2⟩:=qf0 hS cs l hl;exact zgo h1 h2
  ·simp at h
 | .fn f xs ys,x,h=>by
  simp only [frz] at h;split at h
  ·rename_i a b ha hb
   simp only [Option.some.injEq] at h;subst h;obtain⟨h1,h2⟩:=qf0 hS xs a ha;obtain⟨h3,h4⟩:=qf0 hS ys b hb;exact zk1 h1 h2 h3 h4
  ·simp at h
 | .ifc t y,x,h=>by
  simp only [frz] at h;split at h
  ·rename_i z hz
   simp only [Option.some.injEq] at h;subst h;exact zkk (qib hS y z hz)
  ·simp at h
theorem qf0 {S:List AObj} {ρ : Nat→AV} {H:Nat→Option SR} (hS:SatF S ρ H):∀ (l:List SV) (ys:List AV),frzs H l=some ys→(SV.evs ρ l).length=ys.length∧∀ (i:Nat) (x y:AV),(SV.evs ρ l)[i]? = some x→ys[i]? = some y→Wk x y
 | [],ys,h=>by simp only [frzs,Option.some.injEq] at h;subst h;exact⟨rfl,by simp [SV.evs]⟩
 |v::r,ys,h=>by
  simp only [frzs] at h;split at h
  ·rename_i y l hy hl
   simp only [Option.some.injEq] at h;subst h;obtain⟨h1,h2⟩:=qf0 hS r l hl;have h3:=qib hS v y hy;refine⟨by simp [SV.evs,h1],fun i a b ha hb=>?_⟩
   cases i with
   |zero=>simp [SV.evs] at ha hb;subst ha;subst hb;exact h3
   |succ i=>exact h2 i a b (by simpa [SV.evs] using ha) (by simpa using hb)
  ·simp at h
end
mutual
def SV.ks:SV→List Nat
 | .bx k _=>[k]
 | .tp k=>[k]
 | .ag cs=>SV.kss cs
 | .tu cs=>SV.kss cs
 | .fn _ xs ys=>SV.kss xs++SV.kss ys
 | .ifc _ x=>SV.ks x
 | _=>[]
def SV.kss:List SV→List Nat
 | []=>[]
 |x::r=>SV.ks x++SV.kss r
end
mutual
def nf:AV→SV
 | .v (.int .i64 n)=>.i n
 | .v (.string ⟨⟨l⟩⟩)=>.s l
 | .v (.bool c)=>.b c
 | .ag cs=>.ag (nfs cs)
 | .tu cs=>.tu (nfs cs)
 |x=>.a x
def nfs:List AV→List SV
 | []=>[]
 |x::r=>nf x::nfs r
end
mutual
theorem qk9 (ρ : Nat→AV):∀ x:AV,(nf x).ev ρ = x
 | .v x=>by
  unfold nf
  split <;> first|rfl|(rename_i h;cases h;done)|(rename_i h;cases h;rfl)
 | .ag cs=>by simp only [nf,SV.ev,qj4 ρ cs]
 | .tu cs=>by simp only [nf,SV.ev,qj4 ρ cs]
 | .ifc _ _=>rfl
 | .fn _ _ _=>rfl
 | .sl _ _ _=>rfl
 | .pp _=>rfl
 | .bx _ _ _=>rfl
 | .os _ _ _ _ _=>rfl
 | .mp _=>rfl
 | .yd _=>rfl
theorem qj4 (ρ : Nat→AV):∀ l:List AV,SV.evs ρ (nfs l)=l
 | []=>rfl
 |x::r=>by simp only [nfs,SV.evs,qk9 ρ x,qj4 ρ r]
end
mutual
theorem zj1 {f:Nat→Bool}:∀ x:AV,(nf x).all f=true
 | .v x=>by unfold nf;split <;> first|rfl|(rename_i h;cases h)
 | .ag cs=>by simp only [nf,SV.all];exact qqi cs
 | .tu cs=>by simp only [nf,SV.all];exact qqi cs
 | .ifc _ _=>rfl
 | .fn _ _ _=>rfl
 | .sl _ _ _=>rfl
 | .pp _=>rfl
 | .bx _ _ _=>rfl
 | .os _ _ _ _ _=>rfl
 | .mp _=>rfl
 | .yd _=>rfl
theorem qqi {f:Nat→Bool}:∀ l:List AV,SV.alls f (nfs l)=true
 | []=>rfl
 |x::r=>by simp only [nfs,SV.alls,zj1 x,qqi r];rfl
end
def cst:Value→SV
 | .bool true=>.tt
 | .bool false=>.ff
 |x=>nf (.v x)
theorem zjg (ρ : Nat→AV) (x:Value):(cst x).ev ρ = .v x:=by
 unfold cst;split
 ·rfl
 ·rfl
 ·exact qk9 ρ _
def SV.cells:SV→List SV
 | .ag cs=>cs
 | .a x=>nfs x.cells
 |v=>[v]
theorem qr9 (ρ : Nat→AV) (v:SV):SV.evs ρ v.cells=(v.ev ρ).cells:=by
 cases v with
 |a x=>exact qj4 ρ _
 |bx k off=>simp only [SV.cells,SV.evs,SV.ev];cases ρ k <;> rfl
 |tp k=>simp only [SV.cells,SV.evs,SV.ev,tpAt];cases h:(ρ k).one <;> first|rfl|(simp only [cond_true];exact (zbi h).symm)
 | _=>rfl
def SV.okc:SV→Bool
 | .a x=>x.okc
 | _=>true
theorem q2p (ρ : Nat→AV) (v:SV) (h:v.okc=true):(v.ev ρ).okc=true:=by
 cases v with
 |a x=>exact h
 |bx k off=>simp only [SV.ev];cases ρ k <;> rfl
 |tp k=>
  simp only [SV.ev,tpAt]
  cases h:(ρ k).one
  ·rfl
  ·simp only [cond_true]
   cases hk : ρ k with
   |v x=>rw [hk] at h;cases x <;> first|rfl|simp [AV.one] at h
   | _=>rfl
 | _=>rfl
def SV.one:SV→Bool
 | .a x=>x.one
 | .ag _=>false
 | .tu _=>false
 | _=>true
theorem ziw (ρ : Nat→AV) (v:SV) (h:v.one=true):(v.ev ρ).one=true:=by
 cases v with
 |a x=>exact h
 |bx k off=>simp only [SV.ev];cases ρ k <;> rfl
 |tp k=>simp only [SV.ev,tpAt];cases h:(ρ k).one <;> first|rfl|exact h
 |ag _=>simp [SV.one] at h
 |tu _=>simp [SV.one] at h
 | _=>rfl
def ones (l:List SV):Bool:=l.all SV.one
theorem q6r (ρ : Nat→AV):∀ l:List SV,ones l=true→∀ z∈SV.evs ρ l,z.one=true
 | [],_,z,hz=>by simp [SV.evs] at hz
 |x::r,h,z,hz=>by
  simp only [ones,List.all_cons,Bool.and_eq_true] at h;simp only [SV.evs,List.mem_cons] at hz;rcases hz with rfl|hz
  ·exact ziw ρ x h.1
  ·exact q6r ρ r h.2 z hz
def sval (N:Nat) (sl:List (Nat×SV)):Operand→Option SV
 | .tmp i=>bif Nat.blt i N then lkS sl i else none
 | .const x=>some (cst x)
 | .global g=>some (.a (.v (.pointer (some ⟨g,0,none⟩))))
 | .func f=>some (.a (.fn (.func f) [] []))
theorem q9 {N:Nat} {sl:List (Nat×SV)} {ρ t:Nat→AV} {S:List AObj} {df:List Nat} (h:SlOk ρ t sl) {x:Operand} {v:SV} (hx:sval N sl x=some v):ql N ⟨t,S,df⟩ x=v.ev ρ:=by
 cases x with
 |tmp i=>
  simp only [sval] at hx;simp only [ql]
  cases hb:Nat.blt i N with
  |true=>rw [hb] at hx;exact h i v hx
  |false=>rw [hb] at hx;simp at hx
 |const x=>simp only [sval,Option.some.injEq] at hx;subst hx;exact (zjg ρ x).symm
 |global g=>simp only [sval,Option.some.injEq] at hx;subst hx;rfl
 |func f=>simp only [sval,Option.some.injEq] at hx;subst hx;rfl
def qns (N:Nat) (sl:List (Nat×SV)):List Operand→Option (List SV)
 | []=>some []
 |x::r=>match sval N sl x,qns N sl r with
  |some v,some l=>some (v::l)
  | _,_=>none
theorem qnt {N:Nat} {sl:List (Nat×SV)} {ρ t:Nat→AV} {S:List AObj} {df:List Nat} (h:SlOk ρ t sl):∀ {xs:List Operand} {l:List SV},qns N sl xs=some l→xs.map (ql N ⟨t,S,df⟩)=SV.evs ρ l
 | [],l,hx=>by simp only [qns,Option.some.injEq] at hx;subst hx;rfl
 |x::r,l,hx=>by
  simp only [qns] at hx;split at hx
  ·rename_i v l' h1 h2
   simp only [Option.some.injEq] at hx;subst hx;simp only [List.map_cons,SV.evs,q9 h h1,qnt h h2]
  ·simp at hx
section
variable {E : Env} {N : Nat} {ops : Array Oper} {o : Oper} {nx : Nat} {sl : List (Nat × SV)} {H : Nat → Option SR}
theorem qai {v:SV} {ks:List Nat} (h:∀ (df:List Nat) (rd:Option Nat) (K:AS→Prop) (rest:List Oper) (ρ t:Nat→AV) (S:List AObj),SlOk ρ t sl→SatF S ρ (resF ks H)→AOps E rd N ops rest K (AS.put ⟨t,S,df⟩ o.dst (v.ev ρ))→AOps E rd N ops (o::rest) K ⟨t,S,df⟩) :
  Loc E N ops o nx sl H ⟨v,ks,[],nx⟩:=fun df rd K rest ρ t S hs hS hk=>
 h df rd K rest ρ t S hs hS (hk ρ S ⟨fun _ _=>rfl,⟨fun k r hk=>hS.ok k r hk,fun k k' r r' a6 h1 h2=>hS.sep k k' r r' a6 h1 h2⟩,Nat.le_refl _,fun _ _ _=>rfl,fun k r hk o ho=>.inr ⟨k,r,hk,ho⟩⟩)
theorem js {v:SV} (h:∀ (df:List Nat) (rd:Option Nat) (K:AS→Prop) (rest:List Oper) (ρ t:Nat→AV) (S:List AObj),SlOk ρ t sl→AOps E rd N ops rest K (AS.put ⟨t,S,df⟩ o.dst (v.ev ρ))→AOps E rd N ops (o::rest) K ⟨t,S,df⟩) :
  Loc E N ops o nx sl H ⟨v,[],[],nx⟩:=qai fun df rd K rest ρ t S hs _ hk=>h df rd K rest ρ t S hs hk
def upd (ρ : Nat→AV) (n:Nat) (c:AV):Nat→AV:=fun k=>bif Nat.beq k n then c else ρ k
theorem vb (ρ : Nat→AV) (n:Nat) (c:AV):upd ρ n c n=c:=by simp [upd]
theorem y0 (ρ : Nat→AV) {n k:Nat} (c:AV) (h:k≠n):upd ρ n c k = ρ k:=by simp [upd,j9 h]
theorem qqg {v:SV} {r:SR} {ks:List Nat} (gz:∀ k r,resF ks H k=some r→k≠nx∧r.all (fun k=> !Nat.beq k nx)=true) (h:∀ (df:List Nat) (rd:Option Nat) (K:AS→Prop) (rest:List Oper) (ρ t:Nat→AV) (S:List AObj),SlOk ρ t sl→SatF S ρ (resF ks H) →
   (∀ c l,r.ok (upd ρ nx c) (S++l) c→(∀ o,zq c=some o→S.length≤o)→AOps E rd N ops rest K (AS.put ⟨t,S++l,df⟩ o.dst (v.ev (upd ρ nx c))))→AOps E rd N ops (o::rest) K ⟨t,S,df⟩) :
  Loc E N ops o nx sl H ⟨v,ks,[(nx,some r)],nx+1⟩:=fun df rd K rest ρ t S hs hS hk=>by
 refine h df rd K rest ρ t S hs hS fun c l hc hl=>hk _ _ ⟨fun k hk=>y0 _ _ (by simp only at hk;omega),?_,by simp,fun j hj _=>List.getElem?_append_left hj,?_⟩
 ·have key:∀ k r',chF [(nx,some r)] (resF ks H) k=some r'→(k=nx∧r'=r)∨(k≠nx∧resF ks H k=some r'):=fun k r' hk=>by
   simp only [chF,lkS] at hk;by_cases e:nx=k
   ·subst e
    have:Nat.beq nx nx=true:=by simp
    rw [this] at hk;simp only [cond_true,Option.some.injEq] at hk;exact .inl ⟨rfl,hk.symm⟩
   ·rw [j9 e] at hk
    exact .inr ⟨fun h=>e h.symm,hk⟩
  refine⟨fun k r' hk=>?_,fun k k' r1 r2 a6 h1 h2 o ho=>?_⟩
  ·rcases key k r' hk with⟨rfl,rfl⟩ | ⟨h1,h2⟩
   ·rw [vb];exact hc
   ·rw [y0 _ _ h1]
    have h3:=hS.ok k r' h2;exact SR.ok_of (gz k r' h2).2 (fun k hk=>y0 _ _ (fun e=>by subst e;simp at hk)) h3 fun o ho=>List.getElem?_append_left (SR.ok_lt h3 ho)
  ·rcases key k r1 h1 with⟨rfl,rfl⟩ | ⟨g1,g2⟩
   ·rcases key k' r2 h2 with⟨rfl,rfl⟩ | ⟨f1,f2⟩
    ·exact absurd rfl a6
    ·rw [vb] at ho
     rw [y0 _ _ f1];intro b6;have:=SR.ok_lt (hS.ok k' r2 f2) b6;have:=hl o ho;omega
   ·rcases key k' r2 h2 with⟨rfl,rfl⟩ | ⟨f1,f2⟩
    ·rw [y0 _ _ g1] at ho
     rw [vb];intro b6;have:=SR.ok_lt (hS.ok k r1 g2) ho;have:=hl o b6;omega
    ·rw [y0 _ _ g1] at ho
     rw [y0 _ _ f1];exact hS.sep k k' r1 r2 a6 g2 f2 o ho
 ·intro k r' hk o ho
  simp only [chF,lkS] at hk;by_cases e:nx=k
  ·subst e
   rw [vb] at ho;exact .inl (hl o ho)
  ·rw [j9 e] at hk
   rw [y0 _ _ (fun h=>e h.symm)] at ho;exact .inr ⟨k,r',hk,ho⟩
end
end Go.Av
namespace Go.Av
open Go Go.RowKit
section
variable {E : Env} {N : Nat} {ops : Array Oper} {nx : Nat} {sl : List (Nat × SV)} {H : Nat → Option SR} {k : Ef → Prop} {d : Option Tmp} {T : TypeId} {p : String} {af : Array Edge}
def wu (nx:Nat) (v:SV):Ef:=⟨v,[],[],nx⟩
def mvW (nx:Nat) (k:Ef→Prop):Option SV→Prop
 |some v=>k (wu nx v)
 |none=>False
theorem zh6 {x:Operand} (h:mvW nx k (sval N sl x)):∃ e,Loc E N ops ⟨d,.move x,T,p,af,none⟩ nx sl H e∧k e:=by
 cases hv:sval N sl x with
 |none=>rw [hv] at h;exact h.elim
 |some v=>rw [hv] at h;exact⟨_,js fun df rd K rest ρ t S hs hk=>qj (by rw [q9 hs hv];exact hk),h⟩
theorem q9u {x:Operand} (h:mvW nx k (sval N sl x)):∃ e,Loc E N ops ⟨d,.assign x,T,p,af,none⟩ nx sl H e∧k e:=by
 cases hv:sval N sl x with
 |none=>rw [hv] at h;exact h.elim
 |some v=>rw [hv] at h;exact⟨_,js fun df rd K rest ρ t S hs hk=>qg (by rw [q9 hs hv];exact hk),h⟩
def wayW (x y:Prop):SV→Prop
 | .tt=>x
 | .ff=>y
 | .p q _=>(q→x)∧(¬ q→y)
 | .b c=>(c=true→x)∧(c=false→y)
 | _=>False
theorem zc5 {x y:Prop} {v:SV} (h:wayW x y v):∃ c:Bool,(∀ ρ,v.ev ρ = Bv c)∧((c=true∧x)∨(c=false∧y)):=by
 cases v with
 |tt=>exact⟨true,fun _=>rfl,.inl ⟨rfl,h⟩⟩
 |ff=>exact⟨false,fun _=>rfl,.inr ⟨rfl,h⟩⟩
 |p q i=>
  by_cases hq:q
  ·exact⟨_,fun _=>rfl,.inl ⟨by simp [hq],h.1 hq⟩⟩
  ·exact⟨_,fun _=>rfl,.inr ⟨by simp [hq],h.2 hq⟩⟩
 |b c=>
  cases c with
  |true=>exact⟨true,fun _=>rfl,.inl ⟨rfl,h.1 rfl⟩⟩
  |false=>exact⟨false,fun _=>rfl,.inr ⟨rfl,h.2 rfl⟩⟩
 | _=>exact h.elim
def q8s (N:Nat) (sl:List (Nat×SV)) (nx:Nat) (k:Ef→Prop) (c x y:Operand):Prop:=
 match sval N sl c with
 |some v=>wayW (mvW nx k (sval N sl x)) (mvW nx k (sval N sl y)) v
 |none=>False
theorem zie {c x y:Operand} (h:q8s N sl nx k c x y):∃ e,Loc E N ops ⟨d,.pick c x y,T,p,af,none⟩ nx sl H e∧k e:=by
 unfold q8s at h;split at h
 ·rename_i v hv
  obtain⟨b,hb,h⟩:=zc5 h;rcases h with⟨hc,h⟩ | ⟨hc,h⟩
  ·cases hx:sval N sl x with
   |none=>rw [hx] at h;exact h.elim
   |some u=>rw [hx] at h;exact⟨_,js fun df rd K rest ρ t S hs hk=>qq2 ((q9 hs hv).trans (hb ρ)) hc (by rw [q9 hs hx];exact hk),h⟩
  ·cases hx:sval N sl y with
   |none=>rw [hx] at h;exact h.elim
   |some u=>rw [hx] at h;exact⟨_,js fun df rd K rest ρ t S hs hk=>qq1 ((q9 hs hv).trans (hb ρ)) hc (by rw [q9 hs hx];exact hk),h⟩
 ·exact h.elim
def q0h (P:Program) (nx:Nat) (k:Ef→Prop) (t:TypeId):Prop:=
 match qji P t with
 |some cs=>k ⟨.bx nx 0,[],[(nx,some (.cells t (nfs cs)))],nx+1⟩
 |none=>False
theorem qhb (k:Nat):resF [] H k=none:=rfl
theorem xf (k:Nat):resF [k] H k=H k:=by simp [resF,memN]
theorem zdd {t:TypeId} (h:q0h E.P nx k t):∃ e,Loc E N ops ⟨d,.alloc t,T,p,af,none⟩ nx sl H e∧k e:=by
 unfold q0h at h;split at h
 ·rename_i cs hz
  refine⟨_,qqg (fun k r hk=>by rw [qhb] at hk;simp at hk) fun df rd K rest ρ t' S hs _ hk=>qli rfl hz ?_,h⟩;have:=hk (.bx S.length 0 0) [.cells 0 t cs] ⟨S.length,0,rfl,by rw [qj4];exact x7,rfl⟩ (fun o ho=>by simp only [zq,Option.some.injEq] at ho;omega)
  simpa only [SV.ev,vb,bxAt] using this
 ·exact h.elim
theorem q7f {rd:Option Nat} {K:AS→Prop} {rest:List Oper} {s:AS} {t:TypeId} {x:Operand} {r:AV} {cs:List AV} (hx:Wk (ql N s x) r) (hok:r.okc=true) (hc:r.cells=cs)
  (h:AOps E rd N ops rest K (s.put d (.pp cs))):AOps E rd N ops (⟨d,.box t x,T,p,af,none⟩::rest) K s:=by
 refine za rfl (q8 nofun fun B0 w0 G a w _ hI=>?_);have hr:=(hx _ _ (hI.eval x)).cells hok;rw [hc] at hr;obtain⟨b0,hA⟩:=hI.agree.newPub t (a.eval x).cells (0,0) (a.eval x).cells.toList (fun i y hy=>by simpa using hy)
 have a4:(execOp a.eval ⟨d,.box t x,T,p,af,none⟩).run E.P w = .ok (.value (.pointer (some ⟨w.heap.size,0,none⟩))) (w.alloc (.cells (a.eval x).cells t)):=by
  generalize a.eval = ρ;simp [execOp,Instr.box,newVar,newRow,newObj,Sem.run]
 refine⟨_,_,_,.pp cs,s.st,a4,b0,hA,.pp cs w.heap.size 0 (a.eval x).cells.toList (by simp [Gh.publish]) (by rw [hr.1];simp) fun i x y hx hy=>(hr.2 i x y hx (by simpa using hy)).mono b0,h⟩
def qul (bxs:List Nat):Option Tmp→Bool
 |some d=>memN bxs d
 |none=>false
def boxW (bxs:List Nat) (H:Nat→Option SR) (nx:Nat) (k:Ef→Prop) (d:Option Tmp) (t:TypeId):Option SV→Prop
 |some v=>bif qul bxs d then (bif v.okc && v.all (fun k=> !Nat.beq k nx) then k ⟨.bx nx 0,[],[(nx,some (.cells t v.cells))],nx+1⟩ else False)
  else match frz (resF v.ks H) v with
   |some y=>bif y.okc then k ⟨.a (.pp y.cells),v.ks,[],nx⟩ else False
   |none=>False
 |none=>False
theorem q99 {f:Nat→Bool}:∀ v:SV,v.all f=true→SV.alls f v.cells=true
 | .ag cs,h=>h
 | .a x,_=>qqi _
 | .i _,_=>rfl
 | .s _,_=>rfl
 | .tt,_=>rfl
 | .ff,_=>rfl
 | .b _,_=>rfl
 | .p _ _,_=>rfl
 | .bx k _,h=>by simpa [SV.cells,SV.alls] using h
 | .tp k,h=>by simpa [SV.cells,SV.alls] using h
 | .tu cs,h=>by simpa [SV.cells,SV.alls] using h
 | .fn _ _ _,h=>by simpa [SV.cells,SV.alls] using h
 | .ifc _ _,h=>by simpa [SV.cells,SV.alls] using h
theorem zjd {bxs:List Nat} {t:TypeId} {x:Operand} (h:boxW bxs H nx k d t (sval N sl x)):∃ e,Loc E N ops ⟨d,.box t x,T,p,af,none⟩ nx sl H e∧k e:=by
 cases hv:sval N sl x with
 |none=>rw [hv] at h;exact h.elim
 |some v=>
  rw [hv] at h;unfold boxW at h
  cases hb:qul bxs d with
  |true=>
   rw [hb] at h;simp only [cond_true] at h
   cases hc:(v.okc && v.all (fun k=> !Nat.beq k nx)) with
   |false=>rw [hc] at h;exact h.elim
   |true=>
    rw [hc] at h;simp only [Bool.and_eq_true] at hc;refine⟨_,qqg (fun k r hk=>by rw [qhb] at hk;simp at hk) fun df rd K rest ρ t' S hs _ hk=>q9r rfl (q9 hs hv) (q2p ρ v hc.1) (qr9 ρ v).symm ?_,h⟩;have he:SV.evs (upd ρ nx (.bx S.length 0 0)) v.cells=SV.evs ρ v.cells:=qa6 (f:=fun k=> !Nat.beq k nx) (fun k hk=>y0 _ _ (fun e=>by subst e;simp at hk)) _ (q99 v hc.2);have:=hk (.bx S.length 0 0) [.cells 0 t (SV.evs ρ v.cells)] ⟨S.length,0,rfl,by rw [he];exact x7,rfl⟩ (fun o ho=>by simp only [zq,Option.some.injEq] at ho;omega)
    simpa only [SV.ev,vb,bxAt] using this
  |false=>
   rw [hb] at h;simp only [cond_false] at h;split at h
   ·rename_i y hy
    cases hc:y.okc with
    |false=>rw [hc] at h;exact h.elim
    |true=>
     rw [hc] at h;exact⟨_,qai (v:=.a (.pp y.cells)) fun df rd K rest ρ t' S hs hS hk=>q7f (by rw [q9 hs hv];exact qib hS v y hy) hc rfl hk,h⟩
   ·exact h.elim
def spl {α : Type} (cs:List α) (off:Nat) (xs:List α):List α:=cs.take off++xs++cs.drop (off+xs.length)
theorem zcj (ρ : Nat→AV) (cs xs:List SV) (off:Nat):SV.evs ρ (spl cs off xs)=zx (SV.evs ρ cs) off (SV.evs ρ xs):=by
 simp [spl,zx,w8]
def qt9 (place:Nat→Option (Nat×Nat)) (cells:List SV):List (Nat×SV)→Option (List SV)
 | []=>some cells
 |(i,x)::rest=>
  match place i with
  |none=>none
  |some (off,size)=>bif x.okc && Nat.beq x.cells.length size && Nat.ble (off+size) cells.length then qt9 place (spl cells off x.cells) rest else none
theorem q1q (ρ : Nat→AV) (place:Nat→Option (Nat×Nat)):∀ (ps:List (Nat×SV)) (cells cs:List SV),qt9 place cells ps=some cs→qc7 place (SV.evs ρ cells) (ps.map fun q=>(q.1,q.2.ev ρ))=some (SV.evs ρ cs)
 | [],cells,cs,h=>by simp only [qt9,Option.some.injEq] at h;subst h;rfl
 |(i,x)::rest,cells,cs,h=>by
  simp only [qt9] at h;simp only [List.map_cons,qc7]
  cases hp:place i with
  |none=>rw [hp] at h;simp at h
  |some q=>
   obtain⟨off,size⟩:=q;rw [hp] at h;simp only at h ⊢
   cases hb:(x.okc && Nat.beq x.cells.length size && Nat.ble (off+size) cells.length) with
   |false=>rw [hb] at h;simp at h
   |true=>
    rw [hb] at h;simp only [Bool.and_eq_true] at hb;have hl:∀ l:List SV,(SV.evs ρ l).length=l.length:=fun l=>by simp [w8]
    rw [q2p ρ x hb.1.1,← qr9,hl,hl,hb.1.2,hb.2,← zcj];exact q1q ρ place rest _ cs h
def qqr (N:Nat) (sl:List (Nat×SV)):List (Nat×Operand)→Option (List (Nat×SV))
 | []=>some []
 |(i,x)::r=>match sval N sl x,qqr N sl r with
  |some v,some l=>some ((i,v)::l)
  | _,_=>none
theorem qke {ρ t:Nat→AV} {S:List AObj} {df:List Nat} (h:SlOk ρ t sl):∀ {xs:List (Nat×Operand)} {l:List (Nat×SV)},qqr N sl xs=some l→(xs.map fun x=>(x.1,ql N ⟨t,S,df⟩ x.2))=l.map fun q=>(q.1,q.2.ev ρ)
 | [],l,hx=>by simp only [qqr,Option.some.injEq] at hx;subst hx;rfl
 |(i,x)::r,l,hx=>by
  simp only [qqr] at hx;split at hx
  ·rename_i v l' h1 h2
   simp only [Option.some.injEq] at hx;subst hx;simp only [List.map_cons,q9 h h1,qke h h2]
  ·simp at hx
def q03 (P:Program) (N:Nat) (sl:List (Nat×SV)) (nx:Nat) (k:Ef→Prop) (t:TypeId) (parts:Array (Nat×Operand)):Prop:=
 match qji P t,qwt P t,qqr N sl parts.toList with
 |some zs,some pl,some ps=>(match qt9 (pl[·]?) (nfs zs) ps with
  |some cs=>k (wu nx (.ag cs))
  |none=>False)
 | _,_,_=>False
theorem zds {t:TypeId} {parts:Array (Nat×Operand)} (h:q03 E.P N sl nx k t parts):∃ e,Loc E N ops ⟨d,.build t parts,T,p,af,none⟩ nx sl H e∧k e:=by
 unfold q03 at h;split at h
 ·rename_i zs pl ps hz hp hs
  split at h
  ·rename_i cs hf
   refine⟨_,js (v:=.ag cs) fun df rd K rest ρ t' S ho hk=>xw hz hp (cs:=SV.evs ρ cs) ?_ hk,h⟩;have:=q1q ρ _ _ _ _ hf;rw [qj4] at this;unfold wd;rw [qke ho hs];exact this
  ·exact h.elim
 ·exact h.elim
def qna (sz:Nat) (agg:Bool) (off:Nat) (cs:List SV):Option SV:=
 bif agg then (bif Nat.ble (off+sz) cs.length then some (.ag ((cs.drop off).take sz)) else none) else cs[off]?
theorem qsp (ρ : Nat→AV) {sz:Nat} {agg:Bool} {off:Nat} {cs:List SV} {v:SV} (h:qna sz agg off cs=some v):j8 sz agg off (SV.evs ρ cs)=some (v.ev ρ):=by
 unfold qna at h;unfold j8
 cases agg with
 |true=>
  simp only [cond_true] at h ⊢;rw [w8,List.length_map]
  cases hb:Nat.ble (off+sz) cs.length with
  |false=>rw [hb] at h;simp at h
  |true=>
   rw [hb] at h;simp only [cond_true,Option.some.injEq] at h ⊢;subst h
   simp [SV.ev,w8]
 |false=>
  simp only [cond_false] at h ⊢;rw [w8,List.getElem?_map,h];rfl
def optW (nx:Nat) (ks:List Nat) (k:Ef→Prop):Option SV→Prop
 |some v=>k ⟨v,ks,[],nx⟩
 |none=>False
def q8j (P:Program) (H:Nat→Option SR) (nx:Nat) (k:Ef→Prop) (t:TypeId):Option SV→Prop
 |some (.bx b off)=>(match H b,tyOf P t with
  |some (.cells _ cs),some (sz,agg)=>optW nx [b] k (qna sz agg off cs)
  | _,_=>False)
 |some (.a (.pp cs))=>(match tyOf P t with
  |some (sz,agg)=>(match j8 sz agg 0 cs with
   |some r=>k (wu nx (nf r))
   |none=>False)
  |none=>False)
 | _=>False
theorem zh1 {t:TypeId} {x:Operand} (h:q8j E.P H nx k t (sval N sl x)):∃ e,Loc E N ops ⟨d,.load t x,T,p,af,none⟩ nx sl H e∧k e:=by
 unfold q8j at h;split at h
 ·rename_i b off hv
  split at h
  ·rename_i T' cs sz agg hH ht
   cases hl:qna sz agg off cs with
   |none=>rw [hl] at h;exact h.elim
   |some v=>
    rw [hl] at h;refine⟨_,qai fun df rd K rest ρ t' S hs hS hk=>?_,h⟩;obtain⟨o,ver,h1,h2,h0⟩:=hS.ok b _ ((xf b).trans hH);exact vc (o:=o) (ver:=ver) (off:=off) ((q9 hs hv).trans (by simp only [SV.ev,h1,bxAt])) h2 ht (qsp ρ hl) hk
  ·exact h.elim
 ·rename_i cs hv
  split at h
  ·rename_i sz agg ht
   split at h
   ·rename_i r hr
    exact⟨_,js fun df rd K rest ρ t' S hs hk=>jn (q9 hs hv) ht hr (by rw [← qk9 ρ r];exact hk),h⟩
   ·exact h.elim
  ·exact h.elim
 ·exact h.elim
def q3r (P:Program) (H:Nat→Option SR) (nx:Nat) (k:Ef→Prop) (t:TypeId):Option SV→Option SV→Prop
 |some (.bx b off),some v=>(match H b,tyOf P t with
  |some (.cells T cs),some (sz,agg)=>bif v.okc && Nat.beq v.cells.length sz && ones v.cells && Nat.ble (off+sz) cs.length then k ⟨.a (.v undef),[b],[(b,some (.cells T (spl cs off v.cells)))],nx⟩ else False
  | _,_=>False)
 | _,_=>False
theorem zf1 {t:TypeId} {x y:Operand} (h:q3r E.P H nx k t (sval N sl x) (sval N sl y)):∃ e,Loc E N ops ⟨d,.store t x y,T,p,af,none⟩ nx sl H e∧k e:=by
 unfold q3r at h;split at h
 ·rename_i b off v hv hy
  split at h
  ·rename_i T' cs sz agg hH ht
   cases hb:(v.okc && Nat.beq v.cells.length sz && ones v.cells && Nat.ble (off+sz) cs.length) with
   |false=>rw [hb] at h;exact h.elim
   |true=>
    rw [hb] at h;simp only [Bool.and_eq_true] at hb;refine⟨_,fun df rd K rest ρ t' S hs hS hk=>?_,h⟩;obtain⟨o,ver,h1,h2,h0⟩:=hS.ok b _ ((xf b).trans hH);have hl:∀ l:List SV,(SV.evs ρ l).length=l.length:=fun l=>by simp [w8]
    refine qgk (o:=o) (ver:=ver) (off:=off) (xs:=SV.evs ρ v.cells) ((q9 hs hv).trans (by simp only [SV.ev,h1,bxAt])) (q9 hs hy) h2 ht (q2p ρ v hb.1.1.1) (qr9 ρ v).symm (by rw [hl];exact Nat.eq_of_beq_eq_true hb.1.1.2) (q6r ρ _ hb.1.2) (by rw [hl];exact Nat.le_of_ble_eq_true hb.2) ?_;rw [← zcj]
    have key:∀ k r,chF [(b,some (.cells T' (spl cs off v.cells)))] (resF [b] H) k=some r→k=b∧r = .cells T' (spl cs off v.cells):=fun k r hk=>by
     simp only [chF,lkS] at hk;by_cases e:b=k
     ·subst e
      have:Nat.beq b b=true:=by simp
      rw [this] at hk;simp only [cond_true,Option.some.injEq] at hk;exact⟨rfl,hk.symm⟩
     ·rw [j9 e] at hk
      have:=(we hk).1;simp only [memN,List.any_cons,List.any_nil,Bool.or_false] at this;exact absurd (Nat.eq_of_beq_eq_true this).symm e
    refine hk ρ _ ⟨fun _ _=>rfl,⟨fun k r hk=>?_,fun k k' r r' a6 g1 g2=>?_⟩,by simp,fun j hj a6=>?_,fun k r hk o' b6=>?_⟩
    ·obtain⟨rfl,rfl⟩:=key k r hk
     exact⟨o,ver,h1,qar h2,h0⟩
    ·exact absurd ((key k r g1).1.trans (key k' r' g2).1.symm) a6
    ·have:=a6 b _ ((xf b).trans hH)
     rw [h1] at this;exact List.getElem?_set_ne (fun e=>this (by rw [e];rfl))
    ·obtain⟨rfl,rfl⟩:=key k r hk
     exact .inr ⟨k,_,(xf k).trans hH,b6⟩
  ·exact h.elim
 ·exact h.elim
def q2f (nx:Nat) (k:Ef→Prop):Option SV→Prop
 |some (.bx b off)=>k (wu nx (.bx b off))
 |some (.a (.pp cs))=>k (wu nx (.a (.pp cs)))
 | _=>False
theorem zew {x:Operand} (h:q2f nx k (sval N sl x)):∃ e,Loc E N ops ⟨d,.nilCheck x,T,p,af,none⟩ nx sl H e∧k e:=by
 unfold q2f at h;split at h
 ·rename_i b off hv
  exact⟨_,js fun df rd K rest ρ t' S hs hk=>wm (q9 hs hv) (by simp only [SV.ev];cases ρ b <;> rfl) hk,h⟩
 ·rename_i cs hv
  exact⟨_,js fun df rd K rest ρ t' S hs hk=>wm (q9 hs hv) rfl hk,h⟩
 ·exact h.elim
end
end Go.Av
namespace Go.Av
open Go Go.RowKit
def qgr:SV→Option (IntKind×Int)
 | .i n=>some (.i64,n)
 | .a (.v (.int k n))=>some (k,n)
 | _=>none
theorem qc9 {v:SV} {k:IntKind} {n:Int} (h:qgr v=some (k,n)) (ρ : Nat→AV):v.ev ρ = .v (.int k n):=by
 unfold qgr at h;split at h
 ·simp only [Option.some.injEq,Prod.mk.injEq] at h;obtain⟨rfl,rfl⟩:=h;rfl
 ·simp only [Option.some.injEq,Prod.mk.injEq] at h;obtain⟨rfl,rfl⟩:=h;rfl
 ·simp at h
def cmpW (op:BinOp) (m n:Int) (k:SV→Prop):Prop:=
 match op with
 | .eql=>k (.p (m=n) inferInstance)
 | .neq=>k (.p (¬ m=n) inferInstance)
 | .lss=>k (.p (m<n) inferInstance)
 | .leq=>k (.p (m≤n) inferInstance)
 | .gtr=>k (.p (n<m) inferInstance)
 | .geq=>k (.p (n≤m) inferInstance)
 | _=>False
theorem zg4 {op:BinOp} {m n:Int} {k:SV→Prop} (h:cmpW op m n k):∃ v b,cmpI op m n=some b∧(∀ ρ,SV.ev ρ v=Bv b)∧k v:=by
 cases op <;> first|exact h.elim|exact⟨_,_,rfl,fun _=>rfl,h⟩
def rngW (r:Int) (k:SV→Prop):Prop:=(-9223372036854775808≤r∧r≤9223372036854775807)∧k (.i r)
def arW (kd:IntKind) (r:Int) (k:SV→Prop):Prop:=
 match kd with
 | .i64=>rngW r k
 |kd=>k (.a (.v (.int kd (kd.wrap r))))
theorem qtn {kd:IntKind} {r:Int} {k:SV→Prop} (h:arW kd r k):∃ v,(∀ ρ,SV.ev ρ v = .v (.int kd (kd.wrap r)))∧k v:=by
 cases kd <;> first|exact⟨.i r,fun ρ=>by rw [q6 h.1.1 h.1.2];rfl,h.2⟩|exact⟨_,fun _=>rfl,h⟩
def remW (kd:IntKind) (r:Int) (k:SV→Prop):Prop:=
 match kd with
 | .i64=>k (.i r)
 |kd=>k (.a (.v (.int kd r)))
theorem zik {kd:IntKind} {r:Int} {k:SV→Prop} (h:remW kd r k):∃ v,(∀ ρ,SV.ev ρ v = .v (.int kd r))∧k v:=by
 cases kd <;> exact⟨_,fun _=>rfl,h⟩
def intW (op:BinOp) (kd:IntKind) (m n:Int) (k:SV→Prop):Prop:=
 match op with
 | .add=>arW kd (m+n) k
 | .sub=>arW kd (m - n) k
 | .mul=>arW kd (m * n) k
 | .quo=>n≠0∧arW kd (m.tdiv n) k
 | .rem=>n≠0∧remW kd (m.tmod n) k
 |op=>cmpW op m n k
def strW (op:BinOp) (m n:List UInt8) (k:SV→Prop):Prop:=
 match op with
 | .add=>m.length+n.length<9223372036854775808∧k (.s (m++n))
 | .eql=>k (.p (m=n) inferInstance)
 | .neq=>k (.p (¬ m=n) inferInstance)
 |op=>match cmpS op m n with
  |some b=>k (.b b)
  |none=>False
def qtq:SV→Option Bool
 | .tt=>some true
 | .ff=>some false
 | .b c=>some c
 | .p q h=>some (@decide q h)
 | _=>none
theorem qkt {v:SV} {b:Bool} (h:qtq v=some b) (ρ : Nat→AV):v.ev ρ = Bv b:=by
 unfold qtq at h;split at h <;> first|(simp only [Option.some.injEq] at h;subst h;rfl)|simp at h
def nilQ:SV→Option Bool
 | .ifc _ _=>some false
 | .a (.ifc _ _)=>some false
 | .a (.v .nilIface)=>some true
 | _=>none
def nilP:SV→Option Bool
 | .bx _ _=>some false
 | .a (.pp _)=>some false
 | .a (.bx _ _ _)=>some false
 | .a (.v (.pointer none))=>some true
 | _=>none
def tf:Bool→SV
 |true=>.tt
 |false=>.ff
def eqW (op:BinOp) (b:Bool) (k:SV→Prop):Prop:=
 match op with
 | .eql=>k (tf b)
 | .neq=>k (tf (!b))
 | _=>False
def q14:Option TypeDesc→Bool
 |some (.interface _)=>true
 | _=>false
def q15:Option TypeDesc→Bool
 |some (.pointer _)=>true
 | _=>false
def binW (P:Program) (op:BinOp) (t:TypeId) (y:Operand) (k:SV→Prop) (vx vy:SV):Prop:=
 match y with
 | .const .nilIface=>(match nilQ vx with
  |some b=>bif q14 (P.underlying t) then eqW op b k else False
  |none=>False)
 | .const (.pointer none)=>(match nilP vx with
  |some b=>bif q15 (P.underlying t) then eqW op b k else False
  |none=>False)
 | _=>match qgr vx,qgr vy with
  |some (kd,m),some (kd',n)=>bif decide (kd=kd') then intW op kd m n k else False
  | _,_=>match vx,vy with
   | .s m,.s n=>strW op m n k
   |vx,vy=>match qtq vx,qtq vy,P.underlying t,op with
    |some a,some b,some .bool,.eql=>k (.b (a == b))
    |some a,some b,some .bool,.neq=>k (.b (!(a == b)))
    | _,_,_,_=>False
section
variable {E : Env} {N : Nat} {ops : Array Oper} {nx : Nat} {sl : List (Nat × SV)} {H : Nat → Option SR} {k : Ef → Prop} {d : Option Tmp} {T : TypeId} {p : String} {af : Array Edge}
def Rule (E:Env) (N:Nat) (ops:Array Oper) (o:Oper) (sl:List (Nat×SV)) (v:SV):Prop:=∀ (df:List Nat) (rd:Option Nat) (K:AS→Prop) (rest:List Oper) (ρ t:Nat→AV) (S:List AObj),SlOk ρ t sl→AOps E rd N ops rest K (AS.put ⟨t,S,df⟩ o.dst (v.ev ρ))→AOps E rd N ops (o::rest) K ⟨t,S,df⟩
theorem zjr {op:BinOp} {t t':TypeId} {x y:Operand} {vx vy:SV} {kd:IntKind} {m n:Int} {q:SV→Prop} (hx:sval N sl x=some vx) (hy:sval N sl y=some vy) (h1:qgr vx=some (kd,m)) (h2:qgr vy=some (kd,n)) (h:intW op kd m n q) :
  ∃ v,Rule E N ops ⟨d,.binOp op t x y t',T,p,af,none⟩ sl v∧q v:=by
 have e1:∀ {ρ t:Nat→AV} {S:List AObj} {df:List Nat},SlOk ρ t sl→ql N ⟨t,S,df⟩ x = .v (.int kd m):=fun hs=>(q9 hs hx).trans (qc9 h1 _);have e2:∀ {ρ t:Nat→AV} {S:List AObj} {df:List Nat},SlOk ρ t sl→ql N ⟨t,S,df⟩ y = .v (.int kd n):=fun hs=>(q9 hs hy).trans (qc9 h2 _)
 have cmp:cmpW op m n q→∃ v,Rule E N ops ⟨d,.binOp op t x y t',T,p,af,none⟩ sl v∧q v:=fun h=>by
  obtain⟨v,b,hb,hv,hq⟩:=zg4 h;exact⟨v,fun df rd K rest ρ t S hs hk=>qs (e1 hs) (e2 hs) hb (by rw [← hv ρ];exact hk),hq⟩
 cases op with
 |add=>
  obtain⟨v,hv,hq⟩:=qtn h
  exact⟨v,fun df rd K rest ρ t S hs hk=>zl (e1 hs) (e2 hs) rfl (by rw [← hv ρ];exact hk),hq⟩
 |sub=>
  obtain⟨v,hv,hq⟩:=qtn h
  exact⟨v,fun df rd K rest ρ t S hs hk=>xc (e1 hs) (e2 hs) rfl (by rw [← hv ρ];exact hk),hq⟩
 |mul=>
  obtain⟨v,hv,hq⟩:=qtn h
  exact⟨v,fun df rd K rest ρ t S hs hk=>qg1 (e1 hs) (e2 hs) rfl (by rw [← hv ρ];exact hk),hq⟩
 |quo=>
  obtain⟨hn,h⟩:=h;obtain⟨v,hv,hq⟩:=qtn h
  exact⟨v,fun df rd K rest ρ t S hs hk=>q0p (e1 hs) (e2 hs) hn rfl (by rw [← hv ρ];exact hk),hq⟩
 |rem=>
  obtain⟨hn,h⟩:=h;obtain⟨v,hv,hq⟩:=zik h
  exact⟨v,fun df rd K rest ρ t S hs hk=>q0q (e1 hs) (e2 hs) hn (by rw [← hv ρ];exact hk),hq⟩
 | _=>exact cmp h
theorem zkh {op:BinOp} {t t':TypeId} {x y:Operand} {m n:List UInt8} {q:SV→Prop} (hx:sval N sl x=some (.s m)) (hy:sval N sl y=some (.s n)) (h:strW op m n q):∃ v,Rule E N ops ⟨d,.binOp op t x y t',T,p,af,none⟩ sl v∧q v:=by
 have cmp:(match cmpS op m n with|some b=>q (.b b)|none=>False)→∃ v,Rule E N ops ⟨d,.binOp op t x y t',T,p,af,none⟩ sl v∧q v:=fun h=>by
  cases hc:cmpS op m n with
  |none=>rw [hc] at h;exact h.elim
  |some b=>rw [hc] at h;exact⟨.b b,fun df rd K rest ρ t S hs hk=>jk (q9 hs hx) (q9 hs hy) hc hk,h⟩
 cases op with
 |add=>exact⟨.s (m++n),fun df rd K rest ρ t S hs hk=>jp (q9 hs hx) (q9 hs hy) h.1 hk,h.2⟩
 |eql=>exact⟨.p (m=n) inferInstance,fun df rd K rest ρ t S hs hk=>jk (b:=decide (m=n)) (q9 hs hx) (q9 hs hy) rfl hk,h⟩
 |neq=>exact⟨.p (¬ m=n) inferInstance,fun df rd K rest ρ t S hs hk=>jk (b:=decide (¬ m=n)) (q9 hs hx) (q9 hs hy) rfl hk,h⟩
 | _=>exact cmp h
theorem zgk (ρ : Nat→AV) (b:Bool):(tf b).ev ρ = Bv b:=by cases b <;> rfl
theorem zjc {op:BinOp} {t t':TypeId} {x y:Operand} {vx vy:SV} {q:SV→Prop} (hx:sval N sl x=some vx) (hy:sval N sl y=some vy) (h:binW E.P op t y q vx vy):∃ v,Rule E N ops ⟨d,.binOp op t x y t',T,p,af,none⟩ sl v∧q v:=by
 unfold binW at h;split at h
 ·split at h
  ·rename_i b hb
   cases hu:q14 (E.P.underlying t) with
   |false=>rw [hu] at h;exact h.elim
   |true=>
    rw [hu] at h
    have hu':∃ ms,E.P.underlying t=some (.interface ms):=by
     unfold q14 at hu;split at hu
     ·rename_i ms he;exact⟨ms,he⟩
     ·simp at hu
    obtain⟨ms,hu'⟩:=hu';simp only [cond_true] at h
    have bp:(∃ (u:TypeId) (z:(Nat→AV)→AV),∀ ρ,vx.ev ρ = .ifc u (z ρ))∧b=false∨(∀ ρ,vx.ev ρ = .v .nilIface)∧b=true:=by
     unfold nilQ at hb;split at hb <;> simp only [Option.some.injEq,reduceCtorEq] at hb <;> subst hb
     ·rename_i u z;exact .inl ⟨⟨u,fun ρ=>z.ev ρ,fun _=>rfl⟩,rfl⟩
     ·rename_i u z;exact .inl ⟨⟨u,fun _=>z,fun _=>rfl⟩,rfl⟩
     ·exact .inr ⟨fun _=>rfl,rfl⟩
    rcases bp with⟨⟨u,z,hz⟩,rfl⟩ | ⟨hz,rfl⟩
    ·cases op with
     |eql=>exact⟨.ff,fun df rd K rest ρ t S hs hk=>qaw ((q9 hs hx).trans (hz ρ)) hu' hk,h⟩
     |neq=>exact⟨.tt,fun df rd K rest ρ t S hs hk=>w6 ((q9 hs hx).trans (hz ρ)) hu' hk,h⟩
     | _=>exact h.elim
    ·cases op with
     |eql=>exact⟨.tt,fun df rd K rest ρ t S hs hk=>qde ((q9 hs hx).trans (hz ρ)) hu' hk,h⟩
     |neq=>exact⟨.ff,fun df rd K rest ρ t S hs hk=>vw ((q9 hs hx).trans (hz ρ)) hu' hk,h⟩
     | _=>exact h.elim
  ·exact h.elim
 ·split at h
  ·rename_i b hb
   cases hu:q15 (E.P.underlying t) with
   |false=>rw [hu] at h;exact h.elim
   |true=>
    rw [hu] at h
    have hu':∃ ms,E.P.underlying t=some (.pointer ms):=by
     unfold q15 at hu;split at hu
     ·rename_i ms he;exact⟨ms,he⟩
     ·simp at hu
    obtain⟨ms,hu'⟩:=hu';simp only [cond_true] at h
    have bp:∀ ρ,qcs (vx.ev ρ)=some b:=fun ρ=>by
     unfold nilP at hb;split at hb <;> simp only [Option.some.injEq,reduceCtorEq] at hb <;> subst hb
     ·rename_i kk off;simp only [SV.ev];cases ρ kk <;> rfl
     ·rfl
     ·rfl
     ·rfl
    cases op with
    |eql=>exact⟨tf b,fun df rd K rest ρ t S hs hk=>qax (b:=b) rfl (by rw [q9 hs hx];exact bp ρ) hu' (by rw [← zgk ρ];exact hk),h⟩
    |neq=>exact⟨tf (!b),fun df rd K rest ρ t S hs hk=>qfc (b:=b) rfl (by rw [q9 hs hx];exact bp ρ) hu' (by rw [← zgk ρ];exact hk),h⟩
    | _=>exact h.elim
  ·exact h.elim
 ·split at h
  ·rename_i kd m kd' n h1 h2
   cases hd:decide (kd=kd') with
   |false=>rw [hd] at h;exact h.elim
   |true=>
    rw [hd] at h;have:kd=kd':=of_decide_eq_true hd;subst this;exact zjr hx hy h1 h2 h
  ·split at h
   ·exact zkh hx hy h
   ·split at h
    ·rename_i a b h1 h2 h3
     exact⟨.b (a == b),fun df rd K rest ρ t S hs hk=>zdf ((q9 hs hx).trans (qkt h1 ρ)) ((q9 hs hy).trans (qkt h2 ρ)) h3 hk,h⟩
    ·rename_i a b h1 h2 h3
     exact⟨.b (!(a == b)),fun df rd K rest ρ t S hs hk=>zdg ((q9 hs hx).trans (qkt h1 ρ)) ((q9 hs hy).trans (qkt h2 ρ)) h3 hk,h⟩
    ·exact h.elim
def notW (nx:Nat) (k:Ef→Prop):Option SV→Prop
 |some .tt=>k (wu nx .ff)
 |some .ff=>k (wu nx .tt)
 |some (.b c)=>k (wu nx (.b (!c)))
 |some (.p q h)=>k (wu nx (.p (¬ q) (@instDecidableNot q h)))
 | _=>False
theorem zj2 {t:TypeId} {x:Operand} (h:notW nx k (sval N sl x)):∃ e,Loc E N ops ⟨d,.unOp .not t x,T,p,af,none⟩ nx sl H e∧k e:=by
 unfold notW at h;split at h
 ·rename_i hv;exact⟨_,js (v:=.ff) fun df rd K rest ρ t' S hs hk=>z7 (m:=true) (q9 hs hv) hk,h⟩
 ·rename_i hv;exact⟨_,js (v:=.tt) fun df rd K rest ρ t' S hs hk=>z7 (m:=false) (q9 hs hv) hk,h⟩
 ·rename_i c hv;exact⟨_,js (v:=.b (!c)) fun df rd K rest ρ t' S hs hk=>z7 (q9 hs hv) hk,h⟩
 ·rename_i q i hv;exact⟨_,js (v:=.p (¬ q) (@instDecidableNot q i)) fun df rd K rest ρ t' S hs hk=>qmn (q:=q) (q9 hs hv) hk,h⟩
 ·exact h.elim
def q7w (P:Program) (t t':TypeId) (nx:Nat) (k:Ef→Prop):Option SV→Prop
 |some v=>(match qgr v,P.underlying t,P.underlying t' with
  |some (_,m),some _,some (.int kd)=>(match kd with
   | .i64=>(-9223372036854775808≤m∧m≤9223372036854775807)∧k (wu nx (.i m))
   |kd=>k (wu nx (.a (.v (.int kd (kd.wrap m))))))
  | _,_,_=>False)
 |none=>False
theorem zg6 {t t':TypeId} {x:Operand} (h:q7w E.P t t' nx k (sval N sl x)):∃ e,Loc E N ops ⟨d,.convert t t' x,T,p,af,none⟩ nx sl H e∧k e:=by
 unfold q7w at h;split at h
 ·rename_i v hv
  split at h
  ·rename_i kk m e kd h1 h2 h3
   have:∃ v,(∀ ρ,SV.ev ρ v = .v (.int kd (kd.wrap m)))∧k (wu nx v):=by
    cases kd <;> first|exact⟨.i m,fun ρ=>by rw [q6 h.1.1 h.1.2];rfl,h.2⟩|exact⟨_,fun _=>rfl,h⟩
   obtain⟨u,hu,hk⟩:=this;exact⟨_,js fun df rd K rest ρ t' S hs hk=>qef ((q9 hs hv).trans (qc9 h1 ρ)) h2 h3 rfl (by rw [← hu ρ];exact hk),hk⟩
  ·exact h.elim
 ·exact h.elim
def q2a (P:Program) (t:TypeId) (nx:Nat) (k:Ef→Prop):Option SV→Prop
 |some v=>(match P.underlying t with
  |some dsc=>bif qqf dsc then False else k (wu nx (.ifc t v))
  |none=>False)
 |none=>False
theorem zev {t:TypeId} {x:Operand} (h:q2a E.P t nx k (sval N sl x)):∃ e,Loc E N ops ⟨d,.makeInterface t x,T,p,af,none⟩ nx sl H e∧k e:=by
 unfold q2a at h;split at h
 ·rename_i v hv
  split at h
  ·rename_i dsc hd
   cases hi:qqf dsc with
   |true=>rw [hi] at h;exact h.elim
   |false=>rw [hi] at h;exact⟨_,js fun df rd K rest ρ t' S hs hk=>vh hd hi (by rw [q9 hs hv];exact hk),h⟩
  ·exact h.elim
 ·exact h.elim
def q8m (N:Nat) (sl:List (Nat×SV)) (fn:Fn) (xs ys:Array Operand) (nx:Nat) (k:Ef→Prop):Prop:=
 match qns N sl xs.toList,qns N sl ys.toList with
 |some a,some b=>k (wu nx (.fn fn a b))
 | _,_=>False
theorem zh5 {fn:Fn} {xs ys:Array Operand} (h:q8m N sl fn xs ys nx k):∃ e,Loc E N ops ⟨d,.makeFunc fn xs ys,T,p,af,none⟩ nx sl H e∧k e:=by
 unfold q8m at h;split at h
 ·rename_i a b ha hb
  exact⟨_,js fun df rd K rest ρ t' S hs hk=>qfb (by rw [qnt hs ha,qnt hs hb];exact hk),h⟩
 ·exact h.elim
def qmx (P:Program) (t:TypeId) (f:Nat) (nx:Nat) (k:Ef→Prop):Option SV→Prop
 |some (.bx b off)=>(match qbo P t f with
  |some (o,sz,_)=>bif Nat.beq sz 0 then False else k (wu nx (.bx b (off+o)))
  |none=>False)
 |some (.a (.pp cs))=>(match qbo P t f with
  |some (o,sz,_)=>bif !Nat.beq sz 0 && Nat.ble o cs.length then k (wu nx (.a (.pp (cs.drop o)))) else False
  |none=>False)
 | _=>False
theorem zdu (x:AV) (off o:Nat):∃ a b,bxAt x off = .bx a b off∧bxAt x (off+o) = .bx a b (off+o):=by
 cases x <;> exact⟨_,_,rfl,rfl⟩
theorem q1o {t:TypeId} {f:Nat} {x:Operand} (h:qmx E.P t f nx k (sval N sl x)):∃ e,Loc E N ops ⟨d,.fieldAddr t x f,T,p,af,none⟩ nx sl H e∧k e:=by
 unfold qmx at h;split at h
 ·rename_i b off hv
  split at h
  ·rename_i o sz agg hf
   cases hz:Nat.beq sz 0 with
   |true=>rw [hz] at h;exact h.elim
   |false=>
    rw [hz] at h;refine⟨_,js fun df rd K rest ρ t' S hs hk=>?_,h⟩;obtain⟨a1,b1,g1,g2⟩:=zdu (ρ b) off o;exact zj ((q9 hs hv).trans g1) hf hz (by rw [← g2];exact hk)
  ·exact h.elim
 ·rename_i cs hv
  split at h
  ·rename_i o sz agg hf
   cases hz:(!Nat.beq sz 0 && Nat.ble o cs.length) with
   |false=>rw [hz] at h;exact h.elim
   |true=>
    rw [hz] at h;simp only [Bool.and_eq_true,Bool.not_eq_true'] at hz;exact⟨_,js (v:=.a (.pp (cs.drop o))) fun df rd K rest ρ t' S hs hk=>xy (q9 hs hv) hf hz.1 hz.2 hk,h⟩
  ·exact h.elim
 ·exact h.elim
def q1p (P:Program) (t:TypeId) (f:Nat) (nx:Nat) (k:Ef→Prop):Option SV→Prop
 |some (.ag cs)=>(match qbo P t f with
  |some (o,sz,agg)=>optW nx [] k (qna sz agg o cs)
  |none=>False)
 |some (.a (.ag cs))=>(match qbo P t f with
  |some (o,sz,agg)=>(match j8 sz agg o cs with
   |some r=>k (wu nx (nf r))
   |none=>False)
  |none=>False)
 | _=>False
theorem zea {t:TypeId} {f:Nat} {x:Operand} (h:q1p E.P t f nx k (sval N sl x)):∃ e,Loc E N ops ⟨d,.field t x f,T,p,af,none⟩ nx sl H e∧k e:=by
 unfold q1p at h;split at h
 ·rename_i cs hv
  split at h
  ·rename_i o sz agg hf
   cases hl:qna sz agg o cs with
   |none=>rw [hl] at h;exact h.elim
   |some v=>
    rw [hl] at h;exact⟨_,js fun df rd K rest ρ t' S hs hk=>qit (q9 hs hv) hf (qsp ρ hl) hk,h⟩
  ·exact h.elim
 ·rename_i cs hv
  split at h
  ·rename_i o sz agg hf
   split at h
   ·rename_i r hr
    exact⟨_,js fun df rd K rest ρ t' S hs hk=>qit (q9 hs hv) hf hr (by rw [← qk9 ρ r];exact hk),h⟩
   ·exact h.elim
  ·exact h.elim
 ·exact h.elim
def qsd (i:Nat) (nx:Nat) (k:Ef→Prop):Option SV→Prop
 |some (.tu vs)=>optW nx [] k vs[i]?
 |some (.a (.tu vs))=>(match vs[i]? with
  |some r=>k (wu nx (nf r))
  |none=>False)
 | _=>False
theorem q76 {i:Nat} {x:Operand} (h:qsd i nx k (sval N sl x)):∃ e,Loc E N ops ⟨d,.extract x i,T,p,af,none⟩ nx sl H e∧k e:=by
 unfold qsd at h;split at h
 ·rename_i vs hv
  cases hl:vs[i]? with
  |none=>rw [hl] at h;exact h.elim
  |some v=>
   rw [hl] at h;exact⟨_,js fun df rd K rest ρ t' S hs hk=>zf (xs:=SV.evs ρ vs) (q9 hs hv) (by rw [w8,List.getElem?_map,hl];rfl) hk,h⟩
 ·rename_i vs hv
  split at h
  ·rename_i r hr
   exact⟨_,js fun df rd K rest ρ t' S hs hk=>zf (q9 hs hv) hr (by rw [← qk9 ρ r];exact hk),h⟩
  ·exact h.elim
 ·exact h.elim
def qkx (H:Nat→Option SR) (sz:Nat):SV→Option (List AV×List Nat)
 | .a (.sl z xs _)=>bif Nat.beq z sz then some (xs,[]) else none
 | .a (.v (.slice none 0 0))=>some ([],[])
 | .tp b=>(match H b with
  |some (.tip z _ xs)=>bif Nat.beq z sz then some (xs,[b]) else none
  | _=>none)
 | _=>none
theorem qfm {S:List AObj} {ρ : Nat→AV} {v:SV} {sz:Nat} {xs:List AV} {ks:List Nat} (h:qkx H sz v=some (xs,ks)) (hS:SatF S ρ (resF ks H)):Wk (v.ev ρ) (.sl sz xs none):=by
 unfold qkx at h;split at h
 ·rename_i z ys tip
  cases hz:Nat.beq z sz with
  |false=>rw [hz] at h;simp at h
  |true=>
   rw [hz] at h;simp only [cond_true,Option.some.injEq,Prod.mk.injEq] at h;obtain⟨rfl,rfl⟩:=h;rw [← Nat.eq_of_beq_eq_true hz];exact zf9 _ _ _
 ·simp only [Option.some.injEq,Prod.mk.injEq] at h
  obtain⟨rfl,rfl⟩:=h;exact fun _ _ h=>qb9 h
 ·rename_i b
  split at h
  ·rename_i z T' ys hb
   cases hz:Nat.beq z sz with
   |false=>rw [hz] at h;simp at h
   |true=>
    rw [hz] at h;simp only [cond_true,Option.some.injEq,Prod.mk.injEq] at h;obtain⟨rfl,rfl⟩:=h;rw [← Nat.eq_of_beq_eq_true hz];exact (qw9 (hS.ok b _ ((xf b).trans hb))).1
  ·simp at h
 ·simp at h
end
end Go.Av
namespace Go.Av
open Go Go.RowKit
section
variable {E : Env} {rd : Option Nat} {N : Nat} {ops : Array Oper} {K : AS → Prop} {s : AS} {rest : List Oper} {d : Option Tmp} {T : TypeId} {p : String} {af : Array Edge}
theorem qgj {x:Operand} {t e:TypeId} {lo hi:Option Operand} {sz:Nat} {agg:Bool} {xs:List AV} {i j:Nat} (hx:Wk (ql N s x) (.sl sz xs none)) (hu:E.P.underlying t=some (.slice e)) (ht:tyOf E.P e=some (sz,agg))
  (u7:match lo with|none=>i=0|some y=>∃ k,ql N s y = .v (.int k (i:Int))) (o8:match hi with|none=>j=xs.length|some y=>∃ k,ql N s y = .v (.int k (j:Int))) (h1:i≤j) (h2:j≤xs.length)
  (h:AOps E rd N ops rest K (s.put d (.sl sz ((xs.take j).drop i) none))):AOps E rd N ops (⟨d,.slice t x lo hi none,T,p,af,none⟩::rest) K s:=by
 refine za rfl (q8 nofun fun B0 w0 G a w _ hI=>?_);have he:=hx _ _ (hI.eval x);generalize hv:a.eval x=v at he;have cx:∃ b len cap,v = .slice b len cap:=by cases he <;> exact⟨_,_,_,rfl⟩
 obtain⟨b,len,cap,rfl⟩:=cx;obtain⟨hl,hlc,hr⟩:=qvj he h1 h2;refine⟨_,w,G,_,s.st,?_,.refl G,hI.agree,hr,h⟩
 have a4:=qvn hu ht b len cap (lo.map a.eval) (hi.map a.eval) i j w (by
  cases lo with
  |none=>exact u7
  |some y=>obtain⟨k,hy⟩:=u7;exact⟨k,hI.evalv hy⟩) (by
  cases hi with
  |none=>simp only at o8;simp only [Option.map_none];omega
  |some y=>obtain⟨k,hy⟩:=o8;exact⟨⟨k,hI.evalv hy⟩,by omega⟩) h1
 generalize a.eval = ρ at hv a4;simp only [execOp,hv];simp [Instr.sliceAt,run_underlying hu,a4]
theorem qth {x y:Operand} {t e:TypeId} {sz:Nat} {agg:Bool} {xs:List AV} {k:IntKind} {i:Int} {n:Nat} {z:AV} (hx:Wk (ql N s x) (.sl sz xs none)) (hy:ql N s y = .v (.int k i)) (hu:E.P.underlying t=some (.slice e)) (ht:tyOf E.P e=some (sz,agg)) (hi:i=n) (hz:xs[n]? = some z)
  (h:AOps E rd N ops rest K (s.put d (.pp z.cells))):AOps E rd N ops (⟨d,.indexAddr t x y,T,p,af,none⟩::rest) K s:=by
 refine za rfl (q8 nofun fun B0 w0 G a w _ hI=>?_);subst hi;have he:=hx _ _ (hI.eval x);have u6:=hI.evalv hy;generalize hv:a.eval x=v at he;have b4:=lt_of_getElem? hz
 cases he with
 |sl0=>simp at hz
 |sl _ _ _ b off cap pub hp hw a7 d5 htip g7=>
  have ft:z.cells.length=sz:=hw z (List.mem_of_getElem? hz);have d8:=zt hw;have b0:(n+1) * sz≤xs.length * sz:=Nat.mul_le_mul_right _ b4;rw [Nat.succ_mul] at b0;refine⟨.pointer (some ⟨b,off+n * sz,none⟩),w,G,.pp z.cells,s.st,?_,.refl G,hI.agree,?_,h⟩
  ·generalize a.eval = ρ at hv u6
   simp only [execOp,hv,u6];simp [Instr.indexAt,asIntOf,run_underlying hu,b4,(vj ht w).1,Addr.add_lit]
  ·refine .pp _ b _ pub hp (by omega) fun j q r h1 h2=>?_
   have hj:j<sz:=by have:=lt_of_getElem? h1;omega
   have hf:=qmy hw hz j hj;exact d5 (n * sz+j) q r (by rw [hf];exact h1) (by rw [← h2];congr 1;omega)
theorem q0m {x y:Operand} {t u T':TypeId} {sz bytes:Nat} {xs ys:List AV} {c:AV} (hx:ql N s x=c) (hy:Wk (ql N s y) (.sl sz ys none))
  (ht:E.P.underlying t=some (.slice T')) (hu:E.P.underlying u=some (.slice T')) (hT:yi E.P T' sz bytes) (hc:TipO 0 s.st sz T' xs c) (d6:j7 (flat ys)=true) (i8:xs.length+ys.length≤maxLen) (hby:(xs.length+ys.length) * bytes≤140737488355328)
  (h:∀ c' st' t1,TipO 0 st' sz T' (xs++ys) c'→Fr s.st st' t1→(c = .sl sz xs (some t1)∨s.st.length≤t1)→(∀ o,zq c'=some o→o=t1)→AOps E rd N ops rest K (AS.put ⟨s.t,st',s.df⟩ d c')):AOps E rd N ops (⟨d,.call ⟨.builtin .append,#[x,y],#[t,u]⟩,T,p,af,none⟩::rest) K s:=by
 refine za rfl (q8 nofun fun B0 w0 G a w _ hI=>?_);have hyr:Rel G (.sl sz ys none) (a.eval y):=hy _ _ (hI.eval y);rcases hc with (⟨dv,hcn⟩ | ⟨t1,h1,h2,h3⟩) | ⟨dv,o,ver,f,hco⟩
 ·subst dv
  have b0:=G.le_new 0 0 0 false;have hA:=hI.agree.newTip sz T';have hv:a.eval x = .slice none 0 0:=hI.evalv (hx.trans hcn);have hn:=hI.agree.n;obtain⟨news,k1,k2,k3⟩:=y6 (P:=E.P) hA (hyr.mono b0) (by simpa [j7] using d6)
  have hr:Rel (G.new 0 0 0 false) (.sl sz [] (some s.st.length)) (a.eval x):=by
   rw [hv];exact .sl0 sz _ none 0 fun t ht=>by simp only [Option.some.injEq] at ht;subst ht;exact⟨by simp [Gh.new,hn],rfl,rfl⟩
  obtain⟨v',w',G',e1,e2,e3,e4⟩:=qco (ty:=T) hA ht hu (.inr ⟨_,rfl⟩) hT (t:=s.st.length) (n:=0) (by simp) hr rfl rfl k1 k2 k3 (by simpa using i8) (by simpa using hby);refine⟨v',w',G',_,_,?_,b0.trans e2,e3,e4,h _ _ s.st.length (.inl (.inr ⟨s.st.length,rfl,?_,Nat.zero_le _⟩)) ⟨by simp,fun k hk b4=>?_⟩ (.inr (Nat.le_refl _)) (fun o ho=>by simp only [zq,Option.some.injEq] at ho;exact ho.symm)⟩
  ·generalize a.eval = ρ at e1
   simp [execOp,resolve,invoke,builtin,e1]
  ·simp
  ·rw [List.getElem?_set_ne (Ne.symm hk),List.getElem?_append_left b4]
 ·obtain⟨news,k1,k2,k3⟩:=y6 (P:=E.P) hI.agree hyr (by simpa [j7] using d6)
  obtain⟨v',w',G',e1,e2,e3,e4⟩:=qco (ty:=T) hI.agree ht hu (.inr ⟨_,rfl⟩) hT h2 (hI.eval_of (hx.trans h1)) rfl rfl k1 k2 k3 i8 hby;refine⟨v',w',G',_,_,?_,e2,e3,e4,h _ _ t1 (.inl (.inr ⟨t1,rfl,?_,Nat.zero_le _⟩)) ⟨by simp,fun k hk b4=>?_⟩ (.inl h1) (fun o ho=>by simp only [zq,Option.some.injEq] at ho;exact ho.symm)⟩
  ·generalize a.eval = ρ at e1
   simp [execOp,resolve,invoke,builtin,e1]
  ·rw [List.length_append]
   exact kq h2
  ·rw [List.getElem?_set_ne (Ne.symm hk)]
 ·subst dv
  have he:=hI.eval_of (hx.trans hco);obtain⟨news,k1,k2,k3⟩:=y6 (P:=E.P) hI.agree hyr (by simpa [j7] using d6);have hex:=hT.ex;obtain⟨i,z,hi,hz,d9,hbt,ft⟩:=hex;generalize hv:a.eval x=v at he
  cases he with
  |os _ _ _ _ blk _ hn hvv pr=>
   by_cases fc:ys.length=0
   ·have ln:ys=[]:=List.eq_nil_of_length_eq_zero fc
    subst ln
    have hk1':Src E.P w (a.eval y) 0 i.size []:=by
     have:news=[]:=List.eq_nil_of_length_eq_zero (by simpa using k1.count);rw [d9];rw [this] at k1;exact k1
    refine⟨_,w,G,_,s.st,?_,.refl G,hI.agree,.os o ver f 0 blk 0 hn hvv pr,h _ s.st s.st.length (.inr ⟨rfl,o,ver,f,rfl⟩) ⟨Nat.le_refl _,fun _ _ _=>rfl⟩ (.inr (Nat.le_refl _)) (fun o ho=>by simp [zq] at ho)⟩;have:=qcv (ty:=T) ht hu (.inr ⟨_,rfl⟩) hi hk1' (some ⟨blk,f,none⟩) 0 0 (Nat.le_refl _);generalize a.eval = ρ at hv this;simp [execOp,resolve,invoke,builtin,hv,this]
   ·have b0:=G.le_new 0 0 0 false
    have hA:=hI.agree.newTip sz T';have hz63:0+ys.length≤maxLen:=by simpa using i8
    obtain⟨v',w',G',e1,e2,e3,e4⟩:=qtb (ty:=T) hA ht hu (.inr ⟨_,rfl⟩) hT (t:=s.st.length) (n:=0) (xs:=[]) (by simp) rfl rfl k1 k2 (fun i a b h1 h2=>(k3 i a b h1 h2).mono b0) hz63 (some ⟨blk,f,none⟩) 0 []
     (run_firstCells_some w.drew sz 0 ⟨blk,f,none⟩ 0 0 [] (by simp) (by simp)) (by omega) (by simp) (by simp [flat]) (by simp) (by simp [flat]) (by rw [Nat.zero_add,nextslicecap_zero (by omega)];have:=hby;simp at this;omega) fc
    refine⟨v',w',G',_,_,?_,b0.trans e2,e3,e4,h _ _ s.st.length (.inl (.inr ⟨s.st.length,rfl,?_,Nat.zero_le _⟩)) ⟨by simp,fun k hk b4=>?_⟩ (.inr (Nat.le_refl _)) (fun o ho=>by simp only [zq,Option.some.injEq] at ho;exact ho.symm)⟩
    ·generalize a.eval = ρ at e1 hv
     simp [execOp,resolve,invoke,builtin,hv,e1]
    ·simp
    ·rw [List.getElem?_set_ne (Ne.symm hk),List.getElem?_append_left b4]
theorem qr1 {t e:TypeId} {len sz:Nat} {agg:Bool} {parts:Array (Nat×Operand)} {zs cs xs:List AV} (ps:List (Nat×AV)) (bd:(wd N s parts).length=ps.length) (pg:∀ (i:Nat) (q p:Nat×AV),(wd N s parts)[i]? = some q→ps[i]? = some p→q.1=p.1∧Wk q.2 p.2)
  (hu:E.P.underlying t=some (.slice e)) (ht:tyOf E.P e=some (sz,agg)) (hz:qg0 E.P e len=some zs)
  (hf:qc7 (fun i=>some (i * sz,sz)) zs ps=some cs) (a7:xs.length=len) (d8:flat xs=cs) (hw:∀ x∈xs,x.cells.length=sz) (d9:Nat.ble (len * sz) 16777216=true)
  (h:AOps E rd N ops rest K (s.put d (.sl sz xs none))):AOps E rd N ops (⟨d,.buildSlice t len parts,T,p,af,none⟩::rest) K s:=by
 refine za rfl (q8 nofun fun B0 w0 G a w _ hI=>?_)
 have hparts:∀ (i:Nat) (p:Nat×AV) (v:Nat×Value),ps[i]? = some p→(parts.toList.map fun x=>(x.1,a.eval x.2))[i]? = some v→p.1=v.1∧Rel G p.2 v.2:=fun i p v hp hv=>by
  have hi:i<(wd N s parts).length:=by rw [bd];exact lt_of_getElem? hp
  have hq:(wd N s parts)[i]? = some (wd N s parts)[i]:=List.getElem?_eq_getElem hi;obtain⟨h1,h2⟩:=pg i _ p hq hp;obtain⟨h3,h4⟩:=qlc hI parts i _ v hq hv;exact⟨h1.symm.trans h3,h2 _ _ h4⟩
 have t8:=(vj ht w).1;have d9:=Nat.le_of_ble_eq_true d9
 have hrunE:∃ c':Array Value,(execOp a.eval ⟨d,.buildSlice t len parts,T,p,af,none⟩).run E.P w = .ok (.value (.slice (some ⟨w.heap.size,0,none⟩) len len)) (w.alloc (.cells c' e))∧RelC G cs c':=by
  unfold qg0 at hz
  cases hi:E.P.info? e with
  |none=>rw [hi] at hz;simp at hz
  |some i=>
   rw [hi] at hz;simp only at hz;have hs:i.size=sz:=by simpa [sizeOf,typeInfo,hi] using t8
   rw [hs] at hz
   have key:∃ c0:Array Value,RelC G zs c0∧∀ (Q:Array Value→Sem Value),((do
     let zero ← if len * sz=0 then pure #[] else do pure (← zeroValue e).cells
     Q ((Array.range (len * sz)).map (zero[· % zero.size]!)):Sem Value)).run E.P w=(Q c0).run E.P w:=by
    by_cases h0:len * sz=0
    ·rw [h0] at hz
     simp at hz;subst hz;exact⟨#[],⟨rfl,by simp⟩,fun Q=>by have e:Array.range 0 = #[]:=(by simp [Array.range]);simp [h0,e]⟩
    ·have:Nat.beq (len * sz) 0=false:=j9 h0
     rw [this] at hz;simp only [cond_false] at hz
     cases hzr:i.zero with
     |none=>rw [hzr] at hz;simp at hz
     |some z=>
      rw [hzr] at hz;simp only [Option.map_some,Option.some.injEq] at hz;subst hz;refine⟨(Array.range (len * sz)).map (z.cells[· % z.cells.size]!),⟨by simp,fun k x y h1 h2=>?_⟩,fun Q=>by simp [h0,zeroValue,typeInfo,hi,hzr]⟩;have hk:k<len * sz:=by have:=lt_of_getElem? h1;simpa using this
      simp [hk] at h1 h2;subst h1;subst h2;exact .v _
   obtain⟨c0,hc0,hrun0⟩:=key;obtain⟨c',h1,h2⟩:=qjx (fun i=>some (i * sz,sz)) ps (parts.toList.map fun x=>(x.1,a.eval x.2)) zs c0 cs (by rw [← bd];simp [wd]) hparts hc0 hf;refine⟨c',?_,h2⟩;generalize a.eval = ρ at h1;have hb:¬ 16777216<len * sz:=by omega
   have hg:∃ m:String,(execOp ρ ⟨d,.buildSlice t len parts,T,p,af,none⟩).run E.P w=(((do
    let zero ← if len * sz=0 then pure #[] else do pure (← zeroValue e).cells
    (fun c=>(do
    let some cells:=Instr.fill (fun i=>some (i * sz,sz)) c (parts.map fun x=>(x.1,ρ x.2)).toList|stuck m
    pure (Value.slice (some (← newRow e cells)) len len):Sem Value)) ((Array.range (len * sz)).map (zero[· % zero.size]!)):Sem Value)).run E.P w).andThen fun v w'=>.ok (.value v) w':=by
    apply Exists.intro;simp only [execOp,Instr.buildSlice];simp [run_underlying hu,t8,hb];rfl
   obtain⟨m,hg⟩:=hg
   have hQ:=hrun0 (fun c=>do
    let some cells:=Instr.fill (fun i=>some (i * sz,sz)) c (parts.map fun x=>(x.1,ρ x.2)).toList|stuck m
    pure (.slice (some (← newRow e cells)) len len))
   rw [hg,hQ];simp [h1,newRow,newObj,Sem.run]
 obtain⟨c',a4,h2⟩:=hrunE;obtain⟨b0,hA⟩:=hI.agree.newPub e c' (0,0) c'.toList (fun i y hy=>by simpa using hy);refine⟨.slice (some ⟨w.heap.size,0,none⟩) len len,w.alloc (.cells c' e),_,.sl sz xs none,s.st,a4,b0,hA,?_,h⟩;rw [← a7]
 cases xs with
 |nil=>exact .sl0 sz none _ _ (by simp)
 |cons x0 xr=>
  refine .sl sz _ none w.heap.size 0 _ c'.toList (by simp [Gh.publish]) hw (by rw [d8,h2.1];simp) (fun k x y g1 g2=>?_) (fun t ht=>by simp at ht) (Nat.le_refl _);rw [d8] at g1;exact (h2.2 k x y g1 (by simpa using g2)).mono b0
end
def jt {α : Type}:Nat→List α→List (Nat×α)
 | _,[]=>[]
 |i,x::r=>(i,x)::jt (i+1) r
theorem qse {sz:Nat}:∀ (ys:List AV) (k:Nat) (done zs:List AV),(∀ y∈ys,y.okc=true∧y.cells.length=sz)→done.length=k * sz→zs.length=ys.length * sz →
  qc7 (fun i=>some (i * sz,sz)) (done++zs) (jt k ys)=some (done++flat ys)
 | [],k,done,zs,_,_,hz=>by
  have:zs=[]:=List.eq_nil_of_length_eq_zero (by simpa using hz);subst this
  rfl
 |y::r,k,done,zs,hy,hd,hz=>by
  obtain⟨h1,h2⟩:=hy y (by simp);simp only [List.length_cons,Nat.succ_mul] at hz;simp only [jt,qc7,h1,h2];have hb:Nat.beq sz sz=true:=by simp
  have hl:Nat.ble (k * sz+sz) (done++zs).length=true:=Nat.ble_eq_true_of_le (by simp;omega);rw [hb,hl]
  have e:zx (done++zs) (k * sz) y.cells=(done++y.cells)++zs.drop sz:=by
   unfold zx;rw [← hd,List.take_left,h2,List.drop_append];simp
  simp only [Bool.and_self,cond_true];rw [e,qse r (k+1) (done++y.cells) (zs.drop sz) (fun y' hy'=>hy y' (by simp [hy'])) (by simp [hd,h2,Nat.succ_mul]) (by simp;omega)];simp [flat]
def ql2 (P:Program):Nat→TypeId→List (Option Nat)
 | 0,_=>[none]
 |n+1,t=>match P.underlying t with
  |some (.struct fs)=>fs.toList.flatMap fun f=>ql2 P n f.type
  |some (.slice e)=>(match tyOf P e with
   |some (sz,_)=>[some sz]
   |none=>[none])
  | _=>[none]
def nrm1:Option Nat→AV→AV
 |some sz,.v (.slice none 0 0)=>.sl sz [] none
 | _,x=>x
def nrmL:List (Option Nat)→List AV→List AV
 |k::r,x::s=>nrm1 k x::nrmL r s
 | _,l=>l
def nrmT (P:Program) (t:TypeId) (x:AV):AV:=
 match x with
 | .ag cs=>.ag (nrmL (ql2 P 4 t) cs)
 | .v (.slice none 0 0)=>(match ql2 P 1 t with
  | [k]=>nrm1 k (.v (.slice none 0 0))
  | _=>.v (.slice none 0 0))
 |x=>x
def zipT (P:Program):List TypeId→List AV→List AV
 |t::r,x::s=>nrmT P t x::zipT P r s
 | _,l=>l
theorem q67 (k:Option Nat) (x:AV):Wk x (nrm1 k x):=by
 unfold nrm1;split
 ·exact fun _ _ h=>qb9 h
 ·exact wx _
theorem q6k:∀ (ks:List (Option Nat)) (l:List AV),l.length=(nrmL ks l).length∧∀ (i:Nat) (x y:AV),l[i]? = some x→(nrmL ks l)[i]? = some y→Wk x y
 | [],l=>⟨by simp [nrmL],fun i x y hx hy=>by simp only [nrmL] at hy;rw [hx] at hy;simp only [Option.some.injEq] at hy;subst hy;exact wx _⟩
 |k::r,[]=>⟨by simp [nrmL],fun i x y hx=>by simp at hx⟩
 |k::r,z::s=>by
  obtain⟨h1,h2⟩:=q6k r s;refine⟨by simp [nrmL,h1],fun i x y hx hy=>?_⟩;simp only [nrmL] at hy
  cases i with
  |zero=>simp at hx hy;subst hx;subst hy;exact q67 k _
  |succ i=>exact h2 i x y (by simpa using hx) (by simpa using hy)
theorem zi4 (P:Program) (t:TypeId) (x:AV):Wk x (nrmT P t x):=by
 unfold nrmT;split
 ·obtain⟨h1,h2⟩:=q6k (ql2 P 4 t) (by assumption)
  exact q9j h1 h2
 ·split
  ·exact q67 _ _
  ·exact wx _
 ·exact wx _
theorem q7c (P:Program):∀ (ts:List TypeId) (l:List AV),l.length=(zipT P ts l).length∧∀ (i:Nat) (x y:AV),l[i]? = some x→(zipT P ts l)[i]? = some y→Wk x y
 | [],l=>⟨by simp [zipT],fun i x y hx hy=>by simp only [zipT] at hy;rw [hx] at hy;simp only [Option.some.injEq] at hy;subst hy;exact wx _⟩
 |t::r,[]=>⟨by simp [zipT],fun i x y hx=>by simp at hx⟩
 |t::r,z::s=>by
  obtain⟨h1,h2⟩:=q7c P r s;refine⟨by simp [zipT,h1],fun i x y hx hy=>?_⟩;simp only [zipT] at hy
  cases i with
  |zero=>simp at hx hy;subst hx;subst hy;exact zi4 P t _
  |succ i=>exact h2 i x y (by simpa using hx) (by simpa using hy)
def qum:AV→Bool
 | .v (.slice none 0 0)=>true
 | _=>false
theorem qyf {x:AV} (h:qum x=true):x=zp:=by
 unfold qum at h;split at h
 ·rfl
 ·simp at h
def fcN (n:Nat) (k:Nat→Prop):Prop:=
 bif Nat.beq n 1 then k 1 else bif Nat.beq n 2 then k 2 else bif Nat.beq n 3 then k 3 else bif Nat.beq n 4 then k 4 else bif Nat.beq n 5 then k 5 else k n
theorem qo0 (n:Nat) (k:Nat→Prop):fcN n k=k n:=by
 unfold fcN;by_cases h1:n=1
 ·subst h1;rfl
 rw [j9 h1];by_cases h2:n=2
 ·subst h2;rfl
 rw [j9 h2];by_cases h3:n=3
 ·subst h3;rfl
 rw [j9 h3];by_cases h4:n=4
 ·subst h4;rfl
 rw [j9 h4];by_cases h5:n=5
 ·subst h5;rfl
 rw [j9 h5];rfl
def quw:List (Option Nat)→List AV→(List AV→Prop)→Prop
 |c::r,x::s,k=>(match qum x,c with
  |true,some sz=>fcN sz fun sz=>quw r s fun l=>k (.sl sz [] none::l)
  | _,_=>quw r s fun l=>k (x::l))
 | _,l,k=>k l
def q8o:List AV→Bool
 | []=>false
 |x::r=>qum x ||q8o r
def nrmK (P:Program) (t:TypeId) (x:AV) (k:AV→Prop):Prop:=
 match q8o x.cells with
 |false=>k x
 |true=>(match x with
  | .ag cs=>quw (ql2 P 4 t) cs fun l=>k (.ag l)
  |x=>(match ql2 P 1 t with
   | [some sz]=>fcN sz fun sz=>k (.sl sz [] none)
   | _=>k x))
def WkL (l m:List AV):Prop:=l.length=m.length∧∀ (i:Nat) (x y:AV),l[i]? = some x→m[i]? = some y→Wk x y
theorem qqv:WkL [] []:=⟨rfl,fun i x y h=>by simp at h⟩
theorem qkj {x y:AV} {l m:List AV} (h:Wk x y) (hl:WkL l m):WkL (x::l) (y::m):=⟨by simp [hl.1],fun i a b ha hb=>by
 cases i with
 |zero=>simp at ha hb;subst ha;subst hb;exact h
 |succ i=>exact hl.2 i a b (by simpa using ha) (by simpa using hb)⟩
theorem qs8:∀ l:List AV,WkL l l
 | []=>qqv
 |x::r=>qkj (wx x) (qs8 r)
theorem qst:∀ (cs:List (Option Nat)) (l:List AV) (k:List AV→Prop),quw cs l k→∃ m,WkL l m∧k m
 | [],l,k,h=>⟨l,qs8 l,by cases l <;> exact h⟩
 |c::r,[],k,h=>⟨[],qqv,h⟩
 |c::r,x::s,k,h=>by
  simp only [quw] at h;split at h
  ·rename_i sz hx
   rw [qo0] at h;obtain⟨m,h1,h2⟩:=qst r s _ h;exact⟨_,qkj (by rw [qyf hx];exact fun _ _ h=>qb9 h) h1,h2⟩
  ·obtain⟨m,h1,h2⟩:=qst r s _ h
   exact⟨_,qkj (wx x) h1,h2⟩
theorem qwq {P:Program} {t:TypeId} {x:AV} {k:AV→Prop} (h:nrmK P t x k):∃ y,Wk x y∧k y:=by
 unfold nrmK at h;split at h
 ·exact⟨x,wx x,h⟩
 ·rename_i hn
  split at h
  ·rename_i cs
   obtain⟨m,h1,h2⟩:=qst _ _ _ h;exact⟨_,q9j h1.1 h1.2,h2⟩
  ·rename_i hx
   split at h
   ·rename_i sz _
    rw [qo0] at h
    have:x=zp:=by
     have hc:x.cells=[x]:=by cases x <;> first|rfl|exact absurd rfl (hx _)
     rw [hc] at hn;simp only [q8o,Bool.or_false] at hn;exact qyf hn
    exact⟨_,by rw [this];exact fun _ _ h=>qb9 h,h⟩
   ·exact⟨x,wx x,h⟩
def q8q (P:Program) (t:TypeId):List AV→(List AV→Prop)→Prop
 | [],k=>k []
 |x::r,k=>nrmK P t x fun x=>q8q P t r fun r=>k (x::r)
theorem q2i {P:Program} {t:TypeId}:∀ {l:List AV} {k:List AV→Prop},q8q P t l k→∃ m,WkL l m∧k m
 | [],k,h=>⟨[],qqv,h⟩
 |x::r,k,h=>by
  obtain⟨y,h1,h2⟩:=qwq h;obtain⟨m,h3,h4⟩:=q2i h2;exact⟨_,qkj h1 h3,h4⟩
def zipK (P:Program):List TypeId→List AV→(List AV→Prop)→Prop
 |t::r,x::s,k=>nrmK P t x fun x=>zipK P r s fun l=>k (x::l)
 | _,l,k=>k l
theorem q7b {P:Program}:∀ {ts:List TypeId} {l:List AV} {k:List AV→Prop},zipK P ts l k→∃ m,WkL l m∧k m
 | [],l,k,h=>⟨l,qs8 l,by cases l <;> exact h⟩
 |t::r,[],k,h=>⟨[],qqv,h⟩
 |t::r,x::s,k,h=>by
  obtain⟨y,h1,h2⟩:=qwq h;obtain⟨m,h3,h4⟩:=q7b h2;exact⟨_,qkj h1 h3,h4⟩
def qz3 (P:Program) (T:TypeId):Option (Nat×Nat):=
 match P.info? T with
 |some i=>(match i.zero with
  |some z=>bif Nat.beq z.cells.size i.size then some (i.size,i.bytes) else none
  |none=>none)
 |none=>none
theorem qmu {P:Program} {T:TypeId} {sz bytes:Nat} (h:qz3 P T=some (sz,bytes)):yi P T sz bytes:=by
 unfold qz3 at h;split at h
 ·rename_i i hi
  split at h
  ·rename_i z hz
   cases hb:Nat.beq z.cells.size i.size with
   |false=>rw [hb] at h;simp at h
   |true=>
    rw [hb] at h;simp only [cond_true,Option.some.injEq,Prod.mk.injEq] at h;exact⟨i,z,hi,hz,h.1,h.2,(Nat.eq_of_beq_eq_true hb).trans h.1⟩
  ·simp at h
 ·simp at h
end Go.Av
namespace Go.Av
open Go Go.RowKit
section
variable {E : Env} {N : Nat} {ops : Array Oper} {nx : Nat} {sl : List (Nat × SV)} {H : Nat → Option SR} {k : Ef → Prop} {d : Option Tmp} {T : TypeId} {p : String} {af : Array Edge}
def bndW (v:Option SV) (q:Nat→Prop):Prop:=
 match v with
 |some v=>(match qgr v with
  |some (_,n)=>∃ i:Nat,n=(i:Int)∧q i
  |none=>False)
 |none=>False
theorem qdi {x:Operand} {q:Nat→Prop} (h:bndW (sval N sl x) q):∃ (i:Nat) (kd:IntKind),(∀ {ρ t:Nat→AV} {S:List AObj} {df:List Nat},SlOk ρ t sl→ql N ⟨t,S,df⟩ x = .v (.int kd (i:Int)))∧q i:=by
 unfold bndW at h;split at h
 ·rename_i v hv
  split at h
  ·rename_i kd n hn
   obtain⟨i,rfl,h⟩:=h;exact⟨i,kd,fun hs=>(q9 hs hv).trans (qc9 hn _),h⟩
  ·exact h.elim
 ·exact h.elim
def qk2:Option TypeDesc→Bool
 |some .string=>true
 | _=>false
theorem qsm {u:Option TypeDesc} (h:qk2 u=true):u=some .string:=by
 unfold qk2 at h;split at h
 ·rfl
 ·simp at h
def elT:Option TypeDesc→Option TypeId
 |some (.slice e)=>some e
 | _=>none
theorem qap {u:Option TypeDesc} {e:TypeId} (h:elT u=some e):u=some (.slice e):=by
 unfold elT at h;split at h
 ·simp only [Option.some.injEq] at h;subst h;rfl
 ·simp at h
def q3o (P:Program) (N:Nat) (sl:List (Nat×SV)) (H:Nat→Option SR) (nx:Nat) (k:Ef→Prop) (t:TypeId) (x:Operand) (lo hi:Option Operand):Prop:=
 match sval N sl x with
 |some (.s l)=>bif qk2 (P.underlying t) then (match lo,hi with
  |none,none=>k (wu nx (.s l))
  |some y,none=>bndW (sval N sl y) fun i=>i≤l.length∧k (wu nx (.s (l.drop i)))
  |none,some z=>bndW (sval N sl z) fun j=>j≤l.length∧k (wu nx (.s (l.take j)))
  |some y,some z=>bndW (sval N sl y) fun i=>bndW (sval N sl z) fun j=>i≤j∧j≤l.length∧k (wu nx (.s ((l.take j).drop i)))) else False
 |some v=>(match elT (P.underlying t) with
  |some e=>(match tyOf P e with
   |some (sz,_)=>(match qkx H sz v with
    |some (xs,ks)=>(match lo,hi with
     |none,none=>k ⟨.a (.sl sz xs none),ks,[],nx⟩
     |some y,none=>bndW (sval N sl y) fun i=>i≤xs.length∧k ⟨.a (.sl sz (xs.drop i) none),ks,[],nx⟩
     |none,some z=>bndW (sval N sl z) fun j=>j≤xs.length∧k ⟨.a (.sl sz (xs.take j) none),ks,[],nx⟩
     |some y,some z=>bndW (sval N sl y) fun i=>bndW (sval N sl z) fun j=>i≤j∧j≤xs.length∧k ⟨.a (.sl sz ((xs.take j).drop i) none),ks,[],nx⟩)
    |none=>False)
   |none=>False)
  |none=>False)
 |none=>False
theorem zfy {t:TypeId} {x:Operand} {lo hi:Option Operand} (h:q3o E.P N sl H nx k t x lo hi):∃ e,Loc E N ops ⟨d,.slice t x lo hi none,T,p,af,none⟩ nx sl H e∧k e:=by
 unfold q3o at h;split at h
 ·rename_i l hv
  cases hu:qk2 (E.P.underlying t) with
  |false=>rw [hu] at h;exact h.elim
  |true=>
   rw [hu] at h;simp only [cond_true] at h;have hu:=qsm hu;split at h
   ·exact⟨_,js (v:=.s l) fun df rd K rest ρ t' S hs hk=>qe1 (i:=0) (j:=l.length) (q9 hs hv) hu rfl rfl (by omega) (by omega) (by omega) (by simpa [SV.ev] using hk),h⟩
   ·obtain⟨i,kd,hi,h1,h⟩:=qdi h
    exact⟨_,js (v:=.s (l.drop i)) fun df rd K rest ρ t' S hs hk=>qfu (q9 hs hv) (hi hs) hu h1 hk,h⟩
   ·obtain⟨j,kd,hj,h1,h⟩:=qdi h
    exact⟨_,js (v:=.s (l.take j)) fun df rd K rest ρ t' S hs hk=>qa5 (q9 hs hv) (hj hs) hu h1 hk,h⟩
   ·obtain⟨i,kd,hi,h⟩:=qdi h
    obtain⟨j,kd',hj,h1,h2,h⟩:=qdi h;exact⟨_,js (v:=.s ((l.take j).drop i)) fun df rd K rest ρ t' S hs hk=>qfv (q9 hs hv) (hi hs) (hj hs) hu h1 h2 hk,h⟩
 ·rename_i v hns hv
  split at h
  ·rename_i e he
   have hu:=qap he;split at h
   ·rename_i sz agg ht
    split at h
    ·rename_i xs ks gb
     split at h
     ·exact⟨_,qai (v:=.a (.sl sz xs none)) fun df rd K rest ρ t' S hs hS hk=>qgj (i:=0) (j:=xs.length) (by rw [q9 hs hv];exact qfm gb hS) hu ht rfl rfl (by omega) (by omega) (by simpa [SV.ev] using hk),h⟩
     ·obtain⟨i,kd,hi,h1,h⟩:=qdi h
      exact⟨_,qai (v:=.a (.sl sz (xs.drop i) none)) fun df rd K rest ρ t' S hs hS hk=>qgj (i:=i) (j:=xs.length) (by rw [q9 hs hv];exact qfm gb hS) hu ht ⟨kd,hi hs⟩ rfl h1 (by omega) (by simpa [SV.ev] using hk),h⟩
     ·obtain⟨j,kd,hj,h1,h⟩:=qdi h
      exact⟨_,qai (v:=.a (.sl sz (xs.take j) none)) fun df rd K rest ρ t' S hs hS hk=>qgj (i:=0) (j:=j) (by rw [q9 hs hv];exact qfm gb hS) hu ht rfl ⟨kd,hj hs⟩ (by omega) h1 (by simpa [SV.ev] using hk),h⟩
     ·obtain⟨i,kd,hi,h⟩:=qdi h
      obtain⟨j,kd',hj,h1,h2,h⟩:=qdi h;exact⟨_,qai (v:=.a (.sl sz ((xs.take j).drop i) none)) fun df rd K rest ρ t' S hs hS hk=>qgj (i:=i) (j:=j) (by rw [q9 hs hv];exact qfm gb hS) hu ht ⟨kd,hi hs⟩ ⟨kd',hj hs⟩ h1 h2 (by simpa [SV.ev] using hk),h⟩
    ·exact h.elim
   ·exact h.elim
  ·exact h.elim
 ·exact h.elim
def q12 (P:Program) (N:Nat) (sl:List (Nat×SV)) (nx:Nat) (k:Ef→Prop) (t:TypeId) (x y:Operand):Prop:=
 match sval N sl x with
 |some (.s l)=>bif qk2 (P.underlying t) then bndW (sval N sl y) fun i=>i<l.length∧k (wu nx (.a (Uv (l.getD i 0)))) else False
 | _=>False
theorem zel {t:TypeId} {x y:Operand} (h:q12 E.P N sl nx k t x y):∃ e,Loc E N ops ⟨d,.index t x y,T,p,af,none⟩ nx sl H e∧k e:=by
 unfold q12 at h;split at h
 ·rename_i l hv
  cases hu:qk2 (E.P.underlying t) with
  |false=>rw [hu] at h;exact h.elim
  |true=>
   rw [hu] at h;simp only [cond_true] at h;obtain⟨i,kd,hi,h1,h⟩:=qdi h;exact⟨_,js (v:=.a (Uv (l.getD i 0))) fun df rd K rest ρ t' S hs hk=>wa (q9 hs hv) (hi hs) (qsm hu) h1 hk,h⟩
 ·exact h.elim
def qm5 (P:Program) (N:Nat) (sl:List (Nat×SV)) (H:Nat→Option SR) (nx:Nat) (k:Ef→Prop) (t:TypeId) (x y:Operand):Prop:=
 match sval N sl x,elT (P.underlying t) with
 |some v,some e=>(match tyOf P e with
  |some (sz,_)=>(match qkx H sz v with
   |some (xs,ks)=>bndW (sval N sl y) fun i=>∃ z,xs[i]? = some z∧k ⟨.a (.pp z.cells),ks,[],nx⟩
   |none=>False)
  |none=>False)
 | _,_=>False
theorem q11 {t:TypeId} {x y:Operand} (h:qm5 E.P N sl H nx k t x y):∃ e,Loc E N ops ⟨d,.indexAddr t x y,T,p,af,none⟩ nx sl H e∧k e:=by
 unfold qm5 at h;split at h
 ·rename_i v e hv he
  split at h
  ·rename_i sz agg ht
   split at h
   ·rename_i xs ks gb
    obtain⟨i,kd,hi,z,hz,h⟩:=qdi h;exact⟨_,qai (v:=.a (.pp z.cells)) fun df rd K rest ρ t' S hs hS hk=>qth (by rw [q9 hs hv];exact qfm gb hS) (hi hs) (qap he) ht rfl hz hk,h⟩
   ·exact h.elim
  ·exact h.elim
 ·exact h.elim
def lenW (P:Program) (H:Nat→Option SR) (nx:Nat) (k:Ef→Prop) (t:TypeId):Option SV→Prop
 |some (.s l)=>bif qk2 (P.underlying t) then k (wu nx (.i l.length)) else False
 |some (.tp b)=>(match H b,elT (P.underlying t) with
  |some (.tip _ _ xs),some _=>k ⟨.i xs.length,[b],[],nx⟩
  |some (.own _ _ xs),some _=>k ⟨.i xs.length,[b],[],nx⟩
  | _,_=>False)
 |some (.a x)=>(match lenA x,elT (P.underlying t) with
  |some n,some _=>k (wu nx (.i n))
  | _,_=>False)
 | _=>False
theorem zcz {b sz:Nat} {T:TypeId} {xs:List AV} {c:AV} {S:List AObj} (h:TipO b S sz T xs c):lenA c=some xs.length:=by
 rcases h with (⟨rfl,rfl⟩ | ⟨t,rfl,_⟩) | ⟨rfl,o,v,f,rfl⟩ <;> rfl
theorem qs6 {b sz:Nat} {T:TypeId} {xs:List AV} {c:AV} {S:List AObj} (h:TipO b S sz T xs c):tpAt c=c:=by
 unfold tpAt;rw [(qw9 h).2];rfl
theorem ze0 {sz:Nat} {T:TypeId} {xs:List AV} {c:AV} {S:List AObj} (h:OwnS S sz T xs c):lenA c=some xs.length:=by
 rcases h with⟨rfl,h⟩ | ⟨_,_,_,_,rfl,_⟩
 ·exact h.len
 ·rfl
theorem qhe {sz:Nat} {T:TypeId} {xs:List AV} {c:AV} {S:List AObj} (h:OwnS S sz T xs c):tpAt c=c:=by
 rcases h with⟨_,h⟩ | ⟨_,_,_,_,rfl,_⟩
 ·unfold tpAt
  rw [h.one];rfl
 ·rfl
theorem zjw {t:TypeId} {ts:Array TypeId} {x:Operand} (ht:ts[0]? = some t) (h:lenW E.P H nx k t (sval N sl x)):∃ e,Loc E N ops ⟨d,.call ⟨.builtin .len,#[x],ts⟩,T,p,af,none⟩ nx sl H e∧k e:=by
 unfold lenW at h;split at h
 ·rename_i l hv
  cases hu:qk2 (E.P.underlying t) with
  |false=>rw [hu] at h;exact h.elim
  |true=>rw [hu] at h;exact⟨_,js (v:=.i l.length) fun df rd K rest ρ t' S hs hk=>zo (q9 hs hv) ht (qsm hu) hk,h⟩
 ·rename_i b hv
  split at h
  ·rename_i sz T' xs e hb he
   refine⟨_,qai (v:=.i xs.length) fun df rd K rest ρ t' S hs hS hk=>?_,h⟩;have:=hS.ok b _ ((xf b).trans hb);exact jm (v:= ρ b) ((q9 hs hv).trans (qs6 this)) (zcz this) ht (qap he) hk
  ·rename_i sz T' xs e hb he
   refine⟨_,qai (v:=.i xs.length) fun df rd K rest ρ t' S hs hS hk=>?_,h⟩;have:=hS.ok b _ ((xf b).trans hb);exact jm (v:= ρ b) ((q9 hs hv).trans (qhe this)) (ze0 this) ht (qap he) hk
  ·exact h.elim
 ·rename_i y hv
  split at h
  ·rename_i n e hn he
   exact⟨_,js (v:=.i n) fun df rd K rest ρ t' S hs hk=>jm (q9 hs hv) hn ht (qap he) hk,h⟩
  ·exact h.elim
 ·exact h.elim
def qo7 (H:Nat→Option SR) (sz:Nat) (T:TypeId):SV→Option (List AV×List Nat)
 | .tp b=>(match H b with
  |some (.tip z T' xs)=>bif Nat.beq z sz && Nat.beq T' T then some (xs,[b]) else none
  | _=>none)
 | .a (.v (.slice none 0 0))=>some ([],[])
 | _=>none
theorem zaw {S:List AObj} {ρ : Nat→AV} {v:SV} {sz:Nat} {T:TypeId} {xs:List AV} {ks ks':List Nat} (h:qo7 H sz T v=some (xs,ks)) (hS:SatF S ρ (resF (ks++ks') H)):TipO 0 S sz T xs (v.ev ρ)∧∀ o,zq (v.ev ρ)=some o→∃ b,ks=[b]∧zq (ρ b)=some o:=by
 unfold qo7 at h;split at h
 ·rename_i b
  split at h
  ·rename_i z T' ys hb
   cases hz:(Nat.beq z sz && Nat.beq T' T) with
   |false=>rw [hz] at h;simp at h
   |true=>
    rw [hz] at h;simp only [cond_true,Option.some.injEq,Prod.mk.injEq] at h;obtain⟨rfl,rfl⟩:=h;simp only [Bool.and_eq_true] at hz;have e1:=Nat.eq_of_beq_eq_true hz.1;have e2:=Nat.eq_of_beq_eq_true hz.2;subst e1;subst e2;have:=hS.ok b _ (by unfold resF;simp [memN];exact hb);have e:(SV.tp b).ev ρ = ρ b:=qs6 this;rw [e];exact⟨this,fun o ho=>⟨b,rfl,ho⟩⟩
  ·simp at h
 ·simp only [Option.some.injEq,Prod.mk.injEq] at h
  obtain⟨rfl,rfl⟩:=h;exact⟨.inl (.inl ⟨rfl,rfl⟩),fun o ho=>by simp [SV.ev,zq] at ho⟩
 ·simp at h
theorem q8d {v:SV} {sz:Nat} {T:TypeId} {xs:List AV} {ks:List Nat} (h:qo7 H sz T v=some (xs,ks)):∀ b,ks=[b]→∃ z T ys,H b=some (.tip z T ys):=fun b hb=>by
 unfold qo7 at h;split at h
 ·split at h
  ·rename_i b' z T' ys hk
   cases hz:(Nat.beq z sz && Nat.beq T' T) with
   |false=>rw [hz] at h;simp at h
   |true=>
    rw [hz] at h;simp only [cond_true,Option.some.injEq,Prod.mk.injEq] at h;rw [hb] at h;simp only [List.cons.injEq,and_true] at h;exact⟨z,T',ys,by rw [← h.2];exact hk⟩
  ·simp at h
 ·simp only [Option.some.injEq,Prod.mk.injEq] at h
  rw [hb] at h;simp at h
 ·simp at h
theorem qx8 {v:SV} {sz:Nat} {xs:List AV} {ks:List Nat} (h:qkx H sz v=some (xs,ks)):∀ b,memN ks b=true→∃ z T ys,H b=some (.tip z T ys):=fun b hb=>by
 unfold qkx at h;split at h
 ·rename_i z ys tip
  cases hz:Nat.beq z sz with
  |false=>rw [hz] at h;simp at h
  |true=>
   rw [hz] at h;simp only [cond_true,Option.some.injEq,Prod.mk.injEq] at h;rw [← h.2] at hb;simp [memN] at hb
 ·simp only [Option.some.injEq,Prod.mk.injEq] at h
  rw [← h.2] at hb;simp [memN] at hb
 ·rename_i b'
  split at h
  ·rename_i z T' ys hk
   cases hz:Nat.beq z sz with
   |false=>rw [hz] at h;simp at h
   |true=>
    rw [hz] at h;simp only [cond_true,Option.some.injEq,Prod.mk.injEq] at h;rw [← h.2] at hb;simp only [memN,List.any_cons,List.any_nil,Bool.or_false] at hb;rw [Nat.eq_of_beq_eq_true hb];exact⟨z,T',ys,hk⟩
  ·simp at h
 ·simp at h
def appW (P:Program) (H:Nat→Option SR) (nx:Nat) (k:Ef→Prop) (t u:TypeId):Option SV→Option SV→Prop
 |some vx,some vy=>(match elT (P.underlying t),elT (P.underlying u) with
  |some e,some e'=>(match qz3 P e with
   |some (sz,bytes)=>(match qo7 H sz e vx,qkx H sz vy with
    |some (xs,kx),some (ys,ky)=>bif Nat.beq e e' && Nat.blt 0 bytes && Nat.ble bytes 140737 && (kx++ky).all (fun b=> !Nat.beq b nx) then ((xs.length+ys.length≤1000000000∨(xs.length+ys.length) * bytes≤140737488355328)∧j7 (flat ys)=true)∧k ⟨.tp nx,kx++ky,kx.map (fun b=>(b,none))++[(nx,some (.tip sz e (xs++ys)))],nx+1⟩ else False
    | _,_=>False)
   |none=>False)
  | _,_=>False)
 | _,_=>False
theorem za5 (l:List Nat) (k:Nat):lkS (l.map fun b=>(b,(none:Option SR))) k=bif memN l k then some none else none:=by
 induction l with
 |nil=>rfl
 |cons b r ih=>
  simp only [List.map_cons,lkS,memN,List.any_cons] at ih ⊢;by_cases h:b=k
  ·subst h
   have:Nat.beq b b=true:=by simp
   simp only [this,cond_true,Bool.true_or]
  ·rw [j9 h,j9 (fun e=>h e.symm),Bool.false_or]
   simp only [cond_false];exact ih
theorem qj3 (a b:List Nat) (k:Nat):memN (a++b) k=(memN a k ||memN b k):=by simp [memN]
theorem zi6 {t u:TypeId} {x y:Operand} (h:appW E.P H nx k t u (sval N sl x) (sval N sl y)):∃ e,Loc E N ops ⟨d,.call ⟨.builtin .append,#[x,y],#[t,u]⟩,T,p,af,none⟩ nx sl H e∧k e:=by
 unfold appW at h;split at h
 ·rename_i vx vy hvx hvy
  split at h
  ·rename_i e e' he gm
   split at h
   ·rename_i sz bytes hb
    split at h
    ·rename_i xs kx ys ky hg gb
     cases hc:(Nat.beq e e' && Nat.blt 0 bytes && Nat.ble bytes 140737 && (kx++ky).all (fun b=> !Nat.beq b nx)) with
     |false=>rw [hc] at h;exact h.elim
     |true=>
      rw [hc] at h;simp only [Bool.and_eq_true] at hc;have ee:=Nat.eq_of_beq_eq_true hc.1.1.1;subst ee;have hbp:=vo hc.1.1.2;have bn:=Nat.le_of_ble_eq_true hc.1.2
      have r7:∀ b∈kx++ky,b≠nx:=fun b hb e=>by
       have:=List.all_eq_true.1 hc.2 b hb;subst e;simp at this
      obtain⟨⟨h1,h2⟩,h⟩:=h;refine⟨_,fun df rd K rest ρ t' S hs hS hk=>?_,h⟩;simp only at hS hk;obtain⟨hT,hl⟩:=zaw hg hS;have hSy:SatF S ρ (resF ky H):=⟨fun k r hk=>hS.ok k r (by have:=we hk;unfold resF;rw [qj3,this.1,Bool.or_true];exact this.2),fun k k' r r' a6 g1 g2=>hS.sep k k' r r' a6 (by have:=we g1;unfold resF;rw [qj3,this.1,Bool.or_true];exact this.2) (by have:=we g2;unfold resF;rw [qj3,this.1,Bool.or_true];exact this.2)⟩;have h47:(xs.length+ys.length) * bytes≤140737488355328:=h1.elim (fun h=>Nat.le_trans (Nat.mul_le_mul h bn) (by omega)) id;have i8:xs.length+ys.length≤maxLen:=Nat.le_trans (Nat.le_trans (Nat.le_mul_of_pos_right _ hbp) h47) (by decide);refine q0m (q9 hs hvx) (by rw [q9 hs hvy];exact qfm gb hSy) (qap he) (qap gm) (qmu hb) hT h2 i8 h47 fun c' S' t1 g1 g2 g3 g4=>?_;simp only at g2 g3
      have hresE:∀ b,kx=[b]→∃ r,resF (kx++ky) H b=some r:=fun b i5=>by
       obtain⟨z,T2,ys2,q⟩:=q8d hg b i5;refine⟨.tip z T2 ys2,?_⟩;unfold resF;rw [i5];simp [memN];exact q
      have key:∀ k r,chF (kx.map (fun b=>(b,none))++[(nx,some (.tip sz e (xs++ys)))]) (resF (kx++ky) H) k=some r→(k=nx∧r = .tip sz e (xs++ys))∨(k≠nx∧memN kx k=false∧resF (kx++ky) H k=some r):=fun k r hk=>by
       unfold chF at hk;rw [qd7] at hk;rw [za5] at hk
       cases hm:memN kx k with
       |true=>rw [hm] at hk;simp at hk
       |false=>
        rw [hm] at hk;simp only [cond_false,lkS] at hk;by_cases hn:nx=k
        ·subst hn
         have:Nat.beq nx nx=true:=by simp
         rw [this] at hk;simp only [cond_true,Option.some.injEq] at hk;exact .inl ⟨rfl,hk.symm⟩
        ·rw [j9 hn] at hk
         exact .inr ⟨fun e=>hn e.symm,rfl,hk⟩
      have d1:∀ k r,k≠nx→memN kx k=false→resF (kx++ky) H k=some r→∀ o,zq (ρ k)=some o→o≠t1∧o<S.length:=fun k r a6 hm hk o ho=>by
       have b4:=SR.ok_lt (hS.ok k r hk) ho;refine⟨fun e=>?_,b4⟩;subst e;rcases g3 with g3|g3
       ·obtain⟨b,i5,i6⟩:=hl o (by rw [g3];rfl)
        have lz:b≠k:=fun e=>by subst e;rw [i5] at hm;simp [memN] at hm
        have m9:=hresE b i5;obtain⟨r',m9⟩:=m9;exact hS.sep b k r' r lz m9 hk o i6 ho
       ·omega
      have:=hk (upd ρ nx c') S' ⟨fun k hk=>y0 _ _ (by simp only at hk;omega),⟨fun k r hk=>?_,fun k k' r1 r2 a6 q1 q2 o ho b6=>?_⟩,g2.len,fun j hj a6=>?_,fun k r hk o ho=>?_⟩
      ·simpa only [SV.ev,vb,qs6 g1] using this
      ·rcases key k r hk with⟨rfl,rfl⟩ | ⟨q1,q2,q3⟩
       ·rw [vb];exact g1
       ·rw [y0 _ _ q1]
        have h3:=hS.ok k r q3
        cases r with
        |cells T1 cs=>
         exfalso;have:=(we q3)
         have hmy:memN ky k=true:=by
          have h5:=this.1;rw [qj3,q2,Bool.false_or] at h5;exact h5
         obtain⟨z,T2,ys2,q⟩:=qx8 gb k hmy;rw [this.2] at q
         simp at q
        |tip z T1 zs=>exact SR.ok_of (f:=fun _=>false) (r:=.tip z T1 zs) (ρ:= ρ) rfl (fun k hk=>by simp at hk) h3 fun o ho=>g2.same o (d1 k _ q1 q2 q3 o ho).1 (d1 k _ q1 q2 q3 o ho).2
        |own z T1 zs=>exact SR.ok_of (f:=fun _=>false) (r:=.own z T1 zs) (ρ:= ρ) rfl (fun k hk=>by simp at hk) h3 fun o ho=>g2.same o (d1 k _ q1 q2 q3 o ho).1 (d1 k _ q1 q2 q3 o ho).2
        |obj P1=>exact SR.ok_of (f:=fun _=>false) (r:=.obj P1) (ρ:= ρ) rfl (fun k hk=>by simp at hk) h3 fun o ho=>g2.same o (d1 k _ q1 q2 q3 o ho).1 (d1 k _ q1 q2 q3 o ho).2
        |rows T1 ys cs=>
         exfalso;have:=(we q3)
         have hmy:memN ky k=true:=by
          have h5:=this.1;rw [qj3,q2,Bool.false_or] at h5;exact h5
         obtain⟨z,T2,ys2,q⟩:=qx8 gb k hmy;rw [this.2] at q;simp at q
      ·rcases key k r1 q1 with⟨rfl,rfl⟩ | ⟨f1,f2,f3⟩
       ·rcases key k' r2 q2 with⟨rfl,rfl⟩ | ⟨e1,e2,e3⟩
        ·exact a6 rfl
        ·rw [vb] at ho
         rw [y0 _ _ e1] at b6;exact (d1 k' r2 e1 e2 e3 o b6).1 (g4 o ho)
       ·rw [y0 _ _ f1] at ho
        rcases key k' r2 q2 with⟨rfl,rfl⟩ | ⟨e1,e2,e3⟩
        ·rw [vb] at b6
         exact (d1 k r1 f1 f2 f3 o ho).1 (g4 o b6)
        ·rw [y0 _ _ e1] at b6
         exact hS.sep k k' r1 r2 a6 f3 e3 o ho b6
      ·refine g2.same j (fun e=>?_) hj
       subst e;rcases g3 with g3|g3
       ·obtain⟨b,i5,i6⟩:=hl j (by rw [g3];rfl)
        obtain⟨r2,sd⟩:=hresE b i5;exact a6 b r2 sd i6
       ·omega
      ·rcases key k r hk with⟨rfl,rfl⟩ | ⟨q1,q2,q3⟩
       ·rw [vb] at ho
        have:=g4 o ho;subst this;rcases g3 with g3|g3
        ·obtain⟨b,i5,i6⟩:=hl o (by rw [g3];rfl)
         obtain⟨r2,sd⟩:=hresE b i5;exact .inr ⟨b,r2,sd,i6⟩
        ·exact .inl g3
       ·rw [y0 _ _ q1] at ho
        exact .inr ⟨k,r,q3,ho⟩
    ·exact h.elim
   ·exact h.elim
  ·exact h.elim
 ·exact h.elim
end
end Go.Av
namespace Go.Av
open Go Go.RowKit
structure zkm (E:Env) (f:FuncId):Prop where
 run:∀ vs w,(callFunc f vs).run E.P w = .ok (.enter f vs) w
def v4 (E:Env) (f:FuncId) (vs:List SV) (nx:Nat) (H:Nat→Option SR) (e:Ef):Prop:=
 ∀ (ρ : Nat→AV) (S:List AObj),SatF S ρ (resF e.ks H)→qo E f (SV.evs ρ vs) S fun r S'=>∃ ρ',r=e.val.ev ρ'∧qhi ρ S nx H e ρ' S'
def nums:Nat→List (Nat×SV)→Bool
 | _,[]=>true
 |i,(j,_)::r=>Nat.beq j i && nums (i+1) r
section
variable {E : Env} {N : Nat} {ops : Array Oper} {nx : Nat} {sl : List (Nat × SV)} {H : Nat → Option SR} {k : Ef → Prop} {d : Option Tmp} {T : TypeId} {p : String} {af : Array Edge}
theorem q0c {f:FuncId} {xs ys:List AV} {st:List AObj} {R:AV→List AObj→Prop} (hl:xs.length=ys.length) (hw:∀ (i:Nat) (x y:AV),xs[i]? = some x→ys[i]? = some y→Wk x y) (h:qo E f ys st R):qo E f xs st R:=
 ⟨fun B0 w0 G vals w hL hA hR=>h.run B0 w0 G vals w hL hA ⟨by rw [← hl];exact hR.1,fun i a b ha hb=>by
  have hi:=lt_of_getElem? ha;have hx:xs[i]? = some (xs[i]'(by omega)):=List.getElem?_eq_getElem (by omega)
  exact hw i _ a hx ha G b (hR.2 i _ b hx hb)⟩⟩
def parT (P:Program) (f:FuncId):List TypeId:=match P.funcs[f]? with
 |some fn=>fn.params.toList
 |none=>[]
def qz0 (P:Program) (f:FuncId):Option (List AV)→Option (List AV)
 |some xs=>some (zipT P (parT P f) xs)
 |none=>none
theorem zg7 {f:FuncId} {vs:List SV} {args:List AV} {r0:AV} (hc:∀ S,qo E f args S fun r S'=>r=r0∧S'=S) (ha:qz0 E.P f (frzs (resF (SV.kss vs) H) vs)=some args):v4 E f vs nx H ⟨nf r0,SV.kss vs,[],nx⟩:=fun ρ S hS=>by
 cases hf:frzs (resF (SV.kss vs) H) vs with
 |none=>rw [hf] at ha;simp [qz0] at ha
 |some xs=>
 rw [hf] at ha;simp only [qz0,Option.some.injEq] at ha;obtain⟨h1,h2⟩:=qf0 hS vs xs hf;obtain⟨h3,h4⟩:=q7c E.P (parT E.P f) xs;rw [ha] at h3 h4;refine q0c (h1.trans h3) (fun i x y hx hy=>?_) ((hc S).mono ?_)
 ·have hi:i<xs.length:=by rw [← h1];exact lt_of_getElem? hx
  have hz:xs[i]? = some xs[i]:=List.getElem?_eq_getElem hi;exact fun G v hv=>h4 i _ y hz hy G v (h2 i x _ hx hz G v hv)
 rintro r S' ⟨rfl,rfl⟩;exact⟨ρ,(qk9 ρ _).symm,fun _ _=>rfl,⟨fun k r hk=>hS.ok k r hk,fun k k' r r' a6 h1 h2=>hS.sep k k' r r' a6 h1 h2⟩,Nat.le_refl _,fun _ _ _=>rfl,fun k r hk o ho=>.inr ⟨k,r,hk,ho⟩⟩
def fnOf:SV→Option (FuncId×List SV×List SV)
 | .fn (.func f) a b=>some (f,a,b)
 | .a (.fn (.func f) a b)=>some (f,nfs a,nfs b)
 | _=>none
theorem zhk {v:SV} {f:FuncId} {a b:List SV} (h:fnOf v=some (f,a,b)) (ρ : Nat→AV):v.ev ρ = .fn (.func f) (SV.evs ρ a) (SV.evs ρ b):=by
 unfold fnOf at h;split at h
 ·simp only [Option.some.injEq,Prod.mk.injEq] at h;obtain⟨rfl,rfl,rfl⟩:=h;rfl
 ·simp only [Option.some.injEq,Prod.mk.injEq] at h;obtain⟨rfl,rfl,rfl⟩:=h;simp only [SV.ev,qj4]
 ·simp at h
def q7s (E:Env) (N:Nat) (sl:List (Nat×SV)) (H:Nat→Option SR) (nx:Nat) (k:Ef→Prop) (x:Operand) (xs:Array Operand):Prop:=
 match sval N sl x,qns N sl xs.toList with
 |some v,some vs=>(match fnOf v with
  |some (f,a,b)=>zkm E f∧∃ e,v4 E f (a++(vs++b)) nx H e∧k e
  |none=>False)
 | _,_=>False
theorem zg1 {x:Operand} {xs:Array Operand} {ts:Array TypeId} (h:q7s E N sl H nx k x xs):∃ e,Loc E N ops ⟨d,.call ⟨.value x,xs,ts⟩,T,p,af,none⟩ nx sl H e∧k e:=by
 unfold q7s at h;split at h
 ·rename_i v vs hv hvs
  split at h
  ·rename_i f a b hf
   obtain⟨hE,e,hc,h⟩:=h;refine⟨e,fun df rd K rest ρ t S hs hS hk=>q7g ((q9 hs hv).trans (zhk hf ρ)) hE.run ?_,h⟩;have:=hc ρ S hS;rw [qnt hs hvs];have he:SV.evs ρ (a++(vs++b))=SV.evs ρ a++SV.evs ρ vs++SV.evs ρ b:=by simp [w8]
   rw [he] at this;refine this.mono ?_;rintro r S' ⟨ρ',rfl,hp⟩;exact hk ρ' S' hp
  ·exact h.elim
 ·exact h.elim
def bslW (P:Program) (N:Nat) (bxs:List Nat) (d:Option Tmp) (sl:List (Nat×SV)) (H:Nat→Option SR) (nx:Nat) (k:Ef→Prop) (t:TypeId) (len:Nat) (parts:Array (Nat×Operand)):Prop:=
 match elT (P.underlying t) with
 |some e=>(match tyOf P e,qg0 P e len,qqr N sl parts.toList with
  |some (sz,_),some zs,some ps=>(match len with
   | 0=>(match ps with
    | []=>k ⟨.tp nx,[],[(nx,some (.tip sz e []))],nx+1⟩
    | _=>False)
   |len=>bif qul bxs d then (bif ps.all (fun q=>q.2.all fun _=>false) && nums 0 ps && Nat.beq ps.length len && (SV.evs (fun _=>zp) (ps.map Prod.snd)).all (fun y=>y.okc && Nat.beq y.cells.length sz) && Nat.beq zs.length (len * sz) && Nat.ble (len * sz) 16777216 && Nat.blt 0 len && Nat.ble len 16777216 then
     k ⟨.tp nx,[],[(nx,some (.tip sz e (SV.evs (fun _=>zp) (ps.map Prod.snd))))],nx+1⟩ else False) else (match frzs (resF (SV.kss (ps.map Prod.snd)) H) (ps.map Prod.snd) with
    |some ys=>q8q P e ys fun ys=>fcN sz fun sz=>bif nums 0 ps && Nat.beq ys.length len && ys.all (fun y=>y.okc && Nat.beq y.cells.length sz) && Nat.beq zs.length (len * sz) && Nat.ble (len * sz) 16777216 then k ⟨.a (.sl sz ys none),SV.kss (ps.map Prod.snd),[],nx⟩ else False
    |none=>False))
  | _,_,_=>False)
 |none=>False
theorem q2n:∀ {ps:List (Nat×SV)} {i0:Nat} {ys:List AV},nums i0 ps=true→ps.length=ys.length→∀ (i:Nat) (q:Nat×SV) (r:Nat×AV),ps[i]? = some q→(jt i0 ys)[i]? = some r→q.1=r.1∧(ps.map Prod.snd)[i]? = some q.2∧ys[i]? = some r.2
 | [],_,_,_,_,i,_,_,h,_=>by simp at h
 |(j,v)::ps,i0,[],_,hl,_,_,_,_,_=>by simp at hl
 |(j,v)::ps,i0,y::ys,h,hl,i,q,r,hq,hr=>by
  simp only [nums,Bool.and_eq_true] at h;simp only [jt] at hr
  cases i with
  |zero=>
   simp only [List.getElem?_cons_zero,Option.some.injEq] at hq hr;subst hq;subst hr
   exact⟨Nat.eq_of_beq_eq_true h.1,rfl,rfl⟩
  |succ i=>
   have:=q2n h.2 (by simpa using hl) i q r (by simpa using hq) (by simpa using hr)
   simpa using this
theorem qpl {α : Type}:∀ (l:List α) (i:Nat),(jt i l).length=l.length
 | [],_=>rfl
 |x::r,i=>by simp [jt,qpl r]
theorem zby (t:Nat→AV) (i:Nat) (a b:AV):put (put t i a) i b=put t i b:=by
 funext j;by_cases h:j=i
 ·subst h;rw [xd,xd]
 ·rw [qab _ _ _ _ h,qab _ _ _ _ h,qab _ _ _ _ h]
theorem qpm:∀ (ps:List (Nat×SV)) (i:Nat),nums i ps=true→(ps.map fun q=>(q.1,q.2.ev fun _=>zp))=jt i (SV.evs (fun _=>zp) (ps.map Prod.snd))
 | [],_,_=>rfl
 |(j,v)::r,i,h=>by
  simp only [nums,Bool.and_eq_true] at h;simp only [List.map_cons,SV.evs,jt,qpm r (i+1) h.2];rw [Nat.eq_of_beq_eq_true h.1]
theorem zje {bxs:List Nat} {t:TypeId} {len:Nat} {parts:Array (Nat×Operand)} (h:bslW E.P N bxs d sl H nx k t len parts):∃ e,Loc E N ops ⟨d,.buildSlice t len parts,T,p,af,none⟩ nx sl H e∧k e:=by
 unfold bslW at h;split at h
 ·rename_i e he
  split at h
  ·rename_i sz agg zs ps ht hz hp
   split at h
   ·split at h
    ·refine⟨_,qqg (fun k r hk=>by rw [qhb] at hk;simp at hk) fun df rd K rest ρ t' S hs _ hk=>?_,h⟩
     have s4:wd N ⟨t',S,df⟩ parts=[]:=by unfold wd;rw [qke hs hp];rfl
     have d8:zs=[]:=by
      unfold qg0 at hz;split at hz
      ·simp at hz;exact hz
      ·simp at hz
     subst d8;refine qbe (loc:=[]) (st:=S) (by simp) (qap he) ht hz (by rw [s4];rfl) (by simp) ?_;have:=hk (.os S.length 0 0 0 0) [.cells 0 e []] (.inr ⟨rfl,_,_,_,rfl⟩) (fun o ho=>by simp [zq] at ho)
     simpa [SV.ev,vb,tpAt,AV.one] using this
    ·exact h.elim
   ·rename_i a6
    cases i4:qul bxs d with
    |true=>
     rw [i4] at h;simp only [cond_true] at h
     cases hc:(ps.all (fun q=>q.2.all fun _=>false) && nums 0 ps && Nat.beq ps.length len && (SV.evs (fun _=>zp) (ps.map Prod.snd)).all (fun y=>y.okc && Nat.beq y.cells.length sz) && Nat.beq zs.length (len * sz) && Nat.ble (len * sz) 16777216 && Nat.blt 0 len && Nat.ble len 16777216) with
     |false=>rw [hc] at h;exact h.elim
     |true=>
      rw [hc] at h;simp only [Bool.and_eq_true] at hc;obtain⟨⟨⟨⟨⟨⟨⟨c0,c1⟩,c2⟩,c3⟩,c4⟩,c5⟩,c6⟩,c7⟩:=hc;have c2:=Nat.eq_of_beq_eq_true c2;have c4:=Nat.eq_of_beq_eq_true c4;have hyl:(SV.evs (fun _=>zp) (ps.map Prod.snd)).length=len:=by rw [w8];simpa using c2
      have c3:∀ y∈SV.evs (fun _=>zp) (ps.map Prod.snd),y.okc=true∧y.cells.length=sz:=fun y hy=>by
       have:=List.all_eq_true.1 c3 y hy;simp only [Bool.and_eq_true] at this;exact⟨this.1,Nat.eq_of_beq_eq_true this.2⟩
      refine⟨_,qqg (fun k r hk=>by rw [qhb] at hk;simp at hk) fun df rd K rest ρ t' S hs _ hk=>?_,h⟩
      have pb:(ps.map fun q=>(q.1,q.2.ev ρ))=jt 0 (SV.evs (fun _=>zp) (ps.map Prod.snd)):=by
       rw [← qpm ps 0 c1];refine List.map_congr_left fun q hq=>?_;rw [qc6 (f:=fun _=>false) (ρ:=fun _=>zp) (ρ':= ρ) (fun k hk=>by simp at hk) q.2 (List.all_eq_true.1 c0 q hq)]
      have s4:wd N ⟨t',S,df⟩ parts=jt 0 (SV.evs (fun _=>zp) (ps.map Prod.snd)):=by rw [← pb];unfold wd;exact qke hs hp
      have tj:=qse (sz:=sz) _ 0 [] zs c3 (by simp) (by rw [c4,hyl]);have d8:(flat (SV.evs (fun _=>zp) (ps.map Prod.snd))).length=len * sz:=by rw [zt fun x hx=>(c3 x hx).2,hyl]
      refine qbe (loc:=[]) (st:=S) (by simp) (qap he) ht hz (by rw [s4];simpa using tj) c5 ?_
      cases d with
      |none=>simp [qul] at i4
      |some x=>
       refine q7j x (o:=S.length) (sz:=sz) (len:=len) (cap:=len) (T':=e) (xs:=SV.evs (fun _=>zp) (ps.map Prod.snd)) (by simp [AS.put,xd]) (by simp [AS.put]) d8 hyl (vo c6) (Nat.le_refl _) (by have:=Nat.le_of_ble_eq_true c7;simp only [maxLen];omega) (fun x hx=>(c3 x hx).2) (by rw [← d8,List.take_length]) ?_;have:=hk (.sl sz (SV.evs (fun _=>zp) (ps.map Prod.snd)) (some S.length)) [.tip len sz e] (.inl (.inr ⟨S.length,rfl,by rw [hyl];exact x7,Nat.zero_le _⟩)) (fun o ho=>by simp only [zq,Option.some.injEq] at ho;omega);simp only [SV.ev,vb,tpAt,AV.one,cond_true,AS.put] at this
       simpa [AS.put,zby] using this
    |false=>
    rw [i4] at h;simp only [cond_false] at h;split at h
    ·rename_i ys0 hys
     obtain⟨ys,hyn,h⟩:=q2i h;rw [qo0] at h
     cases hc:(nums 0 ps && Nat.beq ys.length len && ys.all (fun y=>y.okc && Nat.beq y.cells.length sz) && Nat.beq zs.length (len * sz) && Nat.ble (len * sz) 16777216) with
     |false=>rw [hc] at h;exact h.elim
     |true=>
      rw [hc] at h;simp only [Bool.and_eq_true] at hc;obtain⟨⟨⟨⟨c1,c2⟩,c3⟩,c4⟩,c5⟩:=hc;have c2:=Nat.eq_of_beq_eq_true c2;have c4:=Nat.eq_of_beq_eq_true c4
      have c3:∀ y∈ys,y.okc=true∧y.cells.length=sz:=fun y hy=>by
       have:=List.all_eq_true.1 c3 y hy;simp only [Bool.and_eq_true] at this;exact⟨this.1,Nat.eq_of_beq_eq_true this.2⟩
      refine⟨_,qai (v:=.a (.sl sz ys none)) fun df rd K rest ρ t' S hs hS hk=>?_,h⟩;obtain⟨w1,w2⟩:=qf0 hS _ _ hys;have hlp:ps.length=ys.length:=by rw [← hyn.1,← w1];simp [w8]
      have s4:wd N ⟨t',S,df⟩ parts=ps.map fun q=>(q.1,q.2.ev ρ):=by unfold wd;exact qke hs hp
      have tj:=qse (sz:=sz) ys 0 [] zs c3 (by simp) (by rw [c4,c2]);refine qr1 (jt 0 ys) (by rw [s4,qpl];simpa using hlp) (fun i q r hq hr=>?_) (qap he) ht hz (by simpa using tj) c2 (by simp) (fun x hx=>(c3 x hx).2) c5 hk;rw [s4,List.getElem?_map] at hq
      cases hpi:ps[i]? with
      |none=>rw [hpi] at hq;simp at hq
      |some q'=>
       rw [hpi] at hq;simp only [Option.map_some,Option.some.injEq] at hq;subst hq;obtain⟨g1,g2,g3⟩:=q2n c1 hlp i q' r hpi hr;have hi:i<ys0.length:=by rw [hyn.1];exact lt_of_getElem? g3
       have ln:ys0[i]? = some ys0[i]:=List.getElem?_eq_getElem hi;exact⟨g1,fun G v hv=>hyn.2 i _ _ ln g3 G v (w2 i _ _ (by rw [w8,List.getElem?_map,g2];rfl) ln G v hv)⟩
    ·exact h.elim
  ·exact h.elim
 ·exact h.elim
def mmW (nx:Nat) (k:Ef→Prop) (f:Int→Int→Int):Option SV→Option SV→Prop
 |some a,some b=>(match qgr a,qgr b with
  |some (.i64,m),some (.i64,n)=>k (wu nx (.i (f m n)))
  | _,_=>False)
 | _,_=>False
theorem zj0 {ts:Array TypeId} {x y:Operand} (h:mmW nx k min (sval N sl x) (sval N sl y)):∃ e,Loc E N ops ⟨d,.call ⟨.builtin .min,#[x,y],ts⟩,T,p,af,none⟩ nx sl H e∧k e:=by
 unfold mmW at h;split at h
 ·rename_i a b ha hb
  split at h
  ·rename_i m n hm hn
   exact⟨_,js (v:=.i (min m n)) fun df rd K rest ρ t' S hs hk=>jf (.int .i64 (min m n)) rfl nofun (fun a w he=>by
    have e1:=he _ _ ((q9 hs ha).trans (qc9 hm ρ));have e2:=he _ _ ((q9 hs hb).trans (qc9 hn ρ));have e:min m n=if n<m then n else m:=by simp only [Int.min_def];split <;> split <;> omega
    simp [execOp,resolve,invoke,builtin,Builtin.min_,Builtin.min2,e1,e2,e]) hk,h⟩
  ·exact h.elim
 ·exact h.elim
theorem zjz {ts:Array TypeId} {x y:Operand} (h:mmW nx k max (sval N sl x) (sval N sl y)):∃ e,Loc E N ops ⟨d,.call ⟨.builtin .max,#[x,y],ts⟩,T,p,af,none⟩ nx sl H e∧k e:=by
 unfold mmW at h;split at h
 ·rename_i a b ha hb
  split at h
  ·rename_i m n hm hn
   exact⟨_,js (v:=.i (max m n)) fun df rd K rest ρ t' S hs hk=>jf (.int .i64 (max m n)) rfl nofun (fun a w he=>by
    have e1:=he _ _ ((q9 hs ha).trans (qc9 hm ρ));have e2:=he _ _ ((q9 hs hb).trans (qc9 hn ρ));have e:max m n=if n > m then n else m:=by simp only [Int.max_def];split <;> split <;> omega
    simp [execOp,resolve,invoke,builtin,Builtin.max_,Builtin.max2,e1,e2,e]) hk,h⟩
  ·exact h.elim
 ·exact h.elim
def qz5 (H:Nat→Option SR):Option SV→Bool
 |some (.tp b)=>(match H b with
  |some (.own _ _ _)=>true
  |some (.obj _)=>true
  |some (.rows _ _ _)=>true
  | _=>false)
 |some (.bx b _)=>(match H b with
  |some (.own _ _ _)=>true
  |some (.obj _)=>true
  |some (.rows _ _ _)=>true
  | _=>false)
 | _=>false
def zkr (H:Nat→Option SR):Option SV→Bool
 |some (.tp b)=>(match H b with
  |some (.obj _)=>true
  | _=>false)
 | _=>false
def orW (c:Bool) (x y:Prop):Prop:=
 match c with
 |true=>x
 |false=>y
theorem qj7 {c:Bool} {x y:Prop} (h:orW c x y) (hy:y→x):x:=by
 cases c with
 |true=>exact h
 |false=>exact hy h
def oddT (u:Option TypeDesc) (y:Operand):Bool:=
 match u with
 |some (.struct _)=>true
 |some (.array _ _)=>true
 |some (.interface _)=>(match y with
  | .const .nilIface=>false
  | _=>true)
 | _=>false
def oddB (P:Program) (op:BinOp) (t:TypeId) (y:Operand):Bool:=
 match op with
 | .and=>true
 | .or=>true
 | .xor=>true
 | .shl=>true
 | .shr=>true
 | .andNot=>true
 | .eql=>oddT (P.underlying t) y
 | .neq=>oddT (P.underlying t) y
 | _=>false
def slT:Option TypeDesc→Bool
 |some (.slice _)=>true
 | _=>false
def opW (E:Env) (N:Nat) (ops:Array Oper) (bxs:List Nat) (nx:Nat) (sl:List (Nat×SV)) (H:Nat→Option SR) (k:Ef→Prop) (o:Oper):Prop:=
 match o.op with
 | .move x=>mvW nx k (sval N sl x)
 | .assign x=>mvW nx k (sval N sl x)
 | .pick c x y=>q8s N sl nx k c x y
 | .alloc t=>q0h E.P nx k t
 | .box t x=>boxW bxs H nx k o.dst t (sval N sl x)
 | .build t ps=>q03 E.P N sl nx k t ps
 | .buildSlice t len ps=>bslW E.P N bxs o.dst sl H nx k t len ps
 | .load t x=>orW (qz5 H (sval N sl x)) (∃ e,Loc E N ops o nx sl H e∧k e) (q8j E.P H nx k t (sval N sl x))
 | .store t x y=>orW (qz5 H (sval N sl x)) (∃ e,Loc E N ops o nx sl H e∧k e) (q3r E.P H nx k t (sval N sl x) (sval N sl y))
 | .nilCheck x=>q2f nx k (sval N sl x)
 | .binOp op t x y _=>orW (oddB E.P op t y) (∃ e,Loc E N ops o nx sl H e∧k e) (match sval N sl x,sval N sl y with
  |some vx,some vy=>binW E.P op t y (fun v=>k (wu nx v)) vx vy
  | _,_=>False)
 | .unOp .not _ x=>notW nx k (sval N sl x)
 | .convert t t' x=>orW (slT (E.P.underlying t) ||slT (E.P.underlying t')) (∃ e,Loc E N ops o nx sl H e∧k e) (q7w E.P t t' nx k (sval N sl x))
 | .makeInterface t x=>q2a E.P t nx k (sval N sl x)
 | .makeFunc fn xs ys=>q8m N sl fn xs ys nx k
 | .slice t x lo hi none=>q3o E.P N sl H nx k t x lo hi
 | .fieldAddr t x f=>qmx E.P t f nx k (sval N sl x)
 | .field t x f=>q1p E.P t f nx k (sval N sl x)
 | .indexAddr t x y=>orW (qz5 H (sval N sl x)) (∃ e,Loc E N ops o nx sl H e∧k e) (qm5 E.P N sl H nx k t x y)
 | .index t x y=>q12 E.P N sl nx k t x y
 | .extract x i=>qsd i nx k (sval N sl x)
 | .call c=>(match c.callee,c.args,c.argTypes with
  | .value x,xs,_=>q7s E N sl H nx k x xs
  | .builtin .len,⟨[x]⟩,⟨t::_⟩=>orW (zkr H (sval N sl x)) (∃ e,Loc E N ops o nx sl H e∧k e) (lenW E.P H nx k t (sval N sl x))
  | .builtin .append,⟨[x,y]⟩,⟨[t,u]⟩=>orW (qz5 H (sval N sl x)) (∃ e,Loc E N ops o nx sl H e∧k e) (appW E.P H nx k t u (sval N sl x) (sval N sl y))
  | .builtin .min,⟨[x,y]⟩,_=>mmW nx k min (sval N sl x) (sval N sl y)
  | .builtin .max,⟨[x,y]⟩,_=>mmW nx k max (sval N sl x) (sval N sl y)
  | _,_,_=>∃ e,Loc E N ops o nx sl H e∧k e)
 | _=>∃ e,Loc E N ops o nx sl H e∧k e
theorem zbk {bxs:List Nat} {o:Oper} (hg:o.guard=none) (h:opW E N ops bxs nx sl H k o):∃ e,Loc E N ops o nx sl H e∧k e:=by
 obtain⟨d,op,T,p,af,g⟩:=o;subst hg;unfold opW at h;split at h
 ·rename_i he;simp only at he;subst he;exact zh6 h
 ·rename_i he;simp only at he;subst he;exact q9u h
 ·rename_i he;simp only at he;subst he;exact zie h
 ·rename_i he;simp only at he;subst he;exact zdd h
 ·rename_i he;simp only at he;subst he;exact zjd h
 ·rename_i he;simp only at he;subst he;exact zds h
 ·rename_i he;simp only at he;subst he;exact zje h
 ·rename_i he;simp only at he;subst he;exact qj7 h zh1
 ·rename_i he;simp only at he;subst he;exact qj7 h zf1
 ·rename_i he;simp only at he;subst he;exact zew h
 ·rename_i he
  simp only at he;subst he;refine qj7 h fun h=>?_;split at h
  ·rename_i hx hy
   obtain⟨v,hv,hk⟩:=zjc hx hy h;exact⟨_,js hv,hk⟩
  ·exact h.elim
 ·rename_i he;simp only at he;subst he;exact zj2 h
 ·rename_i he;simp only at he;subst he;exact qj7 h zg6
 ·rename_i he;simp only at he;subst he;exact zev h
 ·rename_i he;simp only at he;subst he;exact zh5 h
 ·rename_i he;simp only at he;subst he;exact zfy h
 ·rename_i he;simp only at he;subst he;exact q1o h
 ·rename_i he;simp only at he;subst he;exact zea h
 ·rename_i he;simp only at he;subst he;exact qj7 h q11
 ·rename_i he;simp only at he;subst he;exact zel h
 ·rename_i he;simp only at he;subst he;exact q76 h
 ·rename_i c he
  simp only at he;subst he;obtain⟨cl,xs,ts⟩:=c;split at h
  ·rename_i e1;simp only at e1;subst e1;exact zg1 h
  ·rename_i e1 e2 e3;simp only at e1 e2 e3;subst e1;subst e2;subst e3;exact qj7 h (zjw rfl)
  ·rename_i e1 e2 e3;simp only at e1 e2 e3;subst e1;subst e2;subst e3;exact qj7 h zi6
  ·rename_i e1 e2;simp only at e1 e2;subst e1;subst e2;exact zj0 h
  ·rename_i e1 e2;simp only at e1 e2;subst e1;subst e2;exact zjz h
  ·exact h
 ·exact h
end
end Go.Av
namespace Go.Av
open Go Go.RowKit
def isGd (i:Nat) (l:List Oper):Bool:=l.any fun o=>match o.guard with
 |some (j,_)=>Nat.beq j i
 |none=>false
def Ef.as (e:Ef) (v:SV):Ef:=⟨v,e.ks,e.ch,e.nx⟩
def gdW (g:Bool) (k:Ef→Prop) (e:Ef):Prop:=
 match g with
 |false=>k e
 |true=>match e.val with
  | .p q _=>(q→k (e.as .tt))∧(¬ q→k (e.as .ff))
  | .b c=>(c=true→k (e.as .tt))∧(c=false→k (e.as .ff))
  | _=>k e
section
variable {E : Env} {N : Nat} {ops : Array Oper} {nx : Nat} {sl : List (Nat × SV)} {H : Nat → Option SR} {k : Ef → Prop} {o : Oper}
theorem qqh {e:Ef} {v:SV} (h:Loc E N ops o nx sl H e) (hv:∀ ρ,e.val.ev ρ = v.ev ρ):Loc E N ops o nx sl H (e.as v):=fun df rd K rest ρ t S hs hS hk=>
 h df rd K rest ρ t S hs hS fun ρ' S' hp=>by rw [hv ρ'];exact hk ρ' S' ⟨hp.old,hp.sat,hp.len,hp.fr,hp.loc⟩
theorem zau {g:Bool} {e:Ef} (hL:Loc E N ops o nx sl H e) (h:gdW g k e):∃ e,Loc E N ops o nx sl H e∧k e:=by
 unfold gdW at h;split at h
 ·exact⟨e,hL,h⟩
 ·split at h
  ·rename_i q i hv
   by_cases hq:q
   ·exact⟨_,qqh hL (fun ρ=>by rw [hv];simp [SV.ev,hq]),h.1 hq⟩
   ·exact⟨_,qqh hL (fun ρ=>by rw [hv];simp [SV.ev,hq]),h.2 hq⟩
  ·rename_i c hv
   cases c with
   |true=>exact⟨_,qqh hL (fun ρ=>by rw [hv];rfl),h.1 rfl⟩
   |false=>exact⟨_,qqh hL (fun ρ=>by rw [hv];rfl),h.2 rfl⟩
  ·exact⟨e,hL,h⟩
def Oper.bare (o:Oper):Oper:=⟨o.dst,o.op,o.type,o.pos,o.after,none⟩
def qz2 (l:List Oper) (j:Nat):Option Nat:=match l[j]? with
 |some o=>o.dst
 |none=>none
def opG (E:Env) (N:Nat) (l:List Oper) (bxs:List Nat) (nx:Nat) (sl:List (Nat×SV)) (H:Nat→Option SR) (k:Ef→Prop) (o:Oper):Prop:=
 match o.guard with
 |none=>opW E N l.toArray bxs nx sl H k o
 |some (j,want)=>(match qz2 l j with
  |some e=>(match bif Nat.blt e N then lkS sl e else none with
   |some .tt=>bif want then opW E N l.toArray bxs nx sl H k (Oper.bare o) else k (wu nx (.a (.v undef)))
   |some .ff=>bif want then k (wu nx (.a (.v undef))) else opW E N l.toArray bxs nx sl H k (Oper.bare o)
   |some (.a (.v (.tuple ⟨[]⟩)))=>k (wu nx (.a (.v undef)))
   | _=>False)
  |none=>False)
theorem zd7 {l:List Oper} {j e:Nat} (h:qz2 l j=some e):∃ oj,l.toArray[j]? = some oj∧oj.dst=some e:=by
 unfold qz2 at h;split at h
 ·rename_i o ho;exact⟨o,by simpa using ho,h⟩
 ·simp at h
theorem zbj {l:List Oper} {bxs:List Nat} (h:opG E N l bxs nx sl H k o):∃ e,Loc E N l.toArray o nx sl H e∧k e:=by
 obtain⟨d,op,T,p,af,g⟩:=o;unfold opG at h;simp only at h;split at h
 ·exact zbk rfl h
 ·rename_i j want
  split at h
  ·rename_i e he
   obtain⟨oj,hj,hd⟩:=zd7 he
   cases hN:Nat.blt e N with
   |false=>rw [hN] at h;exact h.elim
   |true=>
    rw [hN] at h;simp only [cond_true] at h
    have run:∀ b:Bool,lkS sl e=some (bif b then .tt else .ff)→b=want→opW E N l.toArray bxs nx sl H k ⟨d,op,T,p,af,none⟩→∃ e,Loc E N l.toArray ⟨d,op,T,p,af,some (j,want)⟩ nx sl H e∧k e:=fun b hl hb h=>by
     obtain⟨e1,hL,hk⟩:=zbk rfl h;refine⟨e1,fun df rd K rest ρ t S hs hS hk=>qlw hj hd hN (b:=b) ?_ hb (hL df rd K rest ρ t S hs hS hk),hk⟩;refine (hs e _ hl).trans ?_
     cases b <;> rfl
    have skp:∀ b:Bool,lkS sl e=some (bif b then .tt else .ff)→(b == want)=false→k (wu nx (.a (.v undef)))→∃ e,Loc E N l.toArray ⟨d,op,T,p,af,some (j,want)⟩ nx sl H e∧k e:=fun b hl hb h=>by
     refine⟨_,js (v:=.a (.v undef)) fun df rd K rest ρ t S hs hk=>qkn hj hd hN (b:=b) ?_ hb hk,h⟩;refine (hs e _ hl).trans ?_
     cases b <;> rfl
    split at h
    ·rename_i hl
     cases want with
     |true=>exact run true hl rfl h
     |false=>exact skp true hl rfl h
    ·rename_i hl
     cases want with
     |true=>exact skp false hl rfl h
     |false=>exact run false hl rfl h
    ·rename_i hl
     exact⟨_,js (v:=.a (.v undef)) fun df rd K rest ρ t S hs hk=>qae hj hd hN (hs e _ hl) hk,h⟩
    ·exact h.elim
  ·exact h.elim
end
mutual
def fcV:SV→(SV→Prop)→Prop
 | .a x,k=>k (.a x)
 | .i n,k=>k (.i n)
 | .s l,k=>k (.s l)
 | .tt,k=>k .tt
 | .ff,k=>k .ff
 | .b c,k=>k (.b c)
 | .p q h,k=>k (.p q h)
 | .bx a b,k=>k (.bx a b)
 | .tp a,k=>k (.tp a)
 | .ag cs,k=>fcL cs fun cs=>k (.ag cs)
 | .tu cs,k=>fcL cs fun cs=>k (.tu cs)
 | .fn f xs ys,k=>fcL xs fun xs=>fcL ys fun ys=>k (.fn f xs ys)
 | .ifc t x,k=>fcV x fun x=>k (.ifc t x)
def fcL:List SV→(List SV→Prop)→Prop
 | [],k=>k []
 |x::r,k=>fcV x fun x=>fcL r fun r=>k (x::r)
end
mutual
theorem q1n:∀ (v:SV) (k:SV→Prop),fcV v k=k v
 | .a _,_=>rfl
 | .i _,_=>rfl
 | .s _,_=>rfl
 | .tt,_=>rfl
 | .ff,_=>rfl
 | .b _,_=>rfl
 | .p _ _,_=>rfl
 | .bx _ _,_=>rfl
 | .tp _,_=>rfl
 | .ag cs,k=>by simp only [fcV,qjw cs]
 | .tu cs,k=>by simp only [fcV,qjw cs]
 | .fn f xs ys,k=>by simp only [fcV,qjw xs,qjw ys]
 | .ifc t x,k=>by simp only [fcV,q1n x]
theorem qjw:∀ (l:List SV) (k:List SV→Prop),fcL l k=k l
 | [],_=>rfl
 |x::r,k=>by simp only [fcL,q1n x,qjw r]
end
def fcR:SR→(SR→Prop)→Prop
 | .cells T cs,k=>fcL cs fun cs=>k (.cells T cs)
 | .tip sz T xs,k=>fcN sz fun sz=>k (.tip sz T xs)
 | .own sz T xs,k=>fcN sz fun sz=>k (.own sz T xs)
 | .obj P,k=>k (.obj P)
 | .rows T ys cs,k=>fcL cs fun cs=>k (.rows T ys cs)
theorem zjm:∀ (r:SR) (k:SR→Prop),fcR r k=k r
 | .cells _ cs,k=>by simp only [fcR,qjw]
 | .tip sz _ _,k=>by simp only [fcR,qo0]
 | .own sz _ _,k=>by simp only [fcR,qo0]
 | .obj _,k=>rfl
 | .rows _ _ cs,k=>by simp only [fcR,qjw]
def fcH:List (Nat×Option SR)→(List (Nat×Option SR)→Prop)→Prop
 | [],k=>k []
 |(a,none)::l,k=>fcH l fun l=>k ((a,none)::l)
 |(a,some r)::l,k=>fcR r fun r=>fcH l fun l=>k ((a,some r)::l)
theorem q1l:∀ (l:List (Nat×Option SR)) (k:List (Nat×Option SR)→Prop),fcH l k=k l
 | [],_=>rfl
 |(a,none)::l,k=>by simp only [fcH,q1l l]
 |(a,some r)::l,k=>by simp only [fcH,zjm,q1l l]
def fcE (k:Ef→Prop):Ef→Prop
 | ⟨v,ks,ch,nx⟩=>fcV v fun v=>fcH ch fun ch=>k ⟨v,ks,ch,nx⟩
theorem zar (k:Ef→Prop) (e:Ef):fcE k e=k e:=by
 obtain⟨v,ks,ch,nx⟩:=e;simp only [fcE,q1n,q1l]
def qu6 (hp:List (Nat×Option SR)) (k:List (Nat×Option SR)→Prop):List (Nat×Option SR)→Prop
 | []=>k hp
 |c::r=>qu6 hp (fun l=>k (c::l)) r
theorem qsv (hp:List (Nat×Option SR)):∀ (ch:List (Nat×Option SR)) (k:List (Nat×Option SR)→Prop),qu6 hp k ch=k (ch++hp)
 | [],_=>rfl
 |c::r,k=>by rw [qu6,qsv hp r];rfl
def qz4 (sl:List (Nat×SV)) (hp:List (Nat×Option SR)) (nx:Nat) (d:Option Tmp) (k:Conf→Prop):Ef→Prop
 | ⟨v,ks,ch,nx'⟩=>bif Ef.wf ⟨v,ks,ch,nx'⟩ nx then (match d with
  |some d=>qu6 hp (fun hp=>k ⟨(d,v)::sl,hp,nx'⟩) ch
  |none=>qu6 hp (fun hp=>k ⟨sl,hp,nx'⟩) ch) else False
theorem q2e {sl:List (Nat×SV)} {hp:List (Nat×Option SR)} {nx:Nat} {d:Option Tmp} {k:Conf→Prop} {e:Ef} (h:qz4 sl hp nx d k e):e.wf nx=true∧k ((Conf.mk sl hp nx).app d e):=by
 obtain⟨v,ks,ch,nx'⟩:=e;simp only [qz4] at h
 cases hw:Ef.wf ⟨v,ks,ch,nx'⟩ nx with
 |false=>rw [hw] at h;exact h.elim
 |true=>
  rw [hw] at h;refine⟨rfl,?_⟩
  cases d with
  |none=>simp only [cond_true] at h;rw [qsv] at h;exact h
  |some d=>simp only [cond_true] at h;rw [qsv] at h;exact h
def q9k (E:Env) (N:Nat) (l:List Oper) (bxs:List Nat):Nat→List Oper→(Conf→Prop)→Conf→Prop
 | _,[],K,C=>K C
 |i,o::r,K,⟨sl,hp,nx⟩=>opG E N l bxs nx sl (hpF hp) (gdW (isGd i l) (fcE (qz4 sl hp nx o.dst (q9k E N l bxs (i+1) r K)))) o
theorem q33 {E:Env} {rd:Option Nat} {N:Nat} {l:List Oper} {bxs:List Nat} {B:Bs} {K:Conf→Prop}:∀ {r:List Oper} {i:Nat} {C:Conf} {s:AS},q9k E N l bxs i r K C→SatC B C s→AOps E rd N l.toArray r (fun s'=>∃ C',K C'∧SatC B C' s') s
 | [],_,C,s,h,hs=>qh ⟨C,h,hs⟩
 |o::r,i,⟨sl,hp,nx⟩,s,h,hs=>by
  obtain⟨e,hL,h⟩:=zbj h;obtain⟨e,hL,h⟩:=zau hL h;rw [zar] at h;obtain⟨hw,h⟩:=q2e h;obtain⟨t,S,df⟩:=s;obtain⟨ρ,d7,hR⟩:=hs;simp only at d7 hR;refine hL _ rd _ r ρ t S hR.sl (hR.hp.res _) fun ρ' S' hp=>q33 h ⟨ρ',?_,?_⟩
  ·have:=d7.step (d:=o.dst) hR.hp hw hp
   cases hd:o.dst with
   |none=>rw [hd] at this;exact this
   |some d=>rw [hd] at this;exact this
  ·have:=hR.step (d:=o.dst) hw hp
   cases hd:o.dst with
   |none=>rw [hd] at this;exact this
   |some d=>rw [hd] at this;exact this
structure Sm (E:Env) (rd:Option Nat) (N:Nat) (B:Bs) (c:Code) (Q:Exit→Conf→Prop) (C:Conf):Prop where
 run:∀ s,SatC B C s→AWp E rd N c (fun e s'=>∃ C',Q e C'∧SatC B C' s') s
@[reducible] def zgl (K : Conf → Prop) (Q : Exit → Conf → Prop) : Exit → Conf → Prop
 | .normal,C=>K C
 |e,C=>Q e C
@[reducible] def qsl (id : Nat) (Q : Exit → Conf → Prop) : Exit → Conf → Prop
 | .exit id',C=>bif Nat.beq id' id then Q .normal C else Q (.exit id') C
 |e,C=>Q e C
section
variable {E : Env} {rd : Option Nat} {N : Nat} {B : Bs} {C : Conf} {Q : Exit → Conf → Prop}
theorem ziq {x y:Code} (h:Sm E rd N B x (zgl (Sm E rd N B y Q) Q) C):Sm E rd N B (.seq x y) Q C:=⟨fun s hs=>
 qn ((h.run s hs).mono fun e s' ⟨C',hq,dt⟩=>by
  cases e with
  |normal=>exact hq.run s' dt
  | _=>exact⟨C',hq,dt⟩)⟩
theorem zcf {id:Nat} {c:Code} (h:Sm E rd N B c (qsl id Q) C):Sm E rd N B (.block id c) Q C:=⟨fun s hs=>
 qy ((h.run s hs).mono fun e s' ⟨C',hq,dt⟩=>by
  cases e with
  |exit id'=>
   simp only [qsl] at hq;simp only [qsk]
   cases hb:Nat.beq id' id with
   |true=>rw [hb] at hq;exact⟨C',hq,dt⟩
   |false=>rw [hb] at hq;exact⟨C',hq,dt⟩
  | _=>exact⟨C',hq,dt⟩)⟩
theorem zfv {c:Operand} {x y:Code} {v:SV} (hv:sval N C.sl c=some v) (h:wayW (Sm E rd N B x Q C) (Sm E rd N B y Q C) v):Sm E rd N B (.cond c x y) Q C:=⟨fun s hs=>by
 obtain⟨b,hb,h⟩:=zc5 h;obtain⟨t,S,df⟩:=s;have ⟨ρ,d7,hR⟩:=hs;have he:=(q9 (S:=S) (df:=df) hR.sl hv).trans (hb ρ);rcases h with⟨hc,h⟩ | ⟨hc,h⟩
 ·exact q7n he hc (h.run _ hs)
 ·exact q7m he hc (h.run _ hs)⟩
theorem q3m {c:Code} {Q':Exit→Conf→Prop} (h:Sm E rd N B c Q' C) (hq:∀ e C',Q' e C'→Q e C'):Sm E rd N B c Q C:=⟨fun s hs=>
 (h.run s hs).mono fun e s' ⟨C',hq',dt⟩=>⟨C',hq e C' hq',dt⟩⟩
end
def wpC (E:Env) (rd:Option Nat) (N:Nat) (B:Bs) (bxs:List Nat):Code→(Exit→Conf→Prop)→Conf→Prop
 | .skip,Q,C=>Q .normal C
 | .region id ops false,Q,C=>q9k E N ops.toList bxs 0 ops.toList (Q .normal) C
 | .seq x y,Q,C=>wpC E rd N B bxs x (zgl (wpC E rd N B bxs y Q) Q) C
 | .cond c x y,Q,C=>(match sval N C.sl c with
  |some v=>wayW (wpC E rd N B bxs x Q C) (wpC E rd N B bxs y Q C) v
  |none=>False)
 | .block id c,Q,C=>wpC E rd N B bxs c (qsl id Q) C
 | .exit id,Q,C=>Q (.exit id) C
 | .ret,Q,C=>Q .ret C
 |c,Q,C=>Sm E rd N B c Q C
theorem zc4 {x y x' y':Prop} {v:SV} (hx:x→x') (hy:y→y') (h:wayW x y v):wayW x' y' v:=by
 cases v with
 |tt=>exact hx h
 |ff=>exact hy h
 |p q i=>exact⟨fun hq=>hx (h.1 hq),fun hq=>hy (h.2 hq)⟩
 |b c=>exact⟨fun hq=>hx (h.1 hq),fun hq=>hy (h.2 hq)⟩
 | _=>exact h.elim
theorem qd {E:Env} {rd:Option Nat} {N:Nat} {B:Bs} (bxs:List Nat):∀ {c:Code} {Q:Exit→Conf→Prop} {C:Conf},wpC E rd N B bxs c Q C→Sm E rd N B c Q C
 | .skip,Q,C,h=>⟨fun s hs=>qw ⟨C,h,hs⟩⟩
 | .exit id,Q,C,h=>⟨fun s hs=>jd ⟨C,h,hs⟩⟩
 | .ret,Q,C,h=>⟨fun s hs=>qt ⟨C,h,hs⟩⟩
 | .seq x y,Q,C,h=>ziq (q3m (qd bxs (c:=x) h) fun e C' hq=>by
   cases e with
   |normal=>exact qd bxs (c:=y) hq
   | _=>exact hq)
 | .block id c,Q,C,h=>zcf (qd bxs (c:=c) h)
 | .cond c x y,Q,C,h=>by
  simp only [wpC] at h;split at h
  ·rename_i v hv
   exact zfv hv (zc4 (fun h=>qd bxs (c:=x) h) (fun h=>qd bxs (c:=y) h) h)
  ·exact h.elim
 | .region id ops false,Q,C,h=>⟨fun s hs=>by
  have e:ops=ops.toList.toArray:=by simp
  rw [e]
  exact qf (q33 h hs)⟩
 | .region id ops true,Q,C,h=>h
 | .loop c,Q,C,h=>h
 | .rangeFunc _ _ _ _,Q,C,h=>h
 | .scope _,Q,C,h=>h
 | .label _,Q,C,h=>h
 | .goto _,Q,C,h=>h
 | .refuse _,Q,C,h=>h
mutual
def SV.ren (σ : List (Nat×Nat)):SV→SV
 | .bx k off=>match lkS σ k with
  |some j=>.bx j off
  |none=>.a (.bx 0 0 off)
 | .tp k=>match lkS σ k with
  |some j=>.tp j
  |none=>.a zp
 | .ag cs=>.ag (SV.rens σ cs)
 | .tu cs=>.tu (SV.rens σ cs)
 | .fn f xs ys=>.fn f (SV.rens σ xs) (SV.rens σ ys)
 | .ifc t x=>.ifc t (SV.ren σ x)
 |v=>v
def SV.rens (σ : List (Nat×Nat)):List SV→List SV
 | []=>[]
 |x::r=>SV.ren σ x::SV.rens σ r
end
def renR (σ : List (Nat×Nat)) (ρ : Nat→AV):Nat→AV:=fun k=>match lkS σ k with
 |some j=> ρ j
 |none=>zp
mutual
theorem qvk (σ : List (Nat×Nat)) (ρ : Nat→AV):∀ v:SV,(v.ren σ).ev ρ = v.ev (renR σ ρ)
 | .a _=>rfl
 | .i _=>rfl
 | .s _=>rfl
 | .tt=>rfl
 | .ff=>rfl
 | .b _=>rfl
 | .p _ _=>rfl
 | .bx k off=>by
  simp only [SV.ren,SV.ev,renR]
  cases lkS σ k <;> rfl
 | .tp k=>by
  simp only [SV.ren,SV.ev,renR]
  cases lkS σ k <;> rfl
 | .ag cs=>by simp only [SV.ren,SV.ev,qeu σ ρ cs]
 | .tu cs=>by simp only [SV.ren,SV.ev,qeu σ ρ cs]
 | .fn f xs ys=>by simp only [SV.ren,SV.ev,qeu σ ρ xs,qeu σ ρ ys]
 | .ifc t x=>by simp only [SV.ren,SV.ev,qvk σ ρ x]
theorem qeu (σ : List (Nat×Nat)) (ρ : Nat→AV):∀ l:List SV,SV.evs ρ (SV.rens σ l)=SV.evs (renR σ ρ) l
 | []=>rfl
 |x::r=>by simp only [SV.rens,SV.evs,qvk σ ρ x,qeu σ ρ r]
end
structure Tl (x r:AV):Prop where
 ok:Wk x r
theorem qqs (x:AV):Tl x x:=⟨wx x⟩
theorem qe {x y:AV} (h:x=y):Tl x y:=⟨zk0 h⟩
theorem zki {sz:Nat}:Tl zp (.sl sz [] none):=⟨fun _ _ h=>qb9 h⟩
def evK (v:SV) (k:AV→Prop):Prop:=
 match v with
 | .a x=>k x
 | .i n=>k (Iv n)
 | .s l=>k (Sv l)
 | .b c=>k (Bv c)
 | .p q h=>k (Bv (@decide q h))
 |v=>k (v.ev fun _=>zp)
theorem zjl (v:SV) (k:AV→Prop):evK v k=k (v.ev fun _=>zp):=by
 cases v <;> rfl
def covW (H:Nat→Option SR) (v:Option SV) (σ : List (Nat×Nat)) (u:SV):Prop:=
 match v with
 |none=>False
 |some v=>match u.all (fun _=>false) with
  |true=>(match frz H v with
   |some x=>evK u fun y=>Tl x y
   |none=>False)
  |false=>∀ ρ,v.ev ρ = (u.ren σ).ev ρ
def entS (H:Nat→Option SR) (sl:List (Nat×SV)) (σ : List (Nat×Nat)):List (Nat×SV)→Prop
 | []=>True
 |(d,v)::r=>covW H (lkS sl d) σ v∧entS H sl σ r
def entR (H:Nat→Option SR) (σ : List (Nat×Nat)) (k:Nat) (r:SR):Prop:=
 match lkS σ k,r with
 |some j,.cells T cs=>(match H j with
  |some (.cells T' cs')=>T'=T∧∀ ρ,SV.evs ρ cs'=SV.evs ρ (SV.rens σ cs)
  | _=>False)
 |some j,.tip sz T xs=>(match H j with
  |some (.tip sz' T' xs')=>(sz'=sz∧T'=T)∧xs'=xs
  | _=>False)
 |none,.tip _ _ xs=>xs=[]
 |some j,.own sz T xs=>(match H j with
  |some (.own sz' T' xs')=>(sz'=sz∧T'=T)∧xs'=xs
  | _=>False)
 |none,.own _ _ xs=>xs=[]
 |none,.cells _ _=>False
 |some j,.obj P=>(match H j with
  |some (.obj P')=>∀ x c,P' x c→P x c
  | _=>False)
 |none,.obj _=>False
 |some j,.rows T ys cs=>(match H j with
  |some (.rows T' ys' cs')=>(T'=T∧ys'=ys)∧∀ ρ,SV.evs ρ cs'=SV.evs ρ (SV.rens σ cs)
  | _=>False)
 |none,.rows _ ys cs=>ys=[]∧cs=[]
def entH (H:Nat→Option SR) (σ : List (Nat×Nat)):List (Nat×Option SR)→Prop
 | []=>True
 |(k,some r)::l=>entR H σ k r∧entH H σ l
 |(_,none)::l=>entH H σ l
def injN:List (Nat×Nat)→Bool
 | []=>true
 |(_,j)::r=>r.all (fun q=> !Nat.beq q.2 j) && injN r
def fltN (hp:List (Nat×Option SR)):List (Nat×Nat)→List (Nat×Nat)
 | []=>[]
 |(k,j)::r=>match lkS hp k with
  |some _=>(k,j)::fltN hp r
  |none=>fltN hp r
theorem qsg {hp:List (Nat×Option SR)} {k:Nat} {x:Option SR} (hk:lkS hp k=some x):∀ σ : List (Nat×Nat),lkS (fltN hp σ) k=lkS σ k
 | []=>rfl
 |(i,j)::r=>by
  have ih:=qsg hk r;simp only [fltN];by_cases e:i=k
  ·subst e
   rw [hk];simp [lkS]
  ·cases h:lkS hp i with
   |none=>simp only [lkS,j9 e,cond_false];exact ih
   |some y=>simp only [lkS,j9 e,cond_false];exact ih
def okC (C:Conf):Bool:=C.sl.all (fun q=>q.2.all fun k=>Nat.blt k C.nx) && C.hp.all (fun q=>Nat.blt q.1 C.nx && match q.2 with
 |some r=>r.all fun k=>Nat.blt k C.nx
 |none=>true)
def rigN (σ : List (Nat×Nat)):Nat→Bool
 | 0=>true
 |n+1=>(match lkS σ n with
  |some j=>Nat.beq j n
  |none=>false) && rigN σ n
def idN:Nat→List (Nat×Nat)
 | 0=>[]
 |n+1=>(n,n)::idN n
theorem qsw {σ : List (Nat×Nat)}:∀ {n:Nat},rigN σ n=true→∀ k,k<n→lkS σ k=some k
 | 0,_,k,hk=>by omega
 |n+1,h,k,hk=>by
  simp only [rigN,Bool.and_eq_true] at h;by_cases e:k=n
  ·subst e
   have h1:=h.1;split at h1
   ·rename_i j hj
    rw [hj,Nat.eq_of_beq_eq_true h1]
   ·simp at h1
  ·exact qsw h.2 k (by omega)
def EntC (σ : List (Nat×Nat)) (C C':Conf):Prop:=entS (hpF C.hp) C.sl σ C'.sl∧entH (hpF C.hp) σ C'.hp∧(injN (fltN C'.hp σ) && okC C')=true
mutual
def prs:SV→SV→List (Nat×Nat)
 | .tp k,.tp j=>[(k,j)]
 | .bx k _,.bx j _=>[(k,j)]
 | .ag a,.ag b=>prsL a b
 | .tu a,.tu b=>prsL a b
 | .fn _ a b,.fn _ c d=>prsL a c++prsL b d
 | .ifc _ x,.ifc _ y=>prs x y
 | _,_=>[]
def prsL:List SV→List SV→List (Nat×Nat)
 |x::r,y::s=>prs x y++prsL r s
 | _,_=>[]
end
def addS:List (Nat×Nat)→List (Nat×Nat)→List (Nat×Nat)
 |acc,[]=>acc
 |acc,(k,j)::r=>match lkS acc k with
  |some _=>addS acc r
  |none=>addS ((k,j)::acc) r
def sigS (sl:List (Nat×SV)):List (Nat×SV)→List (Nat×Nat)
 | []=>[]
 |(d,v)::r=>(match lkS sl d with
  |some u=>prs v u
  |none=>[])++sigS sl r
def sigH (H:Nat→Option SR) (σ : List (Nat×Nat)):List (Nat×Option SR)→List (Nat×Nat)
 | []=>[]
 |(k,some (.cells _ cs))::r=>(match lkS σ k with
  |some j=>(match H j with
   |some (.cells _ ds)=>prsL cs ds
   | _=>[])
  |none=>[])++sigH H σ r
 | _::r=>sigH H σ r
def fcP:List (Nat×Nat)→(List (Nat×Nat)→Prop)→Prop
 | [],k=>k []
 |(a,b)::r,k=>fcP r fun r=>k ((a,b)::r)
theorem q1m:∀ (l:List (Nat×Nat)) (k:List (Nat×Nat)→Prop),fcP l k=k l
 | [],_=>rfl
 |(a,b)::r,k=>by simp only [fcP,q1m r]
def EntA (n0:Nat) (C C':Conf):Prop:=
 fcP (addS (idN n0) (sigS C.sl C'.sl)) fun a=>fcP (addS a (sigH (hpF C.hp) a C'.hp)) fun b=>fcP (addS b (sigH (hpF C.hp) b C'.hp)) fun σ=>(rigN σ n0 && Nat.ble n0 C'.nx)=true∧EntC σ C C'
theorem EntA.ent {n0:Nat} {C C':Conf} (h:EntA n0 C C'):∃ σ,(rigN σ n0 && Nat.ble n0 C'.nx)=true∧EntC σ C C':=by
 unfold EntA at h;simp only [q1m] at h;exact⟨_,h⟩
theorem q1k {H:Nat→Option SR} {sl:List (Nat×SV)} {σ : List (Nat×Nat)}:∀ {l:List (Nat×SV)} {d:Nat} {v:SV},entS H sl σ l→lkS l d=some v→covW H (lkS sl d) σ v
 | [],_,_,_,h=>by simp [lkS] at h
 |(i,x)::r,d,v,h,hl=>by
  unfold lkS at hl
  cases hb:Nat.beq i d with
  |true=>
   rw [hb] at hl;simp only [cond_true,Option.some.injEq] at hl;subst hl;rw [← Nat.eq_of_beq_eq_true hb]
   exact h.1
  |false=>rw [hb] at hl;exact q1k h.2 hl
theorem qg7 {H:Nat→Option SR} {σ : List (Nat×Nat)}:∀ {l:List (Nat×Option SR)} {k:Nat} {r:SR},entH H σ l→lkS l k=some (some r)→entR H σ k r
 | [],_,_,_,h=>by simp [lkS] at h
 |(i,none)::l,k,r,h,hl=>by
  unfold lkS at hl
  cases hb:Nat.beq i k with
  |true=>rw [hb] at hl;simp at hl
  |false=>rw [hb] at hl;exact qg7 (l:=l) h hl
 |(i,some x)::l,k,r,h,hl=>by
  unfold lkS at hl
  cases hb:Nat.beq i k with
  |true=>
   rw [hb] at hl;simp only [cond_true,Option.some.injEq] at hl;subst hl;rw [← Nat.eq_of_beq_eq_true hb]
   exact h.1
  |false=>rw [hb] at hl;exact qg7 (l:=l) h.2 hl
theorem q13:∀ {σ : List (Nat×Nat)} {k k' j:Nat},injN σ = true→lkS σ k=some j→lkS σ k'=some j→k=k'
 | [],_,_,_,_,h,_=>by simp [lkS] at h
 |(i,x)::r,k,k',j,h,h1,h2=>by
  simp only [injN,Bool.and_eq_true] at h
  have no:∀ q,lkS r q=some x→False:=fun q hq=>by
   have:=List.all_eq_true.1 h.1 _ (vq hq);simp at this
  unfold lkS at h1 h2
  cases hb:Nat.beq i k with
  |true=>
   rw [hb] at h1;simp only [cond_true,Option.some.injEq] at h1;subst h1
   cases lx:Nat.beq i k' with
   |true=>rw [← Nat.eq_of_beq_eq_true hb,← Nat.eq_of_beq_eq_true lx]
   |false=>rw [lx] at h2;exact (no _ h2).elim
  |false=>
   rw [hb] at h1
   cases lx:Nat.beq i k' with
   |true=>
    rw [lx] at h2;simp only [cond_true,Option.some.injEq] at h2;subst h2
    exact (no _ h1).elim
   |false=>rw [lx] at h2;exact q13 h.2 h1 h2
theorem xz {hp:List (Nat×Option SR)} {k:Nat} {r:SR} (h:hpF hp k=some r):lkS hp k=some (some r):=by
 unfold hpF at h
 cases hl:lkS hp k with
 |none=>rw [hl] at h;simp at h
 |some x=>rw [hl] at h;simp only at h;rw [h]
theorem EntC.sat {σ : List (Nat×Nat)} {C C':Conf} {S0:List AObj} {F:Nat→Prop} {ρ t:Nat→AV} {S:List AObj} (h:EntC σ C C') (hR:SatR S0 F C ρ t S):∃ t',(∀ d,Wk (t d) (t' d))∧SatR S0 F C' (renR σ ρ) t' S:=by
 obtain⟨hs,hh,hb⟩:=h;simp only [Bool.and_eq_true,okC] at hb;obtain⟨hi,i5,i6⟩:=hb;refine⟨fun d=>match lkS C'.sl d with|some v=>v.ev (renR σ ρ)|none=>t d,fun d=>?_,⟨fun d v hd=>by simp only [hd],⟨fun k r hk=>?_,fun k k' r r' a6 h1 h2 o ho=>?_⟩,fun k r hk o ho=>?_,hR.low,hR.len,fun d v hd=>?_,fun k r hk=>?_⟩⟩
 ·simp only
  cases hd:lkS C'.sl d with
  |none=>exact wx _
  |some v=>
   have hc:=q1k hs hd;unfold covW at hc;split at hc
   ·exact hc.elim
   ·rename_i u hu
    rw [hR.sl d u hu];simp only;split at hc
    ·rename_i m8
     split at hc
     ·rename_i x hx
      rw [zjl] at hc;have e:v.ev (renR σ ρ)=v.ev fun _=>zp:=qc6 (f:=fun _=>false) (fun k hk=>by simp at hk) _ m8;rw [e];exact fun G y hy=>hc.ok G y (qib hR.hp u x hx G y hy)
     ·exact hc.elim
    ·rw [hc ρ,qvk]
     exact wx _
 ·have hc:=qg7 hh (xz hk)
  unfold entR at hc;unfold renR;split at hc
  ·rename_i j T cs hj
   rw [hj];split at hc
   ·rename_i T' cs' hH
    obtain⟨rfl,hc⟩:=hc;obtain⟨o,v,h1,h2,h0⟩:=hR.hp.ok j _ hH;refine⟨o,v,h1,?_,h0⟩;rw [h2,hc ρ,qeu];rfl
   ·exact hc.elim
  ·rename_i j sz T xs hj
   rw [hj];split at hc
   ·rename_i sz' T' xs' hH
    obtain⟨⟨rfl,rfl⟩,rfl⟩:=hc;exact hR.hp.ok j _ hH
   ·exact hc.elim
  ·rename_i sz T xs hj
   rw [hj];subst hc;exact .inl (.inl ⟨rfl,rfl⟩)
  ·rename_i j sz T xs hj
   rw [hj];split at hc
   ·rename_i sz' T' xs' hH
    obtain⟨⟨rfl,rfl⟩,rfl⟩:=hc;exact hR.hp.ok j _ hH
   ·exact hc.elim
  ·rename_i sz T xs hj
   rw [hj];subst hc;exact .inl ⟨rfl,qss none⟩
  ·exact hc.elim
  ·rename_i j P hj
   rw [hj];split at hc
   ·rename_i P' hH
    obtain⟨o,x,h1,h2,h3,h4⟩:=hR.hp.ok j _ hH;exact⟨o,x,h1,h2,h3,hc x _ h4⟩
   ·exact hc.elim
  ·exact hc.elim
  ·rename_i j T ys cs hj
   rw [hj];split at hc
   ·rename_i T' ys' cs' hH
    obtain⟨⟨rfl,rfl⟩,hc⟩:=hc;have h1:=hR.hp.ok j _ hH
    show OwnS _ 1 _ (ys'++SV.evs (renR σ ρ) cs) _
    rw [← qeu,← hc ρ];exact h1
   ·exact hc.elim
  ·rename_i T ys cs hj
   rw [hj];obtain⟨rfl,rfl⟩:=hc;exact .inl ⟨rfl,qss none⟩
 ·have key:∀ k r,hpF C'.hp k=some r→∀ o,zq (renR σ ρ k)=some o→∃ j r',lkS σ k=some j∧hpF C.hp j=some r'∧zq (ρ j)=some o:=fun k r hk o ho=>by
   have hc:=qg7 hh (xz hk);unfold renR at ho
   cases hj:lkS σ k with
   |none=>rw [hj] at ho;simp [zq] at ho
   |some j=>
    rw [hj] at ho;unfold entR at hc;rw [hj] at hc
    cases r with
    |cells T cs=>
     simp only at hc;split at hc
     ·rename_i hH;exact⟨j,_,rfl,hH,ho⟩
     ·exact hc.elim
    |tip sz T xs=>
     simp only at hc;split at hc
     ·rename_i hH;exact⟨j,_,rfl,hH,ho⟩
     ·exact hc.elim
    |own sz T xs=>
     simp only at hc;split at hc
     ·rename_i hH;exact⟨j,_,rfl,hH,ho⟩
     ·exact hc.elim
    |obj P=>
     simp only at hc;split at hc
     ·rename_i hH;exact⟨j,_,rfl,hH,ho⟩
     ·exact hc.elim
    |rows T ys cs=>
     simp only at hc;split at hc
     ·rename_i hH;exact⟨j,_,rfl,hH,ho⟩
     ·exact hc.elim
  obtain⟨j,q,g1,g2,g3⟩:=key k r h1 o ho;intro b6;obtain⟨j',q',g4,g5,g6⟩:=key k' r' h2 o b6;exact hR.hp.sep j j' q q' (fun e=>a6 (q13 hi ((qsg (xz h1) σ).trans g1) ((qsg (xz h2) σ).trans (by rw [e];exact g4)))) g2 g5 o g3 g6
 ·have hc:=qg7 hh (xz hk)
  unfold renR at ho
  cases hj:lkS σ k with
  |none=>rw [hj] at ho;simp [zq] at ho
  |some j=>
   rw [hj] at ho;unfold entR at hc;rw [hj] at hc
   cases r with
   |cells T cs=>
    simp only at hc;split at hc
    ·rename_i hH;exact hR.own j _ hH o ho
    ·exact hc.elim
   |tip sz T xs=>
    simp only at hc;split at hc
    ·rename_i hH;exact hR.own j _ hH o ho
    ·exact hc.elim
   |own sz T xs=>
    simp only at hc;split at hc
    ·rename_i hH;exact hR.own j _ hH o ho
    ·exact hc.elim
   |obj P=>
    simp only at hc;split at hc
    ·rename_i hH;exact hR.own j _ hH o ho
    ·exact hc.elim
   |rows T ys cs=>
    simp only at hc;split at hc
    ·rename_i hH;exact hR.own j _ hH o ho
    ·exact hc.elim
 ·exact List.all_eq_true.1 i5 _ (vq hd)
 ·have:=List.all_eq_true.1 i6 _ (vq (xz hk))
  simp only [Bool.and_eq_true] at this;exact⟨vo this.1,this.2⟩
section
variable {E : Env} {rd : Option Nat} {N : Nat} {B : Bs} {C : Conf} {Q : Exit → Conf → Prop}
theorem Frm.ren {B:Bs} {C C':Conf} {ρ : Nat→AV} {df:List Nat} {S:List AObj} {σ : List (Nat×Nat)} (h:Frm B C ρ df S) (hr:(rigN σ B.n0 && Nat.ble B.n0 C'.nx)=true):Frm B C' (renR σ ρ) df S:=by
 simp only [Bool.and_eq_true] at hr;refine⟨h.dm,h.nd,fun k hk=>?_,Nat.le_of_ble_eq_true hr.2,h.dz⟩;unfold renR;rw [qsw hr.1 k hk];exact h.rig k hk
theorem q0y {c:Code} {Q:Exit→AS→Prop} {t t':Nat→AV} {S:List AObj} {df:List Nat} (hw:∀ d,Wk (t d) (t' d)) (h:AWp E rd N c Q ⟨t',S,df⟩):AWp E rd N c Q ⟨t,S,df⟩:=
 ⟨fun B0 w0 G a w hL hI=>h.run B0 w0 G a w hL ⟨hI.agree,hI.defers,hI.size,fun i y hy=>hw i G y (hI.tmps i y hy)⟩⟩
theorem zw {X:Type} {c:Code} (I:X→Conf) (P:X→Prop) (μ : X→Nat) (x0:X) (h0:P x0) (he:EntA B.n0 C (I x0))
  (hr:∀ x,P x→Sm E rd N B c (fun e C'=>match e with
   | .normal=>∃ x',P x'∧μ x' < μ x∧EntA B.n0 C' (I x')
   |e=>Q e C') (I x)):Sm E rd N B (.loop c) Q C:=⟨fun s hs=>by
 refine jv (σ:=X) (fun x s=>P x∧∃ t',(∀ d,Wk (s.t d) (t' d))∧SatC B (I x) ⟨t',s.st,s.df⟩) μ x0 ?_ ?_
 ·obtain⟨t,S,df⟩:=s
  obtain⟨ρ,d7,hR⟩:=hs;simp only at d7 hR;obtain⟨σ0,sc,he⟩:=he.ent;obtain⟨t',hw,lw⟩:=he.sat hR;exact⟨h0,t',hw,_,d7.ren sc,lw⟩
 ·rintro x ⟨t,S,df⟩ ⟨hP,t',hw,hs⟩
  simp only at hw hs;refine q0y hw (((hr x hP).run ⟨t',S,df⟩ hs).mono fun e s' ⟨C',hq,dt⟩=>?_)
  cases e with
  |normal=>
   obtain⟨x',hP',b4,gm⟩:=hq;obtain⟨t2,S2,df2⟩:=s';obtain⟨ρ2,hdf2,gr⟩:=dt;simp only at hdf2 gr;obtain⟨σ,sd,gm⟩:=gm.ent;obtain⟨t3,hw3,hR3⟩:=gm.sat gr
   exact⟨x',⟨hP',t3,hw3,_,hdf2.ren sd,hR3⟩,b4⟩
  | _=>exact⟨C',hq,dt⟩⟩
end
def qev (P:Program) (N:Nat) (C:Conf):ResultVar→Option SV
 | .tmp t=>sval N C.sl (.tmp t)
 | .cell a T=>(match sval N C.sl (.tmp a),tyOf P T with
  |some (.bx b off),some (sz,agg)=>(match hpF C.hp b with
   |some (.cells _ cs)=>qna sz agg off cs
   | _=>none)
  | _,_=>none)
def resV (P:Program) (N:Nat) (C:Conf):List ResultVar→Option SV
 | []=>some (.tu [])
 | [a]=>qev P N C a
 | [a,b]=>(match qev P N C a,qev P N C b with
  |some x,some y=>some (.tu [x,y])
  | _,_=>none)
 | [a,b,c]=>(match qev P N C a,qev P N C b,qev P N C c with
  |some x,some y,some z=>some (.tu [x,y,z])
  | _,_,_=>none)
 | [a,b,c,d]=>(match qev P N C a,qev P N C b,qev P N C c,qev P N C d with
  |some x,some y,some z,some u=>some (.tu [x,y,z,u])
  | _,_,_,_=>none)
 | _=>none
theorem zij {G:Gh} {x y z p:AV} {v u t q:Value} (h1:Rel G x v) (h2:Rel G y u) (h3:Rel G z t) (h4:Rel G p q):Rel G (.tu [x,y,z,p]) (.tuple #[v,u,t,q]):=
 .tu _ _ rfl fun i x' y' hx hy=>by
  match i with
  | 0=>simp at hx hy;subst hx;subst hy;exact h1
  | 1=>simp at hx hy;subst hx;subst hy;exact h2
  | 2=>simp at hx hy;subst hx;subst hy;exact h3
  | 3=>simp at hx hy;subst hx;subst hy;exact h4
  |i+4=>simp at hx
def q3j (r:ResultVar) (tm:Array Value):Sem Value:=
 match r with
 | .tmp t=>pure (tm.getD t undef)
 | .cell a t=>do loadVar t (← asAddr (tm.getD a undef))
theorem qjc (fn:Func) (tm:Array Value):results fn tm=(do
  let vs ← fn.results.mapM fun r=>q3j r tm
  pure (if h:vs.size=1 then vs[0] else .tuple vs)):=by
 unfold results;congr 1
theorem qck {E:Env} {S0:List AObj} {F:Nat→Prop} {C:Conf} {ρ t:Nat→AV} {S:List AObj} {N:Nat} (hR:SatR S0 F C ρ t S) {r:ResultVar} {v:SV} (h:qev E.P N C r=some v) {B0:Nat} {w0:World} {G:Gh} {a:Act} {w:World} (hI:Inv B0 w0 N G ⟨t,S,[]⟩ a w) :
  ∃ u,(q3j r a.tmps).run E.P w = .ok u w∧Rel G (v.ev ρ) u:=by
 cases r with
 |tmp i=>
  simp only [qev] at h;refine⟨a.tmps.getD i undef,rfl,?_⟩;have:=hI.rd i;rw [q9 hR.sl h] at this
  exact this
 |cell i T=>
  simp only [qev] at h;split at h
  ·rename_i b off sz agg hb ht
   split at h
   ·rename_i T' cs hH
    obtain⟨o,ver,h1,h2,_⟩:=hR.hp.ok b _ hH;have he:=hI.rd i;rw [q9 hR.sl hb] at he;simp only [SV.ev,h1,bxAt] at he;generalize hv:a.tmps.getD i undef=y at he
    cases he with
    |bx _ _ _ bl hn r9 bn=>
     obtain⟨_,g1,g2,g3,c,g4,g5,g6⟩:=hI.agree.ob o _ h2;have hb:=bn g1;rw [hb] at g4
     obtain⟨u,a4,hRel⟩:=qbb (w:=w) (G:=G) (b:=bl) (off:=off) (off':=off) ht (fun i x hx hi=>by
      obtain⟨y,hy⟩:=wr hx (Nat.le_of_eq g5);refine⟨y,?_,g6 i x y hx hy⟩
      simp [World.cell?,g4,show off+(i - off)=i by omega,hy]) (qsp ρ h)
     refine⟨u,?_,hRel⟩;simp [q3j,hv,asAddr,a4]
   ·simp at h
  ·simp at h
theorem q6w {E:Env} {S0:List AObj} {F:Nat→Prop} {C:Conf} {ρ t:Nat→AV} {S:List AObj} {fn:Func} (hR:SatR S0 F C ρ t S) {v:SV} (h:resV E.P fn.ntmps C fn.results.toList=some v):ARes E fn ⟨t,S,[]⟩ (v.ev ρ):=by
 refine⟨fun B0 w0 G a w hL hI=>?_⟩
 cases hr:fn.results.toList with
 |nil=>
  rw [hr] at h;simp only [resV,Option.some.injEq] at h;subst h;have hr':fn.results = #[]:=by simpa using hr
  exact (qao hr').run B0 w0 G a w hL hI
 |cons r1 l1=>
  cases l1 with
  |nil=>
   rw [hr] at h;obtain⟨u,h1,h2⟩:=qck hR h hI;have hr':fn.results = #[r1]:=by rw [← Array.toList_inj];exact hr
   refine⟨u,?_,h2⟩;rw [qjc,hr']
   simp [h1]
  |cons r2 l2=>
   cases l2 with
   |nil=>
    rw [hr] at h;simp only [resV] at h;split at h
    ·rename_i x y hx hy
     simp only [Option.some.injEq] at h;subst h;obtain⟨u1,h1,h2⟩:=qck hR hx hI;obtain⟨u2,h3,h4⟩:=qck hR hy hI;have hr':fn.results = #[r1,r2]:=by rw [← Array.toList_inj];exact hr
     refine⟨.tuple #[u1,u2],?_,qf8 h2 h4⟩;rw [qjc,hr'];simp [h1,h3]
    ·simp at h
   |cons r3 l3=>
    cases l3 with
    |nil=>
     rw [hr] at h;simp only [resV] at h;split at h
     ·rename_i x y z hx hy hz
      simp only [Option.some.injEq] at h;subst h;obtain⟨u1,h1,h2⟩:=qck hR hx hI;obtain⟨u2,h3,h4⟩:=qck hR hy hI;obtain⟨u3,h5,h6⟩:=qck hR hz hI;have hr':fn.results = #[r1,r2,r3]:=by rw [← Array.toList_inj];exact hr
      refine⟨.tuple #[u1,u2,u3],?_,qwy h2 h4 h6⟩;rw [qjc,hr'];simp [h1,h3,h5]
     ·simp at h
    |cons r4 l4=>
     cases l4 with
     |nil=>
      rw [hr] at h;simp only [resV] at h;split at h
      ·rename_i x y z p hx hy hz hp
       simp only [Option.some.injEq] at h;subst h;obtain⟨u1,h1,h2⟩:=qck hR hx hI;obtain⟨u2,h3,h4⟩:=qck hR hy hI;obtain⟨u3,h5,h6⟩:=qck hR hz hI;obtain⟨u4,h7,h8⟩:=qck hR hp hI;have hr':fn.results = #[r1,r2,r3,r4]:=by rw [← Array.toList_inj];exact hr
       refine⟨.tuple #[u1,u2,u3,u4],?_,zij h2 h4 h6 h8⟩;rw [qjc,hr'];simp [h1,h3,h5,h7]
      ·simp at h
     |cons r5 l5=>rw [hr] at h;simp [resV] at h
def q8p (P:Program) (ts:List TypeId) (x:AV) (k:AV→Prop):Prop:=
 match ts,x with
 | [t],x=>nrmK P t x k
 |ts,.tu xs=>zipK P ts xs fun l=>k (.tu l)
 | _,x=>k x
theorem zex {P:Program} {ts:List TypeId} {x:AV} {k:AV→Prop} (h:q8p P ts x k):∃ y,Wk x y∧k y:=by
 unfold q8p at h;split at h
 ·exact qwq h
 ·obtain⟨m,h1,h2⟩:=q7b h
  exact⟨_,zgo h1.1 h1.2,h2⟩
 ·exact⟨_,wx _,h⟩
def ansW (P:Program) (fn:Func) (C:Conf) (k:AV→Prop):Prop:=
 match resV P fn.ntmps C fn.results.toList with
 |some v=>(match frz (hpF C.hp) v with
  |some x=>q8p P fn.resultTypes.toList x k
  |none=>False)
 |none=>False
theorem q5v {E:Env} {S0:List AObj} {F:Nat→Prop} {C:Conf} {ρ t:Nat→AV} {S:List AObj} {fn:Func} {k:AV→Prop} (hR:SatR S0 F C ρ t S) (h:ansW E.P fn C k):∃ y,ARes E fn ⟨t,S,[]⟩ y∧k y:=by
 unfold ansW at h;split at h
 ·rename_i v hv
  split at h
  ·rename_i x hx
   obtain⟨y,h1,h2⟩:=zex h;exact⟨y,xu (q6w hR hv) fun G z hz=>h1 G z (qib hR.hp v x hx G z hz),h2⟩
  ·exact h.elim
 ·exact h.elim
def retW (P:Program) (fn:Func) (r0:AV) (e:Exit) (C:Conf):Prop:=
 match e with
 | .normal=>ansW P fn C fun y=>Tl y r0
 | .ret=>ansW P fn C fun y=>Tl y r0
 | _=>False
theorem qd8 {α : Type}:∀ {l:List α} {i0 i:Nat} {v : α},lkS (jt i0 l) i=some v→∃ j,i=i0+j∧l[j]? = some v
 | [],_,_,_,h=>by simp [jt,lkS] at h
 |x::r,i0,i,v,h=>by
  simp only [jt,lkS] at h
  cases hb:Nat.beq i0 i with
  |true=>
   rw [hb] at h;simp only [cond_true,Option.some.injEq] at h;subst h
   exact⟨0,(Nat.eq_of_beq_eq_true hb).symm,rfl⟩
  |false=>
   rw [hb] at h;obtain⟨j,h1,h2⟩:=qd8 h;exact⟨j+1,by omega,by simpa using h2⟩
def numK {α : Type}:Nat→List α→(List (Nat×α)→Prop)→Prop
 | _,[],k=>k []
 |i,x::r,k=>numK (i+1) r fun l=>k ((i,x)::l)
theorem qqk {α : Type}:∀ (l:List α) (i:Nat) (k:List (Nat×α)→Prop),numK i l k=k (jt i l)
 | [],_,_=>rfl
 |x::r,i,k=>by rw [numK,qqk r];rfl
theorem qiv {E:Env} {fn:Func} {R:AV→List AObj→Prop} {S0:List AObj} {F:Nat→Prop} {C:Conf} {ρ t:Nat→AV}:∀ {df:List Nat} {S:List AObj},SatR S0 F C ρ t S→(∀ d∈df,S[d]? = some .dfr∧S0.length≤d)→df.Nodup→(∀ S',SatR S0 F C ρ t S'→ARet E fn R ⟨t,S',[]⟩)→ARet E fn R ⟨t,S,df⟩
 | [],S,hR,_,_,h=>h S hR
 |d::df,S,hR,hm,hn,h=>by
  have hd:=hm d (by simp);have fg:=List.nodup_cons.1 hn;refine qom rfl hd.1 (qiv (hR.dead hd.1 hd.2) (fun x hx=>?_) fg.2 h);have a6:d≠x:=fun e=>fg.1 (e▸hx);simp only;rw [List.getElem?_set_ne a6];exact hm x (List.mem_cons_of_mem _ hx)
theorem zg {E:Env} {f:FuncId} {fn:Func} {c:Code} {args:List AV} {st:List AObj} {r0:AV} (vs:List SV) (hp:Pure r0) (hf:E.P.funcs[f]? = some fn) (hb:fn.body=some c) (hn:Nat.ble args.length fn.ntmps=true) (hv:∀ ρ,SV.evs ρ vs=args) (hc:okC ⟨jt 0 vs,[],0⟩=true)
  (h:∀ S0,numK 0 vs fun sl=>Sm E none fn.ntmps ⟨S0,fun _=>False,fun _=>zp,0,False⟩ c (retW E.P fn r0) ⟨sl,[],0⟩):qo E f args st fun r st'=>r=r0∧st'=st:=by
 simp only [qqk] at h;refine qx hp (qp hf hb (Nat.le_of_ble_eq_true hn) ?_)
 have b7:SatC ⟨st++[],fun _=>False,fun _=>zp,0,False⟩ ⟨jt 0 vs,[],0⟩ ⟨argT args,st++[],[]⟩:=by
  refine⟨fun _=>zp,⟨nofun,List.nodup_nil,fun _ _=>rfl,Nat.le_refl _,nofun⟩,⟨fun d v hd=>?_,⟨fun k r hk=>?_,fun k k' r r' _ hk=>?_⟩,fun k r hk=>?_,fun _ _ _=>rfl,Nat.le_refl _,fun d v hd=>?_,fun k r hk=>?_⟩⟩
  ·obtain⟨j,h1,h2⟩:=qd8 hd
   have:args[j]? = some (v.ev fun _=>zp):=by rw [← hv fun _=>zp,w8,List.getElem?_map,h2];rfl
   rw [h1,Nat.zero_add];simp only [argT,List.getD,this,Option.getD_some]
  ·simp [hpF,lkS] at hk
  ·simp [hpF,lkS] at hk
  ·simp [hpF,lkS] at hk
  ·simp only [okC,Bool.and_eq_true] at hc
   exact List.all_eq_true.1 hc.1 _ (vq hd)
  ·simp [hpF,lkS] at hk
 refine ((h (st++[])).run _ b7).mono fun e s' ⟨C',hq,dt⟩=>?_;obtain⟨t,S,df⟩:=s';obtain⟨ρ,d7,hR⟩:=dt;simp only at d7 hR;have hdm:=d7.dm;have bt:=d7.nd;have hl:=hR.len
 have fin:ansW E.P fn C' (fun y=>Tl y r0)→ARet E fn (fun r st2=>r=r0∧∃ ext,st2=st++ext) ⟨t,S,df⟩:=fun h=>by
  refine qiv hR (fun x hx=>hdm x hx) bt fun S' lw=>?_;obtain⟨y,h1,h2⟩:=q5v lw h;refine qm rfl (xu h1 h2.ok) ⟨rfl,?_⟩;have hl:=lw.len;rw [List.append_nil] at hl
  exact qmw hl fun k hk=>by
   have:=lw.low k (by simpa using hk) (fun h=>h);rw [List.append_nil] at this;exact this
 cases e with
 |normal=>exact fin hq
 |ret=>exact fin hq
 | _=>exact hq.elim
end Go.Av
