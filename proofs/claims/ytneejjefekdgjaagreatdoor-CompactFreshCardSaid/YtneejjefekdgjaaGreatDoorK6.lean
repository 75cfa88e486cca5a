/- Contracts and plain facts that the closing text leans on (part 6). No condition of their own beyond those that each states. -/
import Derived.Test.YtneejjefekdgjaaGreatDoorK5
import Derived.Sort.Row
import Derived.Sort.Grow
set_option maxRecDepth 100000
set_option linter.unusedVariables false
set_option linter.unusedSimpArgs false
namespace Go.Av
open Go Go.RowKit
def cf {α : Type} (L:Nat→Bool):Nat→List (List (Nat×α))→List (Nat×α)→List (Nat×α)
 | _,[],base=>base
 |i,c::r,base=>cf L (i+1) r (bif L i then c++base else base)
def x4 {α : Type} (L:Nat→Bool) (k:Nat):Nat→List (List (Nat×α))→Option α
 | _,[]=>none
 |i,c::r=>match x4 L k (i+1) r with
  |some v=>some v
  |none=>bif L i then lkS c k else none
theorem qem {α : Type} (L:Nat→Bool) (k:Nat):∀ (i:Nat) (chs:List (List (Nat×α))) (base:List (Nat×α)),lkS (cf L i chs base) k=match x4 L k i chs with|some v=>some v|none=>lkS base k
 | _,[],_=>rfl
 |i,c::r,base=>by
  simp only [cf,x4];rw [qem L k (i+1) r]
  cases x4 L k (i+1) r with
  |some v=>rfl
  |none=>
   cases L i with
   |true=>simp only [cond_true];rw [qd7];cases lkS c k <;> rfl
   |false=>rfl
theorem qdm {α : Type} {L L':Nat→Bool} {k:Nat}:∀ {i:Nat} {chs:List (List (Nat×α))},(∀ j c,chs[j]? = some c→lkS c k≠none→L (i+j)=L' (i+j))→x4 L k i chs=x4 L' k i chs
 | _,[],_=>rfl
 |i,c::r,h=>by
  simp only [x4]
  rw [qdm (L:=L) (L':=L') (i:=i+1) (chs:=r) fun j c hc hl=>by
   have:=h (j+1) c (by simpa using hc) hl;rw [show i+1+j=i+(j+1) by omega]
   exact this]
  cases x4 L' k (i+1) r with
  |some v=>rfl
  |none=>
   simp only
   cases hl:lkS c k with
   |none=>cases L i <;> cases L' i <;> rfl
   |some v=>
    have:=h 0 c rfl (by rw [hl];simp);rw [Nat.add_zero] at this;rw [this]
theorem qi6 {α : Type} {L:Nat→Bool} {k:Nat} {v : α}:∀ {i:Nat} {chs:List (List (Nat×α))},x4 L k i chs=some v→∃ j c,chs[j]? = some c∧L (i+j)=true∧lkS c k=some v
 | _,[],h=>by simp [x4] at h
 |i,c::r,h=>by
  simp only [x4] at h
  cases hr:x4 L k (i+1) r with
  |some w=>
   rw [hr] at h;simp only [Option.some.injEq] at h;subst h;obtain⟨j,c',h1,h2,h3⟩:=qi6 hr
   exact⟨j+1,c',by simpa using h1,by rw [show i+(j+1)=i+1+j by omega];exact h2,h3⟩
  |none=>
   rw [hr] at h;simp only at h
   cases hL:L i with
   |true=>rw [hL] at h;exact⟨0,c,rfl,hL,h⟩
   |false=>rw [hL] at h;simp at h
theorem qpb {α : Type} {L:Nat→Bool} {k:Nat}:∀ {i j0:Nat} {chs:List (List (Nat×α))} {c0:List (Nat×α)},chs[j0]? = some c0→(∀ j c,j0<j→chs[j]? = some c→L (i+j)=true→lkS c0 k≠none→lkS c k=none) →
  x4 (addL L (i+j0)) k i chs=match lkS c0 k with|some v=>some v|none=>bif L (i+j0) then x4 (addL L (i+j0)) k i chs else x4 L k i chs
 | _,_,[],_,h,_=>by simp at h
 |i,0,c::r,c0,h,hd=>by
  simp only [List.getElem?_cons_zero,Option.some.injEq] at h;subst h
  have hr:x4 (addL L (i+0)) k (i+1) r=x4 L k (i+1) r:=qdm fun j c _ _=>by
   unfold addL;rw [j9 (by omega),Bool.false_or]
  have ha:addL L (i+0) i=true:=by simp [addL]
  cases hl:lkS c k with
  |some v=>
   have hn:x4 L k (i+1) r=none:=by
    cases hq:x4 L k (i+1) r with
    |none=>rfl
    |some w=>
     obtain⟨j,c',h1,h2,h3⟩:=qi6 hq;have:=hd (j+1) c' (by omega) (by simpa using h1) (by rw [show i+(j+1)=i+1+j by omega];exact h2) (by rw [hl];simp);rw [this] at h3;simp at h3
   simp only [x4,hr,hn,ha,cond_true,hl]
  |none=>
   cases sj:L (i+0) with
   |true=>rfl
   |false=>
    simp only [cond_false,x4,hr,ha,cond_true,hl];rw [Nat.add_zero] at sj;rw [sj]
    cases x4 L k (i+1) r <;> rfl
 |i,j0+1,c::r,c0,h,hd=>by
  have ih:=qpb (L:=L) (k:=k) (i:=i+1) (j0:=j0) (chs:=r) (c0:=c0) (by simpa using h) fun j c hj hc hL hl=>hd (j+1) c (by omega) (by simpa using hc) (by rw [show i+(j+1)=i+1+j by omega];exact hL) hl;rw [show i+1+j0=i+(j0+1) by omega] at ih
  have hi:addL L (i+(j0+1)) i=L i:=by
   unfold addL;rw [j9 (by omega),Bool.false_or]
  cases hl:lkS c0 k with
  |some v=>rw [hl] at ih;simp only [x4,ih]
  |none=>
   rw [hl] at ih;simp only at ih
   cases sj:L (i+(j0+1)) with
   |true=>rfl
   |false=>
    rw [sj] at ih;simp only [cond_false] at ih ⊢;simp only [x4,ih,hi]
theorem ql0 {α : Type}:∀ {L:Nat→Bool} {i:Nat} {chs:List (List (Nat×α))} {base:List (Nat×α)},(∀ j,j<chs.length→L (i+j)=false)→cf L i chs base=base
 | _,_,[],_,_=>rfl
 |L,i,c::r,base,h=>by
  have h0:=h 0 (by simp);rw [Nat.add_zero] at h0;simp only [cf,h0,cond_false]
  exact ql0 fun j hj=>by
   have:=h (j+1) (by simpa using hj);rw [show i+1+j=i+(j+1) by omega];exact this
structure Tr where
 rd:List Nat
 dst:Option Nat
 e:Ef
 nx:Nat
def Tr.sch (t:Tr):List (Nat×SV):=match t.dst with
 |some d=>[(d,t.e.val)]
 |none=>[]
def runT:List Tr→Conf→Conf
 | [],C=>C
 |t::r,C=>runT r (C.app t.dst t.e)
theorem zi7 (C:Conf) (t:Tr):(C.app t.dst t.e).sl=t.sch++C.sl:=by
 unfold Conf.app Tr.sch
 cases t.dst <;> rfl
theorem ql1:∀ (tr:List Tr) (i0 n:Nat) (C:Conf),cf (fun j=>Nat.blt j (i0+n)) i0 (tr.map Tr.sch) C.sl=(runT (tr.take n) C).sl∧cf (fun j=>Nat.blt j (i0+n)) i0 (tr.map fun t=>t.e.ch) C.hp=(runT (tr.take n) C).hp
 | [],_,n,C=>by simp [cf,runT]
 |t::r,i0,0,C=>by
  have hf:∀ {m:Nat} (j:Nat),j<m→Nat.blt (i0+j) (i0+0)=false:=fun j _=>by
   cases hb:Nat.blt (i0+j) (i0+0) with
   |false=>rfl
   |true=>have:=vo hb;omega
  exact⟨ql0 fun j hj=>hf j hj,ql0 fun j hj=>hf j hj⟩
 |t::r,i0,n+1,C=>by
  have hb:Nat.blt i0 (i0+(n+1))=true:=qbw (by omega);have ih:=ql1 r (i0+1) n (C.app t.dst t.e);rw [show i0+1+n=i0+(n+1) by omega] at ih;simp only [List.map_cons,cf,hb,cond_true,List.take_succ_cons,runT];rw [← zi7];exact ih
def wb (ch:List (Nat×Option SR)):List Nat:=ch.map Prod.fst
def qdr (a b:List Nat):Bool:=a.all fun x=> !memN b x
def dstL:Option Nat→List Nat
 |some d=>[d]
 |none=>[]
def indT (a b:Tr):Bool:=
 qdr (dstL a.dst) b.rd && qdr (dstL a.dst) (dstL b.dst) && qdr (dstL b.dst) a.rd &&
 qdr (wb a.e.ch) b.e.ks && qdr (wb a.e.ch) (wb b.e.ch) && qdr (wb b.e.ch) a.e.ks &&
 b.e.val.all (fun k=>Nat.blt k a.nx ||Nat.ble a.e.nx k) && b.e.ch.all (fun q=>(Nat.blt q.1 a.nx ||Nat.ble a.e.nx q.1) && match q.2 with
  |some r=>r.all fun k=>Nat.blt k a.nx ||Nat.ble a.e.nx k
  |none=>true)
def qi8 (o:Oper) (acc:List Nat):Nat:=(qds o).foldl (fun m d=>(m ||| 2 ^ d) |||acc.getD d 0) 0
def ancs:List Oper→List Nat→List Nat
 | [],acc=>acc
 |o::r,acc=>ancs r (acc++[qi8 o acc])
inductive AncR (l:List Oper):Nat→Nat→Prop
 |dep {i j:Nat} {o:Oper} (ho:l[j]? = some o) (hi:i∈qds o):AncR l i j
 |step {i d j:Nat} {o:Oper} (ho:l[j]? = some o) (hd:d∈qds o) (h:AncR l i d):AncR l i j
theorem za6 {l:List Oper} {acc:List Nat} (s6:∀ j i,(acc.getD j 0).testBit i=true→AncR l i j) {o:Oper} {j:Nat} (ho:l[j]? = some o) {i:Nat} (h:(qi8 o acc).testBit i=true):AncR l i j:=by
 unfold qi8 at h
 have key:∀ (ds:List Nat) (m:Nat),(∀ d∈ds,d∈qds o)→(m.testBit i=true→AncR l i j)→(ds.foldl (fun m d=>(m ||| 2 ^ d) |||acc.getD d 0) m).testBit i=true→AncR l i j:=by
  intro ds
  induction ds with
  |nil=>exact fun m _ hm h=>hm h
  |cons d r ih=>
   intro m hd hm h;refine ih ((m ||| 2 ^ d) |||acc.getD d 0) (fun d' s9=>hd d' (by simp [s9])) (fun hb=>?_) h;rw [Nat.testBit_or,Nat.testBit_or,Bool.or_eq_true,Bool.or_eq_true,Nat.testBit_two_pow] at hb;rcases hb with (hb|hb)|hb
   ·exact hm hb
   ·have:d=i:=by simpa using hb
    subst this;exact .dep ho (hd d (by simp))
   ·exact .step ho (hd d (by simp)) (s6 d i hb)
 exact key (qds o) 0 (fun d hd=>hd) (fun h=>by simp at h) h
theorem q0i {l:List Oper}:∀ (r:List Oper) (acc:List Nat),(∀ k o,r[k]? = some o→l[acc.length+k]? = some o)→(∀ j i,(acc.getD j 0).testBit i=true→AncR l i j)→∀ j i,((ancs r acc).getD j 0).testBit i=true→AncR l i j
 | [],acc,_,h=>h
 |o::r,acc,hr,h=>by
  refine q0i r (acc++[qi8 o acc]) (fun k o' hk=>?_) (fun j i hb=>?_)
  ·have:=hr (k+1) o' (by simpa using hk)
   rw [List.length_append];simp only [List.length_cons,List.length_nil];rw [show acc.length+(0+1)+k=acc.length+(k+1) by omega];exact this
  ·by_cases hj:j<acc.length
   ·have e:(acc++[qi8 o acc]).getD j 0=acc.getD j 0:=by simp [List.getD,List.getElem?_append_left hj]
    rw [e] at hb;exact h j i hb
   ·by_cases hj':j=acc.length
    ·subst hj'
     have e:(acc++[qi8 o acc]).getD acc.length 0=qi8 o acc:=by simp [List.getD]
     rw [e] at hb;exact za6 h (by have:=hr 0 o rfl;simpa using this) hb
    ·have e:(acc++[qi8 o acc]).getD j 0=0:=by simp [List.getD,List.getElem?_eq_none (show (acc++[qi8 o acc]).length≤j by simp;omega)]
     rw [e] at hb;simp at hb
def chkR:Nat→Tr→Nat→List Tr→List Nat→Bool
 | _,_,_,[],_=>true
 |i,a,j,b::r,m=>((m.getD j 0).testBit i ||indT a b) && chkR i a (j+1) r m
def chkT:Nat→List Tr→List Nat→Bool
 | _,[],_=>true
 |i,a::r,m=>chkR i a (i+1) r m && chkT (i+1) r m
theorem q05:∀ {i:Nat} {a:Tr} {j0:Nat} {l:List Tr} {m:List Nat},chkR i a j0 l m=true→∀ j b,l[j]? = some b→(m.getD (j0+j) 0).testBit i=true∨indT a b=true
 | _,_,_,[],_,_,j,b,h=>by simp at h
 |i,a,j0,b::r,m,h,j,b',hb=>by
  simp only [chkR,Bool.and_eq_true,Bool.or_eq_true] at h
  cases j with
  |zero=>
   simp only [List.getElem?_cons_zero,Option.some.injEq] at hb;subst hb
   exact h.1
  |succ j=>
   have:=q05 h.2 j b' (by simpa using hb);rw [show j0+(j+1)=j0+1+j by omega];exact this
theorem q06:∀ {i0:Nat} {l:List Tr} {m:List Nat},chkT i0 l m=true→∀ i j a b,i<j→l[i]? = some a→l[j]? = some b→(m.getD (i0+j) 0).testBit (i0+i)=true∨indT a b=true
 | _,[],_,_,_,_,_,_,_,h,_=>by simp at h
 |i0,a::r,m,h,i,j,a',b',pc,ha,hb=>by
  simp only [chkT,Bool.and_eq_true] at h
  cases i with
  |zero=>
   simp only [List.getElem?_cons_zero,Option.some.injEq] at ha;subst ha;obtain⟨j,rfl⟩:∃ j',j=j'+1:=⟨j - 1,by omega⟩;have:=q05 h.1 j b' (by simpa using hb);rw [show i0+(j+1)=i0+1+j by omega,Nat.add_zero]
   exact this
  |succ i=>
   obtain⟨j,rfl⟩:∃ j',j=j'+1:=⟨j - 1,by omega⟩;have:=q06 h.2 i j a' b' (by omega) (by simpa using ha) (by simpa using hb);rw [show i0+(j+1)=i0+1+j by omega,show i0+(i+1)=i0+1+i by omega];exact this
theorem qfw {a b:List Nat} (h:qdr a b=true) {x:Nat} (hx:memN a x=true):memN b x=false:=by
 unfold memN at hx;obtain⟨y,hy,e⟩:=List.any_eq_true.1 hx;have:=Nat.eq_of_beq_eq_true e;subst this
 simpa using List.all_eq_true.1 h _ hy
theorem qph {ch:List (Nat×Option SR)} {k:Nat} (h:lkS ch k≠none):memN (wb ch) k=true:=by
 cases hl:lkS ch k with
 |none=>exact absurd hl h
 |some v=>exact List.any_eq_true.2 ⟨k,List.mem_map.2 ⟨_,vq hl,rfl⟩,by simp⟩
theorem qsr {t:Tr} {d:Nat} (h:lkS t.sch d≠none):memN (dstL t.dst) d=true:=by
 unfold Tr.sch at h
 cases ht:t.dst with
 |none=>rw [ht] at h;simp [lkS] at h
 |some x=>
  rw [ht] at h;simp only [lkS] at h;by_cases e:x=d
  ·subst e;simp [dstL,memN]
  ·rw [j9 e] at h;simp at h
def rs (rd:List Nat) (sl:List (Nat×SV)):List (Nat×SV):=rd.filterMap fun d=>match lkS sl d with
 |some v=>some (d,v)
 |none=>none
theorem zke {rd:List Nat} {sl:List (Nat×SV)} {d:Nat} {v:SV} (h:lkS (rs rd sl) d=some v):memN rd d=true∧lkS sl d=some v:=by
 have:=vq h;unfold rs at this;obtain⟨x,hx,he⟩:=List.mem_filterMap.1 this;split at he
 ·rename_i w hw
  simp only [Option.some.injEq,Prod.mk.injEq] at he;obtain⟨rfl,rfl⟩:=he;exact⟨List.any_eq_true.2 ⟨x,hx,by simp⟩,hw⟩
 ·simp at he
theorem qsq {l:List Nat} {x:Nat} (h:memN l x=true):x∈l:=by
 obtain⟨y,hy,e⟩:=List.any_eq_true.1 h;rw [Nat.eq_of_beq_eq_true e];exact hy
theorem SatR.congr {S0:List AObj} {F:Nat→Prop} {C C':Conf} {ρ t:Nat→AV} {S:List AObj} (h:SatR S0 F C ρ t S) (h1:∀ d,lkS C'.sl d=lkS C.sl d) (h2:hpF C'.hp=hpF C.hp) (h3:C.nx≤C'.nx):SatR S0 F C' ρ t S:=
 ⟨fun d v hd=>h.sl d v (by rw [← h1];exact hd),by rw [h2];exact h.hp,by rw [h2];exact h.own,h.low,h.len,fun d v hd=>all_mono (fun k hk=>qbw (by have:=vo hk;omega)) v (h.wsl d v (by rw [← h1];exact hd)),fun k r hk=>by
  rw [h2] at hk;obtain⟨g1,g2⟩:=h.whp k r hk
  exact⟨by omega,SR.all_mono (fun k hk=>qbw (by have:=vo hk;omega)) r g2⟩⟩
structure q7d (E:Env) (N:Nat) (l:List Oper) (C0:Conf) (tr:List Tr):Prop where
 len:tr.length=l.length
 loc:∀ i o t,l[i]? = some o→tr[i]? = some t→Loc E N l.toArray o t.nx (rs t.rd (runT (tr.take i) C0).sl) (hpF (runT (tr.take i) C0).hp) t.e∧t.e.wf t.nx=true∧t.nx=(runT (tr.take i) C0).nx∧t.dst=o.dst
theorem qme {E:Env} {N:Nat} {l:List Oper} {C0:Conf} {tr:List Tr} (h:q7d E N l C0 tr):∀ {i j:Nat},i≤j→j≤tr.length→(runT (tr.take i) C0).nx≤(runT (tr.take j) C0).nx:=by
 have step:∀ (r:List Tr) (C:Conf) (t:Tr),(runT (r++[t]) C)=(runT r C).app t.dst t.e:=by
  intro r
  induction r with
  |nil=>exact fun C t=>rfl
  |cons a r ih=>exact fun C t=>ih _ t
 intro i j pc
 induction pc with
 |refl=>exact fun _=>Nat.le_refl _
 |step hm ih=>
  rename_i m;intro hj;refine Nat.le_trans (ih (by omega)) ?_;have ht:tr[m]? = some (tr[m]'(by omega)):=List.getElem?_eq_getElem (by omega);have ho:l[m]? = some (l[m]'(by have:=h.len;omega)):=List.getElem?_eq_getElem _;obtain⟨_,h2,h3,_⟩:=h.loc m _ _ ho ht;rw [List.take_succ_eq_append_getElem (by omega),step];have:=(qhg h2).1;rw [h3] at this;exact this
theorem zcd {tr:List Tr} {i:Nat} {t:Tr} (ht:tr[i]? = some t) (C0:Conf):runT (tr.take (i+1)) C0=(runT (tr.take i) C0).app t.dst t.e:=by
 have step:∀ (r:List Tr) (C:Conf) (t:Tr),(runT (r++[t]) C)=(runT r C).app t.dst t.e:=by
  intro r
  induction r with
  |nil=>exact fun C t=>rfl
  |cons a r ih=>exact fun C t=>ih _ t
 obtain⟨hi,e⟩:=List.getElem?_eq_some_iff.1 ht;rw [List.take_succ_eq_append_getElem hi,step,e]
def qqa (l:List Oper) (L:Nat→Bool):Prop:=∀ j o,L j=true→l[j]? = some o→∀ d∈qds o,L d=true
theorem qqa.anc {l:List Oper} {L:Nat→Bool} (h:qqa l L) {i j:Nat} (ha:AncR l i j):L j=true→L i=true:=by
 induction ha with
 |dep ho hi=>exact fun hj=>h _ _ hj ho _ hi
 |step ho hd _ ih=>exact fun hj=>ih (h _ _ hj ho _ hd)
theorem q9x {E:Env} {rd:Option Nat} {N:Nat} {id:Nat} {l:List Oper} {B:Bs} {C0:Conf} {tr:List Tr} {Q:Exit→AS→Prop} {s:AS} (hm:E.P.follows .mixedOrders=true) (bt:l.toArray.all qf4=true) (hd:qh6 0 l=true)
  (hw:q7d E N l C0 tr) (hc:chkT 0 tr (ancs l [])=true) (hs:SatC B C0 s) (hq:∀ s',SatC B (runT tr C0) s'→Q .normal s'):AWp E rd N (.region id l.toArray true) Q s:=by
 have a7:=hw.len
 let NX:=(runT tr C0).nx
 let SC:=tr.map Tr.sch
 let HC:=tr.map fun t:Tr=>t.e.ch
 have hSC:∀ {j:Nat} {c:List (Nat×SV)},SC[j]? = some c→∃ t,tr[j]? = some t∧c=t.sch:=fun {j c} h=>by
  simp only [SC,List.getElem?_map] at h
  cases ht:tr[j]? with
  |none=>rw [ht] at h;simp at h
  |some t=>rw [ht] at h;simp at h;exact⟨t,rfl,h.symm⟩
 have hHC:∀ {j:Nat} {c:List (Nat×Option SR)},HC[j]? = some c→∃ t,tr[j]? = some t∧c=t.e.ch:=fun {j c} h=>by
  simp only [HC,List.getElem?_map] at h
  cases ht:tr[j]? with
  |none=>rw [ht] at h;simp at h
  |some t=>rw [ht] at h;simp at h;exact⟨t,rfl,h.symm⟩
 have rz:∀ {j:Nat} {t:Tr},tr[j]? = some t→∃ o,l[j]? = some o:=fun {j t} h=>⟨_,List.getElem?_eq_getElem (by have:=lt_of_getElem? h;omega)⟩;have d2:tr.take tr.length=tr:=List.take_length
 have r7:∀ {j:Nat} {t:Tr},tr[j]? = some t→t.nx=(runT (tr.take j) C0).nx∧t.e.nx=(runT (tr.take (j+1)) C0).nx:=fun {j t} h=>by
  obtain⟨o,ho⟩:=rz h;refine⟨(hw.loc j o t ho h).2.2.1,?_⟩;rw [zcd h];rfl
 have n9:∀ {i j:Nat} {a b:Tr},i<j→tr[i]? = some a→tr[j]? = some b→a.e.nx≤b.nx:=fun {i j a b} pc ha hb=>by
  rw [(r7 ha).2,(r7 hb).1];exact qme hw (by omega) (by have:=lt_of_getElem? hb;omega)
 have hNX:∀ {j:Nat} {t:Tr},tr[j]? = some t→t.e.nx≤NX:=fun {j t} h=>by
  rw [(r7 h).2];have:=qme hw (i:=j+1) (j:=tr.length) (by have:=lt_of_getElem? h;omega) (Nat.le_refl _);rw [d2] at this;exact this
 have h0nx:∀ {j:Nat} {t:Tr},tr[j]? = some t→C0.nx≤t.nx:=fun {j t} h=>by
  rw [(r7 h).1];exact qme hw (i:=0) (Nat.zero_le j) (by have:=lt_of_getElem? h;omega)
 have hanc:∀ j i,((ancs l []).getD j 0).testBit i=true→AncR l i j:=q0i l [] (fun k o hk=>by simpa using hk) (fun j i h=>by simp [List.getD] at h)
 have pair:∀ {i j:Nat} {a b:Tr},i<j→tr[i]? = some a→tr[j]? = some b→AncR l i j∨indT a b=true:=fun {i j a b} pc ha hb=>by
  have:=q06 hc i j a b pc ha hb;rw [Nat.zero_add,Nat.zero_add] at this;exact this.imp_left fun h=>hanc j i h
 have hb0:B.n0≤C0.nx:=by obtain⟨_,h,_⟩:=hs;exact h.le
 refine q9w hm bt hd (fun L s=>qqa l L∧SatC B ⟨cf L 0 SC C0.sl,cf L 0 HC C0.hp,NX⟩ s) ⟨fun j o h=>by simp at h,?_⟩ ?_ ?_
 ·obtain⟨ρ,d7,hR⟩:=hs
  have hC0:C0.nx≤NX:=by
   have:=qme hw (i:=0) (j:=tr.length) (Nat.zero_le _) (Nat.le_refl _);rw [d2] at this;exact this
  refine⟨ρ,d7.nx (Nat.le_trans d7.le hC0),hR.congr (fun d=>?_) ?_ ?_⟩
  ·rw [ql0 fun _ _=>rfl]
  ·show hpF (cf (fun _=>false) 0 HC C0.hp)=hpF C0.hp
   rw [ql0 fun _ _=>rfl]
  ·have:=qme hw (i:=0) (j:=tr.length) (Nat.zero_le _) (Nat.le_refl _)
   rw [d2] at this;exact this
 ·rintro L s' m8 ⟨_,ρ,d7,hR⟩
  refine hq s' ⟨ρ,d7.nx d7.le,hR.congr (fun d=>?_) ?_ (Nat.le_refl _)⟩
  ·have h1:=(ql1 tr 0 tr.length C0).1
   rw [d2] at h1;rw [← h1];simp only [qem]
   rw [qdm (L:=fun j=>Nat.blt j (0+tr.length)) (L':=L) fun j c hc _=>by
    obtain⟨t,ht,_⟩:=hSC hc;have hj:=lt_of_getElem? ht;rw [m8 (0+j) (by omega)]
    exact qbw (by omega)]
  ·have h1:=(ql1 tr 0 tr.length C0).2
   rw [d2] at h1;rw [← h1];funext k;unfold hpF;simp only [qem]
   rw [qdm (L:=fun j=>Nat.blt j (0+tr.length)) (L':=L) fun j c hc _=>by
    obtain⟨t,ht,_⟩:=hHC hc;have hj:=lt_of_getElem? ht;rw [m8 (0+j) (by omega)]
    exact qbw (by omega)]
 ·-- the steps
  suffices H:∀ (i:Nat) (o:Oper),l[i]? = some o→∀ L s,L i=false→(∀ j,(qds o).contains j=true→L j=true)→(qqa l L∧SatC B ⟨cf L 0 SC C0.sl,cf L 0 HC C0.hp,NX⟩ s) →
    AOps E none N l.toArray [o] (fun s=>qqa l (addL L i)∧SatC B ⟨cf (addL L i) 0 SC C0.sl,cf (addL L i) 0 HC C0.hp,NX⟩ s) s by
   have gen:∀ (r:List Oper) (i0:Nat),(∀ k o,r[k]? = some o→l[i0+k]? = some o)→qof E N l.toArray (fun L s=>qqa l L∧SatC B ⟨cf L 0 SC C0.sl,cf L 0 HC C0.hp,NX⟩ s) i0 r:=by
    intro r
    induction r with
    |nil=>exact fun _ _=>trivial
    |cons o r ih=>
     intro i0 hr;exact⟨H i0 o (by have:=hr 0 o rfl;simpa using this),ih (i0+1) fun k o' hk=>by rw [show i0+1+k=i0+(k+1) by omega];exact hr (k+1) o' (by simpa using hk)⟩
   exact gen l 0 fun k o hk=>by simpa using hk
  rintro i o ho L ⟨t0,S,df⟩ sj tb ⟨tc,ρ,d7,hR⟩;simp only at d7 hR;have db:=lt_of_getElem? ho;obtain⟨t,ht⟩:∃ t,tr[i]? = some t:=⟨_,List.getElem?_eq_getElem (by omega)⟩;obtain⟨hL,hwf,hnxi,hdst⟩:=hw.loc i o t ho ht;obtain⟨w1,w2,w3⟩:=qhg hwf
  -- who has done what, told by the text
  have anc_in:∀ {j:Nat},AncR l j i→L j=true:=fun {j} h=>by
   cases h with
   |dep b6 hi=>
    rw [ho] at b6;simp only [Option.some.injEq] at b6;subst b6
    exact tb j (by simpa using hi)
   |step b6 s9 h'=>
    rw [ho] at b6;simp only [Option.some.injEq] at b6;subst b6;exact tc.anc h' (tb _ (by simpa using s9))
  have not_after:∀ {j:Nat},AncR l i j→L j=false:=fun {j} h=>by
   cases hj:L j with
   |false=>rfl
   |true=>rw [tc.anc h hj] at sj;simp at sj
  have agree:∀ {j:Nat} {b:Tr},tr[j]? = some b→(∀ (t6:j<i),indT b t=true→False)→(∀ (pc:i<j),indT t b=true→False)→L j=Nat.blt j i:=fun {j b} hb h1 h2=>by
   rcases Nat.lt_trichotomy j i with t6|t6|t6
   ·rw [qbw t6]
    rcases pair t6 hb ht with h|h
    ·exact anc_in h
    ·exact (h1 t6 h).elim
   ·subst t6
    rw [sj]
    cases pr:Nat.blt j j with
    |false=>rfl
    |true=>have:=vo pr;omega
   ·have:Nat.blt j i=false:=by
     cases pr:Nat.blt j i with
     |false=>rfl
     |true=>have:=vo pr;omega
    rw [this];rcases pair t6 ht hb with h|h
    ·exact not_after h
    ·exact (h2 t6 h).elim
  have hslA:∀ d,memN t.rd d=true→lkS (cf L 0 SC C0.sl) d=lkS (runT (tr.take i) C0).sl d:=fun d hd=>by
   have h1:=(ql1 tr 0 i C0).1;rw [← h1];simp only [qem]
   rw [qdm (L:=L) (L':=fun j=>Nat.blt j (0+i)) fun j c hc hl=>by
    obtain⟨b,hb,rfl⟩:=hSC hc;have hdm:=qsr hl;rw [Nat.zero_add,Nat.zero_add];refine agree hb (fun t6 h=>?_) (fun pc h=>?_)
    ·simp only [indT,Bool.and_eq_true] at h
     have:=qfw h.1.1.1.1.1.1.1 hdm;rw [hd] at this;simp at this
    ·simp only [indT,Bool.and_eq_true] at h
     have:=qfw h.1.1.1.1.1.2 hdm;rw [hd] at this
     simp at this]
  have mj:resF t.e.ks (hpF (runT (tr.take i) C0).hp)=resF t.e.ks (hpF (cf L 0 HC C0.hp)):=by
   funext k;unfold resF
   cases hk:memN t.e.ks k with
   |false=>rfl
   |true=>
    simp only [cond_true];have h1:=(ql1 tr 0 i C0).2;rw [← h1];unfold hpF;simp only [qem]
    rw [qdm (L:=fun j=>Nat.blt j (0+i)) (L':=L) fun j c hc hl=>by
     obtain⟨b,hb,rfl⟩:=hHC hc;have hdm:=qph hl;rw [Nat.zero_add,Nat.zero_add];refine (agree hb (fun t6 h=>?_) (fun pc h=>?_)).symm
     ·simp only [indT,Bool.and_eq_true] at h
      have:=qfw h.1.1.1.1.2 hdm;rw [hk] at this;simp at this
     ·simp only [indT,Bool.and_eq_true] at h
      have:=qfw h.1.1.2 hdm;rw [hk] at this
      simp at this]
  refine hL _ none _ [] ρ t0 S (fun d v s9=>?_) (by rw [mj];exact hR.hp.res _) fun ρ' S' hp=>qh ⟨fun j o' hj b6 d s9=>?_,ρ',?_,?_⟩
  ·obtain⟨g1,g2⟩:=zke s9
   exact hR.sl d v (by rw [hslA d g1];exact g2)
  ·unfold addL at hj ⊢
   rcases Bool.or_eq_true_iff.1 hj with hj|hj
   ·have:=Nat.eq_of_beq_eq_true hj
    subst this;rw [ho] at b6;simp only [Option.some.injEq] at b6;subst b6;rw [tb d (by simpa using s9),Bool.or_true]
   ·rw [tc j o' hj b6 d s9,Bool.or_true]
  ·have hp2:qhi ρ S t.nx (hpF (cf L 0 HC C0.hp)) t.e ρ' S':=⟨hp.old,by rw [← mj];exact hp.sat,hp.len,by rw [← mj];exact hp.fr,by rw [← mj];exact hp.loc⟩
   have:=d7.stepG (C':=⟨cf (addL L i) 0 SC C0.sl,cf (addL L i) 0 HC C0.hp,NX⟩) hR.hp hp2 (by have:=hb0;have:=h0nx ht;omega) d7.le
   cases o.dst <;> exact this
  ·have hp2:qhi ρ S t.nx (hpF (cf L 0 HC C0.hp)) t.e ρ' S':=⟨hp.old,by rw [← mj];exact hp.sat,hp.len,by rw [← mj];exact hp.fr,by rw [← mj];exact hp.loc⟩
   have old_lt:∀ k,Nat.blt k C0.nx=true→(Nat.blt k t.nx ||Nat.ble t.e.nx k)=true:=fun k hk=>by
    have:=h0nx ht;rw [qbw (by have:=vo hk;omega),Bool.true_or]
   have ear_lt:∀ {j:Nat} {b:Tr},j<i→tr[j]? = some b→∀ k,Nat.blt k b.e.nx=true→(Nat.blt k t.nx ||Nat.ble t.e.nx k)=true:=fun {j b} t6 hb k hk=>by
    have:=n9 t6 hb ht;rw [qbw (by have:=vo hk;omega),Bool.true_or]
   have lat:∀ {j:Nat} {b:Tr},tr[j]? = some b→L j=true→¬ j<i→indT t b=true∧i<j:=fun {j b} hb lv t6=>by
    have pc:i<j:=by
     rcases Nat.lt_trichotomy i j with h|h|h
     ·exact h
     ·subst h;rw [sj] at lv;simp at lv
     ·omega
    rcases pair pc ht hb with h|h
    ·rw [not_after h] at lv;simp at lv
    ·exact⟨h,pc⟩
   have b7:=hR.stepG (d:=o.dst) (nx:=t.nx) (NX:=NX) (Nat.le_refl _) (all_mono (fun k hk=>qbw (by have:=vo hk;have:=hNX ht;omega)) _ w2) (fun q hq'=>⟨by have:=(w3 q hq').1;have:=hNX ht;omega,fun r hr=>SR.all_mono (fun k hk=>qbw (by have:=vo hk;have:=hNX ht;omega)) r ((w3 q hq').2.2 r hr)⟩) (fun d v s9=>?_) (fun k r hk=>?_) hp2
   ·refine SatR.congr (S0:=B.S0) (F:=B.F) (C:=⟨match o.dst with|some d=>(d,t.e.val)::cf L 0 SC C0.sl|none=>cf L 0 SC C0.sl,t.e.ch++cf L 0 HC C0.hp,NX⟩) ?_ (fun d=>?_) ?_ (Nat.le_refl _)
    ·cases hod:o.dst with
     |none=>rw [hod] at b7;exact b7
     |some x=>rw [hod] at b7;exact b7
    ·have hSi:SC[i]? = some t.sch:=by simp only [SC,List.getElem?_map,ht];rfl
     have i9:=qpb (L:=L) (k:=d) (i:=0) (j0:=i) hSi fun j c pc hc lv hl=>by
      obtain⟨b,hb,rfl⟩:=hSC hc;rw [Nat.zero_add] at lv;have h:=(lat hb lv (by omega)).1;simp only [indT,Bool.and_eq_true] at h;have h2:=qfw h.1.1.1.1.1.1.2 (qsr hl)
      cases hq':lkS b.sch d with
      |none=>rfl
      |some w=>
       have:=qsr (t:=b) (d:=d) (by rw [hq'];simp);rw [h2] at this;simp at this
     rw [Nat.zero_add,sj] at i9;simp only [cond_false] at i9
     have e:lkS (match o.dst with|some d=>(d,t.e.val)::cf L 0 SC C0.sl|none=>cf L 0 SC C0.sl) d=lkS (t.sch++cf L 0 SC C0.sl) d:=by
      unfold Tr.sch;rw [hdst]
      cases o.dst <;> rfl
     rw [e,qd7];simp only [qem];rw [i9]
     cases lkS t.sch d <;> rfl
    ·rw [q6b]
     funext k;have hHi:HC[i]? = some t.e.ch:=by simp only [HC,List.getElem?_map,ht];rfl
     have i9:=qpb (L:=L) (k:=k) (i:=0) (j0:=i) hHi fun j c pc hc lv hl=>by
      obtain⟨b,hb,rfl⟩:=hHC hc;rw [Nat.zero_add] at lv;have h:=(lat hb lv (by omega)).1;simp only [indT,Bool.and_eq_true] at h;have h2:=qfw h.1.1.1.2 (qph hl)
      cases hq':lkS b.e.ch k with
      |none=>rfl
      |some w=>
       have:=qph (ch:=b.e.ch) (k:=k) (by rw [hq'];simp);rw [h2] at this;simp at this
     rw [Nat.zero_add,sj] at i9;simp only [cond_false] at i9;unfold chF hpF;simp only [qem];rw [i9]
     cases lkS t.e.ch k <;> rfl
   ·simp only [qem] at s9
    cases g8:x4 L d 0 SC with
    |none=>
     rw [g8] at s9;simp only at s9;obtain⟨ρ0,_,hR0⟩:=hs
     exact all_mono old_lt v (hR0.wsl d v s9)
    |some u=>
     rw [g8] at s9;simp only [Option.some.injEq] at s9;subst s9;obtain⟨j,c,mb,lv,hl⟩:=qi6 g8;obtain⟨b,hb,rfl⟩:=hSC mb;rw [Nat.zero_add] at lv;obtain⟨ob,bg⟩:=rz hb
     have hu:u=b.e.val:=by
      unfold Tr.sch at hl
      cases hbd:b.dst with
      |none=>rw [hbd] at hl;simp [lkS] at hl
      |some x=>
       rw [hbd] at hl;simp only [lkS] at hl
       cases hbx:Nat.beq x d with
       |true=>rw [hbx] at hl;simp only [cond_true,Option.some.injEq] at hl;exact hl.symm
       |false=>rw [hbx] at hl;simp at hl
     subst hu;by_cases t6:j<i
     ·exact all_mono (ear_lt t6 hb) _ (qhg (hw.loc j ob b bg hb).2.1).2.1
     ·have h:=(lat hb lv t6).1
      simp only [indT,Bool.and_eq_true] at h;exact h.1.2
   ·have l9:=xz hk
    simp only [qem] at l9
    cases g8:x4 L k 0 HC with
    |none=>
     rw [g8] at l9;simp only at l9;obtain⟨ρ0,_,hR0⟩:=hs;obtain⟨g1,g2⟩:=hR0.whp k r (by unfold hpF;rw [l9])
     exact⟨.inl (by have:=h0nx ht;omega),SR.all_mono old_lt r g2⟩
    |some u=>
     rw [g8] at l9;simp only [Option.some.injEq] at l9;subst l9;obtain⟨j,c,mb,lv,hl⟩:=qi6 g8;obtain⟨b,hb,rfl⟩:=hHC mb;rw [Nat.zero_add] at lv;obtain⟨ob,bg⟩:=rz hb;obtain⟨g1,_,g3⟩:=(qhg (hw.loc j ob b bg hb).2.1).2.2 _ (vq hl);by_cases t6:j<i
     ·exact⟨.inl (by have:=n9 t6 hb ht;simp only at g1;omega),SR.all_mono (ear_lt t6 hb) r (g3 r rfl)⟩
     ·have h:=(lat hb lv t6).1
      simp only [indT,Bool.and_eq_true] at h;have h2:=List.all_eq_true.1 h.2 _ (vq hl);simp only [Bool.and_eq_true,Bool.or_eq_true] at h2;exact⟨h2.1.imp vo Nat.le_of_ble_eq_true,h2.2⟩
def opTm:Operand→Option Nat
 | .tmp i=>some i
 | _=>none
def rdOf (l:List Oper) (o:Oper):List Nat:=o.op.operands.toList.filterMap opTm++match o.guard with
 |some (j,_)=>dstL (qz2 l j)
 |none=>[]
def wpDr (E:Env) (N:Nat) (l:List Oper) (bxs:List Nat):Nat→List Oper→List Tr→(List Tr→Conf→Prop)→Conf→Prop
 | _,[],tr,K,C=>K tr C
 |i,o::r,tr,K,⟨sl,hp,nx⟩=>opG E N l bxs nx (rs (rdOf l o) sl) (hpF hp) (gdW (isGd i l) (fcE fun e=>qz4 sl hp nx o.dst (wpDr E N l bxs (i+1) r (tr++[⟨rdOf l o,o.dst,e,nx⟩]) K) e)) o
theorem zfu (r:List Tr) (t:Tr):∀ C,runT (r++[t]) C=(runT r C).app t.dst t.e:=by
 induction r with
 |nil=>exact fun C=>rfl
 |cons a r ih=>exact fun C=>ih _
theorem q69 {E:Env} {N:Nat} {l:List Oper} {bxs:List Nat} {C0:Conf} {K:List Tr→Conf→Prop}:∀ {r:List Oper} {i:Nat} {tr:List Tr} {C:Conf},(∀ k,r[k]? = l[i+k]?)→tr.length=i→i+r.length=l.length→C=runT tr C0 →
  (∀ j o t,l[j]? = some o→tr[j]? = some t→Loc E N l.toArray o t.nx (rs t.rd (runT (tr.take j) C0).sl) (hpF (runT (tr.take j) C0).hp) t.e∧t.e.wf t.nx=true∧t.nx=(runT (tr.take j) C0).nx∧t.dst=o.dst) →
  wpDr E N l bxs i r tr K C→∃ tr',q7d E N l C0 tr'∧K tr' (runT tr' C0)
 | [],i,tr,C,hr,hl,hn,hC,hw,h=>⟨tr,⟨by simpa [hl] using hn,hw⟩,by rw [← hC];exact h⟩
 |o::r,i,tr,⟨sl,hp,nx⟩,hr,hl,hn,hC,hw,h=>by
  obtain⟨e,hL,h⟩:=zbj h;obtain⟨e,hL,h⟩:=zau hL h;rw [zar] at h;obtain⟨hwf,h⟩:=q2e h
  ·refine q69 (r:=r) (i:=i+1) (tr:=tr++[⟨rdOf l o,o.dst,e,nx⟩]) (fun k=>?_) (by simp [hl]) (by simp at hn;omega) (by rw [zfu,← hC]) (fun j o' t ho ht=>?_) h
   ·have:=hr (k+1)
    rw [show i+1+k=i+(k+1) by omega,← this];rfl
   ·by_cases hj:j<tr.length
    ·rw [List.getElem?_append_left hj] at ht
     rw [List.take_append_of_le_length (by omega)];exact hw j o' t ho ht
    ·have t6:j=tr.length:=by
      have:=lt_of_getElem? ht;simp at this;omega
     subst t6;simp only [List.getElem?_concat_length,Option.some.injEq] at ht;subst ht;have dr:=hr 0;rw [← hl,Nat.add_zero,ho] at dr;simp only [List.getElem?_cons_zero,Option.some.injEq] at dr;subst dr;rw [List.take_left,← hC];exact⟨hL,hwf,rfl,rfl⟩
def drB (E:Env) (l:List Oper) (tr:List Tr):Bool:=E.P.follows .mixedOrders && l.toArray.all qf4 && qh6 0 l && chkT 0 tr (ancs l [])
structure DrOk (E:Env) (l:List Oper) (tr:List Tr):Prop where
 ok:drB E l tr=true
theorem qb {E:Env} {rd:Option Nat} {N:Nat} {B:Bs} {Q:Exit→Conf→Prop} {C:Conf} {id:Nat} {ops:Array Oper} (bxs:List Nat)
  (h:wpDr E N ops.toList bxs 0 ops.toList [] (fun tr C'=>DrOk E ops.toList tr∧Q .normal C') C):Sm E rd N B (.region id ops true) Q C:=⟨fun s hs=>by
 obtain⟨tr,hw,hb,hq⟩:=q69 (C0:=C) (l:=ops.toList) (i:=0) (tr:=[]) (fun k=>by rw [Nat.zero_add]) rfl (by simp) rfl (fun j o t _ ht=>by simp at ht) h;have hb:=hb.ok;simp only [drB,Bool.and_eq_true] at hb;have e:ops=ops.toList.toArray:=by simp
 rw [e]
 exact q9x hb.1.1.1 hb.1.1.2 hb.1.2 hw hb.2 hs fun s' dt=>⟨_,hq,dt⟩⟩
theorem cSd {P:Prop} (h:P:=by first|exact rfl|exact trivial|exact fun _=>rfl|exact qqs _|exact DrOk.mk (by kernel_rfl)|exact qc2 fun _=>rfl|omega|(simp only [List.length_map,List.length_append,List.length_cons,List.length_nil,List.length_take,List.length_drop];omega)|exact zki):P:=h
theorem exr {α : Type} {A K : α→Prop} {a : α} (k:K a) (h:A a:=by exact rfl):∃ x,A x∧K x:=⟨a,h,k⟩
theorem cpe {E:Env} {H:Nat→Option SR} {nx:Nat} {f:FuncId} {vs:List SV} {args:List AV} {r0:AV} {k:Ef→Prop} (hc:∀ S,qo E f args S fun r S'=>r=r0∧S'=S) (hk:k ⟨nf r0,SV.kss vs,[],nx⟩) (ha:qz0 E.P f (frzs (resF (SV.kss vs) H) vs)=some args:=by exact rfl):∃ e,v4 E f vs nx H e∧k e:=⟨_,zg7 hc ha,hk⟩
end Go.Av
namespace Go.Proofs.YtneejjefekdgjaaGreatDoor
open Go Go.Av Go.RowKit Go.Proofs Go.Pl
def qdb (n0:Nat) (ks:List Nat) (sl:List (Nat×SV)) (hp:List (Nat×Option SR)) (nx:Nat):Bool:=
 sl.all (fun q=>q.2.all fun k=>Nat.blt k n0) && hp.all (fun q=>match q.2 with
  |some (.cells _ _)=>memN ks q.1
  |some (.own _ _ _)=>false
  |some (.obj _)=>memN ks q.1
  |some (.rows _ _ _)=>false
  | _=>true) && Nat.ble n0 nx
def ksIn (n0:Nat) (ks:List Nat) (hp:List (Nat×Option SR)):Bool:=ks.all fun k=>Nat.blt k n0 && match lkS hp k with
 |some (some (.cells _ _))=>true
 |some (some (.obj _))=>true
 | _=>false
structure RB (E:Env) (N:Nat) (F:Nat→Prop) (ρ : Nat→AV) (n0:Nat) (body:Code) (Q:Exit→Conf→Prop) (C:Conf):Prop where
 run:∀ S rd,Sm E rd N ⟨S,F,ρ,n0,False⟩ body Q C
structure RA (E:Env) (N:Nat) (n0:Nat) (asg:Code) (K:(Nat→Prop)→(Nat→AV)→Conf→Prop) (C:Conf):Prop where
 run:∀ S F ρ rd,Sm E rd N ⟨S,F,ρ,n0,True⟩ asg (fun e C1=>match e with
  | .normal=>∀ F',K F' ρ C1
  | _=>False) C
def q7v (Q:Exit→Conf→Prop):Code→Conf→Prop
 | .ret=>Q .ret
 | .exit id=>Q (.exit id)
 | _=>fun _=>False
def qm8 (k:Nat) (text rest:List UInt8):SV:=.ag [.i k,.i ((text.length:Int) - rest.length),.s (upto 10 rest),.p (10∈rest) inferInstance]
theorem zeo (k:Nat) (text rest:List UInt8) (ρ : Nat→AV):(qm8 k text rest).ev ρ = qel k text rest:=rfl
@[reducible] def rndQ {X : Type} (n0 : Nat) (P : X → Prop) (D : Code → X → Prop) (C : X → Conf) (e : Exit) (C2 : Conf) : Prop := match e with
 | .normal=>∃ x,P x∧EntA n0 C2 (C x)
 | .ret=>∃ x,D .ret x∧EntA n0 C2 (C x)
 | .exit id=>∃ x,D (.exit id) x∧EntA n0 C2 (C x)
 | _=>False
section
variable {N : Nat} {B : Bs} {C : Conf} {Q : Exit → Conf → Prop} {rd : Option Nat}
structure RInv (B:Bs) (n0 n:Nat) (ks:List Nat) (ρ1 t:Nat→AV) (df:List Nat) (C:Conf) (S:List AObj):Prop where
 ex:∃ ρ,(∀ k,k<n0→ρ k = ρ1 k)∧SatR B.S0 B.F C ρ t S∧(∀ d∈df,S[d]? = some .dfr)∧n≤S.length
theorem q04 {n0 n:Nat} {ks:List Nat} {ρ1 ρ : Nat→AV} {hp:List (Nat×Option SR)} {sl:List (Nat×SV)} {nx k:Nat} {T:TypeId} {cs:List SV} (gz:∀ k∈ks,k<n0∧∃ o,zq (ρ1 k)=some o∧o<n) (hr:qdb n0 ks sl hp nx=true) (hρ : ∀ k,k<n0→ρ k = ρ1 k) (hk:hpF hp k=some (.cells T cs)):k<n0∧∃ o,zq (ρ k)=some o∧o<n:=by
 have h1:=xz hk;simp only [qdb,Bool.and_eq_true] at hr;have:=List.all_eq_true.1 hr.1.2 _ (vq h1);simp only at this;obtain⟨g1,g2⟩:=gz k (qsq this);refine⟨g1,?_⟩;rw [hρ k g1];exact g2
theorem zbp {n0:Nat} {ks:List Nat} {sl:List (Nat×SV)} {hp:List (Nat×Option SR)} {nx k sz:Nat} {T:TypeId} {xs:List AV} (hr:qdb n0 ks sl hp nx=true) (hk:hpF hp k=some (.own sz T xs)):False:=by
 have h1:=xz hk;simp only [qdb,Bool.and_eq_true] at hr;have:=List.all_eq_true.1 hr.1.2 _ (vq h1);simp at this
theorem zba {n0 n:Nat} {ks:List Nat} {ρ1 ρ : Nat→AV} {hp:List (Nat×Option SR)} {sl:List (Nat×SV)} {nx k:Nat} {P:AObj→AV→Prop} (gz:∀ k∈ks,k<n0∧∃ o,zq (ρ1 k)=some o∧o<n) (hr:qdb n0 ks sl hp nx=true) (hρ : ∀ k,k<n0→ρ k = ρ1 k) (hk:hpF hp k=some (.obj P)):k<n0∧∃ o,zq (ρ k)=some o∧o<n:=by
 have h1:=xz hk;simp only [qdb,Bool.and_eq_true] at hr;have:=List.all_eq_true.1 hr.1.2 _ (vq h1);simp only at this;obtain⟨g1,g2⟩:=gz k (qsq this);refine⟨g1,?_⟩;rw [hρ k g1];exact g2
theorem q6x {n0:Nat} {ks:List Nat} {sl:List (Nat×SV)} {hp:List (Nat×Option SR)} {nx k:Nat} {T2:TypeId} {ys2:List AV} {cs2:List SV} (hr:qdb n0 ks sl hp nx=true) (hk:hpF hp k=some (.rows T2 ys2 cs2)):False:=by
 have h1:=xz hk;simp only [qdb,Bool.and_eq_true] at hr;have:=List.all_eq_true.1 hr.1.2 _ (vq h1);simp at this
theorem RInv.ext {n0 n:Nat} {ks:List Nat} {ρ1 t:Nat→AV} {df:List Nat} {C:Conf} {S S':List AObj} (h:RInv B n0 n ks ρ1 t df C S) (gz:∀ k∈ks,k<n0∧∃ o,zq (ρ1 k)=some o∧o<n) (hr:qdb n0 ks C.sl C.hp C.nx=true) (hB:B.S0.length≤n) (hdn:∀ d∈df,d<n) (hE:Ext n S S'):RInv B n0 n ks ρ1 t df C S':=by
 obtain⟨ρ,hρ,hR,hd,hn⟩:=h.ex;refine⟨ρ,hρ,⟨hR.sl,⟨fun k r hk=>?_,hR.hp.sep⟩,hR.own,fun j hj hF=>?_,Nat.le_trans hR.len hE.len,hR.wsl,hR.whp⟩,fun d dp=>?_,Nat.le_trans hn hE.len⟩
 ·refine SR.ok_of (f:=fun _=>true) (SR.all_mono (fun _ _=>rfl) r (hR.whp k r hk).2) (fun _ _=>rfl) (hR.hp.ok k r hk) fun o ho=>?_
  rcases SR.ok_ct (hR.hp.ok k r hk) ho with⟨T,cs,v,h1,T',cs',rfl⟩ | ⟨m,sz,T,h1⟩ | ⟨sz,T,xs,rfl⟩ | ⟨P1,rfl⟩ | ⟨T2,ys2,cs2,rfl⟩
  rotate_left 2
  ·exact (zbp hr hk).elim
  ·obtain⟨_,o',h2,h3⟩:=zba gz hr hρ hk
   rw [h2] at ho;simp only [Option.some.injEq] at ho;subst ho;exact hE.low _ h3
  ·exact (q6x hr hk).elim
  ·obtain⟨_,o',h2,h3⟩:=q04 gz hr hρ hk
   rw [h2] at ho;simp only [Option.some.injEq] at ho;subst ho;exact hE.low _ h3
  ·exact hE.tips _ _ _ _ h1
 ·rw [hE.low j (by omega)]
  exact hR.low j hj hF
 ·rw [hE.low d (hdn d dp)]
  exact hd d dp
def evY {ι : Type} (Y : ι→Option (SV×ι)) (i : ι):Option (AV×ι):=match Y i with
 |some (v,j)=>some (v.ev fun _=>zp,j)
 |none=>none
theorem qrx {X:Type} {f:Operand} {p:Tmp} {asg body:Code} {g:FuncId} {T:TypeId} {cs:List AV} {ι : Type} {Y : ι→Option (SV×ι)} {i0 : ι} (hit:ItC g T cs (evY Y) i0) (a4:∀ vs w,(callFunc g vs).run E.P w = .ok (.enter g vs) w) (hY:∀ i v j,Y i=some (v,j)→v.all (fun _=>false)=true) (kb n0:Nat) (cv:List SV) (hcv:∀ ρ,SV.evs ρ cv=cs) (ks:List Nat) (I:X→Conf) (sl0:List (Nat×SV)) (P : ι→X→Prop) (D:Code→X→Prop) (x0:X) (h0:P i0 x0)
  (he:EntA B.n0 C (I x0)) (hz:¬ B.dz) (cx:∀ x,(I x).sl=sl0)
  (hf:sval N sl0 f=some (.fn (.func g) [] [.bx kb 0]))
  (hkb:∀ x,lkS (I x).hp kb=some (some (.cells T cv)))
  (hr:∀ x,qdb n0 ks (I x).sl (I x).hp (I x).nx=true) (h0r:(ksIn n0 ks (I x0).hp && Nat.ble B.n0 n0)=true)
  (hb:∀ i x v j,P i x→Y i=some (v,j)→RA E N n0 asg (fun F ρ C1=>RB E N F ρ n0 body (rndQ n0 (P j) D I) C1) ⟨(p,v)::(I x).sl,(I x).hp,(I x).nx⟩)
  (hn:∀ i x,Y i=none→P i x→Q .normal (I x)) (hd:∀ c x,D c x→q7v Q c (I x)):Sm E none N B (.rangeFunc f #[p] asg body) Q C:=⟨fun s hs=>by
 obtain⟨ts,S0,df⟩:=s;obtain⟨ρ0,hF0,hR0⟩:=hs;simp only at hF0 hR0;obtain⟨σ,hrg,he⟩:=he.ent;have hF1:=hF0.ren (C':=I x0) hrg;obtain⟨t,hw,rt⟩:=he.sat hR0;clear hF0 hR0 he hrg;generalize renR σ ρ0 = ρ1 at hF1 rt;refine q0y hw ?_;simp only [Bool.and_eq_true] at h0r;have rq:=Nat.le_of_ble_eq_true h0r.2;have hB:=rt.len
 have gz:∀ k∈ks,k<n0∧∃ o,zq (ρ1 k)=some o∧o<S0.length:=fun k hk=>by
  have:=List.all_eq_true.1 h0r.1 k hk;simp only [Bool.and_eq_true] at this;refine⟨vo this.1,?_⟩;have h2:=this.2;split at h2
  ·rename_i T cs hl
   have s3:hpF (I x0).hp k=some (.cells T cs):=by unfold hpF;rw [hl]
   obtain⟨o,v,h1,h3,rfl⟩:=rt.hp.ok k _ s3;exact⟨o,by rw [h1];rfl,lt_of_getElem? h3⟩
  ·rename_i P hl
   have s3:hpF (I x0).hp k=some (.obj P):=by unfold hpF;rw [hl]
   obtain⟨o,x,h1,h3,_⟩:=rt.hp.ok k _ s3;exact⟨o,h1,lt_of_getElem? h3⟩
  ·simp at h2
 have hdn:∀ d∈df,d<S0.length:=fun d hd=>lt_of_getElem? (hF1.dm d hd).1;have hi0:RInv B n0 S0.length ks ρ1 t df (I x0) S0:=⟨ρ1,fun _ _=>rfl,rt,fun d hd=>(hF1.dm d hd).1,Nat.le_refl _⟩
 have hnm:∀ x,(sl0.all fun q=>q.2.all fun k=>Nat.blt k n0)=true:=fun x=>by
  have:=hr x;simp only [qdb,Bool.and_eq_true,cx] at this;exact this.1.1
 have hnm:=hnm x0
 have slot:∀ {ρ : Nat→AV},(∀ k,k<n0→ρ k = ρ1 k)→SlOk ρ t sl0:=fun {ρ} hρ d v hd=>by
  rw [rt.sl d v (by rw [cx];exact hd)];exact (qc6 (fun k hk=>hρ k (vo hk)) v (List.all_eq_true.1 hnm _ (vq hd))).symm
 have r7:∀ x,n0≤(I x).nx:=fun x=>by
  have:=hr x;simp only [qdb,Bool.and_eq_true] at this;exact Nat.le_of_ble_eq_true this.2
 have hkb1:kb<n0∧∃ o,ρ1 kb = .bx o 0 0∧o<S0.length:=by
  have h1:=hr x0;simp only [qdb,Bool.and_eq_true] at h1;have:=List.all_eq_true.1 h1.1.2 _ (vq (hkb x0));have s3:hpF (I x0).hp kb=some (.cells T cv):=by unfold hpF;rw [hkb x0]
  obtain⟨o,v,h1,h3,rfl⟩:=rt.hp.ok kb _ s3;exact⟨(gz kb (qsq this)).1,o,h1,lt_of_getElem? h3⟩
 obtain⟨hkbn,okb,hokb,hokl⟩:=hkb1;have hfe:=q9 (S:=S0) (df:=df) (slot fun _ _=>rfl) hf;simp only [SV.ev,SV.evs,hokb,bxAt] at hfe
 have out:∀ {x S},RInv B n0 S0.length ks ρ1 t df (I x) S→S[S0.length]? = some .dfr→SatC B (I x) ⟨t,S,S0.length::df⟩:=fun {x S} hi hm=>by
  obtain⟨ρ,hρ,hR,dp,hnS⟩:=hi.ex;refine⟨ρ,⟨fun d hd=>?_,List.nodup_cons.2 ⟨fun h=>Nat.lt_irrefl _ (hdn _ h),hF1.nd⟩,fun k hk=>(hρ k (by omega)).trans (hF1.rig k hk),Nat.le_trans rq (r7 x),fun h=>(hz h).elim⟩,hR⟩;rcases List.mem_cons.1 hd with rfl|hd
  ·exact⟨hm,hB⟩
  ·exact⟨dp d hd,(hF1.dm d hd).2⟩
 refine q0x (S0:=S0) hit rfl hfe a4
  (fun i S=>∃ x,P i x∧RInv B n0 S0.length ks ρ1 t df (I x) S) (fun c S=>∃ x,D c x∧RInv B n0 S0.length ks ρ1 t df (I x) S) ⟨x0,h0,hi0⟩ ?_ ?_ ?_ ?_ ?_ ?_
 ·rintro i S ⟨x,_,hi⟩
  obtain⟨ρ,hρ,hR,_⟩:=hi.ex;have s3:hpF (I x).hp kb=some (.cells T cv):=by unfold hpF;rw [hkb x]
  obtain⟨o,v,h1,h3,rfl⟩:=hR.hp.ok kb _ s3;rw [hρ kb hkbn,hokb] at h1;simp only [AV.bx.injEq] at h1;obtain⟨rfl,_⟩:=h1;rw [hcv] at h3;exact h3
 ·rintro i S S' hE ⟨x,hx,hi⟩
  exact⟨x,hx,hi.ext gz (hr x) hB hdn hE⟩
 ·rintro c S S' hE ⟨x,hx,hi⟩
  exact⟨x,hx,hi.ext gz (hr x) hB hdn hE⟩
 ·rintro F own rd i u j S hF ⟨x,hx,hi⟩ hy fc hm1 tx
  obtain⟨v,hv,hu⟩:∃ v,Y i=some (v,j)∧u=v.ev fun _=>zp:=by
   unfold evY at hy;split at hy
   ·rename_i v j2 hv
    simp only [Option.some.injEq,Prod.mk.injEq] at hy;obtain⟨rfl,rfl⟩:=hy;exact⟨v,hv,rfl⟩
   ·simp at hy
  subst hu;have hva:=hY i v j hv;obtain⟨ρ,hρ,hR,dp,hnS⟩:=hi.ex
  -- what no resource's place is
  have qdr:∀ o y,S[o]? = some y→S0.length≤o→(∀ m sz T,y≠.tip m sz T)→¬ qdu (I x).hp ρ o:=fun o y hy ho hyt ⟨k,r,hk,hl⟩=>by
   rcases SR.ok_ct (hR.hp.ok k r hk) hl with⟨T,cs,v,h1,T',cs',rfl⟩ | ⟨m,sz,T,h1⟩ | ⟨sz,T,xs,rfl⟩ | ⟨P1,rfl⟩ | ⟨T2,ys2,cs2,rfl⟩
   rotate_left 2
   ·exact (zbp (hr x) hk).elim
   ·obtain⟨_,o',h2,h3⟩:=zba gz (hr x) hρ hk
    rw [h2] at hl;simp only [Option.some.injEq] at hl;omega
   ·exact (q6x (hr x) hk).elim
   ·obtain⟨_,o',h2,h3⟩:=q04 gz (hr x) hρ hk
    rw [h2] at hl;simp only [Option.some.injEq] at hl;omega
   ·rw [h1] at hy
    simp only [Option.some.injEq] at hy;exact hyt _ _ _ hy.symm
  have a0:=qdr _ _ fc (by omega) (fun _ _ _=>by simp);have a1:=qdr _ _ hm1 (by omega) (fun _ _ _=>by rw [hF];simp);have a2:=fun k y hk=>qdr _ _ (tx k y hk).1 (by omega) (fun m sz T e=>(tx k y hk).2 m sz T (by rw [e]));have ad:∀ d∈df,¬ qdu (I x).hp ρ d:=fun d hd ⟨k,r,hk,hl⟩=>SR.ok_dfr (hR.hp.ok k r hk) hl (dp d hd);have l2:=lt_of_getElem? hm1
  have s1:=((hb i x v j hx hv).run S (qdu (I x).hp ρ) ρ1 rd).run ⟨put t p (v.ev fun _=>zp),S,[]⟩
   ⟨ρ,⟨nofun,List.nodup_nil,hρ,r7 x,fun _=>rfl⟩,?_⟩
  rotate_left
  ·have i5:=hR.rebase (S':=S) fun _ _=>rfl
   refine⟨fun d v hd=>?_,i5.hp,i5.own,i5.low,i5.len,fun d v hd=>?_,i5.whp⟩
   ·simp only [lkS] at hd
    cases dw:Nat.beq p d with
    |true=>
     rw [dw] at hd;simp only [cond_true,Option.some.injEq] at hd;have e:=Nat.eq_of_beq_eq_true dw;subst e hd;simp only [put];rw [qc6 (f:=fun _=>false) (ρ:=fun _=>zp) (ρ':= ρ) (fun k hk=>by simp at hk) v hva]
     simp
    |false=>
     rw [dw] at hd;have e:d≠p:=fun e=>by subst e;simp at dw
     have:=i5.sl d v hd;simp only [put];rw [show Nat.beq d p=false from j9 e];exact this
   ·simp only [lkS] at hd
    cases dw:Nat.beq p d with
    |true=>
     rw [dw] at hd;simp only [cond_true,Option.some.injEq] at hd;subst hd
     exact all_mono (f:=fun _=>false) (fun k hk=>by simp at hk) v hva
    |false=>
     rw [dw] at hd;exact i5.wsl d _ hd
  refine s1.mono fun e s1 ⟨C1,hq,hs1⟩=>?_
  cases e with
  |normal=>
   obtain⟨ρs,hFs,hRs⟩:=hs1;have hdf1:=hFs.dz trivial;have b1:s1.st[S0.length+1]? = some (F .ready none):=(hRs.low _ (by simp only;omega) a1).trans hm1;refine⟨b1,hdf1,?_⟩;have hq:=(hq (qdu C1.hp ρs)).run (s1.st.set (S0.length+1) (F .busy none)) (some rd)
   have c0:∀ o,o<S.length→¬ qdu (I x).hp ρ o→¬ qdu C1.hp ρs o:=fun o ho hn ⟨k,r,hk,hl⟩=>by
    rcases hRs.own k r hk o hl with h|h
    ·simp only at h
     omega
    ·exact hn h
   have hRb:=hRs.rebase (S':=s1.st.set (S0.length+1) (F .busy none)) fun o ho=>List.getElem?_set_ne fun e=>c0 (S0.length+1) (by omega) a1 (by rw [e];exact ho);refine (hq.run ⟨s1.t,s1.st.set (S0.length+1) (F .busy none),[]⟩ ⟨ρs,⟨nofun,List.nodup_nil,hFs.rig,hFs.le,nofun⟩,hRb⟩).mono fun e s2 ⟨C2,cj,rk⟩=>?_;obtain⟨ρ2,hF2,gr⟩:=rk;have r6:=hRs.len
   have keep:∀ o y,o≠S0.length+1→S[o]? = some y→¬ qdu (I x).hp ρ o→s2.st[o]? = some y:=fun o y a6 hy hn=>by
    have ho:=lt_of_getElem? hy;rw [gr.low o (by simp only [List.length_set];simp only at r6;omega) (c0 o ho hn)];simp only;rw [List.getElem?_set_ne (fun e=>a6 e.symm),hRs.low o ho hn];exact hy
   have k0:=keep _ _ (by omega) fc a0;have k2:∀ k y,own[k]? = some y→s2.st[S0.length+2+k]? = some y:=fun k y hk=>keep _ _ (by omega) (tx k y hk).1 (a2 k y hk)
   have k1:s2.st[S0.length+1]? = some (F .busy none):=by
    rw [gr.low _ (by simp only [List.length_set];simp only at r6;omega) (c0 _ (by omega) a1)];simp only;exact kq b1
   have fin:∀ x',EntA n0 C2 (I x')→RInv B n0 S0.length ks ρ1 t df (I x') s2.st:=fun x' gm=>by
    obtain⟨σ2,hrg2,he2⟩:=gm.ent;have hF3:=hF2.ren (C':=I x') hrg2;obtain⟨t3,_,hR3⟩:=he2.sat gr;have hl3:=hR3.len;simp only [List.length_set] at hl3;simp only at r6;refine⟨_,hF3.rig,⟨by rw [cx];exact slot hF3.rig,hR3.hp,fun k r hk o ho=>?_,fun j hj hnj=>?_,by omega,hR3.wsl,hR3.whp⟩,fun d hd=>?_,by omega⟩
    ·rcases hR3.own k r hk o ho with h | ⟨k',r',h,h'⟩
     ·simp only [List.length_set] at h
      exact .inl (by omega)
     ·rcases hRs.own k' r' h o h' with h | ⟨k2,r2,h2,h3⟩
      ·simp only at h
       exact .inl (by omega)
      ·exact hR.own k2 r2 h2 o h3
    ·have hj0:¬ qdu (I x).hp ρ j:=fun ⟨k',r',h,h'⟩=>by
      rcases hR.own k' r' h j h' with h|h
      ·omega
      ·exact hnj h
     have hjS:j<S.length:=by omega
     rw [← hR.low j hj hnj];obtain⟨y,hy⟩:∃ y,S[j]? = some y:=⟨_,List.getElem?_eq_getElem hjS⟩;rw [hy];exact keep j y (by omega) hy hj0
    ·exact keep d _ (by have:=hdn d hd;omega) (dp d hd) (ad d hd)
   cases e with
   |normal=>
    obtain⟨x',c9,gm⟩:=cj
    exact⟨k0,k1,k2,x',c9,fin x' gm⟩
   |ret=>
    obtain⟨x',c9,gm⟩:=cj
    exact⟨k0,k1,k2,x',c9,fin x' gm⟩
   |exit id=>
    obtain⟨x',c9,gm⟩:=cj
    exact⟨k0,k1,k2,x',c9,fin x' gm⟩
   | _=>exact cj.elim
  | _=>exact hq.elim
 ·rintro i S hy ⟨x,hx,hi⟩ hm
  exact⟨I x,hn i x (by
   unfold evY at hy;split at hy
   ·simp at hy
   ·assumption) hx,out hi hm⟩
 ·rintro c S ⟨x,hx,hi⟩ hm
  have hq:=hd c x hx
  cases c with
  |ret=>exact qt ⟨I x,hq,out hi hm⟩
  |exit id=>exact jd ⟨I x,hq,out hi hm⟩
  | _=>exact hq.elim⟩
theorem qhd {X:Type} {f:Operand} {p:Tmp} {asg body:Code} (text:List UInt8) (kb n0:Nat) (ks:List Nat) (I:X→Conf) (sl0:List (Nat×SV)) (P:Nat→List UInt8→X→Prop) (D:Code→X→Prop) (x0:X) (h0:P 0 text x0)
  (he:EntA B.n0 C (I x0)) (hz:¬ B.dz) (ht:text.length<4294967281) (cx:∀ x,(I x).sl=sl0)
  (hf:sval N sl0 f=some (.fn (.func 121) [] [.bx kb 0]))
  (hkb:∀ x,lkS (I x).hp kb=some (some (.cells 9 [.s text])))
  (hr:∀ x,qdb n0 ks (I x).sl (I x).hp (I x).nx=true) (h0r:(ksIn n0 ks (I x0).hp && Nat.ble B.n0 n0)=true)
  (hb:∀ k rest x,P k rest x→rest≠[]→rest.length≤text.length→RA E N n0 asg (fun F ρ C1=>RB E N F ρ n0 body (rndQ n0 (P (k+1) (past 10 rest)) D I) C1) ⟨(p,qm8 k text rest)::(I x).sl,(I x).hp,(I x).nx⟩)
  (hn:∀ k x,P k [] x→Q .normal (I x)) (hd:∀ c x,D c x→q7v Q c (I x)):Sm E none N B (.rangeFunc f #[p] asg body) Q C:=by
 have hY:evY (fun (q:Nat×List UInt8)=>if q.2=[]∨text.length<q.2.length then none else some (qm8 q.1 text q.2,(q.1+1,past 10 q.2)))=qp2 text:=by
  funext ⟨k,rest⟩;by_cases h:rest=[]∨text.length<rest.length
  ·simp [evY,qp2,h]
  ·simp [evY,qp2,h,zeo]
 refine qrx (Y:=fun (q:Nat×List UInt8)=>if q.2=[]∨text.length<q.2.length then none else some (qm8 q.1 text q.2,(q.1+1,past 10 q.2))) (i0:=(0,text)) (by rw [hY];exact zf0 text ht) Tryz.call121 (fun i v j h=>?_) kb n0 [.s text] (fun _=>rfl) ks I sl0 (fun i x=>P i.1 i.2 x∧i.2.length≤text.length) D x0 ⟨h0,Nat.le_refl _⟩ he hz cx hf hkb hr h0r (fun i x v j hp h=>?_) (fun i x h hp=>?_) hd
 ·split at h
  ·simp at h
  ·simp only [Option.some.injEq,Prod.mk.injEq] at h
   obtain⟨rfl,_⟩:=h;rfl
 ·split at h
  ·simp at h
  ·rename_i a6
   simp only [Option.some.injEq,Prod.mk.injEq] at h;obtain⟨rfl,rfl⟩:=h;have hb:=hb i.1 i.2 x hp.1 (fun e=>a6 (.inl e)) hp.2;have hp2:=va 10 i.2
   exact⟨fun S F ρ rd=>⟨fun s hs=>((hb.run S F ρ rd).run s hs).mono fun e s' ⟨C',hq,dt⟩=>⟨C',by
    cases e with
    |normal=>exact fun F'=>⟨fun S rd=>q3m ((hq F').run S rd) fun e C2 cj=>by
      cases e with
      |normal=>obtain⟨x,h1,h2⟩:=cj;exact⟨x,⟨h1,by simp only;have:=hp.2;omega⟩,h2⟩
      | _=>exact cj⟩
    | _=>exact hq,dt⟩⟩⟩
 ·split at h
  ·rename_i he
   have:i.2=[]:=he.elim id fun h=>by have:=hp.2;omega
   refine hn i.1 x ?_;rw [← this];exact hp.1
  ·simp at h
end
theorem qnr {nx:Nat} {H:Nat→Option SR} (text:qa):v4 E 67 [.s text] nx H ⟨.fn (.func 121) [] [.bx nx 0],[],[(nx,some (.cells 9 [.s text]))],nx+1⟩:=fun ρ S hS=>by
 refine (qw2 text S _ S.length rfl rfl).mono fun r S' ⟨hr,hs⟩=>⟨upd ρ nx (.bx S.length 0 0),?_,?_⟩
 ·rw [hr]
  simp only [SV.ev,SV.evs,vb,bxAt]
 ·subst hs
  have key:∀ k r',chF [(nx,some (SR.cells 9 [.s text]))] (resF [] H) k=some r'→k=nx∧r' = .cells 9 [.s text]:=fun k r' hk=>by
   simp only [chF,lkS] at hk
   cases hb:Nat.beq nx k with
   |true=>
    rw [hb] at hk;simp only [cond_true,Option.some.injEq] at hk
    exact⟨(Nat.eq_of_beq_eq_true hb).symm,hk.symm⟩
   |false=>
    rw [hb] at hk;simp [resF,memN] at hk
  refine⟨fun k hk=>y0 _ _ (by simp only at hk;omega),⟨fun k r hk=>?_,fun k k' r r' a6 h1 h2=>?_⟩,by simp,fun j hj _=>List.getElem?_append_left hj,fun k r hk o ho=>?_⟩
  ·obtain⟨rfl,rfl⟩:=key _ _ hk
   exact⟨S.length,0,vb _ _ _,by simp [SV.evs,SV.ev],rfl⟩
  ·obtain⟨rfl,_⟩:=key _ _ h1
   obtain⟨rfl,_⟩:=key _ _ h2;exact absurd rfl a6
  ·obtain⟨rfl,_⟩:=key _ _ hk
   rw [vb] at ho;simp only [zq,Option.some.injEq] at ho;subst ho;exact .inl (Nat.le_refl _)
end Go.Proofs.YtneejjefekdgjaaGreatDoor
namespace Go.Av
open Go Go.RowKit
def ww (hp:List (Nat×Option SR)):List (Nat×Option SR):=hp.map fun q=>(q.1,none)
def retS (P:Program) (fn:Func) (nx0:Nat) (r:SV) (o0:List (Nat×Option SR)) (nx1:Nat) (e:Exit) (C:Conf):Prop:=
 match e with
 | .normal=>(match resV P fn.ntmps C fn.results.toList with
  |some v=>v.all (fun k=>Nat.blt k C.nx)=true∧EntA nx0 ⟨[(0,v)],C.hp,C.nx⟩ ⟨[(0,r)],o0,nx1⟩
  |none=>False)
 | .ret=>(match resV P fn.ntmps C fn.results.toList with
  |some v=>v.all (fun k=>Nat.blt k C.nx)=true∧EntA nx0 ⟨[(0,v)],C.hp,C.nx⟩ ⟨[(0,r)],o0,nx1⟩
  |none=>False)
 | _=>False
theorem q8l {hp:List (Nat×Option SR)} {k:Nat} {r:SR} (h:hpF hp k=some r):memN (wb hp) k=true:=by
 have:=vq (xz h);exact List.any_eq_true.2 ⟨k,List.mem_map.2 ⟨_,this,rfl⟩,by simp⟩
theorem x5 (hp:List (Nat×Option SR)):resF (wb hp) (hpF hp)=hpF hp:=by
 funext k;unfold resF
 cases h:memN (wb hp) k with
 |true=>rfl
 |false=>
  cases h2:hpF hp k with
  |none=>rfl
  |some r=>rw [q8l h2] at h;simp at h
theorem qyk:∀ (hp:List (Nat×Option SR)) (k:Nat),lkS (ww hp) k=none∧lkS hp k=none∨lkS (ww hp) k=some none
 | [],_=>.inl ⟨rfl,rfl⟩
 |(i,x)::r,k=>by
  simp only [ww,List.map_cons,lkS]
  cases hb:Nat.beq i k with
  |true=>exact .inr rfl
  |false=>exact qyk r k
theorem qg4 (r8 o0:List (Nat×Option SR)):chF (o0++ww r8) (hpF r8)=hpF o0:=by
 funext k;unfold chF;rw [qd7];unfold hpF
 cases h:lkS o0 k with
 |some r=>rfl
 |none=>
  simp only;rcases qyk r8 k with⟨h1,h2⟩|h1
  ·rw [h1,h2]
  ·rw [h1]
theorem yj {E:Env} {f:FuncId} {fn:Func} {c:Code} (vs:List SV) (r8:List (Nat×Option SR)) (nx0:Nat) (r:SV) (o0:List (Nat×Option SR)) (nx1:Nat) (hf:E.P.funcs[f]? = some fn) (hb:fn.body=some c) (hn:Nat.ble vs.length fn.ntmps=true)
  (hc:okC ⟨jt 0 vs,r8,nx0⟩=true) (hc1:okC ⟨[(0,r)],o0,nx1⟩=true)
  (h:∀ S F ρ,numK 0 vs fun sl=>Sm E none fn.ntmps ⟨S,F,ρ,nx0,False⟩ c (retS E.P fn nx0 r o0 nx1) ⟨sl,r8,nx0⟩):v4 E f vs nx0 (hpF r8) ⟨r,wb r8,o0++ww r8,nx1⟩:=fun ρ S hS=>by
 simp only [qqk] at h;simp only [x5] at hS;have a7:(SV.evs ρ vs).length=vs.length:=by rw [w8,List.length_map]
 refine qp hf hb (by rw [a7];exact Nat.le_of_ble_eq_true hn) ?_;rw [List.append_nil];simp only [okC,Bool.and_eq_true] at hc hc1
 have hwhp:∀ k r,hpF r8 k=some r→k<nx0∧r.all (fun k=>Nat.blt k nx0)=true:=fun k r hk=>by
  have:=List.all_eq_true.1 hc.2 _ (vq (xz hk));simp only [Bool.and_eq_true] at this;exact⟨vo this.1,this.2⟩
 have b7:SatC ⟨S,qdu r8 ρ,ρ,nx0,False⟩ ⟨jt 0 vs,r8,nx0⟩ ⟨argT (SV.evs ρ vs),S,[]⟩:=by
  refine⟨ρ,⟨nofun,List.nodup_nil,fun _ _=>rfl,Nat.le_refl _,nofun⟩,⟨fun d v hd=>?_,hS,fun k r hk o ho=>.inr ⟨k,r,hk,ho⟩,fun _ _ _=>rfl,Nat.le_refl _,fun d v hd=>?_,hwhp⟩⟩
  ·obtain⟨j,h1,h2⟩:=qd8 hd
   have:(SV.evs ρ vs)[j]? = some (v.ev ρ):=by rw [w8,List.getElem?_map,h2];rfl
   rw [h1,Nat.zero_add];simp only [argT,List.getD,this,Option.getD_some]
  ·exact List.all_eq_true.1 hc.1 _ (vq hd)
 refine ((h S (qdu r8 ρ) ρ).run _ b7).mono fun e s' ⟨C',hq,dt⟩=>?_;obtain⟨t,S',df⟩:=s';obtain⟨ρ2,d7,hR⟩:=dt;simp only at d7 hR
 have fin:(match resV E.P fn.ntmps C' fn.results.toList with
  |some v=>v.all (fun k=>Nat.blt k C'.nx)=true∧EntA nx0 ⟨[(0,v)],C'.hp,C'.nx⟩ ⟨[(0,r)],o0,nx1⟩
  |none=>False)→ARet E fn (fun r' S'=>∃ ρ',r'=r.ev ρ'∧qhi ρ S nx0 (hpF r8) ⟨r,wb r8,o0++ww r8,nx1⟩ ρ' S') ⟨t,S',df⟩:=fun h=>by
  split at h
  ·rename_i v hv
   obtain⟨hva,he⟩:=h;obtain⟨σ,hrg,he⟩:=he.ent;refine qiv hR d7.dm d7.nd fun S2 gr=>?_
   have hR3:SatR S (qdu r8 ρ) ⟨[(0,v)],C'.hp,C'.nx⟩ ρ2 (fun _=>v.ev ρ2) S2:=
    ⟨fun d u hd=>by
     simp only [lkS] at hd
     cases hb:Nat.beq 0 d with
     |true=>rw [hb] at hd;simp only [cond_true,Option.some.injEq] at hd;rw [hd]
     |false=>rw [hb] at hd;simp [lkS] at hd,gr.hp,gr.own,gr.low,gr.len,fun d u hd=>by
     simp only [lkS] at hd
     cases hb:Nat.beq 0 d with
     |true=>rw [hb] at hd;simp only [cond_true,Option.some.injEq] at hd;rw [← hd];exact hva
     |false=>rw [hb] at hd;simp [lkS] at hd,gr.whp⟩
   obtain⟨t',hw,hR4⟩:=he.sat hR3
   have hrig:∀ k,k<nx0→renR σ ρ2 k = ρ k:=fun k hk=>by
    simp only [Bool.and_eq_true] at hrg;unfold renR;rw [qsw hrg.1 k hk];exact d7.rig k hk
   have hrn:nx0≤nx1:=by
    simp only [Bool.and_eq_true] at hrg;exact Nat.le_of_ble_eq_true hrg.2
   generalize renR σ ρ2 = ρ3 at hR4 hrig;have h0:t' 0=r.ev ρ3:=hR4.sl 0 r rfl;have hwk:=hw 0;rw [h0] at hwk
   let ρ':Nat→AV:=fun k=>bif Nat.ble nx1 k then ρ k else ρ3 k
   have hρ':∀ k,Nat.blt k nx1=true→ρ' k = ρ3 k:=fun k hk=>by
    show (bif Nat.ble nx1 k then ρ k else ρ3 k)=_
    have:Nat.ble nx1 k=false:=by
     cases hb:Nat.ble nx1 k with
     |false=>rfl
     |true=>have:=Nat.le_of_ble_eq_true hb;have:=vo hk;omega
    rw [this];rfl
   have hra:r.all (fun k=>Nat.blt k nx1)=true:=List.all_eq_true.1 hc1.1 (0,r) (by simp);have pb:r.ev ρ'=r.ev ρ3:=qc6 hρ' r hra;refine qm rfl (xu (q6w gr hv) hwk) ⟨ρ',pb.symm,?_⟩
   have hwh:∀ k r,hpF o0 k=some r→ρ' k = ρ3 k∧r.all (fun k=>Nat.blt k nx1)=true:=fun k r hk=>by
    obtain⟨g1,g2⟩:=hR4.whp k r hk;exact⟨hρ' k (qbw g1),g2⟩
   refine⟨fun k hk=>?_,?_,hR4.len,fun j hj hn=>?_,fun k r hk o ho=>?_⟩
   ·show (bif Nat.ble nx1 k then ρ k else ρ3 k)=_
    cases hb:Nat.ble nx1 k with
    |true=>rfl
    |false=>
     rcases hk with hk|hk
     ·exact hrig k hk
     ·have:=Nat.ble_eq_true_of_le hk
      simp only at this;rw [this] at hb;simp at hb
   ·simp only [x5,qg4]
    refine⟨fun k r hk=>?_,fun k k' r r' a6 h1 h2 o ho=>?_⟩
    ·obtain⟨g1,g2⟩:=hwh k r hk
     rw [g1];exact SR.ok_of g2 hρ' (hR4.hp.ok k r hk) fun _ _=>rfl
    ·rw [(hwh k r h1).1] at ho
     rw [(hwh k' r' h2).1];exact hR4.hp.sep k k' r r' a6 h1 h2 o ho
   ·simp only [x5] at hn
    exact hR4.low j hj fun ⟨k,r,hk,hl⟩=>hn k r hk hl
   ·simp only [x5,qg4] at hk ⊢
    rw [(hwh k r hk).1] at ho;exact hR4.own k r hk o ho
  ·exact h.elim
 cases e with
 |normal=>exact fin hq
 |ret=>exact fin hq
 | _=>exact hq.elim
def newN:Nat→Nat→Nat→List (Nat×Nat)
 | _,_,0=>[]
 |a,b,m+1=>(a,b)::newN (a+1) (b+1) m
theorem q2d:∀ (m a b k:Nat),lkS (newN a b m) k=if a≤k∧k<a+m then some (b+(k - a)) else none
 | 0,a,b,k=>by rw [if_neg (by omega)];rfl
 |m+1,a,b,k=>by
  simp only [newN,lkS];by_cases h:a=k
  ·subst h
   simp
  ·rw [j9 h,q2d m]
   simp only [cond_false];by_cases h2:a+1≤k∧k<a+1+m
   ·rw [if_pos h2,if_pos (by omega)]
    congr 1;omega
   ·rw [if_neg h2,if_neg (by omega)]
def nmOf (σ : List (Nat×Nat)) (k:Nat):Nat:=match lkS σ k with
 |some j=>j
 |none=>0
def SR.ren (σ : List (Nat×Nat)):SR→SR
 | .cells T cs=>.cells T (SV.rens σ cs)
 | .tip sz T xs=>.tip sz T xs
 | .own sz T xs=>.own sz T xs
 | .obj P=>.obj P
 | .rows T ys cs=>.rows T ys (SV.rens σ cs)
def renO (σ : List (Nat×Nat)):Option SR→Option SR
 |some r=>some (r.ren σ)
 |none=>none
def renH (σ : List (Nat×Nat)):List (Nat×Option SR)→List (Nat×Option SR)
 | []=>[]
 |(k,r)::l=>(nmOf σ k,renO σ r)::renH σ l
def fltH (ks:List Nat):List (Nat×Option SR)→List (Nat×Option SR)
 | []=>[]
 |(k,r)::l=>bif memN ks k then (k,r)::fltH ks l else fltH ks l
def outH (ks:List Nat):List (Nat×Option SR):=ks.map fun k=>(k,none)
def qty:List Nat→Bool
 | []=>true
 |k::r=> !memN r k && qty r
theorem q6g (ks:List Nat):∀ (hp:List (Nat×Option SR)) (k:Nat),lkS (fltH ks hp) k=bif memN ks k then lkS hp k else none
 | [],k=>by simp only [fltH,lkS];cases memN ks k <;> rfl
 |(i,r)::l,k=>by
  have ih:=q6g ks l k;simp only [fltH];by_cases e:i=k
  ·subst e
   cases hm:memN ks i with
   |true=>simp [lkS]
   |false=>rw [hm] at ih;simp only [cond_false] at ih ⊢;exact ih
  ·cases hm:memN ks i with
   |true=>simp only [cond_true,lkS,j9 e,cond_false];exact ih
   |false=>simp only [cond_false,lkS,j9 e];exact ih
theorem q6c (ks:List Nat) (hp:List (Nat×Option SR)):hpF (fltH ks hp)=resF ks (hpF hp):=by
 funext k;unfold hpF resF;rw [q6g]
 cases memN ks k <;> rfl
theorem q6i {σ : List (Nat×Nat)}:∀ {hp:List (Nat×Option SR)} {j:Nat} {rr:SR},lkS (renH σ hp) j=some (some rr)→∃ k r,(k,some r)∈hp∧nmOf σ k=j∧rr=r.ren σ
 | [],j,rr,h=>by simp [renH,lkS] at h
 |(k,r)::l,j,rr,h=>by
  simp only [renH,lkS] at h
  cases hb:Nat.beq (nmOf σ k) j with
  |true=>
   rw [hb] at h;simp only [cond_true,Option.some.injEq] at h
   cases r with
   |none=>simp [renO] at h
   |some r=>
    simp only [renO,Option.some.injEq] at h
    exact⟨k,r,by simp,Nat.eq_of_beq_eq_true hb,h.symm⟩
  |false=>
   rw [hb] at h;obtain⟨k',r',h1,h2,h3⟩:=q6i h;exact⟨k',r',List.mem_cons_of_mem _ h1,h2,h3⟩
theorem qxx:∀ {hp:List (Nat×Option SR)} {k:Nat} {r:SR},qty (wb hp)=true→(k,some r)∈hp→hpF hp k=some r
 | [],k,r,_,h=>by simp at h
 |(i,x)::l,k,r,hd,h=>by
  simp only [wb,List.map_cons,qty,Bool.and_eq_true] at hd;unfold hpF;simp only [lkS];rcases List.mem_cons.1 h with e|e
  ·simp only [Prod.mk.injEq] at e
   obtain⟨rfl,rfl⟩:=e;simp
  ·have a6:i≠k:=fun e'=>by
    subst e';have:memN (List.map Prod.fst l) i=true:=List.any_eq_true.2 ⟨i,List.mem_map.2 ⟨_,e,rfl⟩,by simp⟩;rw [this] at hd;simp at hd
   rw [j9 a6];exact qxx hd.2 e
theorem q6h:∀ (ks:List Nat) (j:Nat),lkS (outH ks) j=bif memN ks j then some none else none
 | [],j=>rfl
 |k::r,j=>by
  have ih:=q6h r j;simp only [outH,List.map_cons,lkS,memN,List.any_cons];by_cases e:k=j
  ·subst e;simp
  ·rw [j9 e,j9 (fun h=>e h.symm)]
   exact ih
theorem q2j {α : Type}:∀ {l:List α} {i0 i:Nat} {v : α},l[i]? = some v→lkS (jt i0 l) (i0+i)=some v
 | [],_,_,_,h=>by simp at h
 |x::r,i0,0,v,h=>by
  simp only [List.getElem?_cons_zero,Option.some.injEq] at h;subst h
  simp [jt,lkS]
 |x::r,i0,i+1,v,h=>by
  simp only [jt,lkS];rw [j9 (by omega),show i0+(i+1)=i0+1+i by omega];exact q2j (by simpa using h)
theorem zjf {E:Env} {f:FuncId} {vs0:List SV} {r8:List (Nat×Option SR)} {nx0:Nat} {r:SV} {o0:List (Nat×Option SR)} {nx1:Nat} (h:v4 E f vs0 nx0 (hpF r8) ⟨r,wb r8,o0++ww r8,nx1⟩)
  (σ : List (Nat×Nat)) {mw:List (Nat×Option SR)} {vs:List SV} {nx:Nat} (hl:vs.length=vs0.length) (hc:okC ⟨jt 0 vs,fltH (σ.map Prod.snd) mw,nx⟩=true)
  (he:EntC σ ⟨jt 0 vs,fltH (σ.map Prod.snd) mw,nx⟩ ⟨jt 0 vs0,r8,nx0⟩) (hc1:okC ⟨[(0,r)],o0,nx1⟩=true)
  (hk:(qty (wb o0) && o0.all (fun q=>(lkS (newN nx0 nx (nx1 - nx0) ++ σ) q.1).isSome) && σ.all (fun q=>Nat.blt q.1 nx0 && Nat.blt q.2 nx) && Nat.ble nx0 nx1)=true) :
  v4 E f vs nx (hpF mw) ⟨r.ren (newN nx0 nx (nx1 - nx0) ++ σ),σ.map Prod.snd,renH (newN nx0 nx (nx1 - nx0) ++ σ) o0++outH (σ.map Prod.snd),nx+(nx1 - nx0)⟩:=fun ρ S hS=>by
 simp only at hS;simp only [Bool.and_eq_true] at hk;obtain⟨⟨⟨hd,hsm⟩,hσ⟩,hn⟩:=hk;have hn:=Nat.le_of_ble_eq_true hn;simp only [okC,Bool.and_eq_true] at hc hc1;generalize gz : σ.map Prod.snd=ks at hS hc he ⊢;obtain⟨m,hm⟩:∃ m,m=nx1 - nx0:=⟨_,rfl⟩;rw [← hm] at hsm ⊢
 have hR:SatR S (qdu (fltH ks mw) ρ) ⟨jt 0 vs,fltH ks mw,nx⟩ ρ (argT (SV.evs ρ vs)) S:=by
  refine⟨fun d v hd=>?_,by simp only [q6c];exact hS,fun k r hk o ho=>.inr ⟨k,r,hk,ho⟩,fun _ _ _=>rfl,Nat.le_refl _,fun d v hd=>List.all_eq_true.1 hc.1 _ (vq hd),fun k r hk=>?_⟩
  ·obtain⟨j,h1,h2⟩:=qd8 hd
   have:(SV.evs ρ vs)[j]? = some (v.ev ρ):=by rw [w8,List.getElem?_map,h2];rfl
   rw [h1,Nat.zero_add];simp only [argT,List.getD,this,Option.getD_some]
  ·have:=List.all_eq_true.1 hc.2 _ (vq (xz hk))
   simp only [Bool.and_eq_true] at this;exact⟨vo this.1,this.2⟩
 obtain⟨t',hw,lw⟩:=he.sat hR;have hrc:∀ k j,lkS σ k=some j→renR σ ρ k = ρ j:=fun k j e=>by unfold renR;rw [e]
 have hrn:∀ k,lkS σ k=none→renR σ ρ k=zp:=fun k e=>by unfold renR;rw [e]
 -- where a canonical resource lies
 have foot:∀ k r,hpF r8 k=some r→∀ o,zq (renR σ ρ k)=some o→∃ j r',resF ks (hpF mw) j=some r'∧zq (ρ j)=some o:=fun k r hk o ho=>by
  have hE:=qg7 he.2.1 (xz hk);simp only [q6c] at hE;unfold entR at hE
  cases hl:lkS σ k with
  |none=>
   rw [hrn k hl] at ho
   simp [zq] at ho
  |some j=>
   rw [hrc k j hl] at ho;rw [hl] at hE
   cases hj:resF ks (hpF mw) j with
   |none=>cases r <;> (simp only [hj] at hE)
   |some r'=>exact⟨j,r',hj,ho⟩
 have hS0:SatF S (renR σ ρ) (hpF r8):=lw.hp;refine q0c (ys:=SV.evs (renR σ ρ) vs0) (by simp [w8,hl]) (fun i x y hx hy=>?_) ((h (renR σ ρ) S (by simp only [x5];exact hS0)).mono fun r' S' ⟨ρc,hr,hp⟩=>?_)
 ·have h1:=hw i
  simp only [w8,List.getElem?_map] at hy hx
  cases hv:vs0[i]? with
  |none=>rw [hv] at hy;simp at hy
  |some v=>
   rw [hv] at hy;simp only [Option.map_some,Option.some.injEq] at hy;have h2:=lw.sl i v (by have:=q2j (i0:=0) hv;rwa [Nat.zero_add] at this);rw [h2,hy] at h1;have:argT (SV.evs ρ vs) i=x:=by simp only [argT,List.getD,w8,List.getElem?_map,hx,Option.getD_some]
   rw [this] at h1;exact h1
 ·let ρ':Nat→AV:=fun j=>bif Nat.ble nx j && Nat.blt j (nx+m) then ρc (nx0+(j - nx)) else ρ j
  have d1:∀ j,(j<nx∨nx+m≤j)→ρ' j = ρ j:=fun j hj=>by
   show (bif Nat.ble nx j && Nat.blt j (nx+m) then ρc (nx0+(j - nx)) else ρ j) = ρ j
   have:(Nat.ble nx j && Nat.blt j (nx+m))=false:=by
    cases hb:(Nat.ble nx j && Nat.blt j (nx+m)) with
    |false=>rfl
    |true=>
     simp only [Bool.and_eq_true] at hb;have h1:=Nat.le_of_ble_eq_true hb.1;have h2:=vo hb.2;omega
   rw [this];rfl
  have i4:∀ i,i<m→ρ' (nx+i) = ρc (nx0+i):=fun i hi=>by
   show (bif Nat.ble nx (nx+i) && Nat.blt (nx+i) (nx+m) then ρc (nx0+(nx+i - nx)) else ρ (nx+i))=_
   have h1:Nat.ble nx (nx+i)=true:=Nat.ble_eq_true_of_le (by omega);have h2:Nat.blt (nx+i) (nx+m)=true:=qbw (by omega);rw [h1,h2,show nx+i - nx=i by omega];rfl
  have hσj:∀ k j,lkS σ k=some j→k<nx0∧j<nx:=fun k j e=>by
   have:=List.all_eq_true.1 hσ _ (vq e);simp only [Bool.and_eq_true] at this;exact⟨vo this.1,vo this.2⟩
  have hro:∀ k,k<nx0→ρc k=renR σ ρ k:=fun k hk=>hp.old k (.inl hk)
  have key:∀ k,k<nx1→renR (newN nx0 nx m ++ σ) ρ' k = ρc k:=fun k hk=>by
   have e:renR (newN nx0 nx m ++ σ) ρ' k=match lkS (newN nx0 nx m ++ σ) k with|some j=> ρ' j|none=>zp:=rfl
   rw [e,qd7,q2d];by_cases b8:nx0≤k
   ·rw [if_pos ⟨b8,by omega⟩]
    simp only;rw [i4 _ (by omega),show nx0+(k - nx0)=k by omega]
   ·rw [if_neg (by omega),hro k (by omega)]
    simp only
    cases hl:lkS σ k with
    |none=>rw [hrn k hl]
    |some j=>
     rw [hrc k j hl];exact d1 j (.inl (hσj k j hl).2)
  have keyj:∀ k,k<nx1→(lkS (newN nx0 nx m ++ σ) k).isSome=true→ρ' (nmOf (newN nx0 nx m ++ σ) k) = ρc k:=fun k hk hs=>by
   rw [← key k hk];unfold renR nmOf
   cases hl:lkS (newN nx0 nx m ++ σ) k with
   |none=>rw [hl] at hs;simp at hs
   |some j=>rfl
  have res:∀ j rr,chF (renH (newN nx0 nx m ++ σ) o0++outH ks) (resF ks (hpF mw)) j=some rr→∃ k r,hpF o0 k=some r∧nmOf (newN nx0 nx m ++ σ) k=j∧rr=r.ren (newN nx0 nx m ++ σ)∧ρ' j = ρc k∧r.all (fun k=>Nat.blt k nx1)=true:=fun j rr hj=>by
   unfold chF at hj;rw [qd7] at hj
   cases hl:lkS (renH (newN nx0 nx m ++ σ) o0) j with
   |some x=>
    rw [hl] at hj;simp only at hj;subst hj;obtain⟨k,r,h1,h2,h3⟩:=q6i hl;have h4:=List.all_eq_true.1 hc1.2 _ h1;simp only [Bool.and_eq_true] at h4;have h5:=List.all_eq_true.1 hsm _ h1;refine⟨k,r,qxx hd h1,h2,h3,?_,h4.2⟩;rw [← h2]
    exact keyj k (vo h4.1) h5
   |none=>
    rw [hl] at hj;simp only [q6h] at hj
    cases hmm:memN ks j with
    |true=>rw [hmm] at hj;simp at hj
    |false=>
     rw [hmm] at hj;simp [resF,hmm] at hj
  have hra:r.all (fun k=>Nat.blt k nx1)=true:=List.all_eq_true.1 hc1.1 (0,r) (by simp);refine⟨ρ',?_,fun k hk=>d1 k hk,⟨fun j rr hj=>?_,fun j j' rr rr' a6 h1 h2 o ho=>?_⟩,hp.len,fun j hj hnj=>?_,fun j rr hj o ho=>?_⟩
  ·rw [hr]
   simp only;rw [qvk];exact (qc6 (fun k hk=>key k (vo hk)) r hra).symm
  ·obtain⟨k,r0,h1,h2,rfl,h4,h5⟩:=res j rr hj
   rw [h4];have hsat:=hp.sat;simp only [x5,qg4] at hsat;have hok:=hsat.ok k r0 h1
   cases r0 with
   |cells T cs=>
    obtain⟨o,v,g1,g2,g3⟩:=hok;refine⟨o,v,g1,?_,g3⟩;rw [qeu,qa6 (fun k hk=>key k (vo hk)) cs h5]
    exact g2
   |tip sz T xs=>exact hok
   |own sz T xs=>exact hok
   |obj P=>exact hok
   |rows T ys cs=>
    show OwnS _ 1 T (ys++SV.evs _ (SV.rens _ cs)) _
    rw [qeu,qa6 (fun k hk=>key k (vo hk)) cs h5];exact hok
  ·obtain⟨k,r0,h3,h4,_,h5,_⟩:=res j rr h1
   obtain⟨k',r0',h3',sf,_,h5',_⟩:=res j' rr' h2;rw [h5] at ho;rw [h5'];have hsat:=hp.sat;simp only [x5,qg4] at hsat;exact hsat.sep k k' r0 r0' (fun e=>a6 (by rw [← h4,← sf,e])) h3 h3' o ho
  ·refine hp.fr j hj fun k r0 hk u7=>?_
   simp only [x5] at hk;obtain⟨j',r',g1,g2⟩:=foot k r0 hk j u7;exact hnj j' r' g1 g2
  ·obtain⟨k,r0,h1,h2,_,h4,_⟩:=res j rr hj
   rw [h4] at ho;have hlc:=hp.loc k r0 (by simp only [x5,qg4];exact h1) o ho;rcases hlc with g | ⟨k',r',g1,g2⟩
   ·exact .inl g
   ·simp only [x5] at g1
    obtain⟨j',r'',g3,g4⟩:=foot k' r' g1 o g2;exact .inr ⟨j',r'',g3,g4⟩
def useW (vs0:List SV) (r8:List (Nat×Option SR)) (nx0:Nat) (r:SV) (o0:List (Nat×Option SR)) (nx1:Nat) (mw:List (Nat×Option SR)) (vs:List SV) (nx:Nat) (k:Ef→Prop):Prop:=
 fcP (addS [] (prsL vs0 vs)) fun a=>fcP (addS a (sigH (hpF mw) a r8)) fun σ=>
  vs.length=vs0.length∧okC ⟨jt 0 vs,fltH (σ.map Prod.snd) mw,nx⟩=true∧EntC σ ⟨jt 0 vs,fltH (σ.map Prod.snd) mw,nx⟩ ⟨jt 0 vs0,r8,nx0⟩∧okC ⟨[(0,r)],o0,nx1⟩=true ∧
   (qty (wb o0) && o0.all (fun q=>(lkS (newN nx0 nx (nx1 - nx0) ++ σ) q.1).isSome) && σ.all (fun q=>Nat.blt q.1 nx0 && Nat.blt q.2 nx) && Nat.ble nx0 nx1)=true ∧
   k ⟨r.ren (newN nx0 nx (nx1 - nx0) ++ σ),σ.map Prod.snd,renH (newN nx0 nx (nx1 - nx0) ++ σ) o0++outH (σ.map Prod.snd),nx+(nx1 - nx0)⟩
theorem j6 {E:Env} {f:FuncId} {vs0:List SV} {r8:List (Nat×Option SR)} {nx0:Nat} {r:SV} {o0:List (Nat×Option SR)} {nx1:Nat} (h:v4 E f vs0 nx0 (hpF r8) ⟨r,wb r8,o0++ww r8,nx1⟩) {mw:List (Nat×Option SR)} {vs:List SV} {nx:Nat} {k:Ef→Prop}
  (hw:useW vs0 r8 nx0 r o0 nx1 mw vs nx k):∃ e,v4 E f vs nx (hpF mw) e∧k e:=by
 unfold useW at hw;simp only [q1m] at hw;obtain⟨h1,h2,h3,h4,h5,h6⟩:=hw;exact⟨_,zjf h _ h1 h2 h3 h4 h5,h6⟩
theorem zgn {l m:List AV} (hl:l.length=m.length) (h:∀ (i:Nat) (x y:AV),l[i]? = some x→m[i]? = some y→Wk x y):Wk (.pp l) (.pp m):=fun G v hr=>by
 cases hr with
 |pp _ b off pub hp a7 hr=>
  refine .pp m b off pub hp (by omega) fun i y z hy hz=>?_;have hi:i<l.length:=by have:=lt_of_getElem? hy;omega
  have hx:l[i]? = some l[i]:=List.getElem?_eq_getElem hi;exact h i _ y hx hy G z (hr i _ z hx hz)
theorem q0w {E:Env} {fn:Func} {R:AV→List AObj→Prop} {s:AS} {d o ver:Nat} {T:TypeId} {cs xs:List AV} (hi:s.t d = .bx o ver 0) (ho:s.st[o]? = some (.cells ver T cs)) (hw:Wk (.pp cs) (.pp xs))
  (h:ARet E fn R ⟨Av.put s.t d (.pp xs),s.st.set o .dead,s.df⟩):ARet E fn R s:=
 ⟨fun B0 w0 G a w hL hI R2 hR=>by
  obtain⟨G1,h1,h2⟩:=hI.pub hi ho;refine h.run B0 w0 G1 a w hL ⟨h2.agree,h2.defers,h2.size,fun j y hy=>?_⟩ R2 fun v G' r st' w' hG=>hR v G' r st' w' (h1.trans hG);have hj:=h2.tmps j y hy;by_cases e:j=d
  ·subst e
   simp only [xd] at hj ⊢;exact hw G1 y hj
  ·simp only at hj ⊢
   rw [qab _ _ _ _ e] at hj ⊢
   exact hj⟩
theorem q9t {E:Env} {fn:Func} {R:AV→List AObj→Prop} {s:AS} {d o ver o2 ver2 sz cap:Nat} {T T2:TypeId} {cs xs ys pad:List AV} (hi:s.t d = .bx o ver 0) (ho:s.st[o]? = some (.cells ver T cs)) (dr:s.st[o2]? = some (.cells ver2 T2 (flat ys++pad))) (a6:o≠o2) (hw:∀ y∈ys,y.cells.length=sz) (hc:ys.length≤cap) (hl:cs.length=xs.length)
  (hx:∀ (i:Nat) (x y:AV),cs[i]? = some x→xs[i]? = some y→Wk x y∨(x = .os o2 ver2 0 ys.length cap∧y = .sl sz ys none)) (h:ARet E fn R ⟨Av.put s.t d (.pp xs),(s.st.set o .dead).set o2 .dead,s.df⟩):ARet E fn R s:=
 ⟨fun B0 w0 G a w hL hI R2 hR=>by
  obtain⟨G1,h1,h2⟩:=hI.pub hi ho;have ho3:(s.st.set o .dead)[o2]? = some (.cells ver2 T2 (flat ys++pad)):=(List.getElem?_set_ne a6).trans dr;obtain⟨vs,b0,hA,hv,hp,lf,hr⟩:=h2.agree.pubOb ho3;refine h.run B0 w0 _ a w hL ⟨hA,h2.defers_mono b0,h2.size,fun j y hy=>?_⟩ R2 fun v G' r st' w' hG=>hR v G' r st' w' (h1.trans (b0.trans hG));have hj:=(h2.tmps j y hy).mono b0;by_cases e:j=d
  ·subst e
   simp only [xd] at hj ⊢
   cases hj with
   |pp _ b off pub hp2 a7 d5=>
    refine .pp xs b off pub hp2 (by omega) fun i z u hz hu=>?_;have hi:i<cs.length:=by have:=lt_of_getElem? hz;omega
    have hg:cs[i]? = some cs[i]:=List.getElem?_eq_getElem hi;have t7:=d5 i _ u hg hu;rcases hx i _ z hg hz with hw1 | ⟨e1,rfl⟩
    ·exact hw1 _ _ t7
    ·rw [e1] at t7
     cases t7 with
     |os _ _ _ _ bl _ hn r9 hb=>
      have hb:=hb hv;subst hb;refine .sl sz ys none _ 0 cap vs hp hw (by rw [← lf];simp) (fun k x y g1 g2=>hr k x y (by rw [List.getElem?_append_left (lt_of_getElem? g1)];exact g1) (by simpa using g2)) (fun t ht=>by simp at ht) hc
  ·simp only at hj ⊢
   rw [qab _ _ _ _ e] at hj ⊢
   exact hj⟩
theorem zgs {E:Env} {fn:Func} {R:AV→List AObj→Prop} {s:AS} {d o ver sz cap:Nat} {T:TypeId} {ys pad:List AV} (hi:s.t d = .os o ver 0 ys.length cap) (ho:s.st[o]? = some (.cells ver T (flat ys++pad))) (hw:∀ y∈ys,y.cells.length=sz) (hc:ys.length≤cap)
  (h:ARet E fn R ⟨Av.put s.t d (.sl sz ys none),s.st.set o .dead,s.df⟩):ARet E fn R s:=
 ⟨fun B0 w0 G a w hL hI R2 hR=>by
  obtain⟨G1,h1,h2⟩:=hI.osPub (xs:=ys) (sz:=sz) hi ho rfl hc hw (by rw [List.length_append,zt hw];omega) (by rw [List.drop_zero,← zt hw,List.take_left])
  exact h.run B0 w0 G1 a w hL h2 R2 fun v G' r st' w' hG=>hR v G' r st' w' (h1.trans hG)⟩
def zbo (H:Nat→Option SR):SV→Option (Nat×Nat×List AV)
 | .tp k=>(match H k with
  |some (.own sz _ ys)=>some (k,sz,ys)
  | _=>none)
 | _=>none
def qu0 (H:Nat→Option SR):List SV→Option (Nat×Nat×List AV)
 | []=>none
 |c::r=>(match zbo H c with
  |some x=>some x
  |none=>qu0 H r)
theorem q2u {H:Nat→Option SR} {j sz:Nat} {ys:List AV}:∀ {cs:List SV},qu0 H cs=some (j,sz,ys)→∃ T,H j=some (.own sz T ys)
 | [],h=>by simp [qu0] at h
 |c::r,h=>by
  simp only [qu0] at h;split at h
  ·rename_i x hx
   simp only [Option.some.injEq] at h;subst h;unfold zbo at hx;split at hx
   ·split at hx
    ·rename_i hk
     simp only [Option.some.injEq,Prod.mk.injEq] at hx;obtain⟨rfl,rfl,rfl⟩:=hx;exact⟨_,hk⟩
    ·simp at hx
   ·simp at hx
  ·exact q2u (cs:=r) h
def frzJ (H:Nat→Option SR) (j sz:Nat) (ys:List AV):List SV→Option (List AV)
 | []=>some []
 |c::r=>(match (match c with
   | .tp k=>bif Nat.beq k j then some (.sl sz ys none) else frz H (.tp k)
   |c=>frz H c),frzJ H j sz ys r with
  |some x,some l=>some (x::l)
  | _,_=>none)
theorem q59 {S:List AObj} {ρ : Nat→AV} {H:Nat→Option SR} (hS:SatF S ρ H) {j sz:Nat} {ys:List AV}:∀ (cs:List SV) (xs:List AV),frzJ H j sz ys cs=some xs→(SV.evs ρ cs).length=xs.length∧∀ (i:Nat) (x y:AV),(SV.evs ρ cs)[i]? = some x→xs[i]? = some y→Wk x y∨(x=tpAt (ρ j)∧y = .sl sz ys none)
 | [],xs,h=>by simp only [frzJ,Option.some.injEq] at h;subst h;exact⟨rfl,by simp [SV.evs]⟩
 |c::r,xs,h=>by
  simp only [frzJ] at h;split at h
  ·rename_i x l h1 h2
   simp only [Option.some.injEq] at h;subst h;obtain⟨g1,g2⟩:=q59 hS r l h2;refine⟨by simp [SV.evs,g1],fun i a b ha hb=>?_⟩
   cases i with
   |zero=>
    simp only [SV.evs,List.getElem?_cons_zero,Option.some.injEq] at ha hb;subst ha;subst hb;split at h1
    ·rename_i k
     cases hkj:Nat.beq k j with
     |true=>
      rw [hkj] at h1;simp only [cond_true,Option.some.injEq] at h1;rw [Nat.eq_of_beq_eq_true hkj]
      exact .inr ⟨rfl,h1.symm⟩
     |false=>
      rw [hkj] at h1;exact .inl (qib hS _ _ h1)
    ·exact .inl (qib hS _ _ h1)
   |succ i=>exact g2 i a b (by simpa [SV.evs] using ha) (by simpa using hb)
  ·simp at h
def pubK (k:Conf→Prop):List ResultVar→Conf→Prop
 | [],C=>k C
 | .tmp t::r,C=>(match lkS C.sl t with
  |some (.bx b 0)=>(match hpF C.hp b with
   |some (.cells _ cs)=>(match qu0 (hpF C.hp) cs with
    |some (j,sz,ys)=>(match frzJ (hpF C.hp) j sz ys cs with
     |some xs=>pubK k r ⟨(t,.a (.pp xs))::C.sl,(j,none)::(b,none)::C.hp,C.nx⟩
     |none=>pubK k r C)
    |none=>(match frzs (hpF C.hp) cs with
     |some xs=>pubK k r ⟨(t,.a (.pp xs))::C.sl,(b,none)::C.hp,C.nx⟩
     |none=>pubK k r C))
   | _=>pubK k r C)
  |some (.tp b)=>(match hpF C.hp b with
   |some (.own sz _ ys)=>pubK k r ⟨(t,.a (.sl sz ys none))::C.sl,(b,none)::C.hp,C.nx⟩
   | _=>pubK k r C)
  | _=>pubK k r C)
 | _::r,C=>pubK k r C
theorem SatR.drop {S0:List AObj} {F:Nat→Prop} {C:Conf} {ρ t:Nat→AV} {S:List AObj} (h:SatR S0 F C ρ t S) {b o:Nat} {q:SR} (hb:hpF C.hp b=some q) (ho:∀ o',zq (ρ b)=some o'→o'=o) (hd:zq (ρ b)=some o∨S.set o .dead=S) :
  SatR S0 F ⟨C.sl,(b,none)::C.hp,C.nx⟩ ρ t (S.set o .dead):=by
 have b5:∀ k r,hpF ((b,none)::C.hp) k=some r→k≠b∧hpF C.hp k=some r:=fun k r hk=>by
  unfold hpF at hk ⊢;simp only [lkS] at hk;by_cases e:b=k
  ·subst e;simp at hk
  ·rw [j9 e] at hk
   exact⟨fun h=>e h.symm,hk⟩
 rcases hd with hd|hd
 ·refine⟨h.sl,⟨fun k r hk=>?_,fun k k' r r' a6 hk l9=>h.hp.sep k k' r r' a6 (b5 k r hk).2 (b5 k' r' l9).2⟩,fun k r hk=>h.own k r (b5 k r hk).2,fun j hj hF=>?_,by simpa using h.len,h.wsl,fun k r hk=>h.whp k r (b5 k r hk).2⟩
  ·obtain⟨a6,hk⟩:=b5 k r hk
   refine SR.ok_of (f:=fun _=>true) (SR.all_mono (fun _ _=>rfl) r (h.whp k r hk).2) (fun _ _=>rfl) (h.hp.ok k r hk) fun j hj=>?_;have:o≠j:=fun e=>h.hp.sep b k _ r (fun e=>a6 e.symm) hb hk o hd (e▸hj);rw [List.getElem?_set_ne this]
  ·have:o≠j:=fun e=>by
    rcases h.own b _ hb o hd with g|g
    ·omega
    ·exact hF (e▸g)
   rw [List.getElem?_set_ne this];exact h.low j hj hF
 ·rw [hd]
  exact⟨h.sl,⟨fun k r hk=>h.hp.ok k r (b5 k r hk).2,fun k k' r r' a6 hk l9=>h.hp.sep k k' r r' a6 (b5 k r hk).2 (b5 k' r' l9).2⟩,fun k r hk=>h.own k r (b5 k r hk).2,h.low,h.len,h.wsl,fun k r hk=>h.whp k r (b5 k r hk).2⟩
theorem SatR.slot {S0:List AObj} {F:Nat→Prop} {C:Conf} {ρ t:Nat→AV} {S:List AObj} (h:SatR S0 F C ρ t S) (d:Nat) {y:AV}:SatR S0 F ⟨(d,.a y)::C.sl,C.hp,C.nx⟩ ρ (Av.put t d y) S:=by
 refine⟨fun x v hx=>?_,h.hp,h.own,h.low,h.len,fun x v hx=>?_,h.whp⟩
 ·simp only [lkS] at hx
  by_cases e:d=x
  ·subst e
   simp at hx;subst hx;exact xd _ _ _
  ·rw [j9 e] at hx
   simp only [cond_false] at hx;exact (qab _ _ _ _ (fun h=>e h.symm)).trans (h.sl x v hx)
 ·simp only [lkS] at hx
  by_cases e:d=x
  ·subst e
   simp at hx;subst hx;rfl
  ·rw [j9 e] at hx
   exact h.wsl x v hx
theorem SatR.pub {S0:List AObj} {F:Nat→Prop} {C:Conf} {ρ t:Nat→AV} {S:List AObj} (h:SatR S0 F C ρ t S) {d b o:Nat} {T:TypeId} {cs:List SV} {xs:List AV} (hb:hpF C.hp b=some (.cells T cs)) (ho:zq (ρ b)=some o) :
  SatR S0 F ⟨(d,.a (.pp xs))::C.sl,(b,none)::C.hp,C.nx⟩ ρ (Av.put t d (.pp xs)) (S.set o .dead):=
 (h.drop hb (fun o' b6=>by rw [ho] at b6;simpa using b6.symm) (.inl ho)).slot d
theorem zgt {E:Env} {fn:Func} {R:AV→List AObj→Prop} {s:AS} {d:Nat} {x r:AV} (hi:s.t d=x) (hw:Wk x r) (h:ARet E fn R ⟨Av.put s.t d r,s.st,s.df⟩):ARet E fn R s:=
 ⟨fun B0 w0 G a w hL hI R2 hR=>h.run B0 w0 G a w hL ⟨hI.agree,hI.defers,hI.size,fun j y hy=>by
  have hj:=hI.tmps j y hy;by_cases e:j=d
  ·subst e
   simp only [xd];rw [hi] at hj;exact hw G y hj
  ·simp only
   rw [qab _ _ _ _ e]
   exact hj⟩ R2 hR⟩
theorem qbp {E:Env} {fn:Func} {R:AV→List AObj→Prop} {S0:List AObj} {F:Nat→Prop} {ρ : Nat→AV} {k:Conf→Prop} (hk:∀ C t S,k C→SatR S0 F C ρ t S→ARet E fn R ⟨t,S,[]⟩):∀ {l:List ResultVar} {C:Conf} {t:Nat→AV} {S:List AObj},pubK k l C→SatR S0 F C ρ t S→ARet E fn R ⟨t,S,[]⟩
 | [],C,t,S,h,hR=>hk C t S h hR
 | .cell _ _::r,C,t,S,h,hR=>qbp hk (l:=r) h hR
 | .tmp d::r,C,t,S,h,hR=>by
  simp only [pubK] at h;split at h
  ·rename_i b hd
   split at h
   ·rename_i T cs hb
    obtain⟨o,v,e1,e2,e3⟩:=hR.hp.ok b _ hb;have ht:=hR.sl d _ hd;simp only [SV.ev,e1,bxAt] at ht;split at h
    ·rename_i j sz ys hj
     split at h
     ·rename_i xs hx
      obtain⟨T2,hj⟩:=q2u hj;obtain⟨w1,w2⟩:=q59 hR.hp cs xs hx;have hbj:b≠j:=fun e=>by subst e;rw [hb] at hj;simp at hj
      have hP:=hR.pub (d:=d) (xs:=xs) hb (by rw [e1];rfl)
      have hj2:hpF ((b,none)::C.hp) j=some (.own sz T2 ys):=by
       unfold hpF at hj ⊢;simp only [lkS,j9 hbj,cond_false];exact hj
      rcases hR.hp.ok j _ hj with⟨rfl,f1⟩ | ⟨o2,ver2,cap,pad,f1,f2,f3,f4,f5,f6⟩
      ·refine q0w ht e2 (zgn w1 fun i x y hx hy=>?_) (qbp hk (l:=r) h ?_)
       ·rcases w2 i x y hx hy with g | ⟨g1,g2⟩
        ·exact g
        ·subst g1 g2
         unfold tpAt;rw [f1.one];exact f1.wk sz
       ·have:=hP.drop (o:=S.length) hj2 (fun o' b6=>by rw [f1.loc] at b6;simp at b6) (.inr (List.set_eq_of_length_le (by simp)))
        rwa [List.set_eq_of_length_le (by simp)] at this
      ·have a6:o≠o2:=fun e=>hR.hp.sep b j _ _ hbj hb hj o (by rw [e1];rfl) (by rw [f1,e];rfl)
       refine q9t ht e2 f2 a6 f4 f5 w1 (fun i x y hx hy=>?_) (qbp hk (l:=r) h (hP.drop hj2 (fun o' b6=>?_) (.inl (by rw [f1];rfl))))
       ·rcases w2 i x y hx hy with g | ⟨g1,g2⟩
        ·exact .inl g
        ·exact .inr ⟨by rw [g1,f1];rfl,g2⟩
       ·rw [f1] at b6
        simpa [zq] using b6.symm
     ·exact qbp hk (l:=r) h hR
    ·split at h
     ·rename_i xs hx
      obtain⟨w1,w2⟩:=qf0 hR.hp cs xs hx;exact q0w ht e2 (zgn w1 w2) (qbp hk (l:=r) h (hR.pub hb (by rw [e1];rfl)))
     ·exact qbp hk (l:=r) h hR
   ·exact qbp hk (l:=r) h hR
  ·rename_i b hd
   split at h
   ·rename_i sz T ys hb
    have ht:=hR.sl d _ hd;have hok:=hR.hp.ok b _ hb;simp only [SV.ev,qhe hok] at ht;rcases hok with⟨rfl,f1⟩ | ⟨o,ver,cap,pad,f1,f2,f3,f4,f5,f6⟩
    ·have hP:=hR.drop (o:=S.length) hb (fun o' b6=>by rw [f1.loc] at b6;simp at b6) (.inr (List.set_eq_of_length_le (by simp)))
     rw [List.set_eq_of_length_le (by simp)] at hP;exact zgt ht (f1.wk sz) (qbp hk (l:=r) h (hP.slot d))
    ·rw [f1] at ht
     have hP:=hR.drop (o:=o) hb (fun o' b6=>by rw [f1] at b6;simpa [zq] using b6.symm) (.inl (by rw [f1];rfl));exact zgs ht f2 f4 f5 (qbp hk (l:=r) h (hP.slot d))
   ·exact qbp hk (l:=r) h hR
  ·exact qbp hk (l:=r) h hR
def retP (P:Program) (fn:Func) (r0:AV) (e:Exit) (C:Conf):Prop:=
 match e with
 | .normal=>pubK (fun C=>ansW P fn C fun y=>Tl y r0) fn.results.toList C
 | .ret=>pubK (fun C=>ansW P fn C fun y=>Tl y r0) fn.results.toList C
 | _=>False
theorem qnl {E:Env} {f:FuncId} {fn:Func} {c:Code} {args:List AV} {st:List AObj} {r0:AV} (vs:List SV) (hp:Pure r0) (hf:E.P.funcs[f]? = some fn) (hb:fn.body=some c) (hn:Nat.ble args.length fn.ntmps=true) (hv:∀ ρ,SV.evs ρ vs=args) (hc:okC ⟨jt 0 vs,[],0⟩=true)
  (h:∀ S0,numK 0 vs fun sl=>Sm E none fn.ntmps ⟨S0,fun _=>False,fun _=>zp,0,False⟩ c (retP E.P fn r0) ⟨sl,[],0⟩):qo E f args st fun r st'=>r=r0∧st'=st:=by
 simp only [qqk] at h;refine qx hp (qp hf hb (Nat.le_of_ble_eq_true hn) ?_)
 have b7:SatC ⟨st++[],fun _=>False,fun _=>zp,0,False⟩ ⟨jt 0 vs,[],0⟩ ⟨argT args,st++[],[]⟩:=by
  refine⟨fun _=>zp,⟨nofun,List.nodup_nil,fun _ _=>rfl,Nat.le_refl _,nofun⟩,⟨fun d v hd=>?_,⟨fun k r hk=>?_,fun k k' r r' _ hk=>?_⟩,fun k r hk=>?_,fun _ _ _=>rfl,Nat.le_refl _,fun d v hd=>?_,fun k r hk=>?_⟩⟩
  ·obtain⟨j,h1,h2⟩:=qd8 hd
   have:args[j]? = some (v.ev fun _=>zp):=by rw [← hv fun _=>zp,w8,List.getElem?_map,h2];rfl
   rw [h1,Nat.zero_add];simp only [argT,List.getD,this,Option.getD_some]
  ·simp [hpF,lkS] at hk
  ·simp [hpF,lkS] at hk
  ·simp [hpF,lkS] at hk
  ·simp only [okC,Bool.and_eq_true] at hc
   exact List.all_eq_true.1 hc.1 _ (vq hd)
  ·simp [hpF,lkS] at hk
 refine ((h (st++[])).run _ b7).mono fun e s' ⟨C',hq,dt⟩=>?_;obtain⟨t,S,df⟩:=s';obtain⟨ρ,d7,hR⟩:=dt;simp only at d7 hR
 have fin:pubK (fun C=>ansW E.P fn C fun y=>Tl y r0) fn.results.toList C'→ARet E fn (fun r st2=>r=r0∧∃ ext,st2=st++ext) ⟨t,S,df⟩:=fun h=>by
  refine qiv hR (fun x hx=>d7.dm x hx) d7.nd fun S' lw=>?_;refine qbp (fun C t S h lw=>?_) h lw;obtain⟨y,h1,h2⟩:=q5v lw h;refine qm rfl (xu h1 h2.ok) ⟨rfl,?_⟩;have hl:=lw.len;rw [List.append_nil] at hl
  exact qmw hl fun k hk=>by
   have:=lw.low k (by simpa using hk) (fun h=>h);rw [List.append_nil] at this;exact this
 cases e with
 |normal=>exact fin hq
 |ret=>exact fin hq
 | _=>exact hq.elim
section
variable {E : Env} {N : Nat} {ops : Array Oper} {nx : Nat} {sl : List (Nat × SV)} {H : Nat → Option SR} {k : Ef → Prop} {d : Option Tmp} {T : TypeId} {p : String} {af : Array Edge}
theorem qha {t e e':TypeId} {x y:Operand} {b sz i:Nat} {agg:Bool} {xs:List AV} {kd:IntKind} {v:SV} (hx:sval N sl x=some (.tp b)) (hH:H b=some (.own sz e xs)) (hy:sval N sl y=some v) (hv:qgr v=some (kd,(i:Int))) (he:elT (E.P.underlying t)=some e') (ht:tyOf E.P e'=some (sz,agg)) (hi:i<xs.length)
  (h:k ⟨.bx b (0+i * sz),[b],[],nx⟩):∃ e,Loc E N ops ⟨d,.indexAddr t x y,T,p,af,none⟩ nx sl H e∧k e:=by
 refine⟨_,qai (v:=.bx b (0+i * sz)) fun df rd K rest ρ t' S hs hS hk=>?_,h⟩;rcases hS.ok b _ ((xf b).trans hH) with⟨rfl,_⟩ | ⟨o,ver,cap,pad,e1,e2,_⟩
 ·simp at hi
 ·refine qqw (o:=o) (ver:=ver) (off:=0) (len:=xs.length) (cp:=cap+1) ((q9 hs hx).trans (by simp [SV.ev,e1,tpAt,AV.one])) ((q9 hs hy).trans (qc9 hv ρ)) (qap he) ht rfl hi ?_
  simpa only [SV.ev,e1,bxAt] using hk
theorem zas {sz i j sz':Nat} {agg:Bool} {xs pad:List AV} {z r:AV} (hw:∀ x∈xs,x.cells.length=sz) (hz:xs[i]? = some z) (hr:j8 sz' agg j z.cells=some r) (hj:j+sz'≤sz) (h1:agg=false→0<sz'):j8 sz' agg (0+i * sz+j) (flat xs++pad)=some r:=by
 have hg:=q66 (pad:=pad) hw hz;have pn:=hw z (List.mem_of_getElem? hz)
 have a7:i * sz+sz≤(flat xs++pad).length:=by
  have:=congrArg List.length hg;simp only [List.length_take,List.length_drop] at this;have h1:i * sz≤xs.length * sz:=Nat.mul_le_mul_right _ (by have:=lt_of_getElem? hz;omega);have h2:(flat xs++pad).length=xs.length * sz+pad.length:=by rw [List.length_append,zt hw]
  omega
 unfold j8 at hr ⊢;rw [Nat.zero_add]
 cases agg with
 |true=>
  simp only [cond_true] at hr ⊢;have b1:Nat.ble (i * sz+j+sz') (flat xs++pad).length=true:=Nat.ble_eq_true_of_le (by omega);have b2:Nat.ble (j+sz') z.cells.length=true:=Nat.ble_eq_true_of_le (by omega);rw [b2] at hr;rw [b1];simp only [cond_true] at hr ⊢;rw [← hr,← hg];congr 2;apply List.ext_getElem?;intro q;simp only [List.getElem?_take,List.getElem?_drop];by_cases hq:q<sz'
  ·rw [if_pos hq,if_pos hq,if_pos (by omega)]
   congr 1;omega
  ·rw [if_neg hq,if_neg hq]
 |false=>
  simp only [cond_false] at hr ⊢;have:=h1 rfl;rw [← hr,← hg,List.getElem?_take_of_lt (by omega),List.getElem?_drop]
theorem qj8 {t e:TypeId} {x:Operand} {b off sz i j sz':Nat} {agg:Bool} {xs:List AV} {z r:AV} (hx:sval N sl x=some (.bx b off)) (hH:H b=some (.own sz e xs)) (ht:tyOf E.P t=some (sz',agg)) (ho:off=0+i * sz+j) (hz:xs[i]? = some z) (hr:j8 sz' agg j z.cells=some r) (hj:(Nat.ble (j+sz') sz && (agg ||Nat.blt 0 sz'))=true)
  (h:k ⟨nf r,[b],[],nx⟩):∃ e,Loc E N ops ⟨d,.load t x,T,p,af,none⟩ nx sl H e∧k e:=by
 simp only [Bool.and_eq_true,Bool.or_eq_true] at hj;refine⟨_,qai (v:=nf r) fun df rd K rest ρ t' S hs hS hk=>?_,h⟩;rcases hS.ok b _ ((xf b).trans hH) with⟨rfl,_⟩ | ⟨o,ver,cap,pad,e1,e2,e3,e4,_⟩
 ·simp at hz
 ·subst ho
  refine vc (o:=o) (ver:=ver) (off:=0+i * sz+j) ((q9 hs hx).trans (by simp only [SV.ev,e1,bxAt])) e2 ht (zas e4 hz hr (Nat.le_of_ble_eq_true hj.1) fun e=>?_) (by rw [← qk9 ρ r];exact hk);rcases hj.2 with h|h
  ·rw [e] at h;simp at h
  ·exact vo h
theorem qvq (A Z B us:List AV) (j:Nat) (h:j+us.length≤Z.length):zx (A++Z++B) (A.length+j) us=A++zx Z j us++B:=by
 unfold zx;rw [List.append_assoc A Z B,List.take_length_add_append,List.take_append_of_le_length (by omega),Nat.add_assoc,List.drop_length_add_append,List.drop_append_of_le_length (by omega)];simp
theorem qua {sz i j:Nat} {xs pad us:List AV} {z z':AV} (hw:∀ x∈xs,x.cells.length=sz) (hz:xs[i]? = some z) (u0:z'.cells=zx z.cells j us) (hj:j+us.length≤sz):zx (flat xs++pad) (0+i * sz+j) us=flat (xs.set i z')++pad∧z'.cells.length=sz:=by
 have pn:=hw z (List.mem_of_getElem? hz);have hl:z'.cells.length=sz:=by rw [u0];simp [zx];omega
 have hi:=lt_of_getElem? hz;refine⟨?_,hl⟩;rw [← qsf hw hl hi];have hg:=q66 (pad:=pad) hw hz
 have hA:((flat xs++pad).take (i * sz)).length=i * sz:=by
  have h1:i * sz≤xs.length * sz:=Nat.mul_le_mul_right _ (by omega);rw [List.length_take,List.length_append,zt hw];omega
 generalize flat xs++pad=cs at hg hA
 have nw:cs=cs.take (i * sz)++z.cells++(cs.drop (i * sz)).drop sz:=by
  rw [← hg,List.append_assoc,List.take_append_drop,List.take_append_drop]
 have e1:=qvq (cs.take (i * sz)) z.cells ((cs.drop (i * sz)).drop sz) us j (by omega);have e2:=qvq (cs.take (i * sz)) z.cells ((cs.drop (i * sz)).drop sz) z'.cells 0 (by omega);rw [hA,← nw] at e1 e2
 have e3:zx z.cells 0 z'.cells=z'.cells:=by
  unfold zx;rw [Nat.zero_add,List.drop_eq_nil_of_le (by omega)];simp
 rw [Nat.add_zero,e3] at e2;rw [Nat.zero_add,e1,e2,u0]
theorem zbq {t e:TypeId} {x y:Operand} {b off sz i j sz':Nat} {agg:Bool} {xs:List AV} {z z' u:AV} {v:SV} (hx:sval N sl x=some (.bx b off)) (hy:sval N sl y=some v) (hv:∀ ρ,v.ev ρ = u) (hH:H b=some (.own sz e xs)) (ht:tyOf E.P t=some (sz',agg)) (ho:off=0+i * sz+j) (hz:xs[i]? = some z) (u0:z'.cells=zx z.cells j u.cells)
  (hj:(u.okc && Nat.beq u.cells.length sz' && j7 u.cells && Nat.ble (j+sz') sz)=true) (h:k ⟨.a (.v undef),[b],[(b,some (.own sz e (xs.set i z')))],nx⟩):∃ e,Loc E N ops ⟨d,.store t x y,T,p,af,none⟩ nx sl H e∧k e:=by
 simp only [Bool.and_eq_true] at hj;obtain⟨⟨⟨j1,j2⟩,j3⟩,j4⟩:=hj;have j2:=Nat.eq_of_beq_eq_true j2;have j4:=Nat.le_of_ble_eq_true j4;refine⟨_,fun df rd K rest ρ t' S hs hS hk=>?_,h⟩;have hok:=hS.ok b _ ((xf b).trans hH);rcases hok with⟨rfl,_⟩ | ⟨o,ver,cap,pad,e1,e2,e3,e4,e5,e6⟩
 ·simp at hz
 ·subst ho
  obtain⟨q1,q2⟩:=qua (pad:=pad) e4 hz u0 (by omega);have b4:=lt_of_getElem? hz
  refine qgk (o:=o) (ver:=ver) (off:=0+i * sz+j) (xs:=u.cells) ((q9 hs hx).trans (by simp only [SV.ev,e1,bxAt])) ((q9 hs hy).trans (hv ρ)) e2 ht j1 rfl j2 (by simpa [j7] using j3) (by
   have h1:i * sz+sz≤xs.length * sz:=by rw [← Nat.succ_mul];exact Nat.mul_le_mul_right _ b4
   rw [List.length_append,zt e4]
   omega) ?_
  rw [q1]
  have f9:∀ y∈xs.set i z',y.cells.length=sz:=fun y hy=>by
   rcases List.mem_or_eq_of_mem_set hy with h|rfl
   ·exact e4 y h
   ·exact q2
  have key:∀ k r,chF [(b,some (.own sz e (xs.set i z')))] (resF [b] H) k=some r→k=b∧r = .own sz e (xs.set i z'):=fun k r hk=>by
   simp only [chF,lkS] at hk;by_cases e:b=k
   ·subst e
    have:Nat.beq b b=true:=by simp
    rw [this] at hk;simp only [cond_true,Option.some.injEq] at hk;exact⟨rfl,hk.symm⟩
   ·rw [j9 e] at hk
    have:=(we hk).1;simp only [memN,List.any_cons,List.any_nil,Bool.or_false] at this;exact absurd (Nat.eq_of_beq_eq_true this).symm e
  refine hk ρ _ ⟨fun _ _=>rfl,⟨fun k r hk=>?_,fun k k' r r' a6 g1 g2=>?_⟩,by simp,fun j hj a6=>?_,fun k r hk o' b6=>?_⟩
  ·obtain⟨rfl,rfl⟩:=key k r hk
   refine .inr ⟨o,ver,cap,pad,by rw [e1,List.length_set],qar e2,?_,f9,by rw [List.length_set];exact e5,e6⟩;rw [List.length_append,zt f9,List.length_set,← zt e4,← List.length_append];exact e3
  ·exact absurd ((key k r g1).1.trans (key k' r' g2).1.symm) a6
  ·have:=a6 b _ ((xf b).trans hH)
   rw [e1] at this;exact List.getElem?_set_ne (fun e=>this (by rw [e];rfl))
  ·obtain⟨rfl,rfl⟩:=key k r hk
   exact .inr ⟨k,_,(xf k).trans hH,b6⟩
theorem qqn {b:Nat} {q:SR}:∀ k r,chF [(b,none),(nx,some q)] (resF [b] H) k=some r→k=nx∧r=q:=fun k r hk=>by
 simp only [chF,lkS] at hk;by_cases e:b=k
 ·subst e
  simp at hk
 ·rw [j9 e] at hk
  simp only [cond_false] at hk;by_cases e2:nx=k
  ·subst e2
   simp at hk;exact⟨rfl,hk.symm⟩
  ·rw [j9 e2] at hk
   simp only [cond_false] at hk;have:=(we hk).1;simp only [memN,List.any_cons,List.any_nil,Bool.or_false] at this;exact absurd (Nat.eq_of_beq_eq_true this).symm e
theorem qu1 {x y:Operand} {t u e:TypeId} {b sz bytes:Nat} {xs ys:List AV} {vy:SV} (hx:sval N sl x=some (.tp b)) (hH:H b=some (.own sz e xs)) (hy:sval N sl y=some vy) (gb:qkx H sz vy=some (ys,[])) (ht:elT (E.P.underlying t)=some e) (hu:elT (E.P.underlying u)=some e) (hb:qz3 E.P e=some (sz,bytes))
  (hn:(Nat.blt 0 bytes && Nat.ble bytes 140737 && !Nat.beq b nx)=true) (h1:xs.length+ys.length≤1000000000) (d6:j7 (flat ys)=true)
  (h:k ⟨.tp nx,[b],[(b,none),(nx,some (.own sz e (xs++ys)))],nx+1⟩):∃ e,Loc E N ops ⟨d,.call ⟨.builtin .append,#[x,y],#[t,u]⟩,T,p,af,none⟩ nx sl H e∧k e:=by
 simp only [Bool.and_eq_true] at hn;have hbp:=vo hn.1.1;have bn:=Nat.le_of_ble_eq_true hn.1.2;refine⟨_,fun df rd K rest ρ t' S hs hS hk=>?_,h⟩
 have hw:∀ (G:Gh) (v:Value),Rel G (ql N ⟨t',S,df⟩ y) v→Rel G (.sl sz ys none) v:=by
  rw [q9 hs hy];exact qfm (S:=S) gb ⟨fun k r hk=>by rw [qhb] at hk;simp at hk,fun k k' r r' _ hk=>by rw [qhb] at hk;simp at hk⟩
 have hok:=hS.ok b _ ((xf b).trans hH);have pb:ql N ⟨t',S,df⟩ x = ρ b:=(q9 hs hx).trans (qhe hok);have tz:(xs.length+ys.length) * bytes≤140737488355328:=Nat.le_trans (Nat.mul_le_mul h1 bn) (by decide)
 have fin:∀ (c:AV) (S':List AObj),OwnS S' sz e (xs++ys) c→S.length≤S'.length→(∀ j,j<S.length→zq (ρ b)≠some j→S'[j]? = S[j]?)→(∀ o,zq c=some o→S.length≤o∨zq (ρ b)=some o)→AOps E rd N ops rest K (AS.put ⟨t',S',df⟩ d c):=fun c S' g1 g2 g3 g4=>by
  have:=hk (upd ρ nx c) S' ⟨fun k hk=>y0 _ _ (by simp only at hk;omega),⟨fun k r hk=>?_,fun k k' r r' a6 q1 q2=>absurd ((qqn k r q1).1.trans (qqn k' r' q2).1.symm) a6⟩,g2,fun j hj a6=>g3 j hj (a6 b _ ((xf b).trans hH)),fun k r hk o ho=>?_⟩
  ·simpa only [SV.ev,vb,qhe g1] using this
  ·obtain⟨rfl,rfl⟩:=qqn k r hk
   rw [vb];exact g1
  ·obtain⟨rfl,rfl⟩:=qqn k r hk
   rw [vb] at ho;exact (g4 o ho).imp_right fun h=>⟨b,_,(xf b).trans hH,h⟩
 by_cases ln:ys=[]
 ·subst ln
  have hc:∀ G v,Rel G (ρ b) v→∃ b n cp,v = .slice b n cp∧n≤cp:=fun G v hv=>by
   rcases hok with⟨_,e1⟩ | ⟨o,ver,cap,pad,e1,e2,e3,e4,e5,e6⟩
   ·obtain⟨base,rfl⟩:=e1.val G v hv
    exact⟨_,_,_,rfl,Nat.le_refl _⟩
   ·rw [e1] at hv
    cases hv with
    |os=>exact⟨_,_,_,rfl,e5⟩
  exact qog pb hc hw (qap ht) (qap hu) (qmu hb) (fin (ρ b) S (by rw [List.append_nil];exact hok) (Nat.le_refl _) (fun _ _ _=>rfl) fun o ho=>.inr ho)
 ·rcases hok with⟨rfl,e1⟩ | ⟨o,ver,cap,pad,e1,e2,e3,e4,e5,e6⟩
  ·refine qfj (by rw [pb];exact e1.val) hw (qap ht) (qap hu) (qmu hb) d6 ln (by simp only [maxLen];simp only [List.length_nil] at h1;omega) (by simpa using tz) fun cap pad q1 q2 q3 q4=>?_
   exact fin _ _ (.inr ⟨S.length,0,cap,pad,rfl,x7,q1,q2,q3,q4⟩) (by simp) (fun j hj _=>List.getElem?_append_left hj) fun o ho=>.inl (by simp only [zq,Option.some.injEq] at ho;omega)
  ·refine qn1 (o:=o) (pb.trans e1) hw (.os ver (cap+1) pad e3 e4 e5 e6) e2 (qap ht) (qap hu) (qmu hb) d6 (by simp only [maxLen];omega) tz fun a' ob' hV=>?_
   rcases q32 hV with⟨q,_,_⟩ | ⟨ver',cap',pad',rfl,rfl,q1,q2,q3,q4⟩
   ·simp [ln] at q
   ·obtain⟨cap',rfl⟩:∃ c,cap'=c+1:=⟨cap' - 1,by
     have:0<ys.length:=List.length_pos_iff.2 ln;simp at q3
     omega⟩
    refine fin _ _ (.inr ⟨o,ver',cap',pad',rfl,qar e2,q1,q2,q3,q4⟩) (by simp) (fun j hj a6=>List.getElem?_set_ne fun e=>a6 (by rw [e1,e];rfl)) fun o' b6=>.inr (by rw [e1];exact b6)
structure OwnR (sz:Nat) (T:TypeId) (ys:List AV) (st:List AObj) (c r:AV) (st':List AObj):Prop where
 ok:OwnS st' sz T ys r
 len:st.length≤st'.length
 same:∀ j,j<st.length→zq c≠some j→st'[j]? = st[j]?
 loc:∀ o,zq r=some o→st.length≤o∨zq c=some o
theorem qqo {S:List AObj} {sz:Nat} {T:TypeId} {xs:List AV} {c:AV} (h:OwnS S sz T xs c):tpAt c=c:=qhe h
theorem qr8 {f:FuncId} {sz:Nat} {T0:TypeId} {xs ys:List AV} (args:List AV) (hc:okC ⟨jt 0 (.tp 0::args.map .a),[(0,some (.own sz T0 xs))],1⟩=true)
  (h:∀ st c,OwnS st sz T0 xs c→qo E f (c::args) st fun r st'=>OwnR sz T0 ys st c r st'):v4 E f (.tp 0::args.map .a) 1 (hpF [(0,some (.own sz T0 xs))]) ⟨.tp 1,wb [(0,some (.own sz T0 xs))],[(1,some (.own sz T0 ys))]++ww [(0,some (.own sz T0 xs))],2⟩:=fun ρ S hS=>by
 simp only [x5] at hS;have hok:OwnS S sz T0 xs (ρ 0):=hS.ok 0 _ rfl
 have e:SV.evs ρ (.tp 0::args.map .a) = ρ 0::args:=by
  simp only [SV.evs,SV.ev,qqo hok,w8,List.map_map];congr 1
  conv=>rhs;rw [← List.map_id args]
  exact List.map_congr_left fun x _=>rfl
 rw [e];refine (h S (ρ 0) hok).mono fun r S' hr=>⟨upd ρ 1 r,?_,?_⟩
 ·simp only [SV.ev,vb,qqo hr.ok]
 ·have key:∀ k q,hpF [(1,some (.own sz T0 ys))] k=some q→k=1∧q = .own sz T0 ys:=fun k q hk=>by
   have:=xz hk;simp only [lkS] at this
   cases hb:Nat.beq 1 k with
   |true=>
    rw [hb] at this;simp only [cond_true,Option.some.injEq] at this
    exact⟨(Nat.eq_of_beq_eq_true hb).symm,this.symm⟩
   |false=>rw [hb] at this;simp at this
  refine⟨fun k hk=>y0 _ _ (by simp only at hk;omega),?_,hr.len,fun j hj hn=>?_,fun k q hk o ho=>?_⟩
  ·simp only [x5,qg4]
   refine⟨fun k q hk=>?_,fun k k' q q' a6 h1 h2=>absurd ((key k q h1).1.trans (key k' q' h2).1.symm) a6⟩;obtain⟨rfl,rfl⟩:=key k q hk;rw [vb];exact hr.ok
  ·simp only [x5] at hn
   exact hr.same j hj (hn 0 _ rfl)
  ·simp only [x5,qg4] at hk ⊢
   obtain⟨rfl,rfl⟩:=key k q hk;rw [vb] at ho;rcases hr.loc o ho with h|h
   ·exact .inl h
   ·exact .inr ⟨0,_,rfl,h⟩
theorem q4k {f:FuncId} {sz:Nat} {T0:TypeId} {ys:List AV} {nx:Nat} {H:Nat→Option SR} (args:List AV) (vs:List SV) (hv:∀ ρ,SV.evs ρ vs=args)
  (h:∀ st,qo E f args st fun r st'=>OwnR sz T0 ys st (.v undef) r st'):v4 E f vs nx H ⟨.tp nx,[],[(nx,some (.own sz T0 ys))],nx+1⟩:=fun ρ S hS=>by
 rw [hv];refine (h S).mono fun r S' hr=>⟨upd ρ nx r,?_,?_⟩
 ·simp only [SV.ev,vb,qqo hr.ok]
 ·have key:∀ k q,chF [(nx,some (SR.own sz T0 ys))] (resF [] H) k=some q→k=nx∧q = .own sz T0 ys:=fun k q hk=>by
   simp only [chF,lkS] at hk
   cases hb:Nat.beq nx k with
   |true=>
    rw [hb] at hk;simp only [cond_true,Option.some.injEq] at hk
    exact⟨(Nat.eq_of_beq_eq_true hb).symm,hk.symm⟩
   |false=>
    rw [hb] at hk;simp [resF,memN] at hk
  refine⟨fun k hk=>y0 _ _ (by simp only at hk;omega),⟨fun k q hk=>?_,fun k k' q q' a6 h1 h2=>absurd ((key k q h1).1.trans (key k' q' h2).1.symm) a6⟩,hr.len,fun j hj _=>hr.same j hj (by simp [zq]),fun k q hk o ho=>?_⟩
  ·obtain⟨rfl,rfl⟩:=key k q hk
   rw [vb];exact hr.ok
  ·obtain⟨rfl,rfl⟩:=key k q hk
   rw [vb] at ho;rcases hr.loc o ho with h|h
   ·exact .inl h
   ·simp [zq] at h
end
end Go.Av
namespace Go.Proofs.YtneejjefekdgjaaGreatDoor
open Go Go.Av Go.RowKit Go.Proofs Go.Pl
theorem qvv {b:UInt8} {v:qa}:wv b v=if 0<v.length∧v.getD 0 0=b then v.drop 1 else v:=by
 cases v with
 |nil=>rfl
 |cons x r=>
  unfold wv;by_cases h:x=b <;> simp [h]
set_option maxHeartbeats 2000000 in
theorem qkc (ls:List qa) (st:List AObj) (hB:LsB ls):qo E 140 [Ss ls] st fun r st'=>r=qb8 ls∧st'=st:=by
 refine zg [.a (Ss ls)] (qvh _) Tryz.func140 rfl rfl (fun _=>rfl) rfl fun S0=>?_;have hL:=hB.len;have e8:(ls.map fun x=>Sv x).length=ls.length:=by simp
 cases ls with
 |nil=>
  apply qd [2]
  repeat' (first|apply And.intro|(intro h;try exact cDd)|exact cSd|apply qb [2]|refine exr ?_|refine qe ?_)
 |cons l r=>
  have hl:=hB.val l (by simp);simp only [List.length_cons] at hL e8;have gn:=fun st=>qie l st (by omega);have cq:((l::r).map fun x=>Sv x)[0]? = some (Sv l):=rfl;by_cases h4:qv l=4
  ·have hcu:=fun st=>zb1 l st (by omega) h4
   simp only [h4] at gn;have nc:(wv 32 (kr l)).length≤l.length:=by unfold wv kr;split <;> simp <;> omega
   have t7:(kr l).length≤l.length:=by unfold kr;simp
   apply qd [2];repeat' (first|apply And.intro|(intro h;try exact cDd)|(refine Exists.intro (0) ⟨by omega,_,cq,?_⟩)|exact⟨Tryz.call138⟩|refine cpe gn ?_|exact⟨Tryz.call221⟩|refine cpe hcu ?_|exact cSd|apply qb [2]|refine exr ?_|refine qe ?_)
   all_goals
    refine zw (X:=Nat×qa) (fun (k,acc)=>⟨[(0,.a (Ss (l::r))),(2,.bx 0 0),(4,.s (z6 l)),(5,.s acc),(7,.i ((k:Int)+1))],[(0,some (.cells 111 [.s [],.s []]))],1⟩) (fun (k,acc)=>k≤r.length∧(∀ x∈r.take k,qv x=3)∧acc=accU l (r.take k)) (fun (k,_)=>r.length - k) (0,wv 32 (kr l)) ⟨by omega,by simp,by simp [accU]⟩ ?_ ?_
    ·skip
     repeat' (first|apply And.intro|(intro h;try exact cDd)|exact cSd|apply qb []|refine exr ?_|refine qe ?_)
     all_goals (rw [qvv];split <;> rename_i h <;> first|rfl|(exfalso;omega)|exact absurd ((qvx _).2 h.2) (by assumption)|exact absurd ⟨by omega,(qvx _).1 (by assumption)⟩ h)
    ·rintro⟨k,acc⟩ ⟨hk,h3,s6⟩
     have sm:=zdc l (r.take k) fun s hs=>hB.val s (by simp [List.mem_of_mem_take hs]);rw [← s6,List.length_take] at sm;by_cases b4:k<r.length
     ·obtain⟨a,ha⟩:∃ a,r[k]? = some a:=⟨_,List.getElem?_eq_getElem b4⟩
      have b5:((l::r).map fun x=>Sv x)[k+1]? = some (Sv a):=by simp [ha]
      have hav:=hB.val a (by simp [List.mem_of_getElem? ha]);have rf:=fun st=>qie a st (by omega)
      have d2:r.take (k+1)=r.take k++[a]:=by
       obtain⟨_,rfl⟩:=List.getElem?_eq_some_iff.1 ha;rw [List.take_append_getElem]
      by_cases br:qv a=3
      ·obtain⟨h2,_⟩:=ql8 br
       simp only [br] at rf;have hd1:(a.drop 1).length=a.length - 1:=by simp
       have hac:=q9n l (r.take k) a;rw [← s6,← d2,qvv] at hac;apply qd [];repeat' (first|apply And.intro|(intro h;try exact cDd)|(refine Exists.intro ((k+1)) ⟨by omega,_,b5,?_⟩)|exact⟨Tryz.call138⟩|refine cpe rf ?_|(refine Exists.intro (k+1,_) ⟨⟨by omega,by rw [d2];exact qnc h3 br,rfl⟩,by simp only;omega,?_⟩)|exact cSd|apply qb []|refine exr ?_|refine qe ?_)
       all_goals (rw [hac];split <;> rename_i h <;> first|rfl|(simp only [List.append_assoc];rfl)|(exfalso;omega)|exact absurd ((qz9 _).2 h.2) (by assumption)|exact absurd ⟨by omega,(qz9 _).1 (by assumption)⟩ h)
      ·have bv:zr (l::r)=(([],[]),2):=if_neg fun h=>br (h.2.2 a (List.mem_of_getElem? ha))
       unfold qb8;rw [bv];apply qd [];repeat' (first|apply And.intro|(intro h;try exact cDd)|(refine Exists.intro ((k+1)) ⟨by omega,_,b5,?_⟩)|exact⟨Tryz.call138⟩|refine cpe rf ?_|exact absurd (by assumption) br|exact cSd|apply qb []|refine exr ?_|refine qe ?_)
     ·rw [List.take_of_length_le (by omega)] at h3 s6
      have n6:zr (l::r)=if 1000<(accU l r).length then (([],[]),6) else ((z6 l,accU l r),0):=if_pos ⟨by simp,h4,h3⟩;unfold qb8;rw [n6,← s6];apply qd [];repeat' (first|apply And.intro|(intro h;try exact cDd)|exact cSd|apply qb []|refine exr ?_|refine qe ?_)
      all_goals (split <;> first|rfl|omega)
  ·have bv:zr (l::r)=(([],[]),2):=if_neg fun h=>h4 h.2.1
   unfold qb8;rw [bv];apply qd [2];repeat' (first|apply And.intro|(intro h;try exact cDd)|(refine Exists.intro (0) ⟨by omega,_,cq,?_⟩)|exact⟨Tryz.call138⟩|refine cpe gn ?_|exact cSd|apply qb [2]|refine exr ?_|refine qe ?_)
theorem q5o {a:qa} (b9:10∉a):v8 a=if qv a=1∨a.getD 0 0=46 then 46::a else a:=by
 have hk:=zem b9;unfold v8
 cases a with
 |nil=>simp [hk,qce]
 |cons x y=>simp only [List.head?_cons,Option.some.injEq,hk];rfl
def outK (hd:qa) (r:List qa) (k:Nat):List AV:=(hd::(r.take k).map fun s=>[32]++v8 s).map fun x=>Sv x
theorem zbn {hd:qa} {r:List qa} {k:Nat} {a:qa} (h:r[k]? = some a):outK hd r (k+1)=outK hd r k++[Sv ([32]++v8 a)]:=by
 obtain⟨b4,rfl⟩:=List.getElem?_eq_some_iff.1 h;unfold outK;rw [← List.take_append_getElem b4];simp only [List.map_append,List.map_cons,List.map_nil,List.cons_append]
theorem zez {hd:qa} {r:List qa} {k:Nat} (h:k≤r.length):(outK hd r k).length=k+1:=by
 unfold outK;simp;omega
set_option maxHeartbeats 2000000 in
theorem q24 (f:FldV) (st:List AObj) (hl:f.1.length<4294967281) (hv:f.2.length<1000000):qo E 252 [fldA f] st fun r st'=>r=Ss (zm f)∧st'=st:=by
 obtain⟨key,val⟩:=f;dsimp only at hl hv;refine zg [.a (.ag [Sv key,Sv val])] (qma _) Tryz.func252 rfl rfl (fun _=>rfl) rfl fun S0=>?_;obtain⟨p,r,hp⟩:∃ p r,q7 val=p::r:=⟨_,_,qni val⟩;have bd:p.length≤val.length:=qe9 val p (by rw [hp];simp);have t7:∀ x∈r,x.length≤val.length:=fun x hx=>qe9 val x (by rw [hp];simp [hx]);have hr10:∀ x∈r,10∉x:=fun x hx=>qeq val x (by rw [hp];simp [hx]);have hrn:r.length≤val.length:=by have:=qcl _ val (Nat.le_refl _);rw [hp] at this;simpa using this
 have a7:(Sv p::r.map fun x=>Sv x).length=r.length+1:=by simp
 have hpt:=fun st=>ze5 val p r st hv hp;have cq:(Sv p::r.map fun x=>Sv x)[0]? = some (Sv p):=rfl;rw [q4x (f:=(key,val)) hp];generalize hhd:kf key p=hd;have dj:Ss (hd::r.map fun s=>[32]++v8 s) = .sl 1 (outK hd r r.length) none:=by unfold outK;rw [List.take_length]
 rw [dj];apply qd [1,24];repeat' (first|apply And.intro|(intro h;try exact cDd)|exact⟨Tryz.call298⟩|refine cpe hpt ?_|(refine Exists.intro (0) ⟨by omega,_,cq,?_⟩)|exact cSd|apply qb [1,24]|refine exr ?_|refine qe ?_)
 all_goals
  refine zw (X:=Nat) (fun k=>⟨[(3,.a (.sl 1 (Sv p::r.map fun x=>Sv x) none)),(5,.tp 0),(6,.i ((k:Int)+1))],[(0,some (.tip 1 9 (outK hd r k)))],1⟩) (fun k=>k≤r.length) (fun k=>r.length - k) 0 (by omega) ?_ ?_
  ·skip
   repeat' (first|apply And.intro|(intro h;try exact cDd)|exact cSd|apply qb []|refine exr ?_|refine qe ?_)
   all_goals (subst hhd;unfold kf outK;simp_all [SV.evs,SV.ev])
  ·rintro k hk
   have fm:=zez (hd:=hd) hk;by_cases b4:k<r.length
   ·obtain⟨a,ha⟩:∃ a,r[k]? = some a:=⟨_,List.getElem?_eq_getElem b4⟩
    have b5:(Sv p::r.map fun x=>Sv x)[k+1]? = some (Sv a):=by simp [ha]
    have ham:=List.mem_of_getElem? ha;have sm:=t7 a ham;have rf:=fun st=>qie a st (by omega);have b7:=q5o (hr10 a ham);have r7:=zbn (hd:=hd) ha;rw [b7] at r7;have hk0:qv a≠1→0<a.length:=fun h=>List.length_pos_iff.2 fun e=>h (by subst e;rfl);by_cases p1:qv a=1
    ·simp only [p1] at rf
     rw [if_pos (.inl p1)] at r7;apply qd [];repeat' (first|apply And.intro|(intro h;try exact cDd)|(refine Exists.intro ((k+1)) ⟨by omega,_,b5,?_⟩)|exact⟨Tryz.call138⟩|refine cpe rf ?_|(refine Exists.intro (k+1) ⟨by omega,by omega,?_⟩)|exact cSd|apply qb []|refine exr ?_|refine qe ?_)
     all_goals first|(rw [r7];done)|(rw [r7];simp [SV.evs,SV.ev];done)|(simp only [List.length_cons,List.length_nil];omega)
    ·have p7:=hk0 p1
     apply qd [];repeat' (first|apply And.intro|(intro h;try exact cDd)|(refine Exists.intro ((k+1)) ⟨by omega,_,b5,?_⟩)|exact⟨Tryz.call138⟩|refine cpe rf ?_|(refine Exists.intro (k+1) ⟨by omega,by omega,?_⟩)|exact cSd|apply qb []|refine exr ?_|refine qe ?_)
     all_goals first|(rw [r7,if_pos (.inr ((qz9 _).1 (by assumption)))];simp [SV.evs,SV.ev];done)|(rw [r7,if_neg (by simp only [p1,false_or];intro e;exact absurd ((qz9 _).2 e) (by assumption))];done)|(simp only [List.length_cons,List.length_nil];omega)
   ·rw [show k=r.length by omega]
    apply qd [];repeat' (first|apply And.intro|(intro h;try exact cDd)|exact cSd|apply qb []|refine exr ?_|refine qe ?_)
set_option maxHeartbeats 2000000 in
theorem qve (xs:List FldV) (st:List AObj) (hx:qzx xs):qo E 183 [jr xs] st fun r st'=>r=Sv (zu xs)∧st'=st:=by
 refine zg [.a (jr xs)] (qq _) Tryz.func183 rfl rfl (fun _=>rfl) rfl fun S0=>?_;have hxl:=hx.len;have e8:(xs.map fldA).length=xs.length:=by simp
 apply qd [];repeat' (first|apply And.intro|(intro h;try exact cDd)|exact cSd|apply qb []|refine exr ?_|refine qe ?_)
 refine zw (X:=Nat) (fun k=>⟨[(0,.a (jr xs)),(3,.s (zu (xs.take k))),(4,.i k)],[],0⟩) (fun k=>k≤xs.length) (fun k=>xs.length - k) 0 (by omega) ?_ ?_
 ·skip
  repeat' (first|apply And.intro|(intro h;try exact cDd)|exact cSd|apply qb []|refine exr ?_|refine qe ?_)
 ·rintro k hk
  by_cases b4:k<xs.length
  ·obtain⟨f,hf⟩:∃ f,xs[k]? = some f:=⟨_,List.getElem?_eq_getElem b4⟩
   have b5:(xs.map fldA)[k]? = some (fldA f):=by simp [hf]
   obtain⟨pz,hf2⟩:=hx.val f (List.mem_of_getElem? hf);have i5:=qud (xs.take k) fun g hg=>hx.val g (List.mem_of_mem_take hg);rw [List.length_take] at i5;have i6:=qrm f;have lg:=fun st=>q24 f st pz hf2
   have d2:zu (xs.take (k+1))=zu (xs.take k)++zi (zm f):=by
    obtain⟨_,rfl⟩:=List.getElem?_eq_some_iff.1 hf;rw [← List.take_append_getElem b4,qyd,qye]
   have cx:((zm f).map fun x=>Sv x).length=(zm f).length:=by simp
   have hsn:=qlv (zm f);apply qd [];repeat' (first|apply And.intro|(intro h;try exact cDd)|(refine Exists.intro (k) ⟨by omega,_,b5,?_⟩)|exact⟨Tryz.call252⟩|refine cpe lg ?_|exact cSd|apply qb []|refine exr ?_|refine qe ?_)
   refine zw (X:=Nat) (fun j=>⟨[(0,.a (jr xs)),(3,.s (zu (xs.take k)++zi ((zm f).take j))),(4,.i k),(17,.a (Ss (zm f))),(18,.i ((zm f).map fun x=>Sv x).length),(19,.i j)],[],0⟩) (fun j=>j≤(zm f).length) (fun j=>(zm f).length - j) 0 (by omega) ?_ ?_
   ·skip
    repeat' (first|apply And.intro|(intro h;try exact cDd)|exact cSd|apply qb []|refine exr ?_|refine qe ?_)
    all_goals (simp [zi];done)
   ·rintro j hj
    by_cases hjl:j<(zm f).length
    ·obtain⟨a,ha⟩:∃ a,(zm f)[j]? = some a:=⟨_,List.getElem?_eq_getElem hjl⟩
     have tn:((zm f).map fun x=>Sv x)[j]? = some (Sv a):=by simp [ha]
     have htj:zi ((zm f).take (j+1))=zi ((zm f).take j)++a++[10]:=by
      obtain⟨_,rfl⟩:=List.getElem?_eq_some_iff.1 ha;rw [← List.take_append_getElem hjl,y7,qih,List.append_assoc]
     have hbj:(zi ((zm f).take (j+1))).length≤(zi (zm f)).length:=by
      have:=congrArg (fun l=>(zi l).length) (List.take_append_drop (j+1) (zm f));simp only [y7,List.length_append] at this;omega
     have bn:=congrArg List.length htj;simp only [List.length_append,List.length_cons,List.length_nil] at bn;apply qd [];repeat' (first|apply And.intro|(intro h;try exact cDd)|(refine Exists.intro (j) ⟨by omega,_,tn,?_⟩)|(refine Exists.intro (j+1) ⟨by omega,by omega,?_⟩)|exact cSd|apply qb []|refine exr ?_|refine qe ?_)
     all_goals first|(rw [htj];simp;done)|(simp only [List.length_append,List.length_cons,List.length_nil];omega)
    ·rw [List.take_of_length_le (show (zm f).length≤j by omega)]
     apply qd [];repeat' (first|apply And.intro|(intro h;try exact cDd)|(refine Exists.intro (k+1) ⟨by omega,by omega,?_⟩)|exact cSd|apply qb []|refine exr ?_|refine qe ?_)
     all_goals (rw [d2];done)
  ·rw [List.take_of_length_le (by omega)]
   apply qd [];repeat' (first|apply And.intro|(intro h;try exact cDd)|exact cSd|apply qb []|refine exr ?_|refine qe ?_)
def accK (l:qa) (r:List qa) (k:Nat):List qa:=wv 32 (kr l)::(r.take k).map fun s=>wv 46 (s.drop 1)
theorem q9m {l:qa} {r:List qa} {k:Nat} {a:qa} (h:r[k]? = some a):(accK l r (k+1)).map (fun x=>Sv x)=(accK l r k).map (fun x=>Sv x)++[Sv (wv 46 (a.drop 1))]:=by
 obtain⟨b4,rfl⟩:=List.getElem?_eq_some_iff.1 h;unfold accK;rw [← List.take_append_getElem b4];simp only [List.map_append,List.map_cons,List.map_nil,List.cons_append]
set_option maxHeartbeats 4000000 in
theorem qn4 (ls:List qa) (st:List AObj) (hB:LsB ls):qo E 210 [Ss ls] st fun r st'=>r=qhf ls∧st'=st:=by
 refine zg [.a (Ss ls)] (q31 _) Tryz.func210 rfl rfl (fun _=>rfl) rfl fun S0=>?_;have hL:=hB.len;have e8:(ls.map fun x=>Sv x).length=ls.length:=by simp
 cases ls with
 |nil=>
  apply qd [2]
  repeat' (first|apply And.intro|(intro h;try exact cDd)|exact cSd|apply qb [2]|refine exr ?_|refine qe ?_)
 |cons l r=>
  have hl:=hB.val l (by simp);simp only [List.length_cons] at hL e8;have cq:((l::r).map fun x=>Sv x)[0]? = some (Sv l):=rfl;have hrm:(r.map fun x=>Sv x).length=r.length:=by simp
  by_cases h4:qv l=4
  ·have hkf:=qk6.1 h4
   have hcu:=fun st=>q8i l st (by omega) h4;have ht1:=fun st=>q65 (kr l) 32 st;apply qd [2,31];repeat' (first|apply And.intro|(intro h;try exact cDd)|(refine Exists.intro (0) ⟨by omega,_,cq,?_⟩)|exact⟨Tryz.call272⟩|refine cpe hcu ?_|exact⟨Tryz.call74⟩|refine cpe ht1 ?_|exact cSd|apply qb [2,31]|refine exr ?_|refine qe ?_)
   refine zw (X:=Nat) (fun k=>⟨[(2,.bx 0 0),(4,.s (z6 l)),(7,.tp 1),(33,.a (.sl 1 (r.map fun x=>Sv x) none)),(34,.i (r.map fun x=>Sv x).length),(35,.i k)],[(0,some (.cells 111 [.s [],.s []])),(1,some (.tip 1 9 ((accK l r k).map fun x=>Sv x)))],2⟩) (fun k=>k≤r.length∧∀ x∈r.take k,qv x=3) (fun k=>r.length - k) 0 ⟨by omega,by simp⟩ ?_ ?_
   ·skip
    repeat' (first|apply And.intro|(intro h;try exact cDd)|exact cSd|apply qb []|refine exr ?_|refine qe ?_)
   ·rintro k ⟨hk,h3⟩
    have hacl:((accK l r k).map fun x=>Sv x).length=k+1:=by unfold accK;simp;omega
    by_cases b4:k<r.length
    ·obtain⟨a,ha⟩:∃ a,r[k]? = some a:=⟨_,List.getElem?_eq_getElem b4⟩
     have b5:(r.map fun x=>Sv x)[k]? = some (Sv a):=by simp [ha]
     have hav:=hB.val a (by simp [List.mem_of_getElem? ha]);have rf:=fun st=>ql7 a st (by omega);have ht2:=fun st=>q65 (a.drop 1) 46 st;have r7:=q9m (l:=l) ha;by_cases br:qv a=3
     ·obtain⟨h2,_⟩:=ql8 br
      simp only [br] at rf
      have d2:r.take (k+1)=r.take k++[a]:=by
       obtain⟨_,rfl⟩:=List.getElem?_eq_some_iff.1 ha;rw [List.take_append_getElem]
      apply qd [];repeat' (first|apply And.intro|(intro h;try exact cDd)|(refine Exists.intro (k) ⟨by omega,_,b5,?_⟩)|exact⟨Tryz.call122⟩|refine cpe rf ?_|exact⟨Tryz.call74⟩|refine cpe ht2 ?_|(refine Exists.intro (k+1) ⟨⟨by omega,by rw [d2];exact qnc h3 br⟩,by omega,?_⟩)|exact cSd|apply qb []|refine exr ?_|refine qe ?_)
      all_goals first|(rw [r7];done)|(rw [r7];simp [SV.evs,SV.ev];done)|(simp only [List.length_cons,List.length_nil];omega)
     ·have bv:zr (l::r)=(([],[]),2):=if_neg fun h=>br (h.2.2 a (List.mem_of_getElem? ha))
      unfold qhf;rw [bv];apply qd [];repeat' (first|apply And.intro|(intro h;try exact cDd)|(refine Exists.intro (k) ⟨by omega,_,b5,?_⟩)|exact⟨Tryz.call122⟩|refine cpe rf ?_|exact absurd (by assumption) br|exact cSd|apply qb []|refine exr ?_|refine qe ?_)
    ·rw [List.take_of_length_le (by omega)] at h3
     have hkr:k=r.length:=by omega
     subst hkr;have hok:qs7 (l::r):=⟨by simp,h4,h3⟩;have hjl:=qs0 r fun s hs=>hB.val s (by simp [hs]);have hj:=za4 (wv 32 (kr l)) r;have hjv:Lib.join (accK l r r.length) [10]=qbj l r:=by unfold accK;rw [List.take_length];exact hj
     have nc:(wv 32 (kr l)).length≤l.length:=by unfold wv kr;split <;> simp <;> omega
     have pm:(qbj l r).length≤140737488355328:=by
      unfold qbj;rw [List.length_append];omega
     have hjn:=fun tip st=>q6e (accK l r r.length) tip [10] (qbj l r) st hjv (by rw [← List.length_map (f:=fun x=>Sv x),hacl];omega) pm;have hkl:(z6 l).length<4294967281:=by have:=hkf.2.2.2.1;omega
     have n6:zr (l::r)=if 1000<(qbj l r).length then (([],[]),6) else ((z6 l,qbj l r),0):=if_pos hok;have hjn0:=hjn none;unfold qhf;by_cases hv:1000<(qbj l r).length
     ·have hcf:vd (z6 l,qbj l r)=6:=(if_neg (by simpa using hkf.2.2)).trans (if_pos hv)
      have cn:=fun st=>qj0 (z6 l,qbj l r) st hkl (by rw [hcf];decide);rw [hcf] at cn;rw [n6,if_pos hv];apply qd [10];repeat' (first|apply And.intro|(intro h;try exact cDd)|exact⟨Tryz.call127⟩|refine cpe hjn0 ?_|exact⟨Tryz.call273⟩|refine cpe cn ?_|exact cSd|apply qb [10]|refine exr ?_|refine qe ?_)
     ·have hcf:vd (z6 l,qbj l r)=0:=(if_neg (by simpa using hkf.2.2)).trans (if_neg hv)
      have cn:=fun st=>qjz (z6 l,qbj l r) st hkl hcf;rw [n6,if_neg hv];apply qd [10];repeat' (first|apply And.intro|(intro h;try exact cDd)|exact⟨Tryz.call127⟩|refine cpe hjn0 ?_|exact⟨Tryz.call273⟩|refine cpe cn ?_|exact cSd|apply qb [10]|refine exr ?_|refine qe ?_)
  ·have bv:zr (l::r)=(([],[]),2):=if_neg fun h=>h4 h.2.1
   have hcu:=fun st=>q4w l st (by omega) h4;unfold qhf;rw [bv];apply qd [2];repeat' (first|apply And.intro|(intro h;try exact cDd)|(refine Exists.intro (0) ⟨by omega,_,cq,?_⟩)|exact⟨Tryz.call272⟩|refine cpe hcu ?_|exact cSd|apply qb [2]|refine exr ?_|refine qe ?_)
end Go.Proofs.YtneejjefekdgjaaGreatDoor
namespace Go.Av
open Go Go.RowKit
theorem qw0 {E:Env} {rd:Option Nat} {N:Nat} {B:Bs} {c:Code} {Q:Exit→Conf→Prop} {C:Conf} (d:Nat) {b sz:Nat} {T:TypeId} {ys:List AV} (hd:lkS C.sl d=some (.tp b)) (hb:hpF C.hp b=some (.own sz T ys))
  (h:Sm E rd N B c Q ⟨(d,.a (.sl sz ys none))::C.sl,(b,none)::C.hp,C.nx⟩):Sm E rd N B c Q C:=⟨fun s hs=>by
 obtain⟨t,S,df⟩:=s;obtain⟨ρ,hF,hR⟩:=hs;simp only at hF hR;have ht:=hR.sl d _ hd;have hok:=hR.hp.ok b _ hb;simp only [SV.ev,qhe hok] at ht;rcases hok with⟨rfl,f1⟩ | ⟨o,ver,cap,pad,f1,f2,f3,f4,f5,f6⟩
 ·have hP:=hR.drop (o:=S.length) hb (fun o' b6=>by rw [f1.loc] at b6;simp at b6) (.inr (List.set_eq_of_length_le (by simp)))
  rw [List.set_eq_of_length_le (by simp)] at hP;refine q0y (t':=Av.put t d (.sl sz [] none)) (fun x=>?_) (h.run ⟨Av.put t d (.sl sz [] none),S,df⟩ ⟨ρ,⟨hF.dm,hF.nd,hF.rig,hF.le,hF.dz⟩,hP.slot d⟩);by_cases e:x=d
  ·subst e
   rw [xd,ht];exact f1.wk sz
  ·rw [qab _ _ _ _ e]
   exact wx _
 ·rw [f1] at ht
  have hP:=hR.drop (o:=o) hb (fun o' b6=>by rw [f1] at b6;simpa [zq] using b6.symm) (.inl (by rw [f1];rfl));have hr:=h.run ⟨Av.put t d (.sl sz ys none),S.set o .dead,df⟩ ⟨ρ,⟨fun x hx=>?_,hF.nd,hF.rig,hF.le,hF.dz⟩,hP.slot d⟩
  ·exact⟨fun B0 w0 G a w hL hI=>by
    obtain⟨G1,h1,h2⟩:=hI.osPub (xs:=ys) (sz:=sz) ht f2 rfl f5 f4 (by rw [List.length_append,zt f4];omega) (by rw [List.drop_zero,← zt f4,List.take_left])
    exact wpIn_mono (hr.run B0 w0 G1 a w hL h2) fun _ _ _ ⟨G',s',hG,k1,k2⟩=>⟨G',s',h1.trans hG,k1,k2⟩⟩
  ·have hm:=hF.dm x hx
   refine⟨?_,hm.2⟩
   have a6:o≠x:=fun e=>by
    rw [← e] at hm;rw [f2] at hm;simp at hm
   simp only;rw [List.getElem?_set_ne a6]
   exact hm.1⟩
section
variable {E : Env} {rd : Option Nat} {N : Nat} {ops : Array Oper} {K : AS → Prop} {s : AS} {rest : List Oper} {d : Option Tmp} {T : TypeId} {p : String} {af : Array Edge}
theorem q4a {x y:Operand} {t:TypeId} {sz:Nat} {agg:Bool} {o ver off:Nat} {T':TypeId} {cs xs:List AV} {r:AV} (hx:ql N s x = .bx o ver off) (hy:Wk (ql N s y) r) (ho:s.st[o]? = some (.cells ver T' cs)) (ht:tyOf E.P t=some (sz,agg))
  (hok:r.okc=true) (hc:r.cells=xs) (d9:xs.length=sz) (h1:∀ z∈xs,z.one=true) (d3:off+sz≤cs.length)
  (h:AOps E rd N ops rest K (AS.put ⟨s.t,s.st.set o (.cells ver T' (zx cs off xs)),s.df⟩ d (.v undef))):AOps E rd N ops (⟨d,.store t x y,T,p,af,none⟩::rest) K s:=by
 refine za rfl (qqz nofun fun B0 w0 G a w _ hI=>?_);have he:=hI.eval_of hx;have u6:=hy _ _ (hI.eval y);have cz:=u6.cells hok;generalize hv:a.eval x=v at he;generalize hv2:a.eval y=v2 at u6 cz;rw [hc] at cz
 cases he with
 |bx _ _ _ b hn r9 hb=>
  obtain⟨_,g1,g2,g3,c,g4,g5,g6⟩:=hI.agree.ob o _ ho;have hb:=hb g1;subst hb;have hcl':RelC G xs v2.cells.toList.toArray:=by simpa using cz
  have a7:v2.cells.size=sz:=by rw [← cz.1];exact d9
  have d6:∀ u∈v2.cells.toList,u.oneCell'=true:=fun u hu=>by
   obtain⟨i,hi⟩:=List.getElem?_of_mem hu;obtain⟨z,hz⟩:=quf hi (Nat.le_of_eq (by simpa using cz.1.symm));exact (cz.2 i z u hz (by simpa using hi)).one (h1 z (List.mem_of_getElem? hz))
  have b7:=run_storeCells_at E.P (G.ob o).blk off T' v2.cells.toList 0 c w g4 (by simp [a7];omega) d6;have g9:=qvr (off:=off) g5 g6 hcl' (by omega);refine⟨_,G,_,?_,.refl G,hI.agree.setRow ho g9.1 g9.2,h⟩;simp only [execOp,hv,hv2,Instr.storeAt,Instr.sureAddr];simp [storeVar,(vj ht w).1,a7,b7]
end
section
variable {E : Env} {N : Nat} {ops : Array Oper} {nx : Nat} {sl : List (Nat × SV)} {H : Nat → Option SR} {k : Ef → Prop} {d : Option Tmp} {T : TypeId} {p : String} {af : Array Edge}
theorem qne {t e:TypeId} {x y:Operand} {b off sz i j sz':Nat} {agg:Bool} {xs:List AV} {z z' u:AV} {v:SV} (hx:sval N sl x=some (.bx b off)) (hy:sval N sl y=some v) (hf:frz (resF (b::v.ks) H) v=some u) (hH:H b=some (.own sz e xs)) (ht:tyOf E.P t=some (sz',agg)) (ho:off=0+i * sz+j) (hz:xs[i]? = some z) (u0:z'.cells=zx z.cells j u.cells)
  (hj:(u.okc && Nat.beq u.cells.length sz' && j7 u.cells && Nat.ble (j+sz') sz)=true) (h:k ⟨.a (.v undef),b::v.ks,[(b,some (.own sz e (xs.set i z')))],nx⟩):∃ e,Loc E N ops ⟨d,.store t x y,T,p,af,none⟩ nx sl H e∧k e:=by
 simp only [Bool.and_eq_true] at hj;obtain⟨⟨⟨j1,j2⟩,j3⟩,j4⟩:=hj;have j2:=Nat.eq_of_beq_eq_true j2;have j4:=Nat.le_of_ble_eq_true j4;have hHb:resF (b::v.ks) H b=some (.own sz e xs):=by unfold resF;simp [memN,hH]
 refine⟨_,fun df rd K rest ρ t' S hs hS hk=>?_,h⟩;rcases hS.ok b _ hHb with⟨rfl,_⟩ | ⟨o,ver,cap,pad,e1,e2,e3,e4,e5,e6⟩
 ·simp at hz
 ·subst ho
  obtain⟨q1,q2⟩:=qua (pad:=pad) e4 hz u0 (by omega);have b4:=lt_of_getElem? hz
  refine q4a (o:=o) (ver:=ver) (off:=0+i * sz+j) (xs:=u.cells) ((q9 hs hx).trans (by simp only [SV.ev,e1,bxAt])) (by rw [q9 hs hy];exact qib hS v u hf) e2 ht j1 rfl j2 (by simpa [j7] using j3) (by
   have h1:i * sz+sz≤xs.length * sz:=by rw [← Nat.succ_mul];exact Nat.mul_le_mul_right _ b4
   rw [List.length_append,zt e4]
   omega) ?_
  rw [q1]
  have f9:∀ y∈xs.set i z',y.cells.length=sz:=fun y hy=>by
   rcases List.mem_or_eq_of_mem_set hy with h|rfl
   ·exact e4 y h
   ·exact q2
  have key:∀ k r,chF [(b,some (.own sz e (xs.set i z')))] (resF (b::v.ks) H) k=some r→(k=b∧r = .own sz e (xs.set i z'))∨(k≠b∧resF (b::v.ks) H k=some r):=fun k r hk=>by
   simp only [chF,lkS] at hk;by_cases e:b=k
   ·subst e
    have:Nat.beq b b=true:=by simp
    rw [this] at hk;simp only [cond_true,Option.some.injEq] at hk;exact .inl ⟨rfl,hk.symm⟩
   ·rw [j9 e] at hk
    exact .inr ⟨fun h=>e h.symm,hk⟩
  have tw:∀ k r,k≠b→resF (b::v.ks) H k=some r→∀ o',zq (ρ k)=some o'→o'≠o:=fun k r a6 hk o' b6 e=>hS.sep k b _ _ a6 hk hHb o' b6 (by rw [e1,e];rfl);refine hk ρ _ ⟨fun _ _=>rfl,⟨fun k r hk=>?_,fun k k' r r' a6 g1 g2=>?_⟩,by simp,fun j hj a6=>?_,fun k r hk o' b6=>?_⟩
  ·rcases key k r hk with⟨rfl,rfl⟩ | ⟨a6,hk⟩
   ·refine .inr ⟨o,ver,cap,pad,by rw [e1,List.length_set],qar e2,?_,f9,by rw [List.length_set];exact e5,e6⟩
    rw [List.length_append,zt f9,List.length_set,← zt e4,← List.length_append];exact e3
   ·have h3:=hS.ok k r hk
    cases r with
    |cells T1 cs=>
     obtain⟨o',v',f1,f2,f3⟩:=h3
     exact⟨o',v',f1,(List.getElem?_set_ne (tw k _ a6 hk o' (by rw [f1];rfl)).symm).trans f2,f3⟩
    |tip z T1 zs=>exact SR.ok_of (f:=fun _=>false) (r:=.tip z T1 zs) (ρ:= ρ) rfl (fun k hk=>by simp at hk) h3 fun o' b6=>List.getElem?_set_ne (tw k _ a6 hk o' b6).symm
    |own z T1 zs=>exact SR.ok_of (f:=fun _=>false) (r:=.own z T1 zs) (ρ:= ρ) rfl (fun k hk=>by simp at hk) h3 fun o' b6=>List.getElem?_set_ne (tw k _ a6 hk o' b6).symm
    |obj P1=>exact SR.ok_of (f:=fun _=>false) (r:=.obj P1) (ρ:= ρ) rfl (fun k hk=>by simp at hk) h3 fun o' b6=>List.getElem?_set_ne (tw k _ a6 hk o' b6).symm
    |rows T1 ys cs=>exact OwnS.of (show OwnS S 1 T1 (ys++SV.evs ρ cs) (ρ k) from h3) fun o' b6=>List.getElem?_set_ne (tw k _ a6 hk o' b6).symm
  ·rcases key k r g1 with⟨rfl,rfl⟩ | ⟨n1,g1⟩
   ·rcases key k' r' g2 with⟨rfl,rfl⟩ | ⟨n2,g2⟩
    ·exact absurd rfl a6
    ·exact fun o' b6=>hS.sep _ _ _ _ a6 hHb g2 o' b6
   ·rcases key k' r' g2 with⟨rfl,rfl⟩ | ⟨n2,g2⟩
    ·exact fun o' b6=>hS.sep _ _ _ _ a6 g1 hHb o' b6
    ·exact fun o' b6=>hS.sep _ _ _ _ a6 g1 g2 o' b6
  ·have:=a6 b _ hHb
   rw [e1] at this;exact List.getElem?_set_ne (fun e=>this (by rw [e];rfl))
  ·rcases key k r hk with⟨rfl,rfl⟩ | ⟨n1,hk⟩
   ·exact .inr ⟨k,_,hHb,b6⟩
   ·exact .inr ⟨k,_,hk,b6⟩
end
end Go.Av
namespace Go.Av
open Go Go.RowKit
def qcn (ns:List Int):List Int:=ns.mergeSort fun x y=>decide (x≤y)
theorem qvo (ns:List Int):(qcn ns).Perm ns:=List.mergeSort_perm ns _
theorem qig (ns:List Int):(qcn ns).length=ns.length:=(qvo ns).length_eq
theorem q3p (ns:List Int):(qcn ns).Pairwise (·≤·):=by
 have:=List.pairwise_mergeSort (le:=fun x y:Int=>decide (x≤y)) (by intro a b c h1 h2;simp at *;omega) (by intro a b;simp;omega) ns;exact this.imp fun h=>by simpa using h
theorem q8w {w:World} {b:Nat} {c:Array Value} {T:TypeId} {fr:Nat×Nat} (d:Array Int) (h:w.heap[b]? = some (.cells c T fr)):Sort.putRow (Value.int .i64) w b 0 d=w.setRow b (Sort.putCells (Value.int .i64) 0 d c):=by
 unfold Sort.putRow Sort.mapBlock World.setRow;congr 1;apply Array.ext_getElem?;intro k;rw [Array.getElem?_modify,Array.getElem?_modify];by_cases hk:b=k
 ·subst hk
  rw [if_pos rfl,if_pos rfl,h];rfl
 ·rw [if_neg hk,if_neg hk]
theorem q35 {E:Env} {f:FuncId} (hC:∀ (blk off cap:Nat) (zs:List Int) (w:World),Sort.Holds (Value.int .i64) w blk off zs.toArray→blk<w.heap.size→zs.length<4611686018427387904 →
   Calls E.P f #[.slice (some ⟨blk,off,none⟩) zs.length cap] w fun e w'=>e = .returned (.tuple #[])∧∃ n os,w'=Sort.grow (Sort.putRow (Value.int .i64) (Sort.ahead w n) blk off (zs.mergeSort fun x y=>decide (x≤y)).toArray) os)
  {st:List AObj} {o ver cap:Nat} {T:TypeId} {ns:List Int} {pad:List AV} (ho:st[o]? = some (.cells ver T (ns.map (fun n=>Iv n)++pad))) (hl:ns.length<4611686018427387904) :
  qo E f [.os o ver 0 ns.length cap] st fun r st'=>r = .tu []∧st'=st.set o (.cells ver T ((qcn ns).map (fun n=>Iv n)++pad)):=by
 refine⟨fun B0 w0 G vs w hL hA hR=>?_⟩
 obtain⟨v,rfl⟩:∃ v,vs = #[v]:=by
  have h1:vs.size=1:=by have:=hR.1;simpa using this.symm
  refine⟨vs[0],Array.ext (by simp [h1]) fun i h2 h3=>?_⟩;have:i=0:=by omega
  subst this;rfl
 have hr:=hR.2 0 _ v rfl rfl;obtain⟨h0,h1,h2,h3,c,h4,h5,h6⟩:=hA.ob o _ ho
 cases hr with
 |os _ _ _ _ b _ hn hv hb=>
  have hb:=hb h1;subst hb
  have b5:∀ j,j<ns.length→c[j]? = some (.int .i64 (ns.getD j 0)):=fun j hj=>by
   have b4:j<c.size:=by rw [← h5];simp;omega
   have e1:(ns.map (fun n=>Iv n)++pad)[j]? = some (Iv (ns.getD j 0)):=by
    rw [List.getElem?_append_left (by simpa using hj)];simp [List.getD,hj]
   have:=h6 j _ c[j] e1 (by simp [b4]);rw [Array.getElem?_eq_getElem b4];generalize c[j]=y at this
   cases this
   rfl
  have hH:Sort.Holds (Value.int .i64) w (G.ob o).blk 0 ns.toArray:=fun j hj=>by
   have hj:j<ns.length:=by simpa using hj
   refine⟨?_,?_⟩
   ·simp only [World.cell?,h4,Nat.zero_add,Option.isSome_none,Bool.false_eq_true,if_false]
    rw [b5 j hj];simp [List.getD,hj]
   ·simp only [World.frozen?,h4]
    simp
  have hblk:(G.ob o).blk<w.heap.size:=(hA.ob o _ ho).lt trivial;refine (hC (G.ob o).blk 0 cap ns w hH hblk hl).mono ?_;rintro e w' ⟨rfl,n,os,rfl⟩;have bw:zk B0 w0 G st (Sort.ahead w n):=hA.fresh ⟨rfl,rfl,rfl,Nat.le_refl _,fun _ _=>rfl⟩;have sf:(Sort.ahead w n).heap[(G.ob o).blk]? = some (.cells c T (0,0)):=h4;have pg:=q8w (w:=Sort.ahead w n) (ns.mergeSort fun x y=>decide (x≤y)).toArray sf;have cx:=qig ns
  have ck:zk B0 w0 G (st.set o (.cells ver T ((qcn ns).map (fun n=>Iv n)++pad))) (Sort.putRow (Value.int .i64) (Sort.ahead w n) (G.ob o).blk 0 (ns.mergeSort fun x y=>decide (x≤y)).toArray):=by
   rw [pg];refine bw.setRow ho ?_ fun i x y hx hy=>?_
   ·simp only [Sort.putCells,Array.size_mapIdx,← h5]
    simp [cx]
   ·simp only [Sort.putCells,Array.getElem?_mapIdx] at hy
    have b4:i<c.size:=by
     rcases Nat.lt_or_ge i c.size with h|h
     ·exact h
     ·rw [Array.getElem?_eq_none h] at hy;simp at hy
    rw [Array.getElem?_eq_getElem b4] at hy;simp only [Option.map_some,Option.some.injEq] at hy;by_cases hi:i<ns.length
    ·rw [if_pos (by simp;omega)] at hy
     rw [List.getElem?_append_left (by simp;omega)] at hx;have bq:i<(qcn ns).length:=by omega
     rw [List.getElem?_map,List.getElem?_eq_getElem bq] at hx;simp only [Option.map_some,Option.some.injEq] at hx;subst hx;subst hy
     have:(ns.mergeSort fun x y=>decide (x≤y)).toArray[i - 0]! = (qcn ns)[i]:=by
      rw [Nat.sub_zero,getElem!_pos _ i (by simpa [qcn] using bq)];simp [qcn]
     rw [this];exact .v _
    ·rw [if_neg (by simp;omega)] at hy
     subst hy;rw [List.getElem?_append_right (by simp;omega)] at hx;refine h6 i x c[i] ?_ (by simp [b4]);rw [List.getElem?_append_right (by simp;omega)]
     simpa [cx] using hx
  have hgr:Below (Sort.putRow (Value.int .i64) (Sort.ahead w n) (G.ob o).blk 0 (ns.mergeSort fun x y=>decide (x≤y)).toArray).heap.size (Sort.putRow (Value.int .i64) (Sort.ahead w n) (G.ob o).blk 0 (ns.mergeSort fun x y=>decide (x≤y)).toArray) (Sort.grow (Sort.putRow (Value.int .i64) (Sort.ahead w n) (G.ob o).blk 0 (ns.mergeSort fun x y=>decide (x≤y)).toArray) os):=by
   generalize Sort.putRow (Value.int .i64) (Sort.ahead w n) (G.ob o).blk 0 (ns.mergeSort fun x y=>decide (x≤y)).toArray=w2;exact⟨rfl,rfl,rfl,by simp [Sort.grow],fun k hk=>by simp [Sort.grow,Array.getElem?_append,hk]⟩
  exact⟨.tuple #[],G,.tu [],_,rfl,.refl G,ck.fresh hgr,.tu _ _ rfl (by simp),rfl,rfl⟩
theorem qo2 (ns:List Int):flat (ns.map fun n=>Iv n)=ns.map fun n=>Iv n:=by
 unfold flat;rw [List.flatMap_map]
 induction ns with
 |nil=>rfl
 |cons a r ih=>rw [List.flatMap_cons,ih];rfl
theorem zg8 {E:Env} {f:FuncId} {H:Nat→Option SR} {nx b:Nat} {e:TypeId} {ns:List Int} (hC:∀ (blk off cap:Nat) (zs:List Int) (w:World),Sort.Holds (Value.int .i64) w blk off zs.toArray→blk<w.heap.size→zs.length<4611686018427387904 →
   Calls E.P f #[.slice (some ⟨blk,off,none⟩) zs.length cap] w fun e w'=>e = .returned (.tuple #[])∧∃ n os,w'=Sort.grow (Sort.putRow (Value.int .i64) (Sort.ahead w n) blk off (zs.mergeSort fun x y=>decide (x≤y)).toArray) os)
  (hN:∀ (p:Option Addr) (cap:Nat) (w:World),Calls E.P f #[.slice p 0 cap] w fun e w'=>e = .returned (.tuple #[])∧w'=w)
  (hH:H b=some (.own 1 e (ns.map fun n=>Iv n))) (hl:ns.length<4611686018427387904):v4 E f [.tp b] nx H ⟨nf (.tu []),[b],[(b,some (.own 1 e ((qcn ns).map fun n=>Iv n)))],nx⟩:=fun ρ S hS=>by
 have hok:OwnS S 1 e (ns.map fun n=>Iv n) (ρ b):=hS.ok b _ ((xf b).trans hH);have pb:SV.evs ρ [.tp b]=[ρ b]:=by simp only [SV.evs,SV.ev,qqo hok]
 rw [pb]
 have key:∀ k r,chF [(b,some (.own 1 e ((qcn ns).map fun n=>Iv n)))] (resF [b] H) k=some r→k=b∧r = .own 1 e ((qcn ns).map fun n=>Iv n):=fun k r hk=>by
  simp only [chF,lkS] at hk;by_cases e:b=k
  ·subst e
   have:Nat.beq b b=true:=by simp
   rw [this] at hk;simp only [cond_true,Option.some.injEq] at hk;exact⟨rfl,hk.symm⟩
  ·rw [j9 e] at hk
   have:=(we hk).1;simp only [memN,List.any_cons,List.any_nil,Bool.or_false] at this;exact absurd (Nat.eq_of_beq_eq_true this).symm e
 have fin:∀ S',OwnS S' 1 e ((qcn ns).map fun n=>Iv n) (ρ b)→S.length≤S'.length→(∀ j,j<S.length→zq (ρ b)≠some j→S'[j]? = S[j]?) →
   ∃ ρ',AV.tu []=(nf (.tu [])).ev ρ'∧qhi ρ S nx H ⟨nf (.tu []),[b],[(b,some (.own 1 e ((qcn ns).map fun n=>Iv n)))],nx⟩ ρ' S':=fun S' g1 g2 g3=>by
  refine⟨ρ,(qk9 ρ _).symm,fun _ _=>rfl,⟨fun k r hk=>?_,fun k k' r r' a6 q1 q2=>absurd ((key k r q1).1.trans (key k' r' q2).1.symm) a6⟩,g2,fun j hj a6=>g3 j hj (a6 b _ ((xf b).trans hH)),fun k r hk o' b6=>?_⟩
  ·obtain⟨rfl,rfl⟩:=key k r hk
   exact g1
  ·obtain⟨rfl,rfl⟩:=key k r hk
   exact .inr ⟨k,_,(xf k).trans hH,b6⟩
 rcases hok with⟨h0,hnr⟩ | ⟨o,ver,cap,pad,e1,e2,e3,e4,e5,e6⟩
 ·have hns:ns=[]:=by simpa using h0
  subst hns;refine⟨fun B0 w0 G vs w hL hA hR=>?_⟩
  obtain⟨v,rfl⟩:∃ v,vs = #[v]:=by
   have h1:vs.size=1:=by have:=hR.1;simpa using this.symm
   refine⟨vs[0],Array.ext (by simp [h1]) fun i h2 h3=>?_⟩;have:i=0:=by omega
   subst this;rfl
  have hr:=hR.2 0 _ v rfl rfl;obtain⟨base,rfl⟩:=hnr.val G v hr;refine (hN base 0 w).mono ?_;rintro e' w' ⟨rfl,rfl⟩;exact⟨.tuple #[],G,.tu [],S,rfl,.refl G,hA,.tu _ _ rfl (by simp),fin S (.inl ⟨by simp [qcn],hnr⟩) (Nat.le_refl _) fun _ _ _=>rfl⟩
 ·rw [qo2] at e2 e3
  rw [List.length_map] at e1 e5;have hS2:=q35 hC (cap:=cap+1) e2 hl;rw [e1];refine hS2.mono ?_;rintro r S' ⟨rfl,rfl⟩;refine fin _ (.inr ⟨o,ver,cap,pad,?_,?_,?_,fun x hx=>?_,?_,e6⟩) (by simp) fun j hj a6=>?_
  ·rw [e1,List.length_map,qig]
  ·rw [qo2]
   exact qar e2
  ·rw [qo2]
   simpa [qig] using e3
  ·obtain⟨n,_,rfl⟩:=List.mem_map.1 hx
   rfl
  ·rw [List.length_map,qig]
   exact e5
  ·rw [e1] at a6
   exact List.getElem?_set_ne fun e=>a6 (by rw [e];rfl)
end Go.Av
namespace Go.Pl
open Go Go.Proofs
structure ze where
 kind:Int
 raw:qa
 fields:List Fld
structure PSt where
 lines:List qa
 frm:Int
 full:Bool
 items:List ze
 block:List qa
 fields:List Fld
 records:Int
def jz (p:PSt):Option (Int×Int)×PSt:=
 if p.lines=[] then (none,p)
 else if (zr p.lines).2≠0 then (some (p.frm,(zr p.lines).2),p)
 else if p.full=true then (some (p.frm,11),p)
 else (none,{ p with lines:=[],fields:=p.fields++[(zr p.lines).1] })
end Go.Pl
namespace Go.Proofs.YtneejjefekdgjaaGreatDoor
open Go Go.Av Go.RowKit Go.Proofs Go.Pl
@[reducible] def jh (x : ze) : AV := .ag [Iv x.kind, Sv x.raw, jr x.fields]
@[reducible] def j5 (xs : List ze) : AV := .sl 3 (xs.map jh) none
@[reducible] def parC (c1 c2 c3 c4 : AV) (p : PSt) : List AV := [c1, Iv p.frm, Bv p.full, c2, c3, c4, Iv p.records]
@[reducible] def parO (c1 c2 c3 c4 : AV) (p : PSt) : AObj := .cells 0 140 (parC c1 c2 c3 c4 p)
structure ParS (b o:Nat) (p:PSt) (st:List AObj) (c1 c2 c3 c4:AV):Prop where
 lt:o<b
 le:b≤st.length
 ob:st[o]? = some (parO c1 c2 c3 c4 p)
 h1:TipC b st 1 9 (p.lines.map fun x=>Sv x) c1
 h2:TipC b st 3 52 (p.items.map jh) c2
 h3:TipC b st 1 9 (p.block.map fun x=>Sv x) c3
 h4:TipC b st 2 111 (p.fields.map fldA) c4
 ne:∀ t xs ys,c1 = .sl 1 xs (some t)→c3 = .sl 1 ys (some t)→False
structure Keep (b o:Nat) (st st':List AObj):Prop where
 len:st.length≤st'.length
 same:∀ k,k≠o→k<st.length→(k<b∨qj5 st[k]?)→st'[k]? = st[k]?
theorem Keep.trans {b o:Nat} {st st' st'':List AObj} (h:Keep b o st st') (k:Keep b o st' st''):Keep b o st st'':=⟨Nat.le_trans h.len k.len,fun i a6 hi hc=>by
 have e:=h.same i a6 hi hc;refine (k.same i a6 (Nat.lt_of_lt_of_le hi h.len) ?_).trans e;rw [e]
 exact hc⟩
def qh7 (a n:Int):AV:=.ifc 121 (.pp [Iv a,.ifc 62 (Iv n)])
def errP:Option (Int×Int)→AV
 |none=>.v .nilIface
 |some (a,n)=>qh7 a n
theorem qln (a n:Int):Pure (qh7 a n):=qci (qwu fun x hx=>by
 simp only [List.mem_cons,List.not_mem_nil,or_false] at hx;rcases hx with rfl|rfl
 ·exact qq _
 ·exact qci (qq _))
theorem qnk (a n:Int) (st:List AObj):qo E 124 [Iv a,.ifc 62 (Iv n)] st fun r st'=>r=qh7 a n∧st'=st:=by
 refine qx (qln a n) (qp Tryz.func124 rfl (Nat.le_of_ble_eq_true rfl) ?_);repeat' (first|(apply qoh;(iterate 3 exact rfl))|apply qn|apply qf|apply qh|apply qj|apply qg|(apply vh;exact rfl;exact rfl)|(apply xw;(iterate 3 exact rfl))|apply qt)
 exact qm rfl (q5 rfl) ⟨rfl,_,rfl⟩
theorem q9g (ls:List qa) (t:Option Nat) (st:List AObj) (hB:LsB ls) (h:(zr ls).2=0):qo E 210 [.sl 1 (ls.map fun x=>Sv x) t] st fun r st'=>r = .tu [fldA (zr ls).1,.v .nilIface]∧st'=st:=by
 have:=qn4 ls st hB;unfold qhf at this;rw [h] at this;exact qqx (qnx _ _ _) this
theorem q9h (ls:List qa) (t:Option Nat) (st:List AObj) (hB:LsB ls) (h:(zr ls).2≠0):qo E 210 [.sl 1 (ls.map fun x=>Sv x) t] st fun r st'=>r = .tu [fldA (zr ls).1,.ifc 62 (Iv (zr ls).2)]∧st'=st:=by
 have:=qn4 ls st hB;unfold qhf at this;rw [ql5 h] at this;exact qqx (qnx _ _ _) this
structure PB (n:Nat) (p:PSt):Prop where
 small:n<900000
 lines:p.lines.length≤n
 linesV:∀ s∈p.lines,s.length<1000000
 items:p.items.length≤n
 block:p.block.length≤n
 blockV:∀ s∈p.block,s.length<1000000
 fields:p.fields.length≤n
 rec0:0≤p.records
 rec1:p.records≤n
theorem PB.ls {n:Nat} {p:PSt} (h:PB n p):LsB p.lines:=⟨by have:=h.lines;have:=h.small;omega,h.linesV⟩
theorem ParS.pre {b o:Nat} {p:PSt} {st l:List AObj} {c1 c2 c3 c4:AV} (P:ParS b o p st c1 c2 c3 c4):ParS b o p (st++l) c1 c2 c3 c4:=
 ⟨P.lt,by have:=P.le;simp;omega,qcf P.ob,qkg P.h1,qkg P.h2,qkg P.h3,qkg P.h4,P.ne⟩
end Go.Proofs.YtneejjefekdgjaaGreatDoor
namespace Go.Pl
open Go Go.Proofs
def yl (p:PSt):PSt:=
 if p.block=[] then { p with block:=[],fields:=[] }
 else { p with items:=p.items++[⟨if p.fields=[] then 2 else 3,zi p.block,p.fields⟩],records:=if p.fields=[] then p.records else p.records+1,block:=[],fields:=[] }
def endP (p:PSt):Option (Int×Int)×PSt:=match (jz p).1 with
 |some e=>(some e,p)
 |none=>(none,yl (jz p).2)
theorem qpa:∀ (x:qa) (r:List qa),Lib.join (x::r) [10]++[10]=zi (x::r)
 |x,[]=>by rw [Lib.join_one];simp [zi]
 |x,y::r=>by
  have ih:=qpa y r;rw [Lib.join_cons] at ih ⊢;unfold Lib.joinTail at ih ⊢;simp only [List.map_cons,List.flatten_cons,zi,List.flatMap_cons] at ih ⊢;rw [← ih];simp
theorem qnv:∀ (r:List qa),(∀ s∈r,s.length<1000000)→(zi r).length≤1000001 * r.length
 | [],_=>by simp [zi]
 |a::r,h=>by
  have ih:=qnv r fun s hs=>h s (by simp [hs]);have ha:=h a (by simp);simp only [zi,List.flatMap_cons,List.length_append,List.length_cons,List.length_nil] at ih ⊢;omega
end Go.Pl
namespace Go.Proofs.YtneejjefekdgjaaGreatDoor
open Go Go.Av Go.RowKit Go.Proofs Go.Pl
theorem qh9 {n:Nat} {p:PSt} (h:PB n p) (hs:n+1<900000):PB (n+1) (jz p).2:=by
 have h1:=h.lines;have h2:=h.items;have h3:=h.block;have h4:=h.fields;have h5:=h.rec0;have h6:=h.rec1;unfold jz;split
 ·exact⟨hs,by simp only;omega,h.linesV,by simp only;omega,by simp only;omega,h.blockV,by simp only;omega,h5,by simp only;omega⟩
 ·split
  ·exact⟨hs,by simp only;omega,h.linesV,by simp only;omega,by simp only;omega,h.blockV,by simp only;omega,h5,by simp only;omega⟩
  ·split
   ·exact⟨hs,by simp only;omega,h.linesV,by simp only;omega,by simp only;omega,h.blockV,by simp only;omega,h5,by simp only;omega⟩
   ·exact⟨hs,by simp,by simp,by simp only;omega,by simp only;omega,h.blockV,by simp;omega,h5,by simp only;omega⟩
theorem zhw (xs:List qa) (tip:Option Nat) (st:List AObj) (a6:xs≠[]) (hN:xs.length≤900000) (hv:∀ s∈xs,s.length<1000000):qo E 127 [.sl 1 (xs.map fun x=>Sv x) tip,Sv [10]] st fun r st'=>r=Sv (Lib.join xs [10])∧st'=st:=by
 refine za3 xs tip [10] st (by omega) ?_;have h1:=qnv xs hv
 cases xs with
 |nil=>exact absurd rfl a6
 |cons x r=>
  have h2:=congrArg List.length (qpa x r);rw [List.length_append] at h2;simp only [List.length_cons,List.length_nil] at h2 h1 hN;omega
def parH (a:Nat) (p:PSt):List (Nat×Option SR):=[(0,some (.cells 140 [.tp a,.i p.frm,.b p.full,.tp (a+1),.tp (a+2),.tp (a+3),.i p.records])),(a,some (.tip 1 9 (p.lines.map fun x=>Sv x))),(a+1,some (.tip 3 52 (p.items.map jh))),(a+2,some (.tip 1 9 (p.block.map fun x=>Sv x))),(a+3,some (.tip 2 111 (p.fields.map fldA)))]
theorem qsh (n:Nat) (p:PSt) (hB:PB n p):v4 E 126 [.bx 0 0] 5 (hpF (parH 1 p)) ⟨.a (errP (jz p).1),wb (parH 1 p),parH 5 (jz p).2++ww (parH 1 p),9⟩:=by
 refine yj [.bx 0 0] (parH 1 p) 5 (.a (errP (jz p).1)) (parH 5 (jz p).2) 9 Tryz.func126 rfl rfl rfl rfl fun S F ρ=>?_;have hls:=hB.ls;have hsm:=hB.small;have d8:=hB.fields;by_cases h0:p.lines=[]
 ·have e:jz p=(none,p):=by unfold jz;rw [if_pos h0]
  rw [e];have ml:(p.lines.map fun x=>Sv x).length=0:=by simp [h0]
  apply qd [];repeat' (first|apply And.intro|(intro h;try exact cDd)|exact cSd|apply qb []|refine exr ?_|refine qe ?_)
 ·have ml:(p.lines.map fun x=>Sv x).length≠0:=by simp [h0]
  by_cases hu:(zr p.lines).2=0
  ·have n6:=fun st=>q9g p.lines none st hls hu
   cases hf:p.full with
   |true=>
    have e:jz p=(some (p.frm,11),p):=by unfold jz;rw [if_neg h0,if_neg (by simp [hu]),if_pos hf]
    rw [e];have rv:=fun st=>qnk p.frm 11 st;apply qd []
    repeat' (first|apply And.intro|(intro h;try exact cDd)|exact⟨Tryz.call210⟩|refine cpe n6 ?_|exact⟨Tryz.call124⟩|refine cpe rv ?_|(exact absurd (by assumption:p.full=false) (by rw [hf];decide))|exact cSd|apply qb []|refine exr ?_|refine qe ?_)
   |false=>
    have e:jz p=(none,{ p with lines:=[],fields:=p.fields++[(zr p.lines).1] }):=by unfold jz;rw [if_neg h0,if_neg (by simp [hu]),if_neg (by simp [hf])]
    rw [e];apply qd [51];repeat' (first|apply And.intro|(intro h;try exact cDd)|exact⟨Tryz.call210⟩|refine cpe n6 ?_|(exact absurd (by assumption:p.full=true) (by rw [hf];decide))|exact cSd|apply qb [51]|refine exr ?_|refine qe ?_)
    all_goals first|(simp [SV.evs,SV.ev];done)|(simp [SV.evs];omega)
  ·have n6:=fun st=>q9h p.lines none st hls hu
   have e:jz p=(some (p.frm,(zr p.lines).2),p):=by unfold jz;rw [if_neg h0,if_pos hu]
   rw [e];have rv:=fun st=>qnk p.frm (zr p.lines).2 st;apply qd [];repeat' (first|apply And.intro|(intro h;try exact cDd)|exact⟨Tryz.call210⟩|refine cpe n6 ?_|exact⟨Tryz.call124⟩|refine cpe rv ?_|exact cSd|apply qb []|refine exr ?_|refine qe ?_)
theorem q6s (n:Nat) (p:PSt) (hB:PB n p) (hs:n+1<900000):v4 E 69 [.bx 0 0] 5 (hpF (parH 1 p)) ⟨.a (errP (endP p).1),wb (parH 1 p),parH 5 (endP p).2++ww (parH 1 p),9⟩:=by
 refine yj [.bx 0 0] (parH 1 p) 5 (.a (errP (endP p).1)) (parH 5 (endP p).2) 9 Tryz.func69 rfl rfl rfl rfl fun S F ρ=>?_;have p5:=qsh n p hB;have dn:=qh9 hB hs
 have fp:∀ e,(jz p).1=some e→(jz p).2=p:=fun e=>by
  unfold jz;split
  ·simp
  ·split
   ·simp
   ·split
    ·simp
    ·simp
 unfold endP;generalize jz p=fq at p5 dn fp;obtain⟨fe,q⟩:=fq
 cases fe with
 |some e=>
  obtain rfl:=fp e rfl;obtain⟨a,k⟩:=e;apply qd []
  repeat' (first|apply And.intro|(intro h;try exact cDd)|exact⟨Tryz.call126⟩|(refine j6 p5 ?_)|exact cSd|apply qb []|refine exr ?_|refine qe ?_)
 |none=>
  dsimp only at dn p5;have h3:=dn.fields;have h4:=dn.rec0;have h5:=dn.rec1;have h1:=dn.block;have h2:=dn.items;by_cases hb:q.block=[]
  ·have e:yl q={ q with block:=[],fields:=[] }:=by unfold yl;rw [if_pos hb]
   simp only [e];have ml:(q.block.map fun x=>Sv x).length=0:=by simp [hb]
   apply qd [];repeat' (first|apply And.intro|(intro h;try exact cDd)|exact⟨Tryz.call126⟩|(refine j6 p5 ?_)|exact cSd|apply qb []|refine exr ?_|refine qe ?_)
  ·have ml:(q.block.map fun x=>Sv x).length≠0:=by simp [hb]
   have bn:=qnv q.block dn.blockV
   obtain⟨b,r,m9⟩:∃ b r,q.block=b::r:=by
    cases hq:q.block with
    |nil=>exact absurd hq hb
    |cons b r=>exact⟨b,r,rfl⟩
   have hjt:=qpa b r;rw [← m9] at hjt;have hjl:=congrArg List.length hjt;simp only [List.length_append,List.length_cons,List.length_nil] at hjl;have hjo:=fun st=>zhw q.block none st hb (by omega) dn.blockV;by_cases hf:q.fields=[]
   ·have e:yl q={ q with items:=q.items++[⟨2,zi q.block,q.fields⟩],records:=q.records,block:=[],fields:=[] }:=by unfold yl;rw [if_neg hb,if_pos hf,if_pos hf]
    simp only [e];have r6:(q.fields.map fldA).length=0:=by simp [hf]
    apply qd [];repeat' (first|apply And.intro|(intro h;try exact cDd)|exact⟨Tryz.call126⟩|(refine j6 p5 ?_)|exact⟨Tryz.call127⟩|refine cpe hjo ?_|exact cSd|apply qb []|refine exr ?_|refine qe ?_)
    all_goals first|(simp [SV.evs,SV.ev,hjt];done)|(simp [SV.evs];omega)
   ·have e:yl q={ q with items:=q.items++[⟨3,zi q.block,q.fields⟩],records:=q.records+1,block:=[],fields:=[] }:=by unfold yl;rw [if_neg hb,if_neg hf,if_neg hf]
    simp only [e];have r6:(q.fields.map fldA).length≠0:=by simp [hf]
    apply qd [];repeat' (first|apply And.intro|(intro h;try exact cDd)|exact⟨Tryz.call126⟩|(refine j6 p5 ?_)|exact⟨Tryz.call127⟩|refine cpe hjo ?_|exact cSd|apply qb []|refine exr ?_|refine qe ?_)
    all_goals first|(simp [SV.evs,SV.ev,hjt];done)|(simp [SV.evs];omega)
end Go.Proofs.YtneejjefekdgjaaGreatDoor
namespace Go.Pl
open Go Go.Proofs
def kv (p:PSt) (no:Int) (text:qa):PSt:={ p with lines:=[text],frm:=no,full:=decide (p.fields.length=40∨(p.fields.length=0∧p.records=400)) }
def ju (p:PSt) (no:Int) (text:qa) (ended:Bool) (kind:Int):Option (Int×Int)×PSt:=
 if kind=3 then
  if p.lines=[] then (some (no,2),p)
  else if ended=true then (none,{ p with lines:=p.lines++[text] })
  else jz { p with lines:=p.lines++[text] }
 else if kind=1 then endP p
 else jz p
def wz (p:PSt) (no:Int) (text:qa) (ended:Bool):Option (Int×Int)×PSt:=
 match (ju p no text ended (qv text)).1 with
 |some e=>(some e,p)
 |none=>
  if qv text=5∨ended=false then (some (no,2),p)
  else if qv text=1 then (none,{ (ju p no text ended (qv text)).2 with items:=(ju p no text ended (qv text)).2.items++[⟨1,text++[10],[]⟩] })
  else if qv text=4 then (none,{ kv (ju p no text ended (qv text)).2 no text with block:=(ju p no text ended (qv text)).2.block++[text] })
  else (none,{ (ju p no text ended (qv text)).2 with block:=(ju p no text ended (qv text)).2.block++[text] })
end Go.Pl
namespace Go.Proofs.YtneejjefekdgjaaGreatDoor
open Go Go.Av Go.RowKit Go.Proofs Go.Pl
theorem PB.more {n m:Nat} {p:PSt} (h:PB n p) (hm:n≤m) (hs:m<900000):PB m p:=by
 have h1:=h.lines;have h2:=h.items;have h3:=h.block;have h4:=h.fields;have h5:=h.rec0;have h6:=h.rec1;exact⟨hs,by omega,h.linesV,by omega,by omega,h.blockV,by omega,h5,by omega⟩
theorem zaa {n:Nat} {p:PSt} (h:PB n p) (hs:n+1<900000):PB (n+1) (yl p):=by
 have h1:=h.lines;have h2:=h.items;have h3:=h.block;have h4:=h.fields;have h5:=h.rec0;have h6:=h.rec1;unfold yl;split
 ·exact⟨hs,by simp only;omega,h.linesV,by simp only;omega,by simp,by simp,by simp,h5,by simp only;omega⟩
 ·refine⟨hs,by simp only;omega,h.linesV,by simp;omega,by simp,by simp,by simp,?_,?_⟩
  ·simp only;split <;> omega
  ·simp only;split <;> omega
theorem qsu {n:Nat} {p:PSt} {text:qa} (h:PB n p) (hs:n+1<900000) (ht:text.length<1000000):PB (n+1) { p with lines:=p.lines++[text] }:=by
 have h1:=h.lines;have h2:=h.items;have h3:=h.block;have h4:=h.fields;have h5:=h.rec0;have h6:=h.rec1;exact⟨hs,by simp;omega,qnc h.linesV ht,by simp only;omega,by simp only;omega,h.blockV,by simp only;omega,h5,by simp only;omega⟩
theorem q2y {n:Nat} {p:PSt} {text:qa} (h:PB n p) (hs:n+1<900000) (ht:text.length<1000000):PB (n+1) { p with block:=p.block++[text] }:=by
 have h1:=h.lines;have h2:=h.items;have h3:=h.block;have h4:=h.fields;have h5:=h.rec0;have h6:=h.rec1;exact⟨hs,by simp only;omega,h.linesV,by simp only;omega,by simp;omega,qnc h.blockV ht,by simp only;omega,h5,by simp only;omega⟩
theorem ze7 {n:Nat} {p:PSt} {x:ze} (h:PB n p) (hs:n+1<900000):PB (n+1) { p with items:=p.items++[x] }:=by
 have h1:=h.lines;have h2:=h.items;have h3:=h.block;have h4:=h.fields;have h5:=h.rec0;have h6:=h.rec1;exact⟨hs,by simp only;omega,h.linesV,by simp;omega,by simp only;omega,h.blockV,by simp only;omega,h5,by simp only;omega⟩
theorem ze6 {n:Nat} {p:PSt} {no:Int} {text:qa} (h:PB n p) (hs:n+1<900000) (ht:text.length<1000000):PB (n+1) (kv p no text):=by
 have h1:=h.lines;have h2:=h.items;have h3:=h.block;have h4:=h.fields;have h5:=h.rec0;have h6:=h.rec1;exact⟨hs,by simp [kv],by simp [kv,ht],by simp only [kv];omega,by simp only [kv];omega,h.blockV,by simp only [kv];omega,h5,by simp only [kv];omega⟩
theorem qkk {n:Nat} {p:PSt} {no:Int} {text:qa} {ended:Bool} {kind:Int} (h:PB n p) (hs:n+2<900000) (ht:text.length<1000000):PB (n+2) (ju p no text ended kind).2:=by
 unfold ju;split
 ·split
  ·exact h.more (by omega) hs
  ·split
   ·exact (qsu h (by omega) ht).more (by omega) hs
   ·exact qh9 (qsu h (by omega) ht) hs
 ·split
  ·unfold endP
   split
   ·exact h.more (by omega) hs
   ·exact zaa (qh9 h (by omega)) hs
  ·exact (qh9 h (by omega)).more (by omega) hs
theorem qup (l:qa):1≤qv l∧qv l≤5:=by
 unfold qv;repeat' split
 all_goals decide
theorem qs2 {n:Nat} {p:PSt} {no:Int} {text:qa} {ended:Bool} (h:PB n p) (hs:n+4<900000) (ht:text.length<1000000):PB (n+4) (wz p no text ended).2:=by
 have h2:PB (n+2) (ju p no text ended (qv text)).2:=qkk h (by omega) ht;unfold wz;split
 ·exact h.more (by omega) hs
 ·split
  ·exact h.more (by omega) hs
  ·split
   ·exact (ze7 h2 (by omega)).more (by omega) hs
   ·split
    ·exact q2y (ze6 h2 (by omega) ht) hs ht
    ·exact (q2y h2 (by omega) ht).more (by omega) hs
theorem zbv (n:Nat) (p:PSt) (no at':Int) (text:qa) (ended:Bool) (hB:PB n p):v4 E 125 [.bx 0 0,.ag [.i no,.i at',.s text,.b ended]] 5 (hpF (parH 1 p)) ⟨.tu [],wb (parH 1 p),parH 5 (kv p no text)++ww (parH 1 p),9⟩:=by
 refine yj [.bx 0 0,.ag [.i no,.i at',.s text,.b ended]] (parH 1 p) 5 (.tu []) (parH 5 (kv p no text)) 9 Tryz.func125 rfl rfl rfl rfl fun S F ρ=>?_;obtain⟨ls,fr,fu,its,bk,fs,rc⟩:=p;have e8:(fs.map fldA).length=fs.length:=by simp
 by_cases ha:fs.length=40∨(fs.length=0∧rc=400)
 ·have e:kv ⟨ls,fr,fu,its,bk,fs,rc⟩ no text=⟨[text],no,true,its,bk,fs,rc⟩:=by
   unfold kv;simp only [decide_eq_true ha]
  rw [e];apply qd [29];repeat' (first|apply And.intro|(intro h;try exact cDd)|exact cSd|apply qb [29]|refine exr ?_|refine qe ?_)
  all_goals (intros;simp only [e8] at *;first|(exfalso;omega)|(have hrc:rc=400:=(by omega);subst hrc;rfl))
 ·have e:kv ⟨ls,fr,fu,its,bk,fs,rc⟩ no text=⟨[text],no,false,its,bk,fs,rc⟩:=by
   unfold kv;simp only [decide_eq_false ha]
  rw [e];apply qd [29];repeat' (first|apply And.intro|(intro h;try exact cDd)|exact cSd|apply qb [29]|refine exr ?_|refine qe ?_)
  all_goals (intros;simp only [e8] at *;first|(exfalso;omega)|(have hrc:¬ rc=400:=(by omega);simp [SV.evs,SV.ev,SV.rens,SV.ren,lkS,wu,hrc];exact⟨rfl,rfl,rfl⟩))
theorem qyp (n:Nat) (p:PSt) (no at':Int) (text:qa) (ended:Bool) (kind:Int) (hB:PB n p) (hs:n+2<900000) (ht:text.length<1000000):v4 E 123 [.bx 0 0,.ag [.i no,.i at',.s text,.b ended],.i kind] 5 (hpF (parH 1 p)) ⟨.a (errP (ju p no text ended kind).1),wb (parH 1 p),parH 5 (ju p no text ended kind).2++ww (parH 1 p),9⟩:=by
 refine yj [.bx 0 0,.ag [.i no,.i at',.s text,.b ended],.i kind] (parH 1 p) 5 (.a (errP (ju p no text ended kind).1)) (parH 5 (ju p no text ended kind).2) 9 Tryz.func123 rfl rfl rfl rfl fun S F ρ=>?_;unfold ju;by_cases br:kind=3
 ·rw [if_pos br]
  by_cases h0:p.lines=[]
  ·rw [if_pos h0]
   have ml:(p.lines.map fun x=>Sv x).length=0:=by simp [h0]
   have rv:=fun st=>qnk no 2 st;apply qd [];repeat' (first|apply And.intro|(intro h;try exact cDd)|exact⟨Tryz.call124⟩|refine cpe rv ?_|exact cSd|apply qb []|refine exr ?_|refine qe ?_)
  ·rw [if_neg h0]
   have ml:(p.lines.map fun x=>Sv x).length≠0:=by simp [h0]
   have dj:=hB.lines;have hsm:=hB.small;have e8:(p.lines.map fun x=>Sv x).length=p.lines.length:=by simp
   have p5:=qsh (n+1) { p with lines:=p.lines++[text] } (qsu hB (by omega) ht)
   cases ended with
   |true=>
    rw [if_pos rfl];apply qd [];repeat' (first|apply And.intro|(intro h;try exact cDd)|(exact absurd (by assumption:true=false) (by decide))|exact cSd|apply qb []|refine exr ?_|refine qe ?_)
    all_goals first|(simp [SV.evs,SV.ev];done)|(simp [SV.evs];omega)
   |false=>
    rw [if_neg (by decide)];apply qd [];repeat' (first|apply And.intro|(intro h;try exact cDd)|(exact absurd (by assumption:false=true) (by decide))|exact⟨Tryz.call126⟩|(refine j6 p5 ?_)|exact cSd|apply qb []|refine exr ?_|refine qe ?_)
    all_goals first|(simp [SV.evs,SV.ev];done)|(simp [SV.evs];omega)
 ·rw [if_neg br]
  by_cases p1:kind=1
  ·rw [if_pos p1]
   have p5:=q6s n p hB (by omega);apply qd [];repeat' (first|apply And.intro|(intro h;try exact cDd)|exact⟨Tryz.call69⟩|(refine j6 p5 ?_)|exact cSd|apply qb []|refine exr ?_|refine qe ?_)
  ·rw [if_neg p1]
   have p5:=qsh n p hB;apply qd [];repeat' (first|apply And.intro|(intro h;try exact cDd)|exact⟨Tryz.call126⟩|(refine j6 p5 ?_)|exact cSd|apply qb []|refine exr ?_|refine qe ?_)
theorem zfb (n:Nat) (p:PSt) (no at':Int) (text:qa) (ended:Bool) (hB:PB n p) (hs:n+4<900000) (ht:text.length<1000000) (hok:(wz p no text ended).1=none):v4 E 68 [.bx 0 0,.ag [.i no,.i at',.s text,.b ended]] 5 (hpF (parH 1 p)) ⟨.a (.v .nilIface),wb (parH 1 p),parH 5 (wz p no text ended).2++ww (parH 1 p),9⟩:=by
 refine yj [.bx 0 0,.ag [.i no,.i at',.s text,.b ended]] (parH 1 p) 5 (.a (.v .nilIface)) (parH 5 (wz p no text ended).2) 9 Tryz.func68 rfl rfl rfl rfl fun S F ρ=>?_;have p5:=qyp n p no at' text ended (qv text) hB (by omega) ht;have np:=qkk (no:=no) (text:=text) (ended:=ended) (kind:=qv text) hB (by omega) ht;have hkr:=qup text;have gn:=fun st=>ql7 text st (by omega);unfold wz at hok ⊢;generalize ju p no text ended (qv text)=fq at p5 np hok ⊢;obtain⟨fe,q⟩:=fq
 cases fe with
 |some e=>exact absurd hok (by simp)
 |none=>
  dsimp only at np p5 hok ⊢;have h1:=np.block;have h2:=np.items;have hmb:(q.block.map fun x=>Sv x).length=q.block.length:=by simp
  have lj:(q.items.map jh).length=q.items.length:=by simp
  by_cases hk:qv text=5∨ended=false
  ·rw [if_pos hk] at hok
   exact absurd hok (by simp)
  ·rw [if_neg hk] at hok ⊢
   have hk5:qv text≠5:=fun h=>hk (.inl h);obtain rfl:ended=true:=by cases ended <;> simp_all
   by_cases p1:qv text=1
   ·rw [if_pos p1]
    apply qd [];repeat' (first|apply And.intro|(intro h;try exact cDd)|exact⟨Tryz.call122⟩|refine cpe gn ?_|exact⟨Tryz.call123⟩|(refine j6 p5 ?_)|(exact absurd (by assumption:true=false) (by decide))|exact cSd|apply qb []|refine exr ?_|refine qe ?_)
    all_goals first|(simp [SV.evs,SV.ev];done)|(simp [SV.evs];omega)
   ·rw [if_neg p1]
    by_cases hk4:qv text=4
    ·rw [if_pos hk4]
     have hbc:=zbv (n+2) q no at' text true np;apply qd [];repeat' (first|apply And.intro|(intro h;try exact cDd)|exact⟨Tryz.call122⟩|refine cpe gn ?_|exact⟨Tryz.call123⟩|(refine j6 p5 ?_)|exact⟨Tryz.call125⟩|(refine j6 hbc ?_)|(exact absurd (by assumption:true=false) (by decide))|exact cSd|apply qb []|refine exr ?_|refine qe ?_)
     all_goals first|(simp [SV.evs,SV.ev,kv];done)|(simp [SV.evs,kv];omega)
    ·rw [if_neg hk4]
     apply qd [];repeat' (first|apply And.intro|(intro h;try exact cDd)|exact⟨Tryz.call122⟩|refine cpe gn ?_|exact⟨Tryz.call123⟩|(refine j6 p5 ?_)|(exact absurd (by assumption:true=false) (by decide))|exact cSd|apply qb []|refine exr ?_|refine qe ?_)
     all_goals first|(simp [SV.evs,SV.ev];done)|(simp [SV.evs];omega)
theorem zfc (n:Nat) (p:PSt) (no at':Int) (text:qa) (ended:Bool) (hB:PB n p) (hs:n+4<900000) (ht:text.length<1000000) (a m:Int) (hok:(wz p no text ended).1=some (a,m)):v4 E 68 [.bx 0 0,.ag [.i no,.i at',.s text,.b ended]] 5 (hpF (parH 1 p)) ⟨.a (qh7 a m),wb (parH 1 p),parH 5 (ju p no text ended (qv text)).2++ww (parH 1 p),9⟩:=by
 refine yj [.bx 0 0,.ag [.i no,.i at',.s text,.b ended]] (parH 1 p) 5 (.a (qh7 a m)) (parH 5 (ju p no text ended (qv text)).2) 9 Tryz.func68 rfl rfl rfl rfl fun S F ρ=>?_;have p5:=qyp n p no at' text ended (qv text) hB (by omega) ht;have np:=qkk (no:=no) (text:=text) (ended:=ended) (kind:=qv text) hB (by omega) ht;have hkr:=qup text;have gn:=fun st=>ql7 text st (by omega);unfold wz at hok;generalize ju p no text ended (qv text)=fq at p5 np hok ⊢;obtain⟨fe,q⟩:=fq
 cases fe with
 |some e=>
  dsimp only at np p5 hok ⊢;obtain rfl:e=(a,m):=by simpa using hok
  apply qd []
  repeat' (first|apply And.intro|(intro h;try exact cDd)|exact⟨Tryz.call122⟩|refine cpe gn ?_|exact⟨Tryz.call123⟩|(refine j6 p5 ?_)|exact cSd|apply qb []|refine exr ?_|refine qe ?_)
 |none=>
  dsimp only at np p5 hok ⊢;by_cases hk:qv text=5∨ended=false
  ·rw [if_pos hk] at hok
   obtain⟨rfl,rfl⟩:no=a∧2=m:=by simpa using hok
   have rv:=fun st=>qnk no 2 st
   cases ended with
   |true=>
    have hk5:qv text=5:=by simpa using hk
    apply qd []
    repeat' (first|apply And.intro|(intro h;try exact cDd)|exact⟨Tryz.call122⟩|refine cpe gn ?_|exact⟨Tryz.call124⟩|refine cpe rv ?_|exact⟨Tryz.call123⟩|(refine j6 p5 ?_)|(exact absurd (by assumption:true=false) (by decide))|exact cSd|apply qb []|refine exr ?_|refine qe ?_)
   |false=>
    apply qd [];repeat' (first|apply And.intro|(intro h;try exact cDd)|exact⟨Tryz.call122⟩|refine cpe gn ?_|exact⟨Tryz.call124⟩|refine cpe rv ?_|exact⟨Tryz.call123⟩|(refine j6 p5 ?_)|(exact absurd (by assumption:false=true) (by decide))|exact cSd|apply qb []|refine exr ?_|refine qe ?_)
  ·rw [if_neg hk] at hok
   split at hok
   ·simp at hok
   ·split at hok
    ·simp at hok
    ·simp at hok
end Go.Proofs.YtneejjefekdgjaaGreatDoor
