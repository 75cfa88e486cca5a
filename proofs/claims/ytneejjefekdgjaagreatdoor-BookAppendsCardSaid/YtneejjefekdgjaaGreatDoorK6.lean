/- Contracts and plain facts that the closing text leans on (part 6). No condition of their own beyond those that each states. -/
import Derived.Test.YtneejjefekdgjaaGreatDoorK5
import Derived.LaidEql
import Derived.Stop.Asserts
import Derived.RowKitTokens
set_option maxRecDepth 100000
set_option linter.unusedVariables false
set_option linter.unusedSimpArgs false
namespace Go.Av
open Go Go.RowKit
def cf {α : Type} (L:Nat→Bool):Nat→List (List (Nat×α))→List (Nat×α)→List (Nat×α)
 | _,[],base=>base
 |i,c::r,base=>cf L (i+1) r (bif L i then c++base else base)
def xd {α : Type} (L:Nat→Bool) (k:Nat):Nat→List (List (Nat×α))→Option α
 | _,[]=>none
 |i,c::r=>match xd L k (i+1) r with
  |some v=>some v
  |none=>bif L i then lkS c k else none
theorem qdl {α : Type} (L:Nat→Bool) (k:Nat):∀ (i:Nat) (chs:List (List (Nat×α))) (base:List (Nat×α)),lkS (cf L i chs base) k=match xd L k i chs with|some v=>some v|none=>lkS base k
 | _,[],_=>rfl
 |i,c::r,base=>by
  simp only [cf,xd]
  rw [qdl L k (i+1) r]
  cases xd L k (i+1) r with
  |some v=>rfl
  |none=>
   cases L i with
   |true=>simp only [cond_true];rw [qc6];cases lkS c k <;> rfl
   |false=>rfl
theorem qcp {α : Type} {L L':Nat→Bool} {k:Nat}:∀ {i:Nat} {chs:List (List (Nat×α))},(∀ j c,chs[j]? = some c→lkS c k≠none→L (i+j)=L' (i+j))→xd L k i chs=xd L' k i chs
 | _,[],_=>rfl
 |i,c::r,h=>by
  simp only [xd]
  rw [qcp (L:=L) (L':=L') (i:=i+1) (chs:=r) fun j c hc hl=>by
   have:=h (j+1) c (by simpa using hc) hl
   rw [show i+1+j=i+(j+1) by omega]
   exact this]
  cases xd L' k (i+1) r with
  |some v=>rfl
  |none=>
   simp only
   cases hl:lkS c k with
   |none=>cases L i <;> cases L' i <;> rfl
   |some v=>
    have:=h 0 c rfl (by rw [hl];simp)
    rw [Nat.add_zero] at this
    rw [this]
theorem qhf {α : Type} {L:Nat→Bool} {k:Nat} {v : α}:∀ {i:Nat} {chs:List (List (Nat×α))},xd L k i chs=some v→∃ j c,chs[j]? = some c∧L (i+j)=true∧lkS c k=some v
 | _,[],h=>by simp [xd] at h
 |i,c::r,h=>by
  simp only [xd] at h
  cases hr:xd L k (i+1) r with
  |some w=>
   rw [hr] at h
   simp only [Option.some.injEq] at h
   subst h
   obtain⟨j,c',h1,h2,h3⟩:=qhf hr
   exact⟨j+1,c',by simpa using h1,by rw [show i+(j+1)=i+1+j by omega];exact h2,h3⟩
  |none=>
   rw [hr] at h
   simp only at h
   cases hL:L i with
   |true=>rw [hL] at h;exact⟨0,c,rfl,hL,h⟩
   |false=>rw [hL] at h;simp at h
theorem qmt {α : Type} {L:Nat→Bool} {k:Nat}:∀ {i j0:Nat} {chs:List (List (Nat×α))} {c0:List (Nat×α)},chs[j0]? = some c0→(∀ j c,j0<j→chs[j]? = some c→L (i+j)=true→lkS c0 k≠none→lkS c k=none) →
  xd (addL L (i+j0)) k i chs=match lkS c0 k with|some v=>some v|none=>bif L (i+j0) then xd (addL L (i+j0)) k i chs else xd L k i chs
 | _,_,[],_,h,_=>by simp at h
 |i,0,c::r,c0,h,hd=>by
  simp only [List.getElem?_cons_zero,Option.some.injEq] at h
  subst h
  have hr:xd (addL L (i+0)) k (i+1) r=xd L k (i+1) r:=qcp fun j c _ _=>by
   unfold addL
   rw [j7 (by omega),Bool.false_or]
  have ha:addL L (i+0) i=true:=by simp [addL]
  cases hl:lkS c k with
  |some v=>
   have hn:xd L k (i+1) r=none:=by
    cases hq:xd L k (i+1) r with
    |none=>rfl
    |some w=>
     obtain⟨j,c',h1,h2,h3⟩:=qhf hq
     have:=hd (j+1) c' (by omega) (by simpa using h1) (by rw [show i+(j+1)=i+1+j by omega];exact h2) (by rw [hl];simp)
     rw [this] at h3
     simp at h3
   simp only [xd,hr,hn,ha,cond_true,hl]
  |none=>
   cases hLi:L (i+0) with
   |true=>rfl
   |false=>
    simp only [cond_false,xd,hr,ha,cond_true,hl]
    rw [Nat.add_zero] at hLi
    rw [hLi]
    cases xd L k (i+1) r <;> rfl
 |i,j0+1,c::r,c0,h,hd=>by
  have ih:=qmt (L:=L) (k:=k) (i:=i+1) (j0:=j0) (chs:=r) (c0:=c0) (by simpa using h) fun j c hj hc hL hl=>hd (j+1) c (by omega) (by simpa using hc) (by rw [show i+(j+1)=i+1+j by omega];exact hL) hl
  rw [show i+1+j0=i+(j0+1) by omega] at ih
  have hi:addL L (i+(j0+1)) i=L i:=by
   unfold addL
   rw [j7 (by omega),Bool.false_or]
  cases hl:lkS c0 k with
  |some v=>rw [hl] at ih;simp only [xd,ih]
  |none=>
   rw [hl] at ih
   simp only at ih
   cases hLi:L (i+(j0+1)) with
   |true=>rfl
   |false=>
    rw [hLi] at ih
    simp only [cond_false] at ih ⊢
    simp only [xd,ih,hi]
theorem qju {α : Type}:∀ {L:Nat→Bool} {i:Nat} {chs:List (List (Nat×α))} {base:List (Nat×α)},(∀ j,j<chs.length→L (i+j)=false)→cf L i chs base=base
 | _,_,[],_,_=>rfl
 |L,i,c::r,base,h=>by
  have h0:=h 0 (by simp)
  rw [Nat.add_zero] at h0
  simp only [cf,h0,cond_false]
  exact qju fun j hj=>by
   have:=h (j+1) (by simpa using hj)
   rw [show i+1+j=i+(j+1) by omega]
   exact this
structure Tr where
 rd:List Nat
 dst:Option Nat
 e:Ef
 nx:Nat
def Tr.sch (t:Tr):List (Nat×SV):=match t.dst with
 |some d=>[(d,t.e.val)]
 |none=>[]
def runT:List Tr→Conf→Conf
 | [],C=>C
 |t::r,C=>runT r (C.app t.dst t.e)
theorem zcm (C:Conf) (t:Tr):(C.app t.dst t.e).sl=t.sch++C.sl:=by
 unfold Conf.app Tr.sch
 cases t.dst <;> rfl
theorem qjv:∀ (tr:List Tr) (i0 n:Nat) (C:Conf),cf (fun j=>Nat.blt j (i0+n)) i0 (tr.map Tr.sch) C.sl=(runT (tr.take n) C).sl∧cf (fun j=>Nat.blt j (i0+n)) i0 (tr.map fun t=>t.e.ch) C.hp=(runT (tr.take n) C).hp
 | [],_,n,C=>by simp [cf,runT]
 |t::r,i0,0,C=>by
  have hf:∀ {m:Nat} (j:Nat),j<m→Nat.blt (i0+j) (i0+0)=false:=fun j _=>by
   cases hb:Nat.blt (i0+j) (i0+0) with
   |false=>rfl
   |true=>have:=kw hb;omega
  exact⟨qju fun j hj=>hf j hj,qju fun j hj=>hf j hj⟩
 |t::r,i0,n+1,C=>by
  have hb:Nat.blt i0 (i0+(n+1))=true:=qa8 (by omega)
  have ih:=qjv r (i0+1) n (C.app t.dst t.e)
  rw [show i0+1+n=i0+(n+1) by omega] at ih
  simp only [List.map_cons,cf,hb,cond_true,List.take_succ_cons,runT]
  rw [← zcm]
  exact ih
def yb (ch:List (Nat×Option SR)):List Nat:=ch.map Prod.fst
def qcv (a b:List Nat):Bool:=a.all fun x=> !memN b x
def dstL:Option Nat→List Nat
 |some d=>[d]
 |none=>[]
def indT (a b:Tr):Bool:=
 qcv (dstL a.dst) b.rd && qcv (dstL a.dst) (dstL b.dst) && qcv (dstL b.dst) a.rd &&
 qcv (yb a.e.ch) b.e.ks && qcv (yb a.e.ch) (yb b.e.ch) && qcv (yb b.e.ch) a.e.ks &&
 b.e.val.all (fun k=>Nat.blt k a.nx ||Nat.ble a.e.nx k) && b.e.ch.all (fun q=>(Nat.blt q.1 a.nx ||Nat.ble a.e.nx q.1) && match q.2 with
  |some r=>r.all fun k=>Nat.blt k a.nx ||Nat.ble a.e.nx k
  |none=>true)
def qhg (o:Oper) (acc:List Nat):Nat:=(qcw o).foldl (fun m d=>(m ||| 2 ^ d) |||acc.getD d 0) 0
def ancs:List Oper→List Nat→List Nat
 | [],acc=>acc
 |o::r,acc=>ancs r (acc++[qhg o acc])
inductive AncR (l:List Oper):Nat→Nat→Prop
 |dep {i j:Nat} {o:Oper} (ho:l[j]? = some o) (hi:i∈qcw o):AncR l i j
 |step {i d j:Nat} {o:Oper} (ho:l[j]? = some o) (hd:d∈qcw o) (h:AncR l i d):AncR l i j
theorem q52 {l:List Oper} {acc:List Nat} (hacc:∀ j i,(acc.getD j 0).testBit i=true→AncR l i j) {o:Oper} {j:Nat} (ho:l[j]? = some o) {i:Nat} (h:(qhg o acc).testBit i=true):AncR l i j:=by
 unfold qhg at h
 have key:∀ (ds:List Nat) (m:Nat),(∀ d∈ds,d∈qcw o)→(m.testBit i=true→AncR l i j)→(ds.foldl (fun m d=>(m ||| 2 ^ d) |||acc.getD d 0) m).testBit i=true→AncR l i j:=by
  intro ds
  induction ds with
  |nil=>exact fun m _ hm h=>hm h
  |cons d r ih=>
   intro m hd hm h
   refine ih ((m ||| 2 ^ d) |||acc.getD d 0) (fun d' hd'=>hd d' (by simp [hd'])) (fun hb=>?_) h
   rw [Nat.testBit_or,Nat.testBit_or,Bool.or_eq_true,Bool.or_eq_true,Nat.testBit_two_pow] at hb
   rcases hb with (hb|hb)|hb
   ·exact hm hb
   ·have:d=i:=by simpa using hb
    subst this
    exact .dep ho (hd d (by simp))
   ·exact .step ho (hd d (by simp)) (hacc d i hb)
 exact key (qcw o) 0 (fun d hd=>hd) (fun h=>by simp at h) h
theorem qv4 {l:List Oper}:∀ (r:List Oper) (acc:List Nat),(∀ k o,r[k]? = some o→l[acc.length+k]? = some o)→(∀ j i,(acc.getD j 0).testBit i=true→AncR l i j)→∀ j i,((ancs r acc).getD j 0).testBit i=true→AncR l i j
 | [],acc,_,h=>h
 |o::r,acc,hr,h=>by
  refine qv4 r (acc++[qhg o acc]) (fun k o' hk=>?_) (fun j i hb=>?_)
  ·have:=hr (k+1) o' (by simpa using hk)
   rw [List.length_append]
   simp only [List.length_cons,List.length_nil]
   rw [show acc.length+(0+1)+k=acc.length+(k+1) by omega]
   exact this
  ·by_cases hj:j<acc.length
   ·have e:(acc++[qhg o acc]).getD j 0=acc.getD j 0:=by simp [List.getD,List.getElem?_append_left hj]
    rw [e] at hb
    exact h j i hb
   ·by_cases hj':j=acc.length
    ·subst hj'
     have e:(acc++[qhg o acc]).getD acc.length 0=qhg o acc:=by simp [List.getD]
     rw [e] at hb
     exact q52 h (by have:=hr 0 o rfl;simpa using this) hb
    ·have e:(acc++[qhg o acc]).getD j 0=0:=by simp [List.getD,List.getElem?_eq_none (show (acc++[qhg o acc]).length≤j by simp;omega)]
     rw [e] at hb
     simp at hb
def chkR:Nat→Tr→Nat→List Tr→List Nat→Bool
 | _,_,_,[],_=>true
 |i,a,j,b::r,m=>((m.getD j 0).testBit i ||indT a b) && chkR i a (j+1) r m
def chkT:Nat→List Tr→List Nat→Bool
 | _,[],_=>true
 |i,a::r,m=>chkR i a (i+1) r m && chkT (i+1) r m
theorem qwt:∀ {i:Nat} {a:Tr} {j0:Nat} {l:List Tr} {m:List Nat},chkR i a j0 l m=true→∀ j b,l[j]? = some b→(m.getD (j0+j) 0).testBit i=true∨indT a b=true
 | _,_,_,[],_,_,j,b,h=>by simp at h
 |i,a,j0,b::r,m,h,j,b',hb=>by
  simp only [chkR,Bool.and_eq_true,Bool.or_eq_true] at h
  cases j with
  |zero=>
   simp only [List.getElem?_cons_zero,Option.some.injEq] at hb
   subst hb
   exact h.1
  |succ j=>
   have:=qwt h.2 j b' (by simpa using hb)
   rw [show j0+(j+1)=j0+1+j by omega]
   exact this
theorem qwu:∀ {i0:Nat} {l:List Tr} {m:List Nat},chkT i0 l m=true→∀ i j a b,i<j→l[i]? = some a→l[j]? = some b→(m.getD (i0+j) 0).testBit (i0+i)=true∨indT a b=true
 | _,[],_,_,_,_,_,_,_,h,_=>by simp at h
 |i0,a::r,m,h,i,j,a',b',hij,ha,hb=>by
  simp only [chkT,Bool.and_eq_true] at h
  cases i with
  |zero=>
   simp only [List.getElem?_cons_zero,Option.some.injEq] at ha
   subst ha
   obtain⟨j,rfl⟩:∃ j',j=j'+1:=⟨j - 1,by omega⟩
   have:=qwt h.1 j b' (by simpa using hb)
   rw [show i0+(j+1)=i0+1+j by omega,Nat.add_zero]
   exact this
  |succ i=>
   obtain⟨j,rfl⟩:∃ j',j=j'+1:=⟨j - 1,by omega⟩
   have:=qwu h.2 i j a' b' (by omega) (by simpa using ha) (by simpa using hb)
   rw [show i0+(j+1)=i0+1+j by omega,show i0+(i+1)=i0+1+i by omega]
   exact this
theorem qep {a b:List Nat} (h:qcv a b=true) {x:Nat} (hx:memN a x=true):memN b x=false:=by
 unfold memN at hx
 obtain⟨y,hy,e⟩:=List.any_eq_true.1 hx
 have:=Nat.eq_of_beq_eq_true e
 subst this
 simpa using List.all_eq_true.1 h _ hy
theorem qmx {ch:List (Nat×Option SR)} {k:Nat} (h:lkS ch k≠none):memN (yb ch) k=true:=by
 cases hl:lkS ch k with
 |none=>exact absurd hl h
 |some v=>exact List.any_eq_true.2 ⟨k,List.mem_map.2 ⟨_,vd hl,rfl⟩,by simp⟩
theorem qpl {t:Tr} {d:Nat} (h:lkS t.sch d≠none):memN (dstL t.dst) d=true:=by
 unfold Tr.sch at h
 cases ht:t.dst with
 |none=>rw [ht] at h;simp [lkS] at h
 |some x=>
  rw [ht] at h
  simp only [lkS] at h
  by_cases e:x=d
  ·subst e;simp [dstL,memN]
  ·rw [j7 e] at h;simp at h
def rs (rd:List Nat) (sl:List (Nat×SV)):List (Nat×SV):=rd.filterMap fun d=>match lkS sl d with
 |some v=>some (d,v)
 |none=>none
theorem zdl {rd:List Nat} {sl:List (Nat×SV)} {d:Nat} {v:SV} (h:lkS (rs rd sl) d=some v):memN rd d=true∧lkS sl d=some v:=by
 have:=vd h
 unfold rs at this
 obtain⟨x,hx,he⟩:=List.mem_filterMap.1 this
 split at he
 ·rename_i w hw
  simp only [Option.some.injEq,Prod.mk.injEq] at he
  obtain⟨rfl,rfl⟩:=he
  exact⟨List.any_eq_true.2 ⟨x,hx,by simp⟩,hw⟩
 ·simp at he
theorem qpk {l:List Nat} {x:Nat} (h:memN l x=true):x∈l:=by
 obtain⟨y,hy,e⟩:=List.any_eq_true.1 h
 rw [Nat.eq_of_beq_eq_true e]
 exact hy
theorem SatR.congr {S0:List AObj} {F:Nat→Prop} {C C':Conf} {ρ t:Nat→AV} {S:List AObj} (h:SatR S0 F C ρ t S) (h1:∀ d,lkS C'.sl d=lkS C.sl d) (h2:hpF C'.hp=hpF C.hp) (h3:C.nx≤C'.nx):SatR S0 F C' ρ t S:=
 ⟨fun d v hd=>h.sl d v (by rw [← h1];exact hd),by rw [h2];exact h.hp,by rw [h2];exact h.own,h.low,h.len,fun d v hd=>all_mono (fun k hk=>qa8 (by have:=kw hk;omega)) v (h.wsl d v (by rw [← h1];exact hd)),fun k r hk=>by
  rw [h2] at hk
  obtain⟨g1,g2⟩:=h.whp k r hk
  exact⟨by omega,SR.all_mono (fun k hk=>qa8 (by have:=kw hk;omega)) r g2⟩⟩
structure q19 (E:Env) (N:Nat) (l:List Oper) (C0:Conf) (tr:List Tr):Prop where
 len:tr.length=l.length
 loc:∀ i o t,l[i]? = some o→tr[i]? = some t→Loc E N l.toArray o t.nx (rs t.rd (runT (tr.take i) C0).sl) (hpF (runT (tr.take i) C0).hp) t.e∧t.e.wf t.nx=true∧t.nx=(runT (tr.take i) C0).nx∧t.dst=o.dst
theorem qke {E:Env} {N:Nat} {l:List Oper} {C0:Conf} {tr:List Tr} (h:q19 E N l C0 tr):∀ {i j:Nat},i≤j→j≤tr.length→(runT (tr.take i) C0).nx≤(runT (tr.take j) C0).nx:=by
 have step:∀ (r:List Tr) (C:Conf) (t:Tr),(runT (r++[t]) C)=(runT r C).app t.dst t.e:=by
  intro r
  induction r with
  |nil=>exact fun C t=>rfl
  |cons a r ih=>exact fun C t=>ih _ t
 intro i j hij
 induction hij with
 |refl=>exact fun _=>Nat.le_refl _
 |step hm ih=>
  rename_i m
  intro hj
  refine Nat.le_trans (ih (by omega)) ?_
  have ht:tr[m]? = some (tr[m]'(by omega)):=List.getElem?_eq_getElem (by omega)
  have ho:l[m]? = some (l[m]'(by have:=h.len;omega)):=List.getElem?_eq_getElem _
  obtain⟨_,h2,h3,_⟩:=h.loc m _ _ ho ht
  rw [List.take_succ_eq_append_getElem (by omega),step]
  have:=(qf2 h2).1
  rw [h3] at this
  exact this
theorem q6v {tr:List Tr} {i:Nat} {t:Tr} (ht:tr[i]? = some t) (C0:Conf):runT (tr.take (i+1)) C0=(runT (tr.take i) C0).app t.dst t.e:=by
 have step:∀ (r:List Tr) (C:Conf) (t:Tr),(runT (r++[t]) C)=(runT r C).app t.dst t.e:=by
  intro r
  induction r with
  |nil=>exact fun C t=>rfl
  |cons a r ih=>exact fun C t=>ih _ t
 obtain⟨hi,e⟩:=List.getElem?_eq_some_iff.1 ht
 rw [List.take_succ_eq_append_getElem hi,step,e]
def qnh (l:List Oper) (L:Nat→Bool):Prop:=∀ j o,L j=true→l[j]? = some o→∀ d∈qcw o,L d=true
theorem qnh.anc {l:List Oper} {L:Nat→Bool} (h:qnh l L) {i j:Nat} (ha:AncR l i j):L j=true→L i=true:=by
 induction ha with
 |dep ho hi=>exact fun hj=>h _ _ hj ho _ hi
 |step ho hd _ ih=>exact fun hj=>ih (h _ _ hj ho _ hd)
theorem q4v {E:Env} {rd:Option Nat} {N:Nat} {id:Nat} {l:List Oper} {B:Bs} {C0:Conf} {tr:List Tr} {Q:Exit→AS→Prop} {s:AS} (hm:E.P.follows .mixedOrders=true) (hnd:l.toArray.all qet=true) (hd:qgm 0 l=true)
  (hw:q19 E N l C0 tr) (hc:chkT 0 tr (ancs l [])=true) (hs:SatC B C0 s) (hq:∀ s',SatC B (runT tr C0) s'→Q .normal s'):AWp E rd N (.region id l.toArray true) Q s:=by
 have hlen:=hw.len
 let NX:=(runT tr C0).nx
 let SC:=tr.map Tr.sch
 let HC:=tr.map fun t:Tr=>t.e.ch
 have hSC:∀ {j:Nat} {c:List (Nat×SV)},SC[j]? = some c→∃ t,tr[j]? = some t∧c=t.sch:=fun {j c} h=>by
  simp only [SC,List.getElem?_map] at h
  cases ht:tr[j]? with
  |none=>rw [ht] at h;simp at h
  |some t=>rw [ht] at h;simp at h;exact⟨t,rfl,h.symm⟩
 have hHC:∀ {j:Nat} {c:List (Nat×Option SR)},HC[j]? = some c→∃ t,tr[j]? = some t∧c=t.e.ch:=fun {j c} h=>by
  simp only [HC,List.getElem?_map] at h
  cases ht:tr[j]? with
  |none=>rw [ht] at h;simp at h
  |some t=>rw [ht] at h;simp at h;exact⟨t,rfl,h.symm⟩
 have hop:∀ {j:Nat} {t:Tr},tr[j]? = some t→∃ o,l[j]? = some o:=fun {j t} h=>⟨_,List.getElem?_eq_getElem (by have:=lt_of_getElem? h;omega)⟩
 have htk:tr.take tr.length=tr:=List.take_length
 have hnx:∀ {j:Nat} {t:Tr},tr[j]? = some t→t.nx=(runT (tr.take j) C0).nx∧t.e.nx=(runT (tr.take (j+1)) C0).nx:=fun {j t} h=>by
  obtain⟨o,ho⟩:=hop h
  refine⟨(hw.loc j o t ho h).2.2.1,?_⟩
  rw [q6v h]
  rfl
 have hmono:∀ {i j:Nat} {a b:Tr},i<j→tr[i]? = some a→tr[j]? = some b→a.e.nx≤b.nx:=fun {i j a b} hij ha hb=>by
  rw [(hnx ha).2,(hnx hb).1]
  exact qke hw (by omega) (by have:=lt_of_getElem? hb;omega)
 have hNX:∀ {j:Nat} {t:Tr},tr[j]? = some t→t.e.nx≤NX:=fun {j t} h=>by
  rw [(hnx h).2]
  have:=qke hw (i:=j+1) (j:=tr.length) (by have:=lt_of_getElem? h;omega) (Nat.le_refl _)
  rw [htk] at this
  exact this
 have h0nx:∀ {j:Nat} {t:Tr},tr[j]? = some t→C0.nx≤t.nx:=fun {j t} h=>by
  rw [(hnx h).1]
  exact qke hw (i:=0) (Nat.zero_le j) (by have:=lt_of_getElem? h;omega)
 have hanc:∀ j i,((ancs l []).getD j 0).testBit i=true→AncR l i j:=qv4 l [] (fun k o hk=>by simpa using hk) (fun j i h=>by simp [List.getD] at h)
 have pair:∀ {i j:Nat} {a b:Tr},i<j→tr[i]? = some a→tr[j]? = some b→AncR l i j∨indT a b=true:=fun {i j a b} hij ha hb=>by
  have:=qwu hc i j a b hij ha hb
  rw [Nat.zero_add,Nat.zero_add] at this
  exact this.imp_left fun h=>hanc j i h
 have hb0:B.n0≤C0.nx:=by obtain⟨_,h,_⟩:=hs;exact h.le
 refine q4u hm hnd hd (fun L s=>qnh l L∧SatC B ⟨cf L 0 SC C0.sl,cf L 0 HC C0.hp,NX⟩ s) ⟨fun j o h=>by simp at h,?_⟩ ?_ ?_
 ·obtain⟨ρ,hdf,hR⟩:=hs
  have hC0:C0.nx≤NX:=by
   have:=qke hw (i:=0) (j:=tr.length) (Nat.zero_le _) (Nat.le_refl _)
   rw [htk] at this
   exact this
  refine⟨ρ,hdf.nx (Nat.le_trans hdf.le hC0),hR.congr (fun d=>?_) ?_ ?_⟩
  ·rw [qju fun _ _=>rfl]
  ·show hpF (cf (fun _=>false) 0 HC C0.hp)=hpF C0.hp
   rw [qju fun _ _=>rfl]
  ·have:=qke hw (i:=0) (j:=tr.length) (Nat.zero_le _) (Nat.le_refl _)
   rw [htk] at this
   exact this
 ·rintro L s' hall ⟨_,ρ,hdf,hR⟩
  refine hq s' ⟨ρ,hdf.nx hdf.le,hR.congr (fun d=>?_) ?_ (Nat.le_refl _)⟩
  ·have h1:=(qjv tr 0 tr.length C0).1
   rw [htk] at h1
   rw [← h1]
   simp only [qdl]
   rw [qcp (L:=fun j=>Nat.blt j (0+tr.length)) (L':=L) fun j c hc _=>by
    obtain⟨t,ht,_⟩:=hSC hc
    have hj:=lt_of_getElem? ht
    rw [hall (0+j) (by omega)]
    exact qa8 (by omega)]
  ·have h1:=(qjv tr 0 tr.length C0).2
   rw [htk] at h1
   rw [← h1]
   funext k
   unfold hpF
   simp only [qdl]
   rw [qcp (L:=fun j=>Nat.blt j (0+tr.length)) (L':=L) fun j c hc _=>by
    obtain⟨t,ht,_⟩:=hHC hc
    have hj:=lt_of_getElem? ht
    rw [hall (0+j) (by omega)]
    exact qa8 (by omega)]
 ·-- the steps
  suffices H:∀ (i:Nat) (o:Oper),l[i]? = some o→∀ L s,L i=false→(∀ j,(qcw o).contains j=true→L j=true)→(qnh l L∧SatC B ⟨cf L 0 SC C0.sl,cf L 0 HC C0.hp,NX⟩ s) →
    AOps E none N l.toArray [o] (fun s=>qnh l (addL L i)∧SatC B ⟨cf (addL L i) 0 SC C0.sl,cf (addL L i) 0 HC C0.hp,NX⟩ s) s by
   have gen:∀ (r:List Oper) (i0:Nat),(∀ k o,r[k]? = some o→l[i0+k]? = some o)→ql7 E N l.toArray (fun L s=>qnh l L∧SatC B ⟨cf L 0 SC C0.sl,cf L 0 HC C0.hp,NX⟩ s) i0 r:=by
    intro r
    induction r with
    |nil=>exact fun _ _=>trivial
    |cons o r ih=>
     intro i0 hr
     exact⟨H i0 o (by have:=hr 0 o rfl;simpa using this),ih (i0+1) fun k o' hk=>by rw [show i0+1+k=i0+(k+1) by omega];exact hr (k+1) o' (by simpa using hk)⟩
   exact gen l 0 fun k o hk=>by simpa using hk
  rintro i o ho L ⟨t0,S,df⟩ hLi hdeps ⟨hdown,ρ,hdf,hR⟩
  simp only at hdf hR
  have hil:=lt_of_getElem? ho
  obtain⟨t,ht⟩:∃ t,tr[i]? = some t:=⟨_,List.getElem?_eq_getElem (by omega)⟩
  obtain⟨hL,hwf,hnxi,hdst⟩:=hw.loc i o t ho ht
  obtain⟨w1,w2,w3⟩:=qf2 hwf
  -- who has done what, told by the text
  have anc_in:∀ {j:Nat},AncR l j i→L j=true:=fun {j} h=>by
   cases h with
   |dep ho' hi=>
    rw [ho] at ho'
    simp only [Option.some.injEq] at ho'
    subst ho'
    exact hdeps j (by simpa using hi)
   |step ho' hd' h'=>
    rw [ho] at ho'
    simp only [Option.some.injEq] at ho'
    subst ho'
    exact hdown.anc h' (hdeps _ (by simpa using hd'))
  have not_after:∀ {j:Nat},AncR l i j→L j=false:=fun {j} h=>by
   cases hj:L j with
   |false=>rfl
   |true=>rw [hdown.anc h hj] at hLi;simp at hLi
  have agree:∀ {j:Nat} {b:Tr},tr[j]? = some b→(∀ (hji:j<i),indT b t=true→False)→(∀ (hij:i<j),indT t b=true→False)→L j=Nat.blt j i:=fun {j b} hb h1 h2=>by
   rcases Nat.lt_trichotomy j i with hji|hji|hji
   ·rw [qa8 hji]
    rcases pair hji hb ht with h|h
    ·exact anc_in h
    ·exact (h1 hji h).elim
   ·subst hji
    rw [hLi]
    cases hbb:Nat.blt j j with
    |false=>rfl
    |true=>have:=kw hbb;omega
   ·have:Nat.blt j i=false:=by
     cases hbb:Nat.blt j i with
     |false=>rfl
     |true=>have:=kw hbb;omega
    rw [this]
    rcases pair hji ht hb with h|h
    ·exact not_after h
    ·exact (h2 hji h).elim
  have hslA:∀ d,memN t.rd d=true→lkS (cf L 0 SC C0.sl) d=lkS (runT (tr.take i) C0).sl d:=fun d hd=>by
   have h1:=(qjv tr 0 i C0).1
   rw [← h1]
   simp only [qdl]
   rw [qcp (L:=L) (L':=fun j=>Nat.blt j (0+i)) fun j c hc hl=>by
    obtain⟨b,hb,rfl⟩:=hSC hc
    have hdm:=qpl hl
    rw [Nat.zero_add,Nat.zero_add]
    refine agree hb (fun hji h=>?_) (fun hij h=>?_)
    ·simp only [indT,Bool.and_eq_true] at h
     have:=qep h.1.1.1.1.1.1.1 hdm
     rw [hd] at this
     simp at this
    ·simp only [indT,Bool.and_eq_true] at h
     have:=qep h.1.1.1.1.1.2 hdm
     rw [hd] at this
     simp at this]
  have hhpA:resF t.e.ks (hpF (runT (tr.take i) C0).hp)=resF t.e.ks (hpF (cf L 0 HC C0.hp)):=by
   funext k
   unfold resF
   cases hk:memN t.e.ks k with
   |false=>rfl
   |true=>
    simp only [cond_true]
    have h1:=(qjv tr 0 i C0).2
    rw [← h1]
    unfold hpF
    simp only [qdl]
    rw [qcp (L:=fun j=>Nat.blt j (0+i)) (L':=L) fun j c hc hl=>by
     obtain⟨b,hb,rfl⟩:=hHC hc
     have hdm:=qmx hl
     rw [Nat.zero_add,Nat.zero_add]
     refine (agree hb (fun hji h=>?_) (fun hij h=>?_)).symm
     ·simp only [indT,Bool.and_eq_true] at h
      have:=qep h.1.1.1.1.2 hdm
      rw [hk] at this
      simp at this
     ·simp only [indT,Bool.and_eq_true] at h
      have:=qep h.1.1.2 hdm
      rw [hk] at this
      simp at this]
  refine hL _ none _ [] ρ t0 S (fun d v hd'=>?_) (by rw [hhpA];exact hR.hp.res _) fun ρ' S' hp=>qc ⟨fun j o' hj ho' d hd'=>?_,ρ',?_,?_⟩
  ·obtain⟨g1,g2⟩:=zdl hd'
   exact hR.sl d v (by rw [hslA d g1];exact g2)
  ·unfold addL at hj ⊢
   rcases Bool.or_eq_true_iff.1 hj with hj|hj
   ·have:=Nat.eq_of_beq_eq_true hj
    subst this
    rw [ho] at ho'
    simp only [Option.some.injEq] at ho'
    subst ho'
    rw [hdeps d (by simpa using hd'),Bool.or_true]
   ·rw [hdown j o' hj ho' d hd',Bool.or_true]
  ·have hp2:qg4 ρ S t.nx (hpF (cf L 0 HC C0.hp)) t.e ρ' S':=⟨hp.old,by rw [← hhpA];exact hp.sat,hp.len,by rw [← hhpA];exact hp.fr,by rw [← hhpA];exact hp.loc⟩
   have:=hdf.stepG (C':=⟨cf (addL L i) 0 SC C0.sl,cf (addL L i) 0 HC C0.hp,NX⟩) hR.hp hp2 (by have:=hb0;have:=h0nx ht;omega) hdf.le
   cases o.dst <;> exact this
  ·have hp2:qg4 ρ S t.nx (hpF (cf L 0 HC C0.hp)) t.e ρ' S':=⟨hp.old,by rw [← hhpA];exact hp.sat,hp.len,by rw [← hhpA];exact hp.fr,by rw [← hhpA];exact hp.loc⟩
   have old_lt:∀ k,Nat.blt k C0.nx=true→(Nat.blt k t.nx ||Nat.ble t.e.nx k)=true:=fun k hk=>by
    have:=h0nx ht
    rw [qa8 (by have:=kw hk;omega),Bool.true_or]
   have ear_lt:∀ {j:Nat} {b:Tr},j<i→tr[j]? = some b→∀ k,Nat.blt k b.e.nx=true→(Nat.blt k t.nx ||Nat.ble t.e.nx k)=true:=fun {j b} hji hb k hk=>by
    have:=hmono hji hb ht
    rw [qa8 (by have:=kw hk;omega),Bool.true_or]
   have lat:∀ {j:Nat} {b:Tr},tr[j]? = some b→L j=true→¬ j<i→indT t b=true∧i<j:=fun {j b} hb hLj hji=>by
    have hij:i<j:=by
     rcases Nat.lt_trichotomy i j with h|h|h
     ·exact h
     ·subst h;rw [hLi] at hLj;simp at hLj
     ·omega
    rcases pair hij ht hb with h|h
    ·rw [not_after h] at hLj;simp at hLj
    ·exact⟨h,hij⟩
   have hst:=hR.stepG (d:=o.dst) (nx:=t.nx) (NX:=NX) (Nat.le_refl _) (all_mono (fun k hk=>qa8 (by have:=kw hk;have:=hNX ht;omega)) _ w2) (fun q hq'=>⟨by have:=(w3 q hq').1;have:=hNX ht;omega,fun r hr=>SR.all_mono (fun k hk=>qa8 (by have:=kw hk;have:=hNX ht;omega)) r ((w3 q hq').2.2 r hr)⟩) (fun d v hd'=>?_) (fun k r hk=>?_) hp2
   ·refine SatR.congr (S0:=B.S0) (F:=B.F) (C:=⟨match o.dst with|some d=>(d,t.e.val)::cf L 0 SC C0.sl|none=>cf L 0 SC C0.sl,t.e.ch++cf L 0 HC C0.hp,NX⟩) ?_ (fun d=>?_) ?_ (Nat.le_refl _)
    ·cases hod:o.dst with
     |none=>rw [hod] at hst;exact hst
     |some x=>rw [hod] at hst;exact hst
    ·have hSi:SC[i]? = some t.sch:=by simp only [SC,List.getElem?_map,ht];rfl
     have hadd:=qmt (L:=L) (k:=d) (i:=0) (j0:=i) hSi fun j c hij hc hLj hl=>by
      obtain⟨b,hb,rfl⟩:=hSC hc
      rw [Nat.zero_add] at hLj
      have h:=(lat hb hLj (by omega)).1
      simp only [indT,Bool.and_eq_true] at h
      have h2:=qep h.1.1.1.1.1.1.2 (qpl hl)
      cases hq':lkS b.sch d with
      |none=>rfl
      |some w=>
       have:=qpl (t:=b) (d:=d) (by rw [hq'];simp)
       rw [h2] at this
       simp at this
     rw [Nat.zero_add,hLi] at hadd
     simp only [cond_false] at hadd
     have e:lkS (match o.dst with|some d=>(d,t.e.val)::cf L 0 SC C0.sl|none=>cf L 0 SC C0.sl) d=lkS (t.sch++cf L 0 SC C0.sl) d:=by
      unfold Tr.sch
      rw [hdst]
      cases o.dst <;> rfl
     rw [e,qc6]
     simp only [qdl]
     rw [hadd]
     cases lkS t.sch d <;> rfl
    ·rw [q1a]
     funext k
     have hHi:HC[i]? = some t.e.ch:=by simp only [HC,List.getElem?_map,ht];rfl
     have hadd:=qmt (L:=L) (k:=k) (i:=0) (j0:=i) hHi fun j c hij hc hLj hl=>by
      obtain⟨b,hb,rfl⟩:=hHC hc
      rw [Nat.zero_add] at hLj
      have h:=(lat hb hLj (by omega)).1
      simp only [indT,Bool.and_eq_true] at h
      have h2:=qep h.1.1.1.2 (qmx hl)
      cases hq':lkS b.e.ch k with
      |none=>rfl
      |some w=>
       have:=qmx (ch:=b.e.ch) (k:=k) (by rw [hq'];simp)
       rw [h2] at this
       simp at this
     rw [Nat.zero_add,hLi] at hadd
     simp only [cond_false] at hadd
     unfold chF hpF
     simp only [qdl]
     rw [hadd]
     cases lkS t.e.ch k <;> rfl
   ·simp only [qdl] at hd'
    cases hlast:xd L d 0 SC with
    |none=>
     rw [hlast] at hd'
     simp only at hd'
     obtain⟨ρ0,_,hR0⟩:=hs
     exact all_mono old_lt v (hR0.wsl d v hd')
    |some u=>
     rw [hlast] at hd'
     simp only [Option.some.injEq] at hd'
     subst hd'
     obtain⟨j,c,hc',hLj,hl⟩:=qhf hlast
     obtain⟨b,hb,rfl⟩:=hSC hc'
     rw [Nat.zero_add] at hLj
     obtain⟨ob,hob⟩:=hop hb
     have hu:u=b.e.val:=by
      unfold Tr.sch at hl
      cases hbd:b.dst with
      |none=>rw [hbd] at hl;simp [lkS] at hl
      |some x=>
       rw [hbd] at hl
       simp only [lkS] at hl
       cases hbx:Nat.beq x d with
       |true=>rw [hbx] at hl;simp only [cond_true,Option.some.injEq] at hl;exact hl.symm
       |false=>rw [hbx] at hl;simp at hl
     subst hu
     by_cases hji:j<i
     ·exact all_mono (ear_lt hji hb) _ (qf2 (hw.loc j ob b hob hb).2.1).2.1
     ·have h:=(lat hb hLj hji).1
      simp only [indT,Bool.and_eq_true] at h
      exact h.1.2
   ·have hk':=xu hk
    simp only [qdl] at hk'
    cases hlast:xd L k 0 HC with
    |none=>
     rw [hlast] at hk'
     simp only at hk'
     obtain⟨ρ0,_,hR0⟩:=hs
     obtain⟨g1,g2⟩:=hR0.whp k r (by unfold hpF;rw [hk'])
     exact⟨.inl (by have:=h0nx ht;omega),SR.all_mono old_lt r g2⟩
    |some u=>
     rw [hlast] at hk'
     simp only [Option.some.injEq] at hk'
     subst hk'
     obtain⟨j,c,hc',hLj,hl⟩:=qhf hlast
     obtain⟨b,hb,rfl⟩:=hHC hc'
     rw [Nat.zero_add] at hLj
     obtain⟨ob,hob⟩:=hop hb
     obtain⟨g1,_,g3⟩:=(qf2 (hw.loc j ob b hob hb).2.1).2.2 _ (vd hl)
     by_cases hji:j<i
     ·exact⟨.inl (by have:=hmono hji hb ht;simp only at g1;omega),SR.all_mono (ear_lt hji hb) r (g3 r rfl)⟩
     ·have h:=(lat hb hLj hji).1
      simp only [indT,Bool.and_eq_true] at h
      have h2:=List.all_eq_true.1 h.2 _ (vd hl)
      simp only [Bool.and_eq_true,Bool.or_eq_true] at h2
      exact⟨h2.1.imp kw Nat.le_of_ble_eq_true,h2.2⟩
def opTm:Operand→Option Nat
 | .tmp i=>some i
 | _=>none
def rdOf (l:List Oper) (o:Oper):List Nat:=o.op.operands.toList.filterMap opTm++match o.guard with
 |some (j,_)=>dstL (qvm l j)
 |none=>[]
def wpDr (E:Env) (N:Nat) (l:List Oper) (bxs:List Nat):Nat→List Oper→List Tr→(List Tr→Conf→Prop)→Conf→Prop
 | _,[],tr,K,C=>K tr C
 |i,o::r,tr,K,⟨sl,hp,nx⟩=>opG E N l bxs nx (rs (rdOf l o) sl) (hpF hp) (gdW (isGd i l) (fcE fun e=>qvo sl hp nx o.dst (wpDr E N l bxs (i+1) r (tr++[⟨rdOf l o,o.dst,e,nx⟩]) K) e)) o
theorem q9u (r:List Tr) (t:Tr):∀ C,runT (r++[t]) C=(runT r C).app t.dst t.e:=by
 induction r with
 |nil=>exact fun C=>rfl
 |cons a r ih=>exact fun C=>ih _
theorem q15 {E:Env} {N:Nat} {l:List Oper} {bxs:List Nat} {C0:Conf} {K:List Tr→Conf→Prop}:∀ {r:List Oper} {i:Nat} {tr:List Tr} {C:Conf},(∀ k,r[k]? = l[i+k]?)→tr.length=i→i+r.length=l.length→C=runT tr C0 →
  (∀ j o t,l[j]? = some o→tr[j]? = some t→Loc E N l.toArray o t.nx (rs t.rd (runT (tr.take j) C0).sl) (hpF (runT (tr.take j) C0).hp) t.e∧t.e.wf t.nx=true∧t.nx=(runT (tr.take j) C0).nx∧t.dst=o.dst) →
  wpDr E N l bxs i r tr K C→∃ tr',q19 E N l C0 tr'∧K tr' (runT tr' C0)
 | [],i,tr,C,hr,hl,hn,hC,hw,h=>⟨tr,⟨by simpa [hl] using hn,hw⟩,by rw [← hC];exact h⟩
 |o::r,i,tr,⟨sl,hp,nx⟩,hr,hl,hn,hC,hw,h=>by
  obtain⟨e,hL,h⟩:=q58 h
  obtain⟨e,hL,h⟩:=q5o hL h
  rw [q5m] at h
  obtain⟨hwf,h⟩:=qxz h
  ·refine q15 (r:=r) (i:=i+1) (tr:=tr++[⟨rdOf l o,o.dst,e,nx⟩]) (fun k=>?_) (by simp [hl]) (by simp at hn;omega) (by rw [q9u,← hC]) (fun j o' t ho ht=>?_) h
   ·have:=hr (k+1)
    rw [show i+1+k=i+(k+1) by omega,← this]
    rfl
   ·by_cases hj:j<tr.length
    ·rw [List.getElem?_append_left hj] at ht
     rw [List.take_append_of_le_length (by omega)]
     exact hw j o' t ho ht
    ·have hji:j=tr.length:=by
      have:=lt_of_getElem? ht
      simp at this
      omega
     subst hji
     simp only [List.getElem?_concat_length,Option.some.injEq] at ht
     subst ht
     have ho2:=hr 0
     rw [← hl,Nat.add_zero,ho] at ho2
     simp only [List.getElem?_cons_zero,Option.some.injEq] at ho2
     subst ho2
     rw [List.take_left,← hC]
     exact⟨hL,hwf,rfl,rfl⟩
def drB (E:Env) (l:List Oper) (tr:List Tr):Bool:=E.P.follows .mixedOrders && l.toArray.all qet && qgm 0 l && chkT 0 tr (ancs l [])
structure DrOk (E:Env) (l:List Oper) (tr:List Tr):Prop where
 ok:drB E l tr=true
theorem qg {E:Env} {rd:Option Nat} {N:Nat} {B:Bs} {Q:Exit→Conf→Prop} {C:Conf} {id:Nat} {ops:Array Oper} (bxs:List Nat)
  (h:wpDr E N ops.toList bxs 0 ops.toList [] (fun tr C'=>DrOk E ops.toList tr∧Q .normal C') C):Sm E rd N B (.region id ops true) Q C:=⟨fun s hs=>by
 obtain⟨tr,hw,hb,hq⟩:=q15 (C0:=C) (l:=ops.toList) (i:=0) (tr:=[]) (fun k=>by rw [Nat.zero_add]) rfl (by simp) rfl (fun j o t _ ht=>by simp at ht) h
 have hb:=hb.ok
 simp only [drB,Bool.and_eq_true] at hb
 have e:ops=ops.toList.toArray:=by simp
 rw [e]
 exact q4v hb.1.1.1 hb.1.1.2 hb.1.2 hw hb.2 hs fun s' hs'=>⟨_,hq,hs'⟩⟩
theorem cSd {P:Prop} (h:P:=by first|exact rfl|exact trivial|exact fun _=>rfl|exact qnv _|exact DrOk.mk (by kernel_rfl)|exact jc fun _=>rfl|omega|(simp only [List.length_map,List.length_append,List.length_cons,List.length_nil,List.length_take,List.length_drop];omega)|exact zdo):P:=h
theorem exr {α : Type} {A K : α→Prop} {a : α} (k:K a) (h:A a:=by exact rfl):∃ x,A x∧K x:=⟨a,h,k⟩
theorem cpe {E:Env} {H:Nat→Option SR} {nx:Nat} {f:FuncId} {vs:List SV} {args:List AV} {r0:AV} {k:Ef→Prop} (hc:∀ S,qn E f args S fun r S'=>r=r0∧S'=S) (hk:k ⟨nf r0,SV.kss vs,[],nx⟩) (ha:qvj E.P f (frzs (resF (SV.kss vs) H) vs)=some args:=by exact rfl):∃ e,qac E f vs nx H e∧k e:=⟨_,zba hc ha,hk⟩
end Go.Av
namespace Go.Proofs.YtneejjefekdgjaaGreatDoor
open Go Go.Av Go.RowKit Go.Proofs Go.Pl
def qcy (n0:Nat) (ks:List Nat) (sl:List (Nat×SV)) (hp:List (Nat×Option SR)) (nx:Nat):Bool:=
 sl.all (fun q=>q.2.all fun k=>Nat.blt k n0) && hp.all (fun q=>match q.2 with
  |some (.cells _ _)=>memN ks q.1
  |some (.own _ _ _)=>false
  |some (.obj _)=>memN ks q.1
  |some (.rows _ _ _)=>false
  | _=>true) && Nat.ble n0 nx
def ksIn (n0:Nat) (ks:List Nat) (hp:List (Nat×Option SR)):Bool:=ks.all fun k=>Nat.blt k n0 && match lkS hp k with
 |some (some (.cells _ _))=>true
 |some (some (.obj _))=>true
 | _=>false
structure RB (E:Env) (N:Nat) (F:Nat→Prop) (ρ : Nat→AV) (n0:Nat) (body:Code) (Q:Exit→Conf→Prop) (C:Conf):Prop where
 run:∀ S rd,Sm E rd N ⟨S,F,ρ,n0,False⟩ body Q C
structure RA (E:Env) (N:Nat) (n0:Nat) (asg:Code) (K:(Nat→Prop)→(Nat→AV)→Conf→Prop) (C:Conf):Prop where
 run:∀ S F ρ rd,Sm E rd N ⟨S,F,ρ,n0,True⟩ asg (fun e C1=>match e with
  | .normal=>∀ F',K F' ρ C1
  | _=>False) C
def q99 (Q:Exit→Conf→Prop):Code→Conf→Prop
 | .ret=>Q .ret
 | .exit id=>Q (.exit id)
 | _=>fun _=>False
def qk4 (k:Nat) (text rest:List UInt8):SV:=.ag [.i k,.i ((text.length:Int) - rest.length),.s (upto 10 rest),.p (10∈rest) inferInstance]
theorem q80 (k:Nat) (text rest:List UInt8) (ρ : Nat→AV):(qk4 k text rest).ev ρ = qdk k text rest:=rfl
@[reducible] def rndQ {X : Type} (n0 : Nat) (P : X → Prop) (D : Code → X → Prop) (C : X → Conf) (e : Exit) (C2 : Conf) : Prop := match e with
 | .normal=>∃ x,P x∧EntA n0 C2 (C x)
 | .ret=>∃ x,D .ret x∧EntA n0 C2 (C x)
 | .exit id=>∃ x,D (.exit id) x∧EntA n0 C2 (C x)
 | _=>False
section
variable {N : Nat} {B : Bs} {C : Conf} {Q : Exit → Conf → Prop} {rd : Option Nat}
structure RInv (B:Bs) (n0 n:Nat) (ks:List Nat) (ρ1 t:Nat→AV) (df:List Nat) (C:Conf) (S:List AObj):Prop where
 ex:∃ ρ,(∀ k,k<n0→ρ k = ρ1 k)∧SatR B.S0 B.F C ρ t S∧(∀ d∈df,S[d]? = some .dfr)∧n≤S.length
theorem qwr {n0 n:Nat} {ks:List Nat} {ρ1 ρ : Nat→AV} {hp:List (Nat×Option SR)} {sl:List (Nat×SV)} {nx k:Nat} {T:TypeId} {cs:List SV} (hks:∀ k∈ks,k<n0∧∃ o,zv (ρ1 k)=some o∧o<n) (hr:qcy n0 ks sl hp nx=true) (hρ : ∀ k,k<n0→ρ k = ρ1 k) (hk:hpF hp k=some (.cells T cs)):k<n0∧∃ o,zv (ρ k)=some o∧o<n:=by
 have h1:=xu hk
 simp only [qcy,Bool.and_eq_true] at hr
 have:=List.all_eq_true.1 hr.1.2 _ (vd h1)
 simp only at this
 obtain⟨g1,g2⟩:=hks k (qpk this)
 refine⟨g1,?_⟩
 rw [hρ k g1]
 exact g2
theorem q6f {n0:Nat} {ks:List Nat} {sl:List (Nat×SV)} {hp:List (Nat×Option SR)} {nx k sz:Nat} {T:TypeId} {xs:List AV} (hr:qcy n0 ks sl hp nx=true) (hk:hpF hp k=some (.own sz T xs)):False:=by
 have h1:=xu hk
 simp only [qcy,Bool.and_eq_true] at hr
 have:=List.all_eq_true.1 hr.1.2 _ (vd h1)
 simp at this
theorem q55 {n0 n:Nat} {ks:List Nat} {ρ1 ρ : Nat→AV} {hp:List (Nat×Option SR)} {sl:List (Nat×SV)} {nx k:Nat} {P:AObj→AV→Prop} (hks:∀ k∈ks,k<n0∧∃ o,zv (ρ1 k)=some o∧o<n) (hr:qcy n0 ks sl hp nx=true) (hρ : ∀ k,k<n0→ρ k = ρ1 k) (hk:hpF hp k=some (.obj P)):k<n0∧∃ o,zv (ρ k)=some o∧o<n:=by
 have h1:=xu hk
 simp only [qcy,Bool.and_eq_true] at hr
 have:=List.all_eq_true.1 hr.1.2 _ (vd h1)
 simp only at this
 obtain⟨g1,g2⟩:=hks k (qpk this)
 refine⟨g1,?_⟩
 rw [hρ k g1]
 exact g2
theorem q1w {n0:Nat} {ks:List Nat} {sl:List (Nat×SV)} {hp:List (Nat×Option SR)} {nx k:Nat} {T2:TypeId} {ys2:List AV} {cs2:List SV} (hr:qcy n0 ks sl hp nx=true) (hk:hpF hp k=some (.rows T2 ys2 cs2)):False:=by
 have h1:=xu hk
 simp only [qcy,Bool.and_eq_true] at hr
 have:=List.all_eq_true.1 hr.1.2 _ (vd h1)
 simp at this
theorem RInv.ext {n0 n:Nat} {ks:List Nat} {ρ1 t:Nat→AV} {df:List Nat} {C:Conf} {S S':List AObj} (h:RInv B n0 n ks ρ1 t df C S) (hks:∀ k∈ks,k<n0∧∃ o,zv (ρ1 k)=some o∧o<n) (hr:qcy n0 ks C.sl C.hp C.nx=true) (hB:B.S0.length≤n) (hdn:∀ d∈df,d<n) (hE:Ext n S S'):RInv B n0 n ks ρ1 t df C S':=by
 obtain⟨ρ,hρ,hR,hd,hn⟩:=h.ex
 refine⟨ρ,hρ,⟨hR.sl,⟨fun k r hk=>?_,hR.hp.sep⟩,hR.own,fun j hj hF=>?_,Nat.le_trans hR.len hE.len,hR.wsl,hR.whp⟩,fun d hdd=>?_,Nat.le_trans hn hE.len⟩
 ·refine SR.ok_of (f:=fun _=>true) (SR.all_mono (fun _ _=>rfl) r (hR.whp k r hk).2) (fun _ _=>rfl) (hR.hp.ok k r hk) fun o ho=>?_
  rcases SR.ok_ct (hR.hp.ok k r hk) ho with⟨T,cs,v,h1,T',cs',rfl⟩ | ⟨m,sz,T,h1⟩ | ⟨sz,T,xs,rfl⟩ | ⟨P1,rfl⟩ | ⟨T2,ys2,cs2,rfl⟩
  rotate_left 2
  ·exact (q6f hr hk).elim
  ·obtain⟨_,o',h2,h3⟩:=q55 hks hr hρ hk
   rw [h2] at ho
   simp only [Option.some.injEq] at ho
   subst ho
   exact hE.low _ h3
  ·exact (q1w hr hk).elim
  ·obtain⟨_,o',h2,h3⟩:=qwr hks hr hρ hk
   rw [h2] at ho
   simp only [Option.some.injEq] at ho
   subst ho
   exact hE.low _ h3
  ·exact hE.tips _ _ _ _ h1
 ·rw [hE.low j (by omega)]
  exact hR.low j hj hF
 ·rw [hE.low d (hdn d hdd)]
  exact hd d hdd
def evY {ι : Type} (Y : ι→Option (SV×ι)) (i : ι):Option (AV×ι):=match Y i with
 |some (v,j)=>some (v.ev fun _=>zu,j)
 |none=>none
theorem q0j {X:Type} {f:Operand} {p:Tmp} {asg body:Code} {g:FuncId} {T:TypeId} {cs:List AV} {ι : Type} {Y : ι→Option (SV×ι)} {i0 : ι} (hit:ItC g T cs (evY Y) i0) (hrun:∀ vs w,(callFunc g vs).run E.P w = .ok (.enter g vs) w) (hY:∀ i v j,Y i=some (v,j)→v.all (fun _=>false)=true) (kb n0:Nat) (cv:List SV) (hcv:∀ ρ,SV.evs ρ cv=cs) (ks:List Nat) (I:X→Conf) (sl0:List (Nat×SV)) (P : ι→X→Prop) (D:Code→X→Prop) (x0:X) (h0:P i0 x0)
  (he:EntA B.n0 C (I x0)) (hz:¬ B.dz) (hsl:∀ x,(I x).sl=sl0)
  (hf:sval N sl0 f=some (.fn (.func g) [] [.bx kb 0]))
  (hkb:∀ x,lkS (I x).hp kb=some (some (.cells T cv)))
  (hr:∀ x,qcy n0 ks (I x).sl (I x).hp (I x).nx=true) (h0r:(ksIn n0 ks (I x0).hp && Nat.ble B.n0 n0)=true)
  (hb:∀ i x v j,P i x→Y i=some (v,j)→RA E N n0 asg (fun F ρ C1=>RB E N F ρ n0 body (rndQ n0 (P j) D I) C1) ⟨(p,v)::(I x).sl,(I x).hp,(I x).nx⟩)
  (hn:∀ i x,Y i=none→P i x→Q .normal (I x)) (hd:∀ c x,D c x→q99 Q c (I x)):Sm E none N B (.rangeFunc f #[p] asg body) Q C:=⟨fun s hs=>by
 obtain⟨ts,S0,df⟩:=s
 obtain⟨ρ0,hF0,hR0⟩:=hs
 simp only at hF0 hR0
 obtain⟨σ,hrg,he⟩:=he.ent
 have hF1:=hF0.ren (C':=I x0) hrg
 obtain⟨t,hw,hR1⟩:=he.sat hR0
 clear hF0 hR0 he hrg
 generalize renR σ ρ0 = ρ1 at hF1 hR1
 refine qwk hw ?_
 simp only [Bool.and_eq_true] at h0r
 have hBn:=Nat.le_of_ble_eq_true h0r.2
 have hB:=hR1.len
 have hks:∀ k∈ks,k<n0∧∃ o,zv (ρ1 k)=some o∧o<S0.length:=fun k hk=>by
  have:=List.all_eq_true.1 h0r.1 k hk
  simp only [Bool.and_eq_true] at this
  refine⟨kw this.1,?_⟩
  have h2:=this.2
  split at h2
  ·rename_i T cs hl
   have hk2:hpF (I x0).hp k=some (.cells T cs):=by unfold hpF;rw [hl]
   obtain⟨o,v,h1,h3,rfl⟩:=hR1.hp.ok k _ hk2
   exact⟨o,by rw [h1];rfl,lt_of_getElem? h3⟩
  ·rename_i P hl
   have hk2:hpF (I x0).hp k=some (.obj P):=by unfold hpF;rw [hl]
   obtain⟨o,x,h1,h3,_⟩:=hR1.hp.ok k _ hk2
   exact⟨o,h1,lt_of_getElem? h3⟩
  ·simp at h2
 have hdn:∀ d∈df,d<S0.length:=fun d hd=>lt_of_getElem? (hF1.dm d hd).1
 have hi0:RInv B n0 S0.length ks ρ1 t df (I x0) S0:=⟨ρ1,fun _ _=>rfl,hR1,fun d hd=>(hF1.dm d hd).1,Nat.le_refl _⟩
 have hnm:∀ x,(sl0.all fun q=>q.2.all fun k=>Nat.blt k n0)=true:=fun x=>by
  have:=hr x
  simp only [qcy,Bool.and_eq_true,hsl] at this
  exact this.1.1
 have hnm:=hnm x0
 have slot:∀ {ρ : Nat→AV},(∀ k,k<n0→ρ k = ρ1 k)→SlOk ρ t sl0:=fun {ρ} hρ d v hd=>by
  rw [hR1.sl d v (by rw [hsl];exact hd)]
  exact (qcc (fun k hk=>hρ k (kw hk)) v (List.all_eq_true.1 hnm _ (vd hd))).symm
 have hnx:∀ x,n0≤(I x).nx:=fun x=>by
  have:=hr x
  simp only [qcy,Bool.and_eq_true] at this
  exact Nat.le_of_ble_eq_true this.2
 have hkb1:kb<n0∧∃ o,ρ1 kb = .bx o 0 0∧o<S0.length:=by
  have h1:=hr x0
  simp only [qcy,Bool.and_eq_true] at h1
  have:=List.all_eq_true.1 h1.1.2 _ (vd (hkb x0))
  have hk2:hpF (I x0).hp kb=some (.cells T cv):=by unfold hpF;rw [hkb x0]
  obtain⟨o,v,h1,h3,rfl⟩:=hR1.hp.ok kb _ hk2
  exact⟨(hks kb (qpk this)).1,o,h1,lt_of_getElem? h3⟩
 obtain⟨hkbn,okb,hokb,hokl⟩:=hkb1
 have hfe:=q7 (S:=S0) (df:=df) (slot fun _ _=>rfl) hf
 simp only [SV.ev,SV.evs,hokb,bxAt] at hfe
 have out:∀ {x S},RInv B n0 S0.length ks ρ1 t df (I x) S→S[S0.length]? = some .dfr→SatC B (I x) ⟨t,S,S0.length::df⟩:=fun {x S} hi hm=>by
  obtain⟨ρ,hρ,hR,hdd,hnS⟩:=hi.ex
  refine⟨ρ,⟨fun d hd=>?_,List.nodup_cons.2 ⟨fun h=>Nat.lt_irrefl _ (hdn _ h),hF1.nd⟩,fun k hk=>(hρ k (by omega)).trans (hF1.rig k hk),Nat.le_trans hBn (hnx x),fun h=>(hz h).elim⟩,hR⟩
  rcases List.mem_cons.1 hd with rfl|hd
  ·exact⟨hm,hB⟩
  ·exact⟨hdd d hd,(hF1.dm d hd).2⟩
 refine qwj (S0:=S0) hit rfl hfe hrun
  (fun i S=>∃ x,P i x∧RInv B n0 S0.length ks ρ1 t df (I x) S) (fun c S=>∃ x,D c x∧RInv B n0 S0.length ks ρ1 t df (I x) S) ⟨x0,h0,hi0⟩ ?_ ?_ ?_ ?_ ?_ ?_
 ·rintro i S ⟨x,_,hi⟩
  obtain⟨ρ,hρ,hR,_⟩:=hi.ex
  have hk2:hpF (I x).hp kb=some (.cells T cv):=by unfold hpF;rw [hkb x]
  obtain⟨o,v,h1,h3,rfl⟩:=hR.hp.ok kb _ hk2
  rw [hρ kb hkbn,hokb] at h1
  simp only [AV.bx.injEq] at h1
  obtain⟨rfl,_⟩:=h1
  rw [hcv] at h3
  exact h3
 ·rintro i S S' hE ⟨x,hx,hi⟩
  exact⟨x,hx,hi.ext hks (hr x) hB hdn hE⟩
 ·rintro c S S' hE ⟨x,hx,hi⟩
  exact⟨x,hx,hi.ext hks (hr x) hB hdn hE⟩
 ·rintro F own rd i u j S hF ⟨x,hx,hi⟩ hy hm0 hm1 hm2
  obtain⟨v,hv,hu⟩:∃ v,Y i=some (v,j)∧u=v.ev fun _=>zu:=by
   unfold evY at hy
   split at hy
   ·rename_i v j2 hv
    simp only [Option.some.injEq,Prod.mk.injEq] at hy
    obtain⟨rfl,rfl⟩:=hy
    exact⟨v,hv,rfl⟩
   ·simp at hy
  subst hu
  have hva:=hY i v j hv
  obtain⟨ρ,hρ,hR,hdd,hnS⟩:=hi.ex
  -- what no resource's place is
  have qcv:∀ o y,S[o]? = some y→S0.length≤o→(∀ m sz T,y≠.tip m sz T)→¬ qcx (I x).hp ρ o:=fun o y hy ho hyt ⟨k,r,hk,hl⟩=>by
   rcases SR.ok_ct (hR.hp.ok k r hk) hl with⟨T,cs,v,h1,T',cs',rfl⟩ | ⟨m,sz,T,h1⟩ | ⟨sz,T,xs,rfl⟩ | ⟨P1,rfl⟩ | ⟨T2,ys2,cs2,rfl⟩
   rotate_left 2
   ·exact (q6f (hr x) hk).elim
   ·obtain⟨_,o',h2,h3⟩:=q55 hks (hr x) hρ hk
    rw [h2] at hl
    simp only [Option.some.injEq] at hl
    omega
   ·exact (q1w (hr x) hk).elim
   ·obtain⟨_,o',h2,h3⟩:=qwr hks (hr x) hρ hk
    rw [h2] at hl
    simp only [Option.some.injEq] at hl
    omega
   ·rw [h1] at hy
    simp only [Option.some.injEq] at hy
    exact hyt _ _ _ hy.symm
  have a0:=qcv _ _ hm0 (by omega) (fun _ _ _=>by simp)
  have a1:=qcv _ _ hm1 (by omega) (fun _ _ _=>by rw [hF];simp)
  have a2:=fun k y hk=>qcv _ _ (hm2 k y hk).1 (by omega) (fun m sz T e=>(hm2 k y hk).2 m sz T (by rw [e]))
  have ad:∀ d∈df,¬ qcx (I x).hp ρ d:=fun d hd ⟨k,r,hk,hl⟩=>SR.ok_dfr (hR.hp.ok k r hk) hl (hdd d hd)
  have l2:=lt_of_getElem? hm1
  have s1:=((hb i x v j hx hv).run S (qcx (I x).hp ρ) ρ1 rd).run ⟨put t p (v.ev fun _=>zu),S,[]⟩
   ⟨ρ,⟨nofun,List.nodup_nil,hρ,hnx x,fun _=>rfl⟩,?_⟩
  rotate_left
  ·have hb1:=hR.rebase (S':=S) fun _ _=>rfl
   refine⟨fun d v hd=>?_,hb1.hp,hb1.own,hb1.low,hb1.len,fun d v hd=>?_,hb1.whp⟩
   ·simp only [lkS] at hd
    cases hbe:Nat.beq p d with
    |true=>
     rw [hbe] at hd
     simp only [cond_true,Option.some.injEq] at hd
     have e:=Nat.eq_of_beq_eq_true hbe
     subst e hd
     simp only [put]
     rw [qcc (f:=fun _=>false) (ρ:=fun _=>zu) (ρ':= ρ) (fun k hk=>by simp at hk) v hva]
     simp
    |false=>
     rw [hbe] at hd
     have e:d≠p:=fun e=>by subst e;simp at hbe
     have:=hb1.sl d v hd
     simp only [put]
     rw [show Nat.beq d p=false from j7 e]
     exact this
   ·simp only [lkS] at hd
    cases hbe:Nat.beq p d with
    |true=>
     rw [hbe] at hd
     simp only [cond_true,Option.some.injEq] at hd
     subst hd
     exact all_mono (f:=fun _=>false) (fun k hk=>by simp at hk) v hva
    |false=>
     rw [hbe] at hd
     exact hb1.wsl d _ hd
  refine s1.mono fun e s1 ⟨C1,hq,hs1⟩=>?_
  cases e with
  |normal=>
   obtain⟨ρs,hFs,hRs⟩:=hs1
   have hdf1:=hFs.dz trivial
   have b1:s1.st[S0.length+1]? = some (F .ready none):=(hRs.low _ (by simp only;omega) a1).trans hm1
   refine⟨b1,hdf1,?_⟩
   have hq:=(hq (qcx C1.hp ρs)).run (s1.st.set (S0.length+1) (F .busy none)) (some rd)
   have c0:∀ o,o<S.length→¬ qcx (I x).hp ρ o→¬ qcx C1.hp ρs o:=fun o ho hn ⟨k,r,hk,hl⟩=>by
    rcases hRs.own k r hk o hl with h|h
    ·simp only at h
     omega
    ·exact hn h
   have hRb:=hRs.rebase (S':=s1.st.set (S0.length+1) (F .busy none)) fun o ho=>List.getElem?_set_ne fun e=>c0 (S0.length+1) (by omega) a1 (by rw [e];exact ho)
   refine (hq.run ⟨s1.t,s1.st.set (S0.length+1) (F .busy none),[]⟩ ⟨ρs,⟨nofun,List.nodup_nil,hFs.rig,hFs.le,nofun⟩,hRb⟩).mono fun e s2 ⟨C2,hq2,hs2⟩=>?_
   obtain⟨ρ2,hF2,hR2⟩:=hs2
   have hl1:=hRs.len
   have keep:∀ o y,o≠S0.length+1→S[o]? = some y→¬ qcx (I x).hp ρ o→s2.st[o]? = some y:=fun o y hne hy hn=>by
    have ho:=lt_of_getElem? hy
    rw [hR2.low o (by simp only [List.length_set];simp only at hl1;omega) (c0 o ho hn)]
    simp only
    rw [List.getElem?_set_ne (fun e=>hne e.symm),hRs.low o ho hn]
    exact hy
   have k0:=keep _ _ (by omega) hm0 a0
   have k2:∀ k y,own[k]? = some y→s2.st[S0.length+2+k]? = some y:=fun k y hk=>keep _ _ (by omega) (hm2 k y hk).1 (a2 k y hk)
   have k1:s2.st[S0.length+1]? = some (F .busy none):=by
    rw [hR2.low _ (by simp only [List.length_set];simp only at hl1;omega) (c0 _ (by omega) a1)]
    simp only
    exact zy b1
   have fin:∀ x',EntA n0 C2 (I x')→RInv B n0 S0.length ks ρ1 t df (I x') s2.st:=fun x' he'=>by
    obtain⟨σ2,hrg2,he2⟩:=he'.ent
    have hF3:=hF2.ren (C':=I x') hrg2
    obtain⟨t3,_,hR3⟩:=he2.sat hR2
    have hl3:=hR3.len
    simp only [List.length_set] at hl3
    simp only at hl1
    refine⟨_,hF3.rig,⟨by rw [hsl];exact slot hF3.rig,hR3.hp,fun k r hk o ho=>?_,fun j hj hnj=>?_,by omega,hR3.wsl,hR3.whp⟩,fun d hd=>?_,by omega⟩
    ·rcases hR3.own k r hk o ho with h | ⟨k',r',h,h'⟩
     ·simp only [List.length_set] at h
      exact .inl (by omega)
     ·rcases hRs.own k' r' h o h' with h | ⟨k2,r2,h2,h3⟩
      ·simp only at h
       exact .inl (by omega)
      ·exact hR.own k2 r2 h2 o h3
    ·have hj0:¬ qcx (I x).hp ρ j:=fun ⟨k',r',h,h'⟩=>by
      rcases hR.own k' r' h j h' with h|h
      ·omega
      ·exact hnj h
     have hjS:j<S.length:=by omega
     rw [← hR.low j hj hnj]
     obtain⟨y,hy⟩:∃ y,S[j]? = some y:=⟨_,List.getElem?_eq_getElem hjS⟩
     rw [hy]
     exact keep j y (by omega) hy hj0
    ·exact keep d _ (by have:=hdn d hd;omega) (hdd d hd) (ad d hd)
   cases e with
   |normal=>
    obtain⟨x',hx',he'⟩:=hq2
    exact⟨k0,k1,k2,x',hx',fin x' he'⟩
   |ret=>
    obtain⟨x',hx',he'⟩:=hq2
    exact⟨k0,k1,k2,x',hx',fin x' he'⟩
   |exit id=>
    obtain⟨x',hx',he'⟩:=hq2
    exact⟨k0,k1,k2,x',hx',fin x' he'⟩
   | _=>exact hq2.elim
  | _=>exact hq.elim
 ·rintro i S hy ⟨x,hx,hi⟩ hm
  exact⟨I x,hn i x (by
   unfold evY at hy
   split at hy
   ·simp at hy
   ·assumption) hx,out hi hm⟩
 ·rintro c S ⟨x,hx,hi⟩ hm
  have hq:=hd c x hx
  cases c with
  |ret=>exact qs ⟨I x,hq,out hi hm⟩
  |exit id=>exact z7 ⟨I x,hq,out hi hm⟩
  | _=>exact hq.elim⟩
theorem qf0 {X:Type} {f:Operand} {p:Tmp} {asg body:Code} (text:List UInt8) (kb n0:Nat) (ks:List Nat) (I:X→Conf) (sl0:List (Nat×SV)) (P:Nat→List UInt8→X→Prop) (D:Code→X→Prop) (x0:X) (h0:P 0 text x0)
  (he:EntA B.n0 C (I x0)) (hz:¬ B.dz) (ht:text.length<4294967281) (hsl:∀ x,(I x).sl=sl0)
  (hf:sval N sl0 f=some (.fn (.func 121) [] [.bx kb 0]))
  (hkb:∀ x,lkS (I x).hp kb=some (some (.cells 9 [.s text])))
  (hr:∀ x,qcy n0 ks (I x).sl (I x).hp (I x).nx=true) (h0r:(ksIn n0 ks (I x0).hp && Nat.ble B.n0 n0)=true)
  (hb:∀ k rest x,P k rest x→rest≠[]→rest.length≤text.length→RA E N n0 asg (fun F ρ C1=>RB E N F ρ n0 body (rndQ n0 (P (k+1) (past 10 rest)) D I) C1) ⟨(p,qk4 k text rest)::(I x).sl,(I x).hp,(I x).nx⟩)
  (hn:∀ k x,P k [] x→Q .normal (I x)) (hd:∀ c x,D c x→q99 Q c (I x)):Sm E none N B (.rangeFunc f #[p] asg body) Q C:=by
 have hY:evY (fun (q:Nat×List UInt8)=>if q.2=[]∨text.length<q.2.length then none else some (qk4 q.1 text q.2,(q.1+1,past 10 q.2)))=qna text:=by
  funext ⟨k,rest⟩
  by_cases h:rest=[]∨text.length<rest.length
  ·simp [evY,qna,h]
  ·simp [evY,qna,h,q80]
 refine q0j (Y:=fun (q:Nat×List UInt8)=>if q.2=[]∨text.length<q.2.length then none else some (qk4 q.1 text q.2,(q.1+1,past 10 q.2))) (i0:=(0,text)) (by rw [hY];exact q90 text ht) Tryz.call121 (fun i v j h=>?_) kb n0 [.s text] (fun _=>rfl) ks I sl0 (fun i x=>P i.1 i.2 x∧i.2.length≤text.length) D x0 ⟨h0,Nat.le_refl _⟩ he hz hsl hf hkb hr h0r (fun i x v j hp h=>?_) (fun i x h hp=>?_) hd
 ·split at h
  ·simp at h
  ·simp only [Option.some.injEq,Prod.mk.injEq] at h
   obtain⟨rfl,_⟩:=h
   rfl
 ·split at h
  ·simp at h
  ·rename_i hne
   simp only [Option.some.injEq,Prod.mk.injEq] at h
   obtain⟨rfl,rfl⟩:=h
   have hb:=hb i.1 i.2 x hp.1 (fun e=>hne (.inl e)) hp.2
   have hp2:=kq 10 i.2
   exact⟨fun S F ρ rd=>⟨fun s hs=>((hb.run S F ρ rd).run s hs).mono fun e s' ⟨C',hq,hs'⟩=>⟨C',by
    cases e with
    |normal=>exact fun F'=>⟨fun S rd=>qy4 ((hq F').run S rd) fun e C2 hq2=>by
      cases e with
      |normal=>obtain⟨x,h1,h2⟩:=hq2;exact⟨x,⟨h1,by simp only;have:=hp.2;omega⟩,h2⟩
      | _=>exact hq2⟩
    | _=>exact hq,hs'⟩⟩⟩
 ·split at h
  ·rename_i he
   have:i.2=[]:=he.elim id fun h=>by have:=hp.2;omega
   refine hn i.1 x ?_
   rw [← this]
   exact hp.1
  ·simp at h
end
theorem qlm {nx:Nat} {H:Nat→Option SR} (text:qa):qac E 67 [.s text] nx H ⟨.fn (.func 121) [] [.bx nx 0],[],[(nx,some (.cells 9 [.s text]))],nx+1⟩:=fun ρ S hS=>by
 refine (qsz text S _ S.length rfl rfl).mono fun r S' ⟨hr,hs⟩=>⟨upd ρ nx (.bx S.length 0 0),?_,?_⟩
 ·rw [hr]
  simp only [SV.ev,SV.evs,wa,bxAt]
 ·subst hs
  have key:∀ k r',chF [(nx,some (SR.cells 9 [.s text]))] (resF [] H) k=some r'→k=nx∧r' = .cells 9 [.s text]:=fun k r' hk=>by
   simp only [chF,lkS] at hk
   cases hb:Nat.beq nx k with
   |true=>
    rw [hb] at hk
    simp only [cond_true,Option.some.injEq] at hk
    exact⟨(Nat.eq_of_beq_eq_true hb).symm,hk.symm⟩
   |false=>
    rw [hb] at hk
    simp [resF,memN] at hk
  refine⟨fun k hk=>yz _ _ (by simp only at hk;omega),⟨fun k r hk=>?_,fun k k' r r' hne h1 h2=>?_⟩,by simp,fun j hj _=>List.getElem?_append_left hj,fun k r hk o ho=>?_⟩
  ·obtain⟨rfl,rfl⟩:=key _ _ hk
   exact⟨S.length,0,wa _ _ _,by simp [SV.evs,SV.ev],rfl⟩
  ·obtain⟨rfl,_⟩:=key _ _ h1
   obtain⟨rfl,_⟩:=key _ _ h2
   exact absurd rfl hne
  ·obtain⟨rfl,_⟩:=key _ _ hk
   rw [wa] at ho
   simp only [zv,Option.some.injEq] at ho
   subst ho
   exact .inl (Nat.le_refl _)
end Go.Proofs.YtneejjefekdgjaaGreatDoor
namespace Go.Av
open Go Go.RowKit
def qav (hp:List (Nat×Option SR)):List (Nat×Option SR):=hp.map fun q=>(q.1,none)
def retS (P:Program) (fn:Func) (nx0:Nat) (r:SV) (hp1:List (Nat×Option SR)) (nx1:Nat) (e:Exit) (C:Conf):Prop:=
 match e with
 | .normal=>(match resV P fn.ntmps C fn.results.toList with
  |some v=>v.all (fun k=>Nat.blt k C.nx)=true∧EntA nx0 ⟨[(0,v)],C.hp,C.nx⟩ ⟨[(0,r)],hp1,nx1⟩
  |none=>False)
 | .ret=>(match resV P fn.ntmps C fn.results.toList with
  |some v=>v.all (fun k=>Nat.blt k C.nx)=true∧EntA nx0 ⟨[(0,v)],C.hp,C.nx⟩ ⟨[(0,r)],hp1,nx1⟩
  |none=>False)
 | _=>False
theorem q3j {hp:List (Nat×Option SR)} {k:Nat} {r:SR} (h:hpF hp k=some r):memN (yb hp) k=true:=by
 have:=vd (xu h)
 exact List.any_eq_true.2 ⟨k,List.mem_map.2 ⟨_,this,rfl⟩,by simp⟩
theorem qal (hp:List (Nat×Option SR)):resF (yb hp) (hpF hp)=hpF hp:=by
 funext k
 unfold resF
 cases h:memN (yb hp) k with
 |true=>rfl
 |false=>
  cases h2:hpF hp k with
  |none=>rfl
  |some r=>rw [q3j h2] at h;simp at h
theorem qua:∀ (hp:List (Nat×Option SR)) (k:Nat),lkS (qav hp) k=none∧lkS hp k=none∨lkS (qav hp) k=some none
 | [],_=>.inl ⟨rfl,rfl⟩
 |(i,x)::r,k=>by
  simp only [qav,List.map_cons,lkS]
  cases hb:Nat.beq i k with
  |true=>exact .inr rfl
  |false=>exact qua r k
theorem qjw (hp0 hp1:List (Nat×Option SR)):chF (hp1++qav hp0) (hpF hp0)=hpF hp1:=by
 funext k
 unfold chF
 rw [qc6]
 unfold hpF
 cases h:lkS hp1 k with
 |some r=>rfl
 |none=>
  simp only
  rcases qua hp0 k with⟨h1,h2⟩|h1
  ·rw [h1,h2]
  ·rw [h1]
theorem qft {E:Env} {f:FuncId} {fn:Func} {c:Code} (vs:List SV) (hp0:List (Nat×Option SR)) (nx0:Nat) (r:SV) (hp1:List (Nat×Option SR)) (nx1:Nat) (hf:E.P.funcs[f]? = some fn) (hb:fn.body=some c) (hn:Nat.ble vs.length fn.ntmps=true)
  (hc:okC ⟨jp 0 vs,hp0,nx0⟩=true) (hc1:okC ⟨[(0,r)],hp1,nx1⟩=true)
  (h:∀ S F ρ,numK 0 vs fun sl=>Sm E none fn.ntmps ⟨S,F,ρ,nx0,False⟩ c (retS E.P fn nx0 r hp1 nx1) ⟨sl,hp0,nx0⟩):qac E f vs nx0 (hpF hp0) ⟨r,yb hp0,hp1++qav hp0,nx1⟩:=fun ρ S hS=>by
 simp only [qsr] at h
 simp only [qal] at hS
 have hlen:(SV.evs ρ vs).length=vs.length:=by rw [w7,List.length_map]
 refine qo hf hb (by rw [hlen];exact Nat.le_of_ble_eq_true hn) ?_
 rw [List.append_nil]
 simp only [okC,Bool.and_eq_true] at hc hc1
 have hwhp:∀ k r,hpF hp0 k=some r→k<nx0∧r.all (fun k=>Nat.blt k nx0)=true:=fun k r hk=>by
  have:=List.all_eq_true.1 hc.2 _ (vd (xu hk))
  simp only [Bool.and_eq_true] at this
  exact⟨kw this.1,this.2⟩
 have hst:SatC ⟨S,qcx hp0 ρ,ρ,nx0,False⟩ ⟨jp 0 vs,hp0,nx0⟩ ⟨argT (SV.evs ρ vs),S,[]⟩:=by
  refine⟨ρ,⟨nofun,List.nodup_nil,fun _ _=>rfl,Nat.le_refl _,nofun⟩,⟨fun d v hd=>?_,hS,fun k r hk o ho=>.inr ⟨k,r,hk,ho⟩,fun _ _ _=>rfl,Nat.le_refl _,fun d v hd=>?_,hwhp⟩⟩
  ·obtain⟨j,h1,h2⟩:=qfg hd
   have:(SV.evs ρ vs)[j]? = some (v.ev ρ):=by rw [w7,List.getElem?_map,h2];rfl
   rw [h1,Nat.zero_add]
   simp only [argT,List.getD,this,Option.getD_some]
  ·exact List.all_eq_true.1 hc.1 _ (vd hd)
 refine ((h S (qcx hp0 ρ) ρ).run _ hst).mono fun e s' ⟨C',hq,hs'⟩=>?_
 obtain⟨t,S',df⟩:=s'
 obtain⟨ρ2,hdf,hR⟩:=hs'
 simp only at hdf hR
 have fin:(match resV E.P fn.ntmps C' fn.results.toList with
  |some v=>v.all (fun k=>Nat.blt k C'.nx)=true∧EntA nx0 ⟨[(0,v)],C'.hp,C'.nx⟩ ⟨[(0,r)],hp1,nx1⟩
  |none=>False)→ARet E fn (fun r' S'=>∃ ρ',r'=r.ev ρ'∧qg4 ρ S nx0 (hpF hp0) ⟨r,yb hp0,hp1++qav hp0,nx1⟩ ρ' S') ⟨t,S',df⟩:=fun h=>by
  split at h
  ·rename_i v hv
   obtain⟨hva,he⟩:=h
   obtain⟨σ,hrg,he⟩:=he.ent
   refine qkn hR hdf.dm hdf.nd fun S2 hR2=>?_
   have hR3:SatR S (qcx hp0 ρ) ⟨[(0,v)],C'.hp,C'.nx⟩ ρ2 (fun _=>v.ev ρ2) S2:=
    ⟨fun d u hd=>by
     simp only [lkS] at hd
     cases hb:Nat.beq 0 d with
     |true=>rw [hb] at hd;simp only [cond_true,Option.some.injEq] at hd;rw [hd]
     |false=>rw [hb] at hd;simp [lkS] at hd,hR2.hp,hR2.own,hR2.low,hR2.len,fun d u hd=>by
     simp only [lkS] at hd
     cases hb:Nat.beq 0 d with
     |true=>rw [hb] at hd;simp only [cond_true,Option.some.injEq] at hd;rw [← hd];exact hva
     |false=>rw [hb] at hd;simp [lkS] at hd,hR2.whp⟩
   obtain⟨t',hw,hR4⟩:=he.sat hR3
   have hrig:∀ k,k<nx0→renR σ ρ2 k = ρ k:=fun k hk=>by
    simp only [Bool.and_eq_true] at hrg
    unfold renR
    rw [qps hrg.1 k hk]
    exact hdf.rig k hk
   have hrn:nx0≤nx1:=by
    simp only [Bool.and_eq_true] at hrg
    exact Nat.le_of_ble_eq_true hrg.2
   generalize renR σ ρ2 = ρ3 at hR4 hrig
   have h0:t' 0=r.ev ρ3:=hR4.sl 0 r rfl
   have hwk:=hw 0
   rw [h0] at hwk
   let ρ':Nat→AV:=fun k=>bif Nat.ble nx1 k then ρ k else ρ3 k
   have hρ':∀ k,Nat.blt k nx1=true→ρ' k = ρ3 k:=fun k hk=>by
    show (bif Nat.ble nx1 k then ρ k else ρ3 k)=_
    have:Nat.ble nx1 k=false:=by
     cases hb:Nat.ble nx1 k with
     |false=>rfl
     |true=>have:=Nat.le_of_ble_eq_true hb;have:=kw hk;omega
    rw [this]
    rfl
   have hra:r.all (fun k=>Nat.blt k nx1)=true:=List.all_eq_true.1 hc1.1 (0,r) (by simp)
   have hev:r.ev ρ'=r.ev ρ3:=qcc hρ' r hra
   refine qk rfl (xb (q1v hR2 hv) hwk) ⟨ρ',hev.symm,?_⟩
   have hwh:∀ k r,hpF hp1 k=some r→ρ' k = ρ3 k∧r.all (fun k=>Nat.blt k nx1)=true:=fun k r hk=>by
    obtain⟨g1,g2⟩:=hR4.whp k r hk
    exact⟨hρ' k (qa8 g1),g2⟩
   refine⟨fun k hk=>?_,?_,hR4.len,fun j hj hn=>?_,fun k r hk o ho=>?_⟩
   ·show (bif Nat.ble nx1 k then ρ k else ρ3 k)=_
    cases hb:Nat.ble nx1 k with
    |true=>rfl
    |false=>
     rcases hk with hk|hk
     ·exact hrig k hk
     ·have:=Nat.ble_eq_true_of_le hk
      simp only at this
      rw [this] at hb
      simp at hb
   ·simp only [qal,qjw]
    refine⟨fun k r hk=>?_,fun k k' r r' hne h1 h2 o ho=>?_⟩
    ·obtain⟨g1,g2⟩:=hwh k r hk
     rw [g1]
     exact SR.ok_of g2 hρ' (hR4.hp.ok k r hk) fun _ _=>rfl
    ·rw [(hwh k r h1).1] at ho
     rw [(hwh k' r' h2).1]
     exact hR4.hp.sep k k' r r' hne h1 h2 o ho
   ·simp only [qal] at hn
    exact hR4.low j hj fun ⟨k,r,hk,hl⟩=>hn k r hk hl
   ·simp only [qal,qjw] at hk ⊢
    rw [(hwh k r hk).1] at ho
    exact hR4.own k r hk o ho
  ·exact h.elim
 cases e with
 |normal=>exact fin hq
 |ret=>exact fin hq
 | _=>exact hq.elim
def newN:Nat→Nat→Nat→List (Nat×Nat)
 | _,_,0=>[]
 |a,b,m+1=>(a,b)::newN (a+1) (b+1) m
theorem qxy:∀ (m a b k:Nat),lkS (newN a b m) k=if a≤k∧k<a+m then some (b+(k - a)) else none
 | 0,a,b,k=>by rw [if_neg (by omega)];rfl
 |m+1,a,b,k=>by
  simp only [newN,lkS]
  by_cases h:a=k
  ·subst h
   simp
  ·rw [j7 h,qxy m]
   simp only [cond_false]
   by_cases h2:a+1≤k∧k<a+1+m
   ·rw [if_pos h2,if_pos (by omega)]
    congr 1
    omega
   ·rw [if_neg h2,if_neg (by omega)]
def nmOf (σ : List (Nat×Nat)) (k:Nat):Nat:=match lkS σ k with
 |some j=>j
 |none=>0
def SR.ren (σ : List (Nat×Nat)):SR→SR
 | .cells T cs=>.cells T (SV.rens σ cs)
 | .tip sz T xs=>.tip sz T xs
 | .own sz T xs=>.own sz T xs
 | .obj P=>.obj P
 | .rows T ys cs=>.rows T ys (SV.rens σ cs)
def renO (σ : List (Nat×Nat)):Option SR→Option SR
 |some r=>some (r.ren σ)
 |none=>none
def renH (σ : List (Nat×Nat)):List (Nat×Option SR)→List (Nat×Option SR)
 | []=>[]
 |(k,r)::l=>(nmOf σ k,renO σ r)::renH σ l
def fltH (ks:List Nat):List (Nat×Option SR)→List (Nat×Option SR)
 | []=>[]
 |(k,r)::l=>bif memN ks k then (k,r)::fltH ks l else fltH ks l
def outH (ks:List Nat):List (Nat×Option SR):=ks.map fun k=>(k,none)
def qqr:List Nat→Bool
 | []=>true
 |k::r=> !memN r k && qqr r
theorem q1g (ks:List Nat):∀ (hp:List (Nat×Option SR)) (k:Nat),lkS (fltH ks hp) k=bif memN ks k then lkS hp k else none
 | [],k=>by simp only [fltH,lkS];cases memN ks k <;> rfl
 |(i,r)::l,k=>by
  have ih:=q1g ks l k
  simp only [fltH]
  by_cases e:i=k
  ·subst e
   cases hm:memN ks i with
   |true=>simp [lkS]
   |false=>rw [hm] at ih;simp only [cond_false] at ih ⊢;exact ih
  ·cases hm:memN ks i with
   |true=>simp only [cond_true,lkS,j7 e,cond_false];exact ih
   |false=>simp only [cond_false,lkS,j7 e];exact ih
theorem q1b (ks:List Nat) (hp:List (Nat×Option SR)):hpF (fltH ks hp)=resF ks (hpF hp):=by
 funext k
 unfold hpF resF
 rw [q1g]
 cases memN ks k <;> rfl
theorem q1i {σ : List (Nat×Nat)}:∀ {hp:List (Nat×Option SR)} {j:Nat} {rr:SR},lkS (renH σ hp) j=some (some rr)→∃ k r,(k,some r)∈hp∧nmOf σ k=j∧rr=r.ren σ
 | [],j,rr,h=>by simp [renH,lkS] at h
 |(k,r)::l,j,rr,h=>by
  simp only [renH,lkS] at h
  cases hb:Nat.beq (nmOf σ k) j with
  |true=>
   rw [hb] at h
   simp only [cond_true,Option.some.injEq] at h
   cases r with
   |none=>simp [renO] at h
   |some r=>
    simp only [renO,Option.some.injEq] at h
    exact⟨k,r,by simp,Nat.eq_of_beq_eq_true hb,h.symm⟩
  |false=>
   rw [hb] at h
   obtain⟨k',r',h1,h2,h3⟩:=q1i h
   exact⟨k',r',List.mem_cons_of_mem _ h1,h2,h3⟩
theorem qtt:∀ {hp:List (Nat×Option SR)} {k:Nat} {r:SR},qqr (yb hp)=true→(k,some r)∈hp→hpF hp k=some r
 | [],k,r,_,h=>by simp at h
 |(i,x)::l,k,r,hd,h=>by
  simp only [yb,List.map_cons,qqr,Bool.and_eq_true] at hd
  unfold hpF
  simp only [lkS]
  rcases List.mem_cons.1 h with e|e
  ·simp only [Prod.mk.injEq] at e
   obtain⟨rfl,rfl⟩:=e
   simp
  ·have hne:i≠k:=fun e'=>by
    subst e'
    have:memN (List.map Prod.fst l) i=true:=List.any_eq_true.2 ⟨i,List.mem_map.2 ⟨_,e,rfl⟩,by simp⟩
    rw [this] at hd
    simp at hd
   rw [j7 hne]
   exact qtt hd.2 e
theorem q1h:∀ (ks:List Nat) (j:Nat),lkS (outH ks) j=bif memN ks j then some none else none
 | [],j=>rfl
 |k::r,j=>by
  have ih:=q1h r j
  simp only [outH,List.map_cons,lkS,memN,List.any_cons]
  by_cases e:k=j
  ·subst e;simp
  ·rw [j7 e,j7 (fun h=>e h.symm)]
   exact ih
theorem qx5 {α : Type}:∀ {l:List α} {i0 i:Nat} {v : α},l[i]? = some v→lkS (jp i0 l) (i0+i)=some v
 | [],_,_,_,h=>by simp at h
 |x::r,i0,0,v,h=>by
  simp only [List.getElem?_cons_zero,Option.some.injEq] at h
  subst h
  simp [jp,lkS]
 |x::r,i0,i+1,v,h=>by
  simp only [jp,lkS]
  rw [j7 (by omega),show i0+(i+1)=i0+1+i by omega]
  exact qx5 (by simpa using h)
theorem zcv {E:Env} {f:FuncId} {vs0:List SV} {hp0:List (Nat×Option SR)} {nx0:Nat} {r:SV} {hp1:List (Nat×Option SR)} {nx1:Nat} (h:qac E f vs0 nx0 (hpF hp0) ⟨r,yb hp0,hp1++qav hp0,nx1⟩)
  (σ : List (Nat×Nat)) {hpU:List (Nat×Option SR)} {vs:List SV} {nx:Nat} (hl:vs.length=vs0.length) (hc:okC ⟨jp 0 vs,fltH (σ.map Prod.snd) hpU,nx⟩=true)
  (he:EntC σ ⟨jp 0 vs,fltH (σ.map Prod.snd) hpU,nx⟩ ⟨jp 0 vs0,hp0,nx0⟩) (hc1:okC ⟨[(0,r)],hp1,nx1⟩=true)
  (hk:(qqr (yb hp1) && hp1.all (fun q=>(lkS (newN nx0 nx (nx1 - nx0) ++ σ) q.1).isSome) && σ.all (fun q=>Nat.blt q.1 nx0 && Nat.blt q.2 nx) && Nat.ble nx0 nx1)=true) :
  qac E f vs nx (hpF hpU) ⟨r.ren (newN nx0 nx (nx1 - nx0) ++ σ),σ.map Prod.snd,renH (newN nx0 nx (nx1 - nx0) ++ σ) hp1++outH (σ.map Prod.snd),nx+(nx1 - nx0)⟩:=fun ρ S hS=>by
 simp only at hS
 simp only [Bool.and_eq_true] at hk
 obtain⟨⟨⟨hd,hsm⟩,hσ⟩,hn⟩:=hk
 have hn:=Nat.le_of_ble_eq_true hn
 simp only [okC,Bool.and_eq_true] at hc hc1
 generalize hks : σ.map Prod.snd=ks at hS hc he ⊢
 obtain⟨m,hm⟩:∃ m,m=nx1 - nx0:=⟨_,rfl⟩
 rw [← hm] at hsm ⊢
 have hR:SatR S (qcx (fltH ks hpU) ρ) ⟨jp 0 vs,fltH ks hpU,nx⟩ ρ (argT (SV.evs ρ vs)) S:=by
  refine⟨fun d v hd=>?_,by simp only [q1b];exact hS,fun k r hk o ho=>.inr ⟨k,r,hk,ho⟩,fun _ _ _=>rfl,Nat.le_refl _,fun d v hd=>List.all_eq_true.1 hc.1 _ (vd hd),fun k r hk=>?_⟩
  ·obtain⟨j,h1,h2⟩:=qfg hd
   have:(SV.evs ρ vs)[j]? = some (v.ev ρ):=by rw [w7,List.getElem?_map,h2];rfl
   rw [h1,Nat.zero_add]
   simp only [argT,List.getD,this,Option.getD_some]
  ·have:=List.all_eq_true.1 hc.2 _ (vd (xu hk))
   simp only [Bool.and_eq_true] at this
   exact⟨kw this.1,this.2⟩
 obtain⟨t',hw,hR'⟩:=he.sat hR
 have hrc:∀ k j,lkS σ k=some j→renR σ ρ k = ρ j:=fun k j e=>by unfold renR;rw [e]
 have hrn:∀ k,lkS σ k=none→renR σ ρ k=zu:=fun k e=>by unfold renR;rw [e]
 -- where a canonical resource lies
 have foot:∀ k r,hpF hp0 k=some r→∀ o,zv (renR σ ρ k)=some o→∃ j r',resF ks (hpF hpU) j=some r'∧zv (ρ j)=some o:=fun k r hk o ho=>by
  have hE:=qfv he.2.1 (xu hk)
  simp only [q1b] at hE
  unfold entR at hE
  cases hl:lkS σ k with
  |none=>
   rw [hrn k hl] at ho
   simp [zv] at ho
  |some j=>
   rw [hrc k j hl] at ho
   rw [hl] at hE
   cases hj:resF ks (hpF hpU) j with
   |none=>cases r <;> (simp only [hj] at hE)
   |some r'=>exact⟨j,r',hj,ho⟩
 have hS0:SatF S (renR σ ρ) (hpF hp0):=hR'.hp
 refine qvw (ys:=SV.evs (renR σ ρ) vs0) (by simp [w7,hl]) (fun i x y hx hy=>?_) ((h (renR σ ρ) S (by simp only [qal];exact hS0)).mono fun r' S' ⟨ρc,hr,hp⟩=>?_)
 ·have h1:=hw i
  simp only [w7,List.getElem?_map] at hy hx
  cases hv:vs0[i]? with
  |none=>rw [hv] at hy;simp at hy
  |some v=>
   rw [hv] at hy
   simp only [Option.map_some,Option.some.injEq] at hy
   have h2:=hR'.sl i v (by have:=qx5 (i0:=0) hv;rwa [Nat.zero_add] at this)
   rw [h2,hy] at h1
   have:argT (SV.evs ρ vs) i=x:=by simp only [argT,List.getD,w7,List.getElem?_map,hx,Option.getD_some]
   rw [this] at h1
   exact h1
 ·let ρ':Nat→AV:=fun j=>bif Nat.ble nx j && Nat.blt j (nx+m) then ρc (nx0+(j - nx)) else ρ j
  have hold:∀ j,(j<nx∨nx+m≤j)→ρ' j = ρ j:=fun j hj=>by
   show (bif Nat.ble nx j && Nat.blt j (nx+m) then ρc (nx0+(j - nx)) else ρ j) = ρ j
   have:(Nat.ble nx j && Nat.blt j (nx+m))=false:=by
    cases hb:(Nat.ble nx j && Nat.blt j (nx+m)) with
    |false=>rfl
    |true=>
     simp only [Bool.and_eq_true] at hb
     have h1:=Nat.le_of_ble_eq_true hb.1
     have h2:=kw hb.2
     omega
   rw [this]
   rfl
  have hnew:∀ i,i<m→ρ' (nx+i) = ρc (nx0+i):=fun i hi=>by
   show (bif Nat.ble nx (nx+i) && Nat.blt (nx+i) (nx+m) then ρc (nx0+(nx+i - nx)) else ρ (nx+i))=_
   have h1:Nat.ble nx (nx+i)=true:=Nat.ble_eq_true_of_le (by omega)
   have h2:Nat.blt (nx+i) (nx+m)=true:=qa8 (by omega)
   rw [h1,h2,show nx+i - nx=i by omega]
   rfl
  have hσj:∀ k j,lkS σ k=some j→k<nx0∧j<nx:=fun k j e=>by
   have:=List.all_eq_true.1 hσ _ (vd e)
   simp only [Bool.and_eq_true] at this
   exact⟨kw this.1,kw this.2⟩
  have hro:∀ k,k<nx0→ρc k=renR σ ρ k:=fun k hk=>hp.old k (.inl hk)
  have key:∀ k,k<nx1→renR (newN nx0 nx m ++ σ) ρ' k = ρc k:=fun k hk=>by
   have e:renR (newN nx0 nx m ++ σ) ρ' k=match lkS (newN nx0 nx m ++ σ) k with|some j=> ρ' j|none=>zu:=rfl
   rw [e,qc6,qxy]
   by_cases hkn:nx0≤k
   ·rw [if_pos ⟨hkn,by omega⟩]
    simp only
    rw [hnew _ (by omega),show nx0+(k - nx0)=k by omega]
   ·rw [if_neg (by omega),hro k (by omega)]
    simp only
    cases hl:lkS σ k with
    |none=>rw [hrn k hl]
    |some j=>
     rw [hrc k j hl]
     exact hold j (.inl (hσj k j hl).2)
  have keyj:∀ k,k<nx1→(lkS (newN nx0 nx m ++ σ) k).isSome=true→ρ' (nmOf (newN nx0 nx m ++ σ) k) = ρc k:=fun k hk hs=>by
   rw [← key k hk]
   unfold renR nmOf
   cases hl:lkS (newN nx0 nx m ++ σ) k with
   |none=>rw [hl] at hs;simp at hs
   |some j=>rfl
  have res:∀ j rr,chF (renH (newN nx0 nx m ++ σ) hp1++outH ks) (resF ks (hpF hpU)) j=some rr→∃ k r,hpF hp1 k=some r∧nmOf (newN nx0 nx m ++ σ) k=j∧rr=r.ren (newN nx0 nx m ++ σ)∧ρ' j = ρc k∧r.all (fun k=>Nat.blt k nx1)=true:=fun j rr hj=>by
   unfold chF at hj
   rw [qc6] at hj
   cases hl:lkS (renH (newN nx0 nx m ++ σ) hp1) j with
   |some x=>
    rw [hl] at hj
    simp only at hj
    subst hj
    obtain⟨k,r,h1,h2,h3⟩:=q1i hl
    have h4:=List.all_eq_true.1 hc1.2 _ h1
    simp only [Bool.and_eq_true] at h4
    have h5:=List.all_eq_true.1 hsm _ h1
    refine⟨k,r,qtt hd h1,h2,h3,?_,h4.2⟩
    rw [← h2]
    exact keyj k (kw h4.1) h5
   |none=>
    rw [hl] at hj
    simp only [q1h] at hj
    cases hmm:memN ks j with
    |true=>rw [hmm] at hj;simp at hj
    |false=>
     rw [hmm] at hj
     simp [resF,hmm] at hj
  have hra:r.all (fun k=>Nat.blt k nx1)=true:=List.all_eq_true.1 hc1.1 (0,r) (by simp)
  refine⟨ρ',?_,fun k hk=>hold k hk,⟨fun j rr hj=>?_,fun j j' rr rr' hne h1 h2 o ho=>?_⟩,hp.len,fun j hj hnj=>?_,fun j rr hj o ho=>?_⟩
  ·rw [hr]
   simp only
   rw [qrw]
   exact (qcc (fun k hk=>key k (kw hk)) r hra).symm
  ·obtain⟨k,r0,h1,h2,rfl,h4,h5⟩:=res j rr hj
   rw [h4]
   have hsat:=hp.sat
   simp only [qal,qjw] at hsat
   have hok:=hsat.ok k r0 h1
   cases r0 with
   |cells T cs=>
    obtain⟨o,v,g1,g2,g3⟩:=hok
    refine⟨o,v,g1,?_,g3⟩
    rw [qdr,qaj (fun k hk=>key k (kw hk)) cs h5]
    exact g2
   |tip sz T xs=>exact hok
   |own sz T xs=>exact hok
   |obj P=>exact hok
   |rows T ys cs=>
    show OwnS _ 1 T (ys++SV.evs _ (SV.rens _ cs)) _
    rw [qdr,qaj (fun k hk=>key k (kw hk)) cs h5]
    exact hok
  ·obtain⟨k,r0,h3,h4,_,h5,_⟩:=res j rr h1
   obtain⟨k',r0',h3',h4',_,h5',_⟩:=res j' rr' h2
   rw [h5] at ho
   rw [h5']
   have hsat:=hp.sat
   simp only [qal,qjw] at hsat
   exact hsat.sep k k' r0 r0' (fun e=>hne (by rw [← h4,← h4',e])) h3 h3' o ho
  ·refine hp.fr j hj fun k r0 hk hlo=>?_
   simp only [qal] at hk
   obtain⟨j',r',g1,g2⟩:=foot k r0 hk j hlo
   exact hnj j' r' g1 g2
  ·obtain⟨k,r0,h1,h2,_,h4,_⟩:=res j rr hj
   rw [h4] at ho
   have hlc:=hp.loc k r0 (by simp only [qal,qjw];exact h1) o ho
   rcases hlc with g | ⟨k',r',g1,g2⟩
   ·exact .inl g
   ·simp only [qal] at g1
    obtain⟨j',r'',g3,g4⟩:=foot k' r' g1 o g2
    exact .inr ⟨j',r'',g3,g4⟩
def useW (vs0:List SV) (hp0:List (Nat×Option SR)) (nx0:Nat) (r:SV) (hp1:List (Nat×Option SR)) (nx1:Nat) (hpU:List (Nat×Option SR)) (vs:List SV) (nx:Nat) (k:Ef→Prop):Prop:=
 fcP (addS [] (prsL vs0 vs)) fun a=>fcP (addS a (sigH (hpF hpU) a hp0)) fun σ=>
  vs.length=vs0.length∧okC ⟨jp 0 vs,fltH (σ.map Prod.snd) hpU,nx⟩=true∧EntC σ ⟨jp 0 vs,fltH (σ.map Prod.snd) hpU,nx⟩ ⟨jp 0 vs0,hp0,nx0⟩∧okC ⟨[(0,r)],hp1,nx1⟩=true ∧
   (qqr (yb hp1) && hp1.all (fun q=>(lkS (newN nx0 nx (nx1 - nx0) ++ σ) q.1).isSome) && σ.all (fun q=>Nat.blt q.1 nx0 && Nat.blt q.2 nx) && Nat.ble nx0 nx1)=true ∧
   k ⟨r.ren (newN nx0 nx (nx1 - nx0) ++ σ),σ.map Prod.snd,renH (newN nx0 nx (nx1 - nx0) ++ σ) hp1++outH (σ.map Prod.snd),nx+(nx1 - nx0)⟩
theorem y4 {E:Env} {f:FuncId} {vs0:List SV} {hp0:List (Nat×Option SR)} {nx0:Nat} {r:SV} {hp1:List (Nat×Option SR)} {nx1:Nat} (h:qac E f vs0 nx0 (hpF hp0) ⟨r,yb hp0,hp1++qav hp0,nx1⟩) {hpU:List (Nat×Option SR)} {vs:List SV} {nx:Nat} {k:Ef→Prop}
  (hw:useW vs0 hp0 nx0 r hp1 nx1 hpU vs nx k):∃ e,qac E f vs nx (hpF hpU) e∧k e:=by
 unfold useW at hw
 simp only [qw7] at hw
 obtain⟨h1,h2,h3,h4,h5,h6⟩:=hw
 exact⟨_,zcv h _ h1 h2 h3 h4 h5,h6⟩
theorem SatR.drop {S0:List AObj} {F:Nat→Prop} {C:Conf} {ρ t:Nat→AV} {S:List AObj} (h:SatR S0 F C ρ t S) {b o:Nat} {q:SR} (hb:hpF C.hp b=some q) (ho:∀ o',zv (ρ b)=some o'→o'=o) (hd:zv (ρ b)=some o∨S.set o .dead=S) :
  SatR S0 F ⟨C.sl,(b,none)::C.hp,C.nx⟩ ρ t (S.set o .dead):=by
 have hget:∀ k r,hpF ((b,none)::C.hp) k=some r→k≠b∧hpF C.hp k=some r:=fun k r hk=>by
  unfold hpF at hk ⊢
  simp only [lkS] at hk
  by_cases e:b=k
  ·subst e;simp at hk
  ·rw [j7 e] at hk
   exact⟨fun h=>e h.symm,hk⟩
 rcases hd with hd|hd
 ·refine⟨h.sl,⟨fun k r hk=>?_,fun k k' r r' hne hk hk'=>h.hp.sep k k' r r' hne (hget k r hk).2 (hget k' r' hk').2⟩,fun k r hk=>h.own k r (hget k r hk).2,fun j hj hF=>?_,by simpa using h.len,h.wsl,fun k r hk=>h.whp k r (hget k r hk).2⟩
  ·obtain⟨hne,hk⟩:=hget k r hk
   refine SR.ok_of (f:=fun _=>true) (SR.all_mono (fun _ _=>rfl) r (h.whp k r hk).2) (fun _ _=>rfl) (h.hp.ok k r hk) fun j hj=>?_
   have:o≠j:=fun e=>h.hp.sep b k _ r (fun e=>hne e.symm) hb hk o hd (e▸hj)
   rw [List.getElem?_set_ne this]
  ·have:o≠j:=fun e=>by
    rcases h.own b _ hb o hd with g|g
    ·omega
    ·exact hF (e▸g)
   rw [List.getElem?_set_ne this]
   exact h.low j hj hF
 ·rw [hd]
  exact⟨h.sl,⟨fun k r hk=>h.hp.ok k r (hget k r hk).2,fun k k' r r' hne hk hk'=>h.hp.sep k k' r r' hne (hget k r hk).2 (hget k' r' hk').2⟩,fun k r hk=>h.own k r (hget k r hk).2,h.low,h.len,h.wsl,fun k r hk=>h.whp k r (hget k r hk).2⟩
theorem SatR.slot {S0:List AObj} {F:Nat→Prop} {C:Conf} {ρ t:Nat→AV} {S:List AObj} (h:SatR S0 F C ρ t S) (d:Nat) {y:AV}:SatR S0 F ⟨(d,.a y)::C.sl,C.hp,C.nx⟩ ρ (Av.put t d y) S:=by
 refine⟨fun x v hx=>?_,h.hp,h.own,h.low,h.len,fun x v hx=>?_,h.whp⟩
 ·simp only [lkS] at hx
  by_cases e:d=x
  ·subst e
   simp at hx
   subst hx
   exact xv _ _ _
  ·rw [j7 e] at hx
   simp only [cond_false] at hx
   exact (qaw _ _ _ _ (fun h=>e h.symm)).trans (h.sl x v hx)
 ·simp only [lkS] at hx
  by_cases e:d=x
  ·subst e
   simp at hx
   subst hx
   rfl
  ·rw [j7 e] at hx
   exact h.wsl x v hx
theorem SatR.pub {S0:List AObj} {F:Nat→Prop} {C:Conf} {ρ t:Nat→AV} {S:List AObj} (h:SatR S0 F C ρ t S) {d b o:Nat} {T:TypeId} {cs:List SV} {xs:List AV} (hb:hpF C.hp b=some (.cells T cs)) (ho:zv (ρ b)=some o) :
  SatR S0 F ⟨(d,.a (.pp xs))::C.sl,(b,none)::C.hp,C.nx⟩ ρ (Av.put t d (.pp xs)) (S.set o .dead):=
 (h.drop hb (fun o' ho'=>by rw [ho] at ho';simpa using ho'.symm) (.inl ho)).slot d
section
variable {E : Env} {N : Nat} {ops : Array Oper} {nx : Nat} {sl : List (Nat × SV)} {H : Nat → Option SR} {k : Ef → Prop} {d : Option Tmp} {T : TypeId} {p : String} {af : Array Edge}
theorem qpn {t e e':TypeId} {x y:Operand} {b sz i:Nat} {agg:Bool} {xs:List AV} {kd:IntKind} {v:SV} (hx:sval N sl x=some (.tp b)) (hH:H b=some (.own sz e xs)) (hy:sval N sl y=some v) (hv:qfe v=some (kd,(i:Int))) (he:elT (E.P.underlying t)=some e') (ht:tyOf E.P e'=some (sz,agg)) (hi:i<xs.length)
  (h:k ⟨.bx b (0+i * sz),[b],[],nx⟩):∃ e,Loc E N ops ⟨d,.indexAddr t x y,T,p,af,none⟩ nx sl H e∧k e:=by
 refine⟨_,yo (v:=.bx b (0+i * sz)) fun df rd K rest ρ t' S hs hS hk=>?_,h⟩
 rcases hS.ok b _ ((qaa b).trans hH) with⟨rfl,_⟩ | ⟨o,ver,cap,pad,e1,e2,_⟩
 ·simp at hi
 ·refine qnz (o:=o) (ver:=ver) (off:=0) (len:=xs.length) (cp:=cap+1) ((q7 hs hx).trans (by simp [SV.ev,e1,tpAt,AV.one])) ((q7 hs hy).trans (qce hv ρ)) (yv he) ht rfl hi ?_
  simpa only [SV.ev,e1,bxAt] using hk
theorem q5n {sz i j sz':Nat} {agg:Bool} {xs pad:List AV} {z r:AV} (hw:∀ x∈xs,x.cells.length=sz) (hz:xs[i]? = some z) (hr:jq sz' agg j z.cells=some r) (hj:j+sz'≤sz) (h1:agg=false→0<sz'):jq sz' agg (0+i * sz+j) (flat xs++pad)=some r:=by
 have hg:=q12 (pad:=pad) hw hz
 have hzl:=hw z (List.mem_of_getElem? hz)
 have hlen:i * sz+sz≤(flat xs++pad).length:=by
  have:=congrArg List.length hg
  simp only [List.length_take,List.length_drop] at this
  have h1:i * sz≤xs.length * sz:=Nat.mul_le_mul_right _ (by have:=lt_of_getElem? hz;omega)
  have h2:(flat xs++pad).length=xs.length * sz+pad.length:=by rw [List.length_append,z4 hw]
  omega
 unfold jq at hr ⊢
 rw [Nat.zero_add]
 cases agg with
 |true=>
  simp only [cond_true] at hr ⊢
  have b1:Nat.ble (i * sz+j+sz') (flat xs++pad).length=true:=Nat.ble_eq_true_of_le (by omega)
  have b2:Nat.ble (j+sz') z.cells.length=true:=Nat.ble_eq_true_of_le (by omega)
  rw [b2] at hr
  rw [b1]
  simp only [cond_true] at hr ⊢
  rw [← hr,← hg]
  congr 2
  apply List.ext_getElem?
  intro q
  simp only [List.getElem?_take,List.getElem?_drop]
  by_cases hq:q<sz'
  ·rw [if_pos hq,if_pos hq,if_pos (by omega)]
   congr 1
   omega
  ·rw [if_neg hq,if_neg hq]
 |false=>
  simp only [cond_false] at hr ⊢
  have:=h1 rfl
  rw [← hr,← hg,List.getElem?_take_of_lt (by omega),List.getElem?_drop]
theorem qpo {t e:TypeId} {x:Operand} {b off sz i j sz':Nat} {agg:Bool} {xs:List AV} {z r:AV} (hx:sval N sl x=some (.bx b off)) (hH:H b=some (.own sz e xs)) (ht:tyOf E.P t=some (sz',agg)) (ho:off=0+i * sz+j) (hz:xs[i]? = some z) (hr:jq sz' agg j z.cells=some r) (hj:(Nat.ble (j+sz') sz && (agg ||Nat.blt 0 sz'))=true)
  (h:k ⟨nf r,[b],[],nx⟩):∃ e,Loc E N ops ⟨d,.load t x,T,p,af,none⟩ nx sl H e∧k e:=by
 simp only [Bool.and_eq_true,Bool.or_eq_true] at hj
 refine⟨_,yo (v:=nf r) fun df rd K rest ρ t' S hs hS hk=>?_,h⟩
 rcases hS.ok b _ ((qaa b).trans hH) with⟨rfl,_⟩ | ⟨o,ver,cap,pad,e1,e2,e3,e4,_⟩
 ·simp at hz
 ·subst ho
  refine zh (o:=o) (ver:=ver) (off:=0+i * sz+j) ((q7 hs hx).trans (by simp only [SV.ev,e1,bxAt])) e2 ht (q5n e4 hz hr (Nat.le_of_ble_eq_true hj.1) fun e=>?_) (by rw [← qk9 ρ r];exact hk)
  rcases hj.2 with h|h
  ·rw [e] at h;simp at h
  ·exact kw h
theorem qry (A Z B us:List AV) (j:Nat) (h:j+us.length≤Z.length):j9 (A++Z++B) (A.length+j) us=A++j9 Z j us++B:=by
 unfold j9
 rw [List.append_assoc A Z B,List.take_length_add_append,List.take_append_of_le_length (by omega),Nat.add_assoc,List.drop_length_add_append,List.drop_append_of_le_length (by omega)]
 simp
theorem q27 {sz i j:Nat} {xs pad us:List AV} {z z':AV} (hw:∀ x∈xs,x.cells.length=sz) (hz:xs[i]? = some z) (hz':z'.cells=j9 z.cells j us) (hj:j+us.length≤sz):j9 (flat xs++pad) (0+i * sz+j) us=flat (xs.set i z')++pad∧z'.cells.length=sz:=by
 have hzl:=hw z (List.mem_of_getElem? hz)
 have hl:z'.cells.length=sz:=by rw [hz'];simp [j9];omega
 have hi:=lt_of_getElem? hz
 refine⟨?_,hl⟩
 rw [← qpb hw hl hi]
 have hg:=q12 (pad:=pad) hw hz
 have hA:((flat xs++pad).take (i * sz)).length=i * sz:=by
  have h1:i * sz≤xs.length * sz:=Nat.mul_le_mul_right _ (by omega)
  rw [List.length_take,List.length_append,z4 hw]
  omega
 generalize flat xs++pad=cs at hg hA
 have hcs:cs=cs.take (i * sz)++z.cells++(cs.drop (i * sz)).drop sz:=by
  rw [← hg,List.append_assoc,List.take_append_drop,List.take_append_drop]
 have e1:=qry (cs.take (i * sz)) z.cells ((cs.drop (i * sz)).drop sz) us j (by omega)
 have e2:=qry (cs.take (i * sz)) z.cells ((cs.drop (i * sz)).drop sz) z'.cells 0 (by omega)
 rw [hA,← hcs] at e1 e2
 have e3:j9 z.cells 0 z'.cells=z'.cells:=by
  unfold j9
  rw [Nat.zero_add,List.drop_eq_nil_of_le (by omega)]
  simp
 rw [Nat.add_zero,e3] at e2
 rw [Nat.zero_add,e1,e2,hz']
theorem qns {b:Nat} {q:SR}:∀ k r,chF [(b,none),(nx,some q)] (resF [b] H) k=some r→k=nx∧r=q:=fun k r hk=>by
 simp only [chF,lkS] at hk
 by_cases e:b=k
 ·subst e
  simp at hk
 ·rw [j7 e] at hk
  simp only [cond_false] at hk
  by_cases e2:nx=k
  ·subst e2
   simp at hk
   exact⟨rfl,hk.symm⟩
  ·rw [j7 e2] at hk
   simp only [cond_false] at hk
   have:=(wj hk).1
   simp only [memN,List.any_cons,List.any_nil,Bool.or_false] at this
   exact absurd (Nat.eq_of_beq_eq_true this).symm e
theorem q3p {x y:Operand} {t u e:TypeId} {b sz bytes:Nat} {xs ys:List AV} {vy:SV} (hx:sval N sl x=some (.tp b)) (hH:H b=some (.own sz e xs)) (hy:sval N sl y=some vy) (hel:qit H sz vy=some (ys,[])) (ht:elT (E.P.underlying t)=some e) (hu:elT (E.P.underlying u)=some e) (hb:qvn E.P e=some (sz,bytes))
  (hn:(Nat.blt 0 bytes && Nat.ble bytes 140737 && !Nat.beq b nx)=true) (h1:xs.length+ys.length≤1000000000) (hone:ke (flat ys)=true)
  (h:k ⟨.tp nx,[b],[(b,none),(nx,some (.own sz e (xs++ys)))],nx+1⟩):∃ e,Loc E N ops ⟨d,.call ⟨.builtin .append,#[x,y],#[t,u]⟩,T,p,af,none⟩ nx sl H e∧k e:=by
 simp only [Bool.and_eq_true] at hn
 have hbp:=kw hn.1.1
 have hbl:=Nat.le_of_ble_eq_true hn.1.2
 refine⟨_,fun df rd K rest ρ t' S hs hS hk=>?_,h⟩
 have hw:∀ (G:Gh) (v:Value),Rel G (qj N ⟨t',S,df⟩ y) v→Rel G (.sl sz ys none) v:=by
  rw [q7 hs hy]
  exact qeh (S:=S) hel ⟨fun k r hk=>by rw [qfz] at hk;simp at hk,fun k k' r r' _ hk=>by rw [qfz] at hk;simp at hk⟩
 have hok:=hS.ok b _ ((qaa b).trans hH)
 have hev:qj N ⟨t',S,df⟩ x = ρ b:=(q7 hs hx).trans (qls hok)
 have hmul:(xs.length+ys.length) * bytes≤140737488355328:=Nat.le_trans (Nat.mul_le_mul h1 hbl) (by decide)
 have fin:∀ (c:AV) (S':List AObj),OwnS S' sz e (xs++ys) c→S.length≤S'.length→(∀ j,j<S.length→zv (ρ b)≠some j→S'[j]? = S[j]?)→(∀ o,zv c=some o→S.length≤o∨zv (ρ b)=some o)→AOps E rd N ops rest K (AS.put ⟨t',S',df⟩ d c):=fun c S' g1 g2 g3 g4=>by
  have:=hk (upd ρ nx c) S' ⟨fun k hk=>yz _ _ (by simp only at hk;omega),⟨fun k r hk=>?_,fun k k' r r' hne q1 q2=>absurd ((qns k r q1).1.trans (qns k' r' q2).1.symm) hne⟩,g2,fun j hj hne=>g3 j hj (hne b _ ((qaa b).trans hH)),fun k r hk o ho=>?_⟩
  ·simpa only [SV.ev,wa,qls g1] using this
  ·obtain⟨rfl,rfl⟩:=qns k r hk
   rw [wa]
   exact g1
  ·obtain⟨rfl,rfl⟩:=qns k r hk
   rw [wa] at ho
   exact (g4 o ho).imp_right fun h=>⟨b,_,(qaa b).trans hH,h⟩
 by_cases hy0:ys=[]
 ·subst hy0
  have hc:∀ G v,Rel G (ρ b) v→∃ b n cp,v = .slice b n cp∧n≤cp:=fun G v hv=>by
   rcases hok with⟨_,e1⟩ | ⟨o,ver,cap,pad,e1,e2,e3,e4,e5,e6⟩
   ·obtain⟨base,rfl⟩:=e1.val G v hv
    exact⟨_,_,_,rfl,Nat.le_refl _⟩
   ·rw [e1] at hv
    cases hv with
    |os=>exact⟨_,_,_,rfl,e5⟩
  exact qv5 hev hc hw (yv ht) (yv hu) (qks hb) (fin (ρ b) S (by rw [List.append_nil];exact hok) (Nat.le_refl _) (fun _ _ _=>rfl) fun o ho=>.inr ho)
 ·rcases hok with⟨rfl,e1⟩ | ⟨o,ver,cap,pad,e1,e2,e3,e4,e5,e6⟩
  ·refine qoz (by rw [hev];exact e1.val) hw (yv ht) (yv hu) (qks hb) hone hy0 (by simp only [maxLen];simp only [List.length_nil] at h1;omega) (by simpa using hmul) fun cap pad q1 q2 q3 q4=>?_
   exact fin _ _ (.inr ⟨S.length,0,cap,pad,rfl,jb,q1,q2,q3,q4⟩) (by simp) (fun j hj _=>List.getElem?_append_left hj) fun o ho=>.inl (by simp only [zv,Option.some.injEq] at ho;omega)
  ·refine qu0 (o:=o) (hev.trans e1) hw (.os ver (cap+1) pad e3 e4 e5 e6) e2 (yv ht) (yv hu) (qks hb) hone (by simp only [maxLen];omega) hmul fun a' ob' hV=>?_
   rcases q7k hV with⟨q,_,_⟩ | ⟨ver',cap',pad',rfl,rfl,q1,q2,q3,q4⟩
   ·simp [hy0] at q
   ·obtain⟨cap',rfl⟩:∃ c,cap'=c+1:=⟨cap' - 1,by
     have:0<ys.length:=List.length_pos_iff.2 hy0
     simp at q3
     omega⟩
    refine fin _ _ (.inr ⟨o,ver',cap',pad',rfl,qbw e2,q1,q2,q3,q4⟩) (by simp) (fun j hj hne=>List.getElem?_set_ne fun e=>hne (by rw [e1,e];rfl)) fun o' ho'=>.inr (by rw [e1];exact ho')
end
end Go.Av
namespace Go.Proofs.YtneejjefekdgjaaGreatDoor
open Go Go.Av Go.RowKit Go.Proofs Go.Pl
theorem qr3 {b:UInt8} {v:qa}:v6 b v=if 0<v.length∧v.getD 0 0=b then v.drop 1 else v:=by
 cases v with
 |nil=>rfl
 |cons x r=>
  unfold v6
  by_cases h:x=b <;> simp [h]
set_option maxHeartbeats 2000000 in
theorem qia (ls:List qa) (st:List AObj) (hB:LsB ls):qn E 140 [Ss ls] st fun r st'=>r=qbi ls∧st'=st:=by
 refine jo [.a (Ss ls)] (qrt _) Tryz.func140 rfl rfl (fun _=>rfl) rfl fun S0=>?_
 have hL:=hB.len
 have hml:(ls.map fun x=>Sv x).length=ls.length:=by simp
 cases ls with
 |nil=>
  apply ql [2]
  repeat' (first|apply And.intro|(intro h;try exact cDd)|exact cSd|apply qg [2]|refine exr ?_|refine qp ?_)
 |cons l r=>
  have hl:=hB.val l (by simp)
  simp only [List.length_cons] at hL hml
  have hkd:=fun st=>qgq l st (by omega)
  have hget0:((l::r).map fun x=>Sv x)[0]? = some (Sv l):=rfl
  by_cases h4:qy l=4
  ·have hcu:=fun st=>q6o l st (by omega) h4
   simp only [h4] at hkd
   have htr:(v6 32 (kf l)).length≤l.length:=by unfold v6 kf;split <;> simp <;> omega
   have hrl:(kf l).length≤l.length:=by unfold kf;simp
   apply ql [2]
   repeat' (first|apply And.intro|(intro h;try exact cDd)|(refine Exists.intro (0) ⟨by omega,_,hget0,?_⟩)|exact⟨Tryz.call138⟩|refine cpe hkd ?_|exact⟨Tryz.call221⟩|refine cpe hcu ?_|exact cSd|apply qg [2]|refine exr ?_|refine qp ?_)
   all_goals
    refine vm (X:=Nat×qa) (fun (k,acc)=>⟨[(0,.a (Ss (l::r))),(2,.bx 0 0),(4,.s (z2 l)),(5,.s acc),(7,.i ((k:Int)+1))],[(0,some (.cells 111 [.s [],.s []]))],1⟩) (fun (k,acc)=>k≤r.length∧(∀ x∈r.take k,qy x=3)∧acc=accU l (r.take k)) (fun (k,_)=>r.length - k) (0,v6 32 (kf l)) ⟨by omega,by simp,by simp [accU]⟩ ?_ ?_
    ·skip
     repeat' (first|apply And.intro|(intro h;try exact cDd)|exact cSd|apply qg []|refine exr ?_|refine qp ?_)
     all_goals (rw [qr3];split <;> rename_i h <;> first|rfl|(exfalso;omega)|exact absurd ((qr5 _).2 h.2) (by assumption)|exact absurd ⟨by omega,(qr5 _).1 (by assumption)⟩ h)
    ·rintro⟨k,acc⟩ ⟨hk,h3,hacc⟩
     have hal:=q7r l (r.take k) fun s hs=>hB.val s (by simp [List.mem_of_mem_take hs])
     rw [← hacc,List.length_take] at hal
     by_cases hlt:k<r.length
     ·obtain⟨a,ha⟩:∃ a,r[k]? = some a:=⟨_,List.getElem?_eq_getElem hlt⟩
      have hget:((l::r).map fun x=>Sv x)[k+1]? = some (Sv a):=by simp [ha]
      have hav:=hB.val a (by simp [List.mem_of_getElem? ha])
      have hka:=fun st=>qgq a st (by omega)
      have htk:r.take (k+1)=r.take k++[a]:=by
       obtain⟨_,rfl⟩:=List.getElem?_eq_some_iff.1 ha
       rw [List.take_append_getElem]
      by_cases hk3:qy a=3
      ·obtain⟨h2,_⟩:=qj5 hk3
       simp only [hk3] at hka
       have hd1:(a.drop 1).length=a.length - 1:=by simp
       have hac:=q4i l (r.take k) a
       rw [← hacc,← htk,qr3] at hac
       apply ql []
       repeat' (first|apply And.intro|(intro h;try exact cDd)|(refine Exists.intro ((k+1)) ⟨by omega,_,hget,?_⟩)|exact⟨Tryz.call138⟩|refine cpe hka ?_|(refine Exists.intro (k+1,_) ⟨⟨by omega,by rw [htk];exact qk7 h3 hk3,rfl⟩,by simp only;omega,?_⟩)|exact cSd|apply qg []|refine exr ?_|refine qp ?_)
       all_goals (rw [hac];split <;> rename_i h <;> first|rfl|(simp only [List.append_assoc];rfl)|(exfalso;omega)|exact absurd ((qvt _).2 h.2) (by assumption)|exact absurd ⟨by omega,(qvt _).1 (by assumption)⟩ h)
      ·have hno:zp (l::r)=(([],[]),2):=if_neg fun h=>hk3 (h.2.2 a (List.mem_of_getElem? ha))
       unfold qbi
       rw [hno]
       apply ql []
       repeat' (first|apply And.intro|(intro h;try exact cDd)|(refine Exists.intro ((k+1)) ⟨by omega,_,hget,?_⟩)|exact⟨Tryz.call138⟩|refine cpe hka ?_|exact absurd (by assumption) hk3|exact cSd|apply qg []|refine exr ?_|refine qp ?_)
     ·rw [List.take_of_length_le (by omega)] at h3 hacc
      have hun:zp (l::r)=if 1000<(accU l r).length then (([],[]),6) else ((z2 l,accU l r),0):=if_pos ⟨by simp,h4,h3⟩
      unfold qbi
      rw [hun,← hacc]
      apply ql []
      repeat' (first|apply And.intro|(intro h;try exact cDd)|exact cSd|apply qg []|refine exr ?_|refine qp ?_)
      all_goals (split <;> first|rfl|omega)
  ·have hno:zp (l::r)=(([],[]),2):=if_neg fun h=>h4 h.2.1
   unfold qbi
   rw [hno]
   apply ql [2]
   repeat' (first|apply And.intro|(intro h;try exact cDd)|(refine Exists.intro (0) ⟨by omega,_,hget0,?_⟩)|exact⟨Tryz.call138⟩|refine cpe hkd ?_|exact cSd|apply qg [2]|refine exr ?_|refine qp ?_)
theorem q0n {a:qa} (h10:10∉a):vi a=if qy a=1∨a.getD 0 0=46 then 46::a else a:=by
 have hk:=q8y h10
 unfold vi
 cases a with
 |nil=>simp [hk,qbn]
 |cons x y=>simp only [List.head?_cons,Option.some.injEq,hk];rfl
def outK (hd:qa) (r:List qa) (k:Nat):List AV:=(hd::(r.take k).map fun s=>[32]++vi s).map fun x=>Sv x
theorem q6e {hd:qa} {r:List qa} {k:Nat} {a:qa} (h:r[k]? = some a):outK hd r (k+1)=outK hd r k++[Sv ([32]++vi a)]:=by
 obtain⟨hlt,rfl⟩:=List.getElem?_eq_some_iff.1 h
 unfold outK
 rw [← List.take_append_getElem hlt]
 simp only [List.map_append,List.map_cons,List.map_nil,List.cons_append]
theorem q9b {hd:qa} {r:List qa} {k:Nat} (h:k≤r.length):(outK hd r k).length=k+1:=by
 unfold outK
 simp
 omega
set_option maxHeartbeats 2000000 in
theorem qyk (f:FldV) (st:List AObj) (hl:f.1.length<4294967281) (hv:f.2.length<1000000):qn E 252 [fldA f] st fun r st'=>r=Ss (zj f)∧st'=st:=by
 obtain⟨key,val⟩:=f
 dsimp only at hl hv
 refine jo [.a (.ag [Sv key,Sv val])] (qj8 _) Tryz.func252 rfl rfl (fun _=>rfl) rfl fun S0=>?_
 obtain⟨p,r,hp⟩:∃ p r,q5 val=p::r:=⟨_,_,qld val⟩
 have hpl:p.length≤val.length:=qd6 val p (by rw [hp];simp)
 have hrl:∀ x∈r,x.length≤val.length:=fun x hx=>qd6 val x (by rw [hp];simp [hx])
 have hr10:∀ x∈r,10∉x:=fun x hx=>qdp val x (by rw [hp];simp [hx])
 have hrn:r.length≤val.length:=by have:=qbs _ val (Nat.le_refl _);rw [hp] at this;simpa using this
 have hlen:(Sv p::r.map fun x=>Sv x).length=r.length+1:=by simp
 have hpt:=fun st=>q9f val p r st hv hp
 have hget0:(Sv p::r.map fun x=>Sv x)[0]? = some (Sv p):=rfl
 rw [qz4 (f:=(key,val)) hp]
 generalize hhd:jy key p=hd
 have hll:Ss (hd::r.map fun s=>[32]++vi s) = .sl 1 (outK hd r r.length) none:=by unfold outK;rw [List.take_length]
 rw [hll]
 apply ql [1,24]
 repeat' (first|apply And.intro|(intro h;try exact cDd)|exact⟨Tryz.call298⟩|refine cpe hpt ?_|(refine Exists.intro (0) ⟨by omega,_,hget0,?_⟩)|exact cSd|apply qg [1,24]|refine exr ?_|refine qp ?_)
 all_goals
  refine vm (X:=Nat) (fun k=>⟨[(3,.a (.sl 1 (Sv p::r.map fun x=>Sv x) none)),(5,.tp 0),(6,.i ((k:Int)+1))],[(0,some (.tip 1 9 (outK hd r k)))],1⟩) (fun k=>k≤r.length) (fun k=>r.length - k) 0 (by omega) ?_ ?_
  ·skip
   repeat' (first|apply And.intro|(intro h;try exact cDd)|exact cSd|apply qg []|refine exr ?_|refine qp ?_)
   all_goals (subst hhd;unfold jy outK;simp_all [SV.evs,SV.ev])
  ·rintro k hk
   have hol:=q9b (hd:=hd) hk
   by_cases hlt:k<r.length
   ·obtain⟨a,ha⟩:∃ a,r[k]? = some a:=⟨_,List.getElem?_eq_getElem hlt⟩
    have hget:(Sv p::r.map fun x=>Sv x)[k+1]? = some (Sv a):=by simp [ha]
    have ham:=List.mem_of_getElem? ha
    have hal:=hrl a ham
    have hka:=fun st=>qgq a st (by omega)
    have hst:=q0n (hr10 a ham)
    have hnx:=q6e (hd:=hd) ha
    rw [hst] at hnx
    have hk0:qy a≠1→0<a.length:=fun h=>List.length_pos_iff.2 fun e=>h (by subst e;rfl)
    by_cases hk1:qy a=1
    ·simp only [hk1] at hka
     rw [if_pos (.inl hk1)] at hnx
     apply ql []
     repeat' (first|apply And.intro|(intro h;try exact cDd)|(refine Exists.intro ((k+1)) ⟨by omega,_,hget,?_⟩)|exact⟨Tryz.call138⟩|refine cpe hka ?_|(refine Exists.intro (k+1) ⟨by omega,by omega,?_⟩)|exact cSd|apply qg []|refine exr ?_|refine qp ?_)
     all_goals first|(rw [hnx];done)|(rw [hnx];simp [SV.evs,SV.ev];done)|(simp only [List.length_cons,List.length_nil];omega)
    ·have hpos:=hk0 hk1
     apply ql []
     repeat' (first|apply And.intro|(intro h;try exact cDd)|(refine Exists.intro ((k+1)) ⟨by omega,_,hget,?_⟩)|exact⟨Tryz.call138⟩|refine cpe hka ?_|(refine Exists.intro (k+1) ⟨by omega,by omega,?_⟩)|exact cSd|apply qg []|refine exr ?_|refine qp ?_)
     all_goals first|(rw [hnx,if_pos (.inr ((qvt _).1 (by assumption)))];simp [SV.evs,SV.ev];done)|(rw [hnx,if_neg (by simp only [hk1,false_or];intro e;exact absurd ((qvt _).2 e) (by assumption))];done)|(simp only [List.length_cons,List.length_nil];omega)
   ·rw [show k=r.length by omega]
    apply ql []
    repeat' (first|apply And.intro|(intro h;try exact cDd)|exact cSd|apply qg []|refine exr ?_|refine qp ?_)
set_option maxHeartbeats 2000000 in
theorem q3x (xs:List FldV) (st:List AObj) (hx:q18 xs):qn E 183 [jj xs] st fun r st'=>r=Sv (jt xs)∧st'=st:=by
 refine jo [.a (jj xs)] (qx _) Tryz.func183 rfl rfl (fun _=>rfl) rfl fun S0=>?_
 have hxl:=hx.len
 have hml:(xs.map fldA).length=xs.length:=by simp
 apply ql []
 repeat' (first|apply And.intro|(intro h;try exact cDd)|exact cSd|apply qg []|refine exr ?_|refine qp ?_)
 refine vm (X:=Nat) (fun k=>⟨[(0,.a (jj xs)),(3,.s (jt (xs.take k))),(4,.i k)],[],0⟩) (fun k=>k≤xs.length) (fun k=>xs.length - k) 0 (by omega) ?_ ?_
 ·skip
  repeat' (first|apply And.intro|(intro h;try exact cDd)|exact cSd|apply qg []|refine exr ?_|refine qp ?_)
 ·rintro k hk
  by_cases hlt:k<xs.length
  ·obtain⟨f,hf⟩:∃ f,xs[k]? = some f:=⟨_,List.getElem?_eq_getElem hlt⟩
   have hget:(xs.map fldA)[k]? = some (fldA f):=by simp [hf]
   obtain⟨hf1,hf2⟩:=hx.val f (List.mem_of_getElem? hf)
   have hb1:=qq1 (xs.take k) fun g hg=>hx.val g (List.mem_of_mem_take hg)
   rw [List.length_take] at hb1
   have hb2:=qos f
   have hln:=fun st=>qyk f st hf1 hf2
   have htk:jt (xs.take (k+1))=jt (xs.take k)++zn (zj f):=by
    obtain⟨_,rfl⟩:=List.getElem?_eq_some_iff.1 hf
    rw [← List.take_append_getElem hlt,qt2,qt3]
   have hsl:((zj f).map fun x=>Sv x).length=(zj f).length:=by simp
   have hsn:=qjp (zj f)
   apply ql []
   repeat' (first|apply And.intro|(intro h;try exact cDd)|(refine Exists.intro (k) ⟨by omega,_,hget,?_⟩)|exact⟨Tryz.call252⟩|refine cpe hln ?_|exact cSd|apply qg []|refine exr ?_|refine qp ?_)
   refine vm (X:=Nat) (fun j=>⟨[(0,.a (jj xs)),(3,.s (jt (xs.take k)++zn ((zj f).take j))),(4,.i k),(17,.a (Ss (zj f))),(18,.i ((zj f).map fun x=>Sv x).length),(19,.i j)],[],0⟩) (fun j=>j≤(zj f).length) (fun j=>(zj f).length - j) 0 (by omega) ?_ ?_
   ·skip
    repeat' (first|apply And.intro|(intro h;try exact cDd)|exact cSd|apply qg []|refine exr ?_|refine qp ?_)
    all_goals (simp [zn];done)
   ·rintro j hj
    by_cases hjl:j<(zj f).length
    ·obtain⟨a,ha⟩:∃ a,(zj f)[j]? = some a:=⟨_,List.getElem?_eq_getElem hjl⟩
     have hget2:((zj f).map fun x=>Sv x)[j]? = some (Sv a):=by simp [ha]
     have htj:zn ((zj f).take (j+1))=zn ((zj f).take j)++a++[10]:=by
      obtain⟨_,rfl⟩:=List.getElem?_eq_some_iff.1 ha
      rw [← List.take_append_getElem hjl,qan,qgs,List.append_assoc]
     have hbj:(zn ((zj f).take (j+1))).length≤(zn (zj f)).length:=by
      have:=congrArg (fun l=>(zn l).length) (List.take_append_drop (j+1) (zj f))
      simp only [qan,List.length_append] at this
      omega
     have hbl:=congrArg List.length htj
     simp only [List.length_append,List.length_cons,List.length_nil] at hbl
     apply ql []
     repeat' (first|apply And.intro|(intro h;try exact cDd)|(refine Exists.intro (j) ⟨by omega,_,hget2,?_⟩)|(refine Exists.intro (j+1) ⟨by omega,by omega,?_⟩)|exact cSd|apply qg []|refine exr ?_|refine qp ?_)
     all_goals first|(rw [htj];simp;done)|(simp only [List.length_append,List.length_cons,List.length_nil];omega)
    ·rw [List.take_of_length_le (show (zj f).length≤j by omega)]
     apply ql []
     repeat' (first|apply And.intro|(intro h;try exact cDd)|(refine Exists.intro (k+1) ⟨by omega,by omega,?_⟩)|exact cSd|apply qg []|refine exr ?_|refine qp ?_)
     all_goals (rw [htk];done)
  ·rw [List.take_of_length_le (by omega)]
   apply ql []
   repeat' (first|apply And.intro|(intro h;try exact cDd)|exact cSd|apply qg []|refine exr ?_|refine qp ?_)
def accK (l:qa) (r:List qa) (k:Nat):List qa:=v6 32 (kf l)::(r.take k).map fun s=>v6 46 (s.drop 1)
theorem q4h {l:qa} {r:List qa} {k:Nat} {a:qa} (h:r[k]? = some a):(accK l r (k+1)).map (fun x=>Sv x)=(accK l r k).map (fun x=>Sv x)++[Sv (v6 46 (a.drop 1))]:=by
 obtain⟨hlt,rfl⟩:=List.getElem?_eq_some_iff.1 h
 unfold accK
 rw [← List.take_append_getElem hlt]
 simp only [List.map_append,List.map_cons,List.map_nil,List.cons_append]
set_option maxHeartbeats 4000000 in
theorem qly (ls:List qa) (st:List AObj) (hB:LsB ls):qn E 210 [Ss ls] st fun r st'=>r=qf1 ls∧st'=st:=by
 refine jo [.a (Ss ls)] (qzf _) Tryz.func210 rfl rfl (fun _=>rfl) rfl fun S0=>?_
 have hL:=hB.len
 have hml:(ls.map fun x=>Sv x).length=ls.length:=by simp
 cases ls with
 |nil=>
  apply ql [2]
  repeat' (first|apply And.intro|(intro h;try exact cDd)|exact cSd|apply qg [2]|refine exr ?_|refine qp ?_)
 |cons l r=>
  have hl:=hB.val l (by simp)
  simp only [List.length_cons] at hL hml
  have hget0:((l::r).map fun x=>Sv x)[0]? = some (Sv l):=rfl
  have hrm:(r.map fun x=>Sv x).length=r.length:=by simp
  by_cases h4:qy l=4
  ·have hkf:=qi4.1 h4
   have hcu:=fun st=>q3h l st (by omega) h4
   have ht1:=fun st=>q11 (kf l) 32 st
   apply ql [2,31]
   repeat' (first|apply And.intro|(intro h;try exact cDd)|(refine Exists.intro (0) ⟨by omega,_,hget0,?_⟩)|exact⟨Tryz.call272⟩|refine cpe hcu ?_|exact⟨Tryz.call74⟩|refine cpe ht1 ?_|exact cSd|apply qg [2,31]|refine exr ?_|refine qp ?_)
   refine vm (X:=Nat) (fun k=>⟨[(2,.bx 0 0),(4,.s (z2 l)),(7,.tp 1),(33,.a (.sl 1 (r.map fun x=>Sv x) none)),(34,.i (r.map fun x=>Sv x).length),(35,.i k)],[(0,some (.cells 111 [.s [],.s []])),(1,some (.tip 1 9 ((accK l r k).map fun x=>Sv x)))],2⟩) (fun k=>k≤r.length∧∀ x∈r.take k,qy x=3) (fun k=>r.length - k) 0 ⟨by omega,by simp⟩ ?_ ?_
   ·skip
    repeat' (first|apply And.intro|(intro h;try exact cDd)|exact cSd|apply qg []|refine exr ?_|refine qp ?_)
   ·rintro k ⟨hk,h3⟩
    have hacl:((accK l r k).map fun x=>Sv x).length=k+1:=by unfold accK;simp;omega
    by_cases hlt:k<r.length
    ·obtain⟨a,ha⟩:∃ a,r[k]? = some a:=⟨_,List.getElem?_eq_getElem hlt⟩
     have hget:(r.map fun x=>Sv x)[k]? = some (Sv a):=by simp [ha]
     have hav:=hB.val a (by simp [List.mem_of_getElem? ha])
     have hka:=fun st=>qj4 a st (by omega)
     have ht2:=fun st=>q11 (a.drop 1) 46 st
     have hnx:=q4h (l:=l) ha
     by_cases hk3:qy a=3
     ·obtain⟨h2,_⟩:=qj5 hk3
      simp only [hk3] at hka
      have htk:r.take (k+1)=r.take k++[a]:=by
       obtain⟨_,rfl⟩:=List.getElem?_eq_some_iff.1 ha
       rw [List.take_append_getElem]
      apply ql []
      repeat' (first|apply And.intro|(intro h;try exact cDd)|(refine Exists.intro (k) ⟨by omega,_,hget,?_⟩)|exact⟨Tryz.call122⟩|refine cpe hka ?_|exact⟨Tryz.call74⟩|refine cpe ht2 ?_|(refine Exists.intro (k+1) ⟨⟨by omega,by rw [htk];exact qk7 h3 hk3⟩,by omega,?_⟩)|exact cSd|apply qg []|refine exr ?_|refine qp ?_)
      all_goals first|(rw [hnx];done)|(rw [hnx];simp [SV.evs,SV.ev];done)|(simp only [List.length_cons,List.length_nil];omega)
     ·have hno:zp (l::r)=(([],[]),2):=if_neg fun h=>hk3 (h.2.2 a (List.mem_of_getElem? ha))
      unfold qf1
      rw [hno]
      apply ql []
      repeat' (first|apply And.intro|(intro h;try exact cDd)|(refine Exists.intro (k) ⟨by omega,_,hget,?_⟩)|exact⟨Tryz.call122⟩|refine cpe hka ?_|exact absurd (by assumption) hk3|exact cSd|apply qg []|refine exr ?_|refine qp ?_)
    ·rw [List.take_of_length_le (by omega)] at h3
     have hkr:k=r.length:=by omega
     subst hkr
     have hok:qp0 (l::r):=⟨by simp,h4,h3⟩
     have hjl:=qpv r fun s hs=>hB.val s (by simp [hs])
     have hj:=q5z (v6 32 (kf l)) r
     have hjv:Lib.join (accK l r r.length) [10]=qay l r:=by unfold accK;rw [List.take_length];exact hj
     have htr:(v6 32 (kf l)).length≤l.length:=by unfold v6 kf;split <;> simp <;> omega
     have hvl:(qay l r).length≤140737488355328:=by
      unfold qay
      rw [List.length_append]
      omega
     have hjn:=fun tip st=>q1e (accK l r r.length) tip [10] (qay l r) st hjv (by rw [← List.length_map (f:=fun x=>Sv x),hacl];omega) hvl
     have hkl:(z2 l).length<4294967281:=by have:=hkf.2.2.2.1;omega
     have hun:zp (l::r)=if 1000<(qay l r).length then (([],[]),6) else ((z2 l,qay l r),0):=if_pos hok
     have hjn0:=hjn none
     unfold qf1
     by_cases hv:1000<(qay l r).length
     ·have hcf:ko (z2 l,qay l r)=6:=(if_neg (by simpa using hkf.2.2)).trans (if_pos hv)
      have hck:=fun st=>qh1 (z2 l,qay l r) st hkl (by rw [hcf];decide)
      rw [hcf] at hck
      rw [hun,if_pos hv]
      apply ql [10]
      repeat' (first|apply And.intro|(intro h;try exact cDd)|exact⟨Tryz.call127⟩|refine cpe hjn0 ?_|exact⟨Tryz.call273⟩|refine cpe hck ?_|exact cSd|apply qg [10]|refine exr ?_|refine qp ?_)
     ·have hcf:ko (z2 l,qay l r)=0:=(if_neg (by simpa using hkf.2.2)).trans (if_neg hv)
      have hck:=fun st=>qh0 (z2 l,qay l r) st hkl hcf
      rw [hun,if_neg hv]
      apply ql [10]
      repeat' (first|apply And.intro|(intro h;try exact cDd)|exact⟨Tryz.call127⟩|refine cpe hjn0 ?_|exact⟨Tryz.call273⟩|refine cpe hck ?_|exact cSd|apply qg [10]|refine exr ?_|refine qp ?_)
  ·have hno:zp (l::r)=(([],[]),2):=if_neg fun h=>h4 h.2.1
   have hcu:=fun st=>qz3 l st (by omega) h4
   unfold qf1
   rw [hno]
   apply ql [2]
   repeat' (first|apply And.intro|(intro h;try exact cDd)|(refine Exists.intro (0) ⟨by omega,_,hget0,?_⟩)|exact⟨Tryz.call272⟩|refine cpe hcu ?_|exact cSd|apply qg [2]|refine exr ?_|refine qp ?_)
end Go.Proofs.YtneejjefekdgjaaGreatDoor
namespace Go.Av
open Go Go.RowKit
theorem qsx {E:Env} {rd:Option Nat} {N:Nat} {B:Bs} {c:Code} {Q:Exit→Conf→Prop} {C:Conf} (d:Nat) {b sz:Nat} {T:TypeId} {ys:List AV} (hd:lkS C.sl d=some (.tp b)) (hb:hpF C.hp b=some (.own sz T ys))
  (h:Sm E rd N B c Q ⟨(d,.a (.sl sz ys none))::C.sl,(b,none)::C.hp,C.nx⟩):Sm E rd N B c Q C:=⟨fun s hs=>by
 obtain⟨t,S,df⟩:=s
 obtain⟨ρ,hF,hR⟩:=hs
 simp only at hF hR
 have ht:=hR.sl d _ hd
 have hok:=hR.hp.ok b _ hb
 simp only [SV.ev,qls hok] at ht
 rcases hok with⟨rfl,f1⟩ | ⟨o,ver,cap,pad,f1,f2,f3,f4,f5,f6⟩
 ·have hP:=hR.drop (o:=S.length) hb (fun o' ho'=>by rw [f1.loc] at ho';simp at ho') (.inr (List.set_eq_of_length_le (by simp)))
  rw [List.set_eq_of_length_le (by simp)] at hP
  refine qwk (t':=Av.put t d (.sl sz [] none)) (fun x=>?_) (h.run ⟨Av.put t d (.sl sz [] none),S,df⟩ ⟨ρ,⟨hF.dm,hF.nd,hF.rig,hF.le,hF.dz⟩,hP.slot d⟩)
  by_cases e:x=d
  ·subst e
   rw [xv,ht]
   exact f1.wk sz
  ·rw [qaw _ _ _ _ e]
   exact v7 _
 ·rw [f1] at ht
  have hP:=hR.drop (o:=o) hb (fun o' ho'=>by rw [f1] at ho';simpa [zv] using ho'.symm) (.inl (by rw [f1];rfl))
  have hr:=h.run ⟨Av.put t d (.sl sz ys none),S.set o .dead,df⟩ ⟨ρ,⟨fun x hx=>?_,hF.nd,hF.rig,hF.le,hF.dz⟩,hP.slot d⟩
  ·exact⟨fun B0 w0 G a w hL hI=>by
    obtain⟨G1,h1,h2⟩:=hI.osPub (xs:=ys) (sz:=sz) ht f2 rfl f5 f4 (by rw [List.length_append,z4 f4];omega) (by rw [List.drop_zero,← z4 f4,List.take_left])
    exact wpIn_mono (hr.run B0 w0 G1 a w hL h2) fun _ _ _ ⟨G',s',hG,k1,k2⟩=>⟨G',s',h1.trans hG,k1,k2⟩⟩
  ·have hm:=hF.dm x hx
   refine⟨?_,hm.2⟩
   have hne:o≠x:=fun e=>by
    rw [← e] at hm
    rw [f2] at hm
    simp at hm
   simp only
   rw [List.getElem?_set_ne hne]
   exact hm.1⟩
section
variable {E : Env} {rd : Option Nat} {N : Nat} {ops : Array Oper} {K : AS → Prop} {s : AS} {rest : List Oper} {d : Option Tmp} {T : TypeId} {p : String} {af : Array Edge}
theorem qzl {x y:Operand} {t:TypeId} {sz:Nat} {agg:Bool} {o ver off:Nat} {T':TypeId} {cs xs:List AV} {r:AV} (hx:qj N s x = .bx o ver off) (hy:Wk (qj N s y) r) (ho:s.st[o]? = some (.cells ver T' cs)) (ht:tyOf E.P t=some (sz,agg))
  (hok:r.okc=true) (hc:r.cells=xs) (hsz:xs.length=sz) (h1:∀ z∈xs,z.one=true) (hfit:off+sz≤cs.length)
  (h:AOps E rd N ops rest K (AS.put ⟨s.t,s.st.set o (.cells ver T' (j9 cs off xs)),s.df⟩ d (.v undef))):AOps E rd N ops (⟨d,.store t x y,T,p,af,none⟩::rest) K s:=by
 refine zf rfl (qn2 nofun fun B0 w0 G a w _ hI=>?_)
 have he:=hI.eval_of hx
 have hey:=hy _ _ (hI.eval y)
 have hcl:=hey.cells hok
 generalize hv:a.eval x=v at he
 generalize hv2:a.eval y=v2 at hey hcl
 rw [hc] at hcl
 cases he with
 |bx _ _ _ b hn hv' hb=>
  obtain⟨_,g1,g2,g3,c,g4,g5,g6⟩:=hI.agree.ob o _ ho
  have hb:=hb g1
  subst hb
  have hcl':RelC G xs v2.cells.toList.toArray:=by simpa using hcl
  have hlen:v2.cells.size=sz:=by rw [← hcl.1];exact hsz
  have hone:∀ u∈v2.cells.toList,u.oneCell'=true:=fun u hu=>by
   obtain⟨i,hi⟩:=List.getElem?_of_mem hu
   obtain⟨z,hz⟩:=qq3 hi (Nat.le_of_eq (by simpa using hcl.1.symm))
   exact (hcl.2 i z u hz (by simpa using hi)).one (h1 z (List.mem_of_getElem? hz))
  have hst:=run_storeCells_at E.P (G.ob o).blk off T' v2.cells.toList 0 c w g4 (by simp [hlen];omega) hone
  have hsp:=qrz (off:=off) g5 g6 hcl' (by omega)
  refine⟨_,G,_,?_,.refl G,hI.agree.setRow ho hsp.1 hsp.2,h⟩
  simp only [execOp,hv,hv2,Instr.storeAt,Instr.sureAddr]
  simp [storeVar,(vj ht w).1,hlen,hst]
end
section
variable {E : Env} {N : Nat} {ops : Array Oper} {nx : Nat} {sl : List (Nat × SV)} {H : Nat → Option SR} {k : Ef → Prop} {d : Option Tmp} {T : TypeId} {p : String} {af : Array Edge}
theorem qla {t e:TypeId} {x y:Operand} {b off sz i j sz':Nat} {agg:Bool} {xs:List AV} {z z' u:AV} {v:SV} (hx:sval N sl x=some (.bx b off)) (hy:sval N sl y=some v) (hf:frz (resF (b::v.ks) H) v=some u) (hH:H b=some (.own sz e xs)) (ht:tyOf E.P t=some (sz',agg)) (ho:off=0+i * sz+j) (hz:xs[i]? = some z) (hz':z'.cells=j9 z.cells j u.cells)
  (hj:(u.okc && Nat.beq u.cells.length sz' && ke u.cells && Nat.ble (j+sz') sz)=true) (h:k ⟨.a (.v undef),b::v.ks,[(b,some (.own sz e (xs.set i z')))],nx⟩):∃ e,Loc E N ops ⟨d,.store t x y,T,p,af,none⟩ nx sl H e∧k e:=by
 simp only [Bool.and_eq_true] at hj
 obtain⟨⟨⟨j1,j2⟩,j3⟩,j4⟩:=hj
 have j2:=Nat.eq_of_beq_eq_true j2
 have j4:=Nat.le_of_ble_eq_true j4
 have hHb:resF (b::v.ks) H b=some (.own sz e xs):=by unfold resF;simp [memN,hH]
 refine⟨_,fun df rd K rest ρ t' S hs hS hk=>?_,h⟩
 rcases hS.ok b _ hHb with⟨rfl,_⟩ | ⟨o,ver,cap,pad,e1,e2,e3,e4,e5,e6⟩
 ·simp at hz
 ·subst ho
  obtain⟨q1,q2⟩:=q27 (pad:=pad) e4 hz hz' (by omega)
  have hlt:=lt_of_getElem? hz
  refine qzl (o:=o) (ver:=ver) (off:=0+i * sz+j) (xs:=u.cells) ((q7 hs hx).trans (by simp only [SV.ev,e1,bxAt])) (by rw [q7 hs hy];exact qj2 hS v u hf) e2 ht j1 rfl j2 (by simpa [ke] using j3) (by
   have h1:i * sz+sz≤xs.length * sz:=by rw [← Nat.succ_mul];exact Nat.mul_le_mul_right _ hlt
   rw [List.length_append,z4 e4]
   omega) ?_
  rw [q1]
  have hw':∀ y∈xs.set i z',y.cells.length=sz:=fun y hy=>by
   rcases List.mem_or_eq_of_mem_set hy with h|rfl
   ·exact e4 y h
   ·exact q2
  have key:∀ k r,chF [(b,some (.own sz e (xs.set i z')))] (resF (b::v.ks) H) k=some r→(k=b∧r = .own sz e (xs.set i z'))∨(k≠b∧resF (b::v.ks) H k=some r):=fun k r hk=>by
   simp only [chF,lkS] at hk
   by_cases e:b=k
   ·subst e
    have:Nat.beq b b=true:=by simp
    rw [this] at hk
    simp only [cond_true,Option.some.injEq] at hk
    exact .inl ⟨rfl,hk.symm⟩
   ·rw [j7 e] at hk
    exact .inr ⟨fun h=>e h.symm,hk⟩
  have hloc:∀ k r,k≠b→resF (b::v.ks) H k=some r→∀ o',zv (ρ k)=some o'→o'≠o:=fun k r hne hk o' ho' e=>hS.sep k b _ _ hne hk hHb o' ho' (by rw [e1,e];rfl)
  refine hk ρ _ ⟨fun _ _=>rfl,⟨fun k r hk=>?_,fun k k' r r' hne g1 g2=>?_⟩,by simp,fun j hj hne=>?_,fun k r hk o' ho'=>?_⟩
  ·rcases key k r hk with⟨rfl,rfl⟩ | ⟨hne,hk⟩
   ·refine .inr ⟨o,ver,cap,pad,by rw [e1,List.length_set],qbw e2,?_,hw',by rw [List.length_set];exact e5,e6⟩
    rw [List.length_append,z4 hw',List.length_set,← z4 e4,← List.length_append]
    exact e3
   ·have h3:=hS.ok k r hk
    cases r with
    |cells T1 cs=>
     obtain⟨o',v',f1,f2,f3⟩:=h3
     exact⟨o',v',f1,(List.getElem?_set_ne (hloc k _ hne hk o' (by rw [f1];rfl)).symm).trans f2,f3⟩
    |tip z T1 zs=>exact SR.ok_of (f:=fun _=>false) (r:=.tip z T1 zs) (ρ:= ρ) rfl (fun k hk=>by simp at hk) h3 fun o' ho'=>List.getElem?_set_ne (hloc k _ hne hk o' ho').symm
    |own z T1 zs=>exact SR.ok_of (f:=fun _=>false) (r:=.own z T1 zs) (ρ:= ρ) rfl (fun k hk=>by simp at hk) h3 fun o' ho'=>List.getElem?_set_ne (hloc k _ hne hk o' ho').symm
    |obj P1=>exact SR.ok_of (f:=fun _=>false) (r:=.obj P1) (ρ:= ρ) rfl (fun k hk=>by simp at hk) h3 fun o' ho'=>List.getElem?_set_ne (hloc k _ hne hk o' ho').symm
    |rows T1 ys cs=>exact OwnS.of (show OwnS S 1 T1 (ys++SV.evs ρ cs) (ρ k) from h3) fun o' ho'=>List.getElem?_set_ne (hloc k _ hne hk o' ho').symm
  ·rcases key k r g1 with⟨rfl,rfl⟩ | ⟨n1,g1⟩
   ·rcases key k' r' g2 with⟨rfl,rfl⟩ | ⟨n2,g2⟩
    ·exact absurd rfl hne
    ·exact fun o' ho'=>hS.sep _ _ _ _ hne hHb g2 o' ho'
   ·rcases key k' r' g2 with⟨rfl,rfl⟩ | ⟨n2,g2⟩
    ·exact fun o' ho'=>hS.sep _ _ _ _ hne g1 hHb o' ho'
    ·exact fun o' ho'=>hS.sep _ _ _ _ hne g1 g2 o' ho'
  ·have:=hne b _ hHb
   rw [e1] at this
   exact List.getElem?_set_ne (fun e=>this (by rw [e];rfl))
  ·rcases key k r hk with⟨rfl,rfl⟩ | ⟨n1,hk⟩
   ·exact .inr ⟨k,_,hHb,ho'⟩
   ·exact .inr ⟨k,_,hk,ho'⟩
end
end Go.Av
namespace Go.Pl
open Go Go.Proofs
structure ka where
 kind:Int
 raw:qa
 fields:List Fld
structure PSt where
 lines:List qa
 frm:Int
 full:Bool
 items:List ka
 block:List qa
 fields:List Fld
 records:Int
def jr (p:PSt):Option (Int×Int)×PSt:=
 if p.lines=[] then (none,p)
 else if (zp p.lines).2≠0 then (some (p.frm,(zp p.lines).2),p)
 else if p.full=true then (some (p.frm,11),p)
 else (none,{ p with lines:=[],fields:=p.fields++[(zp p.lines).1] })
end Go.Pl
namespace Go.Proofs.YtneejjefekdgjaaGreatDoor
open Go Go.Av Go.RowKit Go.Proofs Go.Pl
@[reducible] def x3 (x : ka) : AV := .ag [Iv x.kind, Sv x.raw, jj x.fields]
@[reducible] def ya (xs : List ka) : AV := .sl 3 (xs.map x3) none
@[reducible] def parC (c1 c2 c3 c4 : AV) (p : PSt) : List AV := [c1, Iv p.frm, Bv p.full, c2, c3, c4, Iv p.records]
@[reducible] def parO (c1 c2 c3 c4 : AV) (p : PSt) : AObj := .cells 0 140 (parC c1 c2 c3 c4 p)
structure ParS (b o:Nat) (p:PSt) (st:List AObj) (c1 c2 c3 c4:AV):Prop where
 lt:o<b
 le:b≤st.length
 ob:st[o]? = some (parO c1 c2 c3 c4 p)
 h1:TipC b st 1 9 (p.lines.map fun x=>Sv x) c1
 h2:TipC b st 3 52 (p.items.map x3) c2
 h3:TipC b st 1 9 (p.block.map fun x=>Sv x) c3
 h4:TipC b st 2 111 (p.fields.map fldA) c4
 ne:∀ t xs ys,c1 = .sl 1 xs (some t)→c3 = .sl 1 ys (some t)→False
structure Keep (b o:Nat) (st st':List AObj):Prop where
 len:st.length≤st'.length
 same:∀ k,k≠o→k<st.length→(k<b∨qh5 st[k]?)→st'[k]? = st[k]?
theorem Keep.trans {b o:Nat} {st st' st'':List AObj} (h:Keep b o st st') (k:Keep b o st' st''):Keep b o st st'':=⟨Nat.le_trans h.len k.len,fun i hne hi hc=>by
 have e:=h.same i hne hi hc
 refine (k.same i hne (Nat.lt_of_lt_of_le hi h.len) ?_).trans e
 rw [e]
 exact hc⟩
def qgn (a n:Int):AV:=.ifc 121 (.pp [Iv a,.ifc 62 (Iv n)])
def errP:Option (Int×Int)→AV
 |none=>.v .nilIface
 |some (a,n)=>qgn a n
theorem qjg (a n:Int):Pure (qgn a n):=qch (zb5 fun x hx=>by
 simp only [List.mem_cons,List.not_mem_nil,or_false] at hx
 rcases hx with rfl|rfl
 ·exact qx _
 ·exact qch (qx _))
theorem qle (a n:Int) (st:List AObj):qn E 124 [Iv a,.ifc 62 (Iv n)] st fun r st'=>r=qgn a n∧st'=st:=by
 refine qu (qjg a n) (qo Tryz.func124 rfl (Nat.le_of_ble_eq_true rfl) ?_)
 repeat' (first|(apply ql8;(iterate 3 exact rfl))|apply qm|apply qd|apply qc|apply qi|apply qe|(apply vf;exact rfl;exact rfl)|(apply xi;(iterate 3 exact rfl))|apply qs)
 exact qk rfl (qz rfl) ⟨rfl,_,rfl⟩
theorem q4a (ls:List qa) (t:Option Nat) (st:List AObj) (hB:LsB ls) (h:(zp ls).2=0):qn E 210 [.sl 1 (ls.map fun x=>Sv x) t] st fun r st'=>r = .tu [fldA (zp ls).1,.v .nilIface]∧st'=st:=by
 have:=qly ls st hB
 unfold qf1 at this
 rw [h] at this
 exact qn0 (qlt _ _ _) this
theorem q4b (ls:List qa) (t:Option Nat) (st:List AObj) (hB:LsB ls) (h:(zp ls).2≠0):qn E 210 [.sl 1 (ls.map fun x=>Sv x) t] st fun r st'=>r = .tu [fldA (zp ls).1,.ifc 62 (Iv (zp ls).2)]∧st'=st:=by
 have:=qly ls st hB
 unfold qf1 at this
 rw [qj1 h] at this
 exact qn0 (qlt _ _ _) this
structure PB (n:Nat) (p:PSt):Prop where
 small:n<900000
 lines:p.lines.length≤n
 linesV:∀ s∈p.lines,s.length<1000000
 items:p.items.length≤n
 block:p.block.length≤n
 blockV:∀ s∈p.block,s.length<1000000
 fields:p.fields.length≤n
 rec0:0≤p.records
 rec1:p.records≤n
theorem PB.ls {n:Nat} {p:PSt} (h:PB n p):LsB p.lines:=⟨by have:=h.lines;have:=h.small;omega,h.linesV⟩
theorem ParS.pre {b o:Nat} {p:PSt} {st l:List AObj} {c1 c2 c3 c4:AV} (P:ParS b o p st c1 c2 c3 c4):ParS b o p (st++l) c1 c2 c3 c4:=
 ⟨P.lt,by have:=P.le;simp;omega,jf P.ob,qid P.h1,qid P.h2,qid P.h3,qid P.h4,P.ne⟩
end Go.Proofs.YtneejjefekdgjaaGreatDoor
namespace Go.Pl
open Go Go.Proofs
def yg (p:PSt):PSt:=
 if p.block=[] then { p with block:=[],fields:=[] }
 else { p with items:=p.items++[⟨if p.fields=[] then 2 else 3,zn p.block,p.fields⟩],records:=if p.fields=[] then p.records else p.records+1,block:=[],fields:=[] }
def endP (p:PSt):Option (Int×Int)×PSt:=match (jr p).1 with
 |some e=>(some e,p)
 |none=>(none,yg (jr p).2)
theorem qms:∀ (x:qa) (r:List qa),Lib.join (x::r) [10]++[10]=zn (x::r)
 |x,[]=>by rw [Lib.join_one];simp [zn]
 |x,y::r=>by
  have ih:=qms y r
  rw [Lib.join_cons] at ih ⊢
  unfold Lib.joinTail at ih ⊢
  simp only [List.map_cons,List.flatten_cons,zn,List.flatMap_cons] at ih ⊢
  rw [← ih]
  simp
theorem qlq:∀ (r:List qa),(∀ s∈r,s.length<1000000)→(zn r).length≤1000001 * r.length
 | [],_=>by simp [zn]
 |a::r,h=>by
  have ih:=qlq r fun s hs=>h s (by simp [hs])
  have ha:=h a (by simp)
  simp only [zn,List.flatMap_cons,List.length_append,List.length_cons,List.length_nil] at ih ⊢
  omega
end Go.Pl
namespace Go.Proofs.YtneejjefekdgjaaGreatDoor
open Go Go.Av Go.RowKit Go.Proofs Go.Pl
theorem qix {n:Nat} {p:PSt} (h:PB n p) (hs:n+1<900000):PB (n+1) (jr p).2:=by
 have h1:=h.lines;have h2:=h.items;have h3:=h.block;have h4:=h.fields;have h5:=h.rec0;have h6:=h.rec1
 unfold jr
 split
 ·exact⟨hs,by simp only;omega,h.linesV,by simp only;omega,by simp only;omega,h.blockV,by simp only;omega,h5,by simp only;omega⟩
 ·split
  ·exact⟨hs,by simp only;omega,h.linesV,by simp only;omega,by simp only;omega,h.blockV,by simp only;omega,h5,by simp only;omega⟩
  ·split
   ·exact⟨hs,by simp only;omega,h.linesV,by simp only;omega,by simp only;omega,h.blockV,by simp only;omega,h5,by simp only;omega⟩
   ·exact⟨hs,by simp,by simp,by simp only;omega,by simp only;omega,h.blockV,by simp;omega,h5,by simp only;omega⟩
theorem zbn (xs:List qa) (tip:Option Nat) (st:List AObj) (hne:xs≠[]) (hN:xs.length≤900000) (hv:∀ s∈xs,s.length<1000000):qn E 127 [.sl 1 (xs.map fun x=>Sv x) tip,Sv [10]] st fun r st'=>r=Sv (Lib.join xs [10])∧st'=st:=by
 refine q5y xs tip [10] st (by omega) ?_
 have h1:=qlq xs hv
 cases xs with
 |nil=>exact absurd rfl hne
 |cons x r=>
  have h2:=congrArg List.length (qms x r)
  rw [List.length_append] at h2
  simp only [List.length_cons,List.length_nil] at h2 h1 hN
  omega
def parH (a:Nat) (p:PSt):List (Nat×Option SR):=[(0,some (.cells 140 [.tp a,.i p.frm,.b p.full,.tp (a+1),.tp (a+2),.tp (a+3),.i p.records])),(a,some (.tip 1 9 (p.lines.map fun x=>Sv x))),(a+1,some (.tip 3 52 (p.items.map x3))),(a+2,some (.tip 1 9 (p.block.map fun x=>Sv x))),(a+3,some (.tip 2 111 (p.fields.map fldA)))]
theorem qpd (n:Nat) (p:PSt) (hB:PB n p):qac E 126 [.bx 0 0] 5 (hpF (parH 1 p)) ⟨.a (errP (jr p).1),yb (parH 1 p),parH 5 (jr p).2++qav (parH 1 p),9⟩:=by
 refine qft [.bx 0 0] (parH 1 p) 5 (.a (errP (jr p).1)) (parH 5 (jr p).2) 9 Tryz.func126 rfl rfl rfl rfl fun S F ρ=>?_
 have hls:=hB.ls
 have hsm:=hB.small
 have hfl:=hB.fields
 by_cases h0:p.lines=[]
 ·have e:jr p=(none,p):=by unfold jr;rw [if_pos h0]
  rw [e]
  have hl0:(p.lines.map fun x=>Sv x).length=0:=by simp [h0]
  apply ql []
  repeat' (first|apply And.intro|(intro h;try exact cDd)|exact cSd|apply qg []|refine exr ?_|refine qp ?_)
 ·have hl0:(p.lines.map fun x=>Sv x).length≠0:=by simp [h0]
  by_cases hu:(zp p.lines).2=0
  ·have hun:=fun st=>q4a p.lines none st hls hu
   cases hf:p.full with
   |true=>
    have e:jr p=(some (p.frm,11),p):=by unfold jr;rw [if_neg h0,if_neg (by simp [hu]),if_pos hf]
    rw [e]
    have hft:=fun st=>qle p.frm 11 st
    apply ql []
    repeat' (first|apply And.intro|(intro h;try exact cDd)|exact⟨Tryz.call210⟩|refine cpe hun ?_|exact⟨Tryz.call124⟩|refine cpe hft ?_|(exact absurd (by assumption:p.full=false) (by rw [hf];decide))|exact cSd|apply qg []|refine exr ?_|refine qp ?_)
   |false=>
    have e:jr p=(none,{ p with lines:=[],fields:=p.fields++[(zp p.lines).1] }):=by unfold jr;rw [if_neg h0,if_neg (by simp [hu]),if_neg (by simp [hf])]
    rw [e]
    apply ql [51]
    repeat' (first|apply And.intro|(intro h;try exact cDd)|exact⟨Tryz.call210⟩|refine cpe hun ?_|(exact absurd (by assumption:p.full=true) (by rw [hf];decide))|exact cSd|apply qg [51]|refine exr ?_|refine qp ?_)
    all_goals first|(simp [SV.evs,SV.ev];done)|(simp [SV.evs];omega)
  ·have hun:=fun st=>q4b p.lines none st hls hu
   have e:jr p=(some (p.frm,(zp p.lines).2),p):=by unfold jr;rw [if_neg h0,if_pos hu]
   rw [e]
   have hft:=fun st=>qle p.frm (zp p.lines).2 st
   apply ql []
   repeat' (first|apply And.intro|(intro h;try exact cDd)|exact⟨Tryz.call210⟩|refine cpe hun ?_|exact⟨Tryz.call124⟩|refine cpe hft ?_|exact cSd|apply qg []|refine exr ?_|refine qp ?_)
theorem q1r (n:Nat) (p:PSt) (hB:PB n p) (hs:n+1<900000):qac E 69 [.bx 0 0] 5 (hpF (parH 1 p)) ⟨.a (errP (endP p).1),yb (parH 1 p),parH 5 (endP p).2++qav (parH 1 p),9⟩:=by
 refine qft [.bx 0 0] (parH 1 p) 5 (.a (errP (endP p).1)) (parH 5 (endP p).2) 9 Tryz.func69 rfl rfl rfl rfl fun S F ρ=>?_
 have hfc:=qpd n p hB
 have hB2:=qix hB hs
 have hsame:∀ e,(jr p).1=some e→(jr p).2=p:=fun e=>by
  unfold jr
  split
  ·simp
  ·split
   ·simp
   ·split
    ·simp
    ·simp
 unfold endP
 generalize jr p=fq at hfc hB2 hsame
 obtain⟨fe,q⟩:=fq
 cases fe with
 |some e=>
  obtain rfl:=hsame e rfl
  obtain⟨a,k⟩:=e
  apply ql []
  repeat' (first|apply And.intro|(intro h;try exact cDd)|exact⟨Tryz.call126⟩|(refine y4 hfc ?_)|exact cSd|apply qg []|refine exr ?_|refine qp ?_)
 |none=>
  dsimp only at hB2 hfc
  have h3:=hB2.fields
  have h4:=hB2.rec0
  have h5:=hB2.rec1
  have h1:=hB2.block
  have h2:=hB2.items
  by_cases hb:q.block=[]
  ·have e:yg q={ q with block:=[],fields:=[] }:=by unfold yg;rw [if_pos hb]
   simp only [e]
   have hl0:(q.block.map fun x=>Sv x).length=0:=by simp [hb]
   apply ql []
   repeat' (first|apply And.intro|(intro h;try exact cDd)|exact⟨Tryz.call126⟩|(refine y4 hfc ?_)|exact cSd|apply qg []|refine exr ?_|refine qp ?_)
  ·have hl0:(q.block.map fun x=>Sv x).length≠0:=by simp [hb]
   have hbl:=qlq q.block hB2.blockV
   obtain⟨b,r,hbr⟩:∃ b r,q.block=b::r:=by
    cases hq:q.block with
    |nil=>exact absurd hq hb
    |cons b r=>exact⟨b,r,rfl⟩
   have hjt:=qms b r
   rw [← hbr] at hjt
   have hjl:=congrArg List.length hjt
   simp only [List.length_append,List.length_cons,List.length_nil] at hjl
   have hjo:=fun st=>zbn q.block none st hb (by omega) hB2.blockV
   by_cases hf:q.fields=[]
   ·have e:yg q={ q with items:=q.items++[⟨2,zn q.block,q.fields⟩],records:=q.records,block:=[],fields:=[] }:=by unfold yg;rw [if_neg hb,if_pos hf,if_pos hf]
    simp only [e]
    have hl1:(q.fields.map fldA).length=0:=by simp [hf]
    apply ql []
    repeat' (first|apply And.intro|(intro h;try exact cDd)|exact⟨Tryz.call126⟩|(refine y4 hfc ?_)|exact⟨Tryz.call127⟩|refine cpe hjo ?_|exact cSd|apply qg []|refine exr ?_|refine qp ?_)
    all_goals first|(simp [SV.evs,SV.ev,hjt];done)|(simp [SV.evs];omega)
   ·have e:yg q={ q with items:=q.items++[⟨3,zn q.block,q.fields⟩],records:=q.records+1,block:=[],fields:=[] }:=by unfold yg;rw [if_neg hb,if_neg hf,if_neg hf]
    simp only [e]
    have hl1:(q.fields.map fldA).length≠0:=by simp [hf]
    apply ql []
    repeat' (first|apply And.intro|(intro h;try exact cDd)|exact⟨Tryz.call126⟩|(refine y4 hfc ?_)|exact⟨Tryz.call127⟩|refine cpe hjo ?_|exact cSd|apply qg []|refine exr ?_|refine qp ?_)
    all_goals first|(simp [SV.evs,SV.ev,hjt];done)|(simp [SV.evs];omega)
end Go.Proofs.YtneejjefekdgjaaGreatDoor
namespace Go.Pl
open Go Go.Proofs
def km (p:PSt) (no:Int) (text:qa):PSt:={ p with lines:=[text],frm:=no,full:=decide (p.fields.length=40∨(p.fields.length=0∧p.records=400)) }
def jn (p:PSt) (no:Int) (text:qa) (ended:Bool) (kind:Int):Option (Int×Int)×PSt:=
 if kind=3 then
  if p.lines=[] then (some (no,2),p)
  else if ended=true then (none,{ p with lines:=p.lines++[text] })
  else jr { p with lines:=p.lines++[text] }
 else if kind=1 then endP p
 else jr p
def wq (p:PSt) (no:Int) (text:qa) (ended:Bool):Option (Int×Int)×PSt:=
 match (jn p no text ended (qy text)).1 with
 |some e=>(some e,p)
 |none=>
  if qy text=5∨ended=false then (some (no,2),p)
  else if qy text=1 then (none,{ (jn p no text ended (qy text)).2 with items:=(jn p no text ended (qy text)).2.items++[⟨1,text++[10],[]⟩] })
  else if qy text=4 then (none,{ km (jn p no text ended (qy text)).2 no text with block:=(jn p no text ended (qy text)).2.block++[text] })
  else (none,{ (jn p no text ended (qy text)).2 with block:=(jn p no text ended (qy text)).2.block++[text] })
end Go.Pl
namespace Go.Proofs.YtneejjefekdgjaaGreatDoor
open Go Go.Av Go.RowKit Go.Proofs Go.Pl
theorem PB.more {n m:Nat} {p:PSt} (h:PB n p) (hm:n≤m) (hs:m<900000):PB m p:=by
 have h1:=h.lines;have h2:=h.items;have h3:=h.block;have h4:=h.fields;have h5:=h.rec0;have h6:=h.rec1
 exact⟨hs,by omega,h.linesV,by omega,by omega,h.blockV,by omega,h5,by omega⟩
theorem q47 {n:Nat} {p:PSt} (h:PB n p) (hs:n+1<900000):PB (n+1) (yg p):=by
 have h1:=h.lines;have h2:=h.items;have h3:=h.block;have h4:=h.fields;have h5:=h.rec0;have h6:=h.rec1
 unfold yg
 split
 ·exact⟨hs,by simp only;omega,h.linesV,by simp only;omega,by simp,by simp,by simp,h5,by simp only;omega⟩
 ·refine⟨hs,by simp only;omega,h.linesV,by simp;omega,by simp,by simp,by simp,?_,?_⟩
  ·simp only;split <;> omega
  ·simp only;split <;> omega
theorem qpp {n:Nat} {p:PSt} {text:qa} (h:PB n p) (hs:n+1<900000) (ht:text.length<1000000):PB (n+1) { p with lines:=p.lines++[text] }:=by
 have h1:=h.lines;have h2:=h.items;have h3:=h.block;have h4:=h.fields;have h5:=h.rec0;have h6:=h.rec1
 exact⟨hs,by simp;omega,qk7 h.linesV ht,by simp only;omega,by simp only;omega,h.blockV,by simp only;omega,h5,by simp only;omega⟩
theorem qye {n:Nat} {p:PSt} {text:qa} (h:PB n p) (hs:n+1<900000) (ht:text.length<1000000):PB (n+1) { p with block:=p.block++[text] }:=by
 have h1:=h.lines;have h2:=h.items;have h3:=h.block;have h4:=h.fields;have h5:=h.rec0;have h6:=h.rec1
 exact⟨hs,by simp only;omega,h.linesV,by simp only;omega,by simp;omega,qk7 h.blockV ht,by simp only;omega,h5,by simp only;omega⟩
theorem q9h {n:Nat} {p:PSt} {x:ka} (h:PB n p) (hs:n+1<900000):PB (n+1) { p with items:=p.items++[x] }:=by
 have h1:=h.lines;have h2:=h.items;have h3:=h.block;have h4:=h.fields;have h5:=h.rec0;have h6:=h.rec1
 exact⟨hs,by simp only;omega,h.linesV,by simp;omega,by simp only;omega,h.blockV,by simp only;omega,h5,by simp only;omega⟩
theorem q9g {n:Nat} {p:PSt} {no:Int} {text:qa} (h:PB n p) (hs:n+1<900000) (ht:text.length<1000000):PB (n+1) (km p no text):=by
 have h1:=h.lines;have h2:=h.items;have h3:=h.block;have h4:=h.fields;have h5:=h.rec0;have h6:=h.rec1
 exact⟨hs,by simp [km],by simp [km,ht],by simp only [km];omega,by simp only [km];omega,h.blockV,by simp only [km];omega,h5,by simp only [km];omega⟩
theorem qig {n:Nat} {p:PSt} {no:Int} {text:qa} {ended:Bool} {kind:Int} (h:PB n p) (hs:n+2<900000) (ht:text.length<1000000):PB (n+2) (jn p no text ended kind).2:=by
 unfold jn
 split
 ·split
  ·exact h.more (by omega) hs
  ·split
   ·exact (qpp h (by omega) ht).more (by omega) hs
   ·exact qix (qpp h (by omega) ht) hs
 ·split
  ·unfold endP
   split
   ·exact h.more (by omega) hs
   ·exact q47 (qix h (by omega)) hs
  ·exact (qix h (by omega)).more (by omega) hs
theorem qra (l:qa):1≤qy l∧qy l≤5:=by
 unfold qy
 repeat' split
 all_goals decide
theorem qza {n:Nat} {p:PSt} {no:Int} {text:qa} {ended:Bool} (h:PB n p) (hs:n+4<900000) (ht:text.length<1000000):PB (n+4) (wq p no text ended).2:=by
 have h2:PB (n+2) (jn p no text ended (qy text)).2:=qig h (by omega) ht
 unfold wq
 split
 ·exact h.more (by omega) hs
 ·split
  ·exact h.more (by omega) hs
  ·split
   ·exact (q9h h2 (by omega)).more (by omega) hs
   ·split
    ·exact qye (q9g h2 (by omega) ht) hs ht
    ·exact (qye h2 (by omega) ht).more (by omega) hs
theorem q6j (n:Nat) (p:PSt) (no at':Int) (text:qa) (ended:Bool) (hB:PB n p):qac E 125 [.bx 0 0,.ag [.i no,.i at',.s text,.b ended]] 5 (hpF (parH 1 p)) ⟨.tu [],yb (parH 1 p),parH 5 (km p no text)++qav (parH 1 p),9⟩:=by
 refine qft [.bx 0 0,.ag [.i no,.i at',.s text,.b ended]] (parH 1 p) 5 (.tu []) (parH 5 (km p no text)) 9 Tryz.func125 rfl rfl rfl rfl fun S F ρ=>?_
 obtain⟨ls,fr,fu,its,bk,fs,rc⟩:=p
 have hml:(fs.map fldA).length=fs.length:=by simp
 by_cases ha:fs.length=40∨(fs.length=0∧rc=400)
 ·have e:km ⟨ls,fr,fu,its,bk,fs,rc⟩ no text=⟨[text],no,true,its,bk,fs,rc⟩:=by
   unfold km
   simp only [decide_eq_true ha]
  rw [e]
  apply ql [29]
  repeat' (first|apply And.intro|(intro h;try exact cDd)|exact cSd|apply qg [29]|refine exr ?_|refine qp ?_)
  all_goals (intros;simp only [hml] at *;first|(exfalso;omega)|(have hrc:rc=400:=(by omega);subst hrc;rfl))
 ·have e:km ⟨ls,fr,fu,its,bk,fs,rc⟩ no text=⟨[text],no,false,its,bk,fs,rc⟩:=by
   unfold km
   simp only [decide_eq_false ha]
  rw [e]
  apply ql [29]
  repeat' (first|apply And.intro|(intro h;try exact cDd)|exact cSd|apply qg [29]|refine exr ?_|refine qp ?_)
  all_goals (intros;simp only [hml] at *;first|(exfalso;omega)|(have hrc:¬ rc=400:=(by omega);simp [SV.evs,SV.ev,SV.rens,SV.ren,lkS,v4,hrc];exact⟨rfl,rfl,rfl⟩))
theorem quc (n:Nat) (p:PSt) (no at':Int) (text:qa) (ended:Bool) (kind:Int) (hB:PB n p) (hs:n+2<900000) (ht:text.length<1000000):qac E 123 [.bx 0 0,.ag [.i no,.i at',.s text,.b ended],.i kind] 5 (hpF (parH 1 p)) ⟨.a (errP (jn p no text ended kind).1),yb (parH 1 p),parH 5 (jn p no text ended kind).2++qav (parH 1 p),9⟩:=by
 refine qft [.bx 0 0,.ag [.i no,.i at',.s text,.b ended],.i kind] (parH 1 p) 5 (.a (errP (jn p no text ended kind).1)) (parH 5 (jn p no text ended kind).2) 9 Tryz.func123 rfl rfl rfl rfl fun S F ρ=>?_
 unfold jn
 by_cases hk3:kind=3
 ·rw [if_pos hk3]
  by_cases h0:p.lines=[]
  ·rw [if_pos h0]
   have hl0:(p.lines.map fun x=>Sv x).length=0:=by simp [h0]
   have hft:=fun st=>qle no 2 st
   apply ql []
   repeat' (first|apply And.intro|(intro h;try exact cDd)|exact⟨Tryz.call124⟩|refine cpe hft ?_|exact cSd|apply qg []|refine exr ?_|refine qp ?_)
  ·rw [if_neg h0]
   have hl0:(p.lines.map fun x=>Sv x).length≠0:=by simp [h0]
   have hll:=hB.lines
   have hsm:=hB.small
   have hml:(p.lines.map fun x=>Sv x).length=p.lines.length:=by simp
   have hfc:=qpd (n+1) { p with lines:=p.lines++[text] } (qpp hB (by omega) ht)
   cases ended with
   |true=>
    rw [if_pos rfl]
    apply ql []
    repeat' (first|apply And.intro|(intro h;try exact cDd)|(exact absurd (by assumption:true=false) (by decide))|exact cSd|apply qg []|refine exr ?_|refine qp ?_)
    all_goals first|(simp [SV.evs,SV.ev];done)|(simp [SV.evs];omega)
   |false=>
    rw [if_neg (by decide)]
    apply ql []
    repeat' (first|apply And.intro|(intro h;try exact cDd)|(exact absurd (by assumption:false=true) (by decide))|exact⟨Tryz.call126⟩|(refine y4 hfc ?_)|exact cSd|apply qg []|refine exr ?_|refine qp ?_)
    all_goals first|(simp [SV.evs,SV.ev];done)|(simp [SV.evs];omega)
 ·rw [if_neg hk3]
  by_cases hk1:kind=1
  ·rw [if_pos hk1]
   have hfc:=q1r n p hB (by omega)
   apply ql []
   repeat' (first|apply And.intro|(intro h;try exact cDd)|exact⟨Tryz.call69⟩|(refine y4 hfc ?_)|exact cSd|apply qg []|refine exr ?_|refine qp ?_)
  ·rw [if_neg hk1]
   have hfc:=qpd n p hB
   apply ql []
   repeat' (first|apply And.intro|(intro h;try exact cDd)|exact⟨Tryz.call126⟩|(refine y4 hfc ?_)|exact cSd|apply qg []|refine exr ?_|refine qp ?_)
theorem q9j (n:Nat) (p:PSt) (no at':Int) (text:qa) (ended:Bool) (hB:PB n p) (hs:n+4<900000) (ht:text.length<1000000) (hok:(wq p no text ended).1=none):qac E 68 [.bx 0 0,.ag [.i no,.i at',.s text,.b ended]] 5 (hpF (parH 1 p)) ⟨.a (.v .nilIface),yb (parH 1 p),parH 5 (wq p no text ended).2++qav (parH 1 p),9⟩:=by
 refine qft [.bx 0 0,.ag [.i no,.i at',.s text,.b ended]] (parH 1 p) 5 (.a (.v .nilIface)) (parH 5 (wq p no text ended).2) 9 Tryz.func68 rfl rfl rfl rfl fun S F ρ=>?_
 have hfc:=quc n p no at' text ended (qy text) hB (by omega) ht
 have hB1:=qig (no:=no) (text:=text) (ended:=ended) (kind:=qy text) hB (by omega) ht
 have hkr:=qra text
 have hkd:=fun st=>qj4 text st (by omega)
 unfold wq at hok ⊢
 generalize jn p no text ended (qy text)=fq at hfc hB1 hok ⊢
 obtain⟨fe,q⟩:=fq
 cases fe with
 |some e=>exact absurd hok (by simp)
 |none=>
  dsimp only at hB1 hfc hok ⊢
  have h1:=hB1.block
  have h2:=hB1.items
  have hmb:(q.block.map fun x=>Sv x).length=q.block.length:=by simp
  have hmi:(q.items.map x3).length=q.items.length:=by simp
  by_cases hk:qy text=5∨ended=false
  ·rw [if_pos hk] at hok
   exact absurd hok (by simp)
  ·rw [if_neg hk] at hok ⊢
   have hk5:qy text≠5:=fun h=>hk (.inl h)
   obtain rfl:ended=true:=by cases ended <;> simp_all
   by_cases hk1:qy text=1
   ·rw [if_pos hk1]
    apply ql []
    repeat' (first|apply And.intro|(intro h;try exact cDd)|exact⟨Tryz.call122⟩|refine cpe hkd ?_|exact⟨Tryz.call123⟩|(refine y4 hfc ?_)|(exact absurd (by assumption:true=false) (by decide))|exact cSd|apply qg []|refine exr ?_|refine qp ?_)
    all_goals first|(simp [SV.evs,SV.ev];done)|(simp [SV.evs];omega)
   ·rw [if_neg hk1]
    by_cases hk4:qy text=4
    ·rw [if_pos hk4]
     have hbc:=q6j (n+2) q no at' text true hB1
     apply ql []
     repeat' (first|apply And.intro|(intro h;try exact cDd)|exact⟨Tryz.call122⟩|refine cpe hkd ?_|exact⟨Tryz.call123⟩|(refine y4 hfc ?_)|exact⟨Tryz.call125⟩|(refine y4 hbc ?_)|(exact absurd (by assumption:true=false) (by decide))|exact cSd|apply qg []|refine exr ?_|refine qp ?_)
     all_goals first|(simp [SV.evs,SV.ev,km];done)|(simp [SV.evs,km];omega)
    ·rw [if_neg hk4]
     apply ql []
     repeat' (first|apply And.intro|(intro h;try exact cDd)|exact⟨Tryz.call122⟩|refine cpe hkd ?_|exact⟨Tryz.call123⟩|(refine y4 hfc ?_)|(exact absurd (by assumption:true=false) (by decide))|exact cSd|apply qg []|refine exr ?_|refine qp ?_)
     all_goals first|(simp [SV.evs,SV.ev];done)|(simp [SV.evs];omega)
theorem q9k (n:Nat) (p:PSt) (no at':Int) (text:qa) (ended:Bool) (hB:PB n p) (hs:n+4<900000) (ht:text.length<1000000) (a m:Int) (hok:(wq p no text ended).1=some (a,m)):qac E 68 [.bx 0 0,.ag [.i no,.i at',.s text,.b ended]] 5 (hpF (parH 1 p)) ⟨.a (qgn a m),yb (parH 1 p),parH 5 (jn p no text ended (qy text)).2++qav (parH 1 p),9⟩:=by
 refine qft [.bx 0 0,.ag [.i no,.i at',.s text,.b ended]] (parH 1 p) 5 (.a (qgn a m)) (parH 5 (jn p no text ended (qy text)).2) 9 Tryz.func68 rfl rfl rfl rfl fun S F ρ=>?_
 have hfc:=quc n p no at' text ended (qy text) hB (by omega) ht
 have hB1:=qig (no:=no) (text:=text) (ended:=ended) (kind:=qy text) hB (by omega) ht
 have hkr:=qra text
 have hkd:=fun st=>qj4 text st (by omega)
 unfold wq at hok
 generalize jn p no text ended (qy text)=fq at hfc hB1 hok ⊢
 obtain⟨fe,q⟩:=fq
 cases fe with
 |some e=>
  dsimp only at hB1 hfc hok ⊢
  obtain rfl:e=(a,m):=by simpa using hok
  apply ql []
  repeat' (first|apply And.intro|(intro h;try exact cDd)|exact⟨Tryz.call122⟩|refine cpe hkd ?_|exact⟨Tryz.call123⟩|(refine y4 hfc ?_)|exact cSd|apply qg []|refine exr ?_|refine qp ?_)
 |none=>
  dsimp only at hB1 hfc hok ⊢
  by_cases hk:qy text=5∨ended=false
  ·rw [if_pos hk] at hok
   obtain⟨rfl,rfl⟩:no=a∧2=m:=by simpa using hok
   have hft:=fun st=>qle no 2 st
   cases ended with
   |true=>
    have hk5:qy text=5:=by simpa using hk
    apply ql []
    repeat' (first|apply And.intro|(intro h;try exact cDd)|exact⟨Tryz.call122⟩|refine cpe hkd ?_|exact⟨Tryz.call124⟩|refine cpe hft ?_|exact⟨Tryz.call123⟩|(refine y4 hfc ?_)|(exact absurd (by assumption:true=false) (by decide))|exact cSd|apply qg []|refine exr ?_|refine qp ?_)
   |false=>
    apply ql []
    repeat' (first|apply And.intro|(intro h;try exact cDd)|exact⟨Tryz.call122⟩|refine cpe hkd ?_|exact⟨Tryz.call124⟩|refine cpe hft ?_|exact⟨Tryz.call123⟩|(refine y4 hfc ?_)|(exact absurd (by assumption:false=true) (by decide))|exact cSd|apply qg []|refine exr ?_|refine qp ?_)
  ·rw [if_neg hk] at hok
   split at hok
   ·simp at hok
   ·split at hok
    ·simp at hok
    ·simp at hok
end Go.Proofs.YtneejjefekdgjaaGreatDoor
namespace Go.Pl
open Go Go.Proofs
def p0:PSt:=⟨[],0,false,[],[],[],0⟩
def runL:Nat→List (qa×Bool)→PSt→Option (Int×Int)×PSt
 | _,[],p=>endP p
 |k,(t,e)::r,p=>match (wq p k t e).1 with
  |some x=>(some x,p)
  |none=>runL (k+1) r (wq p k t e).2
def js (text:qa):Option (Int×Int)×List ka:=match (runL 0 (zr text) p0).1 with
 |some e=>(some e,[])
 |none=>(none,(runL 0 (zr text) p0).2.items)
end Go.Pl
namespace Go.Proofs.YtneejjefekdgjaaGreatDoor
open Go Go.Av Go.RowKit Go.Proofs Go.Pl
theorem q5l (x:Option (Int×Int)):Pure (errP x):=by
 rcases x with _ | ⟨a,n⟩
 ·exact qx _
 ·exact qjg a n
theorem q28 (f:Fld):qni (fldA f):=fun x hx=>by
 simp only [AV.cells,List.mem_cons,List.not_mem_nil,or_false] at hx
 rcases hx with rfl|rfl <;> exact qx _
theorem qcd (fs:List Fld):Pure (jj fs):=qew fun x hx=>by
 obtain⟨f,_,rfl⟩:=List.mem_map.1 hx
 exact q28 f
theorem qz1 (x:ka):qni (x3 x):=fun y hy=>by
 simp only [AV.cells,List.mem_cons,List.not_mem_nil,or_false] at hy
 rcases hy with rfl|rfl|rfl
 ·exact qx _
 ·exact qx _
 ·exact qcd _
theorem qd4 (xs:List ka):Pure (ya xs):=qew fun x hx=>by
 obtain⟨f,_,rfl⟩:=List.mem_map.1 hx
 exact qz1 f
theorem wl {x y:AV} (hx:Pure x) (hy:Pure y):Pure (.tu [x,y]):=qdq fun z hz=>by
 simp only [List.mem_cons,List.not_mem_nil,or_false] at hz
 rcases hz with rfl|rfl
 ·exact hx
 ·exact hy
def qc7 (text:qa):AV:=.tu [ya (js text).2,errP (js text).1]
theorem qz7 (text:qa):Pure (qc7 text):=wl (qd4 _) (q5l _)
theorem qol {S:List AObj} {o k:Nat} {x:AObj} (h:k≠o):(S.set o x)[k]? = S[k]?:=List.getElem?_set_ne (Ne.symm h)
theorem zd1:PB 0 p0:=⟨by omega,by simp [p0],by simp [p0],by simp [p0],by simp [p0],by simp [p0],by simp [p0],by simp [p0],by simp [p0]⟩
theorem qpu (text:qa) (st:List AObj) (hl:text.length≤60000):qn E 23 [Sv text] st fun r st'=>r=qc7 text∧st'=st:=by
 refine jo [.s text] (qz7 text) Tryz.func23 rfl rfl (fun _=>rfl) rfl fun S0=>?_
 apply ql [13]
 repeat' (first|apply And.intro|(intro h;try exact cDd)|exact⟨Tryz.call67⟩|(refine Exists.intro _ ⟨qlm _,?_⟩)|exact cSd|apply qg [13]|refine exr ?_|refine qp ?_)
 refine qf0 (X:=PSt×Option (Int×Int)) text 4 5 [0,1,2,3,4] (fun (p,e)=>⟨[(2,.bx 0 0),(3,.bx 1 0),(4,.bx 2 0),(15,.fn (.func 121) [] [.bx 4 0])],
   [(0,some (.cells 47 [.a zu])),(1,some (.cells 24 [.a (errP e)])),(2,some (.cells 135 [.bx 3 0])),(3,some (.cells 140 [.tp 5,.i p.frm,.b p.full,.tp 6,.tp 7,.tp 8,.i p.records])),(4,some (.cells 9 [.s text])),
    (5,some (.tip 1 9 (p.lines.map fun x=>Sv x))),(6,some (.tip 3 52 (p.items.map x3))),(7,some (.tip 1 9 (p.block.map fun x=>Sv x))),(8,some (.tip 2 111 (p.fields.map fldA)))],9⟩) _
  (fun k rest (p,e)=>e=none∧PB (4 * k) p∧k+rest.length≤text.length∧runL 0 (zr text) p0=runL k (zr rest) p)
  (fun c (p,e)=>∃ a m,c = .ret∧e=some (a,m)∧(runL 0 (zr text) p0).1=some (a,m)) (p0,none) ⟨rfl,zd1,by omega,rfl⟩ ?_ id (by omega) (fun _=>rfl) rfl (fun _=>rfl) (fun _=>rfl) rfl ?_ ?_ ?_
 ·skip
  repeat' (first|apply And.intro|(intro h;try exact cDd)|exact cSd|apply qg []|refine exr ?_|refine qp ?_)
 ·rintro k rest ⟨p,e⟩ ⟨rfl,hB,hkl,hrun⟩ hne hle
  have hcons:=wc hne
  have hu:=kv 10 rest
  have hpl:=kq 10 rest
  have hr0:0<rest.length:=List.length_pos_iff.2 hne
  rw [hcons] at hrun
  simp only [runL] at hrun
  unfold qk4
  generalize hen:decide (10∈rest)=en at hrun
  generalize upto 10 rest=up at hu hrun ⊢
  have hB2:=qza (no:=k) (text:=up) (ended:=en) hB (by omega) (by omega)
  cases hah:(wq p k up en).1 with
  |some e=>
   obtain⟨a,m⟩:=e
   rw [hah] at hrun
   simp only at hrun
   have htk:=q9k (4 * k) p k ((text.length:Int) - rest.length) up en hB (by omega) (by omega) a m hah
   refine RA.mk fun S F ρ rd=>?_
   apply ql []
   repeat' (first|apply And.intro|(intro h;try exact cDd)|(refine RB.mk fun S rd=>?_;apply ql [])|exact⟨Tryz.call68⟩|(refine y4 htk ?_)|(refine Exists.intro ((jn p k up en (qy up)).2,some (a,m)) ⟨⟨a,m,rfl,rfl,by rw [hrun]⟩,?_⟩)|exact cSd|apply qg []|refine exr ?_|refine qp ?_)
   all_goals (rw [← hen];rfl)
  |none=>
   rw [hah] at hrun
   simp only at hrun
   have htk:=q9j (4 * k) p k ((text.length:Int) - rest.length) up en hB (by omega) (by omega) hah
   refine RA.mk fun S F ρ rd=>?_
   apply ql []
   repeat' (first|apply And.intro|(intro h;try exact cDd)|(refine RB.mk fun S rd=>?_;apply ql [])|exact⟨Tryz.call68⟩|(refine y4 htk ?_)|(refine Exists.intro ((wq p k up en).2,none) ⟨⟨rfl,hB2,by omega,hrun⟩,?_⟩)|exact cSd|apply qg []|refine exr ?_|refine qp ?_)
   all_goals (rw [← hen];rfl)
 ·rintro k ⟨p,e⟩ ⟨rfl,hB,hkl,hrun⟩
  have hre:runL k (zr []) p=endP p:=by rw [wh];rfl
  rw [hre] at hrun
  have hpe:=q1r (4 * k) p hB (by omega)
  generalize endP p=fq at hrun hpe
  obtain⟨fe,q⟩:=fq
  cases fe with
  |some e=>
   have hpf:qc7 text = .tu [ya [],errP (some e)]:=by unfold qc7 js;rw [hrun]
   rw [hpf]
   obtain⟨a,m⟩:=e
   repeat' (first|apply And.intro|(intro h;try exact cDd)|exact⟨Tryz.call69⟩|(refine y4 hpe ?_)|exact cSd|apply qg []|refine exr ?_|refine qp ?_)
  |none=>
   have hpf:qc7 text = .tu [ya q.items,errP none]:=by unfold qc7 js;rw [hrun]
   rw [hpf]
   dsimp only at hpe
   repeat' (first|apply And.intro|(intro h;try exact cDd)|exact⟨Tryz.call69⟩|(refine y4 hpe ?_)|exact cSd|apply qg []|refine exr ?_|refine qp ?_)
 ·rintro c ⟨p,e⟩ ⟨a,m,rfl,rfl,hre⟩
  have hpf:qc7 text = .tu [ya [],errP (some (a,m))]:=by unfold qc7 js;rw [hre]
  rw [hpf]
  repeat' (first|apply And.intro|(intro h;try exact cDd)|exact cSd|apply qg []|refine exr ?_|refine qp ?_)
end Go.Proofs.YtneejjefekdgjaaGreatDoor
namespace Go.Proofs.YtneejjefekdgjaaGreatDoor
open Go Go.RowKit Go.Extern.Stop Go.Stop Go.Extern Go.Proofs
theorem asT.valueOf27 (t:Addr) (w:World):(ReflectliteValue.unpack (.iface 305 (.pointer (some t)))).run Tryz.prog w
  = .ok (.agg #[.pointer (some ⟨9,305,none⟩),.pointer (some ⟨w.heap.size,0,none⟩),.int .u64 150]) (w.alloc (.cells #[.pointer (some t)] 305)):=by kernel_rfl
theorem asT.type27 (a : Addr) (w : World) : (ReflectliteValue.methodAny (ReflectliteValue.valueError "reflectlite.Value.Type" 0) (fun t _ _ _ => ReflectliteType.toType t) #[.agg #[.pointer (some ⟨9, 305, none⟩), .pointer (some a), .int .u64 150]]).run Tryz.prog w
  = .ok (.iface 381 (.agg #[.pointer (some ⟨9,305,none⟩)])) w:=by kernel_rfl
theorem asT.methodKind (h : Value) (w : World) : (Go.method 536 381 (.agg #[h]) "Kind").run Tryz.prog w = .ok (354, h) w := by kernel_rfl
theorem asT.kind27 (w:World):((ReflectliteType.abiMethod fun t=>(fun a:Nat=>Value.int IntKind.u8 (a:Int)) <$> Rtype.kind t) #[.pointer (some ⟨9,305,none⟩)]).run Tryz.prog w = .ok (.int .u8 22) w:=by kernel_rfl
theorem asT.kind25 (w:World):((ReflectliteType.abiMethod fun t=>(fun a:Nat=>Value.int IntKind.u8 (a:Int)) <$> Rtype.kind t) #[.pointer (some ⟨9,121,none⟩)]).run Tryz.prog w = .ok (.int .u8 22) w:=by kernel_rfl
theorem rlm (z:Sem Value) (f:TypeId→Addr→Nat→Nat→Sem Value) (v:Value) :
  ReflectliteValue.method z f #[v]=(do match ← ReflectliteValue.parts v with|none=>z|some (t,a,fl)=>f t a fl (fl % 32)):=rfl
theorem asT.parts27 (a:Addr) (w:World):(ReflectliteValue.parts (.agg #[.pointer (some ⟨9,305,none⟩),.pointer (some a),.int .u64 150])).run Tryz.prog w = .ok (some (305,a,150)) w:=by kernel_rfl
theorem asT.isNil27 (a p:Addr) (W:World) (ha:W.cell? a=some (.pointer (some p))) :
  (ReflectliteValue.method (ReflectliteValue.valueError "reflectlite.Value.IsNil" 0) ReflectliteValue.isNil #[.agg #[.pointer (some ⟨9, 305, none⟩), .pointer (some a), .int .u64 150]]).run Tryz.prog W = .ok (.bool false) W := by
 rw [rlm]
 simp only [Sem.run_bind,asT.parts27,Result.andThen]
 simp [ReflectliteValue.isNil,loadVar,isAgg,underlying,Tryz.underlying305,ha,Result.andThen]
theorem asT.methodElem (h : Value) (w : World) : (Go.method 536 381 (.agg #[h]) "Elem").run Tryz.prog w = .ok (372, .agg #[h]) w := by kernel_rfl
theorem asT.methodImplements (h : Value) (w : World) : (Go.method 536 381 (.agg #[h]) "Implements").run Tryz.prog w = .ok (373, .agg #[h]) w := by kernel_rfl
theorem asT.methodAssignableTo (h : Value) (w : World) : (Go.method 536 381 (.agg #[h]) "AssignableTo").run Tryz.prog w = .ok (370, .agg #[h]) w := by kernel_rfl
theorem asT.elem27 (w:World):(ReflectliteType.method ReflectliteType.elem #[.agg #[.pointer (some ⟨9,305,none⟩)]]).run Tryz.prog w = .ok (.iface 381 (.agg #[.pointer (some ⟨9,121,none⟩)])) w:=by kernel_rfl
theorem asT.implements25 (w : World) : (ReflectliteType.relation "Implements" ReflectliteType.implements_ #[.agg #[.pointer (some ⟨9, 121, none⟩)], .iface 381 (.agg #[.pointer (some ⟨9, 24, none⟩)])]).run Tryz.prog w = .ok (.bool true) w := by kernel_rfl
theorem asT.typeOf25 (v:Value) (w:World):(ReflectliteType.typeOf #[.iface 121 v]).run Tryz.prog w = .ok (.iface 381 (.agg #[.pointer (some ⟨9,121,none⟩)])) w:=by kernel_rfl
theorem asT.assignable25 (w : World) : (ReflectliteType.relation "AssignableTo" ReflectliteType.assignableTo #[.agg #[.pointer (some ⟨9, 121, none⟩)], .iface 381 (.agg #[.pointer (some ⟨9, 121, none⟩)])]).run Tryz.prog w = .ok (.bool true) w := by kernel_rfl
theorem asT.valueOf25 (e:Addr) (w:World):(ReflectliteValue.unpack (.iface 121 (.pointer (some e)))).run Tryz.prog w
  = .ok (.agg #[.pointer (some ⟨9,121,none⟩),.pointer (some ⟨w.heap.size,0,none⟩),.int .u64 150]) (w.alloc (.cells #[.pointer (some e)] 121)):=by kernel_rfl
theorem asT.elemOf27 (w:World):(Rtype.elem? 305).run Tryz.prog w = .ok (some 121) w:=by kernel_rfl
theorem asT.mk25 (p:Addr) (w:World):(ReflectliteValue.mk 121 p ReflectliteValue.flagAddr).run Tryz.prog w = .ok (.agg #[.pointer (some ⟨9,121,none⟩),.pointer (some p),.int .u64 406]) w:=by kernel_rfl
theorem asT.elemV27 (a p:Addr) (W:World) (ha:W.cell? a=some (.pointer (some p))) :
  (ReflectliteValue.method (ReflectliteValue.valueError "reflectlite.Value.Elem" 0) ReflectliteValue.elem #[.agg #[.pointer (some ⟨9, 305, none⟩), .pointer (some a), .int .u64 150]]).run Tryz.prog W
   = .ok (.agg #[.pointer (some ⟨9,121,none⟩),.pointer (some p),.int .u64 406]) W:=by
 rw [rlm]
 simp only [Sem.run_bind,asT.parts27,Result.andThen]
 simp [ReflectliteValue.elem,loadVar,isAgg,underlying,Tryz.underlying305,ha,Result.andThen,asT.elemOf27,asT.mk25]
theorem rls (v x:Value):ReflectliteValue.set #[v,x]=(do
  let (some (dst,a,fl),some (src,b,_)):=(← ReflectliteValue.parts v,← ReflectliteValue.parts x)
   | unsupported (.noEntry "extern/(internal/reflectlite.Value).Set.zeroValue")
  if fl / ReflectliteValue.flagAddr % 2 == 0 then unsupported (.noEntry "extern/(internal/reflectlite.Value).Set.unaddressable")
  let val ← loadVar src b
  if ← Rtype.directlyAssignable dst src then storeVar dst a val
  else if ← Rtype.implements dst src then
   if (← Rtype.kind src) == 20 then
    match val with
    | .nilIface => unsupported (.noEntry "extern/reflectlite: a nil value of one interface type handed on as a value of another")
    | _=>storeVar dst a val
   else storeVar dst a (.iface src val)
  else panicString ("reflectlite.Set: value of type " ++ (← Rtype.spelt src) ++ " is not assignable to type " ++ (← Rtype.spelt dst))
  pure (.tuple #[])):=rfl
theorem asT.parts25a (a:Addr) (w:World):(ReflectliteValue.parts (.agg #[.pointer (some ⟨9,121,none⟩),.pointer (some a),.int .u64 406])).run Tryz.prog w = .ok (some (121,a,406)) w:=by kernel_rfl
theorem asT.parts25 (a:Addr) (w:World):(ReflectliteValue.parts (.agg #[.pointer (some ⟨9,121,none⟩),.pointer (some a),.int .u64 150])).run Tryz.prog w = .ok (some (121,a,150)) w:=by kernel_rfl
theorem asT.direct25 (w:World):(Rtype.directlyAssignable 121 121).run Tryz.prog w = .ok true w:=by kernel_rfl
theorem asT.set25 (ta b e:Addr) (old:Value) (W:World) (hb:W.cell? b=some (.pointer (some e))) (ht:W.cell? ta=some old) (hf:W.frozen? ta=false) :
  (ReflectliteValue.set #[.agg #[.pointer (some ⟨9,121,none⟩),.pointer (some ta),.int .u64 406],.agg #[.pointer (some ⟨9,121,none⟩),.pointer (some b),.int .u64 150]]).run Tryz.prog W
   = .ok (.tuple #[]) (W.setCell ta (.pointer (some e))):=by
 rw [rls]
 simp only [Sem.run_bind,asT.parts25a,asT.parts25,Result.andThen]
 simp [ReflectliteValue.flagAddr,loadVar,isAgg,underlying,Tryz.underlying121,hb,Result.andThen,asT.direct25,storeVar,Value.cells,storeCells,Addr.add]
 rw [run_store Tryz.prog W ta _ _ (by rfl)]
 simp [ht,hf]
set_option maxHeartbeats 4000000 in
theorem zcp (e t:Addr) (old:Value) (w:World) (hg:w.cell? ⟨3,0,none⟩=some (.iface 381 (.agg #[.pointer (some ⟨9,24,none⟩)]))) (ht0:w.cell? t=some old) (hf0:w.frozen? t=false) :
  Calls Tryz.prog 232 #[.iface 121 (.pointer (some e)),.iface 305 (.pointer (some t))] w fun ev w'=>ev = .returned (.bool true)∧w'=((((w.alloc (.cells #[.pointer (some t)] 305)).alloc (.cells #[.pointer (some ⟨9,305,none⟩),.pointer (some ⟨w.heap.size,0,none⟩),.int .u64 150] 347)).alloc (.cells #[.pointer (some ⟨9,305,none⟩),.pointer (some ⟨w.heap.size,0,none⟩),.int .u64 150] 347)).alloc (.cells #[.pointer (some e)] 121)).setCell t (.pointer (some e)):=by
 have h6:=@run_callFunc_extern Tryz.prog 289 _ (fun args=>ReflectliteValue.unpack (args.getD 0 (.tuple #[]))) Tryz.func289 (by kernel_rfl) (by kernel_rfl) (by kernel_rfl) (by kernel_rfl)
 have h7 := @run_callFunc_extern Tryz.prog 290 _ (ReflectliteValue.methodAny (ReflectliteValue.valueError "reflectlite.Value.Type" 0) (fun t _ _ _ => ReflectliteType.toType t)) Tryz.func290 (by kernel_rfl) (by kernel_rfl) (by kernel_rfl) (by kernel_rfl)
 have h8 := @run_callFunc_extern Tryz.prog 291 _ (ReflectliteValue.method (ReflectliteValue.valueError "reflectlite.Value.IsNil" 0) ReflectliteValue.isNil) Tryz.func291 (by kernel_rfl) (by kernel_rfl) (by kernel_rfl) (by kernel_rfl)
 have h27:=@run_callFunc_extern Tryz.prog 354 _ (ReflectliteType.abiMethod fun t=>do pure (.int .u8 (← Rtype.kind t))) Tryz.func354 (by kernel_rfl) (by kernel_rfl) (by kernel_rfl) (by kernel_rfl)
 have h37:=@run_callFunc_extern Tryz.prog 372 _ (ReflectliteType.method ReflectliteType.elem) Tryz.func372 (by kernel_rfl) (by kernel_rfl) (by kernel_rfl) (by kernel_rfl)
 have h38 := @run_callFunc_extern Tryz.prog 373 _ (ReflectliteType.relation "Implements" ReflectliteType.implements_) Tryz.func373 (by kernel_rfl) (by kernel_rfl) (by kernel_rfl) (by kernel_rfl)
 have h10:=@run_callFunc_extern Tryz.prog 318 _ ReflectliteType.typeOf Tryz.func318 (by kernel_rfl) (by kernel_rfl) (by kernel_rfl) (by kernel_rfl)
 have h35 := @run_callFunc_extern Tryz.prog 370 _ (ReflectliteType.relation "AssignableTo" ReflectliteType.assignableTo) Tryz.func370 (by kernel_rfl) (by kernel_rfl) (by kernel_rfl) (by kernel_rfl)
 have h11 := @run_callFunc_extern Tryz.prog 319 _ (ReflectliteValue.method (ReflectliteValue.valueError "reflectlite.Value.Elem" 0) ReflectliteValue.elem) Tryz.func319 (by kernel_rfl) (by kernel_rfl) (by kernel_rfl) (by kernel_rfl)
 have h12:=@run_callFunc_extern Tryz.prog 320 _ ReflectliteValue.set Tryz.func320 (by kernel_rfl) (by kernel_rfl) (by kernel_rfl) (by kernel_rfl)
 have tO:=asT.typeOf25
 have mA:=asT.methodAssignableTo
 have a25:=asT.assignable25
 have v25:=asT.valueOf25
 have f6:=asT.valueOf27
 have f7:=asT.type27
 have mK:=asT.methodKind
 have mE:=asT.methodElem
 have mI:=asT.methodImplements
 have k27:=asT.kind27
 have k25:=asT.kind25
 have e27:=asT.elem27
 have i25:=asT.implements25
 have n8:=asT.isNil27 ⟨w.heap.size,0,none⟩ t ((w.alloc (.cells #[.pointer (some t)] 305)).alloc (.cells #[.pointer (some ⟨9,305,none⟩),.pointer (some ⟨w.heap.size,0,none⟩),.int .u64 150] 347)) (by simp)
 have hlt:3<w.heap.size:=by
  rcases Nat.lt_or_ge 3 w.heap.size with h|h
  ·exact h
  ·simp [World.cell?,Array.getElem?_eq_none h] at hg
 have hg2:((w.alloc (.cells #[.pointer (some t)] 305)).alloc (.cells #[.pointer (some ⟨9,305,none⟩),.pointer (some ⟨w.heap.size,0,none⟩),.int .u64 150] 347)).cell? ⟨3,0,none⟩=some (.iface 381 (.agg #[.pointer (some ⟨9,24,none⟩)])):=by
  rw [World.cell?_alloc_lt _ _ ⟨3,0,none⟩ (by first|(simp;done)|(simp;omega)),World.cell?_alloc_lt _ _ ⟨3,0,none⟩ hlt];exact hg
 have htl:t.block<w.heap.size:=by
  rcases Nat.lt_or_ge t.block w.heap.size with h|h
  ·exact h
  ·simp [World.cell?,Array.getElem?_eq_none h] at ht0
 have el:=asT.elemV27 ⟨w.heap.size,0,none⟩ t (((w.alloc (.cells #[.pointer (some t)] 305)).alloc (.cells #[.pointer (some ⟨9,305,none⟩),.pointer (some ⟨w.heap.size,0,none⟩),.int .u64 150] 347)).alloc (.cells #[.pointer (some ⟨9,305,none⟩),.pointer (some ⟨w.heap.size,0,none⟩),.int .u64 150] 347)) (by rw [World.cell?_alloc_lt _ _ ⟨w.heap.size,0,none⟩ (by first|(simp;done)|(simp;omega))];simp)
 have st:=asT.set25 t ⟨w.heap.size+1+1+1,0,none⟩ e old ((((w.alloc (.cells #[.pointer (some t)] 305)).alloc (.cells #[.pointer (some ⟨9,305,none⟩),.pointer (some ⟨w.heap.size,0,none⟩),.int .u64 150] 347)).alloc (.cells #[.pointer (some ⟨9,305,none⟩),.pointer (some ⟨w.heap.size,0,none⟩),.int .u64 150] 347)).alloc (.cells #[.pointer (some e)] 121))
  (by rw [World.cell?_alloc_at _ _ _ _ (by simp)];rfl)
  (by rw [World.cell?_alloc_lt _ _ t (by first|(simp;done)|(simp;omega)),World.cell?_alloc_lt _ _ t (by first|(simp;done)|(simp;omega)),World.cell?_alloc_lt _ _ t (by first|(simp;done)|(simp;omega)),World.cell?_alloc_lt _ _ t htl];exact ht0)
  (by rw [World.frozen?_alloc_old _ _ t (by first|(simp;done)|(simp;omega)),World.frozen?_alloc_old _ _ t (by first|(simp;done)|(simp;omega)),World.frozen?_alloc_old _ _ t (by first|(simp;done)|(simp;omega)),World.frozen?_alloc_old _ _ t (Nat.ne_of_lt htl)];exact hf0)
 go_enter Tryz.func232,Tryz.ntmps232
 go_wp2
 refine wp_loop_rounds 1 ?_
 rw [rounds_succ]
 go_wp2
 go_ret
 exact⟨rfl,rfl⟩
end Go.Proofs.YtneejjefekdgjaaGreatDoor
