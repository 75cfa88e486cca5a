/- Contracts and plain facts that the closing text leans on (part 5). No condition of their own beyond those that each states. -/
import Derived.Test.YtapblfabkbdgcaaGreatDoorK4
import Derived.Laws.StructEq
import Derived.Laws.MakeOwn
set_option maxRecDepth 100000
set_option linter.unusedVariables false
set_option linter.unusedSimpArgs false
open And renaming intro→Qc
open Bool renaming and_eq_true→Qb,or_eq_true→Zh,false_or→Xk,or_false→Xl,or_true→Xm,true_or→Xo
open Exists renaming intro→Qk
open List renaming all_eq_true→Qe,getElem?_eq_getElem→Qf,length_append→Qj,getElem?_map→Ql,length_cons→Qo,getElem?_eq_some_iff→Qp,mem_of_getElem?→Qq,length_nil→Qr,take_append_getElem→Qs,getElem?_set_ne→Qt,getElem?_cons_zero→Qu,getElem?_append_left→Qv,replicate→Qw,length_set→Qy,any_eq_true→Qz,set_eq_of_length_le→Za,map_cons→Zb,take_of_length_le→Zc,append_nil→Zi,getD→Zj,append_assoc→Zl,take_succ_eq_append_getElem→Zm,length_take→Zo,take_append_drop→Zp,take_append_of_le_length→Zr,nodup_nil→Zs,flatMap_cons→Zt,mem_map→Zu,take_length→Zv,length→Zx,mem_of_mem_take→Zy,mem_cons→Zz,any_cons→Xa,length_pos_iff→Xb,getElem?_drop→Xc,cons_append→Xe,length_map→Xf,map_append→Xh,take_left→Xj,any_nil→Xp,map_nil→Xq
open Nat renaming blt→Qd,eq_of_beq_eq_true→Qg,le_of_ble_eq_true→Qh,zero_add→Qi,ble→Qm,le_refl→Qn,beq→Qx,add_zero→Zd,le_trans→Ze,ble_eq_true_of_le→Zf,mul_le_mul_right→Zq,zero_le→Zw,lt_trichotomy→Xd,testBit_or→Xi
open Option renaming getD_some→Zn,map_some→Xg
open Option.some renaming injEq→Qa
open Prod renaming snd→Zk,fst→Xr
open Prod.mk renaming injEq→Zg
namespace Go.Av
open Go Go.RowKit
def cf{α:Type}(L:Nat->Bool):Nat->List (List (Nat×α))->List (Nat×α)->List (Nat×α)
 |_,[],base=>base
 |i,c::r,base=>cf L (i+1) r (bif L i then c++base else base)
def wt{α:Type}(L:Nat->Bool)(k:Nat):Nat->List (List (Nat×α))->Option α
 |_,[]=>none
 |i,c::r=>match wt L k (i+1) r with
  |some v=>some v
  |none=>bif L i then lkS c k else none
theorem qcq{α:Type}(L:Nat->Bool)(k:Nat):∀(i:Nat)(chs:List (List (Nat×α)))(base:List (Nat×α)),lkS (cf L i chs base) k=match wt L k i chs with|some v=>some v|none=>lkS base k
 |_,[],_=>rfl
 |i,c::r,base=>by
  simp only[cf,wt]
  rw[qcq L k (i+1) r]
  cases wt L k (i+1) r with
  |some v=>rfl
  |none=>
   cases L i with
   |true=>simp only[cond_true];rw[qb8];cases lkS c k<;>rfl
   |false=>rfl
theorem qbm{α:Type}{L L':Nat->Bool}{k:Nat}:∀{i:Nat}{chs:List (List (Nat×α))},(∀j c,chs[j]?=some c->lkS c k≠none->L (i+j)=L' (i+j))->wt L k i chs=wt L' k i chs
 |_,[],_=>rfl
 |i,c::r,h=>by
  simp only[wt]
  rw[qbm (L:=L) (L':=L') (i:=i+1) (chs:=r) λj c hc hl=>by
   have:=h (j+1) c (by simpa using hc) hl
   rw[show i+1+j=i+(j+1)by omega]
   exact this]
  cases wt L' k (i+1) r with
  |some v=>rfl
  |none=>
   simp only
   cases hl:lkS c k with
   |none=>cases L i<;>cases L' i<;>rfl
   |some v=>
    have:=h 0 c rfl (by rw[hl];simp)
    rw[Zd]at this
    rw[this]
theorem qf1{α:Type}{L:Nat->Bool}{k:Nat}{v:α}:∀{i:Nat}{chs:List (List (Nat×α))},wt L k i chs=some v->∃j c,chs[j]?=some c∧L (i+j)=true∧lkS c k=some v
 |_,[],h=>by simp[wt]at h
 |i,c::r,h=>by
  simp only[wt]at h
  cases hr:wt L k (i+1) r with
  |some w=>
   rw[hr]at h
   simp only[Qa]at h
   subst h
   obtain⟨j,c',h1,h2,h3⟩:=qf1 hr
   exact⟨j+1,c',by simpa using h1,by rw[show i+(j+1)=i+1+j by omega];exact h2,h3⟩
  |none=>
   rw[hr]at h
   simp only at h
   cases hL:L i with
   |true=>rw[hL]at h;exact⟨0,c,rfl,hL,h⟩
   |false=>rw[hL]at h;simp at h
theorem qln{α:Type}{L:Nat->Bool}{k:Nat}:∀{i j0:Nat}{chs:List (List (Nat×α))}{c0:List (Nat×α)},chs[j0]?=some c0->(∀j c,j0<j->chs[j]?=some c->L (i+j)=true->lkS c0 k≠none->lkS c k=none)->
  wt (addL L (i+j0)) k i chs=match lkS c0 k with|some v=>some v|none=>bif L (i+j0)then wt (addL L (i+j0)) k i chs else wt L k i chs
 |_,_,[],_,h,_=>by simp at h
 |i,0,c::r,c0,h,hd=>by
  simp only[Qu,Qa]at h
  subst h
  have hr:wt (addL L (i+0)) k (i+1) r=wt L k (i+1) r:=qbm λj c _ _=>by
   unfold addL
   rw[zz Om,Xk]
  have ha:addL L (i+0) i=true:=by simp[addL]
  cases hl:lkS c k with
  |some v=>
   have hn:wt L k (i+1) r=none:=by
    cases hq:wt L k (i+1) r with
    |none=>rfl
    |some w=>
     obtain⟨j,c',h1,h2,h3⟩:=qf1 hq
     have:=hd (j+1) c' Om (by simpa using h1) (by rw[show i+(j+1)=i+1+j by omega];exact h2) (by rw[hl];simp)
     rw[this]at h3
     simp at h3
   simp only[wt,hr,hn,ha,cond_true,hl]
  |none=>
   cases hLi:L (i+0)with
   |true=>rfl
   |false=>
    simp only[cond_false,wt,hr,ha,cond_true,hl]
    rw[Zd]at hLi
    rw[hLi]
    cases wt L k (i+1) r<;>rfl
 |i,j0+1,c::r,c0,h,hd=>by
  have ih:=qln (L:=L) (k:=k) (i:=i+1) (j0:=j0) (chs:=r) (c0:=c0) (by simpa using h) λj c hj hc hL hl=>hd (j+1) c Om (by simpa using hc) (by rw[show i+(j+1)=i+1+j by omega];exact hL) hl
  rw[show i+1+j0=i+(j0+1)by omega]at ih
  have hi:addL L (i+(j0+1)) i=L i:=by
   unfold addL
   rw[zz Om,Xk]
  cases hl:lkS c0 k with
  |some v=>rw[hl]at ih;simp only[wt,ih]
  |none=>
   rw[hl]at ih
   simp only at ih
   cases hLi:L (i+(j0+1))with
   |true=>rfl
   |false=>
    rw[hLi]at ih
    simp only[cond_false]at ih⊢
    simp only[wt,ih,hi]
theorem qi2{α:Type}:∀{L:Nat->Bool}{i:Nat}{chs:List (List (Nat×α))}{base:List (Nat×α)},(∀j,j<chs.length->L (i+j)=false)->cf L i chs base=base
 |_,_,[],_,_=>rfl
 |L,i,c::r,base,h=>by
  have h0:=h 0 Sx
  rw[Zd]at h0
  simp only[cf,h0,cond_false]
  exact qi2 λj hj=>by
   have:=h (j+1) (by simpa using hj)
   rw[show i+1+j=i+(j+1)by omega]
   exact this
structure Tr where
 rd:List Nat
 dst:Option Nat
 e:Ef
 nx:Nat
def Tr.sch(t:Tr):List (Nat×SV):=match t.dst with
 |some d=>[(d,t.e.val)]
 |none=>[]
def runT:List Tr->Conf->Conf
 | [],C=>C
 |t::r,C=>runT r (C.app t.dst t.e)
theorem zer(C:Conf)(t:Tr):(C.app t.dst t.e).sl=t.sch++C.sl:=by
 unfold Conf.app Tr.sch
 cases t.dst<;>rfl
theorem qi3:∀(tr:List Tr)(i0 n:Nat)(C:Conf),cf (λj=>Qd j (i0+n)) i0 (tr.map Tr.sch) C.sl=(runT (tr.take n) C).sl∧cf (λj=>Qd j (i0+n)) i0 (tr.map λt=>t.e.ch) C.hp=(runT (tr.take n) C).hp
 | [],_,n,C=>by simp[cf,runT]
 |t::r,i0,0,C=>by
  have hf:∀{m:Nat}(j:Nat),j<m->Qd (i0+j) (i0+0)=false:=λj _=>by
   cases hb:Qd (i0+j) (i0+0)with
   |false=>rfl
   |true=>have:=ki hb;omega
  exact⟨qi2 λj hj=>hf j hj,qi2 λj hj=>hf j hj⟩
 |t::r,i0,n+1,C=>by
  have hb:Qd i0 (i0+(n+1))=true:=qac Om
  have ih:=qi3 r (i0+1) n (C.app t.dst t.e)
  rw[show i0+1+n=i0+(n+1)by omega]at ih
  simp only[Zb,cf,hb,cond_true,List.take_succ_cons,runT]
  rw[<-zer]
  exact ih
def jt(ch:List (Nat×Option SR)):List Nat:=ch.map Xr
def qbr(a b:List Nat):Bool:=a.all λx=> !memN b x
def dstL:Option Nat->List Nat
 |some d=>[d]
 |none=>[]
def indT(a b:Tr):Bool:=
 qbr (dstL a.dst) b.rd&&qbr (dstL a.dst) (dstL b.dst)&&qbr (dstL b.dst) a.rd&&
 qbr (jt a.e.ch) b.e.ks&&qbr (jt a.e.ch) (jt b.e.ch)&&qbr (jt b.e.ch) a.e.ks&&
 b.e.val.all (λk=>Qd k a.nx||Qm a.e.nx k)&&b.e.ch.all (λq=>(Qd q.1 a.nx||Qm a.e.nx q.1)&&match q.2 with
  |some r=>r.all λk=>Qd k a.nx||Qm a.e.nx k
  |none=>true)
def qf2(o:Oper)(acc:List Nat):Nat:=(qbs o).foldl (λm d=>(m|||2^d)|||acc.getD d 0) 0
def ancs:List Oper->List Nat->List Nat
 | [],acc=>acc
 |o::r,acc=>ancs r (acc++[qf2 o acc])
inductive AncR (l:List Oper):Nat->Nat->Prop
 |dep {i j:Nat} {o:Oper} (ho:l[j]?=some o) (hi:i∈qbs o):AncR l i j
 |step {i d j:Nat} {o:Oper} (ho:l[j]?=some o) (hd:d∈qbs o) (h:AncR l i d):AncR l i j
theorem q6v{l:List Oper}{acc:List Nat}(hacc:∀j i,(acc.getD j 0).testBit i=true->AncR l i j){o:Oper}{j:Nat}(ho:l[j]?=some o){i:Nat}(h:(qf2 o acc).testBit i=true):AncR l i j:=by
 unfold qf2 at h
 have key:∀(ds:List Nat)(m:Nat),(∀d∈ds,d∈qbs o)->(m.testBit i=true->AncR l i j)->(ds.foldl (λm d=>(m|||2^d)|||acc.getD d 0) m).testBit i=true->AncR l i j:=by
  intro ds
  induction ds with
  |nil=>exactλm _ hm h=>hm h
  |cons d r ih=>
   intro m hd hm h
   refine ih ((m|||2^d)|||acc.getD d 0) (λd' hd'=>hd d' (by simp[hd'])) (λhb=>?_) h
   rw[Xi,Xi,Zh,Zh,Nat.testBit_two_pow]at hb
   rcases hb with(hb|hb)|hb
   .exact hm hb
   .have:d=i:=by simpa using hb
    subst this
    exact .dep ho (hd d Sx)
   .exact .step ho (hd d Sx) (hacc d i hb)
 exact key (qbs o) 0 (λd hd=>hd) (λh=>by simp at h) h
theorem qv7{l:List Oper}:∀(r:List Oper)(acc:List Nat),(∀k o,r[k]?=some o->l[acc.length+k]?=some o)->(∀j i,(acc.getD j 0).testBit i=true->AncR l i j)->∀j i,((ancs r acc).getD j 0).testBit i=true->AncR l i j
 | [],acc,_,h=>h
 |o::r,acc,hr,h=>by
  refine qv7 r (acc++[qf2 o acc]) (λk o' hk=>?_) (λj i hb=>?_)
  .have:=hr (k+1) o' (by simpa using hk)
   rw[Qj]
   simp only[Qo,Qr]
   rw[show acc.length+(0+1)+k=acc.length+(k+1)by omega]
   exact this
  .by_cases hj:j<acc.length
   .have e:(acc++[qf2 o acc]).getD j 0=acc.getD j 0:=by simp[Zj,Qv hj]
    rw[e]at hb
    exact h j i hb
   .by_cases hj':j=acc.length
    .subst hj'
     have e:(acc++[qf2 o acc]).getD acc.length 0=qf2 o acc:=by simp[Zj]
     rw[e]at hb
     exact q6v h (by have:=hr 0 o rfl;simpa using this) hb
    .have e:(acc++[qf2 o acc]).getD j 0=0:=by simp[Zj,List.getElem?_eq_none (show(acc++[qf2 o acc]).length<=j by simp;omega)]
     rw[e]at hb
     simp at hb
def chkR:Nat->Tr->Nat->List Tr->List Nat->Bool
 |_,_,_,[],_=>true
 |i,a,j,b::r,m=>((m.getD j 0).testBit i||indT a b)&&chkR i a (j+1) r m
def chkT:Nat->List Tr->List Nat->Bool
 |_,[],_=>true
 |i,a::r,m=>chkR i a (i+1) r m&&chkT (i+1) r m
theorem qws:∀{i:Nat}{a:Tr}{j0:Nat}{l:List Tr}{m:List Nat},chkR i a j0 l m=true->∀j b,l[j]?=some b->(m.getD (j0+j) 0).testBit i=true∨indT a b=true
 |_,_,_,[],_,_,j,b,h=>by simp at h
 |i,a,j0,b::r,m,h,j,b',hb=>by
  simp only[chkR,Qb,Zh]at h
  cases j with
  |zero=>
   simp only[Qu,Qa]at hb
   subst hb
   exact h.1
  |succ j=>
   have:=qws h.2 j b' (by simpa using hb)
   rw[show j0+(j+1)=j0+1+j by omega]
   exact this
theorem qwt:∀{i0:Nat}{l:List Tr}{m:List Nat},chkT i0 l m=true->∀i j a b,i<j->l[i]?=some a->l[j]?=some b->(m.getD (i0+j) 0).testBit (i0+i)=true∨indT a b=true
 |_,[],_,_,_,_,_,_,_,h,_=>by simp at h
 |i0,a::r,m,h,i,j,a',b',hij,ha,hb=>by
  simp only[chkT,Qb]at h
  cases i with
  |zero=>
   simp only[Qu,Qa]at ha
   subst ha
   obtain⟨j,rfl⟩:∃j',j=j'+1:=⟨j-1,Om⟩
   have:=qws h.1 j b' (by simpa using hb)
   rw[show i0+(j+1)=i0+1+j by omega,Zd]
   exact this
  |succ i=>
   obtain⟨j,rfl⟩:∃j',j=j'+1:=⟨j-1,Om⟩
   have:=qwt h.2 i j a' b' Om (by simpa using ha) (by simpa using hb)
   rw[show i0+(j+1)=i0+1+j by omega,show i0+(i+1)=i0+1+i by omega]
   exact this
theorem qdk{a b:List Nat}(h:qbr a b=true){x:Nat}(hx:memN a x=true):memN b x=false:=by
 unfold memN at hx
 obtain⟨y,hy,e⟩:=Qz.1 hx
 have:=Qg e
 subst this
 simpa using Qe.1 h _ hy
theorem qlt{ch:List (Nat×Option SR)}{k:Nat}(h:lkS ch k≠none):memN (jt ch) k=true:=by
 cases hl:lkS ch k with
 |none=>exact absurd hl h
 |some v=>exact Qz.2 ⟨k,Zu.2 ⟨_,kj hl,rfl⟩,Sx⟩
theorem qou{t:Tr}{d:Nat}(h:lkS t.sch d≠none):memN (dstL t.dst) d=true:=by
 unfold Tr.sch at h
 cases ht:t.dst with
 |none=>rw[ht]at h;simp[lkS]at h
 |some x=>
  rw[ht]at h
  simp only[lkS]at h
  by_cases e:x=d
  .subst e;simp[dstL,memN]
  .rw[zz e]at h;simp at h
def rs(rd:List Nat)(sl:List (Nat×SV)):List (Nat×SV):=rd.filterMap λd=>match lkS sl d with
 |some v=>some (d,v)
 |none=>none
theorem zf4{rd:List Nat}{sl:List (Nat×SV)}{d:Nat}{v:SV}(h:lkS (rs rd sl) d=some v):memN rd d=true∧lkS sl d=some v:=by
 have:=kj h
 unfold rs at this
 obtain⟨x,hx,he⟩:=List.mem_filterMap.1 this
 split at he
 .rename_i w hw
  simp only[Qa,Zg]at he
  obtain⟨rfl,rfl⟩:=he
  exact⟨Qz.2 ⟨x,hx,Sx⟩,hw⟩
 .simp at he
theorem qot{l:List Nat}{x:Nat}(h:memN l x=true):x∈l:=by
 obtain⟨y,hy,e⟩:=Qz.1 h
 rw[Qg e]
 exact hy
theorem SatR.congr{S0:List AObj}{F:Nat->Prop}{C C':Conf}{ρ t:Nat->AV}{S:List AObj}(h:SatR S0 F C ρ t S)(h1:∀d,lkS C'.sl d=lkS C.sl d)(h2:hpF C'.hp=hpF C.hp)(h3:C.nx<=C'.nx):SatR S0 F C' ρ t S:=
 ⟨λd v hd=>h.sl d v (by rw[<-h1];exact hd),by rw[h2];exact h.hp,by rw[h2];exact h.own,h.low,h.len,λd v hd=>all_mono (λk hk=>qac (by have:=ki hk;omega)) v (h.wsl d v (by rw[<-h1];exact hd)),λk r hk=>by
  rw[h2]at hk
  obtain⟨g1,g2⟩:=h.whp k r hk
  exact⟨Om,SR.all_mono (λk hk=>qac (by have:=ki hk;omega)) r g2⟩⟩
structure qvj (E:Env) (N:Nat) (l:List Oper) (C0:Conf) (tr:List Tr):Prop where
 len:tr.length=l.length
 loc:∀i o t,l[i]?=some o->tr[i]?=some t->Loc E N l.toArray o t.nx (rs t.rd (runT (tr.take i) C0).sl) (hpF (runT (tr.take i) C0).hp) t.e∧t.e.wf t.nx=true∧t.nx=(runT (tr.take i) C0).nx∧t.dst=o.dst
theorem qje{E:Env}{N:Nat}{l:List Oper}{C0:Conf}{tr:List Tr}(h:qvj E N l C0 tr):∀{i j:Nat},i<=j->j<=tr.length->(runT (tr.take i) C0).nx<=(runT (tr.take j) C0).nx:=by
 have step:∀(r:List Tr)(C:Conf)(t:Tr),(runT (r++[t]) C)=(runT r C).app t.dst t.e:=by
  intro r
  induction r with
  |nil=>exactλC t=>rfl
  |cons a r ih=>exactλC t=>ih _ t
 intro i j hij
 induction hij with
 |refl=>exactλ_=>Qn _
 |step hm ih=>
  rename_i m
  intro hj
  refine Ze (ih Om) ?_
  have ht:tr[m]?=some (tr[m]'(by omega)):=Qf Om
  have ho:l[m]?=some (l[m]'(by have:=h.len;omega)):=Qf _
  obtain⟨_,h2,h3,_⟩:=h.loc m _ _ ho ht
  rw[Zm Om,step]
  have:=(qew h2).1
  rw[h3]at this
  exact this
theorem q7s{tr:List Tr}{i:Nat}{t:Tr}(ht:tr[i]?=some t)(C0:Conf):runT (tr.take (i+1)) C0=(runT (tr.take i) C0).app t.dst t.e:=by
 have step:∀(r:List Tr)(C:Conf)(t:Tr),(runT (r++[t]) C)=(runT r C).app t.dst t.e:=by
  intro r
  induction r with
  |nil=>exactλC t=>rfl
  |cons a r ih=>exactλC t=>ih _ t
 obtain⟨hi,e⟩:=Qp.1 ht
 rw[Zm hi,step,e]
def qmf(l:List Oper)(L:Nat->Bool):Prop:=∀j o,L j=true->l[j]?=some o->∀d∈qbs o,L d=true
theorem qmf.anc{l:List Oper}{L:Nat->Bool}(h:qmf l L){i j:Nat}(ha:AncR l i j):L j=true->L i=true:=by
 induction ha with
 |dep ho hi=>exactλhj=>h _ _ hj ho _ hi
 |step ho hd _ ih=>exactλhj=>ih (h _ _ hj ho _ hd)
theorem qtb{E:Env}{rd:Option Nat}{N:Nat}{id:Nat}{l:List Oper}{B:Bs}{C0:Conf}{tr:List Tr}{Q:Exit->AS->Prop}{s:AS}(hm:E.P.follows .mixedOrders=true)(hnd:l.toArray.all qdr=true)(hd:qfa 0 l=true)
  (hw:qvj E N l C0 tr) (hc:chkT 0 tr (ancs l [])=true) (hs:SatC B C0 s) (hq:∀s',SatC B (runT tr C0) s'->Q .normal s'):AWp E rd N (.region id l.toArray true) Q s:=by
 have hlen:=hw.len
 let NX:=(runT tr C0).nx
 let SC:=tr.map Tr.sch
 let HC:=tr.map λt:Tr=>t.e.ch
 have hSC:∀{j:Nat}{c:List (Nat×SV)},SC[j]?=some c->∃t,tr[j]?=some t∧c=t.sch:=λ{j c}h=>by
  simp only[SC,Ql]at h
  cases ht:tr[j]?with
  |none=>rw[ht]at h;simp at h
  |some t=>rw[ht]at h;simp at h;exact⟨t,rfl,h.symm⟩
 have hHC:∀{j:Nat}{c:List (Nat×Option SR)},HC[j]?=some c->∃t,tr[j]?=some t∧c=t.e.ch:=λ{j c}h=>by
  simp only[HC,Ql]at h
  cases ht:tr[j]?with
  |none=>rw[ht]at h;simp at h
  |some t=>rw[ht]at h;simp at h;exact⟨t,rfl,h.symm⟩
 have hop:∀{j:Nat}{t:Tr},tr[j]?=some t->∃o,l[j]?=some o:=λ{j t}h=>⟨_,Qf (by have:=lt_of_getElem? h;omega)⟩
 have htk:tr.take tr.length=tr:=Zv
 have hnx:∀{j:Nat}{t:Tr},tr[j]?=some t->t.nx=(runT (tr.take j) C0).nx∧t.e.nx=(runT (tr.take (j+1)) C0).nx:=λ{j t}h=>by
  obtain⟨o,ho⟩:=hop h
  refine⟨(hw.loc j o t ho h).2.2.1,?_⟩
  rw[q7s h]
  rfl
 have hmono:∀{i j:Nat}{a b:Tr},i<j->tr[i]?=some a->tr[j]?=some b->a.e.nx<=b.nx:=λ{i j a b}hij ha hb=>by
  rw[(hnx ha).2,(hnx hb).1]
  exact qje hw Om (by have:=lt_of_getElem? hb;omega)
 have hNX:∀{j:Nat}{t:Tr},tr[j]?=some t->t.e.nx<=NX:=λ{j t}h=>by
  rw[(hnx h).2]
  have:=qje hw (i:=j+1) (j:=tr.length) (by have:=lt_of_getElem? h;omega) (Qn _)
  rw[htk]at this
  exact this
 have h0nx:∀{j:Nat}{t:Tr},tr[j]?=some t->C0.nx<=t.nx:=λ{j t}h=>by
  rw[(hnx h).1]
  exact qje hw (i:=0) (Zw j) (by have:=lt_of_getElem? h;omega)
 have hanc:∀j i,((ancs l []).getD j 0).testBit i=true->AncR l i j:=qv7 l [] (λk o hk=>by simpa using hk) (λj i h=>by simp[Zj]at h)
 have pair:∀{i j:Nat}{a b:Tr},i<j->tr[i]?=some a->tr[j]?=some b->AncR l i j∨indT a b=true:=λ{i j a b}hij ha hb=>by
  have:=qwt hc i j a b hij ha hb
  rw[Qi,Qi]at this
  exact this.imp_left λh=>hanc j i h
 have hb0:B.n0<=C0.nx:=by obtain⟨_,h,_⟩:=hs;exact h.le
 refine q5p hm hnd hd (λL s=>qmf l L∧SatC B ⟨cf L 0 SC C0.sl,cf L 0 HC C0.hp,NX⟩ s) ⟨λj o h=>by simp at h,?_⟩ ?_ ?_
 .obtain⟨ρ,hdf,hR⟩:=hs
  have hC0:C0.nx<=NX:=by
   have:=qje hw (i:=0) (j:=tr.length) (Zw _) (Qn _)
   rw[htk]at this
   exact this
  refine⟨ρ,hdf.nx (Ze hdf.le hC0),hR.congr (λd=>?_) ?_ ?_⟩
  .rw[qi2 λ_ _=>rfl]
  .show hpF (cf (λ_=>false) 0 HC C0.hp)=hpF C0.hp
   rw[qi2 λ_ _=>rfl]
  .have:=qje hw (i:=0) (j:=tr.length) (Zw _) (Qn _)
   rw[htk]at this
   exact this
 .rintro L s' hall ⟨_,ρ,hdf,hR⟩
  refine hq s' ⟨ρ,hdf.nx hdf.le,hR.congr (λd=>?_) ?_ (Qn _)⟩
  .have h1:=(qi3 tr 0 tr.length C0).1
   rw[htk]at h1
   rw[<-h1]
   simp only[qcq]
   rw[qbm (L:=λj=>Qd j (0+tr.length)) (L':=L) λj c hc _=>by
    obtain⟨t,ht,_⟩:=hSC hc
    have hj:=lt_of_getElem? ht
    rw[hall (0+j) Om]
    exact qac Om]
  .have h1:=(qi3 tr 0 tr.length C0).2
   rw[htk]at h1
   rw[<-h1]
   funext k
   unfold hpF
   simp only[qcq]
   rw[qbm (L:=λj=>Qd j (0+tr.length)) (L':=L) λj c hc _=>by
    obtain⟨t,ht,_⟩:=hHC hc
    have hj:=lt_of_getElem? ht
    rw[hall (0+j) Om]
    exact qac Om]
 ·-- the steps
  suffices H:∀(i:Nat)(o:Oper),l[i]?=some o->∀L s,L i=false->(∀j,(qbs o).contains j=true->L j=true)->(qmf l L∧SatC B ⟨cf L 0 SC C0.sl,cf L 0 HC C0.hp,NX⟩ s)->
    AOps E none N l.toArray [o] (λs=>qmf l (addL L i)∧SatC B ⟨cf (addL L i) 0 SC C0.sl,cf (addL L i) 0 HC C0.hp,NX⟩ s) s by
   have gen:∀(r:List Oper)(i0:Nat),(∀k o,r[k]?=some o->l[i0+k]?=some o)->qk0 E N l.toArray (λL s=>qmf l L∧SatC B ⟨cf L 0 SC C0.sl,cf L 0 HC C0.hp,NX⟩ s) i0 r:=by
    intro r
    induction r with
    |nil=>exactλ_ _=>trivial
    |cons o r ih=>
     intro i0 hr
     exact⟨H i0 o (by have:=hr 0 o rfl;simpa using this),ih (i0+1) λk o' hk=>by rw[show i0+1+k=i0+(k+1)by omega];exact hr (k+1) o' (by simpa using hk)⟩
   exact gen l 0 λk o hk=>by simpa using hk
  rintro i o ho L ⟨t0,S,df⟩ hLi hdeps ⟨hdown,ρ,hdf,hR⟩
  simp only at hdf hR
  have hil:=lt_of_getElem? ho
  obtain⟨t,ht⟩:∃t,tr[i]?=some t:=⟨_,Qf Om⟩
  obtain⟨hL,hwf,hnxi,hdst⟩:=hw.loc i o t ho ht
  obtain⟨w1,w2,w3⟩:=qew hwf
  -- who has done what, told by the text
  have anc_in:∀{j:Nat},AncR l j i->L j=true:=λ{j}h=>by
   cases h with
   |dep ho' hi=>
    rw[ho]at ho'
    simp only[Qa]at ho'
    subst ho'
    exact hdeps j (by simpa using hi)
   |step ho' hd' h'=>
    rw[ho]at ho'
    simp only[Qa]at ho'
    subst ho'
    exact hdown.anc h' (hdeps _ (by simpa using hd'))
  have not_after:∀{j:Nat},AncR l i j->L j=false:=λ{j}h=>by
   cases hj:L j with
   |false=>rfl
   |true=>rw[hdown.anc h hj]at hLi;simp at hLi
  have agree:∀{j:Nat}{b:Tr},tr[j]?=some b->(∀(hji:j<i),indT b t=true->False)->(∀(hij:i<j),indT t b=true->False)->L j=Qd j i:=λ{j b}hb h1 h2=>by
   rcases Xd j i with hji|hji|hji
   .rw[qac hji]
    rcases pair hji hb ht with h|h
    .exact anc_in h
    .exact(h1 hji h).elim
   .subst hji
    rw[hLi]
    cases hbb:Qd j j with
    |false=>rfl
    |true=>have:=ki hbb;omega
   .have:Qd j i=false:=by
     cases hbb:Qd j i with
     |false=>rfl
     |true=>have:=ki hbb;omega
    rw[this]
    rcases pair hji ht hb with h|h
    .exact not_after h
    .exact(h2 hji h).elim
  have hslA:∀d,memN t.rd d=true->lkS (cf L 0 SC C0.sl) d=lkS (runT (tr.take i) C0).sl d:=λd hd=>by
   have h1:=(qi3 tr 0 i C0).1
   rw[<-h1]
   simp only[qcq]
   rw[qbm (L:=L) (L':=λj=>Qd j (0+i)) λj c hc hl=>by
    obtain⟨b,hb,rfl⟩:=hSC hc
    have hdm:=qou hl
    rw[Qi,Qi]
    refine agree hb (λhji h=>?_) (λhij h=>?_)
    .simp only[indT,Qb]at h
     have:=qdk h.1.1.1.1.1.1.1 hdm
     rw[hd]at this
     simp at this
    .simp only[indT,Qb]at h
     have:=qdk h.1.1.1.1.1.2 hdm
     rw[hd]at this
     simp at this]
  have hhpA:resF t.e.ks (hpF (runT (tr.take i) C0).hp)=resF t.e.ks (hpF (cf L 0 HC C0.hp)):=by
   funext k
   unfold resF
   cases hk:memN t.e.ks k with
   |false=>rfl
   |true=>
    simp only[cond_true]
    have h1:=(qi3 tr 0 i C0).2
    rw[<-h1]
    unfold hpF
    simp only[qcq]
    rw[qbm (L:=λj=>Qd j (0+i)) (L':=L) λj c hc hl=>by
     obtain⟨b,hb,rfl⟩:=hHC hc
     have hdm:=qlt hl
     rw[Qi,Qi]
     refine(agree hb (λhji h=>?_) (λhij h=>?_)).symm
     .simp only[indT,Qb]at h
      have:=qdk h.1.1.1.1.2 hdm
      rw[hk]at this
      simp at this
     .simp only[indT,Qb]at h
      have:=qdk h.1.1.2 hdm
      rw[hk]at this
      simp at this]
  refine hL _ none _ [] ρ t0 S (λd v hd'=>?_) (by rw[hhpA];exact hR.hp.res _) λρ' S' hp=>qi ⟨λj o' hj ho' d hd'=>?_,ρ',?_,?_⟩
  .obtain⟨g1,g2⟩:=zf4 hd'
   exact hR.sl d v (by rw[hslA d g1];exact g2)
  .unfold addL at hj⊢
   rcases Bool.or_eq_true_iff.1 hj with hj|hj
   .have:=Qg hj
    subst this
    rw[ho]at ho'
    simp only[Qa]at ho'
    subst ho'
    rw[hdeps d (by simpa using hd'),Xm]
   .rw[hdown j o' hj ho' d hd',Xm]
  .have hp2:qfv ρ S t.nx (hpF (cf L 0 HC C0.hp)) t.e ρ' S':=⟨hp.old,by rw[<-hhpA];exact hp.sat,hp.len,by rw[<-hhpA];exact hp.fr,by rw[<-hhpA];exact hp.loc⟩
   have:=hdf.stepG (C':=⟨cf (addL L i) 0 SC C0.sl,cf (addL L i) 0 HC C0.hp,NX⟩) hR.hp hp2 (by have:=hb0;have:=h0nx ht;omega) hdf.le
   cases o.dst<;>exact this
  .have hp2:qfv ρ S t.nx (hpF (cf L 0 HC C0.hp)) t.e ρ' S':=⟨hp.old,by rw[<-hhpA];exact hp.sat,hp.len,by rw[<-hhpA];exact hp.fr,by rw[<-hhpA];exact hp.loc⟩
   have old_lt:∀k,Qd k C0.nx=true->(Qd k t.nx||Qm t.e.nx k)=true:=λk hk=>by
    have:=h0nx ht
    rw[qac (by have:=ki hk;omega),Xo]
   have ear_lt:∀{j:Nat}{b:Tr},j<i->tr[j]?=some b->∀k,Qd k b.e.nx=true->(Qd k t.nx||Qm t.e.nx k)=true:=λ{j b}hji hb k hk=>by
    have:=hmono hji hb ht
    rw[qac (by have:=ki hk;omega),Xo]
   have lat:∀{j:Nat}{b:Tr},tr[j]?=some b->L j=true->¬j<i->indT t b=true∧i<j:=λ{j b}hb hLj hji=>by
    have hij:i<j:=by
     rcases Xd i j with h|h|h
     .exact h
     .subst h;rw[hLi]at hLj;simp at hLj
     .omega
    rcases pair hij ht hb with h|h
    .rw[not_after h]at hLj;simp at hLj
    .exact⟨h,hij⟩
   have hst:=hR.stepG (d:=o.dst) (nx:=t.nx) (NX:=NX) (Qn _) (all_mono (λk hk=>qac (by have:=ki hk;have:=hNX ht;omega)) _ w2) (λq hq'=>⟨by have:=(w3 q hq').1;have:=hNX ht;omega,λr hr=>SR.all_mono (λk hk=>qac (by have:=ki hk;have:=hNX ht;omega)) r ((w3 q hq').2.2 r hr)⟩) (λd v hd'=>?_) (λk r hk=>?_) hp2
   .refine SatR.congr (S0:=B.S0) (F:=B.F) (C:=⟨match o.dst with|some d=>(d,t.e.val)::cf L 0 SC C0.sl|none=>cf L 0 SC C0.sl,t.e.ch++cf L 0 HC C0.hp,NX⟩) ?_ (λd=>?_) ?_ (Qn _)
    .cases hod:o.dst with
     |none=>rw[hod]at hst;exact hst
     |some x=>rw[hod]at hst;exact hst
    .have hSi:SC[i]?=some t.sch:=by simp only[SC,Ql,ht];rfl
     have hadd:=qln (L:=L) (k:=d) (i:=0) (j0:=i) hSi λj c hij hc hLj hl=>by
      obtain⟨b,hb,rfl⟩:=hSC hc
      rw[Qi]at hLj
      have h:=(lat hb hLj Om).1
      simp only[indT,Qb]at h
      have h2:=qdk h.1.1.1.1.1.1.2 (qou hl)
      cases hq':lkS b.sch d with
      |none=>rfl
      |some w=>
       have:=qou (t:=b) (d:=d) (by rw[hq'];simp)
       rw[h2]at this
       simp at this
     rw[Qi,hLi]at hadd
     simp only[cond_false]at hadd
     have e:lkS (match o.dst with|some d=>(d,t.e.val)::cf L 0 SC C0.sl|none=>cf L 0 SC C0.sl) d=lkS (t.sch++cf L 0 SC C0.sl) d:=by
      unfold Tr.sch
      rw[hdst]
      cases o.dst<;>rfl
     rw[e,qb8]
     simp only[qcq]
     rw[hadd]
     cases lkS t.sch d<;>rfl
    .rw[q1r]
     funext k
     have hHi:HC[i]?=some t.e.ch:=by simp only[HC,Ql,ht];rfl
     have hadd:=qln (L:=L) (k:=k) (i:=0) (j0:=i) hHi λj c hij hc hLj hl=>by
      obtain⟨b,hb,rfl⟩:=hHC hc
      rw[Qi]at hLj
      have h:=(lat hb hLj Om).1
      simp only[indT,Qb]at h
      have h2:=qdk h.1.1.1.2 (qlt hl)
      cases hq':lkS b.e.ch k with
      |none=>rfl
      |some w=>
       have:=qlt (ch:=b.e.ch) (k:=k) (by rw[hq'];simp)
       rw[h2]at this
       simp at this
     rw[Qi,hLi]at hadd
     simp only[cond_false]at hadd
     unfold chF hpF
     simp only[qcq]
     rw[hadd]
     cases lkS t.e.ch k<;>rfl
   .simp only[qcq]at hd'
    cases hlast:wt L d 0 SC with
    |none=>
     rw[hlast]at hd'
     simp only at hd'
     obtain⟨ρ0,_,hR0⟩:=hs
     exact all_mono old_lt v (hR0.wsl d v hd')
    |some u=>
     rw[hlast]at hd'
     simp only[Qa]at hd'
     subst hd'
     obtain⟨j,c,hc',hLj,hl⟩:=qf1 hlast
     obtain⟨b,hb,rfl⟩:=hSC hc'
     rw[Qi]at hLj
     obtain⟨ob,hob⟩:=hop hb
     have hu:u=b.e.val:=by
      unfold Tr.sch at hl
      cases hbd:b.dst with
      |none=>rw[hbd]at hl;simp[lkS]at hl
      |some x=>
       rw[hbd]at hl
       simp only[lkS]at hl
       cases hbx:Qx x d with
       |true=>rw[hbx]at hl;simp only[cond_true,Qa]at hl;exact hl.symm
       |false=>rw[hbx]at hl;simp at hl
     subst hu
     by_cases hji:j<i
     .exact all_mono (ear_lt hji hb) _ (qew (hw.loc j ob b hob hb).2.1).2.1
     .have h:=(lat hb hLj hji).1
      simp only[indT,Qb]at h
      exact h.1.2
   .have hk':=wo hk
    simp only[qcq]at hk'
    cases hlast:wt L k 0 HC with
    |none=>
     rw[hlast]at hk'
     simp only at hk'
     obtain⟨ρ0,_,hR0⟩:=hs
     obtain⟨g1,g2⟩:=hR0.whp k r (by unfold hpF;rw[hk'])
     exact⟨.inl (by have:=h0nx ht;omega),SR.all_mono old_lt r g2⟩
    |some u=>
     rw[hlast]at hk'
     simp only[Qa]at hk'
     subst hk'
     obtain⟨j,c,hc',hLj,hl⟩:=qf1 hlast
     obtain⟨b,hb,rfl⟩:=hHC hc'
     rw[Qi]at hLj
     obtain⟨ob,hob⟩:=hop hb
     obtain⟨g1,_,g3⟩:=(qew (hw.loc j ob b hob hb).2.1).2.2 _ (kj hl)
     by_cases hji:j<i
     .exact⟨.inl (by have:=hmono hji hb ht;simp only at g1;omega),SR.all_mono (ear_lt hji hb) r (g3 r rfl)⟩
     .have h:=(lat hb hLj hji).1
      simp only[indT,Qb]at h
      have h2:=Qe.1 h.2 _ (kj hl)
      simp only[Qb,Zh]at h2
      exact⟨h2.1.imp ki Qh,h2.2⟩
def opTm:Operand->Option Nat
 |.tmp i=>some i
 |_=>none
def rdOf(l:List Oper)(o:Oper):List Nat:=o.op.operands.toList.filterMap opTm++match o.guard with
 |some (j,_)=>dstL (qvm l j)
 |none=>[]
def wpDr(E:Env)(N:Nat)(l:List Oper)(bxs:List Nat):Nat->List Oper->List Tr->(List Tr->Conf->Prop)->Conf->Prop
 |_,[],tr,K,C=>K tr C
 |i,o::r,tr,K,⟨sl,hp,nx⟩=>opG E N l bxs nx (rs (rdOf l o) sl) (hpF hp) (gdW (isGd i l) (fcE λe=>qq6 sl hp nx o.dst (wpDr E N l bxs (i+1) r (tr++[⟨rdOf l o,o.dst,e,nx⟩]) K) e)) o
theorem qyx(r:List Tr)(t:Tr):∀C,runT (r++[t]) C=(runT r C).app t.dst t.e:=by
 induction r with
 |nil=>exactλC=>rfl
 |cons a r ih=>exactλC=>ih _
theorem q2p{E:Env}{N:Nat}{l:List Oper}{bxs:List Nat}{C0:Conf}{K:List Tr->Conf->Prop}:∀{r:List Oper}{i:Nat}{tr:List Tr}{C:Conf},(∀k,r[k]?=l[i+k]?)->tr.length=i->i+r.length=l.length->C=runT tr C0->
  (∀j o t,l[j]?=some o->tr[j]?=some t->Loc E N l.toArray o t.nx (rs t.rd (runT (tr.take j) C0).sl) (hpF (runT (tr.take j) C0).hp) t.e∧t.e.wf t.nx=true∧t.nx=(runT (tr.take j) C0).nx∧t.dst=o.dst)->
  wpDr E N l bxs i r tr K C->∃tr',qvj E N l C0 tr'∧K tr' (runT tr' C0)
 | [],i,tr,C,hr,hl,hn,hC,hw,h=>⟨tr,⟨by simpa[hl]using hn,hw⟩,by rw[<-hC];exact h⟩
 |o::r,i,tr,⟨sl,hp,nx⟩,hr,hl,hn,hC,hw,h=>by
  obtain⟨e,hL,h⟩:=qx7 h
  obtain⟨e,hL,h⟩:=qxg hL h
  rw[qw5]at h
  obtain⟨hwf,h⟩:=qow h
  .refine q2p (r:=r) (i:=i+1) (tr:=tr++[⟨rdOf l o,o.dst,e,nx⟩]) (λk=>?_) (by simp[hl]) (by simp at hn;omega) (by rw[qyx,<-hC]) (λj o' t ho ht=>?_) h
   .have:=hr (k+1)
    rw[show i+1+k=i+(k+1)by omega,<-this]
    rfl
   .by_cases hj:j<tr.length
    .rw[Qv hj]at ht
     rw[Zr Om]
     exact hw j o' t ho ht
    .have hji:j=tr.length:=by
      have:=lt_of_getElem? ht
      simp at this
      omega
     subst hji
     simp only[List.getElem?_concat_length,Qa]at ht
     subst ht
     have ho2:=hr 0
     rw[<-hl,Zd,ho]at ho2
     simp only[Qu,Qa]at ho2
     subst ho2
     rw[Xj,<-hC]
     exact⟨hL,hwf,rfl,rfl⟩
def drB(E:Env)(l:List Oper)(tr:List Tr):Bool:=E.P.follows .mixedOrders&&l.toArray.all qdr&&qfa 0 l&&chkT 0 tr (ancs l [])
structure DrOk (E:Env) (l:List Oper) (tr:List Tr):Prop where
 ok:drB E l tr=true
theorem qc{E:Env}{rd:Option Nat}{N:Nat}{B:Bs}{Q:Exit->Conf->Prop}{C:Conf}{id:Nat}{ops:Array Oper}(bxs:List Nat)
  (h:wpDr E N ops.toList bxs 0 ops.toList [] (λtr C'=>DrOk E ops.toList tr∧Q .normal C') C):Sm E rd N B (.region id ops true) Q C:=⟨λs hs=>by
 obtain⟨tr,hw,hb,hq⟩:=q2p (C0:=C) (l:=ops.toList) (i:=0) (tr:=[]) (λk=>by rw[Qi]) rfl Sx rfl (λj o t _ ht=>by simp at ht) h
 have hb:=hb.ok
 simp only[drB,Qb]at hb
 have e:ops=ops.toList.toArray:=Sx
 rw[e]
 exact qtb hb.1.1.1 hb.1.1.2 hb.1.2 hw hb.2 hs λs' hs'=>⟨_,hq,hs'⟩⟩
theorem cSd{P:Prop}(h:P:=by first|exact rfl|exact trivial|exactλ_=>rfl|exact qm1 _|exact DrOk.mk Kr|exact qd0 λ_=>rfl|omega|(simp only[List.length_map,List.length_append,List.length_cons,List.length_nil,List.length_take,List.length_drop];omega)|exact zf8):P:=h
theorem exr{α:Type}{A K:α->Prop}{a:α}(k:K a)(h:A a:=by exact rfl):∃x,A x∧K x:=⟨a,h,k⟩
theorem cpe{E:Env}{H:Nat->Option SR}{nx:Nat}{f:FuncId}{vs:List SV}{args:List AV}{r0:AV}{k:Ef->Prop}(hc:∀S,ql E f args S λr S'=>r=r0∧S'=S)(hk:k ⟨nf r0,SV.kss vs,[],nx⟩)(ha:qvk E.P f (frzs (resF (SV.kss vs) H) vs)=some args:=by exact rfl):∃e,j9 E f vs nx H e∧k e:=⟨_,zb9 hc ha,hk⟩
end Go.Av
namespace Go.Proofs.YtapblfabkbdgcaaGreatDoor
open Go Go.Av Go.RowKit Go.Proofs Go.Pl
def qbb(n0:Nat)(ks:List Nat)(sl:List (Nat×SV))(hp:List (Nat×Option SR))(nx:Nat):Bool:=
 sl.all (λq=>q.2.all λk=>Qd k n0)&&hp.all (λq=>match q.2 with
  |some (.cells _ _)=>memN ks q.1
  |some (.own _ _ _)=>false
  |some (.obj _)=>memN ks q.1
  |some (.rows _ _ _)=>false
  |_=>true)&&Qm n0 nx
def ksIn(n0:Nat)(ks:List Nat)(hp:List (Nat×Option SR)):Bool:=ks.all λk=>Qd k n0&&match lkS hp k with
 |some (some (.cells _ _))=>true
 |some (some (.obj _))=>true
 |_=>false
structure RB (E:Env) (N:Nat) (F:Nat->Prop) (ρ:Nat->AV) (n0:Nat) (body:Code) (Q:Exit->Conf->Prop) (C:Conf):Prop where
 run:∀S rd,Sm E rd N ⟨S,F,ρ,n0,False⟩ body Q C
structure RA (E:Env) (N:Nat) (n0:Nat) (asg:Code) (K:(Nat->Prop)->(Nat->AV)->Conf->Prop) (C:Conf):Prop where
 run:∀S F ρ rd,Sm E rd N ⟨S,F,ρ,n0,True⟩ asg (λe C1=>match e with
  |.normal=>∀F',K F' ρ C1
  |_=>False) C
def q3c(Q:Exit->Conf->Prop):Code->Conf->Prop
 |.ret=>Q .ret
 |.exit id=>Q (.exit id)
 |_=>λ_=>False
def qqz(k:Nat)(text rest:List UInt8):SV:=.ag [.i k,.i ((text.length:Int)-rest.length),.s (upto 10 rest),.p (10∈rest) inferInstance]
theorem q9t(k:Nat)(text rest:List UInt8)(ρ:Nat->AV):(qqz k text rest).ev ρ=qvo k text rest:=rfl
@[reducible] def rndQ {X : Type} (n0 : Nat) (P : X → Prop) (D : Code → X → Prop) (C : X → Conf) (e : Exit) (C2 : Conf) : Prop := match e with
 |.normal=>∃x,P x∧EntA n0 C2 (C x)
 |.ret=>∃x,D .ret x∧EntA n0 C2 (C x)
 |.exit id=>∃x,D (.exit id) x∧EntA n0 C2 (C x)
 |_=>False
section
variable {N : Nat} {B : Bs} {C : Conf} {Q : Exit → Conf → Prop} {rd : Option Nat}
structure RInv (B:Bs) (n0 n:Nat) (ks:List Nat) (ρ1 t:Nat->AV) (df:List Nat) (C:Conf) (S:List AObj):Prop where
 ex:∃ρ,(∀k,k<n0->ρ k=ρ1 k)∧SatR B.S0 B.F C ρ t S∧(∀d∈df,S[d]?=some .dfr)∧n<=S.length
theorem qwr{n0 n:Nat}{ks:List Nat}{ρ1 ρ:Nat->AV}{hp:List (Nat×Option SR)}{sl:List (Nat×SV)}{nx k:Nat}{T:TypeId}{cs:List SV}(hks:∀k∈ks,k<n0∧∃o,ze (ρ1 k)=some o∧o<n)(hr:qbb n0 ks sl hp nx=true)(hρ:∀k,k<n0->ρ k=ρ1 k)(hk:hpF hp k=some (.cells T cs)):k<n0∧∃o,ze (ρ k)=some o∧o<n:=by
 have h1:=wo hk
 simp only[qbb,Qb]at hr
 have:=Qe.1 hr.1.2 _ (kj h1)
 simp only at this
 obtain⟨g1,g2⟩:=hks k (qot this)
 refine⟨g1,?_⟩
 rw[hρ k g1]
 exact g2
theorem q7c{n0:Nat}{ks:List Nat}{sl:List (Nat×SV)}{hp:List (Nat×Option SR)}{nx k sz:Nat}{T:TypeId}{xs:List AV}(hr:qbb n0 ks sl hp nx=true)(hk:hpF hp k=some (.own sz T xs)):False:=by
 have h1:=wo hk
 simp only[qbb,Qb]at hr
 have:=Qe.1 hr.1.2 _ (kj h1)
 simp at this
theorem q60{n0 n:Nat}{ks:List Nat}{ρ1 ρ:Nat->AV}{hp:List (Nat×Option SR)}{sl:List (Nat×SV)}{nx k:Nat}{P:AObj->AV->Prop}(hks:∀k∈ks,k<n0∧∃o,ze (ρ1 k)=some o∧o<n)(hr:qbb n0 ks sl hp nx=true)(hρ:∀k,k<n0->ρ k=ρ1 k)(hk:hpF hp k=some (.obj P)):k<n0∧∃o,ze (ρ k)=some o∧o<n:=by
 have h1:=wo hk
 simp only[qbb,Qb]at hr
 have:=Qe.1 hr.1.2 _ (kj h1)
 simp only at this
 obtain⟨g1,g2⟩:=hks k (qot this)
 refine⟨g1,?_⟩
 rw[hρ k g1]
 exact g2
theorem q2e{n0:Nat}{ks:List Nat}{sl:List (Nat×SV)}{hp:List (Nat×Option SR)}{nx k:Nat}{T2:TypeId}{ys2:List AV}{cs2:List SV}(hr:qbb n0 ks sl hp nx=true)(hk:hpF hp k=some (.rows T2 ys2 cs2)):False:=by
 have h1:=wo hk
 simp only[qbb,Qb]at hr
 have:=Qe.1 hr.1.2 _ (kj h1)
 simp at this
theorem RInv.ext{n0 n:Nat}{ks:List Nat}{ρ1 t:Nat->AV}{df:List Nat}{C:Conf}{S S':List AObj}(h:RInv B n0 n ks ρ1 t df C S)(hks:∀k∈ks,k<n0∧∃o,ze (ρ1 k)=some o∧o<n)(hr:qbb n0 ks C.sl C.hp C.nx=true)(hB:B.S0.length<=n)(hdn:∀d∈df,d<n)(hE:Ext n S S'):RInv B n0 n ks ρ1 t df C S':=by
 obtain⟨ρ,hρ,hR,hd,hn⟩:=h.ex
 refine⟨ρ,hρ,⟨hR.sl,⟨λk r hk=>?_,hR.hp.sep⟩,hR.own,λj hj hF=>?_,Ze hR.len hE.len,hR.wsl,hR.whp⟩,λd hdd=>?_,Ze hn hE.len⟩
 .refine SR.ok_of (f:=λ_=>true) (SR.all_mono (λ_ _=>rfl) r (hR.whp k r hk).2) (λ_ _=>rfl) (hR.hp.ok k r hk) λo ho=>?_
  rcases SR.ok_ct (hR.hp.ok k r hk) ho with⟨T,cs,v,h1,T',cs',rfl⟩|⟨m,sz,T,h1⟩|⟨sz,T,xs,rfl⟩|⟨P1,rfl⟩|⟨T2,ys2,cs2,rfl⟩
  rotate_left 2
  .exact(q7c hr hk).elim
  .obtain⟨_,o',h2,h3⟩:=q60 hks hr hρ hk
   rw[h2]at ho
   simp only[Qa]at ho
   subst ho
   exact hE.low _ h3
  .exact(q2e hr hk).elim
  .obtain⟨_,o',h2,h3⟩:=qwr hks hr hρ hk
   rw[h2]at ho
   simp only[Qa]at ho
   subst ho
   exact hE.low _ h3
  .exact hE.tips _ _ _ _ h1
 .rw[hE.low j Om]
  exact hR.low j hj hF
 .rw[hE.low d (hdn d hdd)]
  exact hd d hdd
def evY{ι:Type}(Y:ι->Option (SV×ι))(i:ι):Option (AV×ι):=match Y i with
 |some (v,j)=>some (v.ev λ_=>z0,j)
 |none=>none
theorem qn4{X:Type}{f:Operand}{p:Tmp}{asg body:Code}{g:FuncId}{T:TypeId}{cs:List AV}{ι:Type}{Y:ι->Option (SV×ι)}{i0:ι}(hit:ItC g T cs (evY Y) i0)(hrun:∀vs w,(callFunc g vs).run E.P w=.ok (.enter g vs) w)(hY:∀i v j,Y i=some (v,j)->v.all (λ_=>false)=true)(kb n0:Nat)(cv:List SV)(hcv:∀ρ,SV.evs ρ cv=cs)(ks:List Nat)(I:X->Conf)(sl0:List (Nat×SV))(P:ι->X->Prop)(D:Code->X->Prop)(x0:X)(h0:P i0 x0)
  (he:EntA B.n0 C (I x0)) (hz:¬B.dz) (hsl:∀x,(I x).sl=sl0)
  (hf:sval N sl0 f=some (.fn (.func g) [] [.bx kb 0]))
  (hkb:∀x,lkS (I x).hp kb=some (some (.cells T cv)))
  (hr:∀x,qbb n0 ks (I x).sl (I x).hp (I x).nx=true) (h0r:(ksIn n0 ks (I x0).hp&&Qm B.n0 n0)=true)
  (hb:∀i x v j,P i x->Y i=some (v,j)->RA E N n0 asg (λF ρ C1=>RB E N F ρ n0 body (rndQ n0 (P j) D I) C1) ⟨(p,v)::(I x).sl,(I x).hp,(I x).nx⟩)
  (hn:∀i x,Y i=none->P i x->Q .normal (I x)) (hd:∀c x,D c x->q3c Q c (I x)):Sm E none N B (.rangeFunc f #[p] asg body) Q C:=⟨λs hs=>by
 obtain⟨ts,S0,df⟩:=s
 obtain⟨ρ0,hF0,hR0⟩:=hs
 simp only at hF0 hR0
 obtain⟨σ,hrg,he⟩:=he.ent
 have hF1:=hF0.ren (C':=I x0) hrg
 obtain⟨t,hw,hR1⟩:=he.sat hR0
 clear hF0 hR0 he hrg
 generalize renR σ ρ0=ρ1 at hF1 hR1
 refine qwo hw ?_
 simp only[Qb]at h0r
 have hBn:=Qh h0r.2
 have hB:=hR1.len
 have hks:∀k∈ks,k<n0∧∃o,ze (ρ1 k)=some o∧o<S0.length:=λk hk=>by
  have:=Qe.1 h0r.1 k hk
  simp only[Qb]at this
  refine⟨ki this.1,?_⟩
  have h2:=this.2
  split at h2
  .rename_i T cs hl
   have hk2:hpF (I x0).hp k=some (.cells T cs):=by unfold hpF;rw[hl]
   obtain⟨o,v,h1,h3,rfl⟩:=hR1.hp.ok k _ hk2
   exact⟨o,by rw[h1];rfl,lt_of_getElem? h3⟩
  .rename_i P hl
   have hk2:hpF (I x0).hp k=some (.obj P):=by unfold hpF;rw[hl]
   obtain⟨o,x,h1,h3,_⟩:=hR1.hp.ok k _ hk2
   exact⟨o,h1,lt_of_getElem? h3⟩
  .simp at h2
 have hdn:∀d∈df,d<S0.length:=λd hd=>lt_of_getElem? (hF1.dm d hd).1
 have hi0:RInv B n0 S0.length ks ρ1 t df (I x0) S0:=⟨ρ1,λ_ _=>rfl,hR1,λd hd=>(hF1.dm d hd).1,Qn _⟩
 have hnm:∀x,(sl0.all λq=>q.2.all λk=>Qd k n0)=true:=λx=>by
  have:=hr x
  simp only[qbb,Qb,hsl]at this
  exact this.1.1
 have hnm:=hnm x0
 have slot:∀{ρ:Nat->AV},(∀k,k<n0->ρ k=ρ1 k)->SlOk ρ t sl0:=λ{ρ}hρ d v hd=>by
  rw[hR1.sl d v (by rw[hsl];exact hd)]
  exact(qao (λk hk=>hρ k (ki hk)) v (Qe.1 hnm _ (kj hd))).symm
 have hnx:∀x,n0<=(I x).nx:=λx=>by
  have:=hr x
  simp only[qbb,Qb]at this
  exact Qh this.2
 have hkb1:kb<n0∧∃o,ρ1 kb=.bx o 0 0∧o<S0.length:=by
  have h1:=hr x0
  simp only[qbb,Qb]at h1
  have:=Qe.1 h1.1.2 _ (kj (hkb x0))
  have hk2:hpF (I x0).hp kb=some (.cells T cv):=by unfold hpF;rw[hkb x0]
  obtain⟨o,v,h1,h3,rfl⟩:=hR1.hp.ok kb _ hk2
  exact⟨(hks kb (qot this)).1,o,h1,lt_of_getElem? h3⟩
 obtain⟨hkbn,okb,hokb,hokl⟩:=hkb1
 have hfe:=qr (S:=S0) (df:=df) (slot λ_ _=>rfl) hf
 simp only[SV.ev,SV.evs,hokb,bxAt]at hfe
 have out:∀{x S},RInv B n0 S0.length ks ρ1 t df (I x) S->S[S0.length]?=some .dfr->SatC B (I x) ⟨t,S,S0.length::df⟩:=λ{x S}hi hm=>by
  obtain⟨ρ,hρ,hR,hdd,hnS⟩:=hi.ex
  refine⟨ρ,⟨λd hd=>?_,List.nodup_cons.2 ⟨λh=>Nat.lt_irrefl _ (hdn _ h),hF1.nd⟩,λk hk=>(hρ k Om).trans (hF1.rig k hk),Ze hBn (hnx x),λh=>(hz h).elim⟩,hR⟩
  rcases Zz.1 hd with rfl|hd
  .exact⟨hm,hB⟩
  .exact⟨hdd d hd,(hF1.dm d hd).2⟩
 refine qwn (S0:=S0) hit rfl hfe hrun
  (λi S=>∃x,P i x∧RInv B n0 S0.length ks ρ1 t df (I x) S) (λc S=>∃x,D c x∧RInv B n0 S0.length ks ρ1 t df (I x) S) ⟨x0,h0,hi0⟩ ?_ ?_ ?_ ?_ ?_ ?_
 .rintro i S ⟨x,_,hi⟩
  obtain⟨ρ,hρ,hR,_⟩:=hi.ex
  have hk2:hpF (I x).hp kb=some (.cells T cv):=by unfold hpF;rw[hkb x]
  obtain⟨o,v,h1,h3,rfl⟩:=hR.hp.ok kb _ hk2
  rw[hρ kb hkbn,hokb]at h1
  simp only[AV.bx.injEq]at h1
  obtain⟨rfl,_⟩:=h1
  rw[hcv]at h3
  exact h3
 .rintro i S S' hE ⟨x,hx,hi⟩
  exact⟨x,hx,hi.ext hks (hr x) hB hdn hE⟩
 .rintro c S S' hE ⟨x,hx,hi⟩
  exact⟨x,hx,hi.ext hks (hr x) hB hdn hE⟩
 .rintro F own rd i u j S hF ⟨x,hx,hi⟩ hy hm0 hm1 hm2
  obtain⟨v,hv,hu⟩:∃v,Y i=some (v,j)∧u=v.ev λ_=>z0:=by
   unfold evY at hy
   split at hy
   .rename_i v j2 hv
    simp only[Qa,Zg]at hy
    obtain⟨rfl,rfl⟩:=hy
    exact⟨v,hv,rfl⟩
   .simp at hy
  subst hu
  have hva:=hY i v j hv
  obtain⟨ρ,hρ,hR,hdd,hnS⟩:=hi.ex
  -- what no resource's place is
  have qbr:∀o y,S[o]?=some y->S0.length<=o->(∀m sz T,y≠.tip m sz T)->¬qbv (I x).hp ρ o:=λo y hy ho hyt ⟨k,r,hk,hl⟩=>by
   rcases SR.ok_ct (hR.hp.ok k r hk) hl with⟨T,cs,v,h1,T',cs',rfl⟩|⟨m,sz,T,h1⟩|⟨sz,T,xs,rfl⟩|⟨P1,rfl⟩|⟨T2,ys2,cs2,rfl⟩
   rotate_left 2
   .exact(q7c (hr x) hk).elim
   .obtain⟨_,o',h2,h3⟩:=q60 hks (hr x) hρ hk
    rw[h2]at hl
    simp only[Qa]at hl
    omega
   .exact(q2e (hr x) hk).elim
   .obtain⟨_,o',h2,h3⟩:=qwr hks (hr x) hρ hk
    rw[h2]at hl
    simp only[Qa]at hl
    omega
   .rw[h1]at hy
    simp only[Qa]at hy
    exact hyt _ _ _ hy.symm
  have a0:=qbr _ _ hm0 Om (λ_ _ _=>by simp)
  have a1:=qbr _ _ hm1 Om (λ_ _ _=>by rw[hF];simp)
  have a2:=λk y hk=>qbr _ _ (hm2 k y hk).1 Om (λm sz T e=>(hm2 k y hk).2 m sz T (by rw[e]))
  have ad:∀d∈df,¬qbv (I x).hp ρ d:=λd hd ⟨k,r,hk,hl⟩=>SR.ok_dfr (hR.hp.ok k r hk) hl (hdd d hd)
  have l2:=lt_of_getElem? hm1
  have s1:=((hb i x v j hx hv).run S (qbv (I x).hp ρ) ρ1 rd).run ⟨put t p (v.ev λ_=>z0),S,[]⟩
   ⟨ρ,⟨nofun,Zs,hρ,hnx x,λ_=>rfl⟩,?_⟩
  rotate_left
  .have hb1:=hR.rebase (S':=S) λ_ _=>rfl
   refine⟨λd v hd=>?_,hb1.hp,hb1.own,hb1.low,hb1.len,λd v hd=>?_,hb1.whp⟩
   .simp only[lkS]at hd
    cases hbe:Qx p d with
    |true=>
     rw[hbe]at hd
     simp only[cond_true,Qa]at hd
     have e:=Qg hbe
     subst e hd
     simp only[put]
     rw[qao (f:=λ_=>false) (ρ:=λ_=>z0) (ρ':=ρ) (λk hk=>by simp at hk) v hva]
     simp
    |false=>
     rw[hbe]at hd
     have e:d≠p:=λe=>by subst e;simp at hbe
     have:=hb1.sl d v hd
     simp only[put]
     rw[show Qx d p=false from zz e]
     exact this
   .simp only[lkS]at hd
    cases hbe:Qx p d with
    |true=>
     rw[hbe]at hd
     simp only[cond_true,Qa]at hd
     subst hd
     exact all_mono (f:=λ_=>false) (λk hk=>by simp at hk) v hva
    |false=>
     rw[hbe]at hd
     exact hb1.wsl d _ hd
  refine s1.mono λe s1 ⟨C1,hq,hs1⟩=>?_
  cases e with
  |normal=>
   obtain⟨ρs,hFs,hRs⟩:=hs1
   have hdf1:=hFs.dz trivial
   have b1:s1.st[S0.length+1]?=some (F .ready none):=(hRs.low _ (by simp only;omega) a1).trans hm1
   refine⟨b1,hdf1,?_⟩
   have hq:=(hq (qbv C1.hp ρs)).run (s1.st.set (S0.length+1) (F .busy none)) (some rd)
   have c0:∀o,o<S.length->¬qbv (I x).hp ρ o->¬qbv C1.hp ρs o:=λo ho hn ⟨k,r,hk,hl⟩=>by
    rcases hRs.own k r hk o hl with h|h
    .simp only at h
     omega
    .exact hn h
   have hRb:=hRs.rebase (S':=s1.st.set (S0.length+1) (F .busy none)) λo ho=>Qt λe=>c0 (S0.length+1) Om a1 (by rw[e];exact ho)
   refine(hq.run ⟨s1.t,s1.st.set (S0.length+1) (F .busy none),[]⟩ ⟨ρs,⟨nofun,Zs,hFs.rig,hFs.le,nofun⟩,hRb⟩).mono λe s2 ⟨C2,hq2,hs2⟩=>?_
   obtain⟨ρ2,hF2,hR2⟩:=hs2
   have hl1:=hRs.len
   have keep:∀o y,o≠S0.length+1->S[o]?=some y->¬qbv (I x).hp ρ o->s2.st[o]?=some y:=λo y hne hy hn=>by
    have ho:=lt_of_getElem? hy
    rw[hR2.low o (by simp only[Qy];simp only at hl1;omega) (c0 o ho hn)]
    simp only
    rw[Qt (λe=>hne e.symm),hRs.low o ho hn]
    exact hy
   have k0:=keep _ _ Om hm0 a0
   have k2:∀k y,own[k]?=some y->s2.st[S0.length+2+k]?=some y:=λk y hk=>keep _ _ Om (hm2 k y hk).1 (a2 k y hk)
   have k1:s2.st[S0.length+1]?=some (F .busy none):=by
    rw[hR2.low _ (by simp only[Qy];simp only at hl1;omega) (c0 _ Om a1)]
    simp only
    exact kp b1
   have fin:∀x',EntA n0 C2 (I x')->RInv B n0 S0.length ks ρ1 t df (I x') s2.st:=λx' he'=>by
    obtain⟨σ2,hrg2,he2⟩:=he'.ent
    have hF3:=hF2.ren (C':=I x') hrg2
    obtain⟨t3,_,hR3⟩:=he2.sat hR2
    have hl3:=hR3.len
    simp only[Qy]at hl3
    simp only at hl1
    refine⟨_,hF3.rig,⟨by rw[hsl];exact slot hF3.rig,hR3.hp,λk r hk o ho=>?_,λj hj hnj=>?_,Om,hR3.wsl,hR3.whp⟩,λd hd=>?_,Om⟩
    .rcases hR3.own k r hk o ho with h|⟨k',r',h,h'⟩
     .simp only[Qy]at h
      exact .inl Om
     .rcases hRs.own k' r' h o h' with h|⟨k2,r2,h2,h3⟩
      .simp only at h
       exact .inl Om
      .exact hR.own k2 r2 h2 o h3
    .have hj0:¬qbv (I x).hp ρ j:=λ⟨k',r',h,h'⟩=>by
      rcases hR.own k' r' h j h' with h|h
      .omega
      .exact hnj h
     have hjS:j<S.length:=Om
     rw[<-hR.low j hj hnj]
     obtain⟨y,hy⟩:∃y,S[j]?=some y:=⟨_,Qf hjS⟩
     rw[hy]
     exact keep j y Om hy hj0
    .exact keep d _ (by have:=hdn d hd;omega) (hdd d hd) (ad d hd)
   cases e with
   |normal=>
    obtain⟨x',hx',he'⟩:=hq2
    exact⟨k0,k1,k2,x',hx',fin x' he'⟩
   |ret=>
    obtain⟨x',hx',he'⟩:=hq2
    exact⟨k0,k1,k2,x',hx',fin x' he'⟩
   |exit id=>
    obtain⟨x',hx',he'⟩:=hq2
    exact⟨k0,k1,k2,x',hx',fin x' he'⟩
   |_=>exact hq2.elim
  |_=>exact hq.elim
 .rintro i S hy ⟨x,hx,hi⟩ hm
  exact⟨I x,hn i x (by
   unfold evY at hy
   split at hy
   .simp at hy
   .assumption) hx,out hi hm⟩
 .rintro c S ⟨x,hx,hi⟩ hm
  have hq:=hd c x hx
  cases c with
  |ret=>exact zg ⟨I x,hq,out hi hm⟩
  |exit id=>exact kh ⟨I x,hq,out hi hm⟩
  |_=>exact hq.elim⟩
theorem qsv{X:Type}{f:Operand}{p:Tmp}{asg body:Code}(text:List UInt8)(kb n0:Nat)(ks:List Nat)(I:X->Conf)(sl0:List (Nat×SV))(P:Nat->List UInt8->X->Prop)(D:Code->X->Prop)(x0:X)(h0:P 0 text x0)
  (he:EntA B.n0 C (I x0)) (hz:¬B.dz) (ht:text.length<4294967281) (hsl:∀x,(I x).sl=sl0)
  (hf:sval N sl0 f=some (.fn (.func 120) [] [.bx kb 0]))
  (hkb:∀x,lkS (I x).hp kb=some (some (.cells 9 [.s text])))
  (hr:∀x,qbb n0 ks (I x).sl (I x).hp (I x).nx=true) (h0r:(ksIn n0 ks (I x0).hp&&Qm B.n0 n0)=true)
  (hb:∀k rest x,P k rest x->rest≠[]->rest.length<=text.length->RA E N n0 asg (λF ρ C1=>RB E N F ρ n0 body (rndQ n0 (P (k+1) (past 10 rest)) D I) C1) ⟨(p,qqz k text rest)::(I x).sl,(I x).hp,(I x).nx⟩)
  (hn:∀k x,P k [] x->Q .normal (I x)) (hd:∀c x,D c x->q3c Q c (I x)):Sm E none N B (.rangeFunc f #[p] asg body) Q C:=by
 have hY:evY (λ(q:Nat×List UInt8)=>if q.2=[]∨text.length<q.2.length then none else some (qqz q.1 text q.2,(q.1+1,past 10 q.2)))=ql9 text:=by
  funext ⟨k,rest⟩
  by_cases h:rest=[]∨text.length<rest.length
  .simp[evY,ql9,h]
  .simp[evY,ql9,h,q9t]
 refine qn4 (Y:=λ(q:Nat×List UInt8)=>if q.2=[]∨text.length<q.2.length then none else some (qqz q.1 text q.2,(q.1+1,past 10 q.2))) (i0:=(0,text)) (by rw[hY];exact za0 text ht) Tryz.call120 (λi v j h=>?_) kb n0 [.s text] (λ_=>rfl) ks I sl0 (λi x=>P i.1 i.2 x∧i.2.length<=text.length) D x0 ⟨h0,Qn _⟩ he hz hsl hf hkb hr h0r (λi x v j hp h=>?_) (λi x h hp=>?_) hd
 .split at h
  .simp at h
  .simp only[Qa,Zg]at h
   obtain⟨rfl,_⟩:=h
   rfl
 .split at h
  .simp at h
  .rename_i hne
   simp only[Qa,Zg]at h
   obtain⟨rfl,rfl⟩:=h
   have hb:=hb i.1 i.2 x hp.1 (λe=>hne (.inl e)) hp.2
   have hp2:=ym 10 i.2
   exact⟨λS F ρ rd=>⟨λs hs=>((hb.run S F ρ rd).run s hs).mono λe s' ⟨C',hq,hs'⟩=>⟨C',by
    cases e with
    |normal=>exactλF'=>⟨λS rd=>qy1 ((hq F').run S rd) λe C2 hq2=>by
      cases e with
      |normal=>obtain⟨x,h1,h2⟩:=hq2;exact⟨x,⟨h1,by simp only;have:=hp.2;omega⟩,h2⟩
      |_=>exact hq2⟩
    |_=>exact hq,hs'⟩⟩⟩
 .split at h
  .rename_i he
   have:i.2=[]:=he.elim id λh=>by have:=hp.2;omega
   refine hn i.1 x ?_
   rw[<-this]
   exact hp.1
  .simp at h
end
theorem q4t{nx:Nat}{H:Nat->Option SR}(text:qd):j9 E 82 [.s text] nx H ⟨.fn (.func 120) [] [.bx nx 0],[],[(nx,some (.cells 9 [.s text]))],nx+1⟩:=λρ S hS=>by
 refine(zea text S _ S.length rfl rfl).mono λr S' ⟨hr,hs⟩=>⟨upd ρ nx (.bx S.length 0 0),?_,?_⟩
 .rw[hr]
  simp only[SV.ev,SV.evs,jc,bxAt]
 .subst hs
  have key:∀k r',chF [(nx,some (SR.cells 9 [.s text]))] (resF [] H) k=some r'->k=nx∧r'=.cells 9 [.s text]:=λk r' hk=>by
   simp only[chF,lkS]at hk
   cases hb:Qx nx k with
   |true=>
    rw[hb]at hk
    simp only[cond_true,Qa]at hk
    exact⟨(Qg hb).symm,hk.symm⟩
   |false=>
    rw[hb]at hk
    simp[resF,memN]at hk
  refine⟨λk hk=>we _ _ (by simp only at hk;omega),⟨λk r hk=>?_,λk k' r r' hne h1 h2=>?_⟩,Sx,λj hj _=>Qv hj,λk r hk o ho=>?_⟩
  .obtain⟨rfl,rfl⟩:=key _ _ hk
   exact⟨S.length,0,jc _ _ _,by simp[SV.evs,SV.ev],rfl⟩
  .obtain⟨rfl,_⟩:=key _ _ h1
   obtain⟨rfl,_⟩:=key _ _ h2
   exact absurd rfl hne
  .obtain⟨rfl,_⟩:=key _ _ hk
   rw[jc]at ho
   simp only[ze,Qa]at ho
   subst ho
   exact .inl (Qn _)
end Go.Proofs.YtapblfabkbdgcaaGreatDoor
namespace Go.Av
open Go Go.RowKit
def ku(hp:List (Nat×Option SR)):List (Nat×Option SR):=hp.map λq=>(q.1,none)
def retS(P:Program)(fn:Func)(nx0:Nat)(r:SV)(hp1:List (Nat×Option SR))(nx1:Nat)(e:Exit)(C:Conf):Prop:=
 match e with
 |.normal=>(match resV P fn.ntmps C fn.results.toList with
  |some v=>v.all (λk=>Qd k C.nx)=true∧EntA nx0 ⟨[(0,v)],C.hp,C.nx⟩ ⟨[(0,r)],hp1,nx1⟩
  |none=>False)
 |.ret=>(match resV P fn.ntmps C fn.results.toList with
  |some v=>v.all (λk=>Qd k C.nx)=true∧EntA nx0 ⟨[(0,v)],C.hp,C.nx⟩ ⟨[(0,r)],hp1,nx1⟩
  |none=>False)
 |_=>False
theorem q31{hp:List (Nat×Option SR)}{k:Nat}{r:SR}(h:hpF hp k=some r):memN (jt hp) k=true:=by
 have:=kj (wo h)
 exact Qz.2 ⟨k,Zu.2 ⟨_,this,rfl⟩,Sx⟩
theorem vq(hp:List (Nat×Option SR)):resF (jt hp) (hpF hp)=hpF hp:=by
 funext k
 unfold resF
 cases h:memN (jt hp) k with
 |true=>rfl
 |false=>
  cases h2:hpF hp k with
  |none=>rfl
  |some r=>rw[q31 h2]at h;simp at h
theorem qt5:∀(hp:List (Nat×Option SR))(k:Nat),lkS (ku hp) k=none∧lkS hp k=none∨lkS (ku hp) k=some none
 | [],_=>.inl ⟨rfl,rfl⟩
 |(i,x)::r,k=>by
  simp only[ku,Zb,lkS]
  cases hb:Qx i k with
  |true=>exact .inr rfl
  |false=>exact qt5 r k
theorem qdn(hp0 hp1:List (Nat×Option SR)):chF (hp1++ku hp0) (hpF hp0)=hpF hp1:=by
 funext k
 unfold chF
 rw[qb8]
 unfold hpF
 cases h:lkS hp1 k with
 |some r=>rfl
 |none=>
  simp only
  rcases qt5 hp0 k with⟨h1,h2⟩|h1
  .rw[h1,h2]
  .rw[h1]
theorem v8{E:Env}{f:FuncId}{fn:Func}{c:Code}(vs:List SV)(hp0:List (Nat×Option SR))(nx0:Nat)(r:SV)(hp1:List (Nat×Option SR))(nx1:Nat)(hf:E.P.funcs[f]?=some fn)(hb:fn.body=some c)(hn:Qm vs.length fn.ntmps=true)
  (hc:okC ⟨jb 0 vs,hp0,nx0⟩=true) (hc1:okC ⟨[(0,r)],hp1,nx1⟩=true)
  (h:∀S F ρ,numK 0 vs λsl=>Sm E none fn.ntmps ⟨S,F,ρ,nx0,False⟩ c (retS E.P fn nx0 r hp1 nx1) ⟨sl,hp0,nx0⟩):j9 E f vs nx0 (hpF hp0) ⟨r,jt hp0,hp1++ku hp0,nx1⟩:=λρ S hS=>by
 simp only[qmr]at h
 simp only[vq]at hS
 have hlen:(SV.evs ρ vs).length=vs.length:=by rw[jo,Xf]
 refine qy hf hb (by rw[hlen];exact Qh hn) ?_
 rw[Zi]
 simp only[okC,Qb]at hc hc1
 have hwhp:∀k r,hpF hp0 k=some r->k<nx0∧r.all (λk=>Qd k nx0)=true:=λk r hk=>by
  have:=Qe.1 hc.2 _ (kj (wo hk))
  simp only[Qb]at this
  exact⟨ki this.1,this.2⟩
 have hst:SatC ⟨S,qbv hp0 ρ,ρ,nx0,False⟩ ⟨jb 0 vs,hp0,nx0⟩ ⟨argT (SV.evs ρ vs),S,[]⟩:=by
  refine⟨ρ,⟨nofun,Zs,λ_ _=>rfl,Qn _,nofun⟩,⟨λd v hd=>?_,hS,λk r hk o ho=>.inr ⟨k,r,hk,ho⟩,λ_ _ _=>rfl,Qn _,λd v hd=>?_,hwhp⟩⟩
  .obtain⟨j,h1,h2⟩:=qb9 hd
   have:(SV.evs ρ vs)[j]?=some (v.ev ρ):=by rw[jo,Ql,h2];rfl
   rw[h1,Qi]
   simp only[argT,Zj,this,Zn]
  .exact Qe.1 hc.1 _ (kj hd)
 refine((h S (qbv hp0 ρ) ρ).run _ hst).mono λe s' ⟨C',hq,hs'⟩=>?_
 obtain⟨t,S',df⟩:=s'
 obtain⟨ρ2,hdf,hR⟩:=hs'
 simp only at hdf hR
 have fin:(match resV E.P fn.ntmps C' fn.results.toList with
  |some v=>v.all (λk=>Qd k C'.nx)=true∧EntA nx0 ⟨[(0,v)],C'.hp,C'.nx⟩ ⟨[(0,r)],hp1,nx1⟩
  |none=>False)->ARet E fn (λr' S'=>∃ρ',r'=r.ev ρ'∧qfv ρ S nx0 (hpF hp0) ⟨r,jt hp0,hp1++ku hp0,nx1⟩ ρ' S') ⟨t,S',df⟩:=λh=>by
  split at h
  .rename_i v hv
   obtain⟨hva,he⟩:=h
   obtain⟨σ,hrg,he⟩:=he.ent
   refine qfy hR hdf.dm hdf.nd λS2 hR2=>?_
   have hR3:SatR S (qbv hp0 ρ) ⟨[(0,v)],C'.hp,C'.nx⟩ ρ2 (λ_=>v.ev ρ2) S2:=
    ⟨λd u hd=>by
     simp only[lkS]at hd
     cases hb:Qx 0 d with
     |true=>rw[hb]at hd;simp only[cond_true,Qa]at hd;rw[hd]
     |false=>rw[hb]at hd;simp[lkS]at hd,hR2.hp,hR2.own,hR2.low,hR2.len,λd u hd=>by
     simp only[lkS]at hd
     cases hb:Qx 0 d with
     |true=>rw[hb]at hd;simp only[cond_true,Qa]at hd;rw[<-hd];exact hva
     |false=>rw[hb]at hd;simp[lkS]at hd,hR2.whp⟩
   obtain⟨t',hw,hR4⟩:=he.sat hR3
   have hrig:∀k,k<nx0->renR σ ρ2 k=ρ k:=λk hk=>by
    simp only[Qb]at hrg
    unfold renR
    rw[qo3 hrg.1 k hk]
    exact hdf.rig k hk
   have hrn:nx0<=nx1:=by
    simp only[Qb]at hrg
    exact Qh hrg.2
   generalize renR σ ρ2=ρ3 at hR4 hrig
   have h0:t' 0=r.ev ρ3:=hR4.sl 0 r rfl
   have hwk:=hw 0
   rw[h0]at hwk
   let ρ':Nat->AV:=λk=>bif Qm nx1 k then ρ k else ρ3 k
   have hρ':∀k,Qd k nx1=true->ρ' k=ρ3 k:=λk hk=>by
    show(bif Qm nx1 k then ρ k else ρ3 k)=_
    have:Qm nx1 k=false:=by
     cases hb:Qm nx1 k with
     |false=>rfl
     |true=>have:=Qh hb;have:=ki hk;omega
    rw[this]
    rfl
   have hra:r.all (λk=>Qd k nx1)=true:=Qe.1 hc1.1 (0,r) Sx
   have hev:r.ev ρ'=r.ev ρ3:=qao hρ' r hra
   refine qs rfl (qab (q2c hR2 hv) hwk) ⟨ρ',hev.symm,?_⟩
   have hwh:∀k r,hpF hp1 k=some r->ρ' k=ρ3 k∧r.all (λk=>Qd k nx1)=true:=λk r hk=>by
    obtain⟨g1,g2⟩:=hR4.whp k r hk
    exact⟨hρ' k (qac g1),g2⟩
   refine⟨λk hk=>?_,?_,hR4.len,λj hj hn=>?_,λk r hk o ho=>?_⟩
   .show(bif Qm nx1 k then ρ k else ρ3 k)=_
    cases hb:Qm nx1 k with
    |true=>rfl
    |false=>
     rcases hk with hk|hk
     .exact hrig k hk
     .have:=Zf hk
      simp only at this
      rw[this]at hb
      simp at hb
   .simp only[vq,qdn]
    refine⟨λk r hk=>?_,λk k' r r' hne h1 h2 o ho=>?_⟩
    .obtain⟨g1,g2⟩:=hwh k r hk
     rw[g1]
     exact SR.ok_of g2 hρ' (hR4.hp.ok k r hk) λ_ _=>rfl
    .rw[(hwh k r h1).1]at ho
     rw[(hwh k' r' h2).1]
     exact hR4.hp.sep k k' r r' hne h1 h2 o ho
   .simp only[vq]at hn
    exact hR4.low j hj λ⟨k,r,hk,hl⟩=>hn k r hk hl
   .simp only[vq,qdn]at hk⊢
    rw[(hwh k r hk).1]at ho
    exact hR4.own k r hk o ho
  .exact h.elim
 cases e with
 |normal=>exact fin hq
 |ret=>exact fin hq
 |_=>exact hq.elim
def newN:Nat->Nat->Nat->List (Nat×Nat)
 |_,_,0=>[]
 |a,b,m+1=>(a,b)::newN (a+1) (b+1) m
theorem qxv:∀(m a b k:Nat),lkS (newN a b m) k=if a<=k∧k<a+m then some (b+(k-a))else none
 |0,a,b,k=>by rw[if_neg Om];rfl
 |m+1,a,b,k=>by
  simp only[newN,lkS]
  by_cases h:a=k
  .subst h
   simp
  .rw[zz h,qxv m]
   simp only[cond_false]
   by_cases h2:a+1<=k∧k<a+1+m
   .rw[if_pos h2,if_pos Om]
    congr 1
    omega
   .rw[if_neg h2,if_neg Om]
def nmOf(σ:List (Nat×Nat))(k:Nat):Nat:=match lkS σ k with
 |some j=>j
 |none=>0
def SR.ren(σ:List (Nat×Nat)):SR->SR
 |.cells T cs=>.cells T (SV.rens σ cs)
 |.tip sz T xs=>.tip sz T xs
 |.own sz T xs=>.own sz T xs
 |.obj P=>.obj P
 |.rows T ys cs=>.rows T ys (SV.rens σ cs)
def renO(σ:List (Nat×Nat)):Option SR->Option SR
 |some r=>some (r.ren σ)
 |none=>none
def renH(σ:List (Nat×Nat)):List (Nat×Option SR)->List (Nat×Option SR)
 | []=>[]
 |(k,r)::l=>(nmOf σ k,renO σ r)::renH σ l
def fltH(ks:List Nat):List (Nat×Option SR)->List (Nat×Option SR)
 | []=>[]
 |(k,r)::l=>bif memN ks k then(k,r)::fltH ks l else fltH ks l
def outH(ks:List Nat):List (Nat×Option SR):=ks.map λk=>(k,none)
def qp8:List Nat->Bool
 | []=>true
 |k::r=> !memN r k&&qp8 r
theorem q1v(ks:List Nat):∀(hp:List (Nat×Option SR))(k:Nat),lkS (fltH ks hp) k=bif memN ks k then lkS hp k else none
 | [],k=>by simp only[fltH,lkS];cases memN ks k<;>rfl
 |(i,r)::l,k=>by
  have ih:=q1v ks l k
  simp only[fltH]
  by_cases e:i=k
  .subst e
   cases hm:memN ks i with
   |true=>simp[lkS]
   |false=>rw[hm]at ih;simp only[cond_false]at ih⊢;exact ih
  .cases hm:memN ks i with
   |true=>simp only[cond_true,lkS,zz e,cond_false];exact ih
   |false=>simp only[cond_false,lkS,zz e];exact ih
theorem q1s(ks:List Nat)(hp:List (Nat×Option SR)):hpF (fltH ks hp)=resF ks (hpF hp):=by
 funext k
 unfold hpF resF
 rw[q1v]
 cases memN ks k<;>rfl
theorem q1x{σ:List (Nat×Nat)}:∀{hp:List (Nat×Option SR)}{j:Nat}{rr:SR},lkS (renH σ hp) j=some (some rr)->∃k r,(k,some r)∈hp∧nmOf σ k=j∧rr=r.ren σ
 | [],j,rr,h=>by simp[renH,lkS]at h
 |(k,r)::l,j,rr,h=>by
  simp only[renH,lkS]at h
  cases hb:Qx (nmOf σ k) j with
  |true=>
   rw[hb]at h
   simp only[cond_true,Qa]at h
   cases r with
   |none=>simp[renO]at h
   |some r=>
    simp only[renO,Qa]at h
    exact⟨k,r,Sx,Qg hb,h.symm⟩
  |false=>
   rw[hb]at h
   obtain⟨k',r',h1,h2,h3⟩:=q1x h
   exact⟨k',r',List.mem_cons_of_mem _ h1,h2,h3⟩
theorem qtk:∀{hp:List (Nat×Option SR)}{k:Nat}{r:SR},qp8 (jt hp)=true->(k,some r)∈hp->hpF hp k=some r
 | [],k,r,_,h=>by simp at h
 |(i,x)::l,k,r,hd,h=>by
  simp only[jt,Zb,qp8,Qb]at hd
  unfold hpF
  simp only[lkS]
  rcases Zz.1 h with e|e
  .simp only[Zg]at e
   obtain⟨rfl,rfl⟩:=e
   simp
  .have hne:i≠k:=λe'=>by
    subst e'
    have:memN (List.map Xr l) i=true:=Qz.2 ⟨i,Zu.2 ⟨_,e,rfl⟩,Sx⟩
    rw[this]at hd
    simp at hd
   rw[zz hne]
   exact qtk hd.2 e
theorem q1w:∀(ks:List Nat)(j:Nat),lkS (outH ks) j=bif memN ks j then some none else none
 | [],j=>rfl
 |k::r,j=>by
  have ih:=q1w r j
  simp only[outH,Zb,lkS,memN,Xa]
  by_cases e:k=j
  .subst e;simp
  .rw[zz e,zz (λh=>e h.symm)]
   exact ih
theorem qx0{α:Type}:∀{l:List α}{i0 i:Nat}{v:α},l[i]?=some v->lkS (jb i0 l) (i0+i)=some v
 | [],_,_,_,h=>by simp at h
 |x::r,i0,0,v,h=>by
  simp only[Qu,Qa]at h
  subst h
  simp[jb,lkS]
 |x::r,i0,i+1,v,h=>by
  simp only[jb,lkS]
  rw[zz Om,show i0+(i+1)=i0+1+i by omega]
  exact qx0 (by simpa using h)
theorem zey{E:Env}{f:FuncId}{vs0:List SV}{hp0:List (Nat×Option SR)}{nx0:Nat}{r:SV}{hp1:List (Nat×Option SR)}{nx1:Nat}(h:j9 E f vs0 nx0 (hpF hp0) ⟨r,jt hp0,hp1++ku hp0,nx1⟩)
  (σ:List (Nat×Nat)) {hpU:List (Nat×Option SR)} {vs:List SV} {nx:Nat} (hl:vs.length=vs0.length) (hc:okC ⟨jb 0 vs,fltH (σ.map Zk) hpU,nx⟩=true)
  (he:EntC σ ⟨jb 0 vs,fltH (σ.map Zk) hpU,nx⟩ ⟨jb 0 vs0,hp0,nx0⟩) (hc1:okC ⟨[(0,r)],hp1,nx1⟩=true)
  (hk:(qp8 (jt hp1)&&hp1.all (λq=>(lkS (newN nx0 nx (nx1-nx0)++σ) q.1).isSome)&&σ.all (λq=>Qd q.1 nx0&&Qd q.2 nx)&&Qm nx0 nx1)=true):
  j9 E f vs nx (hpF hpU) ⟨r.ren (newN nx0 nx (nx1-nx0)++σ),σ.map Zk,renH (newN nx0 nx (nx1-nx0)++σ) hp1++outH (σ.map Zk),nx+(nx1-nx0)⟩:=λρ S hS=>by
 simp only at hS
 simp only[Qb]at hk
 obtain⟨⟨⟨hd,hsm⟩,hσ⟩,hn⟩:=hk
 have hn:=Qh hn
 simp only[okC,Qb]at hc hc1
 generalize hks:σ.map Zk=ks at hS hc he⊢
 obtain⟨m,hm⟩:∃m,m=nx1-nx0:=⟨_,rfl⟩
 rw[<-hm]at hsm⊢
 have hR:SatR S (qbv (fltH ks hpU) ρ) ⟨jb 0 vs,fltH ks hpU,nx⟩ ρ (argT (SV.evs ρ vs)) S:=by
  refine⟨λd v hd=>?_,by simp only[q1s];exact hS,λk r hk o ho=>.inr ⟨k,r,hk,ho⟩,λ_ _ _=>rfl,Qn _,λd v hd=>Qe.1 hc.1 _ (kj hd),λk r hk=>?_⟩
  .obtain⟨j,h1,h2⟩:=qb9 hd
   have:(SV.evs ρ vs)[j]?=some (v.ev ρ):=by rw[jo,Ql,h2];rfl
   rw[h1,Qi]
   simp only[argT,Zj,this,Zn]
  .have:=Qe.1 hc.2 _ (kj (wo hk))
   simp only[Qb]at this
   exact⟨ki this.1,this.2⟩
 obtain⟨t',hw,hR'⟩:=he.sat hR
 have hrc:∀k j,lkS σ k=some j->renR σ ρ k=ρ j:=λk j e=>by unfold renR;rw[e]
 have hrn:∀k,lkS σ k=none->renR σ ρ k=z0:=λk e=>by unfold renR;rw[e]
 -- where a canonical resource lies
 have foot:∀k r,hpF hp0 k=some r->∀o,ze (renR σ ρ k)=some o->∃j r',resF ks (hpF hpU) j=some r'∧ze (ρ j)=some o:=λk r hk o ho=>by
  have hE:=qem he.2.1 (wo hk)
  simp only[q1s]at hE
  unfold entR at hE
  cases hl:lkS σ k with
  |none=>
   rw[hrn k hl]at ho
   simp[ze]at ho
  |some j=>
   rw[hrc k j hl]at ho
   rw[hl]at hE
   cases hj:resF ks (hpF hpU) j with
   |none=>cases r<;>(simp only[hj]at hE)
   |some r'=>exact⟨j,r',hj,ho⟩
 have hS0:SatF S (renR σ ρ) (hpF hp0):=hR'.hp
 refine qvz (ys:=SV.evs (renR σ ρ) vs0) (by simp[jo,hl]) (λi x y hx hy=>?_) ((h (renR σ ρ) S (by simp only[vq];exact hS0)).mono λr' S' ⟨ρc,hr,hp⟩=>?_)
 .have h1:=hw i
  simp only[jo,Ql]at hy hx
  cases hv:vs0[i]?with
  |none=>rw[hv]at hy;simp at hy
  |some v=>
   rw[hv]at hy
   simp only[Xg,Qa]at hy
   have h2:=hR'.sl i v (by have:=qx0 (i0:=0) hv;rwa [Qi]at this)
   rw[h2,hy]at h1
   have:argT (SV.evs ρ vs) i=x:=by simp only[argT,Zj,jo,Ql,hx,Zn]
   rw[this]at h1
   exact h1
 .let ρ':Nat->AV:=λj=>bif Qm nx j&&Qd j (nx+m)then ρc (nx0+(j-nx))else ρ j
  have hold:∀j,(j<nx∨nx+m<=j)->ρ' j=ρ j:=λj hj=>by
   show(bif Qm nx j&&Qd j (nx+m)then ρc (nx0+(j-nx))else ρ j)=ρ j
   have:(Qm nx j&&Qd j (nx+m))=false:=by
    cases hb:(Qm nx j&&Qd j (nx+m))with
    |false=>rfl
    |true=>
     simp only[Qb]at hb
     have h1:=Qh hb.1
     have h2:=ki hb.2
     omega
   rw[this]
   rfl
  have hnew:∀i,i<m->ρ' (nx+i)=ρc (nx0+i):=λi hi=>by
   show(bif Qm nx (nx+i)&&Qd (nx+i) (nx+m)then ρc (nx0+(nx+i-nx))else ρ (nx+i))=_
   have h1:Qm nx (nx+i)=true:=Zf Om
   have h2:Qd (nx+i) (nx+m)=true:=qac Om
   rw[h1,h2,show nx+i-nx=i by omega]
   rfl
  have hσj:∀k j,lkS σ k=some j->k<nx0∧j<nx:=λk j e=>by
   have:=Qe.1 hσ _ (kj e)
   simp only[Qb]at this
   exact⟨ki this.1,ki this.2⟩
  have hro:∀k,k<nx0->ρc k=renR σ ρ k:=λk hk=>hp.old k (.inl hk)
  have key:∀k,k<nx1->renR (newN nx0 nx m++σ) ρ' k=ρc k:=λk hk=>by
   have e:renR (newN nx0 nx m++σ) ρ' k=match lkS (newN nx0 nx m++σ) k with|some j=>ρ' j|none=>z0:=rfl
   rw[e,qb8,qxv]
   by_cases hkn:nx0<=k
   .rw[if_pos ⟨hkn,Om⟩]
    simp only
    rw[hnew _ Om,show nx0+(k-nx0)=k by omega]
   .rw[if_neg Om,hro k Om]
    simp only
    cases hl:lkS σ k with
    |none=>rw[hrn k hl]
    |some j=>
     rw[hrc k j hl]
     exact hold j (.inl (hσj k j hl).2)
  have keyj:∀k,k<nx1->(lkS (newN nx0 nx m++σ) k).isSome=true->ρ' (nmOf (newN nx0 nx m++σ) k)=ρc k:=λk hk hs=>by
   rw[<-key k hk]
   unfold renR nmOf
   cases hl:lkS (newN nx0 nx m++σ) k with
   |none=>rw[hl]at hs;simp at hs
   |some j=>rfl
  have res:∀j rr,chF (renH (newN nx0 nx m++σ) hp1++outH ks) (resF ks (hpF hpU)) j=some rr->∃k r,hpF hp1 k=some r∧nmOf (newN nx0 nx m++σ) k=j∧rr=r.ren (newN nx0 nx m++σ)∧ρ' j=ρc k∧r.all (λk=>Qd k nx1)=true:=λj rr hj=>by
   unfold chF at hj
   rw[qb8]at hj
   cases hl:lkS (renH (newN nx0 nx m++σ) hp1) j with
   |some x=>
    rw[hl]at hj
    simp only at hj
    subst hj
    obtain⟨k,r,h1,h2,h3⟩:=q1x hl
    have h4:=Qe.1 hc1.2 _ h1
    simp only[Qb]at h4
    have h5:=Qe.1 hsm _ h1
    refine⟨k,r,qtk hd h1,h2,h3,?_,h4.2⟩
    rw[<-h2]
    exact keyj k (ki h4.1) h5
   |none=>
    rw[hl]at hj
    simp only[q1w]at hj
    cases hmm:memN ks j with
    |true=>rw[hmm]at hj;simp at hj
    |false=>
     rw[hmm]at hj
     simp[resF,hmm]at hj
  have hra:r.all (λk=>Qd k nx1)=true:=Qe.1 hc1.1 (0,r) Sx
  refine⟨ρ',?_,λk hk=>hold k hk,⟨λj rr hj=>?_,λj j' rr rr' hne h1 h2 o ho=>?_⟩,hp.len,λj hj hnj=>?_,λj rr hj o ho=>?_⟩
  .rw[hr]
   simp only
   rw[qrl]
   exact(qao (λk hk=>key k (ki hk)) r hra).symm
  .obtain⟨k,r0,h1,h2,rfl,h4,h5⟩:=res j rr hj
   rw[h4]
   have hsat:=hp.sat
   simp only[vq,qdn]at hsat
   have hok:=hsat.ok k r0 h1
   cases r0 with
   |cells T cs=>
    obtain⟨o,v,g1,g2,g3⟩:=hok
    refine⟨o,v,g1,?_,g3⟩
    rw[qct,x9 (λk hk=>key k (ki hk)) cs h5]
    exact g2
   |tip sz T xs=>exact hok
   |own sz T xs=>exact hok
   |obj P=>exact hok
   |rows T ys cs=>
    show OwnS _ 1 T (ys++SV.evs _ (SV.rens _ cs)) _
    rw[qct,x9 (λk hk=>key k (ki hk)) cs h5]
    exact hok
  .obtain⟨k,r0,h3,h4,_,h5,_⟩:=res j rr h1
   obtain⟨k',r0',h3',h4',_,h5',_⟩:=res j' rr' h2
   rw[h5]at ho
   rw[h5']
   have hsat:=hp.sat
   simp only[vq,qdn]at hsat
   exact hsat.sep k k' r0 r0' (λe=>hne (by rw[<-h4,<-h4',e])) h3 h3' o ho
  .refine hp.fr j hj λk r0 hk hlo=>?_
   simp only[vq]at hk
   obtain⟨j',r',g1,g2⟩:=foot k r0 hk j hlo
   exact hnj j' r' g1 g2
  .obtain⟨k,r0,h1,h2,_,h4,_⟩:=res j rr hj
   rw[h4]at ho
   have hlc:=hp.loc k r0 (by simp only[vq,qdn];exact h1) o ho
   rcases hlc with g|⟨k',r',g1,g2⟩
   .exact .inl g
   .simp only[vq]at g1
    obtain⟨j',r'',g3,g4⟩:=foot k' r' g1 o g2
    exact .inr ⟨j',r'',g3,g4⟩
def useW(vs0:List SV)(hp0:List (Nat×Option SR))(nx0:Nat)(r:SV)(hp1:List (Nat×Option SR))(nx1:Nat)(hpU:List (Nat×Option SR))(vs:List SV)(nx:Nat)(k:Ef->Prop):Prop:=
 fcP (addS [] (prsL vs0 vs)) λa=>fcP (addS a (sigH (hpF hpU) a hp0)) λσ=>
  vs.length=vs0.length∧okC ⟨jb 0 vs,fltH (σ.map Zk) hpU,nx⟩=true∧EntC σ ⟨jb 0 vs,fltH (σ.map Zk) hpU,nx⟩ ⟨jb 0 vs0,hp0,nx0⟩∧okC ⟨[(0,r)],hp1,nx1⟩=true∧
   (qp8 (jt hp1)&&hp1.all (λq=>(lkS (newN nx0 nx (nx1-nx0)++σ) q.1).isSome)&&σ.all (λq=>Qd q.1 nx0&&Qd q.2 nx)&&Qm nx0 nx1)=true∧
   k ⟨r.ren (newN nx0 nx (nx1-nx0)++σ),σ.map Zk,renH (newN nx0 nx (nx1-nx0)++σ) hp1++outH (σ.map Zk),nx+(nx1-nx0)⟩
theorem jf{E:Env}{f:FuncId}{vs0:List SV}{hp0:List (Nat×Option SR)}{nx0:Nat}{r:SV}{hp1:List (Nat×Option SR)}{nx1:Nat}(h:j9 E f vs0 nx0 (hpF hp0) ⟨r,jt hp0,hp1++ku hp0,nx1⟩){hpU:List (Nat×Option SR)}{vs:List SV}{nx:Nat}{k:Ef->Prop}
  (hw:useW vs0 hp0 nx0 r hp1 nx1 hpU vs nx k):∃e,j9 E f vs nx (hpF hpU) e∧k e:=by
 unfold useW at hw
 simp only[qw7]at hw
 obtain⟨h1,h2,h3,h4,h5,h6⟩:=hw
 exact⟨_,zey h _ h1 h2 h3 h4 h5,h6⟩
theorem zbr{l m:List AV}(hl:l.length=m.length)(h:∀(i:Nat)(x y:AV),l[i]?=some x->m[i]?=some y->Wk x y):Wk (.pp l) (.pp m):=λG v hr=>by
 cases hr with
 |pp _ b off pub hp hlen hr=>
  refine .pp m b off pub hp Om λi y z hy hz=>?_
  have hi:i<l.length:=by have:=lt_of_getElem? hy;omega
  have hx:l[i]?=some l[i]:=Qf hi
  exact h i _ y hx hy G z (hr i _ z hx hz)
theorem qwm{E:Env}{fn:Func}{R:AV->List AObj->Prop}{s:AS}{d o ver:Nat}{T:TypeId}{cs xs:List AV}(hi:s.t d=.bx o ver 0)(ho:s.st[o]?=some (.cells ver T cs))(hw:Wk (.pp cs) (.pp xs))
  (h:ARet E fn R ⟨Av.put s.t d (.pp xs),s.st.set o .dead,s.df⟩):ARet E fn R s:=
 ⟨λB0 w0 G a w hL hI R2 hR=>by
  obtain⟨G1,h1,h2⟩:=hI.pub hi ho
  refine h.run B0 w0 G1 a w hL ⟨h2.agree,h2.defers,h2.size,λj y hy=>?_⟩ R2 λv G' r st' w' hG=>hR v G' r st' w' (h1.trans hG)
  have hj:=h2.tmps j y hy
  by_cases e:j=d
  .subst e
   simp only[wp]at hj⊢
   exact hw G1 y hj
  .simp only at hj⊢
   rw[yh _ _ _ _ e]at hj⊢
   exact hj⟩
theorem q5m{E:Env}{fn:Func}{R:AV->List AObj->Prop}{s:AS}{d o ver o2 ver2 sz cap:Nat}{T T2:TypeId}{cs xs ys pad:List AV}(hi:s.t d=.bx o ver 0)(ho:s.st[o]?=some (.cells ver T cs))(ho2:s.st[o2]?=some (.cells ver2 T2 (flat ys++pad)))(hne:o≠o2)(hw:∀y∈ys,y.cells.length=sz)(hc:ys.length<=cap)(hl:cs.length=xs.length)
  (hx:∀(i:Nat)(x y:AV),cs[i]?=some x->xs[i]?=some y->Wk x y∨(x=.os o2 ver2 0 ys.length cap∧y=.sl sz ys none)) (h:ARet E fn R ⟨Av.put s.t d (.pp xs),(s.st.set o .dead).set o2 .dead,s.df⟩):ARet E fn R s:=
 ⟨λB0 w0 G a w hL hI R2 hR=>by
  obtain⟨G1,h1,h2⟩:=hI.pub hi ho
  have ho3:(s.st.set o .dead)[o2]?=some (.cells ver2 T2 (flat ys++pad)):=(Qt hne).trans ho2
  obtain⟨vs,hle,hA,hv,hp,hl2,hr⟩:=h2.agree.pubOb ho3
  refine h.run B0 w0 _ a w hL ⟨hA,h2.defers_mono hle,h2.size,λj y hy=>?_⟩ R2 λv G' r st' w' hG=>hR v G' r st' w' (h1.trans (hle.trans hG))
  have hj:=(h2.tmps j y hy).mono hle
  by_cases e:j=d
  .subst e
   simp only[wp]at hj⊢
   cases hj with
   |pp _ b off pub hp2 hlen hrel=>
    refine .pp xs b off pub hp2 Om λi z u hz hu=>?_
    have hi:i<cs.length:=by have:=lt_of_getElem? hz;omega
    have hg:cs[i]?=some cs[i]:=Qf hi
    have hrl:=hrel i _ u hg hu
    rcases hx i _ z hg hz with hw1|⟨e1,rfl⟩
    .exact hw1 _ _ hrl
    .rw[e1]at hrl
     cases hrl with
     |os _ _ _ _ bl _ hn hv' hb=>
      have hb:=hb hv
      subst hb
      refine .sl sz ys none _ 0 cap vs hp hw (by rw[<-hl2];simp) (λk x y g1 g2=>hr k x y (by rw[Qv (lt_of_getElem? g1)];exact g1) (by simpa using g2)) (λt ht=>by simp at ht) hc
  .simp only at hj⊢
   rw[yh _ _ _ _ e]at hj⊢
   exact hj⟩
theorem zbx{E:Env}{fn:Func}{R:AV->List AObj->Prop}{s:AS}{d o ver sz cap:Nat}{T:TypeId}{ys pad:List AV}(hi:s.t d=.os o ver 0 ys.length cap)(ho:s.st[o]?=some (.cells ver T (flat ys++pad)))(hw:∀y∈ys,y.cells.length=sz)(hc:ys.length<=cap)
  (h:ARet E fn R ⟨Av.put s.t d (.sl sz ys none),s.st.set o .dead,s.df⟩):ARet E fn R s:=
 ⟨λB0 w0 G a w hL hI R2 hR=>by
  obtain⟨G1,h1,h2⟩:=hI.osPub (xs:=ys) (sz:=sz) hi ho rfl hc hw (by rw[Qj,zk hw];omega) (by rw[List.drop_zero,<-zk hw,Xj])
  exact h.run B0 w0 G1 a w hL h2 R2 λv G' r st' w' hG=>hR v G' r st' w' (h1.trans hG)⟩
def q7b(H:Nat->Option SR):SV->Option (Nat×Nat×List AV)
 |.tp k=>(match H k with
  |some (.own sz _ ys)=>some (k,sz,ys)
  |_=>none)
 |_=>none
def qrc(H:Nat->Option SR):List SV->Option (Nat×Nat×List AV)
 | []=>none
 |c::r=>(match q7b H c with
  |some x=>some x
  |none=>qrc H r)
theorem qyb{H:Nat->Option SR}{j sz:Nat}{ys:List AV}:∀{cs:List SV},qrc H cs=some (j,sz,ys)->∃T,H j=some (.own sz T ys)
 | [],h=>by simp[qrc]at h
 |c::r,h=>by
  simp only[qrc]at h
  split at h
  .rename_i x hx
   simp only[Qa]at h
   subst h
   unfold q7b at hx
   split at hx
   .split at hx
    .rename_i hk
     simp only[Qa,Zg]at hx
     obtain⟨rfl,rfl,rfl⟩:=hx
     exact⟨_,hk⟩
    .simp at hx
   .simp at hx
  .exact qyb (cs:=r) h
def frzJ(H:Nat->Option SR)(j sz:Nat)(ys:List AV):List SV->Option (List AV)
 | []=>some []
 |c::r=>(match(match c with
   |.tp k=>bif Qx k j then some (.sl sz ys none)else frz H (.tp k)
   |c=>frz H c),frzJ H j sz ys r with
  |some x,some l=>some (x::l)
  |_,_=>none)
theorem q1q{S:List AObj}{ρ:Nat->AV}{H:Nat->Option SR}(hS:SatF S ρ H){j sz:Nat}{ys:List AV}:∀(cs:List SV)(xs:List AV),frzJ H j sz ys cs=some xs->(SV.evs ρ cs).length=xs.length∧∀(i:Nat)(x y:AV),(SV.evs ρ cs)[i]?=some x->xs[i]?=some y->Wk x y∨(x=tpAt (ρ j)∧y=.sl sz ys none)
 | [],xs,h=>by simp only[frzJ,Qa]at h;subst h;exact⟨rfl,by simp[SV.evs]⟩
 |c::r,xs,h=>by
  simp only[frzJ]at h
  split at h
  .rename_i x l h1 h2
   simp only[Qa]at h
   subst h
   obtain⟨g1,g2⟩:=q1q hS r l h2
   refine⟨by simp[SV.evs,g1],λi a b ha hb=>?_⟩
   cases i with
   |zero=>
    simp only[SV.evs,Qu,Qa]at ha hb
    subst ha
    subst hb
    split at h1
    .rename_i k
     cases hkj:Qx k j with
     |true=>
      rw[hkj]at h1
      simp only[cond_true,Qa]at h1
      rw[Qg hkj]
      exact .inr ⟨rfl,h1.symm⟩
     |false=>
      rw[hkj]at h1
      exact .inl (qg2 hS _ _ h1)
    .exact .inl (qg2 hS _ _ h1)
   |succ i=>exact g2 i a b (by simpa[SV.evs]using ha) (by simpa using hb)
  .simp at h
def pubK(k:Conf->Prop):List ResultVar->Conf->Prop
 | [],C=>k C
 |.tmp t::r,C=>(match lkS C.sl t with
  |some (.bx b 0)=>(match hpF C.hp b with
   |some (.cells _ cs)=>(match qrc (hpF C.hp) cs with
    |some (j,sz,ys)=>(match frzJ (hpF C.hp) j sz ys cs with
     |some xs=>pubK k r ⟨(t,.a (.pp xs))::C.sl,(j,none)::(b,none)::C.hp,C.nx⟩
     |none=>pubK k r C)
    |none=>(match frzs (hpF C.hp) cs with
     |some xs=>pubK k r ⟨(t,.a (.pp xs))::C.sl,(b,none)::C.hp,C.nx⟩
     |none=>pubK k r C))
   |_=>pubK k r C)
  |some (.tp b)=>(match hpF C.hp b with
   |some (.own sz _ ys)=>pubK k r ⟨(t,.a (.sl sz ys none))::C.sl,(b,none)::C.hp,C.nx⟩
   |_=>pubK k r C)
  |_=>pubK k r C)
 |_::r,C=>pubK k r C
theorem SatR.drop{S0:List AObj}{F:Nat->Prop}{C:Conf}{ρ t:Nat->AV}{S:List AObj}(h:SatR S0 F C ρ t S){b o:Nat}{q:SR}(hb:hpF C.hp b=some q)(ho:∀o',ze (ρ b)=some o'->o'=o)(hd:ze (ρ b)=some o∨S.set o .dead=S):
  SatR S0 F ⟨C.sl,(b,none)::C.hp,C.nx⟩ ρ t (S.set o .dead):=by
 have hget:∀k r,hpF ((b,none)::C.hp) k=some r->k≠b∧hpF C.hp k=some r:=λk r hk=>by
  unfold hpF at hk⊢
  simp only[lkS]at hk
  by_cases e:b=k
  .subst e;simp at hk
  .rw[zz e]at hk
   exact⟨λh=>e h.symm,hk⟩
 rcases hd with hd|hd
 .refine⟨h.sl,⟨λk r hk=>?_,λk k' r r' hne hk hk'=>h.hp.sep k k' r r' hne (hget k r hk).2 (hget k' r' hk').2⟩,λk r hk=>h.own k r (hget k r hk).2,λj hj hF=>?_,by simpa using h.len,h.wsl,λk r hk=>h.whp k r (hget k r hk).2⟩
  .obtain⟨hne,hk⟩:=hget k r hk
   refine SR.ok_of (f:=λ_=>true) (SR.all_mono (λ_ _=>rfl) r (h.whp k r hk).2) (λ_ _=>rfl) (h.hp.ok k r hk) λj hj=>?_
   have:o≠j:=λe=>h.hp.sep b k _ r (λe=>hne e.symm) hb hk o hd (e▸hj)
   rw[Qt this]
  .have:o≠j:=λe=>by
    rcases h.own b _ hb o hd with g|g
    .omega
    .exact hF (e▸g)
   rw[Qt this]
   exact h.low j hj hF
 .rw[hd]
  exact⟨h.sl,⟨λk r hk=>h.hp.ok k r (hget k r hk).2,λk k' r r' hne hk hk'=>h.hp.sep k k' r r' hne (hget k r hk).2 (hget k' r' hk').2⟩,λk r hk=>h.own k r (hget k r hk).2,h.low,h.len,h.wsl,λk r hk=>h.whp k r (hget k r hk).2⟩
theorem SatR.slot{S0:List AObj}{F:Nat->Prop}{C:Conf}{ρ t:Nat->AV}{S:List AObj}(h:SatR S0 F C ρ t S)(d:Nat){y:AV}:SatR S0 F ⟨(d,.a y)::C.sl,C.hp,C.nx⟩ ρ (Av.put t d y) S:=by
 refine⟨λx v hx=>?_,h.hp,h.own,h.low,h.len,λx v hx=>?_,h.whp⟩
 .simp only[lkS]at hx
  by_cases e:d=x
  .subst e
   simp at hx
   subst hx
   exact wp _ _ _
  .rw[zz e]at hx
   simp only[cond_false]at hx
   exact(yh _ _ _ _ (λh=>e h.symm)).trans (h.sl x v hx)
 .simp only[lkS]at hx
  by_cases e:d=x
  .subst e
   simp at hx
   subst hx
   rfl
  .rw[zz e]at hx
   exact h.wsl x v hx
theorem SatR.pub{S0:List AObj}{F:Nat->Prop}{C:Conf}{ρ t:Nat->AV}{S:List AObj}(h:SatR S0 F C ρ t S){d b o:Nat}{T:TypeId}{cs:List SV}{xs:List AV}(hb:hpF C.hp b=some (.cells T cs))(ho:ze (ρ b)=some o):
  SatR S0 F ⟨(d,.a (.pp xs))::C.sl,(b,none)::C.hp,C.nx⟩ ρ (Av.put t d (.pp xs)) (S.set o .dead):=
 (h.drop hb (λo' ho'=>by rw[ho]at ho';simpa using ho'.symm) (.inl ho)).slot d
theorem zby{E:Env}{fn:Func}{R:AV->List AObj->Prop}{s:AS}{d:Nat}{x r:AV}(hi:s.t d=x)(hw:Wk x r)(h:ARet E fn R ⟨Av.put s.t d r,s.st,s.df⟩):ARet E fn R s:=
 ⟨λB0 w0 G a w hL hI R2 hR=>h.run B0 w0 G a w hL ⟨hI.agree,hI.defers,hI.size,λj y hy=>by
  have hj:=hI.tmps j y hy
  by_cases e:j=d
  .subst e
   simp only[wp]
   rw[hi]at hj
   exact hw G y hj
  .simp only
   rw[yh _ _ _ _ e]
   exact hj⟩ R2 hR⟩
theorem y6{E:Env}{fn:Func}{R:AV->List AObj->Prop}{S0:List AObj}{F:Nat->Prop}{ρ:Nat->AV}{k:Conf->Prop}(hk:∀C t S,k C->SatR S0 F C ρ t S->ARet E fn R ⟨t,S,[]⟩):∀{l:List ResultVar}{C:Conf}{t:Nat->AV}{S:List AObj},pubK k l C->SatR S0 F C ρ t S->ARet E fn R ⟨t,S,[]⟩
 | [],C,t,S,h,hR=>hk C t S h hR
 |.cell _ _::r,C,t,S,h,hR=>y6 hk (l:=r) h hR
 |.tmp d::r,C,t,S,h,hR=>by
  simp only[pubK]at h
  split at h
  .rename_i b hd
   split at h
   .rename_i T cs hb
    obtain⟨o,v,e1,e2,e3⟩:=hR.hp.ok b _ hb
    have ht:=hR.sl d _ hd
    simp only[SV.ev,e1,bxAt]at ht
    split at h
    .rename_i j sz ys hj
     split at h
     .rename_i xs hx
      obtain⟨T2,hj⟩:=qyb hj
      obtain⟨w1,w2⟩:=q1q hR.hp cs xs hx
      have hbj:b≠j:=λe=>by subst e;rw[hb]at hj;simp at hj
      have hP:=hR.pub (d:=d) (xs:=xs) hb (by rw[e1];rfl)
      have hj2:hpF ((b,none)::C.hp) j=some (.own sz T2 ys):=by
       unfold hpF at hj⊢
       simp only[lkS,zz hbj,cond_false]
       exact hj
      rcases hR.hp.ok j _ hj with⟨rfl,f1⟩|⟨o2,ver2,cap,pad,f1,f2,f3,f4,f5,f6⟩
      .refine qwm ht e2 (zbr w1 λi x y hx hy=>?_) (y6 hk (l:=r) h ?_)
       .rcases w2 i x y hx hy with g|⟨g1,g2⟩
        .exact g
        .subst g1 g2
         unfold tpAt
         rw[f1.one]
         exact f1.wk sz
       .have:=hP.drop (o:=S.length) hj2 (λo' ho'=>by rw[f1.loc]at ho';simp at ho') (.inr (Za Sx))
        rwa [Za Sx]at this
      .have hne:o≠o2:=λe=>hR.hp.sep b j _ _ hbj hb hj o (by rw[e1];rfl) (by rw[f1,e];rfl)
       refine q5m ht e2 f2 hne f4 f5 w1 (λi x y hx hy=>?_) (y6 hk (l:=r) h (hP.drop hj2 (λo' ho'=>?_) (.inl (by rw[f1];rfl))))
       .rcases w2 i x y hx hy with g|⟨g1,g2⟩
        .exact .inl g
        .exact .inr ⟨by rw[g1,f1];rfl,g2⟩
       .rw[f1]at ho'
        simpa[ze]using ho'.symm
     .exact y6 hk (l:=r) h hR
    .split at h
     .rename_i xs hx
      obtain⟨w1,w2⟩:=qdo hR.hp cs xs hx
      exact qwm ht e2 (zbr w1 w2) (y6 hk (l:=r) h (hR.pub hb (by rw[e1];rfl)))
     .exact y6 hk (l:=r) h hR
   .exact y6 hk (l:=r) h hR
  .rename_i b hd
   split at h
   .rename_i sz T ys hb
    have ht:=hR.sl d _ hd
    have hok:=hR.hp.ok b _ hb
    simp only[SV.ev,qbd hok]at ht
    rcases hok with⟨rfl,f1⟩|⟨o,ver,cap,pad,f1,f2,f3,f4,f5,f6⟩
    .have hP:=hR.drop (o:=S.length) hb (λo' ho'=>by rw[f1.loc]at ho';simp at ho') (.inr (Za Sx))
     rw[Za Sx]at hP
     exact zby ht (f1.wk sz) (y6 hk (l:=r) h (hP.slot d))
    .rw[f1]at ht
     have hP:=hR.drop (o:=o) hb (λo' ho'=>by rw[f1]at ho';simpa[ze]using ho'.symm) (.inl (by rw[f1];rfl))
     exact zbx ht f2 f4 f5 (y6 hk (l:=r) h (hP.slot d))
   .exact y6 hk (l:=r) h hR
  .exact y6 hk (l:=r) h hR
def retP(P:Program)(fn:Func)(r0:AV)(e:Exit)(C:Conf):Prop:=
 match e with
 |.normal=>pubK (λC=>ansW P fn C λy=>Tl y r0) fn.results.toList C
 |.ret=>pubK (λC=>ansW P fn C λy=>Tl y r0) fn.results.toList C
 |_=>False
theorem qhd{E:Env}{f:FuncId}{fn:Func}{c:Code}{args:List AV}{st:List AObj}{r0:AV}(vs:List SV)(hp:Pure r0)(hf:E.P.funcs[f]?=some fn)(hb:fn.body=some c)(hn:Qm args.length fn.ntmps=true)(hv:∀ρ,SV.evs ρ vs=args)(hc:okC ⟨jb 0 vs,[],0⟩=true)
  (h:∀S0,numK 0 vs λsl=>Sm E none fn.ntmps ⟨S0,λ_=>False,λ_=>z0,0,False⟩ c (retP E.P fn r0) ⟨sl,[],0⟩):ql E f args st λr st'=>r=r0∧st'=st:=by
 simp only[qmr]at h
 refine zr hp (qy hf hb (Qh hn) ?_)
 have hst:SatC ⟨st++[],λ_=>False,λ_=>z0,0,False⟩ ⟨jb 0 vs,[],0⟩ ⟨argT args,st++[],[]⟩:=by
  refine⟨λ_=>z0,⟨nofun,Zs,λ_ _=>rfl,Qn _,nofun⟩,⟨λd v hd=>?_,⟨λk r hk=>?_,λk k' r r' _ hk=>?_⟩,λk r hk=>?_,λ_ _ _=>rfl,Qn _,λd v hd=>?_,λk r hk=>?_⟩⟩
  .obtain⟨j,h1,h2⟩:=qb9 hd
   have:args[j]?=some (v.ev λ_=>z0):=by rw[<-hv λ_=>z0,jo,Ql,h2];rfl
   rw[h1,Qi]
   simp only[argT,Zj,this,Zn]
  .simp[hpF,lkS]at hk
  .simp[hpF,lkS]at hk
  .simp[hpF,lkS]at hk
  .simp only[okC,Qb]at hc
   exact Qe.1 hc.1 _ (kj hd)
  .simp[hpF,lkS]at hk
 refine((h (st++[])).run _ hst).mono λe s' ⟨C',hq,hs'⟩=>?_
 obtain⟨t,S,df⟩:=s'
 obtain⟨ρ,hdf,hR⟩:=hs'
 simp only at hdf hR
 have fin:pubK (λC=>ansW E.P fn C λy=>Tl y r0) fn.results.toList C'->ARet E fn (λr st2=>r=r0∧∃ext,st2=st++ext) ⟨t,S,df⟩:=λh=>by
  refine qfy hR (λx hx=>hdf.dm x hx) hdf.nd λS' hR'=>?_
  refine y6 (λC t S h hR'=>?_) h hR'
  obtain⟨y,h1,h2⟩:=q1a hR' h
  refine qs rfl (qab h1 h2.ok) ⟨rfl,?_⟩
  have hl:=hR'.len
  rw[Zi]at hl
  exact qjo hl λk hk=>by
   have:=hR'.low k (by simpa using hk) (λh=>h)
   rw[Zi]at this
   exact this
 cases e with
 |normal=>exact fin hq
 |ret=>exact fin hq
 |_=>exact hq.elim
section
variable {E : Env} {N : Nat} {ops : Array Oper} {nx : Nat} {sl : List (Nat × SV)} {H : Nat → Option SR} {k : Ef → Prop} {d : Option Tmp} {T : TypeId} {p : String} {af : Array Edge}
theorem qdg{t e e':TypeId}{x y:Operand}{b sz i:Nat}{agg:Bool}{xs:List AV}{kd:IntKind}{v:SV}(hx:sval N sl x=some (.tp b))(hH:H b=some (.own sz e xs))(hy:sval N sl y=some v)(hv:yz v=some (kd,(i:Int)))(he:elT (E.P.underlying t)=some e')(ht:tyOf E.P e'=some (sz,agg))(hi:i<xs.length)
  (h:k ⟨.bx b (0+i*sz),[b],[],nx⟩):∃e,Loc E N ops ⟨d,.indexAddr t x y,T,p,af,none⟩ nx sl H e∧k e:=by
 refine⟨_,w8 (v:=.bx b (0+i*sz)) λdf rd K rest ρ t' S hs hS hk=>?_,h⟩
 rcases hS.ok b _ ((vj b).trans hH)with⟨rfl,_⟩|⟨o,ver,cap,pad,e1,e2,_⟩
 .simp at hi
 .refine qft (o:=o) (ver:=ver) (off:=0) (len:=xs.length) (cp:=cap+1) ((qr hs hx).trans (by simp[SV.ev,e1,tpAt,AV.one])) ((qr hs hy).trans (w7 hv ρ)) (vh he) ht rfl hi ?_
  simpa only[SV.ev,e1,bxAt]using hk
theorem qtt{sz i j sz':Nat}{agg:Bool}{xs pad:List AV}{z r:AV}(hw:∀x∈xs,x.cells.length=sz)(hz:xs[i]?=some z)(hr:ka sz' agg j z.cells=some r)(hj:j+sz'<=sz)(h1:agg=false->0<sz'):ka sz' agg (0+i*sz+j) (flat xs++pad)=some r:=by
 have hg:=q2j (pad:=pad) hw hz
 have hzl:=hw z (Qq hz)
 have hlen:i*sz+sz<=(flat xs++pad).length:=by
  have:=congrArg Zx hg
  simp only[Zo,List.length_drop]at this
  have h1:i*sz<=xs.length*sz:=Zq _ (by have:=lt_of_getElem? hz;omega)
  have h2:(flat xs++pad).length=xs.length*sz+pad.length:=by rw[Qj,zk hw]
  omega
 unfold ka at hr⊢
 rw[Qi]
 cases agg with
 |true=>
  simp only[cond_true]at hr⊢
  have b1:Qm (i*sz+j+sz') (flat xs++pad).length=true:=Zf Om
  have b2:Qm (j+sz') z.cells.length=true:=Zf Om
  rw[b2]at hr
  rw[b1]
  simp only[cond_true]at hr⊢
  rw[<-hr,<-hg]
  congr 2
  apply List.ext_getElem?
  intro q
  simp only[List.getElem?_take,Xc]
  by_cases hq:q<sz'
  .rw[if_pos hq,if_pos hq,if_pos Om]
   congr 1
   omega
  .rw[if_neg hq,if_neg hq]
 |false=>
  simp only[cond_false]at hr⊢
  have:=h1 rfl
  rw[<-hr,<-hg,List.getElem?_take_of_lt Om,Xc]
theorem qhc{t e:TypeId}{x:Operand}{b off sz i j sz':Nat}{agg:Bool}{xs:List AV}{z r:AV}(hx:sval N sl x=some (.bx b off))(hH:H b=some (.own sz e xs))(ht:tyOf E.P t=some (sz',agg))(ho:off=0+i*sz+j)(hz:xs[i]?=some z)(hr:ka sz' agg j z.cells=some r)(hj:(Qm (j+sz') sz&&(agg||Qd 0 sz'))=true)
  (h:k ⟨nf r,[b],[],nx⟩):∃e,Loc E N ops ⟨d,.load t x,T,p,af,none⟩ nx sl H e∧k e:=by
 simp only[Qb,Zh]at hj
 refine⟨_,w8 (v:=nf r) λdf rd K rest ρ t' S hs hS hk=>?_,h⟩
 rcases hS.ok b _ ((vj b).trans hH)with⟨rfl,_⟩|⟨o,ver,cap,pad,e1,e2,e3,e4,_⟩
 .simp at hz
 .subst ho
  refine ve (o:=o) (ver:=ver) (off:=0+i*sz+j) ((qr hs hx).trans (by simp only[SV.ev,e1,bxAt])) e2 ht (qtt e4 hz hr (Qh hj.1) λe=>?_) (by rw[<-qj3 ρ r];exact hk)
  rcases hj.2 with h|h
  .rw[e]at h;simp at h
  .exact ki h
theorem qrq(A Z B us:List AV)(j:Nat)(h:j+us.length<=Z.length):zt (A++Z++B) (A.length+j) us=A++zt Z j us++B:=by
 unfold zt
 rw[Zl A Z B,List.take_length_add_append,Zr Om,Nat.add_assoc,List.drop_length_add_append,List.drop_append_of_le_length Om]
 simp
theorem qqj{sz i j:Nat}{xs pad us:List AV}{z z':AV}(hw:∀x∈xs,x.cells.length=sz)(hz:xs[i]?=some z)(hz':z'.cells=zt z.cells j us)(hj:j+us.length<=sz):zt (flat xs++pad) (0+i*sz+j) us=flat (xs.set i z')++pad∧z'.cells.length=sz:=by
 have hzl:=hw z (Qq hz)
 have hl:z'.cells.length=sz:=by rw[hz'];simp[zt];omega
 have hi:=lt_of_getElem? hz
 refine⟨?_,hl⟩
 rw[<-qoi hw hl hi]
 have hg:=q2j (pad:=pad) hw hz
 have hA:((flat xs++pad).take (i*sz)).length=i*sz:=by
  have h1:i*sz<=xs.length*sz:=Zq _ Om
  rw[Zo,Qj,zk hw]
  omega
 generalize flat xs++pad=cs at hg hA
 have hcs:cs=cs.take (i*sz)++z.cells++(cs.drop (i*sz)).drop sz:=by
  rw[<-hg,Zl,Zp,Zp]
 have e1:=qrq (cs.take (i*sz)) z.cells ((cs.drop (i*sz)).drop sz) us j Om
 have e2:=qrq (cs.take (i*sz)) z.cells ((cs.drop (i*sz)).drop sz) z'.cells 0 Om
 rw[hA,<-hcs]at e1 e2
 have e3:zt z.cells 0 z'.cells=z'.cells:=by
  unfold zt
  rw[Qi,List.drop_eq_nil_of_le Om]
  simp
 rw[Zd,e3]at e2
 rw[Qi,e1,e2,hz']
theorem qib{t e:TypeId}{x y:Operand}{b off sz i j sz':Nat}{agg:Bool}{xs:List AV}{z z' u:AV}{v:SV}(hx:sval N sl x=some (.bx b off))(hy:sval N sl y=some v)(hv:∀ρ,v.ev ρ=u)(hH:H b=some (.own sz e xs))(ht:tyOf E.P t=some (sz',agg))(ho:off=0+i*sz+j)(hz:xs[i]?=some z)(hz':z'.cells=zt z.cells j u.cells)
  (hj:(u.okc&&Qx u.cells.length sz'&&jl u.cells&&Qm (j+sz') sz)=true) (h:k ⟨.a (.v undef),[b],[(b,some (.own sz e (xs.set i z')))],nx⟩):∃e,Loc E N ops ⟨d,.store t x y,T,p,af,none⟩ nx sl H e∧k e:=by
 simp only[Qb]at hj
 obtain⟨⟨⟨j1,j2⟩,j3⟩,j4⟩:=hj
 have j2:=Qg j2
 have j4:=Qh j4
 refine⟨_,λdf rd K rest ρ t' S hs hS hk=>?_,h⟩
 have hok:=hS.ok b _ ((vj b).trans hH)
 rcases hok with⟨rfl,_⟩|⟨o,ver,cap,pad,e1,e2,e3,e4,e5,e6⟩
 .simp at hz
 .subst ho
  obtain⟨q1,q2⟩:=qqj (pad:=pad) e4 hz hz' Om
  have hlt:=lt_of_getElem? hz
  refine qcj (o:=o) (ver:=ver) (off:=0+i*sz+j) (xs:=u.cells) ((qr hs hx).trans (by simp only[SV.ev,e1,bxAt])) ((qr hs hy).trans (hv ρ)) e2 ht j1 rfl j2 (by simpa[jl]using j3) (by
   have h1:i*sz+sz<=xs.length*sz:=by rw[<-Nat.succ_mul];exact Zq _ hlt
   rw[Qj,zk e4]
   omega) ?_
  rw[q1]
  have hw':∀y∈xs.set i z',y.cells.length=sz:=λy hy=>by
   rcases List.mem_or_eq_of_mem_set hy with h|rfl
   .exact e4 y h
   .exact q2
  have key:∀k r,chF [(b,some (.own sz e (xs.set i z')))] (resF [b] H) k=some r->k=b∧r=.own sz e (xs.set i z'):=λk r hk=>by
   simp only[chF,lkS]at hk
   by_cases e:b=k
   .subst e
    have:Qx b b=true:=Sx
    rw[this]at hk
    simp only[cond_true,Qa]at hk
    exact⟨rfl,hk.symm⟩
   .rw[zz e]at hk
    have:=(kq hk).1
    simp only[memN,Xa,Xp,Xl]at this
    exact absurd (Qg this).symm e
  refine hk ρ _ ⟨λ_ _=>rfl,⟨λk r hk=>?_,λk k' r r' hne g1 g2=>?_⟩,Sx,λj hj hne=>?_,λk r hk o' ho'=>?_⟩
  .obtain⟨rfl,rfl⟩:=key k r hk
   refine .inr ⟨o,ver,cap,pad,by rw[e1,Qy],wc e2,?_,hw',by rw[Qy];exact e5,e6⟩
   rw[Qj,zk hw',Qy,<-zk e4,<-Qj]
   exact e3
  .exact absurd ((key k r g1).1.trans (key k' r' g2).1.symm) hne
  .have:=hne b _ ((vj b).trans hH)
   rw[e1]at this
   exact Qt (λe=>this (by rw[e];rfl))
  .obtain⟨rfl,rfl⟩:=key k r hk
   exact .inr ⟨k,_,(vj k).trans hH,ho'⟩
theorem qmu{b:Nat}{q:SR}:∀k r,chF [(b,none),(nx,some q)] (resF [b] H) k=some r->k=nx∧r=q:=λk r hk=>by
 simp only[chF,lkS]at hk
 by_cases e:b=k
 .subst e
  simp at hk
 .rw[zz e]at hk
  simp only[cond_false]at hk
  by_cases e2:nx=k
  .subst e2
   simp at hk
   exact⟨rfl,hk.symm⟩
  .rw[zz e2]at hk
   simp only[cond_false]at hk
   have:=(kq hk).1
   simp only[memN,Xa,Xp,Xl]at this
   exact absurd (Qg this).symm e
theorem qf4{x y:Operand}{t u e:TypeId}{b sz bytes:Nat}{xs ys:List AV}{vy:SV}(hx:sval N sl x=some (.tp b))(hH:H b=some (.own sz e xs))(hy:sval N sl y=some vy)(hel:qh0 H sz vy=some (ys,[]))(ht:elT (E.P.underlying t)=some e)(hu:elT (E.P.underlying u)=some e)(hb:qml E.P e=some (sz,bytes))
  (hn:(Qd 0 bytes&&Qm bytes 140737&& !Nat.beq b nx)=true) (h1:xs.length+ys.length<=1000000000) (hone:jl (flat ys)=true)
  (h:k ⟨.tp nx,[b],[(b,none),(nx,some (.own sz e (xs++ys)))],nx+1⟩):∃e,Loc E N ops ⟨d,.call ⟨.builtin .append,#[x,y],#[t,u]⟩,T,p,af,none⟩ nx sl H e∧k e:=by
 simp only[Qb]at hn
 have hbp:=ki hn.1.1
 have hbl:=Qh hn.1.2
 refine⟨_,λdf rd K rest ρ t' S hs hS hk=>?_,h⟩
 have hw:∀(G:Gh)(v:Value),Rel G (qg N ⟨t',S,df⟩ y) v->Rel G (.sl sz ys none) v:=by
  rw[qr hs hy]
  exact qde (S:=S) hel ⟨λk r hk=>by rw[qca]at hk;simp at hk,λk k' r r' _ hk=>by rw[qca]at hk;simp at hk⟩
 have hok:=hS.ok b _ ((vj b).trans hH)
 have hev:qg N ⟨t',S,df⟩ x=ρ b:=(qr hs hx).trans (qbd hok)
 have hmul:(xs.length+ys.length)*bytes<=140737488355328:=Ze (Nat.mul_le_mul h1 hbl) (by decide)
 have fin:∀(c:AV)(S':List AObj),OwnS S' sz e (xs++ys) c->S.length<=S'.length->(∀j,j<S.length->ze (ρ b)≠some j->S'[j]?=S[j]?)->(∀o,ze c=some o->S.length<=o∨ze (ρ b)=some o)->AOps E rd N ops rest K (AS.put ⟨t',S',df⟩ d c):=λc S' g1 g2 g3 g4=>by
  have:=hk (upd ρ nx c) S' ⟨λk hk=>we _ _ (by simp only at hk;omega),⟨λk r hk=>?_,λk k' r r' hne q1 q2=>absurd ((qmu k r q1).1.trans (qmu k' r' q2).1.symm) hne⟩,g2,λj hj hne=>g3 j hj (hne b _ ((vj b).trans hH)),λk r hk o ho=>?_⟩
  .simpa only[SV.ev,jc,qbd g1]using this
  .obtain⟨rfl,rfl⟩:=qmu k r hk
   rw[jc]
   exact g1
  .obtain⟨rfl,rfl⟩:=qmu k r hk
   rw[jc]at ho
   exact(g4 o ho).imp_right λh=>⟨b,_,(vj b).trans hH,h⟩
 by_cases hy0:ys=[]
 .subst hy0
  have hc:∀G v,Rel G (ρ b) v->∃b n cp,v=.slice b n cp∧n<=cp:=λG v hv=>by
   rcases hok with⟨_,e1⟩|⟨o,ver,cap,pad,e1,e2,e3,e4,e5,e6⟩
   .obtain⟨base,rfl⟩:=e1.val G v hv
    exact⟨_,_,_,rfl,Qn _⟩
   .rw[e1]at hv
    cases hv with
    |os=>exact⟨_,_,_,rfl,e5⟩
  exact qk1 hev hc hw (vh ht) (vh hu) (qb2 hb) (fin (ρ b) S (by rw[Zi];exact hok) (Qn _) (λ_ _ _=>rfl) λo ho=>.inr ho)
 .rcases hok with⟨rfl,e1⟩|⟨o,ver,cap,pad,e1,e2,e3,e4,e5,e6⟩
  .refine qa2 (by rw[hev];exact e1.val) hw (vh ht) (vh hu) (qb2 hb) hone hy0 (by simp only[maxLen];simp only[Qr]at h1;omega) (by simpa using hmul) λcap pad q1 q2 q3 q4=>?_
   exact fin _ _ (.inr ⟨S.length,0,cap,pad,rfl,wu,q1,q2,q3,q4⟩) Sx (λj hj _=>Qv hj) λo ho=>.inl (by simp only[ze,Qa]at ho;omega)
  .refine qfm (o:=o) (hev.trans e1) hw (.os ver (cap+1) pad e3 e4 e5 e6) e2 (vh ht) (vh hu) (qb2 hb) hone (by simp only[maxLen];omega) hmul λa' ob' hV=>?_
   rcases qmb hV with⟨q,_,_⟩|⟨ver',cap',pad',rfl,rfl,q1,q2,q3,q4⟩
   .simp[hy0]at q
   .obtain⟨cap',rfl⟩:∃c,cap'=c+1:=⟨cap'-1,by
     have:0<ys.length:=Xb.2 hy0
     simp at q3
     omega⟩
    refine fin _ _ (.inr ⟨o,ver',cap',pad',rfl,wc e2,q1,q2,q3,q4⟩) Sx (λj hj hne=>Qt λe=>hne (by rw[e1,e];rfl)) λo' ho'=>.inr (by rw[e1];exact ho')
structure OwnR (sz:Nat) (T:TypeId) (ys:List AV) (st:List AObj) (c r:AV) (st':List AObj):Prop where
 ok:OwnS st' sz T ys r
 len:st.length<=st'.length
 same:∀j,j<st.length->ze c≠some j->st'[j]?=st[j]?
 loc:∀o,ze r=some o->st.length<=o∨ze c=some o
theorem qsn{S:List AObj}{sz:Nat}{T:TypeId}{xs:List AV}{c:AV}(h:OwnS S sz T xs c):tpAt c=c:=qbd h
theorem qod{f:FuncId}{sz:Nat}{T0:TypeId}{xs ys:List AV}(args:List AV)(hc:okC ⟨jb 0 (.tp 0::args.map .a),[(0,some (.own sz T0 xs))],1⟩=true)
  (h:∀st c,OwnS st sz T0 xs c->ql E f (c::args) st λr st'=>OwnR sz T0 ys st c r st'):j9 E f (.tp 0::args.map .a) 1 (hpF [(0,some (.own sz T0 xs))]) ⟨.tp 1,jt [(0,some (.own sz T0 xs))],[(1,some (.own sz T0 ys))]++ku [(0,some (.own sz T0 xs))],2⟩:=λρ S hS=>by
 simp only[vq]at hS
 have hok:OwnS S sz T0 xs (ρ 0):=hS.ok 0 _ rfl
 have e:SV.evs ρ (.tp 0::args.map .a)=ρ 0::args:=by
  simp only[SV.evs,SV.ev,qsn hok,jo,List.map_map]
  congr 1
  conv=>rhs;rw[<-List.map_id args]
  exact List.map_congr_left λx _=>rfl
 rw[e]
 refine(h S (ρ 0) hok).mono λr S' hr=>⟨upd ρ 1 r,?_,?_⟩
 .simp only[SV.ev,jc,qsn hr.ok]
 .have key:∀k q,hpF [(1,some (.own sz T0 ys))] k=some q->k=1∧q=.own sz T0 ys:=λk q hk=>by
   have:=wo hk
   simp only[lkS]at this
   cases hb:Qx 1 k with
   |true=>
    rw[hb]at this
    simp only[cond_true,Qa]at this
    exact⟨(Qg hb).symm,this.symm⟩
   |false=>rw[hb]at this;simp at this
  refine⟨λk hk=>we _ _ (by simp only at hk;omega),?_,hr.len,λj hj hn=>?_,λk q hk o ho=>?_⟩
  .simp only[vq,qdn]
   refine⟨λk q hk=>?_,λk k' q q' hne h1 h2=>absurd ((key k q h1).1.trans (key k' q' h2).1.symm) hne⟩
   obtain⟨rfl,rfl⟩:=key k q hk
   rw[jc]
   exact hr.ok
  .simp only[vq]at hn
   exact hr.same j hj (hn 0 _ rfl)
  .simp only[vq,qdn]at hk⊢
   obtain⟨rfl,rfl⟩:=key k q hk
   rw[jc]at ho
   rcases hr.loc o ho with h|h
   .exact .inl h
   .exact .inr ⟨0,_,rfl,h⟩
theorem qzx{f:FuncId}{sz:Nat}{T0:TypeId}{ys:List AV}{nx:Nat}{H:Nat->Option SR}(args:List AV)(vs:List SV)(hv:∀ρ,SV.evs ρ vs=args)
  (h:∀st,ql E f args st λr st'=>OwnR sz T0 ys st (.v undef) r st'):j9 E f vs nx H ⟨.tp nx,[],[(nx,some (.own sz T0 ys))],nx+1⟩:=λρ S hS=>by
 rw[hv]
 refine(h S).mono λr S' hr=>⟨upd ρ nx r,?_,?_⟩
 .simp only[SV.ev,jc,qsn hr.ok]
 .have key:∀k q,chF [(nx,some (SR.own sz T0 ys))] (resF [] H) k=some q->k=nx∧q=.own sz T0 ys:=λk q hk=>by
   simp only[chF,lkS]at hk
   cases hb:Qx nx k with
   |true=>
    rw[hb]at hk
    simp only[cond_true,Qa]at hk
    exact⟨(Qg hb).symm,hk.symm⟩
   |false=>
    rw[hb]at hk
    simp[resF,memN]at hk
  refine⟨λk hk=>we _ _ (by simp only at hk;omega),⟨λk q hk=>?_,λk k' q q' hne h1 h2=>absurd ((key k q h1).1.trans (key k' q' h2).1.symm) hne⟩,hr.len,λj hj _=>hr.same j hj (by simp[ze]),λk q hk o ho=>?_⟩
  .obtain⟨rfl,rfl⟩:=key k q hk
   rw[jc]
   exact hr.ok
  .obtain⟨rfl,rfl⟩:=key k q hk
   rw[jc]at ho
   rcases hr.loc o ho with h|h
   .exact .inl h
   .simp[ze]at h
end
end Go.Av
namespace Go.Proofs.YtapblfabkbdgcaaGreatDoor
open Go Go.Av Go.RowKit Go.Proofs Go.Pl
theorem qrw{b:UInt8}{v:qd}:vo b v=if 0<v.length∧v.getD 0 0=b then v.drop 1 else v:=by
 cases v with
 |nil=>rfl
 |cons x r=>
  unfold vo
  by_cases h:x=b<;>simp[h]
set_option maxHeartbeats 2000000 in
theorem ql7(ls:List qd)(st:List AObj)(hB:LsB ls):ql E 78 [Ss ls] st λr st'=>r=qba ls∧st'=st:=by
 refine q5 [.a (Ss ls)] (qri _) Tryz.func78 rfl rfl (λ_=>rfl) rfl λS0=>?_
 have hL:=hB.len
 have hml:(ls.map λx=>Sv x).length=ls.length:=Sx
 cases ls with
 |nil=>
  apply qe [2]
  repeat' (first|apply Qc|(intro h;try exact cDd)|exact cSd|apply qc [2]|refine exr ?_|refine qf ?_)
 |cons l r=>
  have hl:=hB.val l Sx
  simp only[Qo]at hL hml
  have hkd:=λst=>qie l st Om
  have hget0:((l::r).map λx=>Sv x)[0]?=some (Sv l):=rfl
  by_cases h4:qn l=4
  .have hcu:=λst=>q7m l st Om h4
   simp only[h4]at hkd
   have htr:(vo 32 (jw l)).length<=l.length:=by unfold vo jw;split <;>simp <;>omega
   have hrl:(jw l).length<=l.length:=by unfold jw;simp
   apply qe [2]
   repeat' (first|apply Qc|(intro h;try exact cDd)|(refine Qk (0) ⟨Om,_,hget0,?_⟩)|exact⟨Tryz.call92⟩|refine cpe hkd ?_|exact⟨Tryz.call115⟩|refine cpe hcu ?_|exact cSd|apply qc [2]|refine exr ?_|refine qf ?_)
   all_goals
    refine zl (X:=Nat×qd) (λ(k,acc)=>⟨[(0,.a (Ss (l::r))),(2,.bx 0 0),(4,.s (zx l)),(5,.s acc),(7,.i ((k:Int)+1))],[(0,some (.cells 98 [.s [],.s []]))],1⟩) (λ(k,acc)=>k<=r.length∧(∀x∈r.take k,qn x=3)∧acc=accU l (r.take k)) (λ(k,_)=>r.length-k) (0,vo 32 (jw l)) ⟨Om,Sx,by simp[accU]⟩ ?_ ?_
    .skip
     repeat' (first|apply Qc|(intro h;try exact cDd)|exact cSd|apply qc []|refine exr ?_|refine qf ?_)
     all_goals (rw[qrw];split <;>rename_i h<;>first|rfl|(exfalso;omega)|exact absurd ((q40 _).2 h.2) (by assumption)|exact absurd ⟨Om,(q40 _).1 (by assumption)⟩ h)
    .rintro⟨k,acc⟩ ⟨hk,h3,hacc⟩
     have hal:=q8j l (r.take k) λs hs=>hB.val s (by simp[Zy hs])
     rw[<-hacc,Zo]at hal
     by_cases hlt:k<r.length
     .obtain⟨a,ha⟩:∃a,r[k]?=some a:=⟨_,Qf hlt⟩
      have hget:((l::r).map λx=>Sv x)[k+1]?=some (Sv a):=by simp[ha]
      have hav:=hB.val a (by simp[Qq ha])
      have hka:=λst=>qie a st Om
      have htk:r.take (k+1)=r.take k++[a]:=by
       obtain⟨_,rfl⟩:=Qp.1 ha
       rw[Qs]
      by_cases hk3:qn a=3
      .obtain⟨h2,_⟩:=qi7 hk3
       simp only[hk3]at hka
       have hd1:(a.drop 1).length=a.length-1:=Sx
       have hac:=q5b l (r.take k) a
       rw[<-hacc,<-htk,qrw]at hac
       apply qe []
       repeat' (first|apply Qc|(intro h;try exact cDd)|(refine Qk ((k+1)) ⟨Om,_,hget,?_⟩)|exact⟨Tryz.call92⟩|refine cpe hka ?_|(refine Qk (k+1,_) ⟨⟨Om,by rw[htk];exact qj1 h3 hk3,rfl⟩,by simp only;omega,?_⟩)|exact cSd|apply qc []|refine exr ?_|refine qf ?_)
       all_goals (rw[hac];split <;>rename_i h<;>first|rfl|(simp only[Zl];rfl)|(exfalso;omega)|exact absurd ((qvx _).2 h.2) (by assumption)|exact absurd ⟨Om,(qvx _).1 (by assumption)⟩ h)
      .have hno:z7 (l::r)=(([],[]),2):=if_neg λh=>hk3 (h.2.2 a (Qq ha))
       unfold qba
       rw[hno]
       apply qe []
       repeat' (first|apply Qc|(intro h;try exact cDd)|(refine Qk ((k+1)) ⟨Om,_,hget,?_⟩)|exact⟨Tryz.call92⟩|refine cpe hka ?_|exact absurd (by assumption) hk3|exact cSd|apply qc []|refine exr ?_|refine qf ?_)
     .rw[Zc Om]at h3 hacc
      have hun:z7 (l::r)=if 1000<(accU l r).length then(([],[]),6)else((zx l,accU l r),0):=if_pos ⟨Sx,h4,h3⟩
      unfold qba
      rw[hun,<-hacc]
      apply qe []
      repeat' (first|apply Qc|(intro h;try exact cDd)|exact cSd|apply qc []|refine exr ?_|refine qf ?_)
      all_goals (split <;>first|rfl|omega)
  .have hno:z7 (l::r)=(([],[]),2):=if_neg λh=>h4 h.2.1
   unfold qba
   rw[hno]
   apply qe [2]
   repeat' (first|apply Qc|(intro h;try exact cDd)|(refine Qk (0) ⟨Om,_,hget0,?_⟩)|exact⟨Tryz.call92⟩|refine cpe hkd ?_|exact cSd|apply qc [2]|refine exr ?_|refine qf ?_)
theorem q00{a:qd}(h10:10∉a):kz a=if qn a=1∨a.getD 0 0=46 then 46::a else a:=by
 have hk:=q9s h10
 unfold kz
 cases a with
 |nil=>simp[hk,qam]
 |cons x y=>simp only[List.head?_cons,Qa,hk];rfl
def outK(hd:qd)(r:List qd)(k:Nat):List AV:=(hd::(r.take k).map λs=>[32]++kz s).map λx=>Sv x
theorem q7a{hd:qd}{r:List qd}{k:Nat}{a:qd}(h:r[k]?=some a):outK hd r (k+1)=outK hd r k++[Sv ([32]++kz a)]:=by
 obtain⟨hlt,rfl⟩:=Qp.1 h
 unfold outK
 rw[<-Qs hlt]
 simp only[Xh,Zb,Xq,Xe]
theorem q96{hd:qd}{r:List qd}{k:Nat}(h:k<=r.length):(outK hd r k).length=k+1:=by
 unfold outK
 simp
 omega
set_option maxHeartbeats 2000000 in
theorem qyi(f:FldV)(st:List AObj)(hl:f.1.length<4294967281)(hv:f.2.length<1000000):ql E 108 [fldA f] st λr st'=>r=Ss (zh f)∧st'=st:=by
 obtain⟨key,val⟩:=f
 dsimp only at hl hv
 refine q5 [.a (.ag [Sv key,Sv val])] (qmw _) Tryz.func108 rfl rfl (λ_=>rfl) rfl λS0=>?_
 obtain⟨p,r,hp⟩:∃p r,qv val=p::r:=⟨_,_,qj7 val⟩
 have hpl:p.length<=val.length:=qc2 val p (by rw[hp];simp)
 have hrl:∀x∈r,x.length<=val.length:=λx hx=>qc2 val x (by rw[hp];simp[hx])
 have hr10:∀x∈r,10∉x:=λx hx=>qcs val x (by rw[hp];simp[hx])
 have hrn:r.length<=val.length:=by have:=qat _ val (Qn _);rw[hp]at this;simpa using this
 have hlen:(Sv p::r.map λx=>Sv x).length=r.length+1:=Sx
 have hpt:=λst=>zaa val p r st hv hp
 have hget0:(Sv p::r.map λx=>Sv x)[0]?=some (Sv p):=rfl
 rw[q0i (f:=(key,val)) hp]
 generalize hhd:jn key p=hd
 have hll:Ss (hd::r.map λs=>[32]++kz s)=.sl 1 (outK hd r r.length) none:=by unfold outK;rw[Zv]
 rw[hll]
 apply qe [1,24]
 repeat' (first|apply Qc|(intro h;try exact cDd)|exact⟨Tryz.call149⟩|refine cpe hpt ?_|(refine Qk (0) ⟨Om,_,hget0,?_⟩)|exact cSd|apply qc [1,24]|refine exr ?_|refine qf ?_)
 all_goals
  refine zl (X:=Nat) (λk=>⟨[(3,.a (.sl 1 (Sv p::r.map λx=>Sv x) none)),(5,.tp 0),(6,.i ((k:Int)+1))],[(0,some (.tip 1 9 (outK hd r k)))],1⟩) (λk=>k<=r.length) (λk=>r.length-k) 0 Om ?_ ?_
  .skip
   repeat' (first|apply Qc|(intro h;try exact cDd)|exact cSd|apply qc []|refine exr ?_|refine qf ?_)
   all_goals (subst hhd;unfold jn outK;simp_all[SV.evs,SV.ev])
  .rintro k hk
   have hol:=q96 (hd:=hd) hk
   by_cases hlt:k<r.length
   .obtain⟨a,ha⟩:∃a,r[k]?=some a:=⟨_,Qf hlt⟩
    have hget:(Sv p::r.map λx=>Sv x)[k+1]?=some (Sv a):=by simp[ha]
    have ham:=Qq ha
    have hal:=hrl a ham
    have hka:=λst=>qie a st Om
    have hst:=q00 (hr10 a ham)
    have hnx:=q7a (hd:=hd) ha
    rw[hst]at hnx
    have hk0:qn a≠1->0<a.length:=λh=>Xb.2 λe=>h (by subst e;rfl)
    by_cases hk1:qn a=1
    .simp only[hk1]at hka
     rw[if_pos (.inl hk1)]at hnx
     apply qe []
     repeat' (first|apply Qc|(intro h;try exact cDd)|(refine Qk ((k+1)) ⟨Om,_,hget,?_⟩)|exact⟨Tryz.call92⟩|refine cpe hka ?_|(refine Qk (k+1) ⟨Om,Om,?_⟩)|exact cSd|apply qc []|refine exr ?_|refine qf ?_)
     all_goals first|(rw[hnx];done)|(rw[hnx];simp[SV.evs,SV.ev];done)|(simp only[Qo,Qr];omega)
    .have hpos:=hk0 hk1
     apply qe []
     repeat' (first|apply Qc|(intro h;try exact cDd)|(refine Qk ((k+1)) ⟨Om,_,hget,?_⟩)|exact⟨Tryz.call92⟩|refine cpe hka ?_|(refine Qk (k+1) ⟨Om,Om,?_⟩)|exact cSd|apply qc []|refine exr ?_|refine qf ?_)
     all_goals first|(rw[hnx,if_pos (.inr ((qvx _).1 (by assumption)))];simp[SV.evs,SV.ev];done)|(rw[hnx,if_neg (by simp only[hk1,false_or];intro e;exact absurd ((qvx _).2 e) (by assumption))];done)|(simp only[Qo,Qr];omega)
   .rw[show k=r.length by omega]
    apply qe []
    repeat' (first|apply Qc|(intro h;try exact cDd)|exact cSd|apply qc []|refine exr ?_|refine qf ?_)
set_option maxHeartbeats 2000000 in
theorem q4i(xs:List FldV)(st:List AObj)(hx:qvf xs):ql E 71 [q6 xs] st λr st'=>r=Sv (zu xs)∧st'=st:=by
 refine q5 [.a (q6 xs)] (qt _) Tryz.func71 rfl rfl (λ_=>rfl) rfl λS0=>?_
 have hxl:=hx.len
 have hml:(xs.map fldA).length=xs.length:=Sx
 apply qe []
 repeat' (first|apply Qc|(intro h;try exact cDd)|exact cSd|apply qc []|refine exr ?_|refine qf ?_)
 refine zl (X:=Nat) (λk=>⟨[(0,.a (q6 xs)),(3,.s (zu (xs.take k))),(4,.i k)],[],0⟩) (λk=>k<=xs.length) (λk=>xs.length-k) 0 Om ?_ ?_
 .skip
  repeat' (first|apply Qc|(intro h;try exact cDd)|exact cSd|apply qc []|refine exr ?_|refine qf ?_)
 .rintro k hk
  by_cases hlt:k<xs.length
  .obtain⟨f,hf⟩:∃f,xs[k]?=some f:=⟨_,Qf hlt⟩
   have hget:(xs.map fldA)[k]?=some (fldA f):=by simp[hf]
   obtain⟨hf1,hf2⟩:=hx.val f (Qq hf)
   have hb1:=qqm (xs.take k) λg hg=>hx.val g (Zy hg)
   rw[Zo]at hb1
   have hb2:=qnt f
   have hln:=λst=>qyi f st hf1 hf2
   have htk:zu (xs.take (k+1))=zu (xs.take k)++zb (zh f):=by
    obtain⟨_,rfl⟩:=Qp.1 hf
    rw[<-Qs hlt,qtv,qtw]
   have hsl:((zh f).map λx=>Sv x).length=(zh f).length:=Sx
   have hsn:=qiu (zh f)
   apply qe []
   repeat' (first|apply Qc|(intro h;try exact cDd)|(refine Qk (k) ⟨Om,_,hget,?_⟩)|exact⟨Tryz.call108⟩|refine cpe hln ?_|exact cSd|apply qc []|refine exr ?_|refine qf ?_)
   refine zl (X:=Nat) (λj=>⟨[(0,.a (q6 xs)),(3,.s (zu (xs.take k)++zb ((zh f).take j))),(4,.i k),(17,.a (Ss (zh f))),(18,.i ((zh f).map λx=>Sv x).length),(19,.i j)],[],0⟩) (λj=>j<=(zh f).length) (λj=>(zh f).length-j) 0 Om ?_ ?_
   .skip
    repeat' (first|apply Qc|(intro h;try exact cDd)|exact cSd|apply qc []|refine exr ?_|refine qf ?_)
    all_goals (simp[zb];done)
   .rintro j hj
    by_cases hjl:j<(zh f).length
    .obtain⟨a,ha⟩:∃a,(zh f)[j]?=some a:=⟨_,Qf hjl⟩
     have hget2:((zh f).map λx=>Sv x)[j]?=some (Sv a):=by simp[ha]
     have htj:zb ((zh f).take (j+1))=zb ((zh f).take j)++a++[10]:=by
      obtain⟨_,rfl⟩:=Qp.1 ha
      rw[<-Qs hjl,xo,qfk,Zl]
     have hbj:(zb ((zh f).take (j+1))).length<=(zb (zh f)).length:=by
      have:=congrArg (λl=>(zb l).length) (Zp (j+1) (zh f))
      simp only[xo,Qj]at this
      omega
     have hbl:=congrArg Zx htj
     simp only[Qj,Qo,Qr]at hbl
     apply qe []
     repeat' (first|apply Qc|(intro h;try exact cDd)|(refine Qk (j) ⟨Om,_,hget2,?_⟩)|(refine Qk (j+1) ⟨Om,Om,?_⟩)|exact cSd|apply qc []|refine exr ?_|refine qf ?_)
     all_goals first|(rw[htj];simp;done)|(simp only[Qj,Qo,Qr];omega)
    .rw[Zc (show(zh f).length<=j by omega)]
     apply qe []
     repeat' (first|apply Qc|(intro h;try exact cDd)|(refine Qk (k+1) ⟨Om,Om,?_⟩)|exact cSd|apply qc []|refine exr ?_|refine qf ?_)
     all_goals (rw[htk];done)
  .rw[Zc Om]
   apply qe []
   repeat' (first|apply Qc|(intro h;try exact cDd)|exact cSd|apply qc []|refine exr ?_|refine qf ?_)
def accK(l:qd)(r:List qd)(k:Nat):List qd:=vo 32 (jw l)::(r.take k).map λs=>vo 46 (s.drop 1)
theorem q5a{l:qd}{r:List qd}{k:Nat}{a:qd}(h:r[k]?=some a):(accK l r (k+1)).map (λx=>Sv x)=(accK l r k).map (λx=>Sv x)++[Sv (vo 46 (a.drop 1))]:=by
 obtain⟨hlt,rfl⟩:=Qp.1 h
 unfold accK
 rw[<-Qs hlt]
 simp only[Xh,Zb,Xq,Xe]
set_option maxHeartbeats 4000000 in
theorem qkv(ls:List qd)(st:List AObj)(hB:LsB ls):ql E 167 [Ss ls] st λr st'=>r=qev ls∧st'=st:=by
 refine q5 [.a (Ss ls)] (qzf _) Tryz.func167 rfl rfl (λ_=>rfl) rfl λS0=>?_
 have hL:=hB.len
 have hml:(ls.map λx=>Sv x).length=ls.length:=Sx
 cases ls with
 |nil=>
  apply qe [2]
  repeat' (first|apply Qc|(intro h;try exact cDd)|exact cSd|apply qc [2]|refine exr ?_|refine qf ?_)
 |cons l r=>
  have hl:=hB.val l Sx
  simp only[Qo]at hL hml
  have hget0:((l::r).map λx=>Sv x)[0]?=some (Sv l):=rfl
  have hrm:(r.map λx=>Sv x).length=r.length:=Sx
  by_cases h4:qn l=4
  .have hkf:=qh7.1 h4
   have hcu:=λst=>q3z l st Om h4
   have ht1:=λst=>q2i (jw l) 32 st
   apply qe [2,31]
   repeat' (first|apply Qc|(intro h;try exact cDd)|(refine Qk (0) ⟨Om,_,hget0,?_⟩)|exact⟨Tryz.call194⟩|refine cpe hcu ?_|exact⟨Tryz.call40⟩|refine cpe ht1 ?_|exact cSd|apply qc [2,31]|refine exr ?_|refine qf ?_)
   refine zl (X:=Nat) (λk=>⟨[(2,.bx 0 0),(4,.s (zx l)),(7,.tp 1),(33,.a (.sl 1 (r.map λx=>Sv x) none)),(34,.i (r.map λx=>Sv x).length),(35,.i k)],[(0,some (.cells 98 [.s [],.s []])),(1,some (.tip 1 9 ((accK l r k).map λx=>Sv x)))],2⟩) (λk=>k<=r.length∧∀x∈r.take k,qn x=3) (λk=>r.length-k) 0 ⟨Om,Sx⟩ ?_ ?_
   .skip
    repeat' (first|apply Qc|(intro h;try exact cDd)|exact cSd|apply qc []|refine exr ?_|refine qf ?_)
   .rintro k ⟨hk,h3⟩
    have hacl:((accK l r k).map λx=>Sv x).length=k+1:=by unfold accK;simp;omega
    by_cases hlt:k<r.length
    .obtain⟨a,ha⟩:∃a,r[k]?=some a:=⟨_,Qf hlt⟩
     have hget:(r.map λx=>Sv x)[k]?=some (Sv a):=by simp[ha]
     have hav:=hB.val a (by simp[Qq ha])
     have hka:=λst=>qlm a st Om
     have ht2:=λst=>q2i (a.drop 1) 46 st
     have hnx:=q5a (l:=l) ha
     by_cases hk3:qn a=3
     .obtain⟨h2,_⟩:=qi7 hk3
      simp only[hk3]at hka
      have htk:r.take (k+1)=r.take k++[a]:=by
       obtain⟨_,rfl⟩:=Qp.1 ha
       rw[Qs]
      apply qe []
      repeat' (first|apply Qc|(intro h;try exact cDd)|(refine Qk (k) ⟨Om,_,hget,?_⟩)|exact⟨Tryz.call121⟩|refine cpe hka ?_|exact⟨Tryz.call40⟩|refine cpe ht2 ?_|(refine Qk (k+1) ⟨⟨Om,by rw[htk];exact qj1 h3 hk3⟩,Om,?_⟩)|exact cSd|apply qc []|refine exr ?_|refine qf ?_)
      all_goals first|(rw[hnx];done)|(rw[hnx];simp[SV.evs,SV.ev];done)|(simp only[Qo,Qr];omega)
     .have hno:z7 (l::r)=(([],[]),2):=if_neg λh=>hk3 (h.2.2 a (Qq ha))
      unfold qev
      rw[hno]
      apply qe []
      repeat' (first|apply Qc|(intro h;try exact cDd)|(refine Qk (k) ⟨Om,_,hget,?_⟩)|exact⟨Tryz.call121⟩|refine cpe hka ?_|exact absurd (by assumption) hk3|exact cSd|apply qc []|refine exr ?_|refine qf ?_)
    .rw[Zc Om]at h3
     have hkr:k=r.length:=Om
     subst hkr
     have hok:qpd (l::r):=⟨Sx,h4,h3⟩
     have hjl:=qo7 r λs hs=>hB.val s (by simp[hs])
     have hj:=q6o (vo 32 (jw l)) r
     have hjv:Lib.join (accK l r r.length) [10]=yy l r:=by unfold accK;rw[Zv];exact hj
     have htr:(vo 32 (jw l)).length<=l.length:=by unfold vo jw;split <;>simp <;>omega
     have hvl:(yy l r).length<=140737488355328:=by
      unfold yy
      rw[Qj]
      omega
     have hjn:=λtip st=>zc5 (accK l r r.length) tip [10] (yy l r) st hjv (by rw[<-Xf (f:=λx=>Sv x),hacl];omega) hvl
     have hkl:(zx l).length<4294967281:=by have:=hkf.2.2.2.1;omega
     have hun:z7 (l::r)=if 1000<(yy l r).length then(([],[]),6)else((zx l,yy l r),0):=if_pos hok
     have hjn0:=hjn none
     unfold qev
     by_cases hv:1000<(yy l r).length
     .have hcf:j5 (zx l,yy l r)=6:=(if_neg (by simpa using hkf.2.2)).trans (if_pos hv)
      have hck:=λst=>qg1 (zx l,yy l r) st hkl (by rw[hcf];decide)
      rw[hcf]at hck
      rw[hun,if_pos hv]
      apply qe [10]
      repeat' (first|apply Qc|(intro h;try exact cDd)|exact⟨Tryz.call105⟩|refine cpe hjn0 ?_|exact⟨Tryz.call142⟩|refine cpe hck ?_|exact cSd|apply qc [10]|refine exr ?_|refine qf ?_)
     .have hcf:j5 (zx l,yy l r)=0:=(if_neg (by simpa using hkf.2.2)).trans (if_neg hv)
      have hck:=λst=>qg0 (zx l,yy l r) st hkl hcf
      rw[hun,if_neg hv]
      apply qe [10]
      repeat' (first|apply Qc|(intro h;try exact cDd)|exact⟨Tryz.call105⟩|refine cpe hjn0 ?_|exact⟨Tryz.call142⟩|refine cpe hck ?_|exact cSd|apply qc [10]|refine exr ?_|refine qf ?_)
  .have hno:z7 (l::r)=(([],[]),2):=if_neg λh=>h4 h.2.1
   have hcu:=λst=>q0h l st Om h4
   unfold qev
   rw[hno]
   apply qe [2]
   repeat' (first|apply Qc|(intro h;try exact cDd)|(refine Qk (0) ⟨Om,_,hget0,?_⟩)|exact⟨Tryz.call194⟩|refine cpe hcu ?_|exact cSd|apply qc [2]|refine exr ?_|refine qf ?_)
end Go.Proofs.YtapblfabkbdgcaaGreatDoor
namespace Go.Av
open Go Go.RowKit
structure DP where
 q:Prop
 h:Decidable q
def eqC1(u:Option TypeDesc)(x y:SV):Option DP:=
 match u with
 |some (.int _)=>(match yz x,yz y with
  |some (k,m),some (k',n)=>bif decide (k=k')then some ⟨m=n,inferInstance⟩else none
  |_,_=>none)
 |some .string=>(match x,y with
  |.s m,.s n=>some ⟨m=n,inferInstance⟩
  |_,_=>none)
 |some .bool=>(match qi0 x,qi0 y with
  |some a,some b=>some ⟨a=b,inferInstance⟩
  |_,_=>none)
 |_=>none
def eqCs(P:Program):Nat->List Field->List SV->List SV->Option DP
 |_,[],[],[]=>some ⟨True,inferInstance⟩
 |i,f::r,x::xs,y::ys=>bif f.name != "_" &&Nat.beq f.offset i then(match eqC1 (P.underlying f.type) x y,eqCs P (i+1) r xs ys with
  |some a,some b=>some ⟨a.q∧b.q,@instDecidableAnd _ _ a.h b.h⟩
  |_,_=>none)else none
 |_,_,_,_=>none
def agOf:SV->Option (List SV)
 |.ag cs=>some cs
 |.a (.ag xs)=>some (nfs xs)
 |_=>none
theorem q08{v:SV}{cs:List SV}(h:agOf v=some cs)(ρ:Nat->AV):v.ev ρ=.ag (SV.evs ρ cs):=by
 unfold agOf at h
 split at h
 .simp only[Qa]at h;subst h;rfl
 .simp only[Qa]at h;subst h;simp only[SV.ev,qff]
 .simp at h
def qxy:TypeDesc->Bool
 |.struct _=>false
 |.array _ _=>false
 |_=>true
theorem qyz{P:Program}{t:TypeId}{u:TypeDesc}{cs:Array Value}{off:Nat}{a:Value}(w:World)(hu:P.underlying t=some u)(hs:qxy u=true)(h:cs[off]?=some a):(part t cs off).run P w=.ok a w:=by
 unfold part isAgg
 cases u<;>simp[run_underlying hu,h,qxy]at hs⊢
theorem q9h{P:Program}{G:Gh}{ρ:Nat->AV}{t:TypeId}{x y:SV}{a b:Value}{q:DP}{d:Nat}(w:World)(h:eqC1 (P.underlying t) x y=some q)(hx:Rel G (x.ev ρ) a)(hy:Rel G (y.ev ρ) b):
  (Op.equalIn (d+1) t a b).run P w=.ok (@decide q.q q.h) w∧∃u,P.underlying t=some u∧qxy u=true:=by
 unfold eqC1 at h
 split at h
 .rename_i kd hu
  split at h
  .rename_i k m k' n hm hn
   cases hk:decide (k=k')with
   |false=>rw[hk]at h;simp at h
   |true=>
    rw[hk]at h
    simp only[cond_true,Qa]at h
    have hk:=of_decide_eq_true hk
    subst hk
    subst h
    rw[w7 hm]at hx
    rw[w7 hn]at hy
    cases hx
    cases hy
    refine⟨?_,_,hu,rfl⟩
    rw[run_equalIn_int w d t k kd m n hu]
    congr 1
  .simp at h
 .rename_i hu
  split at h
  .rename_i m n
   simp only[Qa]at h
   subst h
   cases hx
   cases hy
   refine⟨?_,_,hu,rfl⟩
   rw[run_equalIn_string w d t _ _ hu]
   simp only[ByteArray.toList_eq]
   congr 1
   by_cases he:m=n<;>simp[he]
  .simp at h
 .rename_i hu
  split at h
  .rename_i m n hm hn
   simp only[Qa]at h
   subst h
   rw[qdm hm]at hx
   rw[qdm hn]at hy
   cases hx
   cases hy
   refine⟨?_,_,hu,rfl⟩
   rw[run_equalIn_bool' w d t _ _ hu]
   congr 1
  .simp at h
 .simp at h
theorem qw4{P:Program}{G:Gh}{ρ:Nat->AV}{d:Nat}(w:World)(us ws:Array Value):∀(i:Nat)(fs:List Field)(xs ys:List SV)(q:DP),eqCs P i fs xs ys=some q->
  (∀j x,xs[j]?=some x->∃a,us[i+j]?=some a∧Rel G (x.ev ρ) a)->(∀j x,ys[j]?=some x->∃a,ws[i+j]?=some a∧Rel G (x.ev ρ) a)->(Op.eqFields (d+1) us ws fs).run P w=.ok (@decide q.q q.h) w
 |i,[],[],[],q,h,_,_=>by
  simp only[eqCs,Qa]at h
  subst h
  simp[Op.eqFields]
 |i,f::r,x::xs,y::ys,q,h,hx,hy=>by
  simp only[eqCs]at h
  cases hc:(f.name != "_" &&Nat.beq f.offset i)with
  |false=>rw[hc]at h;simp at h
  |true=>
   rw[hc]at h
   simp only[Qb]at hc
   obtain⟨hc1,hc2⟩:=hc
   have hc2:=Qg hc2
   simp only[cond_true]at h
   split at h
   .rename_i qa qb h1 h2
    simp only[Qa]at h
    subst h
    obtain⟨a,ha,hra⟩:=hx 0 x rfl
    obtain⟨b,hb,hrb⟩:=hy 0 y rfl
    obtain⟨e1,u,hu,hsc⟩:=q9h (d:=d) w h1 hra hrb
    have ih:=qw4 (d:=d) w us ws (i+1) r xs ys qb h2 (λj z hz=>by
     obtain⟨a,h3,h4⟩:=hx (j+1) z (by simpa using hz)
     exact⟨a,by rw[<-h3];congr 1;omega,h4⟩) (λj z hz=>by
     obtain⟨a,h3,h4⟩:=hy (j+1) z (by simpa using hz)
     exact⟨a,by rw[<-h3];congr 1;omega,h4⟩)
    have hn:f.name≠ "_" :=by simpa using hc1
    rw[Zd,<-hc2]at ha hb
    simp only[Op.eqFields,Sem.run_bind,Sem.run_ite,if_pos hn,qyz w hu hsc ha,qyz w hu hsc hb,Result.andThen_ok,e1]
    rcases(Classical.em qa.q)with hq|hq
    .rw[@decide_eq_true _ qa.h hq]
     simp only[Bool.not_true,Bool.false_eq_true,if_false,ih]
     congr 1
     rcases(Classical.em qb.q)with hr|hr
     .rw[@decide_eq_true _ qb.h hr];exact(@decide_eq_true _ (@instDecidableAnd _ _ qa.h qb.h) ⟨hq,hr⟩).symm
     .rw[@decide_eq_false _ qb.h hr];exact(@decide_eq_false _ (@instDecidableAnd _ _ qa.h qb.h) λh=>hr h.2).symm
    .rw[@decide_eq_false _ qa.h hq]
     simp only[Bool.not_false,if_true,Sem.run_pure]
     congr 1
     exact(@decide_eq_false _ (@instDecidableAnd _ _ qa.h qb.h) λh=>hq h.1).symm
   .simp at h
 |_,[],[],_::_,_,h,_,_=>by simp[eqCs]at h
 |_,[],_::_,_,_,h,_,_=>by simp[eqCs]at h
 |_,_::_,[],_,_,h,_,_=>by simp[eqCs]at h
 |_,_::_,_::_,[],_,h,_,_=>by simp[eqCs]at h
section
variable {E : Env} {N : Nat} {ops : Array Oper} {nx : Nat} {sl : List (Nat × SV)} {H : Nat → Option SR} {k : Ef → Prop} {d : Option Tmp} {T : TypeId} {p : String} {af : Array Edge}
structure EqT (P:Program) (t:TypeId):Prop where
 u:P.underlying t=some (.struct (P.fieldsOf t))
 s:P.stoodInHeld t=false
 g:P.eqGuardType P.depth t=false
theorem q19{G:Gh}{cs:List AV}{v:Value}(h:Rel G (.ag cs) v):∃vs:Array Value,v=.agg vs∧∀(j:Nat)x,cs[j]?=some x->∃a,vs[j]?=some a∧Rel G x a:=by
 cases h with
 |ag _ vs hl h=>
  refine⟨vs,rfl,λj x hx=>?_⟩
  have hj:j<vs.size:=by have:=lt_of_getElem? hx;omega
  exact⟨vs[j],by simp[hj],h j x _ hx (by simp[hj])⟩
theorem zf6{t:TypeId}{v1 v2:Value}{G:Gh}{ρ:Nat->AV}{vx vy:SV}{xs ys:List SV}{q:DP}(ht:EqT E.P t)(hx:agOf vx=some xs)(hy:agOf vy=some ys)(hq:eqCs E.P 0 (E.P.fieldsOf t).toList xs ys=some q)(h1:Rel G (vx.ev ρ) v1)(h2:Rel G (vy.ev ρ) v2)(w:World):
  ∃us ws,v1=.agg us∧v2=.agg ws∧(Op.equalIn 10000 t (.agg us) (.agg ws)).run E.P w=.ok (@decide q.q q.h) w:=by
 rw[q08 hx]at h1
 rw[q08 hy]at h2
 obtain⟨us,rfl,ha⟩:=q19 h1
 obtain⟨ws,rfl,hb⟩:=q19 h2
 refine⟨us,ws,rfl,rfl,?_⟩
 rw[run_equalIn_agg w 9999 t us ws ht.u ht.s]
 refine qw4 (G:=G) (ρ:=ρ) w us ws 0 _ xs ys q hq (λj x hx=>?_) (λj x hx=>?_)
 .rw[Qi]
  exact ha j _ (by rw[jo,Ql,hx];rfl)
 .rw[Qi]
  exact hb j _ (by rw[jo,Ql,hx];rfl)
theorem qvu{t t':TypeId}{x y:Operand}{vx vy:SV}{xs ys:List SV}{q:DP}(ht:EqT E.P t)(hx:sval N sl x=some vx)(hy:sval N sl y=some vy)(h1:agOf vx=some xs)(h2:agOf vy=some ys)(hq:eqCs E.P 0 (E.P.fieldsOf t).toList xs ys=some q)(h:k ⟨.p (¬q.q) (@instDecidableNot _ q.h),[],[],nx⟩):
  ∃e,Loc E N ops ⟨d,.binOp .neq t x y t',T,p,af,none⟩ nx sl H e∧k e:=by
 refine⟨_,z8 λdf rd K rest ρ t1 S hs hk=>qw rfl (qu nofun λB0 w0 G a w _ hI=>?_),h⟩
 have e1:=hI.eval x
 rw[qr hs hx]at e1
 have e2:=hI.eval y
 rw[qr hs hy]at e2
 obtain⟨us,ws,g1,g2,g3⟩:=zf6 ht h1 h2 hq e1 e2 w
 generalize a.eval=ev at g1 g2
 have hg:(eqGuard .neq t x y (.agg us) (.agg ws)).run E.P w=.ok () w:=run_eqGuard_agg w .neq t x y us ws ht.g
 have hd:(!(@decide q.q q.h))= @decide (¬q.q) (@instDecidableNot _ q.h):=by
  rcases(Classical.em q.q)with hq|hq
  .rw[@decide_eq_true _ q.h hq];exact(@decide_eq_false _ (@instDecidableNot _ q.h) λh=>h hq).symm
  .rw[@decide_eq_false _ q.h hq];exact(@decide_eq_true _ (@instDecidableNot _ q.h) hq).symm
 refine⟨.bool (@decide (¬q.q) (@instDecidableNot _ q.h)),w,G,Bv (@decide (¬q.q) (@instDecidableNot _ q.h)),S,?_,.refl G,hI.agree,.v _,hk⟩
 simp only[<-hd]
 simp[execOp,g1,g2,hg,run_neq_struct,g3]
end
end Go.Av
namespace Go.Av
open Go Go.RowKit
theorem q9w(z:Value)(n:Nat):(madeCells #[z] n).toList=Qw n z:=by
 apply List.ext_getElem
 .simp[madeCells]
 .intro i h1 h2
  simp[madeCells,Nat.mod_one]
section
variable {E : Env} {rd : Option Nat} {N : Nat} {ops : Array Oper} {K : AS → Prop} {s : AS} {rest : List Oper} {d : Option Tmp} {T : TypeId} {p : String} {af : Array Edge}
theorem qwe{t e:TypeId}{i:TypeInfo}{z:Value}{x y:Operand}{kl kc:IntKind}{n:Nat}(hx:qg N s x=.v (.int kl n))(hy:qg N s y=.v (.int kc n))(ht:E.P.underlying t=some (.slice e))(hi:E.P.info? e=some i)(hz:i.zero=some z)(hzc:z.cells= #[z])(hsz:i.size=1)
  (hb:i.bytes*n<=281474976710656) (hn:n<=16777216)
  (h:AOps E rd N ops rest K (AS.put ⟨s.t,s.st++[.cells 0 e ((Qw n z).map .v)],s.df⟩ d (.os s.st.length 0 0 n n))):AOps E rd N ops (⟨d,.makeSlice t x y,T,p,af,none⟩::rest) K s:=by
 refine qw rfl (qu nofun λB0 w0 G a w _ hI=>?_)
 have hvx:=hI.evalv hx
 have hvy:=hI.evalv hy
 have hb':(i.bytes:Int)*(n:Int)<=281474976710656:=by
  have h:((i.bytes*n:Nat):Int)<=281474976710656:=Om
  rwa [Int.natCast_mul]at h
 have hrun:=run_makeSlice (P:=E.P) w t e i z ht hi hz kl kc n n Om (Int.le_refl _) (by rw[hsz];simp;omega) hb' Om
 simp only[Int.toNat_natCast,hsz,Nat.mul_one,hzc]at hrun
 have hl:=q9w z n
 have hA:=hI.agree.newCells e (madeCells #[z] n) ((Qw n z).map .v) (by rw[<-hl];simp) λk u v hu hv=>by
  rw[Ql,<-hl]at hu
  have:(madeCells #[z] n).toList[k]?=some v:=by simpa using hv
  rw[this]at hu
  simp only[Xg,Qa]at hu
  subst hu
  exact .v v
 have hN:=hI.agree.n
 refine⟨.slice (some ⟨w.heap.size,0,none⟩) n n,_,_,_,_,?_,G.le_new _ _ _ _,hA,.os _ _ _ _ _ _ (by simp[Gh.new,hN]) (Zw _) (λ_=>by simp[Gh.new,hN]),h⟩
 simp only[execOp,hvx,hvy]
 rw[Sem.run_bind,hrun]
 rfl
end
section
variable {E : Env} {N : Nat} {ops : Array Oper} {nx : Nat} {sl : List (Nat × SV)} {H : Nat → Option SR} {k : Ef → Prop} {d : Option Tmp} {T : TypeId} {p : String} {af : Array Edge}
theorem q98{t e:TypeId}{i:TypeInfo}{z:Value}{x y:Operand}{v u:SV}{kl kc:IntKind}{n:Nat}(hx:sval N sl x=some v)(hv:∀ρ,v.ev ρ=.v (.int kl (n+1:Nat)))(hy:sval N sl y=some u)(hu:∀ρ,u.ev ρ=.v (.int kc (n+1:Nat)))(ht:E.P.underlying t=some (.slice e))(hi:E.P.info? e=some i)(hz:i.zero=some z)(hzc:z.cells= #[z])(hsz:i.size=1)(hone:(AV.v z).one=true)
  (hb:i.bytes*(n+1)<=281474976710656) (hn:n+1<=16777216)
  (h:k ⟨.tp nx,[],[(nx,some (.own 1 e ((Qw (n+1) z).map .v)))],nx+1⟩):∃e,Loc E N ops ⟨d,.makeSlice t x y,T,p,af,none⟩ nx sl H e∧k e:=by
 refine⟨_,qgl (λk r hk=>by rw[qca]at hk;simp at hk) λdf rd K rest ρ t1 S ho _ hk=>qwe (n:=n+1) ((qr ho hx).trans (hv ρ)) ((qr ho hy).trans (hu ρ)) ht hi hz hzc hsz hb hn ?_,h⟩
 have hfl:flat ((Qw (n+1) z).map AV.v)=(Qw (n+1) z).map AV.v:=by
  unfold flat
  rw[List.flatMap_map]
  induction Qw (n+1) z with
  |nil=>rfl
  |cons a r ih=>rw[Zt,ih];rfl
 have:=hk (.os S.length 0 0 (n+1) (n+1)) [.cells 0 e ((Qw (n+1) z).map .v)]
  (.inr ⟨S.length,0,n,[],Sx,by rw[hfl,Zi];exact wu,by rw[hfl];simp,λx hx=>by obtain⟨q,_,rfl⟩:=Zu.1 hx;rfl,Sx,by simp[maxLen];omega⟩)
  (λo ho=>by simp only[ze,Qa]at ho;omega)
 simpa[SV.ev,jc,tpAt,AV.one]using this
end
end Go.Av
namespace Go.Pl
open Go Go.Proofs
structure qx where
 kind:Int
 raw:qd
 fields:List Fld
structure PSt where
 lines:List qd
 frm:Int
 full:Bool
 items:List qx
 block:List qd
 fields:List Fld
 records:Int
def jg(p:PSt):Option (Int×Int)×PSt:=
 if p.lines=[]then(none,p)
 else if(z7 p.lines).2≠0 then(some (p.frm,(z7 p.lines).2),p)
 else if p.full=true then(some (p.frm,11),p)
 else(none,{p with lines:=[],fields:=p.fields++[(z7 p.lines).1]})
end Go.Pl
namespace Go.Proofs.YtapblfabkbdgcaaGreatDoor
open Go Go.Av Go.RowKit Go.Proofs Go.Pl
@[reducible] def jh (x : qx) : AV := .ag [Iv x.kind, Sv x.raw, q6 x.fields]
@[reducible] def jm (xs : List qx) : AV := .sl 3 (xs.map jh) none
@[reducible] def parC (c1 c2 c3 c4 : AV) (p : PSt) : List AV := [c1, Iv p.frm, Bv p.full, c2, c3, c4, Iv p.records]
@[reducible] def parO (c1 c2 c3 c4 : AV) (p : PSt) : AObj := .cells 0 160 (parC c1 c2 c3 c4 p)
structure ParS (b o:Nat) (p:PSt) (st:List AObj) (c1 c2 c3 c4:AV):Prop where
 lt:o<b
 le:b<=st.length
 ob:st[o]?=some (parO c1 c2 c3 c4 p)
 h1:TipC b st 1 9 (p.lines.map λx=>Sv x) c1
 h2:TipC b st 3 107 (p.items.map jh) c2
 h3:TipC b st 1 9 (p.block.map λx=>Sv x) c3
 h4:TipC b st 2 98 (p.fields.map fldA) c4
 ne:∀t xs ys,c1=.sl 1 xs (some t)->c3=.sl 1 ys (some t)->False
structure Keep (b o:Nat) (st st':List AObj):Prop where
 len:st.length<=st'.length
 same:∀k,k≠o->k<st.length->(k<b∨qg8 st[k]?)->st'[k]?=st[k]?
theorem Keep.trans{b o:Nat}{st st' st'':List AObj}(h:Keep b o st st')(k:Keep b o st' st''):Keep b o st st'':=⟨Ze h.len k.len,λi hne hi hc=>by
 have e:=h.same i hne hi hc
 refine(k.same i hne (Nat.lt_of_lt_of_le hi h.len) ?_).trans e
 rw[e]
 exact hc⟩
def qfb(a n:Int):AV:=.ifc 73 (.pp [Iv a,.ifc 50 (Iv n)])
def errP:Option (Int×Int)->AV
 |none=>.v .nilIface
 |some (a,n)=>qfb a n
theorem qin(a n:Int):Pure (qfb a n):=qeq (qss λx hx=>by
 simp only[Zz,List.not_mem_nil,or_false]at hx
 rcases hx with rfl|rfl
 .exact qt _
 .exact qeq (qt _))
theorem qka(a n:Int)(st:List AObj):ql E 123 [Iv a,.ifc 50 (Iv n)] st λr st'=>r=qfb a n∧st'=st:=by
 refine zr (qin a n) (qy Tryz.func123 rfl (Qh rfl) ?_)
 repeat' (first|(apply qk2;(iterate 3 exact rfl))|apply qp|apply qj|apply qi|apply qm|apply qk|(apply vp;exact rfl;exact rfl)|(apply y8;(iterate 3 exact rfl))|apply zg)
 exact qs rfl (zj rfl) ⟨rfl,_,rfl⟩
theorem q41(ls:List qd)(t:Option Nat)(st:List AObj)(hB:LsB ls)(h:(z7 ls).2=0):ql E 167 [.sl 1 (ls.map λx=>Sv x) t] st λr st'=>r=.tu [fldA (z7 ls).1,.v .nilIface]∧st'=st:=by
 have:=qkv ls st hB
 unfold qev at this
 rw[h]at this
 exact qm7 (qkq _ _ _) this
theorem q42(ls:List qd)(t:Option Nat)(st:List AObj)(hB:LsB ls)(h:(z7 ls).2≠0):ql E 167 [.sl 1 (ls.map λx=>Sv x) t] st λr st'=>r=.tu [fldA (z7 ls).1,.ifc 50 (Iv (z7 ls).2)]∧st'=st:=by
 have:=qkv ls st hB
 unfold qev at this
 rw[qi5 h]at this
 exact qm7 (qkq _ _ _) this
structure PB (n:Nat) (p:PSt):Prop where
 small:n<900000
 lines:p.lines.length<=n
 linesV:∀s∈p.lines,s.length<1000000
 items:p.items.length<=n
 block:p.block.length<=n
 blockV:∀s∈p.block,s.length<1000000
 fields:p.fields.length<=n
 rec0:0<=p.records
 rec1:p.records<=n
theorem PB.ls{n:Nat}{p:PSt}(h:PB n p):LsB p.lines:=⟨by have:=h.lines;have:=h.small;omega,h.linesV⟩
theorem ParS.pre{b o:Nat}{p:PSt}{st l:List AObj}{c1 c2 c3 c4:AV}(P:ParS b o p st c1 c2 c3 c4):ParS b o p (st++l) c1 c2 c3 c4:=
 ⟨P.lt,by have:=P.le;simp;omega,qdf P.ob,qhh P.h1,qhh P.h2,qhh P.h3,qhh P.h4,P.ne⟩
end Go.Proofs.YtapblfabkbdgcaaGreatDoor
namespace Go.Pl
open Go Go.Proofs
def w9(p:PSt):PSt:=
 if p.block=[]then {p with block:=[],fields:=[]}
 else {p with items:=p.items++[⟨if p.fields=[]then 2 else 3,zb p.block,p.fields⟩],records:=if p.fields=[]then p.records else p.records+1,block:=[],fields:=[]}
def endP(p:PSt):Option (Int×Int)×PSt:=match(jg p).1 with
 |some e=>(some e,p)
 |none=>(none,w9 (jg p).2)
theorem qll:∀(x:qd)(r:List qd),Lib.join (x::r) [10]++[10]=zb (x::r)
 |x,[]=>by rw[Lib.join_one];simp[zb]
 |x,y::r=>by
  have ih:=qll y r
  rw[Lib.join_cons]at ih⊢
  unfold Lib.joinTail at ih⊢
  simp only[Zb,List.flatten_cons,zb,Zt]at ih⊢
  rw[<-ih]
  simp
theorem qko:∀(r:List qd),(∀s∈r,s.length<1000000)->(zb r).length<=1000001*r.length
 | [],_=>by simp[zb]
 |a::r,h=>by
  have ih:=qko r λs hs=>h s (by simp[hs])
  have ha:=h a Sx
  simp only[zb,Zt,Qj,Qo,Qr]at ih⊢
  omega
end Go.Pl
namespace Go.Proofs.YtapblfabkbdgcaaGreatDoor
open Go Go.Av Go.RowKit Go.Proofs Go.Pl
theorem qfd{n:Nat}{p:PSt}(h:PB n p)(hs:n+1<900000):PB (n+1) (jg p).2:=by
 have h1:=h.lines;have h2:=h.items;have h3:=h.block;have h4:=h.fields;have h5:=h.rec0;have h6:=h.rec1
 unfold jg
 split
 .exact⟨hs,by simp only;omega,h.linesV,by simp only;omega,by simp only;omega,h.blockV,by simp only;omega,h5,by simp only;omega⟩
 .split
  .exact⟨hs,by simp only;omega,h.linesV,by simp only;omega,by simp only;omega,h.blockV,by simp only;omega,h5,by simp only;omega⟩
  .split
   .exact⟨hs,by simp only;omega,h.linesV,by simp only;omega,by simp only;omega,h.blockV,by simp only;omega,h5,by simp only;omega⟩
   .exact⟨hs,Sx,Sx,by simp only;omega,by simp only;omega,h.blockV,So,h5,by simp only;omega⟩
theorem zc4(xs:List qd)(tip:Option Nat)(st:List AObj)(hne:xs≠[])(hN:xs.length<=900000)(hv:∀s∈xs,s.length<1000000):ql E 105 [.sl 1 (xs.map λx=>Sv x) tip,Sv [10]] st λr st'=>r=Sv (Lib.join xs [10])∧st'=st:=by
 refine q6n xs tip [10] st Om ?_
 have h1:=qko xs hv
 cases xs with
 |nil=>exact absurd rfl hne
 |cons x r=>
  have h2:=congrArg Zx (qll x r)
  rw[Qj]at h2
  simp only[Qo,Qr]at h2 h1 hN
  omega
def parH(a:Nat)(p:PSt):List (Nat×Option SR):=[(0,some (.cells 160 [.tp a,.i p.frm,.b p.full,.tp (a+1),.tp (a+2),.tp (a+3),.i p.records])),(a,some (.tip 1 9 (p.lines.map λx=>Sv x))),(a+1,some (.tip 3 107 (p.items.map jh))),(a+2,some (.tip 1 9 (p.block.map λx=>Sv x))),(a+3,some (.tip 2 98 (p.fields.map fldA)))]
theorem qok(n:Nat)(p:PSt)(hB:PB n p):j9 E 125 [.bx 0 0] 5 (hpF (parH 1 p)) ⟨.a (errP (jg p).1),jt (parH 1 p),parH 5 (jg p).2++ku (parH 1 p),9⟩:=by
 refine v8 [.bx 0 0] (parH 1 p) 5 (.a (errP (jg p).1)) (parH 5 (jg p).2) 9 Tryz.func125 rfl rfl rfl rfl λS F ρ=>?_
 have hls:=hB.ls
 have hsm:=hB.small
 have hfl:=hB.fields
 by_cases h0:p.lines=[]
 .have e:jg p=(none,p):=by unfold jg;rw[if_pos h0]
  rw[e]
  have hl0:(p.lines.map λx=>Sv x).length=0:=by simp[h0]
  apply qe []
  repeat' (first|apply Qc|(intro h;try exact cDd)|exact cSd|apply qc []|refine exr ?_|refine qf ?_)
 .have hl0:(p.lines.map λx=>Sv x).length≠0:=by simp[h0]
  by_cases hu:(z7 p.lines).2=0
  .have hun:=λst=>q41 p.lines none st hls hu
   cases hf:p.full with
   |true=>
    have e:jg p=(some (p.frm,11),p):=by unfold jg;rw[if_neg h0,if_neg (by simp[hu]),if_pos hf]
    rw[e]
    have hft:=λst=>qka p.frm 11 st
    apply qe []
    repeat' (first|apply Qc|(intro h;try exact cDd)|exact⟨Tryz.call167⟩|refine cpe hun ?_|exact⟨Tryz.call123⟩|refine cpe hft ?_|(exact absurd (by assumption:p.full=false) (by rw[hf];decide))|exact cSd|apply qc []|refine exr ?_|refine qf ?_)
   |false=>
    have e:jg p=(none,{p with lines:=[],fields:=p.fields++[(z7 p.lines).1]}):=by unfold jg;rw[if_neg h0,if_neg (by simp[hu]),if_neg (by simp[hf])]
    rw[e]
    apply qe [51]
    repeat' (first|apply Qc|(intro h;try exact cDd)|exact⟨Tryz.call167⟩|refine cpe hun ?_|(exact absurd (by assumption:p.full=true) (by rw[hf];decide))|exact cSd|apply qc [51]|refine exr ?_|refine qf ?_)
    all_goals first|(simp[SV.evs,SV.ev];done)|(simp[SV.evs];omega)
  .have hun:=λst=>q42 p.lines none st hls hu
   have e:jg p=(some (p.frm,(z7 p.lines).2),p):=by unfold jg;rw[if_neg h0,if_pos hu]
   rw[e]
   have hft:=λst=>qka p.frm (z7 p.lines).2 st
   apply qe []
   repeat' (first|apply Qc|(intro h;try exact cDd)|exact⟨Tryz.call167⟩|refine cpe hun ?_|exact⟨Tryz.call123⟩|refine cpe hft ?_|exact cSd|apply qc []|refine exr ?_|refine qf ?_)
theorem q15(n:Nat)(p:PSt)(hB:PB n p)(hs:n+1<900000):j9 E 84 [.bx 0 0] 5 (hpF (parH 1 p)) ⟨.a (errP (endP p).1),jt (parH 1 p),parH 5 (endP p).2++ku (parH 1 p),9⟩:=by
 refine v8 [.bx 0 0] (parH 1 p) 5 (.a (errP (endP p).1)) (parH 5 (endP p).2) 9 Tryz.func84 rfl rfl rfl rfl λS F ρ=>?_
 have hfc:=qok n p hB
 have hB2:=qfd hB hs
 have hsame:∀e,(jg p).1=some e->(jg p).2=p:=λe=>by
  unfold jg
  split
  .simp
  .split
   .simp
   .split
    .simp
    .simp
 unfold endP
 generalize jg p=fq at hfc hB2 hsame
 obtain⟨fe,q⟩:=fq
 cases fe with
 |some e=>
  obtain rfl:=hsame e rfl
  obtain⟨a,k⟩:=e
  apply qe []
  repeat' (first|apply Qc|(intro h;try exact cDd)|exact⟨Tryz.call125⟩|(refine jf hfc ?_)|exact cSd|apply qc []|refine exr ?_|refine qf ?_)
 |none=>
  dsimp only at hB2 hfc
  have h3:=hB2.fields
  have h4:=hB2.rec0
  have h5:=hB2.rec1
  have h1:=hB2.block
  have h2:=hB2.items
  by_cases hb:q.block=[]
  .have e:w9 q={q with block:=[],fields:=[]}:=by unfold w9;rw[if_pos hb]
   simp only[e]
   have hl0:(q.block.map λx=>Sv x).length=0:=by simp[hb]
   apply qe []
   repeat' (first|apply Qc|(intro h;try exact cDd)|exact⟨Tryz.call125⟩|(refine jf hfc ?_)|exact cSd|apply qc []|refine exr ?_|refine qf ?_)
  .have hl0:(q.block.map λx=>Sv x).length≠0:=by simp[hb]
   have hbl:=qko q.block hB2.blockV
   obtain⟨b,r,hbr⟩:∃b r,q.block=b::r:=by
    cases hq:q.block with
    |nil=>exact absurd hq hb
    |cons b r=>exact⟨b,r,rfl⟩
   have hjt:=qll b r
   rw[<-hbr]at hjt
   have hjl:=congrArg Zx hjt
   simp only[Qj,Qo,Qr]at hjl
   have hjo:=λst=>zc4 q.block none st hb Om hB2.blockV
   by_cases hf:q.fields=[]
   .have e:w9 q={q with items:=q.items++[⟨2,zb q.block,q.fields⟩],records:=q.records,block:=[],fields:=[]}:=by unfold w9;rw[if_neg hb,if_pos hf,if_pos hf]
    simp only[e]
    have hl1:(q.fields.map fldA).length=0:=by simp[hf]
    apply qe []
    repeat' (first|apply Qc|(intro h;try exact cDd)|exact⟨Tryz.call125⟩|(refine jf hfc ?_)|exact⟨Tryz.call105⟩|refine cpe hjo ?_|exact cSd|apply qc []|refine exr ?_|refine qf ?_)
    all_goals first|(simp[SV.evs,SV.ev,hjt];done)|(simp[SV.evs];omega)
   .have e:w9 q={q with items:=q.items++[⟨3,zb q.block,q.fields⟩],records:=q.records+1,block:=[],fields:=[]}:=by unfold w9;rw[if_neg hb,if_neg hf,if_neg hf]
    simp only[e]
    have hl1:(q.fields.map fldA).length≠0:=by simp[hf]
    apply qe []
    repeat' (first|apply Qc|(intro h;try exact cDd)|exact⟨Tryz.call125⟩|(refine jf hfc ?_)|exact⟨Tryz.call105⟩|refine cpe hjo ?_|exact cSd|apply qc []|refine exr ?_|refine qf ?_)
    all_goals first|(simp[SV.evs,SV.ev,hjt];done)|(simp[SV.evs];omega)
end Go.Proofs.YtapblfabkbdgcaaGreatDoor
namespace Go.Pl
open Go Go.Proofs
def jz(p:PSt)(no:Int)(text:qd):PSt:={p with lines:=[text],frm:=no,full:=decide (p.fields.length=40∨(p.fields.length=0∧p.records=400))}
def jd(p:PSt)(no:Int)(text:qd)(ended:Bool)(kind:Int):Option (Int×Int)×PSt:=
 if kind=3 then
  if p.lines=[]then(some (no,2),p)
  else if ended=true then(none,{p with lines:=p.lines++[text]})
  else jg {p with lines:=p.lines++[text]}
 else if kind=1 then endP p
 else jg p
def vu(p:PSt)(no:Int)(text:qd)(ended:Bool):Option (Int×Int)×PSt:=
 match(jd p no text ended (qn text)).1 with
 |some e=>(some e,p)
 |none=>
  if qn text=5∨ended=false then(some (no,2),p)
  else if qn text=1 then(none,{(jd p no text ended (qn text)).2 with items:=(jd p no text ended (qn text)).2.items++[⟨1,text++[10],[]⟩]})
  else if qn text=4 then(none,{jz (jd p no text ended (qn text)).2 no text with block:=(jd p no text ended (qn text)).2.block++[text]})
  else(none,{(jd p no text ended (qn text)).2 with block:=(jd p no text ended (qn text)).2.block++[text]})
end Go.Pl
namespace Go.Proofs.YtapblfabkbdgcaaGreatDoor
open Go Go.Av Go.RowKit Go.Proofs Go.Pl
theorem PB.more{n m:Nat}{p:PSt}(h:PB n p)(hm:n<=m)(hs:m<900000):PB m p:=by
 have h1:=h.lines;have h2:=h.items;have h3:=h.block;have h4:=h.fields;have h5:=h.rec0;have h6:=h.rec1
 exact⟨hs,Om,h.linesV,Om,Om,h.blockV,Om,h5,Om⟩
theorem q50{n:Nat}{p:PSt}(h:PB n p)(hs:n+1<900000):PB (n+1) (w9 p):=by
 have h1:=h.lines;have h2:=h.items;have h3:=h.block;have h4:=h.fields;have h5:=h.rec0;have h6:=h.rec1
 unfold w9
 split
 .exact⟨hs,by simp only;omega,h.linesV,by simp only;omega,Sx,Sx,Sx,h5,by simp only;omega⟩
 .refine⟨hs,by simp only;omega,h.linesV,So,Sx,Sx,Sx,?_,?_⟩
  .simp only;split <;>omega
  .simp only;split <;>omega
theorem qo0{n:Nat}{p:PSt}{text:qd}(h:PB n p)(hs:n+1<900000)(ht:text.length<1000000):PB (n+1) {p with lines:=p.lines++[text]}:=by
 have h1:=h.lines;have h2:=h.items;have h3:=h.block;have h4:=h.fields;have h5:=h.rec0;have h6:=h.rec1
 exact⟨hs,So,qj1 h.linesV ht,by simp only;omega,by simp only;omega,h.blockV,by simp only;omega,h5,by simp only;omega⟩
theorem qye{n:Nat}{p:PSt}{text:qd}(h:PB n p)(hs:n+1<900000)(ht:text.length<1000000):PB (n+1) {p with block:=p.block++[text]}:=by
 have h1:=h.lines;have h2:=h.items;have h3:=h.block;have h4:=h.fields;have h5:=h.rec0;have h6:=h.rec1
 exact⟨hs,by simp only;omega,h.linesV,by simp only;omega,So,qj1 h.blockV ht,by simp only;omega,h5,by simp only;omega⟩
theorem zac{n:Nat}{p:PSt}{x:qx}(h:PB n p)(hs:n+1<900000):PB (n+1) {p with items:=p.items++[x]}:=by
 have h1:=h.lines;have h2:=h.items;have h3:=h.block;have h4:=h.fields;have h5:=h.rec0;have h6:=h.rec1
 exact⟨hs,by simp only;omega,h.linesV,So,by simp only;omega,h.blockV,by simp only;omega,h5,by simp only;omega⟩
theorem zab{n:Nat}{p:PSt}{no:Int}{text:qd}(h:PB n p)(hs:n+1<900000)(ht:text.length<1000000):PB (n+1) (jz p no text):=by
 have h1:=h.lines;have h2:=h.items;have h3:=h.block;have h4:=h.fields;have h5:=h.rec0;have h6:=h.rec1
 exact⟨hs,by simp[jz],by simp[jz,ht],by simp only[jz];omega,by simp only[jz];omega,h.blockV,by simp only[jz];omega,h5,by simp only[jz];omega⟩
theorem qhl{n:Nat}{p:PSt}{no:Int}{text:qd}{ended:Bool}{kind:Int}(h:PB n p)(hs:n+2<900000)(ht:text.length<1000000):PB (n+2) (jd p no text ended kind).2:=by
 unfold jd
 split
 .split
  .exact h.more Om hs
  .split
   .exact(qo0 h Om ht).more Om hs
   .exact qfd (qo0 h Om ht) hs
 .split
  .unfold endP
   split
   .exact h.more Om hs
   .exact q50 (qfd h Om) hs
  .exact(qfd h Om).more Om hs
theorem qqy(l:qd):1<=qn l∧qn l<=5:=by
 unfold qn
 repeat' split
 all_goals decide
theorem qo9{n:Nat}{p:PSt}{no:Int}{text:qd}{ended:Bool}(h:PB n p)(hs:n+4<900000)(ht:text.length<1000000):PB (n+4) (vu p no text ended).2:=by
 have h2:PB (n+2) (jd p no text ended (qn text)).2:=qhl h Om ht
 unfold vu
 split
 .exact h.more Om hs
 .split
  .exact h.more Om hs
  .split
   .exact(zac h2 Om).more Om hs
   .split
    .exact qye (zab h2 Om ht) hs ht
    .exact(qye h2 Om ht).more Om hs
theorem q7i(n:Nat)(p:PSt)(no at':Int)(text:qd)(ended:Bool)(hB:PB n p):j9 E 124 [.bx 0 0,.ag [.i no,.i at',.s text,.b ended]] 5 (hpF (parH 1 p)) ⟨.tu [],jt (parH 1 p),parH 5 (jz p no text)++ku (parH 1 p),9⟩:=by
 refine v8 [.bx 0 0,.ag [.i no,.i at',.s text,.b ended]] (parH 1 p) 5 (.tu []) (parH 5 (jz p no text)) 9 Tryz.func124 rfl rfl rfl rfl λS F ρ=>?_
 obtain⟨ls,fr,fu,its,bk,fs,rc⟩:=p
 have hml:(fs.map fldA).length=fs.length:=Sx
 by_cases ha:fs.length=40∨(fs.length=0∧rc=400)
 .have e:jz ⟨ls,fr,fu,its,bk,fs,rc⟩ no text=⟨[text],no,true,its,bk,fs,rc⟩:=by
   unfold jz
   simp only[decide_eq_true ha]
  rw[e]
  apply qe [29]
  repeat' (first|apply Qc|(intro h;try exact cDd)|exact cSd|apply qc [29]|refine exr ?_|refine qf ?_)
  all_goals (intros;simp only[hml]at *;first|(exfalso;omega)|(have hrc:rc=400:=Om;subst hrc;rfl))
 .have e:jz ⟨ls,fr,fu,its,bk,fs,rc⟩ no text=⟨[text],no,false,its,bk,fs,rc⟩:=by
   unfold jz
   simp only[decide_eq_false ha]
  rw[e]
  apply qe [29]
  repeat' (first|apply Qc|(intro h;try exact cDd)|exact cSd|apply qc [29]|refine exr ?_|refine qf ?_)
  all_goals (intros;simp only[hml]at *;first|(exfalso;omega)|(have hrc:¬rc=400:=Om;simp[SV.evs,SV.ev,SV.rens,SV.ren,lkS,vd,hrc];exact⟨rfl,rfl,rfl⟩))
theorem qub(n:Nat)(p:PSt)(no at':Int)(text:qd)(ended:Bool)(kind:Int)(hB:PB n p)(hs:n+2<900000)(ht:text.length<1000000):j9 E 122 [.bx 0 0,.ag [.i no,.i at',.s text,.b ended],.i kind] 5 (hpF (parH 1 p)) ⟨.a (errP (jd p no text ended kind).1),jt (parH 1 p),parH 5 (jd p no text ended kind).2++ku (parH 1 p),9⟩:=by
 refine v8 [.bx 0 0,.ag [.i no,.i at',.s text,.b ended],.i kind] (parH 1 p) 5 (.a (errP (jd p no text ended kind).1)) (parH 5 (jd p no text ended kind).2) 9 Tryz.func122 rfl rfl rfl rfl λS F ρ=>?_
 unfold jd
 by_cases hk3:kind=3
 .rw[if_pos hk3]
  by_cases h0:p.lines=[]
  .rw[if_pos h0]
   have hl0:(p.lines.map λx=>Sv x).length=0:=by simp[h0]
   have hft:=λst=>qka no 2 st
   apply qe []
   repeat' (first|apply Qc|(intro h;try exact cDd)|exact⟨Tryz.call123⟩|refine cpe hft ?_|exact cSd|apply qc []|refine exr ?_|refine qf ?_)
  .rw[if_neg h0]
   have hl0:(p.lines.map λx=>Sv x).length≠0:=by simp[h0]
   have hll:=hB.lines
   have hsm:=hB.small
   have hml:(p.lines.map λx=>Sv x).length=p.lines.length:=Sx
   have hfc:=qok (n+1) {p with lines:=p.lines++[text]} (qo0 hB Om ht)
   cases ended with
   |true=>
    rw[if_pos rfl]
    apply qe []
    repeat' (first|apply Qc|(intro h;try exact cDd)|(exact absurd (by assumption:true=false) (by decide))|exact cSd|apply qc []|refine exr ?_|refine qf ?_)
    all_goals first|(simp[SV.evs,SV.ev];done)|(simp[SV.evs];omega)
   |false=>
    rw[if_neg (by decide)]
    apply qe []
    repeat' (first|apply Qc|(intro h;try exact cDd)|(exact absurd (by assumption:false=true) (by decide))|exact⟨Tryz.call125⟩|(refine jf hfc ?_)|exact cSd|apply qc []|refine exr ?_|refine qf ?_)
    all_goals first|(simp[SV.evs,SV.ev];done)|(simp[SV.evs];omega)
 .rw[if_neg hk3]
  by_cases hk1:kind=1
  .rw[if_pos hk1]
   have hfc:=q15 n p hB Om
   apply qe []
   repeat' (first|apply Qc|(intro h;try exact cDd)|exact⟨Tryz.call84⟩|(refine jf hfc ?_)|exact cSd|apply qc []|refine exr ?_|refine qf ?_)
  .rw[if_neg hk1]
   have hfc:=qok n p hB
   apply qe []
   repeat' (first|apply Qc|(intro h;try exact cDd)|exact⟨Tryz.call125⟩|(refine jf hfc ?_)|exact cSd|apply qc []|refine exr ?_|refine qf ?_)
theorem zad(n:Nat)(p:PSt)(no at':Int)(text:qd)(ended:Bool)(hB:PB n p)(hs:n+4<900000)(ht:text.length<1000000)(hok:(vu p no text ended).1=none):j9 E 83 [.bx 0 0,.ag [.i no,.i at',.s text,.b ended]] 5 (hpF (parH 1 p)) ⟨.a (.v .nilIface),jt (parH 1 p),parH 5 (vu p no text ended).2++ku (parH 1 p),9⟩:=by
 refine v8 [.bx 0 0,.ag [.i no,.i at',.s text,.b ended]] (parH 1 p) 5 (.a (.v .nilIface)) (parH 5 (vu p no text ended).2) 9 Tryz.func83 rfl rfl rfl rfl λS F ρ=>?_
 have hfc:=qub n p no at' text ended (qn text) hB Om ht
 have hB1:=qhl (no:=no) (text:=text) (ended:=ended) (kind:=qn text) hB Om ht
 have hkr:=qqy text
 have hkd:=λst=>qlm text st Om
 unfold vu at hok⊢
 generalize jd p no text ended (qn text)=fq at hfc hB1 hok⊢
 obtain⟨fe,q⟩:=fq
 cases fe with
 |some e=>exact absurd hok Sx
 |none=>
  dsimp only at hB1 hfc hok⊢
  have h1:=hB1.block
  have h2:=hB1.items
  have hmb:(q.block.map λx=>Sv x).length=q.block.length:=Sx
  have hmi:(q.items.map jh).length=q.items.length:=Sx
  by_cases hk:qn text=5∨ended=false
  .rw[if_pos hk]at hok
   exact absurd hok Sx
  .rw[if_neg hk]at hok⊢
   have hk5:qn text≠5:=λh=>hk (.inl h)
   obtain rfl:ended=true:=by cases ended<;>simp_all
   by_cases hk1:qn text=1
   .rw[if_pos hk1]
    apply qe []
    repeat' (first|apply Qc|(intro h;try exact cDd)|exact⟨Tryz.call121⟩|refine cpe hkd ?_|exact⟨Tryz.call122⟩|(refine jf hfc ?_)|(exact absurd (by assumption:true=false) (by decide))|exact cSd|apply qc []|refine exr ?_|refine qf ?_)
    all_goals first|(simp[SV.evs,SV.ev];done)|(simp[SV.evs];omega)
   .rw[if_neg hk1]
    by_cases hk4:qn text=4
    .rw[if_pos hk4]
     have hbc:=q7i (n+2) q no at' text true hB1
     apply qe []
     repeat' (first|apply Qc|(intro h;try exact cDd)|exact⟨Tryz.call121⟩|refine cpe hkd ?_|exact⟨Tryz.call122⟩|(refine jf hfc ?_)|exact⟨Tryz.call124⟩|(refine jf hbc ?_)|(exact absurd (by assumption:true=false) (by decide))|exact cSd|apply qc []|refine exr ?_|refine qf ?_)
     all_goals first|(simp[SV.evs,SV.ev,jz];done)|(simp[SV.evs,jz];omega)
    .rw[if_neg hk4]
     apply qe []
     repeat' (first|apply Qc|(intro h;try exact cDd)|exact⟨Tryz.call121⟩|refine cpe hkd ?_|exact⟨Tryz.call122⟩|(refine jf hfc ?_)|(exact absurd (by assumption:true=false) (by decide))|exact cSd|apply qc []|refine exr ?_|refine qf ?_)
     all_goals first|(simp[SV.evs,SV.ev];done)|(simp[SV.evs];omega)
theorem zae(n:Nat)(p:PSt)(no at':Int)(text:qd)(ended:Bool)(hB:PB n p)(hs:n+4<900000)(ht:text.length<1000000)(a m:Int)(hok:(vu p no text ended).1=some (a,m)):j9 E 83 [.bx 0 0,.ag [.i no,.i at',.s text,.b ended]] 5 (hpF (parH 1 p)) ⟨.a (qfb a m),jt (parH 1 p),parH 5 (jd p no text ended (qn text)).2++ku (parH 1 p),9⟩:=by
 refine v8 [.bx 0 0,.ag [.i no,.i at',.s text,.b ended]] (parH 1 p) 5 (.a (qfb a m)) (parH 5 (jd p no text ended (qn text)).2) 9 Tryz.func83 rfl rfl rfl rfl λS F ρ=>?_
 have hfc:=qub n p no at' text ended (qn text) hB Om ht
 have hB1:=qhl (no:=no) (text:=text) (ended:=ended) (kind:=qn text) hB Om ht
 have hkr:=qqy text
 have hkd:=λst=>qlm text st Om
 unfold vu at hok
 generalize jd p no text ended (qn text)=fq at hfc hB1 hok⊢
 obtain⟨fe,q⟩:=fq
 cases fe with
 |some e=>
  dsimp only at hB1 hfc hok⊢
  obtain rfl:e=(a,m):=by simpa using hok
  apply qe []
  repeat' (first|apply Qc|(intro h;try exact cDd)|exact⟨Tryz.call121⟩|refine cpe hkd ?_|exact⟨Tryz.call122⟩|(refine jf hfc ?_)|exact cSd|apply qc []|refine exr ?_|refine qf ?_)
 |none=>
  dsimp only at hB1 hfc hok⊢
  by_cases hk:qn text=5∨ended=false
  .rw[if_pos hk]at hok
   obtain⟨rfl,rfl⟩:no=a∧2=m:=by simpa using hok
   have hft:=λst=>qka no 2 st
   cases ended with
   |true=>
    have hk5:qn text=5:=by simpa using hk
    apply qe []
    repeat' (first|apply Qc|(intro h;try exact cDd)|exact⟨Tryz.call121⟩|refine cpe hkd ?_|exact⟨Tryz.call123⟩|refine cpe hft ?_|exact⟨Tryz.call122⟩|(refine jf hfc ?_)|(exact absurd (by assumption:true=false) (by decide))|exact cSd|apply qc []|refine exr ?_|refine qf ?_)
   |false=>
    apply qe []
    repeat' (first|apply Qc|(intro h;try exact cDd)|exact⟨Tryz.call121⟩|refine cpe hkd ?_|exact⟨Tryz.call123⟩|refine cpe hft ?_|exact⟨Tryz.call122⟩|(refine jf hfc ?_)|(exact absurd (by assumption:false=true) (by decide))|exact cSd|apply qc []|refine exr ?_|refine qf ?_)
  .rw[if_neg hk]at hok
   split at hok
   .simp at hok
   .split at hok
    .simp at hok
    .simp at hok
end Go.Proofs.YtapblfabkbdgcaaGreatDoor
