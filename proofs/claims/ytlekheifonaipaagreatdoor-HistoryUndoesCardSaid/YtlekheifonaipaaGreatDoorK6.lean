/- Contracts and plain facts that the closing text leans on (part 6). No condition of their own beyond those that each states. -/
import Derived.Test.YtlekheifonaipaaGreatDoorK5
import Derived.MapKept
set_option maxRecDepth 100000
set_option linter.unusedVariables false
set_option linter.unusedSimpArgs false
open And renaming intro→Qd
open Bool renaming and_eq_true→Qb,or_eq_true→Zg,or_false→Zz,false_or→Xp,or_true→Xq,true_or→Xr
open Exists renaming intro→Ql
open List renaming length_append→Qc,all_eq_true→Qf,getElem?_set_ne→Qg,getElem?_eq_getElem→Qj,getElem?_map→Qo,getElem?_eq_some_iff→Qp,mem_of_getElem?→Qq,length_cons→Qr,length_nil→Qs,length_set→Qt,set_eq_of_length_le→Qu,take_append_getElem→Qv,getElem?_cons_zero→Qw,getElem?_append_left→Qy,map_cons→Qz,any_eq_true→Zb,take_of_length_le→Zc,getD→Zi,append_assoc→Zk,take_succ_eq_append_getElem→Zl,length_take→Zn,take_append_drop→Zo,append_nil→Zp,take_append_of_le_length→Zq,nodup_nil→Zr,any_cons→Zs,mem_or_eq_of_mem_set→Zt,take_length→Zu,length→Zv,take_left→Zw,mem_of_mem_take→Zx,mem_cons→Zy,length_pos_iff→Xa,mem_map→Xb,getElem?_drop→Xc,any_nil→Xd,ext_getElem?→Xf,flatMap_cons→Xg,cons_append→Xi,length_map→Xj,map_append→Xk,nil_append→Xl,drop_zero→Xo,map_nil→Xt
open Nat renaming blt→Qe,eq_of_beq_eq_true→Qh,le_of_ble_eq_true→Qi,zero_add→Qk,le_refl→Qm,ble→Qn,beq→Qx,le_trans→Zd,ble_eq_true_of_le→Ze,mul_le_mul_right→Zf,add_zero→Zh,lt_trichotomy→Xe,zero_le→Xh,testBit_or→Xm,succ_mul→Xs
open Option renaming getD_some→Zm
open Option.some renaming injEq→Qa,inj→Xv
open Prod renaming snd→Zj,fst→Xu
open Prod.mk renaming injEq→Za
namespace Go.Av
open Go Go.RowKit
def cf{α:Type}(L:Nat->Bool):Nat->List (List (Nat×α))->List (Nat×α)->List (Nat×α)
 |_,[],base=>base
 |i,c::r,base=>cf L (i+1) r (bif L i then c++base else base)
def yp{α:Type}(L:Nat->Bool)(k:Nat):Nat->List (List (Nat×α))->Option α
 |_,[]=>none
 |i,c::r=>match yp L k (i+1) r with
  |some v=>some v
  |none=>bif L i then lkS c k else none
theorem qfg{α:Type}(L:Nat->Bool)(k:Nat):∀(i:Nat)(chs:List (List (Nat×α)))(base:List (Nat×α)),lkS (cf L i chs base) k=match yp L k i chs with|some v=>some v|none=>lkS base k
 |_,[],_=>rfl
 |i,c::r,base=>by
  simp only[cf,yp];rw[qfg L k (i+1) r]
  cases yp L k (i+1) r with
  |some v=>rfl
  |none=>
   cases L i with
   |true=>simp only[cond_true];rw[qez];cases lkS c k<;>rfl
   |false=>rfl
theorem qeg{α:Type}{L L':Nat->Bool}{k:Nat}:∀{i:Nat}{chs:List (List (Nat×α))},(∀j c,chs[j]?=some c->lkS c k≠none->L (i+j)=L' (i+j))->yp L k i chs=yp L' k i chs
 |_,[],_=>rfl
 |i,c::r,h=>by
  simp only[yp]
  rw[qeg (L:=L) (L':=L') (i:=i+1) (chs:=r) λj c hc hl=>by
   have:=h (j+1) c (by simpa using hc) hl;rw[show i+1+j=i+(j+1)by omega]
   exact this]
  cases yp L' k (i+1) r with
  |some v=>rfl
  |none=>
   simp only
   cases hl:lkS c k with
   |none=>cases L i<;>cases L' i<;>rfl
   |some v=>
    have:=h 0 c rfl (by rw[hl];simp);rw[Zh]at this;rw[this]
theorem qko{α:Type}{L:Nat->Bool}{k:Nat}{v:α}:∀{i:Nat}{chs:List (List (Nat×α))},yp L k i chs=some v->∃j c,chs[j]?=some c∧L (i+j)=true∧lkS c k=some v
 |_,[],h=>by simp[yp]at h
 |i,c::r,h=>by
  simp only[yp]at h
  cases hr:yp L k (i+1) r with
  |some w=>
   rw[hr]at h;simp only[Qa]at h;subst h;obtain⟨j,c',h1,h2,h3⟩:=qko hr
   exact⟨j+1,c',by simpa using h1,by rw[show i+(j+1)=i+1+j by omega];exact h2,h3⟩
  |none=>
   rw[hr]at h;simp only at h
   cases hL:L i with
   |true=>rw[hL]at h;exact⟨0,c,rfl,hL,h⟩
   |false=>rw[hL]at h;simp at h
theorem qrh{α:Type}{L:Nat->Bool}{k:Nat}:∀{i j0:Nat}{chs:List (List (Nat×α))}{c0:List (Nat×α)},chs[j0]?=some c0->(∀j c,j0<j->chs[j]?=some c->L (i+j)=true->lkS c0 k≠none->lkS c k=none)->
  yp (addL L (i+j0)) k i chs=match lkS c0 k with|some v=>some v|none=>bif L (i+j0)then yp (addL L (i+j0)) k i chs else yp L k i chs
 |_,_,[],_,h,_=>by simp at h
 |i,0,c::r,c0,h,hd=>by
  simp only[Qw,Qa]at h;subst h
  have hr:yp (addL L (i+0)) k (i+1) r=yp L k (i+1) r:=qeg λj c _ _=>by
   unfold addL;rw[jv Om,Xp]
  have ha:addL L (i+0) i=true:=by simp[addL]
  cases hl:lkS c k with
  |some v=>
   have hn:yp L k (i+1) r=none:=by
    cases hq:yp L k (i+1) r with
    |none=>rfl
    |some w=>
     obtain⟨j,c',h1,h2,h3⟩:=qko hq;have:=hd (j+1) c' Om (by simpa using h1) (by rw[show i+(j+1)=i+1+j by omega];exact h2) (by rw[hl];simp);rw[this]at h3;simp at h3
   simp only[yp,hr,hn,ha,cond_true,hl]
  |none=>
   cases hLi:L (i+0)with
   |true=>rfl
   |false=>
    simp only[cond_false,yp,hr,ha,cond_true,hl];rw[Zh]at hLi;rw[hLi]
    cases yp L k (i+1) r<;>rfl
 |i,j0+1,c::r,c0,h,hd=>by
  have ih:=qrh (L:=L) (k:=k) (i:=i+1) (j0:=j0) (chs:=r) (c0:=c0) (by simpa using h) λj c hj hc hL hl=>hd (j+1) c Om (by simpa using hc) (by rw[show i+(j+1)=i+1+j by omega];exact hL) hl;rw[show i+1+j0=i+(j0+1)by omega]at ih
  have hi:addL L (i+(j0+1)) i=L i:=by
   unfold addL;rw[jv Om,Xp]
  cases hl:lkS c0 k with
  |some v=>rw[hl]at ih;simp only[yp,ih]
  |none=>
   rw[hl]at ih;simp only at ih
   cases hLi:L (i+(j0+1))with
   |true=>rfl
   |false=>
    rw[hLi]at ih;simp only[cond_false]at ih⊢;simp only[yp,ih,hi]
theorem qnn{α:Type}:∀{L:Nat->Bool}{i:Nat}{chs:List (List (Nat×α))}{base:List (Nat×α)},(∀j,j<chs.length->L (i+j)=false)->cf L i chs base=base
 |_,_,[],_,_=>rfl
 |L,i,c::r,base,h=>by
  have h0:=h 0 Sx;rw[Zh]at h0;simp only[cf,h0,cond_false]
  exact qnn λj hj=>by
   have:=h (j+1) (by simpa using hj);rw[show i+1+j=i+(j+1)by omega];exact this
structure Tr where
 rd:List Nat
 dst:Option Nat
 e:Ef
 nx:Nat
def Tr.sch(t:Tr):List (Nat×SV):=match t.dst with
 |some d=>[(d,t.e.val)]
 |none=>[]
def runT:List Tr->Conf->Conf
 | [],C=>C
 |t::r,C=>runT r (C.app t.dst t.e)
theorem zn8(C:Conf)(t:Tr):(C.app t.dst t.e).sl=t.sch++C.sl:=by
 unfold Conf.app Tr.sch
 cases t.dst<;>rfl
theorem qno:∀(tr:List Tr)(i0 n:Nat)(C:Conf),cf (λj=>Qe j (i0+n)) i0 (tr.map Tr.sch) C.sl=(runT (tr.take n) C).sl∧cf (λj=>Qe j (i0+n)) i0 (tr.map λt=>t.e.ch) C.hp=(runT (tr.take n) C).hp
 | [],_,n,C=>by simp[cf,runT]
 |t::r,i0,0,C=>by
  have hf:∀{m:Nat}(j:Nat),j<m->Qe (i0+j) (i0+0)=false:=λj _=>by
   cases hb:Qe (i0+j) (i0+0)with
   |false=>rfl
   |true=>have:=vi hb;omega
  exact⟨qnn λj hj=>hf j hj,qnn λj hj=>hf j hj⟩
 |t::r,i0,n+1,C=>by
  have hb:Qe i0 (i0+(n+1))=true:=qcl Om;have ih:=qno r (i0+1) n (C.app t.dst t.e);rw[show i0+1+n=i0+(n+1)by omega]at ih;simp only[Qz,cf,hb,cond_true,List.take_succ_cons,runT];rw[<-zn8];exact ih
def kr(ch:List (Nat×Option SR)):List Nat:=ch.map Xu
def qcb(a b:List Nat):Bool:=a.all λx=> !memN b x
def dstL:Option Nat->List Nat
 |some d=>[d]
 |none=>[]
def indT(a b:Tr):Bool:=
 qcb (dstL a.dst) b.rd&&qcb (dstL a.dst) (dstL b.dst)&&qcb (dstL b.dst) a.rd&&
 qcb (kr a.e.ch) b.e.ks&&qcb (kr a.e.ch) (kr b.e.ch)&&qcb (kr b.e.ch) a.e.ks&&
 b.e.val.all (λk=>Qe k a.nx||Qn a.e.nx k)&&b.e.ch.all (λq=>(Qe q.1 a.nx||Qn a.e.nx q.1)&&match q.2 with
  |some r=>r.all λk=>Qe k a.nx||Qn a.e.nx k
  |none=>true)
def qkr(o:Oper)(acc:List Nat):Nat:=(qeo o).foldl (λm d=>(m|||2^d)|||acc.getD d 0) 0
def ancs:List Oper->List Nat->List Nat
 | [],acc=>acc
 |o::r,acc=>ancs r (acc++[qkr o acc])
inductive AncR (l:List Oper):Nat->Nat->Prop
 |dep {i j:Nat} {o:Oper} (ho:l[j]?=some o) (hi:i∈qeo o):AncR l i j
 |step {i d j:Nat} {o:Oper} (ho:l[j]?=some o) (hd:d∈qeo o) (h:AncR l i d):AncR l i j
theorem zga{l:List Oper}{acc:List Nat}(dr:∀j i,(acc.getD j 0).testBit i=true->AncR l i j){o:Oper}{j:Nat}(ho:l[j]?=some o){i:Nat}(h:(qkr o acc).testBit i=true):AncR l i j:=by
 unfold qkr at h
 have key:∀(ds:List Nat)(m:Nat),(∀d∈ds,d∈qeo o)->(m.testBit i=true->AncR l i j)->(ds.foldl (λm d=>(m|||2^d)|||acc.getD d 0) m).testBit i=true->AncR l i j:=by
  intro ds
  induction ds with
  |nil=>exactλm _ hm h=>hm h
  |cons d r ih=>
   intro m hd hm h;refine ih ((m|||2^d)|||acc.getD d 0) (λd' dv=>hd d' (by simp[dv])) (λhb=>?_) h;rw[Xm,Xm,Zg,Zg,Nat.testBit_two_pow]at hb;rcases hb with(hb|hb)|hb
   .exact hm hb
   .have:d=i:=by simpa using hb
    subst this;exact .dep ho (hd d Sx)
   .exact .step ho (hd d Sx) (dr d i hb)
 exact key (qeo o) 0 (λd hd=>hd) (λh=>by simp at h) h
theorem q4a{l:List Oper}:∀(r:List Oper)(acc:List Nat),(∀k o,r[k]?=some o->l[acc.length+k]?=some o)->(∀j i,(acc.getD j 0).testBit i=true->AncR l i j)->∀j i,((ancs r acc).getD j 0).testBit i=true->AncR l i j
 | [],acc,_,h=>h
 |o::r,acc,hr,h=>by
  refine q4a r (acc++[qkr o acc]) (λk o' hk=>?_) (λj i hb=>?_)
  .have:=hr (k+1) o' (by simpa using hk)
   rw[Qc];simp only[Qr,Qs];rw[show acc.length+(0+1)+k=acc.length+(k+1)by omega];exact this
  .by_cases hj:j<acc.length
   .have e:(acc++[qkr o acc]).getD j 0=acc.getD j 0:=by simp[Zi,Qy hj]
    rw[e]at hb;exact h j i hb
   .by_cases hj':j=acc.length
    .subst hj'
     have e:(acc++[qkr o acc]).getD acc.length 0=qkr o acc:=by simp[Zi]
     rw[e]at hb;exact zga h (by have:=hr 0 o rfl;simpa using this) hb
    .have e:(acc++[qkr o acc]).getD j 0=0:=by simp[Zi,List.getElem?_eq_none (show(acc++[qkr o acc]).length<=j by simp;omega)]
     rw[e]at hb;simp at hb
def chkR:Nat->Tr->Nat->List Tr->List Nat->Bool
 |_,_,_,[],_=>true
 |i,a,j,b::r,m=>((m.getD j 0).testBit i||indT a b)&&chkR i a (j+1) r m
def chkT:Nat->List Tr->List Nat->Bool
 |_,[],_=>true
 |i,a::r,m=>chkR i a (i+1) r m&&chkT (i+1) r m
theorem q4z:∀{i:Nat}{a:Tr}{j0:Nat}{l:List Tr}{m:List Nat},chkR i a j0 l m=true->∀j b,l[j]?=some b->(m.getD (j0+j) 0).testBit i=true∨indT a b=true
 |_,_,_,[],_,_,j,b,h=>by simp at h
 |i,a,j0,b::r,m,h,j,b',hb=>by
  simp only[chkR,Qb,Zg]at h
  cases j with
  |zero=>
   simp only[Qw,Qa]at hb;subst hb
   exact h.1
  |succ j=>
   have:=q4z h.2 j b' (by simpa using hb);rw[show j0+(j+1)=j0+1+j by omega];exact this
theorem q40:∀{i0:Nat}{l:List Tr}{m:List Nat},chkT i0 l m=true->∀i j a b,i<j->l[i]?=some a->l[j]?=some b->(m.getD (i0+j) 0).testBit (i0+i)=true∨indT a b=true
 |_,[],_,_,_,_,_,_,_,h,_=>by simp at h
 |i0,a::r,m,h,i,j,a',b',hij,ha,hb=>by
  simp only[chkT,Qb]at h
  cases i with
  |zero=>
   simp only[Qw,Qa]at ha;subst ha;obtain⟨j,rfl⟩:∃j',j=j'+1:=⟨j-1,Om⟩;have:=q4z h.1 j b' (by simpa using hb);rw[show i0+(j+1)=i0+1+j by omega,Zh]
   exact this
  |succ i=>
   obtain⟨j,rfl⟩:∃j',j=j'+1:=⟨j-1,Om⟩;have:=q40 h.2 i j a' b' Om (by simpa using ha) (by simpa using hb);rw[show i0+(j+1)=i0+1+j by omega,show i0+(i+1)=i0+1+i by omega];exact this
theorem qgw{a b:List Nat}(h:qcb a b=true){x:Nat}(hx:memN a x=true):memN b x=false:=by
 unfold memN at hx;obtain⟨y,hy,e⟩:=Zb.1 hx;have:=Qh e;subst this
 simpa using Qf.1 h _ hy
theorem qrn{ch:List (Nat×Option SR)}{k:Nat}(h:lkS ch k≠none):memN (kr ch) k=true:=by
 cases hl:lkS ch k with
 |none=>exact absurd hl h
 |some v=>exact Zb.2 ⟨k,Xb.2 ⟨_,vn hl,rfl⟩,Sx⟩
theorem qvb{t:Tr}{d:Nat}(h:lkS t.sch d≠none):memN (dstL t.dst) d=true:=by
 unfold Tr.sch at h
 cases ht:t.dst with
 |none=>rw[ht]at h;simp[lkS]at h
 |some x=>
  rw[ht]at h;simp only[lkS]at h;by_cases e:x=d
  .subst e;simp[dstL,memN]
  .rw[jv e]at h;simp at h
def rs(rd:List Nat)(sl:List (Nat×SV)):List (Nat×SV):=rd.filterMap λd=>match lkS sl d with
 |some v=>some (d,v)
 |none=>none
theorem zpc{rd:List Nat}{sl:List (Nat×SV)}{d:Nat}{v:SV}(h:lkS (rs rd sl) d=some v):memN rd d=true∧lkS sl d=some v:=by
 have:=vn h;unfold rs at this;obtain⟨x,hx,he⟩:=List.mem_filterMap.1 this;split at he
 .rename_i w hw
  simp only[Qa,Za]at he;obtain⟨rfl,rfl⟩:=he;exact⟨Zb.2 ⟨x,hx,Sx⟩,hw⟩
 .simp at he
theorem qo9{l:List Nat}{x:Nat}(h:memN l x=true):x∈l:=by
 obtain⟨y,hy,e⟩:=Zb.1 h;rw[Qh e];exact hy
theorem SatR.congr{S0:List AObj}{F:Nat->Prop}{C C':Conf}{ρ t:Nat->AV}{S:List AObj}(h:SatR S0 F C ρ t S)(h1:∀d,lkS C'.sl d=lkS C.sl d)(h2:hpF C'.hp=hpF C.hp)(h3:C.nx<=C'.nx):SatR S0 F C' ρ t S:=
 ⟨λd v hd=>h.sl d v (by rw[<-h1];exact hd),by rw[h2];exact h.hp,by rw[h2];exact h.own,h.low,h.len,λd v hd=>all_mono (λk hk=>qcl (by have:=vi hk;omega)) v (h.wsl d v (by rw[<-h1];exact hd)),λk r hk=>by
  rw[h2]at hk;obtain⟨g1,g2⟩:=h.whp k r hk
  exact⟨Om,SR.all_mono (λk hk=>qcl (by have:=vi hk;omega)) r g2⟩⟩
structure zb4 (E:Env) (N:Nat) (l:List Oper) (C0:Conf) (tr:List Tr):Prop where
 len:tr.length=l.length
 loc:∀i o t,l[i]?=some o->tr[i]?=some t->Loc E N l.toArray o t.nx (rs t.rd (runT (tr.take i) C0).sl) (hpF (runT (tr.take i) C0).hp) t.e∧t.e.wf t.nx=true∧t.nx=(runT (tr.take i) C0).nx∧t.dst=o.dst
theorem qn5{E:Env}{N:Nat}{l:List Oper}{C0:Conf}{tr:List Tr}(h:zb4 E N l C0 tr):∀{i j:Nat},i<=j->j<=tr.length->(runT (tr.take i) C0).nx<=(runT (tr.take j) C0).nx:=by
 have step:∀(r:List Tr)(C:Conf)(t:Tr),(runT (r++[t]) C)=(runT r C).app t.dst t.e:=by
  intro r
  induction r with
  |nil=>exactλC t=>rfl
  |cons a r ih=>exactλC t=>ih _ t
 intro i j hij
 induction hij with
 |refl=>exactλ_=>Qm _
 |step hm ih=>
  rename_i m;intro hj;refine Zd (ih Om) ?_;have ht:tr[m]?=some (tr[m]'(by omega)):=Qj Om;have ho:l[m]?=some (l[m]'(by have:=h.len;omega)):=Qj _;obtain⟨_,h2,h3,_⟩:=h.loc m _ _ ho ht;rw[Zl Om,step];have:=(qiq h2).1;rw[h3]at this;exact this
theorem zhf{tr:List Tr}{i:Nat}{t:Tr}(ht:tr[i]?=some t)(C0:Conf):runT (tr.take (i+1)) C0=(runT (tr.take i) C0).app t.dst t.e:=by
 have step:∀(r:List Tr)(C:Conf)(t:Tr),(runT (r++[t]) C)=(runT r C).app t.dst t.e:=by
  intro r
  induction r with
  |nil=>exactλC t=>rfl
  |cons a r ih=>exactλC t=>ih _ t
 obtain⟨hi,e⟩:=Qp.1 ht;rw[Zl hi,step,e]
def qsg(l:List Oper)(L:Nat->Bool):Prop:=∀j o,L j=true->l[j]?=some o->∀d∈qeo o,L d=true
theorem qsg.anc{l:List Oper}{L:Nat->Bool}(h:qsg l L){i j:Nat}(ha:AncR l i j):L j=true->L i=true:=by
 induction ha with
 |dep ho hi=>exactλhj=>h _ _ hj ho _ hi
 |step ho hd _ ih=>exactλhj=>ih (h _ _ hj ho _ hd)
theorem zew{E:Env}{rd:Option Nat}{N:Nat}{id:Nat}{l:List Oper}{B:Bs}{C0:Conf}{tr:List Tr}{Q:Exit->AS->Prop}{s:AS}(hm:E.P.follows .mixedOrders=true)(dq:l.toArray.all qg4=true)(hd:qjo 0 l=true)
  (hw:zb4 E N l C0 tr) (hc:chkT 0 tr (ancs l [])=true) (hs:SatC B C0 s) (hq:∀s',SatC B (runT tr C0) s'->Q .normal s'):AWp E rd N (.region id l.toArray true) Q s:=by
 have d5:=hw.len
 let NX:=(runT tr C0).nx
 let SC:=tr.map Tr.sch
 let HC:=tr.map λt:Tr=>t.e.ch
 have hSC:∀{j:Nat}{c:List (Nat×SV)},SC[j]?=some c->∃t,tr[j]?=some t∧c=t.sch:=λ{j c}h=>by
  simp only[SC,Qo]at h
  cases ht:tr[j]?with
  |none=>rw[ht]at h;simp at h
  |some t=>rw[ht]at h;simp at h;exact⟨t,rfl,h.symm⟩
 have hHC:∀{j:Nat}{c:List (Nat×Option SR)},HC[j]?=some c->∃t,tr[j]?=some t∧c=t.e.ch:=λ{j c}h=>by
  simp only[HC,Qo]at h
  cases ht:tr[j]?with
  |none=>rw[ht]at h;simp at h
  |some t=>rw[ht]at h;simp at h;exact⟨t,rfl,h.symm⟩
 have hop:∀{j:Nat}{t:Tr},tr[j]?=some t->∃o,l[j]?=some o:=λ{j t}h=>⟨_,Qj (by have:=lt_of_getElem? h;omega)⟩;have i7:tr.take tr.length=tr:=Zu
 have bt:∀{j:Nat}{t:Tr},tr[j]?=some t->t.nx=(runT (tr.take j) C0).nx∧t.e.nx=(runT (tr.take (j+1)) C0).nx:=λ{j t}h=>by
  obtain⟨o,ho⟩:=hop h;refine⟨(hw.loc j o t ho h).2.2.1,?_⟩;rw[zhf h];rfl
 have bw:∀{i j:Nat}{a b:Tr},i<j->tr[i]?=some a->tr[j]?=some b->a.e.nx<=b.nx:=λ{i j a b}hij ha hb=>by
  rw[(bt ha).2,(bt hb).1];exact qn5 hw Om (by have:=lt_of_getElem? hb;omega)
 have hNX:∀{j:Nat}{t:Tr},tr[j]?=some t->t.e.nx<=NX:=λ{j t}h=>by
  rw[(bt h).2];have:=qn5 hw (i:=j+1) (j:=tr.length) (by have:=lt_of_getElem? h;omega) (Qm _);rw[i7]at this;exact this
 have h0nx:∀{j:Nat}{t:Tr},tr[j]?=some t->C0.nx<=t.nx:=λ{j t}h=>by
  rw[(bt h).1];exact qn5 hw (i:=0) (Xh j) (by have:=lt_of_getElem? h;omega)
 have hanc:∀j i,((ancs l []).getD j 0).testBit i=true->AncR l i j:=q4a l [] (λk o hk=>by simpa using hk) (λj i h=>by simp[Zi]at h)
 have pair:∀{i j:Nat}{a b:Tr},i<j->tr[i]?=some a->tr[j]?=some b->AncR l i j∨indT a b=true:=λ{i j a b}hij ha hb=>by
  have:=q40 hc i j a b hij ha hb;rw[Qk,Qk]at this;exact this.imp_left λh=>hanc j i h
 have hb0:B.n0<=C0.nx:=by obtain⟨_,h,_⟩:=hs;exact h.le
 refine zev hm dq hd (λL s=>qsg l L∧SatC B ⟨cf L 0 SC C0.sl,cf L 0 HC C0.hp,NX⟩ s) ⟨λj o h=>by simp at h,?_⟩ ?_ ?_
 .obtain⟨ρ,m8,hR⟩:=hs
  have hC0:C0.nx<=NX:=by
   have:=qn5 hw (i:=0) (j:=tr.length) (Xh _) (Qm _);rw[i7]at this;exact this
  refine⟨ρ,m8.nx (Zd m8.le hC0),hR.congr (λd=>?_) ?_ ?_⟩
  .rw[qnn λ_ _=>rfl]
  .show hpF (cf (λ_=>false) 0 HC C0.hp)=hpF C0.hp
   rw[qnn λ_ _=>rfl]
  .have:=qn5 hw (i:=0) (j:=tr.length) (Xh _) (Qm _)
   rw[i7]at this;exact this
 .rintro L s' bm ⟨_,ρ,m8,hR⟩
  refine hq s' ⟨ρ,m8.nx m8.le,hR.congr (λd=>?_) ?_ (Qm _)⟩
  .have h1:=(qno tr 0 tr.length C0).1
   rw[i7]at h1;rw[<-h1];simp only[qfg]
   rw[qeg (L:=λj=>Qe j (0+tr.length)) (L':=L) λj c hc _=>by
    obtain⟨t,ht,_⟩:=hSC hc;have hj:=lt_of_getElem? ht;rw[bm (0+j) Om]
    exact qcl Om]
  .have h1:=(qno tr 0 tr.length C0).2
   rw[i7]at h1;rw[<-h1];funext k;unfold hpF;simp only[qfg]
   rw[qeg (L:=λj=>Qe j (0+tr.length)) (L':=L) λj c hc _=>by
    obtain⟨t,ht,_⟩:=hHC hc;have hj:=lt_of_getElem? ht;rw[bm (0+j) Om]
    exact qcl Om]
 ·-- the steps
  suffices H:∀(i:Nat)(o:Oper),l[i]?=some o->∀L s,L i=false->(∀j,(qeo o).contains j=true->L j=true)->(qsg l L∧SatC B ⟨cf L 0 SC C0.sl,cf L 0 HC C0.hp,NX⟩ s)->
    AOps E none N l.toArray [o] (λs=>qsg l (addL L i)∧SatC B ⟨cf (addL L i) 0 SC C0.sl,cf (addL L i) 0 HC C0.hp,NX⟩ s) s by
   have gen:∀(r:List Oper)(i0:Nat),(∀k o,r[k]?=some o->l[i0+k]?=some o)->qqo E N l.toArray (λL s=>qsg l L∧SatC B ⟨cf L 0 SC C0.sl,cf L 0 HC C0.hp,NX⟩ s) i0 r:=by
    intro r
    induction r with
    |nil=>exactλ_ _=>trivial
    |cons o r ih=>
     intro i0 hr;exact⟨H i0 o (by have:=hr 0 o rfl;simpa using this),ih (i0+1) λk o' hk=>by rw[show i0+1+k=i0+(k+1)by omega];exact hr (k+1) o' (by simpa using hk)⟩
   exact gen l 0 λk o hk=>by simpa using hk
  rintro i o ho L ⟨t0,S,df⟩ hLi hdeps ⟨hdown,ρ,m8,hR⟩;simp only at m8 hR;have fc:=lt_of_getElem? ho;obtain⟨t,ht⟩:∃t,tr[i]?=some t:=⟨_,Qj Om⟩;obtain⟨hL,hwf,hnxi,hdst⟩:=hw.loc i o t ho ht;obtain⟨w1,w2,w3⟩:=qiq hwf
  -- who has done what, told by the text
  have anc_in:∀{j:Nat},AncR l j i->L j=true:=λ{j}h=>by
   cases h with
   |dep e8 hi=>
    rw[ho]at e8;simp only[Qa]at e8;subst e8
    exact hdeps j (by simpa using hi)
   |step e8 dv h'=>
    rw[ho]at e8;simp only[Qa]at e8;subst e8;exact hdown.anc h' (hdeps _ (by simpa using dv))
  have not_after:∀{j:Nat},AncR l i j->L j=false:=λ{j}h=>by
   cases hj:L j with
   |false=>rfl
   |true=>rw[hdown.anc h hj]at hLi;simp at hLi
  have agree:∀{j:Nat}{b:Tr},tr[j]?=some b->(∀(dw:j<i),indT b t=true->False)->(∀(hij:i<j),indT t b=true->False)->L j=Qe j i:=λ{j b}hb h1 h2=>by
   rcases Xe j i with dw|dw|dw
   .rw[qcl dw]
    rcases pair dw hb ht with h|h
    .exact anc_in h
    .exact(h1 dw h).elim
   .subst dw
    rw[hLi]
    cases hbb:Qe j j with
    |false=>rfl
    |true=>have:=vi hbb;omega
   .have:Qe j i=false:=by
     cases hbb:Qe j i with
     |false=>rfl
     |true=>have:=vi hbb;omega
    rw[this];rcases pair dw ht hb with h|h
    .exact not_after h
    .exact(h2 dw h).elim
  have hslA:∀d,memN t.rd d=true->lkS (cf L 0 SC C0.sl) d=lkS (runT (tr.take i) C0).sl d:=λd hd=>by
   have h1:=(qno tr 0 i C0).1;rw[<-h1];simp only[qfg]
   rw[qeg (L:=L) (L':=λj=>Qe j (0+i)) λj c hc hl=>by
    obtain⟨b,hb,rfl⟩:=hSC hc;have hdm:=qvb hl;rw[Qk,Qk];refine agree hb (λdw h=>?_) (λhij h=>?_)
    .simp only[indT,Qb]at h
     have:=qgw h.1.1.1.1.1.1.1 hdm;rw[hd]at this;simp at this
    .simp only[indT,Qb]at h
     have:=qgw h.1.1.1.1.1.2 hdm;rw[hd]at this
     simp at this]
  have tg:resF t.e.ks (hpF (runT (tr.take i) C0).hp)=resF t.e.ks (hpF (cf L 0 HC C0.hp)):=by
   funext k;unfold resF
   cases hk:memN t.e.ks k with
   |false=>rfl
   |true=>
    simp only[cond_true];have h1:=(qno tr 0 i C0).2;rw[<-h1];unfold hpF;simp only[qfg]
    rw[qeg (L:=λj=>Qe j (0+i)) (L':=L) λj c hc hl=>by
     obtain⟨b,hb,rfl⟩:=hHC hc;have hdm:=qrn hl;rw[Qk,Qk];refine(agree hb (λdw h=>?_) (λhij h=>?_)).symm
     .simp only[indT,Qb]at h
      have:=qgw h.1.1.1.1.2 hdm;rw[hk]at this;simp at this
     .simp only[indT,Qb]at h
      have:=qgw h.1.1.2 hdm;rw[hk]at this
      simp at this]
  refine hL _ none _ [] ρ t0 S (λd v dv=>?_) (by rw[tg];exact hR.hp.res _) λρ' S' hp=>qh ⟨λj o' hj e8 d dv=>?_,ρ',?_,?_⟩
  .obtain⟨g1,g2⟩:=zpc dv
   exact hR.sl d v (by rw[hslA d g1];exact g2)
  .unfold addL at hj⊢
   rcases Bool.or_eq_true_iff.1 hj with hj|hj
   .have:=Qh hj
    subst this;rw[ho]at e8;simp only[Qa]at e8;subst e8;rw[hdeps d (by simpa using dv),Xq]
   .rw[hdown j o' hj e8 d dv,Xq]
  .have hp2:qkc ρ S t.nx (hpF (cf L 0 HC C0.hp)) t.e ρ' S':=⟨hp.old,by rw[<-tg];exact hp.sat,hp.len,by rw[<-tg];exact hp.fr,by rw[<-tg];exact hp.loc⟩
   have:=m8.stepG (C':=⟨cf (addL L i) 0 SC C0.sl,cf (addL L i) 0 HC C0.hp,NX⟩) hR.hp hp2 (by have:=hb0;have:=h0nx ht;omega) m8.le
   cases o.dst<;>exact this
  .have hp2:qkc ρ S t.nx (hpF (cf L 0 HC C0.hp)) t.e ρ' S':=⟨hp.old,by rw[<-tg];exact hp.sat,hp.len,by rw[<-tg];exact hp.fr,by rw[<-tg];exact hp.loc⟩
   have old_lt:∀k,Qe k C0.nx=true->(Qe k t.nx||Qn t.e.nx k)=true:=λk hk=>by
    have:=h0nx ht;rw[qcl (by have:=vi hk;omega),Xr]
   have ear_lt:∀{j:Nat}{b:Tr},j<i->tr[j]?=some b->∀k,Qe k b.e.nx=true->(Qe k t.nx||Qn t.e.nx k)=true:=λ{j b}dw hb k hk=>by
    have:=bw dw hb ht;rw[qcl (by have:=vi hk;omega),Xr]
   have lat:∀{j:Nat}{b:Tr},tr[j]?=some b->L j=true->¬j<i->indT t b=true∧i<j:=λ{j b}hb sk dw=>by
    have hij:i<j:=by
     rcases Xe i j with h|h|h
     .exact h
     .subst h;rw[hLi]at sk;simp at sk
     .omega
    rcases pair hij ht hb with h|h
    .rw[not_after h]at sk;simp at sk
    .exact⟨h,hij⟩
   have e7:=hR.stepG (d:=o.dst) (nx:=t.nx) (NX:=NX) (Qm _) (all_mono (λk hk=>qcl (by have:=vi hk;have:=hNX ht;omega)) _ w2) (λq hq'=>⟨by have:=(w3 q hq').1;have:=hNX ht;omega,λr hr=>SR.all_mono (λk hk=>qcl (by have:=vi hk;have:=hNX ht;omega)) r ((w3 q hq').2.2 r hr)⟩) (λd v dv=>?_) (λk r hk=>?_) hp2
   .refine SatR.congr (S0:=B.S0) (F:=B.F) (C:=⟨match o.dst with|some d=>(d,t.e.val)::cf L 0 SC C0.sl|none=>cf L 0 SC C0.sl,t.e.ch++cf L 0 HC C0.hp,NX⟩) ?_ (λd=>?_) ?_ (Qm _)
    .cases hod:o.dst with
     |none=>rw[hod]at e7;exact e7
     |some x=>rw[hod]at e7;exact e7
    .have hSi:SC[i]?=some t.sch:=by simp only[SC,Qo,ht];rfl
     have bc:=qrh (L:=L) (k:=d) (i:=0) (j0:=i) hSi λj c hij hc sk hl=>by
      obtain⟨b,hb,rfl⟩:=hSC hc;rw[Qk]at sk;have h:=(lat hb sk Om).1;simp only[indT,Qb]at h;have h2:=qgw h.1.1.1.1.1.1.2 (qvb hl)
      cases hq':lkS b.sch d with
      |none=>rfl
      |some w=>
       have:=qvb (t:=b) (d:=d) (by rw[hq'];simp);rw[h2]at this;simp at this
     rw[Qk,hLi]at bc;simp only[cond_false]at bc
     have e:lkS (match o.dst with|some d=>(d,t.e.val)::cf L 0 SC C0.sl|none=>cf L 0 SC C0.sl) d=lkS (t.sch++cf L 0 SC C0.sl) d:=by
      unfold Tr.sch;rw[hdst]
      cases o.dst<;>rfl
     rw[e,qez];simp only[qfg];rw[bc]
     cases lkS t.sch d<;>rfl
    .rw[zas]
     funext k;have hHi:HC[i]?=some t.e.ch:=by simp only[HC,Qo,ht];rfl
     have bc:=qrh (L:=L) (k:=k) (i:=0) (j0:=i) hHi λj c hij hc sk hl=>by
      obtain⟨b,hb,rfl⟩:=hHC hc;rw[Qk]at sk;have h:=(lat hb sk Om).1;simp only[indT,Qb]at h;have h2:=qgw h.1.1.1.2 (qrn hl)
      cases hq':lkS b.e.ch k with
      |none=>rfl
      |some w=>
       have:=qrn (ch:=b.e.ch) (k:=k) (by rw[hq'];simp);rw[h2]at this;simp at this
     rw[Qk,hLi]at bc;simp only[cond_false]at bc;unfold chF hpF;simp only[qfg];rw[bc]
     cases lkS t.e.ch k<;>rfl
   .simp only[qfg]at dv
    cases r8:yp L d 0 SC with
    |none=>
     rw[r8]at dv;simp only at dv;obtain⟨ρ0,_,hR0⟩:=hs
     exact all_mono old_lt v (hR0.wsl d v dv)
    |some u=>
     rw[r8]at dv;simp only[Qa]at dv;subst dv;obtain⟨j,c,sm,sk,hl⟩:=qko r8;obtain⟨b,hb,rfl⟩:=hSC sm;rw[Qk]at sk;obtain⟨ob,fx⟩:=hop hb
     have hu:u=b.e.val:=by
      unfold Tr.sch at hl
      cases hbd:b.dst with
      |none=>rw[hbd]at hl;simp[lkS]at hl
      |some x=>
       rw[hbd]at hl;simp only[lkS]at hl
       cases hbx:Qx x d with
       |true=>rw[hbx]at hl;simp only[cond_true,Qa]at hl;exact hl.symm
       |false=>rw[hbx]at hl;simp at hl
     subst hu;by_cases dw:j<i
     .exact all_mono (ear_lt dw hb) _ (qiq (hw.loc j ob b fx hb).2.1).2.1
     .have h:=(lat hb sk dw).1
      simp only[indT,Qb]at h;exact h.1.2
   .have bg:=ym hk
    simp only[qfg]at bg
    cases r8:yp L k 0 HC with
    |none=>
     rw[r8]at bg;simp only at bg;obtain⟨ρ0,_,hR0⟩:=hs;obtain⟨g1,g2⟩:=hR0.whp k r (by unfold hpF;rw[bg])
     exact⟨.inl (by have:=h0nx ht;omega),SR.all_mono old_lt r g2⟩
    |some u=>
     rw[r8]at bg;simp only[Qa]at bg;subst bg;obtain⟨j,c,sm,sk,hl⟩:=qko r8;obtain⟨b,hb,rfl⟩:=hHC sm;rw[Qk]at sk;obtain⟨ob,fx⟩:=hop hb;obtain⟨g1,_,g3⟩:=(qiq (hw.loc j ob b fx hb).2.1).2.2 _ (vn hl);by_cases dw:j<i
     .exact⟨.inl (by have:=bw dw hb ht;simp only at g1;omega),SR.all_mono (ear_lt dw hb) r (g3 r rfl)⟩
     .have h:=(lat hb sk dw).1
      simp only[indT,Qb]at h;have h2:=Qf.1 h.2 _ (vn hl);simp only[Qb,Zg]at h2;exact⟨h2.1.imp vi Qi,h2.2⟩
def opTm:Operand->Option Nat
 |.tmp i=>some i
 |_=>none
def rdOf(l:List Oper)(o:Oper):List Nat:=o.op.operands.toList.filterMap opTm++match o.guard with
 |some (j,_)=>dstL (q3q l j)
 |none=>[]
def wpDr(E:Env)(N:Nat)(l:List Oper)(bxs:List Nat):Nat->List Oper->List Tr->(List Tr->Conf->Prop)->Conf->Prop
 |_,[],tr,K,C=>K tr C
 |i,o::r,tr,K,⟨sl,hp,nx⟩=>opG E N l bxs nx (rs (rdOf l o) sl) (hpF hp) (gdW (isGd i l) (fcE λe=>qxw sl hp nx o.dst (wpDr E N l bxs (i+1) r (tr++[⟨rdOf l o,o.dst,e,nx⟩]) K) e)) o
theorem zk4(r:List Tr)(t:Tr):∀C,runT (r++[t]) C=(runT r C).app t.dst t.e:=by
 induction r with
 |nil=>exactλC=>rfl
 |cons a r ih=>exactλC=>ih _
theorem zb0{E:Env}{N:Nat}{l:List Oper}{bxs:List Nat}{C0:Conf}{K:List Tr->Conf->Prop}:∀{r:List Oper}{i:Nat}{tr:List Tr}{C:Conf},(∀k,r[k]?=l[i+k]?)->tr.length=i->i+r.length=l.length->C=runT tr C0->
  (∀j o t,l[j]?=some o->tr[j]?=some t->Loc E N l.toArray o t.nx (rs t.rd (runT (tr.take j) C0).sl) (hpF (runT (tr.take j) C0).hp) t.e∧t.e.wf t.nx=true∧t.nx=(runT (tr.take j) C0).nx∧t.dst=o.dst)->
  wpDr E N l bxs i r tr K C->∃tr',zb4 E N l C0 tr'∧K tr' (runT tr' C0)
 | [],i,tr,C,hr,hl,hn,hC,hw,h=>⟨tr,⟨by simpa[hl]using hn,hw⟩,by rw[<-hC];exact h⟩
 |o::r,i,tr,⟨sl,hp,nx⟩,hr,hl,hn,hC,hw,h=>by
  obtain⟨e,hL,h⟩:=q6v h;obtain⟨e,hL,h⟩:=q5u hL h;rw[q5h]at h;obtain⟨hwf,h⟩:=qvc h
  .refine zb0 (r:=r) (i:=i+1) (tr:=tr++[⟨rdOf l o,o.dst,e,nx⟩]) (λk=>?_) (by simp[hl]) (by simp at hn;omega) (by rw[zk4,<-hC]) (λj o' t ho ht=>?_) h
   .have:=hr (k+1)
    rw[show i+1+k=i+(k+1)by omega,<-this];rfl
   .by_cases hj:j<tr.length
    .rw[Qy hj]at ht
     rw[Zq Om];exact hw j o' t ho ht
    .have dw:j=tr.length:=by
      have:=lt_of_getElem? ht;simp at this;omega
     subst dw;simp only[List.getElem?_concat_length,Qa]at ht;subst ht;have mv:=hr 0;rw[<-hl,Zh,ho]at mv;simp only[Qw,Qa]at mv;subst mv;rw[Zw,<-hC];exact⟨hL,hwf,rfl,rfl⟩
def drB(E:Env)(l:List Oper)(tr:List Tr):Bool:=E.P.follows .mixedOrders&&l.toArray.all qg4&&qjo 0 l&&chkT 0 tr (ancs l [])
structure DrOk (E:Env) (l:List Oper) (tr:List Tr):Prop where
 ok:drB E l tr=true
theorem qb{E:Env}{rd:Option Nat}{N:Nat}{B:Bs}{Q:Exit->Conf->Prop}{C:Conf}{id:Nat}{ops:Array Oper}(bxs:List Nat)
  (h:wpDr E N ops.toList bxs 0 ops.toList [] (λtr C'=>DrOk E ops.toList tr∧Q .normal C') C):Sm E rd N B (.region id ops true) Q C:=⟨λs hs=>by
 obtain⟨tr,hw,hb,hq⟩:=zb0 (C0:=C) (l:=ops.toList) (i:=0) (tr:=[]) (λk=>by rw[Qk]) rfl Sx rfl (λj o t _ ht=>by simp at ht) h;have hb:=hb.ok;simp only[drB,Qb]at hb;have e:ops=ops.toList.toArray:=Sx
 rw[e]
 exact zew hb.1.1.1 hb.1.1.2 hb.1.2 hw hb.2 hs λs' mz=>⟨_,hq,mz⟩⟩
theorem cSd{P:Prop}(h:P:=by first|rfl|exact trivial|exactλ_=>rfl|exact qs0 _|exact DrOk.mk Kr|exact qdv λ_=>rfl|omega|(simp only[List.length_map,List.length_append,List.length_cons,List.length_nil,List.length_take,List.length_drop];omega)|exact zpg):P:=h
theorem exr{α:Type}{A K:α->Prop}{a:α}(k:K a)(h:A a:=by rfl):∃x,A x∧K x:=⟨a,h,k⟩
theorem cpe{E:Env}{H:Nat->Option SR}{nx:Nat}{f:FuncId}{vs:List SV}{args:List AV}{r0:AV}{k:Ef->Prop}(hc:∀S,qp E f args S λr S'=>r=r0∧S'=S)(hk:k ⟨nf r0,SV.kss vs,[],nx⟩)(ha:q3n E.P f (frzs (resF (SV.kss vs) H) vs)=some args:=by rfl):∃e,vb E f vs nx H e∧k e:=⟨_,zmg hc ha,hk⟩
end Go.Av
namespace Go.Proofs.YtlekheifonaipaaGreatDoor
open Go Go.Av Go.RowKit Go.Proofs Go.Pl
def qbu(n0:Nat)(ks:List Nat)(sl:List (Nat×SV))(hp:List (Nat×Option SR))(nx:Nat):Bool:=
 sl.all (λq=>q.2.all λk=>Qe k n0)&&hp.all (λq=>match q.2 with
  |some (.cells _ _)=>memN ks q.1
  |some (.own _ _ _)=>false
  |some (.obj _)=>memN ks q.1
  |some (.rows _ _ _)=>false
  |_=>true)&&Qn n0 nx
def ksIn(n0:Nat)(ks:List Nat)(hp:List (Nat×Option SR)):Bool:=ks.all λk=>Qe k n0&&match lkS hp k with
 |some (some (.cells _ _))=>true
 |some (some (.obj _))=>true
 |_=>false
structure RB (E:Env) (N:Nat) (F:Nat->Prop) (ρ:Nat->AV) (n0:Nat) (body:Code) (Q:Exit->Conf->Prop) (C:Conf):Prop where
 run:∀S rd,Sm E rd N ⟨S,F,ρ,n0,False⟩ body Q C
structure RA (E:Env) (N:Nat) (n0:Nat) (asg:Code) (K:(Nat->Prop)->(Nat->AV)->Conf->Prop) (C:Conf):Prop where
 run:∀S F ρ rd,Sm E rd N ⟨S,F,ρ,n0,True⟩ asg (λe C1=>match e with
  |.normal=>∀F',K F' ρ C1
  |_=>False) C
def q3p(Q:Exit->Conf->Prop):Code->Conf->Prop
 |.ret=>Q .ret
 |.exit id=>Q (.exit id)
 |_=>λ_=>False
def qo6(k:Nat)(text rest:List UInt8):SV:=.ag [.i k,.i ((text.length:Int)-rest.length),.s (upto 10 rest),.p (10∈rest) inferInstance]
theorem zju(k:Nat)(text rest:List UInt8)(ρ:Nat->AV):(qo6 k text rest).ev ρ=qff k text rest:=rfl
@[reducible] def rndQ {X : Type} (n0 : Nat) (P : X → Prop) (D : Code → X → Prop) (C : X → Conf) (e : Exit) (C2 : Conf) : Prop := match e with
 |.normal=>∃x,P x∧EntA n0 C2 (C x)
 |.ret=>∃x,D .ret x∧EntA n0 C2 (C x)
 |.exit id=>∃x,D (.exit id) x∧EntA n0 C2 (C x)
 |_=>False
section
variable {N : Nat} {B : Bs} {C : Conf} {Q : Exit → Conf → Prop} {rd : Option Nat}
structure RInv (B:Bs) (n0 n:Nat) (ks:List Nat) (ρ1 t:Nat->AV) (df:List Nat) (C:Conf) (S:List AObj):Prop where
 ex:∃ρ,(∀k,k<n0->ρ k=ρ1 k)∧SatR B.S0 B.F C ρ t S∧(∀d∈df,S[d]?=some .dfr)∧n<=S.length
theorem quu{n0 n:Nat}{ks:List Nat}{ρ1 ρ:Nat->AV}{hp:List (Nat×Option SR)}{sl:List (Nat×SV)}{nx k:Nat}{T:TypeId}{cs:List SV}(lk:∀k∈ks,k<n0∧∃o,zq (ρ1 k)=some o∧o<n)(hr:qbu n0 ks sl hp nx=true)(hρ:∀k,k<n0->ρ k=ρ1 k)(hk:hpF hp k=some (.cells T cs)):k<n0∧∃o,zq (ρ k)=some o∧o<n:=by
 have h1:=ym hk;simp only[qbu,Qb]at hr;have:=Qf.1 hr.1.2 _ (vn h1);simp only at this;obtain⟨g1,g2⟩:=lk k (qo9 this);refine⟨g1,?_⟩;rw[hρ k g1];exact g2
theorem q61{n0:Nat}{ks:List Nat}{sl:List (Nat×SV)}{hp:List (Nat×Option SR)}{nx k sz:Nat}{T:TypeId}{xs:List AV}(hr:qbu n0 ks sl hp nx=true)(hk:hpF hp k=some (.own sz T xs)):False:=by
 have h1:=ym hk;simp only[qbu,Qb]at hr;have:=Qf.1 hr.1.2 _ (vn h1);simp at this
theorem q6p{n0 n:Nat}{ks:List Nat}{ρ1 ρ:Nat->AV}{hp:List (Nat×Option SR)}{sl:List (Nat×SV)}{nx k:Nat}{P:AObj->AV->Prop}(lk:∀k∈ks,k<n0∧∃o,zq (ρ1 k)=some o∧o<n)(hr:qbu n0 ks sl hp nx=true)(hρ:∀k,k<n0->ρ k=ρ1 k)(hk:hpF hp k=some (.obj P)):k<n0∧∃o,zq (ρ k)=some o∧o<n:=by
 have h1:=ym hk;simp only[qbu,Qb]at hr;have:=Qf.1 hr.1.2 _ (vn h1);simp only at this;obtain⟨g1,g2⟩:=lk k (qo9 this);refine⟨g1,?_⟩;rw[hρ k g1];exact g2
theorem qz1{n0:Nat}{ks:List Nat}{sl:List (Nat×SV)}{hp:List (Nat×Option SR)}{nx k:Nat}{T2:TypeId}{ys2:List AV}{cs2:List SV}(hr:qbu n0 ks sl hp nx=true)(hk:hpF hp k=some (.rows T2 ys2 cs2)):False:=by
 have h1:=ym hk;simp only[qbu,Qb]at hr;have:=Qf.1 hr.1.2 _ (vn h1);simp at this
theorem RInv.ext{n0 n:Nat}{ks:List Nat}{ρ1 t:Nat->AV}{df:List Nat}{C:Conf}{S S':List AObj}(h:RInv B n0 n ks ρ1 t df C S)(lk:∀k∈ks,k<n0∧∃o,zq (ρ1 k)=some o∧o<n)(hr:qbu n0 ks C.sl C.hp C.nx=true)(hB:B.S0.length<=n)(hdn:∀d∈df,d<n)(hE:Ext n S S'):RInv B n0 n ks ρ1 t df C S':=by
 obtain⟨ρ,hρ,hR,hd,hn⟩:=h.ex;refine⟨ρ,hρ,⟨hR.sl,⟨λk r hk=>?_,hR.hp.sep⟩,hR.own,λj hj hF=>?_,Zd hR.len hE.len,hR.wsl,hR.whp⟩,λd gj=>?_,Zd hn hE.len⟩
 .refine SR.ok_of (f:=λ_=>true) (SR.all_mono (λ_ _=>rfl) r (hR.whp k r hk).2) (λ_ _=>rfl) (hR.hp.ok k r hk) λo ho=>?_
  rcases SR.ok_ct (hR.hp.ok k r hk) ho with⟨T,cs,v,h1,T',cs',rfl⟩|⟨m,sz,T,h1⟩|⟨sz,T,xs,rfl⟩|⟨P1,rfl⟩|⟨T2,ys2,cs2,rfl⟩
  rotate_left 2
  .exact(q61 hr hk).elim
  .obtain⟨_,o',h2,h3⟩:=q6p lk hr hρ hk
   rw[h2]at ho;simp only[Qa]at ho;subst ho;exact hE.low _ h3
  .exact(qz1 hr hk).elim
  .obtain⟨_,o',h2,h3⟩:=quu lk hr hρ hk
   rw[h2]at ho;simp only[Qa]at ho;subst ho;exact hE.low _ h3
  .exact hE.tips _ _ _ _ h1
 .rw[hE.low j Om]
  exact hR.low j hj hF
 .rw[hE.low d (hdn d gj)]
  exact hd d gj
def evY{ι:Type}(Y:ι->Option (SV×ι))(i:ι):Option (AV×ι):=match Y i with
 |some (v,j)=>some (v.ev λ_=>zm,j)
 |none=>none
theorem qud{X:Type}{f:Operand}{p:Tmp}{asg body:Code}{g:FuncId}{T:TypeId}{cs:List AV}{ι:Type}{Y:ι->Option (SV×ι)}{i0:ι}(tj:ItC g T cs (evY Y) i0)(a8:∀vs w,(callFunc g vs).run E.P w=.ok (.enter g vs) w)(hY:∀i v j,Y i=some (v,j)->v.all (λ_=>false)=true)(kb n0:Nat)(cv:List SV)(hcv:∀ρ,SV.evs ρ cv=cs)(ks:List Nat)(I:X->Conf)(sl0:List (Nat×SV))(P:ι->X->Prop)(D:Code->X->Prop)(x0:X)(h0:P i0 x0)
  (he:EntA B.n0 C (I x0)) (hz:¬B.dz) (fm:∀x,(I x).sl=sl0)
  (hf:sval N sl0 f=some (.fn (.func g) [] [.bx kb 0]))
  (hkb:∀x,lkS (I x).hp kb=some (some (.cells T cv)))
  (hr:∀x,qbu n0 ks (I x).sl (I x).hp (I x).nx=true) (h0r:(ksIn n0 ks (I x0).hp&&Qn B.n0 n0)=true)
  (hb:∀i x v j,P i x->Y i=some (v,j)->RA E N n0 asg (λF ρ C1=>RB E N F ρ n0 body (rndQ n0 (P j) D I) C1) ⟨(p,v)::(I x).sl,(I x).hp,(I x).nx⟩)
  (hn:∀i x,Y i=none->P i x->Q .normal (I x)) (hd:∀c x,D c x->q3p Q c (I x)):Sm E none N B (.rangeFunc f #[p] asg body) Q C:=⟨λs hs=>by
 obtain⟨ts,S0,df⟩:=s;obtain⟨ρ0,hF0,hR0⟩:=hs;simp only at hF0 hR0;obtain⟨σ,hrg,he⟩:=he.ent;have hF1:=hF0.ren (C':=I x0) hrg;obtain⟨t,hw,ng⟩:=he.sat hR0;clear hF0 hR0 he hrg;generalize renR σ ρ0=ρ1 at hF1 ng;refine qwo hw ?_;simp only[Qb]at h0r;have hBn:=Qi h0r.2;have hB:=ng.len
 have lk:∀k∈ks,k<n0∧∃o,zq (ρ1 k)=some o∧o<S0.length:=λk hk=>by
  have:=Qf.1 h0r.1 k hk;simp only[Qb]at this;refine⟨vi this.1,?_⟩;have h2:=this.2;split at h2
  .rename_i T cs hl
   have s8:hpF (I x0).hp k=some (.cells T cs):=by unfold hpF;rw[hl]
   obtain⟨o,v,h1,h3,rfl⟩:=ng.hp.ok k _ s8;exact⟨o,by rw[h1];rfl,lt_of_getElem? h3⟩
  .rename_i P hl
   have s8:hpF (I x0).hp k=some (.obj P):=by unfold hpF;rw[hl]
   obtain⟨o,x,h1,h3,_⟩:=ng.hp.ok k _ s8;exact⟨o,h1,lt_of_getElem? h3⟩
  .simp at h2
 have hdn:∀d∈df,d<S0.length:=λd hd=>lt_of_getElem? (hF1.dm d hd).1;have hi0:RInv B n0 S0.length ks ρ1 t df (I x0) S0:=⟨ρ1,λ_ _=>rfl,ng,λd hd=>(hF1.dm d hd).1,Qm _⟩
 have hnm:∀x,(sl0.all λq=>q.2.all λk=>Qe k n0)=true:=λx=>by
  have:=hr x;simp only[qbu,Qb,fm]at this;exact this.1.1
 have hnm:=hnm x0
 have slot:∀{ρ:Nat->AV},(∀k,k<n0->ρ k=ρ1 k)->SlOk ρ t sl0:=λ{ρ}hρ d v hd=>by
  rw[ng.sl d v (by rw[fm];exact hd)];exact(qbm (λk hk=>hρ k (vi hk)) v (Qf.1 hnm _ (vn hd))).symm
 have bt:∀x,n0<=(I x).nx:=λx=>by
  have:=hr x;simp only[qbu,Qb]at this;exact Qi this.2
 have hkb1:kb<n0∧∃o,ρ1 kb=.bx o 0 0∧o<S0.length:=by
  have h1:=hr x0;simp only[qbu,Qb]at h1;have:=Qf.1 h1.1.2 _ (vn (hkb x0));have s8:hpF (I x0).hp kb=some (.cells T cv):=by unfold hpF;rw[hkb x0]
  obtain⟨o,v,h1,h3,rfl⟩:=ng.hp.ok kb _ s8;exact⟨(lk kb (qo9 this)).1,o,h1,lt_of_getElem? h3⟩
 obtain⟨hkbn,okb,hokb,hokl⟩:=hkb1;have hfe:=q7 (S:=S0) (df:=df) (slot λ_ _=>rfl) hf;simp only[SV.ev,SV.evs,hokb,bxAt]at hfe
 have out:∀{x S},RInv B n0 S0.length ks ρ1 t df (I x) S->S[S0.length]?=some .dfr->SatC B (I x) ⟨t,S,S0.length::df⟩:=λ{x S}hi hm=>by
  obtain⟨ρ,hρ,hR,gj,hnS⟩:=hi.ex;refine⟨ρ,⟨λd hd=>?_,List.nodup_cons.2 ⟨λh=>Nat.lt_irrefl _ (hdn _ h),hF1.nd⟩,λk hk=>(hρ k Om).trans (hF1.rig k hk),Zd hBn (bt x),λh=>(hz h).elim⟩,hR⟩;rcases Zy.1 hd with rfl|hd
  .exact⟨hm,hB⟩
  .exact⟨gj d hd,(hF1.dm d hd).2⟩
 refine q4s (S0:=S0) tj rfl hfe a8
  (λi S=>∃x,P i x∧RInv B n0 S0.length ks ρ1 t df (I x) S) (λc S=>∃x,D c x∧RInv B n0 S0.length ks ρ1 t df (I x) S) ⟨x0,h0,hi0⟩ ?_ ?_ ?_ ?_ ?_ ?_
 .rintro i S ⟨x,_,hi⟩
  obtain⟨ρ,hρ,hR,_⟩:=hi.ex;have s8:hpF (I x).hp kb=some (.cells T cv):=by unfold hpF;rw[hkb x]
  obtain⟨o,v,h1,h3,rfl⟩:=hR.hp.ok kb _ s8;rw[hρ kb hkbn,hokb]at h1;simp only[AV.bx.injEq]at h1;obtain⟨rfl,_⟩:=h1;rw[hcv]at h3;exact h3
 .rintro i S S' hE ⟨x,hx,hi⟩
  exact⟨x,hx,hi.ext lk (hr x) hB hdn hE⟩
 .rintro c S S' hE ⟨x,hx,hi⟩
  exact⟨x,hx,hi.ext lk (hr x) hB hdn hE⟩
 .rintro F own rd i u j S hF ⟨x,hx,hi⟩ hy ln hm1 tn
  obtain⟨v,hv,hu⟩:∃v,Y i=some (v,j)∧u=v.ev λ_=>zm:=by
   unfold evY at hy;split at hy
   .rename_i v j2 hv
    simp only[Qa,Za]at hy;obtain⟨rfl,rfl⟩:=hy;exact⟨v,hv,rfl⟩
   .simp at hy
  subst hu;have hva:=hY i v j hv;obtain⟨ρ,hρ,hR,gj,hnS⟩:=hi.ex
  -- what no resource's place is
  have qcb:∀o y,S[o]?=some y->S0.length<=o->(∀m sz T,y≠.tip m sz T)->¬qav (I x).hp ρ o:=λo y hy ho hyt ⟨k,r,hk,hl⟩=>by
   rcases SR.ok_ct (hR.hp.ok k r hk) hl with⟨T,cs,v,h1,T',cs',rfl⟩|⟨m,sz,T,h1⟩|⟨sz,T,xs,rfl⟩|⟨P1,rfl⟩|⟨T2,ys2,cs2,rfl⟩
   rotate_left 2
   .exact(q61 (hr x) hk).elim
   .obtain⟨_,o',h2,h3⟩:=q6p lk (hr x) hρ hk
    rw[h2]at hl;simp only[Qa]at hl;omega
   .exact(qz1 (hr x) hk).elim
   .obtain⟨_,o',h2,h3⟩:=quu lk (hr x) hρ hk
    rw[h2]at hl;simp only[Qa]at hl;omega
   .rw[h1]at hy
    simp only[Qa]at hy;exact hyt _ _ _ hy.symm
  have a0:=qcb _ _ ln Om (λ_ _ _=>by simp);have a1:=qcb _ _ hm1 Om (λ_ _ _=>by rw[hF];simp);have a2:=λk y hk=>qcb _ _ (tn k y hk).1 Om (λm sz T e=>(tn k y hk).2 m sz T (by rw[e]));have ad:∀d∈df,¬qav (I x).hp ρ d:=λd hd ⟨k,r,hk,hl⟩=>SR.ok_dfr (hR.hp.ok k r hk) hl (gj d hd);have l2:=lt_of_getElem? hm1
  have s1:=((hb i x v j hx hv).run S (qav (I x).hp ρ) ρ1 rd).run ⟨put t p (v.ev λ_=>zm),S,[]⟩
   ⟨ρ,⟨nofun,Zr,hρ,bt x,λ_=>rfl⟩,?_⟩
  rotate_left
  .have p9:=hR.rebase (S':=S) λ_ _=>rfl
   refine⟨λd v hd=>?_,p9.hp,p9.own,p9.low,p9.len,λd v hd=>?_,p9.whp⟩
   .simp only[lkS]at hd
    cases s6:Qx p d with
    |true=>
     rw[s6]at hd;simp only[cond_true,Qa]at hd;have e:=Qh s6;subst e hd;simp only[put];rw[qbm (f:=λ_=>false) (ρ:=λ_=>zm) (ρ':=ρ) (λk hk=>by simp at hk) v hva]
     simp
    |false=>
     rw[s6]at hd;have e:d≠p:=λe=>by subst e;simp at s6
     have:=p9.sl d v hd;simp only[put];rw[show Qx d p=false from jv e];exact this
   .simp only[lkS]at hd
    cases s6:Qx p d with
    |true=>
     rw[s6]at hd;simp only[cond_true,Qa]at hd;subst hd
     exact all_mono (f:=λ_=>false) (λk hk=>by simp at hk) v hva
    |false=>
     rw[s6]at hd;exact p9.wsl d _ hd
  refine s1.mono λe s1 ⟨C1,hq,pd⟩=>?_
  cases e with
  |normal=>
   obtain⟨ρs,hFs,hRs⟩:=pd;have hdf1:=hFs.dz trivial;have b1:s1.st[S0.length+1]?=some (F .ready none):=(hRs.low _ (by simp only;omega) a1).trans hm1;refine⟨b1,hdf1,?_⟩;have hq:=(hq (qav C1.hp ρs)).run (s1.st.set (S0.length+1) (F .busy none)) (some rd)
   have c0:∀o,o<S.length->¬qav (I x).hp ρ o->¬qav C1.hp ρs o:=λo ho hn ⟨k,r,hk,hl⟩=>by
    rcases hRs.own k r hk o hl with h|h
    .simp only at h
     omega
    .exact hn h
   have hRb:=hRs.rebase (S':=s1.st.set (S0.length+1) (F .busy none)) λo ho=>Qg λe=>c0 (S0.length+1) Om a1 (by rw[e];exact ho);refine(hq.run ⟨s1.t,s1.st.set (S0.length+1) (F .busy none),[]⟩ ⟨ρs,⟨nofun,Zr,hFs.rig,hFs.le,nofun⟩,hRb⟩).mono λe s2 ⟨C2,s4,pt⟩=>?_;obtain⟨ρ2,hF2,mq⟩:=pt;have br:=hRs.len
   have keep:∀o y,o≠S0.length+1->S[o]?=some y->¬qav (I x).hp ρ o->s2.st[o]?=some y:=λo y b9 hy hn=>by
    have ho:=lt_of_getElem? hy;rw[mq.low o (by simp only[Qt];simp only at br;omega) (c0 o ho hn)];simp only;rw[Qg (λe=>b9 e.symm),hRs.low o ho hn];exact hy
   have k0:=keep _ _ Om ln a0;have k2:∀k y,own[k]?=some y->s2.st[S0.length+2+k]?=some y:=λk y hk=>keep _ _ Om (tn k y hk).1 (a2 k y hk)
   have k1:s2.st[S0.length+1]?=some (F .busy none):=by
    rw[mq.low _ (by simp only[Qt];simp only at br;omega) (c0 _ Om a1)];simp only;exact kg b1
   have fin:∀x',EntA n0 C2 (I x')->RInv B n0 S0.length ks ρ1 t df (I x') s2.st:=λx' gk=>by
    obtain⟨σ2,hrg2,he2⟩:=gk.ent;have hF3:=hF2.ren (C':=I x') hrg2;obtain⟨t3,_,td⟩:=he2.sat mq;have hl3:=td.len;simp only[Qt]at hl3;simp only at br;refine⟨_,hF3.rig,⟨by rw[fm];exact slot hF3.rig,td.hp,λk r hk o ho=>?_,λj hj hnj=>?_,Om,td.wsl,td.whp⟩,λd hd=>?_,Om⟩
    .rcases td.own k r hk o ho with h|⟨k',r',h,h'⟩
     .simp only[Qt]at h
      exact .inl Om
     .rcases hRs.own k' r' h o h' with h|⟨k2,r2,h2,h3⟩
      .simp only at h
       exact .inl Om
      .exact hR.own k2 r2 h2 o h3
    .have hj0:¬qav (I x).hp ρ j:=λ⟨k',r',h,h'⟩=>by
      rcases hR.own k' r' h j h' with h|h
      .omega
      .exact hnj h
     have hjS:j<S.length:=Om
     rw[<-hR.low j hj hnj];obtain⟨y,hy⟩:∃y,S[j]?=some y:=⟨_,Qj hjS⟩;rw[hy];exact keep j y Om hy hj0
    .exact keep d _ (by have:=hdn d hd;omega) (gj d hd) (ad d hd)
   cases e with
   |normal=>
    obtain⟨x',i4,gk⟩:=s4
    exact⟨k0,k1,k2,x',i4,fin x' gk⟩
   |ret=>
    obtain⟨x',i4,gk⟩:=s4
    exact⟨k0,k1,k2,x',i4,fin x' gk⟩
   |exit id=>
    obtain⟨x',i4,gk⟩:=s4
    exact⟨k0,k1,k2,x',i4,fin x' gk⟩
   |_=>exact s4.elim
  |_=>exact hq.elim
 .rintro i S hy ⟨x,hx,hi⟩ hm
  exact⟨I x,hn i x (by
   unfold evY at hy;split at hy
   .simp at hy
   .assumption) hx,out hi hm⟩
 .rintro c S ⟨x,hx,hi⟩ hm
  have hq:=hd c x hx
  cases c with
  |ret=>exact qu ⟨I x,hq,out hi hm⟩
  |exit id=>exact z7 ⟨I x,hq,out hi hm⟩
  |_=>exact hq.elim⟩
theorem qil{X:Type}{f:Operand}{p:Tmp}{asg body:Code}(text:List UInt8)(kb n0:Nat)(ks:List Nat)(I:X->Conf)(sl0:List (Nat×SV))(P:Nat->List UInt8->X->Prop)(D:Code->X->Prop)(x0:X)(h0:P 0 text x0)
  (he:EntA B.n0 C (I x0)) (hz:¬B.dz) (ht:text.length<4294967281) (fm:∀x,(I x).sl=sl0)
  (hf:sval N sl0 f=some (.fn (.func 154) [] [.bx kb 0]))
  (hkb:∀x,lkS (I x).hp kb=some (some (.cells 9 [.s text])))
  (hr:∀x,qbu n0 ks (I x).sl (I x).hp (I x).nx=true) (h0r:(ksIn n0 ks (I x0).hp&&Qn B.n0 n0)=true)
  (hb:∀k rest x,P k rest x->rest≠[]->rest.length<=text.length->RA E N n0 asg (λF ρ C1=>RB E N F ρ n0 body (rndQ n0 (P (k+1) (past 10 rest)) D I) C1) ⟨(p,qo6 k text rest)::(I x).sl,(I x).hp,(I x).nx⟩)
  (hn:∀k x,P k [] x->Q .normal (I x)) (hd:∀c x,D c x->q3p Q c (I x)):Sm E none N B (.rangeFunc f #[p] asg body) Q C:=by
 have hY:evY (λ(q:Nat×List UInt8)=>if q.2=[]∨text.length<q.2.length then none else some (qo6 q.1 text q.2,(q.1+1,past 10 q.2)))=qr8 text:=by
  funext ⟨k,rest⟩;by_cases h:rest=[]∨text.length<rest.length
  .simp[evY,qr8,h]
  .simp[evY,qr8,h,zju]
 refine qud (Y:=λ(q:Nat×List UInt8)=>if q.2=[]∨text.length<q.2.length then none else some (qo6 q.1 text q.2,(q.1+1,past 10 q.2))) (i0:=(0,text)) (by rw[hY];exact zla text ht) Tryz.call154 (λi v j h=>?_) kb n0 [.s text] (λ_=>rfl) ks I sl0 (λi x=>P i.1 i.2 x∧i.2.length<=text.length) D x0 ⟨h0,Qm _⟩ he hz fm hf hkb hr h0r (λi x v j hp h=>?_) (λi x h hp=>?_) hd
 .split at h
  .simp at h
  .simp only[Qa,Za]at h
   obtain⟨rfl,_⟩:=h;rfl
 .split at h
  .simp at h
  .rename_i b9
   simp only[Qa,Za]at h;obtain⟨rfl,rfl⟩:=h;have hb:=hb i.1 i.2 x hp.1 (λe=>b9 (.inl e)) hp.2;have hp2:=vm 10 i.2
   exact⟨λS F ρ rd=>⟨λs hs=>((hb.run S F ρ rd).run s hs).mono λe s' ⟨C',hq,mz⟩=>⟨C',by
    cases e with
    |normal=>exactλF'=>⟨λS rd=>qvn ((hq F').run S rd) λe C2 s4=>by
      cases e with
      |normal=>obtain⟨x,h1,h2⟩:=s4;exact⟨x,⟨h1,by simp only;have:=hp.2;omega⟩,h2⟩
      |_=>exact s4⟩
    |_=>exact hq,mz⟩⟩⟩
 .split at h
  .rename_i he
   have:i.2=[]:=he.elim id λh=>by have:=hp.2;omega
   refine hn i.1 x ?_;rw[<-this];exact hp.1
  .simp at h
end
theorem qpw{nx:Nat}{H:Nat->Option SR}(text:qa):vb E 107 [.s text] nx H ⟨.fn (.func 154) [] [.bx nx 0],[],[(nx,some (.cells 9 [.s text]))],nx+1⟩:=λρ S hS=>by
 refine(qz5 text S _ S.length rfl rfl).mono λr S' ⟨hr,hs⟩=>⟨upd ρ nx (.bx S.length 0 0),?_,?_⟩
 .rw[hr]
  simp only[SV.ev,SV.evs,ve,bxAt]
 .subst hs
  have key:∀k r',chF [(nx,some (SR.cells 9 [.s text]))] (resF [] H) k=some r'->k=nx∧r'=.cells 9 [.s text]:=λk r' hk=>by
   simp only[chF,lkS]at hk
   cases hb:Qx nx k with
   |true=>
    rw[hb]at hk;simp only[cond_true,Qa]at hk
    exact⟨(Qh hb).symm,hk.symm⟩
   |false=>
    rw[hb]at hk;simp[resF,memN]at hk
  refine⟨λk hk=>qak _ _ (by simp only at hk;omega),⟨λk r hk=>?_,λk k' r r' b9 h1 h2=>?_⟩,Sx,λj hj _=>Qy hj,λk r hk o ho=>?_⟩
  .obtain⟨rfl,rfl⟩:=key _ _ hk
   exact⟨S.length,0,ve _ _ _,by simp[SV.evs,SV.ev],rfl⟩
  .obtain⟨rfl,_⟩:=key _ _ h1
   obtain⟨rfl,_⟩:=key _ _ h2;exact absurd rfl b9
  .obtain⟨rfl,_⟩:=key _ _ hk
   rw[ve]at ho;simp only[zq,Qa]at ho;subst ho;exact .inl (Qm _)
end Go.Proofs.YtlekheifonaipaaGreatDoor
namespace Go.Av
open Go Go.RowKit
def vw(hp:List (Nat×Option SR)):List (Nat×Option SR):=hp.map λq=>(q.1,none)
def retS(P:Program)(fn:Func)(nx0:Nat)(r:SV)(bq:List (Nat×Option SR))(nx1:Nat)(e:Exit)(C:Conf):Prop:=
 match e with
 |.normal=>(match resV P fn.ntmps C fn.results.toList with
  |some v=>v.all (λk=>Qe k C.nx)=true∧EntA nx0 ⟨[(0,v)],C.hp,C.nx⟩ ⟨[(0,r)],bq,nx1⟩
  |none=>False)
 |.ret=>(match resV P fn.ntmps C fn.results.toList with
  |some v=>v.all (λk=>Qe k C.nx)=true∧EntA nx0 ⟨[(0,v)],C.hp,C.nx⟩ ⟨[(0,r)],bq,nx1⟩
  |none=>False)
 |_=>False
theorem zdd{hp:List (Nat×Option SR)}{k:Nat}{r:SR}(h:hpF hp k=some r):memN (kr hp) k=true:=by
 have:=vn (ym h);exact Zb.2 ⟨k,Xb.2 ⟨_,this,rfl⟩,Sx⟩
theorem wc(hp:List (Nat×Option SR)):resF (kr hp) (hpF hp)=hpF hp:=by
 funext k;unfold resF
 cases h:memN (kr hp) k with
 |true=>rfl
 |false=>
  cases h2:hpF hp k with
  |none=>rfl
  |some r=>rw[zdd h2]at h;simp at h
theorem q1v:∀(hp:List (Nat×Option SR))(k:Nat),lkS (vw hp) k=none∧lkS hp k=none∨lkS (vw hp) k=some none
 | [],_=>.inl ⟨rfl,rfl⟩
 |(i,x)::r,k=>by
  simp only[vw,Qz,lkS]
  cases hb:Qx i k with
  |true=>exact .inr rfl
  |false=>exact q1v r k
theorem qee(t7 bq:List (Nat×Option SR)):chF (bq++vw t7) (hpF t7)=hpF bq:=by
 funext k;unfold chF;rw[qez];unfold hpF
 cases h:lkS bq k with
 |some r=>rfl
 |none=>
  simp only;rcases q1v t7 k with⟨h1,h2⟩|h1
  .rw[h1,h2]
  .rw[h1]
theorem xl{E:Env}{f:FuncId}{fn:Func}{c:Code}(vs:List SV)(t7:List (Nat×Option SR))(nx0:Nat)(r:SV)(bq:List (Nat×Option SR))(nx1:Nat)(hf:E.P.funcs[f]?=some fn)(hb:fn.body=some c)(hn:Qn vs.length fn.ntmps=true)
  (hc:okC ⟨j5 0 vs,t7,nx0⟩=true) (hc1:okC ⟨[(0,r)],bq,nx1⟩=true)
  (h:∀S F ρ,numK 0 vs λsl=>Sm E none fn.ntmps ⟨S,F,ρ,nx0,False⟩ c (retS E.P fn nx0 r bq nx1) ⟨sl,t7,nx0⟩):vb E f vs nx0 (hpF t7) ⟨r,kr t7,bq++vw t7,nx1⟩:=λρ S hS=>by
 simp only[qst]at h;simp only[wc]at hS;have d5:(SV.evs ρ vs).length=vs.length:=by rw[xp,Xj]
 refine qq hf hb (by rw[d5];exact Qi hn) ?_;rw[Zp];simp only[okC,Qb]at hc hc1
 have hwhp:∀k r,hpF t7 k=some r->k<nx0∧r.all (λk=>Qe k nx0)=true:=λk r hk=>by
  have:=Qf.1 hc.2 _ (vn (ym hk));simp only[Qb]at this;exact⟨vi this.1,this.2⟩
 have e7:SatC ⟨S,qav t7 ρ,ρ,nx0,False⟩ ⟨j5 0 vs,t7,nx0⟩ ⟨argT (SV.evs ρ vs),S,[]⟩:=by
  refine⟨ρ,⟨nofun,Zr,λ_ _=>rfl,Qm _,nofun⟩,⟨λd v hd=>?_,hS,λk r hk o ho=>.inr ⟨k,r,hk,ho⟩,λ_ _ _=>rfl,Qm _,λd v hd=>?_,hwhp⟩⟩
  .obtain⟨j,h1,h2⟩:=qe0 hd
   have:(SV.evs ρ vs)[j]?=some (v.ev ρ):=by rw[xp,Qo,h2];rfl
   rw[h1,Qk];simp only[argT,Zi,this,Zm]
  .exact Qf.1 hc.1 _ (vn hd)
 refine((h S (qav t7 ρ) ρ).run _ e7).mono λe s' ⟨C',hq,mz⟩=>?_;obtain⟨t,S',df⟩:=s';obtain⟨ρ2,m8,hR⟩:=mz;simp only at m8 hR
 have fin:(match resV E.P fn.ntmps C' fn.results.toList with
  |some v=>v.all (λk=>Qe k C'.nx)=true∧EntA nx0 ⟨[(0,v)],C'.hp,C'.nx⟩ ⟨[(0,r)],bq,nx1⟩
  |none=>False)->ARet E fn (λr' S'=>∃ρ',r'=r.ev ρ'∧qkc ρ S nx0 (hpF t7) ⟨r,kr t7,bq++vw t7,nx1⟩ ρ' S') ⟨t,S',df⟩:=λh=>by
  split at h
  .rename_i v hv
   obtain⟨hva,he⟩:=h;obtain⟨σ,hrg,he⟩:=he.ent;refine qkf hR m8.dm m8.nd λS2 mq=>?_
   have td:SatR S (qav t7 ρ) ⟨[(0,v)],C'.hp,C'.nx⟩ ρ2 (λ_=>v.ev ρ2) S2:=
    ⟨λd u hd=>by
     simp only[lkS]at hd
     cases hb:Qx 0 d with
     |true=>rw[hb]at hd;simp only[cond_true,Qa]at hd;rw[hd]
     |false=>rw[hb]at hd;simp[lkS]at hd,mq.hp,mq.own,mq.low,mq.len,λd u hd=>by
     simp only[lkS]at hd
     cases hb:Qx 0 d with
     |true=>rw[hb]at hd;simp only[cond_true,Qa]at hd;rw[<-hd];exact hva
     |false=>rw[hb]at hd;simp[lkS]at hd,mq.whp⟩
   obtain⟨t',hw,hR4⟩:=he.sat td
   have hrig:∀k,k<nx0->renR σ ρ2 k=ρ k:=λk hk=>by
    simp only[Qb]at hrg;unfold renR;rw[qvk hrg.1 k hk];exact m8.rig k hk
   have hrn:nx0<=nx1:=by
    simp only[Qb]at hrg;exact Qi hrg.2
   generalize renR σ ρ2=ρ3 at hR4 hrig;have h0:t' 0=r.ev ρ3:=hR4.sl 0 r rfl;have hwk:=hw 0;rw[h0]at hwk
   let ρ':Nat->AV:=λk=>bif Qn nx1 k then ρ k else ρ3 k
   have hρ':∀k,Qe k nx1=true->ρ' k=ρ3 k:=λk hk=>by
    show(bif Qn nx1 k then ρ k else ρ3 k)=_
    have:Qn nx1 k=false:=by
     cases hb:Qn nx1 k with
     |false=>rfl
     |true=>have:=Qi hb;have:=vi hk;omega
    rw[this];rfl
   have hra:r.all (λk=>Qe k nx1)=true:=Qf.1 hc1.1 (0,r) Sx;have hev:r.ev ρ'=r.ev ρ3:=qbm hρ' r hra;refine qn rfl (ya (zbl mq hv) hwk) ⟨ρ',hev.symm,?_⟩
   have hwh:∀k r,hpF bq k=some r->ρ' k=ρ3 k∧r.all (λk=>Qe k nx1)=true:=λk r hk=>by
    obtain⟨g1,g2⟩:=hR4.whp k r hk;exact⟨hρ' k (qcl g1),g2⟩
   refine⟨λk hk=>?_,?_,hR4.len,λj hj hn=>?_,λk r hk o ho=>?_⟩
   .show(bif Qn nx1 k then ρ k else ρ3 k)=_
    cases hb:Qn nx1 k with
    |true=>rfl
    |false=>
     rcases hk with hk|hk
     .exact hrig k hk
     .have:=Ze hk
      simp only at this;rw[this]at hb;simp at hb
   .simp only[wc,qee]
    refine⟨λk r hk=>?_,λk k' r r' b9 h1 h2 o ho=>?_⟩
    .obtain⟨g1,g2⟩:=hwh k r hk
     rw[g1];exact SR.ok_of g2 hρ' (hR4.hp.ok k r hk) λ_ _=>rfl
    .rw[(hwh k r h1).1]at ho
     rw[(hwh k' r' h2).1];exact hR4.hp.sep k k' r r' b9 h1 h2 o ho
   .simp only[wc]at hn
    exact hR4.low j hj λ⟨k,r,hk,hl⟩=>hn k r hk hl
   .simp only[wc,qee]at hk⊢
    rw[(hwh k r hk).1]at ho;exact hR4.own k r hk o ho
  .exact h.elim
 cases e with
 |normal=>exact fin hq
 |ret=>exact fin hq
 |_=>exact hq.elim
def newN:Nat->Nat->Nat->List (Nat×Nat)
 |_,_,0=>[]
 |a,b,m+1=>(a,b)::newN (a+1) (b+1) m
theorem q6e:∀(m a b k:Nat),lkS (newN a b m) k=if a<=k∧k<a+m then some (b+(k-a))else none
 |0,a,b,k=>by rw[if_neg Om];rfl
 |m+1,a,b,k=>by
  simp only[newN,lkS];by_cases h:a=k
  .subst h
   simp
  .rw[jv h,q6e m]
   simp only[cond_false];by_cases h2:a+1<=k∧k<a+1+m
   .rw[if_pos h2,if_pos Om]
    congr 1;omega
   .rw[if_neg h2,if_neg Om]
def nmOf(σ:List (Nat×Nat))(k:Nat):Nat:=match lkS σ k with
 |some j=>j
 |none=>0
def SR.ren(σ:List (Nat×Nat)):SR->SR
 |.cells T cs=>.cells T (SV.rens σ cs)
 |.tip sz T xs=>.tip sz T xs
 |.own sz T xs=>.own sz T xs
 |.obj P=>.obj P
 |.rows T ys cs=>.rows T ys (SV.rens σ cs)
def renO(σ:List (Nat×Nat)):Option SR->Option SR
 |some r=>some (r.ren σ)
 |none=>none
def renH(σ:List (Nat×Nat)):List (Nat×Option SR)->List (Nat×Option SR)
 | []=>[]
 |(k,r)::l=>(nmOf σ k,renO σ r)::renH σ l
def fltH(ks:List Nat):List (Nat×Option SR)->List (Nat×Option SR)
 | []=>[]
 |(k,r)::l=>bif memN ks k then(k,r)::fltH ks l else fltH ks l
def outH(ks:List Nat):List (Nat×Option SR):=ks.map λk=>(k,none)
def qw1:List Nat->Bool
 | []=>true
 |k::r=> !memN r k&&qw1 r
theorem za4(ks:List Nat):∀(hp:List (Nat×Option SR))(k:Nat),lkS (fltH ks hp) k=bif memN ks k then lkS hp k else none
 | [],k=>by simp only[fltH,lkS];cases memN ks k<;>rfl
 |(i,r)::l,k=>by
  have ih:=za4 ks l k;simp only[fltH];by_cases e:i=k
  .subst e
   cases hm:memN ks i with
   |true=>simp[lkS]
   |false=>rw[hm]at ih;simp only[cond_false]at ih⊢;exact ih
  .cases hm:memN ks i with
   |true=>simp only[cond_true,lkS,jv e,cond_false];exact ih
   |false=>simp only[cond_false,lkS,jv e];exact ih
theorem zat(ks:List Nat)(hp:List (Nat×Option SR)):hpF (fltH ks hp)=resF ks (hpF hp):=by
 funext k;unfold hpF resF;rw[za4]
 cases memN ks k<;>rfl
theorem za6{σ:List (Nat×Nat)}:∀{hp:List (Nat×Option SR)}{j:Nat}{rr:SR},lkS (renH σ hp) j=some (some rr)->∃k r,(k,some r)∈hp∧nmOf σ k=j∧rr=r.ren σ
 | [],j,rr,h=>by simp[renH,lkS]at h
 |(k,r)::l,j,rr,h=>by
  simp only[renH,lkS]at h
  cases hb:Qx (nmOf σ k) j with
  |true=>
   rw[hb]at h;simp only[cond_true,Qa]at h
   cases r with
   |none=>simp[renO]at h
   |some r=>
    simp only[renO,Qa]at h
    exact⟨k,r,Sx,Qh hb,h.symm⟩
  |false=>
   rw[hb]at h;obtain⟨k',r',h1,h2,h3⟩:=za6 h;exact⟨k',r',List.mem_cons_of_mem _ h1,h2,h3⟩
theorem q05:∀{hp:List (Nat×Option SR)}{k:Nat}{r:SR},qw1 (kr hp)=true->(k,some r)∈hp->hpF hp k=some r
 | [],k,r,_,h=>by simp at h
 |(i,x)::l,k,r,hd,h=>by
  simp only[kr,Qz,qw1,Qb]at hd;unfold hpF;simp only[lkS];rcases Zy.1 h with e|e
  .simp only[Za]at e
   obtain⟨rfl,rfl⟩:=e;simp
  .have b9:i≠k:=λe'=>by
    subst e';have:memN (List.map Xu l) i=true:=Zb.2 ⟨i,Xb.2 ⟨_,e,rfl⟩,Sx⟩;rw[this]at hd;simp at hd
   rw[jv b9];exact q05 hd.2 e
theorem za5:∀(ks:List Nat)(j:Nat),lkS (outH ks) j=bif memN ks j then some none else none
 | [],j=>rfl
 |k::r,j=>by
  have ih:=za5 r j;simp only[outH,Qz,lkS,memN,Zs];by_cases e:k=j
  .subst e;simp
  .rw[jv e,jv (λh=>e h.symm)]
   exact ih
theorem q6k{α:Type}:∀{l:List α}{i0 i:Nat}{v:α},l[i]?=some v->lkS (j5 i0 l) (i0+i)=some v
 | [],_,_,_,h=>by simp at h
 |x::r,i0,0,v,h=>by
  simp only[Qw,Qa]at h;subst h
  simp[j5,lkS]
 |x::r,i0,i+1,v,h=>by
  simp only[j5,lkS];rw[jv Om,show i0+(i+1)=i0+1+i by omega];exact q6k (by simpa using h)
theorem zoh{E:Env}{f:FuncId}{vs0:List SV}{t7:List (Nat×Option SR)}{nx0:Nat}{r:SV}{bq:List (Nat×Option SR)}{nx1:Nat}(h:vb E f vs0 nx0 (hpF t7) ⟨r,kr t7,bq++vw t7,nx1⟩)
  (σ:List (Nat×Nat)) {tv:List (Nat×Option SR)} {vs:List SV} {nx:Nat} (hl:vs.length=vs0.length) (hc:okC ⟨j5 0 vs,fltH (σ.map Zj) tv,nx⟩=true)
  (he:EntC σ ⟨j5 0 vs,fltH (σ.map Zj) tv,nx⟩ ⟨j5 0 vs0,t7,nx0⟩) (hc1:okC ⟨[(0,r)],bq,nx1⟩=true)
  (hk:(qw1 (kr bq)&&bq.all (λq=>(lkS (newN nx0 nx (nx1-nx0)++σ) q.1).isSome)&&σ.all (λq=>Qe q.1 nx0&&Qe q.2 nx)&&Qn nx0 nx1)=true):
  vb E f vs nx (hpF tv) ⟨r.ren (newN nx0 nx (nx1-nx0)++σ),σ.map Zj,renH (newN nx0 nx (nx1-nx0)++σ) bq++outH (σ.map Zj),nx+(nx1-nx0)⟩:=λρ S hS=>by
 simp only at hS;simp only[Qb]at hk;obtain⟨⟨⟨hd,hsm⟩,hσ⟩,hn⟩:=hk;have hn:=Qi hn;simp only[okC,Qb]at hc hc1;generalize lk:σ.map Zj=ks at hS hc he⊢;obtain⟨m,hm⟩:∃m,m=nx1-nx0:=⟨_,rfl⟩;rw[<-hm]at hsm⊢
 have hR:SatR S (qav (fltH ks tv) ρ) ⟨j5 0 vs,fltH ks tv,nx⟩ ρ (argT (SV.evs ρ vs)) S:=by
  refine⟨λd v hd=>?_,by simp only[zat];exact hS,λk r hk o ho=>.inr ⟨k,r,hk,ho⟩,λ_ _ _=>rfl,Qm _,λd v hd=>Qf.1 hc.1 _ (vn hd),λk r hk=>?_⟩
  .obtain⟨j,h1,h2⟩:=qe0 hd
   have:(SV.evs ρ vs)[j]?=some (v.ev ρ):=by rw[xp,Qo,h2];rfl
   rw[h1,Qk];simp only[argT,Zi,this,Zm]
  .have:=Qf.1 hc.2 _ (vn (ym hk))
   simp only[Qb]at this;exact⟨vi this.1,this.2⟩
 obtain⟨t',hw,pz⟩:=he.sat hR;have tw:∀k j,lkS σ k=some j->renR σ ρ k=ρ j:=λk j e=>by unfold renR;rw[e]
 have hrn:∀k,lkS σ k=none->renR σ ρ k=zm:=λk e=>by unfold renR;rw[e]
 -- where a canonical resource lies
 have foot:∀k r,hpF t7 k=some r->∀o,zq (renR σ ρ k)=some o->∃j r',resF ks (hpF tv) j=some r'∧zq (ρ j)=some o:=λk r hk o ho=>by
  have hE:=qif he.2.1 (ym hk);simp only[zat]at hE;unfold entR at hE
  cases hl:lkS σ k with
  |none=>
   rw[hrn k hl]at ho
   simp[zq]at ho
  |some j=>
   rw[tw k j hl]at ho;rw[hl]at hE
   cases hj:resF ks (hpF tv) j with
   |none=>cases r<;>(simp only[hj]at hE)
   |some r'=>exact⟨j,r',hj,ho⟩
 have hS0:SatF S (renR σ ρ) (hpF t7):=pz.hp;refine q31 (ys:=SV.evs (renR σ ρ) vs0) (by simp[xp,hl]) (λi x y hx hy=>?_) ((h (renR σ ρ) S (by simp only[wc];exact hS0)).mono λr' S' ⟨ρc,hr,hp⟩=>?_)
 .have h1:=hw i
  simp only[xp,Qo]at hy hx
  cases hv:vs0[i]?with
  |none=>rw[hv]at hy;simp at hy
  |some v=>
   rw[hv]at hy;simp only[Option.map_some,Qa]at hy;have h2:=pz.sl i v (by have:=q6k (i0:=0) hv;rwa [Qk]at this);rw[h2,hy]at h1;have:argT (SV.evs ρ vs) i=x:=by simp only[argT,Zi,xp,Qo,hx,Zm]
   rw[this]at h1;exact h1
 .let ρ':Nat->AV:=λj=>bif Qn nx j&&Qe j (nx+m)then ρc (nx0+(j-nx))else ρ j
  have i5:∀j,(j<nx∨nx+m<=j)->ρ' j=ρ j:=λj hj=>by
   show(bif Qn nx j&&Qe j (nx+m)then ρc (nx0+(j-nx))else ρ j)=ρ j
   have:(Qn nx j&&Qe j (nx+m))=false:=by
    cases hb:(Qn nx j&&Qe j (nx+m))with
    |false=>rfl
    |true=>
     simp only[Qb]at hb;have h1:=Qi hb.1;have h2:=vi hb.2;omega
   rw[this];rfl
  have t6:∀i,i<m->ρ' (nx+i)=ρc (nx0+i):=λi hi=>by
   show(bif Qn nx (nx+i)&&Qe (nx+i) (nx+m)then ρc (nx0+(nx+i-nx))else ρ (nx+i))=_
   have h1:Qn nx (nx+i)=true:=Ze Om;have h2:Qe (nx+i) (nx+m)=true:=qcl Om;rw[h1,h2,show nx+i-nx=i by omega];rfl
  have hσj:∀k j,lkS σ k=some j->k<nx0∧j<nx:=λk j e=>by
   have:=Qf.1 hσ _ (vn e);simp only[Qb]at this;exact⟨vi this.1,vi this.2⟩
  have hro:∀k,k<nx0->ρc k=renR σ ρ k:=λk hk=>hp.old k (.inl hk)
  have key:∀k,k<nx1->renR (newN nx0 nx m++σ) ρ' k=ρc k:=λk hk=>by
   have e:renR (newN nx0 nx m++σ) ρ' k=match lkS (newN nx0 nx m++σ) k with|some j=>ρ' j|none=>zm:=rfl
   rw[e,qez,q6e];by_cases e9:nx0<=k
   .rw[if_pos ⟨e9,Om⟩]
    simp only;rw[t6 _ Om,show nx0+(k-nx0)=k by omega]
   .rw[if_neg Om,hro k Om]
    simp only
    cases hl:lkS σ k with
    |none=>rw[hrn k hl]
    |some j=>
     rw[tw k j hl];exact i5 j (.inl (hσj k j hl).2)
  have keyj:∀k,k<nx1->(lkS (newN nx0 nx m++σ) k).isSome=true->ρ' (nmOf (newN nx0 nx m++σ) k)=ρc k:=λk hk hs=>by
   rw[<-key k hk];unfold renR nmOf
   cases hl:lkS (newN nx0 nx m++σ) k with
   |none=>rw[hl]at hs;simp at hs
   |some j=>rfl
  have res:∀j rr,chF (renH (newN nx0 nx m++σ) bq++outH ks) (resF ks (hpF tv)) j=some rr->∃k r,hpF bq k=some r∧nmOf (newN nx0 nx m++σ) k=j∧rr=r.ren (newN nx0 nx m++σ)∧ρ' j=ρc k∧r.all (λk=>Qe k nx1)=true:=λj rr hj=>by
   unfold chF at hj;rw[qez]at hj
   cases hl:lkS (renH (newN nx0 nx m++σ) bq) j with
   |some x=>
    rw[hl]at hj;simp only at hj;subst hj;obtain⟨k,r,h1,h2,h3⟩:=za6 hl;have h4:=Qf.1 hc1.2 _ h1;simp only[Qb]at h4;have h5:=Qf.1 hsm _ h1;refine⟨k,r,q05 hd h1,h2,h3,?_,h4.2⟩;rw[<-h2]
    exact keyj k (vi h4.1) h5
   |none=>
    rw[hl]at hj;simp only[za5]at hj
    cases hmm:memN ks j with
    |true=>rw[hmm]at hj;simp at hj
    |false=>
     rw[hmm]at hj;simp[resF,hmm]at hj
  have hra:r.all (λk=>Qe k nx1)=true:=Qf.1 hc1.1 (0,r) Sx;refine⟨ρ',?_,λk hk=>i5 k hk,⟨λj rr hj=>?_,λj j' rr rr' b9 h1 h2 o ho=>?_⟩,hp.len,λj hj hnj=>?_,λj rr hj o ho=>?_⟩
  .rw[hr]
   simp only;rw[qyl];exact(qbm (λk hk=>key k (vi hk)) r hra).symm
  .obtain⟨k,r0,h1,h2,rfl,h4,h5⟩:=res j rr hj
   rw[h4];have hsat:=hp.sat;simp only[wc,qee]at hsat;have hok:=hsat.ok k r0 h1
   cases r0 with
   |cells T cs=>
    obtain⟨o,v,g1,g2,g3⟩:=hok;refine⟨o,v,g1,?_,g3⟩;rw[qfo,qbx (λk hk=>key k (vi hk)) cs h5]
    exact g2
   |tip sz T xs=>exact hok
   |own sz T xs=>exact hok
   |obj P=>exact hok
   |rows T ys cs=>
    show OwnS _ 1 T (ys++SV.evs _ (SV.rens _ cs)) _
    rw[qfo,qbx (λk hk=>key k (vi hk)) cs h5];exact hok
  .obtain⟨k,r0,h3,h4,_,h5,_⟩:=res j rr h1
   obtain⟨k',r0',h3',h4',_,h5',_⟩:=res j' rr' h2;rw[h5]at ho;rw[h5'];have hsat:=hp.sat;simp only[wc,qee]at hsat;exact hsat.sep k k' r0 r0' (λe=>b9 (by rw[<-h4,<-h4',e])) h3 h3' o ho
  .refine hp.fr j hj λk r0 hk fg=>?_
   simp only[wc]at hk;obtain⟨j',r',g1,g2⟩:=foot k r0 hk j fg;exact hnj j' r' g1 g2
  .obtain⟨k,r0,h1,h2,_,h4,_⟩:=res j rr hj
   rw[h4]at ho;have hlc:=hp.loc k r0 (by simp only[wc,qee];exact h1) o ho;rcases hlc with g|⟨k',r',g1,g2⟩
   .exact .inl g
   .simp only[wc]at g1
    obtain⟨j',r'',g3,g4⟩:=foot k' r' g1 o g2;exact .inr ⟨j',r'',g3,g4⟩
def useW(vs0:List SV)(t7:List (Nat×Option SR))(nx0:Nat)(r:SV)(bq:List (Nat×Option SR))(nx1:Nat)(tv:List (Nat×Option SR))(vs:List SV)(nx:Nat)(k:Ef->Prop):Prop:=
 fcP (addS [] (prsL vs0 vs)) λa=>fcP (addS a (sigH (hpF tv) a t7)) λσ=>
  vs.length=vs0.length∧okC ⟨j5 0 vs,fltH (σ.map Zj) tv,nx⟩=true∧EntC σ ⟨j5 0 vs,fltH (σ.map Zj) tv,nx⟩ ⟨j5 0 vs0,t7,nx0⟩∧okC ⟨[(0,r)],bq,nx1⟩=true∧
   (qw1 (kr bq)&&bq.all (λq=>(lkS (newN nx0 nx (nx1-nx0)++σ) q.1).isSome)&&σ.all (λq=>Qe q.1 nx0&&Qe q.2 nx)&&Qn nx0 nx1)=true∧
   k ⟨r.ren (newN nx0 nx (nx1-nx0)++σ),σ.map Zj,renH (newN nx0 nx (nx1-nx0)++σ) bq++outH (σ.map Zj),nx+(nx1-nx0)⟩
theorem jn{E:Env}{f:FuncId}{vs0:List SV}{t7:List (Nat×Option SR)}{nx0:Nat}{r:SV}{bq:List (Nat×Option SR)}{nx1:Nat}(h:vb E f vs0 nx0 (hpF t7) ⟨r,kr t7,bq++vw t7,nx1⟩){tv:List (Nat×Option SR)}{vs:List SV}{nx:Nat}{k:Ef->Prop}
  (hw:useW vs0 t7 nx0 r bq nx1 tv vs nx k):∃e,vb E f vs nx (hpF tv) e∧k e:=by
 unfold useW at hw;simp only[q5j]at hw;obtain⟨h1,h2,h3,h4,h5,h6⟩:=hw;exact⟨_,zoh h _ h1 h2 h3 h4 h5,h6⟩
theorem zlt{l m:List AV}(hl:l.length=m.length)(h:∀(i:Nat)(x y:AV),l[i]?=some x->m[i]?=some y->Wk x y):Wk (.pp l) (.pp m):=λG v hr=>by
 cases hr with
 |pp _ b off pub hp d5 hr=>
  refine .pp m b off pub hp Om λi y z hy hz=>?_;have hi:i<l.length:=by have:=lt_of_getElem? hy;omega
  have hx:l[i]?=some l[i]:=Qj hi;exact h i _ y hx hy G z (hr i _ z hx hz)
theorem q4r{E:Env}{fn:Func}{R:AV->List AObj->Prop}{s:AS}{d o ver:Nat}{T:TypeId}{cs xs:List AV}(hi:s.t d=.bx o ver 0)(ho:s.st[o]?=some (.cells ver T cs))(hw:Wk (.pp cs) (.pp xs))
  (h:ARet E fn R ⟨Av.put s.t d (.pp xs),s.st.set o .dead,s.df⟩):ARet E fn R s:=
 ⟨λB0 w0 G a w hL hI R2 hR=>by
  obtain⟨G1,h1,h2⟩:=hI.pub hi ho;refine h.run B0 w0 G1 a w hL ⟨h2.agree,h2.defers,h2.size,λj y hy=>?_⟩ R2 λv G' r st' w' hG=>hR v G' r st' w' (h1.trans hG);have hj:=h2.tmps j y hy;by_cases e:j=d
  .subst e
   simp only[xx]at hj⊢;exact hw G1 y hj
  .simp only at hj⊢
   rw[qax _ _ _ _ e]at hj⊢
   exact hj⟩
theorem zes{E:Env}{fn:Func}{R:AV->List AObj->Prop}{s:AS}{d o ver o2 ver2 sz cap:Nat}{T T2:TypeId}{cs xs ys pad:List AV}(hi:s.t d=.bx o ver 0)(ho:s.st[o]?=some (.cells ver T cs))(mv:s.st[o2]?=some (.cells ver2 T2 (flat ys++pad)))(b9:o≠o2)(hw:∀y∈ys,y.cells.length=sz)(hc:ys.length<=cap)(hl:cs.length=xs.length)
  (hx:∀(i:Nat)(x y:AV),cs[i]?=some x->xs[i]?=some y->Wk x y∨(x=.os o2 ver2 0 ys.length cap∧y=.sl sz ys none)) (h:ARet E fn R ⟨Av.put s.t d (.pp xs),(s.st.set o .dead).set o2 .dead,s.df⟩):ARet E fn R s:=
 ⟨λB0 w0 G a w hL hI R2 hR=>by
  obtain⟨G1,h1,h2⟩:=hI.pub hi ho;have ho3:(s.st.set o .dead)[o2]?=some (.cells ver2 T2 (flat ys++pad)):=(Qg b9).trans mv;obtain⟨vs,d7,hA,hv,hp,pm,hr⟩:=h2.agree.pubOb ho3;refine h.run B0 w0 _ a w hL ⟨hA,h2.defers_mono d7,h2.size,λj y hy=>?_⟩ R2 λv G' r st' w' hG=>hR v G' r st' w' (h1.trans (d7.trans hG));have hj:=(h2.tmps j y hy).mono d7;by_cases e:j=d
  .subst e
   simp only[xx]at hj⊢
   cases hj with
   |pp _ b off pub hp2 d5 i6=>
    refine .pp xs b off pub hp2 Om λi z u hz hu=>?_;have hi:i<cs.length:=by have:=lt_of_getElem? hz;omega
    have hg:cs[i]?=some cs[i]:=Qj hi;have dg:=i6 i _ u hg hu;rcases hx i _ z hg hz with hw1|⟨e1,rfl⟩
    .exact hw1 _ _ dg
    .rw[e1]at dg
     cases dg with
     |os _ _ _ _ bl _ hn dk hb=>
      have hb:=hb hv;subst hb;refine .sl sz ys none _ 0 cap vs hp hw (by rw[<-pm];simp) (λk x y g1 g2=>hr k x y (by rw[Qy (lt_of_getElem? g1)];exact g1) (by simpa using g2)) (λt ht=>by simp at ht) hc
  .simp only at hj⊢
   rw[qax _ _ _ _ e]at hj⊢
   exact hj⟩
theorem zly{E:Env}{fn:Func}{R:AV->List AObj->Prop}{s:AS}{d o ver sz cap:Nat}{T:TypeId}{ys pad:List AV}(hi:s.t d=.os o ver 0 ys.length cap)(ho:s.st[o]?=some (.cells ver T (flat ys++pad)))(hw:∀y∈ys,y.cells.length=sz)(hc:ys.length<=cap)
  (h:ARet E fn R ⟨Av.put s.t d (.sl sz ys none),s.st.set o .dead,s.df⟩):ARet E fn R s:=
 ⟨λB0 w0 G a w hL hI R2 hR=>by
  obtain⟨G1,h1,h2⟩:=hI.osPub (xs:=ys) (sz:=sz) hi ho rfl hc hw (by rw[Qc,zv hw];omega) (by rw[Xo,<-zv hw,Zw])
  exact h.run B0 w0 G1 a w hL h2 R2 λv G' r st' w' hG=>hR v G' r st' w' (h1.trans hG)⟩
def zgn(H:Nat->Option SR):SV->Option (Nat×Nat×List AV)
 |.tp k=>(match H k with
  |some (.own sz _ ys)=>some (k,sz,ys)
  |_=>none)
 |_=>none
def qx2(H:Nat->Option SR):List SV->Option (Nat×Nat×List AV)
 | []=>none
 |c::r=>(match zgn H c with
  |some x=>some x
  |none=>qx2 H r)
theorem q60{H:Nat->Option SR}{j sz:Nat}{ys:List AV}:∀{cs:List SV},qx2 H cs=some (j,sz,ys)->∃T,H j=some (.own sz T ys)
 | [],h=>by simp[qx2]at h
 |c::r,h=>by
  simp only[qx2]at h;split at h
  .rename_i x hx
   simp only[Qa]at h;subst h;unfold zgn at hx;split at hx
   .split at hx
    .rename_i hk
     simp only[Qa,Za]at hx;obtain⟨rfl,rfl,rfl⟩:=hx;exact⟨_,hk⟩
    .simp at hx
   .simp at hx
  .exact q60 (cs:=r) h
def frzJ(H:Nat->Option SR)(j sz:Nat)(ys:List AV):List SV->Option (List AV)
 | []=>some []
 |c::r=>(match(match c with
   |.tp k=>bif Qx k j then some (.sl sz ys none)else frz H (.tp k)
   |c=>frz H c),frzJ H j sz ys r with
  |some x,some l=>some (x::l)
  |_,_=>none)
theorem zaq{S:List AObj}{ρ:Nat->AV}{H:Nat->Option SR}(hS:SatF S ρ H){j sz:Nat}{ys:List AV}:∀(cs:List SV)(xs:List AV),frzJ H j sz ys cs=some xs->(SV.evs ρ cs).length=xs.length∧∀(i:Nat)(x y:AV),(SV.evs ρ cs)[i]?=some x->xs[i]?=some y->Wk x y∨(x=tpAt (ρ j)∧y=.sl sz ys none)
 | [],xs,h=>by simp only[frzJ,Qa]at h;subst h;exact⟨rfl,by simp[SV.evs]⟩
 |c::r,xs,h=>by
  simp only[frzJ]at h;split at h
  .rename_i x l h1 h2
   simp only[Qa]at h;subst h;obtain⟨g1,g2⟩:=zaq hS r l h2;refine⟨by simp[SV.evs,g1],λi a b ha hb=>?_⟩
   cases i with
   |zero=>
    simp only[SV.evs,Qw,Qa]at ha hb;subst ha;subst hb;split at h1
    .rename_i k
     cases hkj:Qx k j with
     |true=>
      rw[hkj]at h1;simp only[cond_true,Qa]at h1;rw[Qh hkj]
      exact .inr ⟨rfl,h1.symm⟩
     |false=>
      rw[hkj]at h1;exact .inl (qjs hS _ _ h1)
    .exact .inl (qjs hS _ _ h1)
   |succ i=>exact g2 i a b (by simpa[SV.evs]using ha) (by simpa using hb)
  .simp at h
def pubK(k:Conf->Prop):List ResultVar->Conf->Prop
 | [],C=>k C
 |.tmp t::r,C=>(match lkS C.sl t with
  |some (.bx b 0)=>(match hpF C.hp b with
   |some (.cells _ cs)=>(match qx2 (hpF C.hp) cs with
    |some (j,sz,ys)=>(match frzJ (hpF C.hp) j sz ys cs with
     |some xs=>pubK k r ⟨(t,.a (.pp xs))::C.sl,(j,none)::(b,none)::C.hp,C.nx⟩
     |none=>pubK k r C)
    |none=>(match frzs (hpF C.hp) cs with
     |some xs=>pubK k r ⟨(t,.a (.pp xs))::C.sl,(b,none)::C.hp,C.nx⟩
     |none=>pubK k r C))
   |_=>pubK k r C)
  |some (.tp b)=>(match hpF C.hp b with
   |some (.own sz _ ys)=>pubK k r ⟨(t,.a (.sl sz ys none))::C.sl,(b,none)::C.hp,C.nx⟩
   |_=>pubK k r C)
  |_=>pubK k r C)
 |_::r,C=>pubK k r C
theorem SatR.drop{S0:List AObj}{F:Nat->Prop}{C:Conf}{ρ t:Nat->AV}{S:List AObj}(h:SatR S0 F C ρ t S){b o:Nat}{q:SR}(hb:hpF C.hp b=some q)(ho:∀o',zq (ρ b)=some o'->o'=o)(hd:zq (ρ b)=some o∨S.set o .dead=S):
  SatR S0 F ⟨C.sl,(b,none)::C.hp,C.nx⟩ ρ t (S.set o .dead):=by
 have d8:∀k r,hpF ((b,none)::C.hp) k=some r->k≠b∧hpF C.hp k=some r:=λk r hk=>by
  unfold hpF at hk⊢;simp only[lkS]at hk;by_cases e:b=k
  .subst e;simp at hk
  .rw[jv e]at hk
   exact⟨λh=>e h.symm,hk⟩
 rcases hd with hd|hd
 .refine⟨h.sl,⟨λk r hk=>?_,λk k' r r' b9 hk bg=>h.hp.sep k k' r r' b9 (d8 k r hk).2 (d8 k' r' bg).2⟩,λk r hk=>h.own k r (d8 k r hk).2,λj hj hF=>?_,by simpa using h.len,h.wsl,λk r hk=>h.whp k r (d8 k r hk).2⟩
  .obtain⟨b9,hk⟩:=d8 k r hk
   refine SR.ok_of (f:=λ_=>true) (SR.all_mono (λ_ _=>rfl) r (h.whp k r hk).2) (λ_ _=>rfl) (h.hp.ok k r hk) λj hj=>?_;have:o≠j:=λe=>h.hp.sep b k _ r (λe=>b9 e.symm) hb hk o hd (e▸hj);rw[Qg this]
  .have:o≠j:=λe=>by
    rcases h.own b _ hb o hd with g|g
    .omega
    .exact hF (e▸g)
   rw[Qg this];exact h.low j hj hF
 .rw[hd]
  exact⟨h.sl,⟨λk r hk=>h.hp.ok k r (d8 k r hk).2,λk k' r r' b9 hk bg=>h.hp.sep k k' r r' b9 (d8 k r hk).2 (d8 k' r' bg).2⟩,λk r hk=>h.own k r (d8 k r hk).2,h.low,h.len,h.wsl,λk r hk=>h.whp k r (d8 k r hk).2⟩
theorem SatR.slot{S0:List AObj}{F:Nat->Prop}{C:Conf}{ρ t:Nat->AV}{S:List AObj}(h:SatR S0 F C ρ t S)(d:Nat){y:AV}:SatR S0 F ⟨(d,.a y)::C.sl,C.hp,C.nx⟩ ρ (Av.put t d y) S:=by
 refine⟨λx v hx=>?_,h.hp,h.own,h.low,h.len,λx v hx=>?_,h.whp⟩
 .simp only[lkS]at hx
  by_cases e:d=x
  .subst e
   simp at hx;subst hx;exact xx _ _ _
  .rw[jv e]at hx
   simp only[cond_false]at hx;exact(qax _ _ _ _ (λh=>e h.symm)).trans (h.sl x v hx)
 .simp only[lkS]at hx
  by_cases e:d=x
  .subst e
   simp at hx;subst hx;rfl
  .rw[jv e]at hx
   exact h.wsl x v hx
theorem SatR.pub{S0:List AObj}{F:Nat->Prop}{C:Conf}{ρ t:Nat->AV}{S:List AObj}(h:SatR S0 F C ρ t S){d b o:Nat}{T:TypeId}{cs:List SV}{xs:List AV}(hb:hpF C.hp b=some (.cells T cs))(ho:zq (ρ b)=some o):
  SatR S0 F ⟨(d,.a (.pp xs))::C.sl,(b,none)::C.hp,C.nx⟩ ρ (Av.put t d (.pp xs)) (S.set o .dead):=
 (h.drop hb (λo' e8=>by rw[ho]at e8;simpa using e8.symm) (.inl ho)).slot d
theorem zlz{E:Env}{fn:Func}{R:AV->List AObj->Prop}{s:AS}{d:Nat}{x r:AV}(hi:s.t d=x)(hw:Wk x r)(h:ARet E fn R ⟨Av.put s.t d r,s.st,s.df⟩):ARet E fn R s:=
 ⟨λB0 w0 G a w hL hI R2 hR=>h.run B0 w0 G a w hL ⟨hI.agree,hI.defers,hI.size,λj y hy=>by
  have hj:=hI.tmps j y hy;by_cases e:j=d
  .subst e
   simp only[xx];rw[hi]at hj;exact hw G y hj
  .simp only
   rw[qax _ _ _ _ e]
   exact hj⟩ R2 hR⟩
theorem qcf{E:Env}{fn:Func}{R:AV->List AObj->Prop}{S0:List AObj}{F:Nat->Prop}{ρ:Nat->AV}{k:Conf->Prop}(hk:∀C t S,k C->SatR S0 F C ρ t S->ARet E fn R ⟨t,S,[]⟩):∀{l:List ResultVar}{C:Conf}{t:Nat->AV}{S:List AObj},pubK k l C->SatR S0 F C ρ t S->ARet E fn R ⟨t,S,[]⟩
 | [],C,t,S,h,hR=>hk C t S h hR
 |.cell _ _::r,C,t,S,h,hR=>qcf hk (l:=r) h hR
 |.tmp d::r,C,t,S,h,hR=>by
  simp only[pubK]at h;split at h
  .rename_i b hd
   split at h
   .rename_i T cs hb
    obtain⟨o,v,e1,e2,e3⟩:=hR.hp.ok b _ hb;have ht:=hR.sl d _ hd;simp only[SV.ev,e1,bxAt]at ht;split at h
    .rename_i j sz ys hj
     split at h
     .rename_i xs hx
      obtain⟨T2,hj⟩:=q60 hj;obtain⟨w1,w2⟩:=zaq hR.hp cs xs hx;have hbj:b≠j:=λe=>by subst e;rw[hb]at hj;simp at hj
      have hP:=hR.pub (d:=d) (xs:=xs) hb (by rw[e1];rfl)
      have hj2:hpF ((b,none)::C.hp) j=some (.own sz T2 ys):=by
       unfold hpF at hj⊢;simp only[lkS,jv hbj,cond_false];exact hj
      rcases hR.hp.ok j _ hj with⟨rfl,f1⟩|⟨o2,ver2,cap,pad,f1,f2,f3,f4,f5,f6⟩
      .refine q4r ht e2 (zlt w1 λi x y hx hy=>?_) (qcf hk (l:=r) h ?_)
       .rcases w2 i x y hx hy with g|⟨g1,g2⟩
        .exact g
        .subst g1 g2
         unfold tpAt;rw[f1.one];exact f1.wk sz
       .have:=hP.drop (o:=S.length) hj2 (λo' e8=>by rw[f1.loc]at e8;simp at e8) (.inr (Qu Sx))
        rwa [Qu Sx]at this
      .have b9:o≠o2:=λe=>hR.hp.sep b j _ _ hbj hb hj o (by rw[e1];rfl) (by rw[f1,e];rfl)
       refine zes ht e2 f2 b9 f4 f5 w1 (λi x y hx hy=>?_) (qcf hk (l:=r) h (hP.drop hj2 (λo' e8=>?_) (.inl (by rw[f1];rfl))))
       .rcases w2 i x y hx hy with g|⟨g1,g2⟩
        .exact .inl g
        .exact .inr ⟨by rw[g1,f1];rfl,g2⟩
       .rw[f1]at e8
        simpa[zq]using e8.symm
     .exact qcf hk (l:=r) h hR
    .split at h
     .rename_i xs hx
      obtain⟨w1,w2⟩:=qgz hR.hp cs xs hx;exact q4r ht e2 (zlt w1 w2) (qcf hk (l:=r) h (hR.pub hb (by rw[e1];rfl)))
     .exact qcf hk (l:=r) h hR
   .exact qcf hk (l:=r) h hR
  .rename_i b hd
   split at h
   .rename_i sz T ys hb
    have ht:=hR.sl d _ hd;have hok:=hR.hp.ok b _ hb;simp only[SV.ev,qio hok]at ht;rcases hok with⟨rfl,f1⟩|⟨o,ver,cap,pad,f1,f2,f3,f4,f5,f6⟩
    .have hP:=hR.drop (o:=S.length) hb (λo' e8=>by rw[f1.loc]at e8;simp at e8) (.inr (Qu Sx))
     rw[Qu Sx]at hP;exact zlz ht (f1.wk sz) (qcf hk (l:=r) h (hP.slot d))
    .rw[f1]at ht
     have hP:=hR.drop (o:=o) hb (λo' e8=>by rw[f1]at e8;simpa[zq]using e8.symm) (.inl (by rw[f1];rfl));exact zly ht f2 f4 f5 (qcf hk (l:=r) h (hP.slot d))
   .exact qcf hk (l:=r) h hR
  .exact qcf hk (l:=r) h hR
def retP(P:Program)(fn:Func)(r0:AV)(e:Exit)(C:Conf):Prop:=
 match e with
 |.normal=>pubK (λC=>ansW P fn C λy=>Tl y r0) fn.results.toList C
 |.ret=>pubK (λC=>ansW P fn C λy=>Tl y r0) fn.results.toList C
 |_=>False
theorem qpn{E:Env}{f:FuncId}{fn:Func}{c:Code}{args:List AV}{st:List AObj}{r0:AV}(vs:List SV)(hp:Pure r0)(hf:E.P.funcs[f]?=some fn)(hb:fn.body=some c)(hn:Qn args.length fn.ntmps=true)(hv:∀ρ,SV.evs ρ vs=args)(hc:okC ⟨j5 0 vs,[],0⟩=true)
  (h:∀S0,numK 0 vs λsl=>Sm E none fn.ntmps ⟨S0,λ_=>False,λ_=>zm,0,False⟩ c (retP E.P fn r0) ⟨sl,[],0⟩):qp E f args st λr st'=>r=r0∧st'=st:=by
 simp only[qst]at h;refine qz hp (qq hf hb (Qi hn) ?_)
 have e7:SatC ⟨st++[],λ_=>False,λ_=>zm,0,False⟩ ⟨j5 0 vs,[],0⟩ ⟨argT args,st++[],[]⟩:=by
  refine⟨λ_=>zm,⟨nofun,Zr,λ_ _=>rfl,Qm _,nofun⟩,⟨λd v hd=>?_,⟨λk r hk=>?_,λk k' r r' _ hk=>?_⟩,λk r hk=>?_,λ_ _ _=>rfl,Qm _,λd v hd=>?_,λk r hk=>?_⟩⟩
  .obtain⟨j,h1,h2⟩:=qe0 hd
   have:args[j]?=some (v.ev λ_=>zm):=by rw[<-hv λ_=>zm,xp,Qo,h2];rfl
   rw[h1,Qk];simp only[argT,Zi,this,Zm]
  .simp[hpF,lkS]at hk
  .simp[hpF,lkS]at hk
  .simp[hpF,lkS]at hk
  .simp only[okC,Qb]at hc
   exact Qf.1 hc.1 _ (vn hd)
  .simp[hpF,lkS]at hk
 refine((h (st++[])).run _ e7).mono λe s' ⟨C',hq,mz⟩=>?_;obtain⟨t,S,df⟩:=s';obtain⟨ρ,m8,hR⟩:=mz;simp only at m8 hR
 have fin:pubK (λC=>ansW E.P fn C λy=>Tl y r0) fn.results.toList C'->ARet E fn (λr st2=>r=r0∧∃ext,st2=st++ext) ⟨t,S,df⟩:=λh=>by
  refine qkf hR (λx hx=>m8.dm x hx) m8.nd λS' pz=>?_;refine qcf (λC t S h pz=>?_) h pz;obtain⟨y,h1,h2⟩:=q95 pz h;refine qn rfl (ya h1 h2.ok) ⟨rfl,?_⟩;have hl:=pz.len;rw[Zp]at hl
  exact qor hl λk hk=>by
   have:=pz.low k (by simpa using hk) (λh=>h);rw[Zp]at this;exact this
 cases e with
 |normal=>exact fin hq
 |ret=>exact fin hq
 |_=>exact hq.elim
section
variable {E : Env} {N : Nat} {ops : Array Oper} {nx : Nat} {sl : List (Nat × SV)} {H : Nat → Option SR} {k : Ef → Prop} {d : Option Tmp} {T : TypeId} {p : String} {af : Array Edge}
theorem qgn{t e e':TypeId}{x y:Operand}{b sz i:Nat}{agg:Bool}{xs:List AV}{kd:IntKind}{v:SV}(hx:sval N sl x=some (.tp b))(hH:H b=some (.own sz e xs))(hy:sval N sl y=some v)(hv:qgb v=some (kd,(i:Int)))(he:elT (E.P.underlying t)=some e')(ht:tyOf E.P e'=some (sz,agg))(hi:i<xs.length)
  (h:k ⟨.bx b (0+i*sz),[b],[],nx⟩):∃e,Loc E N ops ⟨d,.indexAddr t x y,T,p,af,none⟩ nx sl H e∧k e:=by
 refine⟨_,qah (v:=.bx b (0+i*sz)) λdf rd K rest ρ t' S hs hS hk=>?_,h⟩;rcases hS.ok b _ ((xg b).trans hH)with⟨rfl,_⟩|⟨o,ver,cap,pad,e1,e2,_⟩
 .simp at hi
 .refine qs4 (o:=o) (ver:=ver) (off:=0) (len:=xs.length) (cp:=cap+1) ((q7 hs hx).trans (by simp[SV.ev,e1,tpAt,AV.one])) ((q7 hs hy).trans (qc6 hv ρ)) (qba he) ht rfl hi ?_
  simpa only[SV.ev,e1,bxAt]using hk
theorem zfr{sz i j sz':Nat}{agg:Bool}{xs pad:List AV}{z r:AV}(hw:∀x∈xs,x.cells.length=sz)(hz:xs[i]?=some z)(hr:ke sz' agg j z.cells=some r)(hj:j+sz'<=sz)(h1:agg=false->0<sz'):ke sz' agg (0+i*sz+j) (flat xs++pad)=some r:=by
 have hg:=zbx (pad:=pad) hw hz;have hzl:=hw z (Qq hz)
 have d5:i*sz+sz<=(flat xs++pad).length:=by
  have:=congrArg Zv hg;simp only[Zn,List.length_drop]at this;have h1:i*sz<=xs.length*sz:=Zf _ (by have:=lt_of_getElem? hz;omega);have h2:(flat xs++pad).length=xs.length*sz+pad.length:=by rw[Qc,zv hw]
  omega
 unfold ke at hr⊢;rw[Qk]
 cases agg with
 |true=>
  simp only[cond_true]at hr⊢;have b1:Qn (i*sz+j+sz') (flat xs++pad).length=true:=Ze Om;have b2:Qn (j+sz') z.cells.length=true:=Ze Om;rw[b2]at hr;rw[b1];simp only[cond_true]at hr⊢;rw[<-hr,<-hg];congr 2;apply Xf;intro q;simp only[List.getElem?_take,Xc];by_cases hq:q<sz'
  .rw[if_pos hq,if_pos hq,if_pos Om]
   congr 1;omega
  .rw[if_neg hq,if_neg hq]
 |false=>
  simp only[cond_false]at hr⊢;have:=h1 rfl;rw[<-hr,<-hg,List.getElem?_take_of_lt Om,Xc]
theorem qik{t e:TypeId}{x:Operand}{b off sz i j sz':Nat}{agg:Bool}{xs:List AV}{z r:AV}(hx:sval N sl x=some (.bx b off))(hH:H b=some (.own sz e xs))(ht:tyOf E.P t=some (sz',agg))(ho:off=0+i*sz+j)(hz:xs[i]?=some z)(hr:ke sz' agg j z.cells=some r)(hj:(Qn (j+sz') sz&&(agg||Qe 0 sz'))=true)
  (h:k ⟨nf r,[b],[],nx⟩):∃e,Loc E N ops ⟨d,.load t x,T,p,af,none⟩ nx sl H e∧k e:=by
 simp only[Qb,Zg]at hj;refine⟨_,qah (v:=nf r) λdf rd K rest ρ t' S hs hS hk=>?_,h⟩;rcases hS.ok b _ ((xg b).trans hH)with⟨rfl,_⟩|⟨o,ver,cap,pad,e1,e2,e3,e4,_⟩
 .simp at hz
 .subst ho
  refine vc (o:=o) (ver:=ver) (off:=0+i*sz+j) ((q7 hs hx).trans (by simp only[SV.ev,e1,bxAt])) e2 ht (zfr e4 hz hr (Qi hj.1) λe=>?_) (by rw[<-qpf ρ r];exact hk);rcases hj.2 with h|h
  .rw[e]at h;simp at h
  .exact vi h
theorem qyq(A Z B us:List AV)(j:Nat)(h:j+us.length<=Z.length):z4 (A++Z++B) (A.length+j) us=A++z4 Z j us++B:=by
 unfold z4;rw[Zk A Z B,List.take_length_add_append,Zq Om,Nat.add_assoc,List.drop_length_add_append,List.drop_append_of_le_length Om];simp
theorem qxe{sz i j:Nat}{xs pad us:List AV}{z z':AV}(hw:∀x∈xs,x.cells.length=sz)(hz:xs[i]?=some z)(dn:z'.cells=z4 z.cells j us)(hj:j+us.length<=sz):z4 (flat xs++pad) (0+i*sz+j) us=flat (xs.set i z')++pad∧z'.cells.length=sz:=by
 have hzl:=hw z (Qq hz);have hl:z'.cells.length=sz:=by rw[dn];simp[z4];omega
 have hi:=lt_of_getElem? hz;refine⟨?_,hl⟩;rw[<-qu0 hw hl hi];have hg:=zbx (pad:=pad) hw hz
 have hA:((flat xs++pad).take (i*sz)).length=i*sz:=by
  have h1:i*sz<=xs.length*sz:=Zf _ Om;rw[Zn,Qc,zv hw];omega
 generalize flat xs++pad=cs at hg hA
 have sr:cs=cs.take (i*sz)++z.cells++(cs.drop (i*sz)).drop sz:=by
  rw[<-hg,Zk,Zo,Zo]
 have e1:=qyq (cs.take (i*sz)) z.cells ((cs.drop (i*sz)).drop sz) us j Om;have e2:=qyq (cs.take (i*sz)) z.cells ((cs.drop (i*sz)).drop sz) z'.cells 0 Om;rw[hA,<-sr]at e1 e2
 have e3:z4 z.cells 0 z'.cells=z'.cells:=by
  unfold z4;rw[Qk,List.drop_eq_nil_of_le Om];simp
 rw[Zh,e3]at e2;rw[Qk,e1,e2,dn]
theorem zgo{t e:TypeId}{x y:Operand}{b off sz i j sz':Nat}{agg:Bool}{xs:List AV}{z z' u:AV}{v:SV}(hx:sval N sl x=some (.bx b off))(hy:sval N sl y=some v)(hv:∀ρ,v.ev ρ=u)(hH:H b=some (.own sz e xs))(ht:tyOf E.P t=some (sz',agg))(ho:off=0+i*sz+j)(hz:xs[i]?=some z)(dn:z'.cells=z4 z.cells j u.cells)
  (hj:(u.okc&&Qx u.cells.length sz'&&kc u.cells&&Qn (j+sz') sz)=true) (h:k ⟨.a (.v undef),[b],[(b,some (.own sz e (xs.set i z')))],nx⟩):∃e,Loc E N ops ⟨d,.store t x y,T,p,af,none⟩ nx sl H e∧k e:=by
 simp only[Qb]at hj;obtain⟨⟨⟨j1,j2⟩,j3⟩,j4⟩:=hj;have j2:=Qh j2;have j4:=Qi j4;refine⟨_,λdf rd K rest ρ t' S hs hS hk=>?_,h⟩;have hok:=hS.ok b _ ((xg b).trans hH);rcases hok with⟨rfl,_⟩|⟨o,ver,cap,pad,e1,e2,e3,e4,e5,e6⟩
 .simp at hz
 .subst ho
  obtain⟨q1,q2⟩:=qxe (pad:=pad) e4 hz dn Om;have d9:=lt_of_getElem? hz
  refine qho (o:=o) (ver:=ver) (off:=0+i*sz+j) (xs:=u.cells) ((q7 hs hx).trans (by simp only[SV.ev,e1,bxAt])) ((q7 hs hy).trans (hv ρ)) e2 ht j1 rfl j2 (by simpa[kc]using j3) (by
   have h1:i*sz+sz<=xs.length*sz:=by rw[<-Xs];exact Zf _ d9
   rw[Qc,zv e4]
   omega) ?_
  rw[q1]
  have p8:∀y∈xs.set i z',y.cells.length=sz:=λy hy=>by
   rcases Zt hy with h|rfl
   .exact e4 y h
   .exact q2
  have key:∀k r,chF [(b,some (.own sz e (xs.set i z')))] (resF [b] H) k=some r->k=b∧r=.own sz e (xs.set i z'):=λk r hk=>by
   simp only[chF,lkS]at hk;by_cases e:b=k
   .subst e
    have:Qx b b=true:=Sx
    rw[this]at hk;simp only[cond_true,Qa]at hk;exact⟨rfl,hk.symm⟩
   .rw[jv e]at hk
    have:=(wr hk).1;simp only[memN,Zs,Xd,Zz]at this;exact absurd (Qh this).symm e
  refine hk ρ _ ⟨λ_ _=>rfl,⟨λk r hk=>?_,λk k' r r' b9 g1 g2=>?_⟩,Sx,λj hj b9=>?_,λk r hk o' e8=>?_⟩
  .obtain⟨rfl,rfl⟩:=key k r hk
   refine .inr ⟨o,ver,cap,pad,by rw[e1,Qt],qbc e2,?_,p8,by rw[Qt];exact e5,e6⟩;rw[Qc,zv p8,Qt,<-zv e4,<-Qc];exact e3
  .exact absurd ((key k r g1).1.trans (key k' r' g2).1.symm) b9
  .have:=b9 b _ ((xg b).trans hH)
   rw[e1]at this;exact Qg (λe=>this (by rw[e];rfl))
  .obtain⟨rfl,rfl⟩:=key k r hk
   exact .inr ⟨k,_,(xg k).trans hH,e8⟩
theorem qsv{b:Nat}{q:SR}:∀k r,chF [(b,none),(nx,some q)] (resF [b] H) k=some r->k=nx∧r=q:=λk r hk=>by
 simp only[chF,lkS]at hk;by_cases e:b=k
 .subst e
  simp at hk
 .rw[jv e]at hk
  simp only[cond_false]at hk;by_cases e2:nx=k
  .subst e2
   simp at hk;exact⟨rfl,hk.symm⟩
  .rw[jv e2]at hk
   simp only[cond_false]at hk;have:=(wr hk).1;simp only[memN,Zs,Xd,Zz]at this;exact absurd (Qh this).symm e
theorem zdj{x y:Operand}{t u e:TypeId}{b sz bytes:Nat}{xs ys:List AV}{vy:SV}(hx:sval N sl x=some (.tp b))(hH:H b=some (.own sz e xs))(hy:sval N sl y=some vy)(nq:qma H sz vy=some (ys,[]))(ht:elT (E.P.underlying t)=some e)(hu:elT (E.P.underlying u)=some e)(hb:q3r E.P e=some (sz,bytes))
  (hn:(Qe 0 bytes&&Qn bytes 140737&& !Nat.beq b nx)=true) (h1:xs.length+ys.length<=1000000000) (m9:kc (flat ys)=true)
  (h:k ⟨.tp nx,[b],[(b,none),(nx,some (.own sz e (xs++ys)))],nx+1⟩):∃e,Loc E N ops ⟨d,.call ⟨.builtin .append,#[x,y],#[t,u]⟩,T,p,af,none⟩ nx sl H e∧k e:=by
 simp only[Qb]at hn;have hbp:=vi hn.1.1;have cz:=Qi hn.1.2;refine⟨_,λdf rd K rest ρ t' S hs hS hk=>?_,h⟩
 have hw:∀(G:Gh)(v:Value),Rel G (ql N ⟨t',S,df⟩ y) v->Rel G (.sl sz ys none) v:=by
  rw[q7 hs hy];exact qgi (S:=S) nq ⟨λk r hk=>by rw[qgp]at hk;simp at hk,λk k' r r' _ hk=>by rw[qgp]at hk;simp at hk⟩
 have hok:=hS.ok b _ ((xg b).trans hH);have hev:ql N ⟨t',S,df⟩ x=ρ b:=(q7 hs hx).trans (qio hok);have hmul:(xs.length+ys.length)*bytes<=140737488355328:=Zd (Nat.mul_le_mul h1 cz) (by decide)
 have fin:∀(c:AV)(S':List AObj),OwnS S' sz e (xs++ys) c->S.length<=S'.length->(∀j,j<S.length->zq (ρ b)≠some j->S'[j]?=S[j]?)->(∀o,zq c=some o->S.length<=o∨zq (ρ b)=some o)->AOps E rd N ops rest K (AS.put ⟨t',S',df⟩ d c):=λc S' g1 g2 g3 g4=>by
  have:=hk (upd ρ nx c) S' ⟨λk hk=>qak _ _ (by simp only at hk;omega),⟨λk r hk=>?_,λk k' r r' b9 q1 q2=>absurd ((qsv k r q1).1.trans (qsv k' r' q2).1.symm) b9⟩,g2,λj hj b9=>g3 j hj (b9 b _ ((xg b).trans hH)),λk r hk o ho=>?_⟩
  .simpa only[SV.ev,ve,qio g1]using this
  .obtain⟨rfl,rfl⟩:=qsv k r hk
   rw[ve];exact g1
  .obtain⟨rfl,rfl⟩:=qsv k r hk
   rw[ve]at ho;exact(g4 o ho).imp_right λh=>⟨b,_,(xg b).trans hH,h⟩
 by_cases sg:ys=[]
 .subst sg
  have hc:∀G v,Rel G (ρ b) v->∃b n cp,v=.slice b n cp∧n<=cp:=λG v hv=>by
   rcases hok with⟨_,e1⟩|⟨o,ver,cap,pad,e1,e2,e3,e4,e5,e6⟩
   .obtain⟨base,rfl⟩:=e1.val G v hv
    exact⟨_,_,_,rfl,Qm _⟩
   .rw[e1]at hv
    cases hv with
    |os=>exact⟨_,_,_,rfl,e5⟩
  exact qqp hev hc hw (qba ht) (qba hu) (qoo hb) (fin (ρ b) S (by rw[Zp];exact hok) (Qm _) (λ_ _ _=>rfl) λo ho=>.inr ho)
 .rcases hok with⟨rfl,e1⟩|⟨o,ver,cap,pad,e1,e2,e3,e4,e5,e6⟩
  .refine qgf (by rw[hev];exact e1.val) hw (qba ht) (qba hu) (qoo hb) m9 sg (by simp only[maxLen];simp only[Qs]at h1;omega) (by simpa using hmul) λcap pad q1 q2 q3 q4=>?_
   exact fin _ _ (.inr ⟨S.length,0,cap,pad,rfl,yg,q1,q2,q3,q4⟩) Sx (λj hj _=>Qy hj) λo ho=>.inl (by simp only[zq,Qa]at ho;omega)
  .refine qp9 (o:=o) (hev.trans e1) hw (.os ver (cap+1) pad e3 e4 e5 e6) e2 (qba ht) (qba hu) (qoo hb) m9 (by simp only[maxLen];omega) hmul λa' ob' hV=>?_
   rcases q8f hV with⟨q,_,_⟩|⟨ver',cap',pad',rfl,rfl,q1,q2,q3,q4⟩
   .simp[sg]at q
   .obtain⟨cap',rfl⟩:∃c,cap'=c+1:=⟨cap'-1,by
     have:0<ys.length:=Xa.2 sg;simp at q3
     omega⟩
    refine fin _ _ (.inr ⟨o,ver',cap',pad',rfl,qbc e2,q1,q2,q3,q4⟩) Sx (λj hj b9=>Qg λe=>b9 (by rw[e1,e];rfl)) λo' e8=>.inr (by rw[e1];exact e8)
structure OwnR (sz:Nat) (T:TypeId) (ys:List AV) (st:List AObj) (c r:AV) (st':List AObj):Prop where
 ok:OwnS st' sz T ys r
 len:st.length<=st'.length
 same:∀j,j<st.length->zq c≠some j->st'[j]?=st[j]?
 loc:∀o,zq r=some o->st.length<=o∨zq c=some o
theorem qsw{S:List AObj}{sz:Nat}{T:TypeId}{xs:List AV}{c:AV}(h:OwnS S sz T xs c):tpAt c=c:=qio h
theorem qus{f:FuncId}{sz:Nat}{T0:TypeId}{xs ys:List AV}(args:List AV)(hc:okC ⟨j5 0 (.tp 0::args.map .a),[(0,some (.own sz T0 xs))],1⟩=true)
  (h:∀st c,OwnS st sz T0 xs c->qp E f (c::args) st λr st'=>OwnR sz T0 ys st c r st'):vb E f (.tp 0::args.map .a) 1 (hpF [(0,some (.own sz T0 xs))]) ⟨.tp 1,kr [(0,some (.own sz T0 xs))],[(1,some (.own sz T0 ys))]++vw [(0,some (.own sz T0 xs))],2⟩:=λρ S hS=>by
 simp only[wc]at hS;have hok:OwnS S sz T0 xs (ρ 0):=hS.ok 0 _ rfl
 have e:SV.evs ρ (.tp 0::args.map .a)=ρ 0::args:=by
  simp only[SV.evs,SV.ev,qsw hok,xp,List.map_map];congr 1
  conv=>rhs;rw[<-List.map_id args]
  exact List.map_congr_left λx _=>rfl
 rw[e];refine(h S (ρ 0) hok).mono λr S' hr=>⟨upd ρ 1 r,?_,?_⟩
 .simp only[SV.ev,ve,qsw hr.ok]
 .have key:∀k q,hpF [(1,some (.own sz T0 ys))] k=some q->k=1∧q=.own sz T0 ys:=λk q hk=>by
   have:=ym hk;simp only[lkS]at this
   cases hb:Qx 1 k with
   |true=>
    rw[hb]at this;simp only[cond_true,Qa]at this
    exact⟨(Qh hb).symm,this.symm⟩
   |false=>rw[hb]at this;simp at this
  refine⟨λk hk=>qak _ _ (by simp only at hk;omega),?_,hr.len,λj hj hn=>?_,λk q hk o ho=>?_⟩
  .simp only[wc,qee]
   refine⟨λk q hk=>?_,λk k' q q' b9 h1 h2=>absurd ((key k q h1).1.trans (key k' q' h2).1.symm) b9⟩;obtain⟨rfl,rfl⟩:=key k q hk;rw[ve];exact hr.ok
  .simp only[wc]at hn
   exact hr.same j hj (hn 0 _ rfl)
  .simp only[wc,qee]at hk⊢
   obtain⟨rfl,rfl⟩:=key k q hk;rw[ve]at ho;rcases hr.loc o ho with h|h
   .exact .inl h
   .exact .inr ⟨0,_,rfl,h⟩
theorem q8x{f:FuncId}{sz:Nat}{T0:TypeId}{ys:List AV}{nx:Nat}{H:Nat->Option SR}(args:List AV)(vs:List SV)(hv:∀ρ,SV.evs ρ vs=args)
  (h:∀st,qp E f args st λr st'=>OwnR sz T0 ys st (.v undef) r st'):vb E f vs nx H ⟨.tp nx,[],[(nx,some (.own sz T0 ys))],nx+1⟩:=λρ S hS=>by
 rw[hv];refine(h S).mono λr S' hr=>⟨upd ρ nx r,?_,?_⟩
 .simp only[SV.ev,ve,qsw hr.ok]
 .have key:∀k q,chF [(nx,some (SR.own sz T0 ys))] (resF [] H) k=some q->k=nx∧q=.own sz T0 ys:=λk q hk=>by
   simp only[chF,lkS]at hk
   cases hb:Qx nx k with
   |true=>
    rw[hb]at hk;simp only[cond_true,Qa]at hk
    exact⟨(Qh hb).symm,hk.symm⟩
   |false=>
    rw[hb]at hk;simp[resF,memN]at hk
  refine⟨λk hk=>qak _ _ (by simp only at hk;omega),⟨λk q hk=>?_,λk k' q q' b9 h1 h2=>absurd ((key k q h1).1.trans (key k' q' h2).1.symm) b9⟩,hr.len,λj hj _=>hr.same j hj (by simp[zq]),λk q hk o ho=>?_⟩
  .obtain⟨rfl,rfl⟩:=key k q hk
   rw[ve];exact hr.ok
  .obtain⟨rfl,rfl⟩:=key k q hk
   rw[ve]at ho;rcases hr.loc o ho with h|h
   .exact .inl h
   .simp[zq]at h
end
end Go.Av
namespace Go.Proofs.YtlekheifonaipaaGreatDoor
open Go Go.Av Go.RowKit Go.Proofs Go.Pl
theorem qyz{b:UInt8}{v:qa}:w8 b v=if 0<v.length∧v.getD 0 0=b then v.drop 1 else v:=by
 cases v with
 |nil=>rfl
 |cons x r=>
  unfold w8;by_cases h:x=b<;>simp[h]
set_option maxHeartbeats 2000000 in
theorem qlq(ls:List qa)(st:List AObj)(hB:LsB ls):qp E 136 [Ss ls] st λr st'=>r=qcv ls∧st'=st:=by
 refine ze [.a (Ss ls)] (qyi _) Tryz.func136 rfl rfl (λ_=>rfl) rfl λS0=>?_;have hL:=hB.len;have o0:(ls.map λx=>Sv x).length=ls.length:=Sx
 cases ls with
 |nil=>
  apply qd [2]
  repeat' (first|apply Qd|(intro h;try exact cDd)|exact cSd|apply qb [2]|refine exr ?_|refine qe ?_)
 |cons l r=>
  have hl:=hB.val l Sx;simp only[Qr]at hL o0;have rj:=λst=>qjx l st Om;have ld:((l::r).map λx=>Sv x)[0]?=some (Sv l):=rfl;by_cases h4:qx l=4
  .have hcu:=λst=>zg1 l st Om h4
   simp only[h4]at rj;have htr:(w8 32 (vd l)).length<=l.length:=by unfold w8 vd;split <;>simp <;>omega
   have dg:(vd l).length<=l.length:=by unfold vd;simp
   apply qd [2];repeat' (first|apply Qd|(intro h;try exact cDd)|(refine Ql (0) ⟨Om,_,ld,?_⟩)|exact⟨Tryz.call134⟩|refine cpe rj ?_|exact⟨Tryz.call187⟩|refine cpe hcu ?_|exact cSd|apply qb [2]|refine exr ?_|refine qe ?_)
   all_goals
    refine zw (X:=Nat×qa) (λ(k,acc)=>⟨[(0,.a (Ss (l::r))),(2,.bx 0 0),(4,.s (jg l)),(5,.s acc),(7,.i ((k:Int)+1))],[(0,some (.cells 40 [.s [],.s []]))],1⟩) (λ(k,acc)=>k<=r.length∧(∀x∈r.take k,qx x=3)∧acc=accU l (r.take k)) (λ(k,_)=>r.length-k) (0,w8 32 (vd l)) ⟨Om,Sx,by simp[accU]⟩ ?_ ?_
    .skip
     repeat' (first|apply Qd|(intro h;try exact cDd)|exact cSd|apply qb []|refine exr ?_|refine qe ?_)
     all_goals (rw[qyz];split <;>rename_i h<;>first|rfl|(exfalso;omega)|exact absurd ((qy1 _).2 h.2) (by assumption)|exact absurd ⟨Om,(qy1 _).1 (by assumption)⟩ h)
    .rintro⟨k,acc⟩ ⟨hk,h3,dr⟩
     have hal:=zic l (r.take k) λs hs=>hB.val s (by simp[Zx hs]);rw[<-dr,Zn]at hal;by_cases d9:k<r.length
     .obtain⟨a,ha⟩:∃a,r[k]?=some a:=⟨_,Qj d9⟩
      have d8:((l::r).map λx=>Sv x)[k+1]?=some (Sv a):=by simp[ha]
      have hav:=hB.val a (by simp[Qq ha]);have hka:=λst=>qjx a st Om
      have i7:r.take (k+1)=r.take k++[a]:=by
       obtain⟨_,rfl⟩:=Qp.1 ha;rw[Qv]
      by_cases gm:qx a=3
      .obtain⟨h2,_⟩:=qnw gm
       simp only[gm]at hka;have hd1:(a.drop 1).length=a.length-1:=Sx
       have hac:=zek l (r.take k) a;rw[<-dr,<-i7,qyz]at hac;apply qd [];repeat' (first|apply Qd|(intro h;try exact cDd)|(refine Ql ((k+1)) ⟨Om,_,d8,?_⟩)|exact⟨Tryz.call134⟩|refine cpe hka ?_|(refine Ql (k+1,_) ⟨⟨Om,by rw[i7];exact qpb h3 gm,rfl⟩,by simp only;omega,?_⟩)|exact cSd|apply qb []|refine exr ?_|refine qe ?_)
       all_goals (rw[hac];split <;>rename_i h<;>first|rfl|(simp only[Zk];rfl)|(exfalso;omega)|exact absurd ((q3x _).2 h.2) (by assumption)|exact absurd ⟨Om,(q3x _).1 (by assumption)⟩ h)
      .have gp:zu (l::r)=(([],[]),2):=if_neg λh=>gm (h.2.2 a (Qq ha))
       unfold qcv;rw[gp];apply qd [];repeat' (first|apply Qd|(intro h;try exact cDd)|(refine Ql ((k+1)) ⟨Om,_,d8,?_⟩)|exact⟨Tryz.call134⟩|refine cpe hka ?_|exact absurd (by assumption) gm|exact cSd|apply qb []|refine exr ?_|refine qe ?_)
     .rw[Zc Om]at h3 dr
      have bf:zu (l::r)=if 1000<(accU l r).length then(([],[]),6)else((jg l,accU l r),0):=if_pos ⟨Sx,h4,h3⟩;unfold qcv;rw[bf,<-dr];apply qd [];repeat' (first|apply Qd|(intro h;try exact cDd)|exact cSd|apply qb []|refine exr ?_|refine qe ?_)
      all_goals (split <;>first|rfl|omega)
  .have gp:zu (l::r)=(([],[]),2):=if_neg λh=>h4 h.2.1
   unfold qcv;rw[gp];apply qd [2];repeat' (first|apply Qd|(intro h;try exact cDd)|(refine Ql (0) ⟨Om,_,ld,?_⟩)|exact⟨Tryz.call134⟩|refine cpe rj ?_|exact cSd|apply qb [2]|refine exr ?_|refine qe ?_)
theorem q9z{a:qa}(i3:10∉a):wn a=if qx a=1∨a.getD 0 0=46 then 46::a else a:=by
 have hk:=zjq i3;unfold wn
 cases a with
 |nil=>simp[hk,qc2]
 |cons x y=>simp only[List.head?_cons,Qa,hk];rfl
def outK(hd:qa)(r:List qa)(k:Nat):List AV:=(hd::(r.take k).map λs=>[32]++wn s).map λx=>Sv x
theorem zgm{hd:qa}{r:List qa}{k:Nat}{a:qa}(h:r[k]?=some a):outK hd r (k+1)=outK hd r k++[Sv ([32]++wn a)]:=by
 obtain⟨d9,rfl⟩:=Qp.1 h;unfold outK;rw[<-Qv d9];simp only[Xk,Qz,Xt,Xi]
theorem zj8{hd:qa}{r:List qa}{k:Nat}(h:k<=r.length):(outK hd r k).length=k+1:=by
 unfold outK;simp;omega
set_option maxHeartbeats 2000000 in
theorem q7c(f:FldV)(st:List AObj)(hl:f.1.length<4294967281)(hv:f.2.length<1000000):qp E 103 [fldA f] st λr st'=>r=Ss (zp f)∧st'=st:=by
 obtain⟨key,val⟩:=f;dsimp only at hl hv;refine ze [.a (.ag [Sv key,Sv val])] (qnz _) Tryz.func103 rfl rfl (λ_=>rfl) rfl λS0=>?_;obtain⟨p,r,hp⟩:∃p r,za val=p::r:=⟨_,_,qpk val⟩;have dx:p.length<=val.length:=qf3 val p (by rw[hp];simp);have dg:∀x∈r,x.length<=val.length:=λx hx=>qf3 val x (by rw[hp];simp[hx]);have hr10:∀x∈r,10∉x:=λx hx=>qfl val x (by rw[hp];simp[hx]);have hrn:r.length<=val.length:=by have:=qdd _ val (Qm _);rw[hp]at this;simpa using this
 have d5:(Sv p::r.map λx=>Sv x).length=r.length+1:=Sx
 have hpt:=λst=>zke val p r st hv hp;have ld:(Sv p::r.map λx=>Sv x)[0]?=some (Sv p):=rfl;rw[q9d (f:=(key,val)) hp];generalize hhd:kl key p=hd;have pn:Ss (hd::r.map λs=>[32]++wn s)=.sl 1 (outK hd r r.length) none:=by unfold outK;rw[Zu]
 rw[pn];apply qd [1,24];repeat' (first|apply Qd|(intro h;try exact cDd)|exact⟨Tryz.call149⟩|refine cpe hpt ?_|(refine Ql (0) ⟨Om,_,ld,?_⟩)|exact cSd|apply qb [1,24]|refine exr ?_|refine qe ?_)
 all_goals
  refine zw (X:=Nat) (λk=>⟨[(3,.a (.sl 1 (Sv p::r.map λx=>Sv x) none)),(5,.tp 0),(6,.i ((k:Int)+1))],[(0,some (.tip 1 9 (outK hd r k)))],1⟩) (λk=>k<=r.length) (λk=>r.length-k) 0 Om ?_ ?_
  .skip
   repeat' (first|apply Qd|(intro h;try exact cDd)|exact cSd|apply qb []|refine exr ?_|refine qe ?_)
   all_goals (subst hhd;unfold kl outK;simp_all[SV.evs,SV.ev])
  .rintro k hk
   have mw:=zj8 (hd:=hd) hk;by_cases d9:k<r.length
   .obtain⟨a,ha⟩:∃a,r[k]?=some a:=⟨_,Qj d9⟩
    have d8:(Sv p::r.map λx=>Sv x)[k+1]?=some (Sv a):=by simp[ha]
    have ham:=Qq ha;have hal:=dg a ham;have hka:=λst=>qjx a st Om;have e7:=q9z (hr10 a ham);have bt:=zgm (hd:=hd) ha;rw[e7]at bt;have hk0:qx a≠1->0<a.length:=λh=>Xa.2 λe=>h (by subst e;rfl);by_cases bn:qx a=1
    .simp only[bn]at hka
     rw[if_pos (.inl bn)]at bt;apply qd [];repeat' (first|apply Qd|(intro h;try exact cDd)|(refine Ql ((k+1)) ⟨Om,_,d8,?_⟩)|exact⟨Tryz.call134⟩|refine cpe hka ?_|(refine Ql (k+1) ⟨Om,Om,?_⟩)|exact cSd|apply qb []|refine exr ?_|refine qe ?_)
     all_goals first|(rw[bt];done)|(rw[bt];simp[SV.evs,SV.ev];done)|(simp only[Qr,Qs];omega)
    .have cx:=hk0 bn
     apply qd [];repeat' (first|apply Qd|(intro h;try exact cDd)|(refine Ql ((k+1)) ⟨Om,_,d8,?_⟩)|exact⟨Tryz.call134⟩|refine cpe hka ?_|(refine Ql (k+1) ⟨Om,Om,?_⟩)|exact cSd|apply qb []|refine exr ?_|refine qe ?_)
     all_goals first|(rw[bt,if_pos (.inr ((q3x _).1 (by assumption)))];simp[SV.evs,SV.ev];done)|(rw[bt,if_neg (by simp only[bn,false_or];intro e;exact absurd ((q3x _).2 e) (by assumption))];done)|(simp only[Qr,Qs];omega)
   .rw[show k=r.length by omega]
    apply qd [];repeat' (first|apply Qd|(intro h;try exact cDd)|exact cSd|apply qb []|refine exr ?_|refine qe ?_)
set_option maxHeartbeats 2000000 in
theorem qyf(xs:List FldV)(st:List AObj)(hx:q3k xs):qp E 62 [jd xs] st λr st'=>r=Sv (zy xs)∧st'=st:=by
 refine ze [.a (jd xs)] (qr _) Tryz.func62 rfl rfl (λ_=>rfl) rfl λS0=>?_;have hxl:=hx.len;have o0:(xs.map fldA).length=xs.length:=Sx
 apply qd [];repeat' (first|apply Qd|(intro h;try exact cDd)|exact cSd|apply qb []|refine exr ?_|refine qe ?_)
 refine zw (X:=Nat) (λk=>⟨[(0,.a (jd xs)),(3,.s (zy (xs.take k))),(4,.i k)],[],0⟩) (λk=>k<=xs.length) (λk=>xs.length-k) 0 Om ?_ ?_
 .skip
  repeat' (first|apply Qd|(intro h;try exact cDd)|exact cSd|apply qb []|refine exr ?_|refine qe ?_)
 .rintro k hk
  by_cases d9:k<xs.length
  .obtain⟨f,hf⟩:∃f,xs[k]?=some f:=⟨_,Qj d9⟩
   have d8:(xs.map fldA)[k]?=some (fldA f):=by simp[hf]
   obtain⟨mf,hf2⟩:=hx.val f (Qq hf);have p9:=qxh (xs.take k) λg hg=>hx.val g (Zx hg);rw[Zn]at p9;have t8:=qtz f;have hln:=λst=>q7c f st mf hf2
   have i7:zy (xs.take (k+1))=zy (xs.take k)++zj (zp f):=by
    obtain⟨_,rfl⟩:=Qp.1 hf;rw[<-Qv d9,q1k,q1l]
   have fm:((zp f).map λx=>Sv x).length=(zp f).length:=Sx
   have pg:=qnh (zp f);apply qd [];repeat' (first|apply Qd|(intro h;try exact cDd)|(refine Ql (k) ⟨Om,_,d8,?_⟩)|exact⟨Tryz.call103⟩|refine cpe hln ?_|exact cSd|apply qb []|refine exr ?_|refine qe ?_)
   refine zw (X:=Nat) (λj=>⟨[(0,.a (jd xs)),(3,.s (zy (xs.take k)++zj ((zp f).take j))),(4,.i k),(17,.a (Ss (zp f))),(18,.i ((zp f).map λx=>Sv x).length),(19,.i j)],[],0⟩) (λj=>j<=(zp f).length) (λj=>(zp f).length-j) 0 Om ?_ ?_
   .skip
    repeat' (first|apply Qd|(intro h;try exact cDd)|exact cSd|apply qb []|refine exr ?_|refine qe ?_)
    all_goals (simp[zj];done)
   .rintro j hj
    by_cases hjl:j<(zp f).length
    .obtain⟨a,ha⟩:∃a,(zp f)[j]?=some a:=⟨_,Qj hjl⟩
     have hget2:((zp f).map λx=>Sv x)[j]?=some (Sv a):=by simp[ha]
     have htj:zj ((zp f).take (j+1))=zj ((zp f).take j)++a++[10]:=by
      obtain⟨_,rfl⟩:=Qp.1 ha;rw[<-Qv hjl,qaq,qj0,Zk]
     have hbj:(zj ((zp f).take (j+1))).length<=(zj (zp f)).length:=by
      have:=congrArg (λl=>(zj l).length) (Zo (j+1) (zp f));simp only[qaq,Qc]at this;omega
     have cz:=congrArg Zv htj;simp only[Qc,Qr,Qs]at cz;apply qd [];repeat' (first|apply Qd|(intro h;try exact cDd)|(refine Ql (j) ⟨Om,_,hget2,?_⟩)|(refine Ql (j+1) ⟨Om,Om,?_⟩)|exact cSd|apply qb []|refine exr ?_|refine qe ?_)
     all_goals first|(rw[htj];simp;done)|(simp only[Qc,Qr,Qs];omega)
    .rw[Zc (show(zp f).length<=j by omega)]
     apply qd [];repeat' (first|apply Qd|(intro h;try exact cDd)|(refine Ql (k+1) ⟨Om,Om,?_⟩)|exact cSd|apply qb []|refine exr ?_|refine qe ?_)
     all_goals (rw[i7];done)
  .rw[Zc Om]
   apply qd [];repeat' (first|apply Qd|(intro h;try exact cDd)|exact cSd|apply qb []|refine exr ?_|refine qe ?_)
def accK(l:qa)(r:List qa)(k:Nat):List qa:=w8 32 (vd l)::(r.take k).map λs=>w8 46 (s.drop 1)
theorem zej{l:qa}{r:List qa}{k:Nat}{a:qa}(h:r[k]?=some a):(accK l r (k+1)).map (λx=>Sv x)=(accK l r k).map (λx=>Sv x)++[Sv (w8 46 (a.drop 1))]:=by
 obtain⟨d9,rfl⟩:=Qp.1 h;unfold accK;rw[<-Qv d9];simp only[Xk,Qz,Xt,Xi]
set_option maxHeartbeats 4000000 in
theorem qqc(ls:List qa)(st:List AObj)(hB:LsB ls):qp E 201 [Ss ls] st λr st'=>r=qip ls∧st'=st:=by
 refine ze [.a (Ss ls)] (q8e _) Tryz.func201 rfl rfl (λ_=>rfl) rfl λS0=>?_;have hL:=hB.len;have o0:(ls.map λx=>Sv x).length=ls.length:=Sx
 cases ls with
 |nil=>
  apply qd [2]
  repeat' (first|apply Qd|(intro h;try exact cDd)|exact cSd|apply qb [2]|refine exr ?_|refine qe ?_)
 |cons l r=>
  have hl:=hB.val l Sx;simp only[Qr]at hL o0;have ld:((l::r).map λx=>Sv x)[0]?=some (Sv l):=rfl;have hrm:(r.map λx=>Sv x).length=r.length:=Sx
  by_cases h4:qx l=4
  .have hkf:=qmk.1 h4
   have hcu:=λst=>zda l st Om h4;have tz:=λst=>zbw (vd l) 32 st;apply qd [2,31];repeat' (first|apply Qd|(intro h;try exact cDd)|(refine Ql (0) ⟨Om,_,ld,?_⟩)|exact⟨Tryz.call235⟩|refine cpe hcu ?_|exact⟨Tryz.call106⟩|refine cpe tz ?_|exact cSd|apply qb [2,31]|refine exr ?_|refine qe ?_)
   refine zw (X:=Nat) (λk=>⟨[(2,.bx 0 0),(4,.s (jg l)),(7,.tp 1),(33,.a (.sl 1 (r.map λx=>Sv x) none)),(34,.i (r.map λx=>Sv x).length),(35,.i k)],[(0,some (.cells 40 [.s [],.s []])),(1,some (.tip 1 9 ((accK l r k).map λx=>Sv x)))],2⟩) (λk=>k<=r.length∧∀x∈r.take k,qx x=3) (λk=>r.length-k) 0 ⟨Om,Sx⟩ ?_ ?_
   .skip
    repeat' (first|apply Qd|(intro h;try exact cDd)|exact cSd|apply qb []|refine exr ?_|refine qe ?_)
   .rintro k ⟨hk,h3⟩
    have hacl:((accK l r k).map λx=>Sv x).length=k+1:=by unfold accK;simp;omega
    by_cases d9:k<r.length
    .obtain⟨a,ha⟩:∃a,r[k]?=some a:=⟨_,Qj d9⟩
     have d8:(r.map λx=>Sv x)[k]?=some (Sv a):=by simp[ha]
     have hav:=hB.val a (by simp[Qq ha]);have hka:=λst=>qnv a st Om;have ht2:=λst=>zbw (a.drop 1) 46 st;have bt:=zej (l:=l) ha;by_cases gm:qx a=3
     .obtain⟨h2,_⟩:=qnw gm
      simp only[gm]at hka
      have i7:r.take (k+1)=r.take k++[a]:=by
       obtain⟨_,rfl⟩:=Qp.1 ha;rw[Qv]
      apply qd [];repeat' (first|apply Qd|(intro h;try exact cDd)|(refine Ql (k) ⟨Om,_,d8,?_⟩)|exact⟨Tryz.call156⟩|refine cpe hka ?_|exact⟨Tryz.call106⟩|refine cpe ht2 ?_|(refine Ql (k+1) ⟨⟨Om,by rw[i7];exact qpb h3 gm⟩,Om,?_⟩)|exact cSd|apply qb []|refine exr ?_|refine qe ?_)
      all_goals first|(rw[bt];done)|(rw[bt];simp[SV.evs,SV.ev];done)|(simp only[Qr,Qs];omega)
     .have gp:zu (l::r)=(([],[]),2):=if_neg λh=>gm (h.2.2 a (Qq ha))
      unfold qip;rw[gp];apply qd [];repeat' (first|apply Qd|(intro h;try exact cDd)|(refine Ql (k) ⟨Om,_,d8,?_⟩)|exact⟨Tryz.call156⟩|refine cpe hka ?_|exact absurd (by assumption) gm|exact cSd|apply qb []|refine exr ?_|refine qe ?_)
    .rw[Zc Om]at h3
     have hkr:k=r.length:=Om
     subst hkr;have hok:qv0 (l::r):=⟨Sx,h4,h3⟩;have hjl:=qvp r λs hs=>hB.val s (by simp[hs]);have hj:=zf5 (w8 32 (vd l)) r;have hjv:Lib.join (accK l r r.length) [10]=qca l r:=by unfold accK;rw[Zu];exact hj
     have htr:(w8 32 (vd l)).length<=l.length:=by unfold w8 vd;split <;>simp <;>omega
     have hvl:(qca l r).length<=140737488355328:=by
      unfold qca;rw[Qc];omega
     have hjn:=λtip st=>za1 (accK l r r.length) tip [10] (qca l r) st hjv (by rw[<-Xj (f:=λx=>Sv x),hacl];omega) hvl;have hkl:(jg l).length<4294967281:=by have:=hkf.2.2.2.1;omega
     have bf:zu (l::r)=if 1000<(qca l r).length then(([],[]),6)else((jg l,qca l r),0):=if_pos hok;have hjn0:=hjn none;unfold qip;by_cases hv:1000<(qca l r).length
     .have hcf:vj (jg l,qca l r)=6:=(if_neg (by simpa using hkf.2.2)).trans (if_pos hv)
      have s7:=λst=>qli (jg l,qca l r) st hkl (by rw[hcf];decide);rw[hcf]at s7;rw[bf,if_pos hv];apply qd [10];repeat' (first|apply Qd|(intro h;try exact cDd)|exact⟨Tryz.call118⟩|refine cpe hjn0 ?_|exact⟨Tryz.call170⟩|refine cpe s7 ?_|exact cSd|apply qb [10]|refine exr ?_|refine qe ?_)
     .have hcf:vj (jg l,qca l r)=0:=(if_neg (by simpa using hkf.2.2)).trans (if_neg hv)
      have s7:=λst=>qlh (jg l,qca l r) st hkl hcf;rw[bf,if_neg hv];apply qd [10];repeat' (first|apply Qd|(intro h;try exact cDd)|exact⟨Tryz.call118⟩|refine cpe hjn0 ?_|exact⟨Tryz.call170⟩|refine cpe s7 ?_|exact cSd|apply qb [10]|refine exr ?_|refine qe ?_)
  .have gp:zu (l::r)=(([],[]),2):=if_neg λh=>h4 h.2.1
   have hcu:=λst=>q9c l st Om h4;unfold qip;rw[gp];apply qd [2];repeat' (first|apply Qd|(intro h;try exact cDd)|(refine Ql (0) ⟨Om,_,ld,?_⟩)|exact⟨Tryz.call235⟩|refine cpe hcu ?_|exact cSd|apply qb [2]|refine exr ?_|refine qe ?_)
end Go.Proofs.YtlekheifonaipaaGreatDoor
namespace Go.Av
open Go Go.RowKit
def qdc(kind:TypeDesc)(k:Value):List (Value×Value)->Nat->Option (Option (Nat×Value))
 | [],_=>some none
 |e::es,i=>match Instr.sameNow kind k e.1 with
  |some true=>some (some (i,e.2))
  |some false=>qdc kind k es (i+1)
  |none=>none
theorem qto(kind:TypeDesc)(k:Value):∀(es:List MapEntry)(i:Nat),Instr.findNow kind k es i=qdc kind k (es.map λe=>(e.key,e.val)) i
 | [],_=>rfl
 |e::es,i=>by
  rw[Qz,Instr.findNow,qdc]
  cases Instr.sameNow kind k e.key with
  |none=>rfl
  |some b=>cases b with
   |true=>rfl
   |false=>exact qto kind k es (i+1)
def mset(kvs:List (Value×Value))(k v:Value):Option (Nat×Value)->List (Value×Value)
 |some (i,_)=>kvs.set i (k,v)
 |none=>kvs++[(k,v)]
theorem q6a{kind:TypeDesc}{k:Value}:∀{kvs:List (Value×Value)}{n i:Nat}{v:Value},qdc kind k kvs n=some (some (i,v))->n<=i∧∃q,kvs[i-n]?=some (q,v)∧Instr.sameNow kind k q=some true
 | [],_,_,_,h=>by simp[qdc]at h
 |e::es,n,i,v,h=>by
  unfold qdc at h
  cases hs:Instr.sameNow kind k e.1 with
  |none=>rw[hs]at h;simp at h
  |some b=>
   rw[hs]at h
   cases b with
   |true=>
    simp only[Qa,Za]at h;obtain⟨rfl,rfl⟩:=h
    exact⟨Qm _,e.1,Sx,hs⟩
   |false=>
    obtain⟨h1,q,h2,h3⟩:=q6a h;exact⟨Om,q,by rw[show i-n=(i-(n+1))+1 by omega];simpa using h2,h3⟩
section
variable {E : Env} {rd : Option Nat} {N : Nat} {ops : Array Oper} {K : AS → Prop} {s : AS} {rest : List Oper} {d : Option Tmp} {T : TypeId} {p : String} {af : Array Edge}
theorem q4h{t:TypeId}(h:AOps E rd N ops rest K (AS.put ⟨s.t,s.st++[.map []],s.df⟩ d (.mp s.st.length))):AOps E rd N ops (⟨d,.makeMap t none,T,p,af,none⟩::rest) K s:=by
 refine q9 rfl (q8 nofun λB0 w0 G a w _ hI=>?_);have hn:=hI.agree.n
 have hA:=hI.agree.newAny 0 true (.map []) (.map #[] 0) ⟨by simp[Gh.new,hn],by simp[Gh.new,hn];exact hI.agree.hB,#[],0,by
  have e:((G.new 0 w.heap.size 0 true).ob s.st.length).blk=w.heap.size:=by simp[Gh.new,hn]
  rw[e]
  exact y5 w _,rfl⟩
 exact⟨.map (some w.heap.size),_,_,_,_,by simp[execOp,Instr.makeMap,newObj,Sem.run],G.le_new _ _ _ _,hA,.mp _ _ (by simp[Gh.new,hn]) (by simp[Gh.new,hn]) (by simp[Gh.new,hn]),h⟩
def mval(z:Value):Option (Nat×Value)->Value
 |some q=>q.2
 |none=>z
def mkey:TypeDesc->Value->Bool
 |.string,.string _=>true
 |.int _,.int _ _=>true
 |_,_=>false
theorem qr4{P:Program}{kt:TypeId}{kd:TypeDesc}{k:Value}(hk:P.underlying kt=some kd)(h:mkey kd k=true)(e:Bool)(n:Nat)(w:World):(Instr.checkKey e (n+1) kt k).run P w=.ok () w:=by
 unfold Instr.checkKey;rw[Sem.run_bind,run_underlying hk];unfold mkey at h;split at h
 .rfl
 .rfl
 .simp at h
theorem quc{P:Program}{kt:TypeId}{kd:TypeDesc}{k:Value}{es:List MapEntry}{r:Option (Nat×Value)}(hk:P.underlying kt=some kd)(hf:qdc kd k (es.map λe=>(e.key,e.val)) 0=some r)(w:World):(Instr.findKey kt k es).run P w=.ok r w:=by
 unfold Instr.findKey;rw[Sem.run_bind,run_underlying hk];simp only[Result.andThen_ok,qto,hf];rfl
theorem zk5{P:Program}{t:TypeId}{z:Value}(h:(P.info? t).bind (λi=>i.zero)=some z)(w:World):(zeroValue t).run P w=.ok z w:=by
 cases hi:P.info? t with
 |none=>rw[hi]at h;simp at h
 |some i=>
  rw[hi]at h;simp only[Option.bind_some]at h;simp[zeroValue,typeInfo,hi,h]
theorem q4i{t kt vt:TypeId}{kd:TypeDesc}{x y:Operand}{o:Nat}{k z:Value}{kvs:List (Value×Value)}{r:Option (Nat×Value)}(hx:ql N s x=.mp o)(hy:ql N s y=.v k)(ho:s.st[o]?=some (.map kvs))
  (hu:E.P.underlying t=some (.map kt vt)) (hk:E.P.underlying kt=some kd) (s7:mkey kd k=true) (hf:qdc kd k kvs 0=some r) (hz:(E.P.info? vt).bind (λi=>i.zero)=some z)
  (h:AOps E rd N ops rest K (s.put d (.tu [.v (mval z r),Bv r.isSome]))):AOps E rd N ops (⟨d,.lookup t x y true,T,p,af,none⟩::rest) K s:=by
 refine q9 rfl (q8 nofun λB0 w0 G a w _ hI=>?_);have hv:=hI.evalv hy;have he:=hI.eval_of hx;generalize hvx:a.eval x=v at he
 cases he with
 |mp _ b hn hr hb=>
  obtain⟨_,_,es,clock,h4,h5⟩:=hI.agree.ob o _ ho;rw[hb]at h4;subst h5;refine⟨_,w,G,_,s.st,?_,.refl G,hI.agree,qfn (.v (mval z r)) (.v (.bool r.isSome)),h⟩
  have hlk:(Instr.lookup t (.map (some b)) k true).run E.P w=.ok (.tuple #[mval z r,.bool r.isSome]) w:=by
   unfold Instr.lookup;rw[Sem.run_bind,run_underlying hu];simp only[Result.andThen_ok,Sem.run_bind];simp only[getObj,Sem.run,h4,Result.andThen_ok,Sem.run_bind,Sem.run_pure];rw[show(10000:Nat)=9999+1 from rfl,qr4 hk s7];simp only[Result.andThen_ok];rw[quc hk hf]
   cases r with
   |none=>simp[zk5 hz,mval]
   |some q=>simp[mval]
  simp only[execOp,hvx,hv];rw[Sem.run_bind,hlk];rfl
theorem q8m{t kt vt:TypeId}{kd:TypeDesc}{x y q:Operand}{o:Nat}{k u:Value}{kvs:List (Value×Value)}{r:Option (Nat×Value)}(hx:ql N s x=.mp o)(hy:ql N s y=.v k)(hq:ql N s q=.v u)(ho:s.st[o]?=some (.map kvs))
  (hu:E.P.underlying t=some (.map kt vt)) (hk:E.P.underlying kt=some kd) (s7:mkey kd k=true) (hf:qdc kd k kvs 0=some r)
  (h:AOps E rd N ops rest K (AS.put ⟨s.t,s.st.set o (.map (mset kvs k u r)),s.df⟩ d (.v undef))):AOps E rd N ops (⟨d,.mapUpdate t x y q,T,p,af,none⟩::rest) K s:=by
 refine q9 rfl (qmy nofun λB0 w0 G a w _ hI=>?_);have hv:=hI.evalv hy;have rp:=hI.evalv hq;have he:=hI.eval_of hx;generalize hvx:a.eval x=v at he
 cases he with
 |mp _ b hn hr hb=>
  obtain⟨hraw,ft,es,clock,h4,h5⟩:=hI.agree.ob o _ ho;subst h5
  have key:∀(es':Array MapEntry)(clock':Nat),es'.toList.map (λe=>(e.key,e.val))=mset (es.toList.map λe=>(e.key,e.val)) k u r->
    (Instr.mapUpdate t (.map (some b)) k u).run E.P w=.ok () (w.putObj b (.map es' clock'))->∃w' G' st',(execOp a.eval ⟨d,.mapUpdate t x y q,T,p,af,none⟩).run E.P w=.ok .skip w'∧G.le G'∧zl B0 w0 G' st' w'∧AOps E rd N ops rest K (AS.put ⟨s.t,st',s.df⟩ d (.v undef)):=λes' clock' he a8=>by
   refine⟨_,G,_,?_,.refl G,hI.agree.putRaw (x':=.map (mset (es.toList.map λe=>(e.key,e.val)) k u r)) (y':=.map es' clock') ho trivial hraw h4 Sx ⟨hraw,ft,es',clock',?_,he⟩,h⟩
   .simp only[execOp,hvx,hv,rp]
    rw[Sem.run_bind,a8,hb];rfl
   .have d9:(G.ob o).blk<w.heap.size:=(Array.getElem?_eq_some_iff.1 h4).1
    simp[World.putObj,d9]
  rw[hb]at h4
  have hcommon:(Instr.mapUpdate t (.map (some b)) k u).run E.P w=(match r with
   |some (i,_)=>(do
     let key <-Instr.keyThatStays (((es[i]?).map (λe:MapEntry=>e.key)).getD k) k
     setObj b (.map (es.modify i λe:MapEntry=>{e with key,val:=u}) clock):Sem Unit)
   |none=>(setObj b (.map (es.push {key:=k,val:=u,born:=clock}) (clock+1)):Sem Unit)).run E.P w:=by
   unfold Instr.mapUpdate;rw[Sem.run_bind,run_underlying hu];simp only[Result.andThen_ok,Sem.run_bind];simp only[getObj,Sem.run,h4,Result.andThen_ok,Sem.run_bind];rw[show(10000:Nat)=9999+1 from rfl,qr4 hk s7];simp only[Result.andThen_ok];rw[quc hk hf];simp only[Result.andThen_ok]
   cases r with
   |none=>rfl
   |some q=>rfl
  cases r with
  |none=>
   refine key (es.push {key:=k,val:=u,born:=clock}) (clock+1) (by simp[mset]) ?_;rw[hcommon]
   simp[setObj,Sem.run,World.putObj,h4]
  |some q=>
   obtain⟨i,v0⟩:=q;obtain⟨_,q0,hq1,s4⟩:=q6a hf;rw[Nat.sub_zero,Qo]at hq1;obtain⟨e0,he0,he1⟩:=Option.map_eq_some_iff.1 hq1;simp only[Za]at he1;obtain⟨rfl,rfl⟩:=he1
   have hsb:Instr.sameBits 10000 e0.key k=true:=by
    unfold mkey at s7;split at s7
    .unfold Instr.sameNow at s4
     split at s4
     .simp at *
     .rename_i s1 s2 e1 e2 e3
      have hq3:s1=s2:=(Go.MapKept.bytes_beq _ _).1 (Xv s4);subst hq3;rw[e3,<-e2];simp only[Instr.sameBits];exact(Go.MapKept.bytes_beq _ _).2 rfl
     .simp at *
     .simp at s4
    .unfold Instr.sameNow at s4
     split at s4
     .rename_i k1 a1 k2 b1 e1 e2 e3
      split at s4
      .rename_i ek
       subst ek;simp only[Qa,beq_iff_eq]at s4;subst s4;rw[e3,<-e2];simp[Instr.sameBits]
      .simp at s4
     .simp at *
     .simp at *
     .simp at s4
    .simp at s7
   refine key (es.modify i λe:MapEntry=>{e with key:=k,val:=u}) clock ?_ ?_
   .simp only[mset,Array.toList_modify]
    apply Xf;intro j;rw[Qo,List.getElem?_modify,List.getElem?_set,Qo];by_cases e:i=j
    .subst e
     rw[he0];have:=(Qp.1 he0).1;simp at this⊢;exact this
    .simp[e]
   .rw[hcommon]
    have:es[i]?=some e0:=by simpa using he0
    simp[this,Instr.keyThatStays,hsb,setObj,Sem.run,World.putObj,h4]
end
end Go.Av
namespace Go.Av
open Go Go.RowKit
structure mapP (kvs:List (Value×Value)) (x:AObj) (c:AV):Prop where
 ob:x=.map kvs
 mp:∃o,c=.mp o
section
variable {E : Env} {N : Nat} {ops : Array Oper} {nx : Nat} {sl : List (Nat × SV)} {H : Nat → Option SR} {k : Ef → Prop} {d : Option Tmp} {T : TypeId} {p : String} {af : Array Edge}
theorem znb{t:TypeId}(h:k ⟨.tp nx,[],[(nx,some (.obj (mapP [])))],nx+1⟩):∃e,Loc E N ops ⟨d,.makeMap t none,T,p,af,none⟩ nx sl H e∧k e:=by
 refine⟨_,qny (λk r hk=>by rw[qgp]at hk;simp at hk) λdf rd K rest ρ t1 S ho _ hk=>q4h ?_,h⟩;have:=hk (.mp S.length) [.map []] ⟨S.length,_,rfl,yg,Sx,rfl,_,rfl⟩ (λo ho=>by simp only[zq,Qa]at ho;omega)
 simpa[SV.ev,ve,tpAt,AV.one]using this
theorem zj4{t kt vt:TypeId}{kd:TypeDesc}{x y:Operand}{b:Nat}{kvs:List (Value×Value)}{v:SV}{kv z:Value}{r:Option (Nat×Value)}{n:Int}(hx:sval N sl x=some (.tp b))(hH:H b=some (.obj (mapP kvs)))(hy:sval N sl y=some v)(hv:∀ρ,v.ev ρ=.v kv)
  (hu:E.P.underlying t=some (.map kt vt)) (hk:E.P.underlying kt=some kd) (s7:mkey kd kv=true) (hf:qdc kd kv kvs 0=some r) (hz:(E.P.info? vt).bind (λi=>i.zero)=some z) (hn:mval z r=.int .i64 n)
  (h:k ⟨.tu [.i n,.b r.isSome],[b],[],nx⟩):∃e,Loc E N ops ⟨d,.lookup t x y true,T,p,af,none⟩ nx sl H e∧k e:=by
 refine⟨_,qah (v:=.tu [.i n,.b r.isSome]) λdf rd K rest ρ t' S hs hS s8=>?_,h⟩;obtain⟨o,x',h1,h2,_,rfl,o',e1⟩:=hS.ok b _ ((xg b).trans hH);rw[e1]at h1;simp only[zq,Qa]at h1;subst h1;refine q4i (o:=o') ((q7 hs hx).trans (by simp[SV.ev,e1,tpAt,AV.one])) ((q7 hs hy).trans (hv ρ)) h2 hu hk s7 hf hz ?_;rw[hn];exact s8
theorem znc{t kt vt:TypeId}{kd:TypeDesc}{x y q:Operand}{b:Nat}{kvs:List (Value×Value)}{v w:SV}{kv u:Value}{r:Option (Nat×Value)}(hx:sval N sl x=some (.tp b))(hH:H b=some (.obj (mapP kvs)))(hy:sval N sl y=some v)(hv:∀ρ,v.ev ρ=.v kv)(hq:sval N sl q=some w)(hw:∀ρ,w.ev ρ=.v u)
  (hu:E.P.underlying t=some (.map kt vt)) (hk:E.P.underlying kt=some kd) (s7:mkey kd kv=true) (hf:qdc kd kv kvs 0=some r)
  (h:k ⟨.a (.v undef),[b],[(b,some (.obj (mapP (mset kvs kv u r))))],nx⟩):∃e,Loc E N ops ⟨d,.mapUpdate t x y q,T,p,af,none⟩ nx sl H e∧k e:=by
 refine⟨_,λdf rd K rest ρ t' S hs hS s8=>?_,h⟩;obtain⟨o,x',h1,h2,_,rfl,o',e1⟩:=hS.ok b _ ((xg b).trans hH);rw[e1]at h1;simp only[zq,Qa]at h1;subst h1;refine q8m (o:=o') ((q7 hs hx).trans (by simp[SV.ev,e1,tpAt,AV.one])) ((q7 hs hy).trans (hv ρ)) ((q7 hs hq).trans (hw ρ)) h2 hu hk s7 hf ?_
 have key:∀k r',chF [(b,some (.obj (mapP (mset kvs kv u r))))] (resF [b] H) k=some r'->k=b∧r'=.obj (mapP (mset kvs kv u r)):=λk r' hk=>by
  simp only[chF,lkS]at hk;by_cases e:b=k
  .subst e
   have:Qx b b=true:=Sx
   rw[this]at hk;simp only[cond_true,Qa]at hk;exact⟨rfl,hk.symm⟩
  .rw[jv e]at hk
   have:=(wr hk).1;simp only[memN,Zs,Xd,Zz]at this;exact absurd (Qh this).symm e
 refine s8 ρ _ ⟨λ_ _=>rfl,⟨λk r' hk=>?_,λk k' r1 r2 b9 g1 g2=>?_⟩,Sx,λj hj b9=>?_,λk r' hk o' e8=>?_⟩
 .obtain⟨rfl,rfl⟩:=key k r' hk
  exact⟨o',_,by rw[e1];rfl,qbc h2,Sx,rfl,o',e1⟩
 .exact absurd ((key k r1 g1).1.trans (key k' r2 g2).1.symm) b9
 .have:=b9 b _ ((xg b).trans hH)
  rw[e1]at this;exact Qg (λe=>this (by rw[e];rfl))
 .obtain⟨rfl,rfl⟩:=key k r' hk
  exact .inr ⟨k,_,(xg k).trans hH,e8⟩
end
end Go.Av
namespace Go.Av
open Go Go.RowKit
def getM{α:Type}[DecidableEq α](s:α):List (α×Int)->Int
 | []=>0
 |q::r=>if q.1=s then q.2 else getM s r
def setM{α:Type}[DecidableEq α](s:α)(n:Int):List (α×Int)->List (α×Int)
 | []=>[(s,n)]
 |q::r=>if q.1=s then(s,n)::r else q::setM s n r
theorem q5v{α:Type}[DecidableEq α](s t:α)(n:Int):∀(L:List (α×Int)),getM t (setM s n L)=if t=s then n else getM t L
 | []=>by
  unfold setM getM getM;by_cases h:t=s
  .rw[if_pos h,if_pos h.symm]
  .rw[if_neg h,if_neg λe=>h e.symm]
 |q::r=>by
  have ih:=q5v s t n r;unfold setM;by_cases hq:q.1=s
  .rw[if_pos hq]
   unfold getM;by_cases h:t=s
   .rw[if_pos h,if_pos h.symm]
   .rw[if_neg h,if_neg λe=>h e.symm,if_neg λe=>h (e.symm.trans hq)]
  .rw[if_neg hq]
   unfold getM;rw[ih];by_cases ht:q.1=t
   .rw[if_pos ht,if_pos ht,if_neg λe=>hq (ht.trans e)]
   .rw[if_neg ht,if_neg ht]
section
variable {α : Type} [DecidableEq α] {kd : TypeDesc} {key : α → Value}
def kvM(key:α->Value)(q:α×Int):Value×Value:=(key q.1,.int .i64 q.2)
theorem qzq(hs:∀a b,Instr.sameNow kd (key a) (key b)=some (decide (b=a)))(s:α)(n:Int):∀(L:List (α×Int))(pre:List (Value×Value)),∃r,qdc kd (key s) (L.map (kvM key)) pre.length=some r∧mval (.int .i64 0) r=.int .i64 (getM s L)∧mset (pre++L.map (kvM key)) (key s) (.int .i64 n) r=pre++(setM s n L).map (kvM key)
 | [],pre=>⟨none,rfl,rfl,by simp[mset,setM,kvM]⟩
 |q::r,pre=>by
  rw[Qz,qdc]
  show∃r',(match Instr.sameNow kd (key s) (key q.1)with|some true=>_|some false=>_|none=>_)=some r'∧_
  rw[hs];unfold getM setM;by_cases h:q.1=s
  .rw[if_pos h,if_pos h]
   simp only[h,decide_true];refine⟨_,rfl,rfl,?_⟩;simp only[mset];rw[List.set_append_right _ _ (Qm _),Nat.sub_self];rfl
  .rw[if_neg h,if_neg h]
   simp only[h,decide_false];obtain⟨r',h1,h2,h3⟩:=qzq hs s n r (pre++[kvM key q]);rw[Qc,List.length_singleton]at h1;exact⟨r',h1,h2,by simpa using h3⟩
variable {E : Env} {N : Nat} {ops : Array Oper} {nx : Nat} {sl : List (Nat × SV)} {H : Nat → Option SR} {k : Ef → Prop} {d : Option Tmp} {T : TypeId} {p : String} {af : Array Edge}
theorem zj0{t kt vt:TypeId}{x y q:Operand}{b:Nat}{L:List (α×Int)}{v w:SV}{s:α}{n:Int}(hs:∀a b,Instr.sameNow kd (key a) (key b)=some (decide (b=a)))(hx:sval N sl x=some (.tp b))(hH:H b=some (.obj (mapP (L.map (kvM key)))))(hy:sval N sl y=some v)(hv:∀ρ,v.ev ρ=.v (key s))(hq:sval N sl q=some w)(hw:∀ρ,w.ev ρ=.v (.int .i64 n))
  (hu:E.P.underlying t=some (.map kt vt)) (hk:E.P.underlying kt=some kd) (s7:mkey kd (key s)=true)
  (h:k ⟨.a (.v undef),[b],[(b,some (.obj (mapP ((setM s n L).map (kvM key)))))],nx⟩):∃e,Loc E N ops ⟨d,.mapUpdate t x y q,T,p,af,none⟩ nx sl H e∧k e:=by
 obtain⟨r,h1,_,h3⟩:=qzq hs s n L [];rw[Xl,Xl]at h3;rw[<-h3]at h;exact znc hx hH hy hv hq hw hu hk s7 h1 h
end
def keyI(n:Int):Value:=.int .i64 n
theorem q7y(a b:Int):Instr.sameNow (.int .i64) (keyI a) (keyI b)=some (decide (b=a)):=by
 show(if IntKind.i64=IntKind.i64 then some (a==b)else none)=_
 rw[if_pos rfl];congr 1;by_cases h:b=a
 .subst h;simp
 .rw[decide_eq_false h]
  simpa usingλe=>h e.symm
end Go.Av
namespace Go.Av
open Go Go.RowKit
theorem qz3{E:Env}{rd:Option Nat}{N:Nat}{B:Bs}{c:Code}{Q:Exit->Conf->Prop}{C:Conf}(d:Nat){b sz:Nat}{T:TypeId}{ys:List AV}(hd:lkS C.sl d=some (.tp b))(hb:hpF C.hp b=some (.own sz T ys))
  (h:Sm E rd N B c Q ⟨(d,.a (.sl sz ys none))::C.sl,(b,none)::C.hp,C.nx⟩):Sm E rd N B c Q C:=⟨λs hs=>by
 obtain⟨t,S,df⟩:=s;obtain⟨ρ,hF,hR⟩:=hs;simp only at hF hR;have ht:=hR.sl d _ hd;have hok:=hR.hp.ok b _ hb;simp only[SV.ev,qio hok]at ht;rcases hok with⟨rfl,f1⟩|⟨o,ver,cap,pad,f1,f2,f3,f4,f5,f6⟩
 .have hP:=hR.drop (o:=S.length) hb (λo' e8=>by rw[f1.loc]at e8;simp at e8) (.inr (Qu Sx))
  rw[Qu Sx]at hP;refine qwo (t':=Av.put t d (.sl sz [] none)) (λx=>?_) (h.run ⟨Av.put t d (.sl sz [] none),S,df⟩ ⟨ρ,⟨hF.dm,hF.nd,hF.rig,hF.le,hF.dz⟩,hP.slot d⟩);by_cases e:x=d
  .subst e
   rw[xx,ht];exact f1.wk sz
  .rw[qax _ _ _ _ e]
   exact xc _
 .rw[f1]at ht
  have hP:=hR.drop (o:=o) hb (λo' e8=>by rw[f1]at e8;simpa[zq]using e8.symm) (.inl (by rw[f1];rfl));have hr:=h.run ⟨Av.put t d (.sl sz ys none),S.set o .dead,df⟩ ⟨ρ,⟨λx hx=>?_,hF.nd,hF.rig,hF.le,hF.dz⟩,hP.slot d⟩
  .exact⟨λB0 w0 G a w hL hI=>by
    obtain⟨G1,h1,h2⟩:=hI.osPub (xs:=ys) (sz:=sz) ht f2 rfl f5 f4 (by rw[Qc,zv f4];omega) (by rw[Xo,<-zv f4,Zw])
    exact wpIn_mono (hr.run B0 w0 G1 a w hL h2) λ_ _ _ ⟨G',s',hG,k1,k2⟩=>⟨G',s',h1.trans hG,k1,k2⟩⟩
  .have hm:=hF.dm x hx
   refine⟨?_,hm.2⟩
   have b9:o≠x:=λe=>by
    rw[<-e]at hm;rw[f2]at hm;simp at hm
   simp only;rw[Qg b9]
   exact hm.1⟩
section
variable {E : Env} {rd : Option Nat} {N : Nat} {ops : Array Oper} {K : AS → Prop} {s : AS} {rest : List Oper} {d : Option Tmp} {T : TypeId} {p : String} {af : Array Edge}
theorem q8p{x y:Operand}{t:TypeId}{sz:Nat}{agg:Bool}{o ver off:Nat}{T':TypeId}{cs xs:List AV}{r:AV}(hx:ql N s x=.bx o ver off)(hy:Wk (ql N s y) r)(ho:s.st[o]?=some (.cells ver T' cs))(ht:tyOf E.P t=some (sz,agg))
  (hok:r.okc=true) (hc:r.cells=xs) (o6:xs.length=sz) (h1:∀z∈xs,z.one=true) (i9:off+sz<=cs.length)
  (h:AOps E rd N ops rest K (AS.put ⟨s.t,s.st.set o (.cells ver T' (z4 cs off xs)),s.df⟩ d (.v undef))):AOps E rd N ops (⟨d,.store t x y,T,p,af,none⟩::rest) K s:=by
 refine q9 rfl (qmy nofun λB0 w0 G a w _ hI=>?_);have he:=hI.eval_of hx;have dj:=hy _ _ (hI.eval y);have gr:=dj.cells hok;generalize hv:a.eval x=v at he;generalize rp:a.eval y=v2 at dj gr;rw[hc]at gr
 cases he with
 |bx _ _ _ b hn dk hb=>
  obtain⟨_,g1,g2,g3,c,g4,g5,g6⟩:=hI.agree.ob o _ ho;have hb:=hb g1;subst hb;have hcl':RelC G xs v2.cells.toList.toArray:=by simpa using gr
  have d5:v2.cells.size=sz:=by rw[<-gr.1];exact o6
  have m9:∀u∈v2.cells.toList,u.oneCell'=true:=λu hu=>by
   obtain⟨i,hi⟩:=List.getElem?_of_mem hu;obtain⟨z,hz⟩:=qxj hi (Nat.le_of_eq (by simpa using gr.1.symm));exact(gr.2 i z u hz (by simpa using hi)).one (h1 z (Qq hz))
  have e7:=run_storeCells_at E.P (G.ob o).blk off T' v2.cells.toList 0 c w g4 (by simp[d5];omega) m9;have r9:=qyr (off:=off) g5 g6 hcl' Om;refine⟨_,G,_,?_,.refl G,hI.agree.setRow ho r9.1 r9.2,h⟩;simp only[execOp,hv,rp,Instr.storeAt,Instr.sureAddr];simp[storeVar,(vp ht w).1,d5,e7]
end
section
variable {E : Env} {N : Nat} {ops : Array Oper} {nx : Nat} {sl : List (Nat × SV)} {H : Nat → Option SR} {k : Ef → Prop} {d : Option Tmp} {T : TypeId} {p : String} {af : Array Edge}
theorem qpg{t e:TypeId}{x y:Operand}{b off sz i j sz':Nat}{agg:Bool}{xs:List AV}{z z' u:AV}{v:SV}(hx:sval N sl x=some (.bx b off))(hy:sval N sl y=some v)(hf:frz (resF (b::v.ks) H) v=some u)(hH:H b=some (.own sz e xs))(ht:tyOf E.P t=some (sz',agg))(ho:off=0+i*sz+j)(hz:xs[i]?=some z)(dn:z'.cells=z4 z.cells j u.cells)
  (hj:(u.okc&&Qx u.cells.length sz'&&kc u.cells&&Qn (j+sz') sz)=true) (h:k ⟨.a (.v undef),b::v.ks,[(b,some (.own sz e (xs.set i z')))],nx⟩):∃e,Loc E N ops ⟨d,.store t x y,T,p,af,none⟩ nx sl H e∧k e:=by
 simp only[Qb]at hj;obtain⟨⟨⟨j1,j2⟩,j3⟩,j4⟩:=hj;have j2:=Qh j2;have j4:=Qi j4;have hHb:resF (b::v.ks) H b=some (.own sz e xs):=by unfold resF;simp[memN,hH]
 refine⟨_,λdf rd K rest ρ t' S hs hS hk=>?_,h⟩;rcases hS.ok b _ hHb with⟨rfl,_⟩|⟨o,ver,cap,pad,e1,e2,e3,e4,e5,e6⟩
 .simp at hz
 .subst ho
  obtain⟨q1,q2⟩:=qxe (pad:=pad) e4 hz dn Om;have d9:=lt_of_getElem? hz
  refine q8p (o:=o) (ver:=ver) (off:=0+i*sz+j) (xs:=u.cells) ((q7 hs hx).trans (by simp only[SV.ev,e1,bxAt])) (by rw[q7 hs hy];exact qjs hS v u hf) e2 ht j1 rfl j2 (by simpa[kc]using j3) (by
   have h1:i*sz+sz<=xs.length*sz:=by rw[<-Xs];exact Zf _ d9
   rw[Qc,zv e4]
   omega) ?_
  rw[q1]
  have p8:∀y∈xs.set i z',y.cells.length=sz:=λy hy=>by
   rcases Zt hy with h|rfl
   .exact e4 y h
   .exact q2
  have key:∀k r,chF [(b,some (.own sz e (xs.set i z')))] (resF (b::v.ks) H) k=some r->(k=b∧r=.own sz e (xs.set i z'))∨(k≠b∧resF (b::v.ks) H k=some r):=λk r hk=>by
   simp only[chF,lkS]at hk;by_cases e:b=k
   .subst e
    have:Qx b b=true:=Sx
    rw[this]at hk;simp only[cond_true,Qa]at hk;exact .inl ⟨rfl,hk.symm⟩
   .rw[jv e]at hk
    exact .inr ⟨λh=>e h.symm,hk⟩
  have hloc:∀k r,k≠b->resF (b::v.ks) H k=some r->∀o',zq (ρ k)=some o'->o'≠o:=λk r b9 hk o' e8 e=>hS.sep k b _ _ b9 hk hHb o' e8 (by rw[e1,e];rfl);refine hk ρ _ ⟨λ_ _=>rfl,⟨λk r hk=>?_,λk k' r r' b9 g1 g2=>?_⟩,Sx,λj hj b9=>?_,λk r hk o' e8=>?_⟩
  .rcases key k r hk with⟨rfl,rfl⟩|⟨b9,hk⟩
   .refine .inr ⟨o,ver,cap,pad,by rw[e1,Qt],qbc e2,?_,p8,by rw[Qt];exact e5,e6⟩
    rw[Qc,zv p8,Qt,<-zv e4,<-Qc];exact e3
   .have h3:=hS.ok k r hk
    cases r with
    |cells T1 cs=>
     obtain⟨o',v',f1,f2,f3⟩:=h3
     exact⟨o',v',f1,(Qg (hloc k _ b9 hk o' (by rw[f1];rfl)).symm).trans f2,f3⟩
    |tip z T1 zs=>exact SR.ok_of (f:=λ_=>false) (r:=.tip z T1 zs) (ρ:=ρ) rfl (λk hk=>by simp at hk) h3 λo' e8=>Qg (hloc k _ b9 hk o' e8).symm
    |own z T1 zs=>exact SR.ok_of (f:=λ_=>false) (r:=.own z T1 zs) (ρ:=ρ) rfl (λk hk=>by simp at hk) h3 λo' e8=>Qg (hloc k _ b9 hk o' e8).symm
    |obj P1=>exact SR.ok_of (f:=λ_=>false) (r:=.obj P1) (ρ:=ρ) rfl (λk hk=>by simp at hk) h3 λo' e8=>Qg (hloc k _ b9 hk o' e8).symm
    |rows T1 ys cs=>exact OwnS.of (show OwnS S 1 T1 (ys++SV.evs ρ cs) (ρ k) from h3) λo' e8=>Qg (hloc k _ b9 hk o' e8).symm
  .rcases key k r g1 with⟨rfl,rfl⟩|⟨n1,g1⟩
   .rcases key k' r' g2 with⟨rfl,rfl⟩|⟨n2,g2⟩
    .exact absurd rfl b9
    .exactλo' e8=>hS.sep _ _ _ _ b9 hHb g2 o' e8
   .rcases key k' r' g2 with⟨rfl,rfl⟩|⟨n2,g2⟩
    .exactλo' e8=>hS.sep _ _ _ _ b9 g1 hHb o' e8
    .exactλo' e8=>hS.sep _ _ _ _ b9 g1 g2 o' e8
  .have:=b9 b _ hHb
   rw[e1]at this;exact Qg (λe=>this (by rw[e];rfl))
  .rcases key k r hk with⟨rfl,rfl⟩|⟨n1,hk⟩
   .exact .inr ⟨k,_,hHb,e8⟩
   .exact .inr ⟨k,_,hk,e8⟩
end
end Go.Av
namespace Go.Pl
open Go Go.Proofs
structure zg where
 kind:Int
 raw:qa
 fields:List Fld
structure PSt where
 lines:List qa
 frm:Int
 full:Bool
 items:List zg
 block:List qa
 fields:List Fld
 records:Int
def ka(p:PSt):Option (Int×Int)×PSt:=
 if p.lines=[]then(none,p)
 else if(zu p.lines).2≠0 then(some (p.frm,(zu p.lines).2),p)
 else if p.full=true then(some (p.frm,11),p)
 else(none,{p with lines:=[],fields:=p.fields++[(zu p.lines).1]})
end Go.Pl
namespace Go.Proofs.YtlekheifonaipaaGreatDoor
open Go Go.Av Go.RowKit Go.Proofs Go.Pl
@[reducible] def kq (x : zg) : AV := .ag [Iv x.kind, Sv x.raw, jd x.fields]
@[reducible] def vu (xs : List zg) : AV := .sl 3 (xs.map kq) none
@[reducible] def parC (c1 c2 c3 c4 : AV) (p : PSt) : List AV := [c1, Iv p.frm, Bv p.full, c2, c3, c4, Iv p.records]
@[reducible] def parO (c1 c2 c3 c4 : AV) (p : PSt) : AObj := .cells 0 211 (parC c1 c2 c3 c4 p)
structure ParS (b o:Nat) (p:PSt) (st:List AObj) (c1 c2 c3 c4:AV):Prop where
 lt:o<b
 le:b<=st.length
 ob:st[o]?=some (parO c1 c2 c3 c4 p)
 h1:TipC b st 1 9 (p.lines.map λx=>Sv x) c1
 h2:TipC b st 3 123 (p.items.map kq) c2
 h3:TipC b st 1 9 (p.block.map λx=>Sv x) c3
 h4:TipC b st 2 40 (p.fields.map fldA) c4
 ne:∀t xs ys,c1=.sl 1 xs (some t)->c3=.sl 1 ys (some t)->False
structure Keep (b o:Nat) (st st':List AObj):Prop where
 len:st.length<=st'.length
 same:∀k,k≠o->k<st.length->(k<b∨qhz st[k]?)->st'[k]?=st[k]?
theorem Keep.trans{b o:Nat}{st st' st'':List AObj}(h:Keep b o st st')(k:Keep b o st' st''):Keep b o st st'':=⟨Zd h.len k.len,λi b9 hi hc=>by
 have e:=h.same i b9 hi hc;refine(k.same i b9 (Nat.lt_of_lt_of_le hi h.len) ?_).trans e;rw[e]
 exact hc⟩
def qjp(a n:Int):AV:=.ifc 76 (.pp [Iv a,.ifc 61 (Iv n)])
def errP:Option (Int×Int)->AV
 |none=>.v .nilIface
 |some (a,n)=>qjp a n
theorem qm4(a n:Int):Pure (qjp a n):=qd2 (qzx λx hx=>by
 simp only[Zy,List.not_mem_nil,or_false]at hx;rcases hx with rfl|rfl
 .exact qr _
 .exact qd2 (qr _))
theorem qpm(a n:Int)(st:List AObj):qp E 158 [Iv a,.ifc 61 (Iv n)] st λr st'=>r=qjp a n∧st'=st:=by
 refine qz (qm4 a n) (qq Tryz.func158 rfl (Qi rfl) ?_);repeat' (first|(apply qqq;rfl;rfl;rfl)|apply qo|apply qf|apply qh|apply qj|apply qg|(apply vr;rfl;rfl)|(apply yf;rfl;rfl;rfl)|apply qu)
 exact qn rfl (q5 rfl) ⟨rfl,_,rfl⟩
theorem zee(ls:List qa)(t:Option Nat)(st:List AObj)(hB:LsB ls)(h:(zu ls).2=0):qp E 201 [.sl 1 (ls.map λx=>Sv x) t] st λr st'=>r=.tu [fldA (zu ls).1,.v .nilIface]∧st'=st:=by
 have:=qqc ls st hB;unfold qip at this;rw[h]at this;exact qs5 (qp5 _ _ _) this
theorem zef(ls:List qa)(t:Option Nat)(st:List AObj)(hB:LsB ls)(h:(zu ls).2≠0):qp E 201 [.sl 1 (ls.map λx=>Sv x) t] st λr st'=>r=.tu [fldA (zu ls).1,.ifc 61 (Iv (zu ls).2)]∧st'=st:=by
 have:=qqc ls st hB;unfold qip at this;rw[qns h]at this;exact qs5 (qp5 _ _ _) this
structure PB (n:Nat) (p:PSt):Prop where
 small:n<900000
 lines:p.lines.length<=n
 linesV:∀s∈p.lines,s.length<1000000
 items:p.items.length<=n
 block:p.block.length<=n
 blockV:∀s∈p.block,s.length<1000000
 fields:p.fields.length<=n
 rec0:0<=p.records
 rec1:p.records<=n
theorem PB.ls{n:Nat}{p:PSt}(h:PB n p):LsB p.lines:=⟨by have:=h.lines;have:=h.small;omega,h.linesV⟩
theorem ParS.pre{b o:Nat}{p:PSt}{st l:List AObj}{c1 c2 c3 c4:AV}(P:ParS b o p st c1 c2 c3 c4):ParS b o p (st++l) c1 c2 c3 c4:=
 ⟨P.lt,by have:=P.le;simp;omega,qc4 P.ob,qlt P.h1,qlt P.h2,qlt P.h3,qlt P.h4,P.ne⟩
end Go.Proofs.YtlekheifonaipaaGreatDoor
namespace Go.Pl
open Go Go.Proofs
def y4(p:PSt):PSt:=
 if p.block=[]then {p with block:=[],fields:=[]}
 else {p with items:=p.items++[⟨if p.fields=[]then 2 else 3,zj p.block,p.fields⟩],records:=if p.fields=[]then p.records else p.records+1,block:=[],fields:=[]}
def endP(p:PSt):Option (Int×Int)×PSt:=match(ka p).1 with
 |some e=>(some e,p)
 |none=>(none,y4 (ka p).2)
theorem qrg:∀(x:qa)(r:List qa),Lib.join (x::r) [10]++[10]=zj (x::r)
 |x,[]=>by rw[Lib.join_one];simp[zj]
 |x,y::r=>by
  have ih:=qrg y r;rw[Lib.join_cons]at ih⊢;unfold Lib.joinTail at ih⊢;simp only[Qz,List.flatten_cons,zj,Xg]at ih⊢;rw[<-ih];simp
theorem qp2:∀(r:List qa),(∀s∈r,s.length<1000000)->(zj r).length<=1000001*r.length
 | [],_=>by simp[zj]
 |a::r,h=>by
  have ih:=qp2 r λs hs=>h s (by simp[hs]);have ha:=h a Sx;simp only[zj,Xg,Qc,Qr,Qs]at ih⊢;omega
end Go.Pl
namespace Go.Proofs.YtlekheifonaipaaGreatDoor
open Go Go.Av Go.RowKit Go.Proofs Go.Pl
theorem qjr{n:Nat}{p:PSt}(h:PB n p)(hs:n+1<900000):PB (n+1) (ka p).2:=by
 have h1:=h.lines;have h2:=h.items;have h3:=h.block;have h4:=h.fields;have h5:=h.rec0;have h6:=h.rec1;unfold ka;split
 .exact⟨hs,by simp only;omega,h.linesV,by simp only;omega,by simp only;omega,h.blockV,by simp only;omega,h5,by simp only;omega⟩
 .split
  .exact⟨hs,by simp only;omega,h.linesV,by simp only;omega,by simp only;omega,h.blockV,by simp only;omega,h5,by simp only;omega⟩
  .split
   .exact⟨hs,by simp only;omega,h.linesV,by simp only;omega,by simp only;omega,h.blockV,by simp only;omega,h5,by simp only;omega⟩
   .exact⟨hs,Sx,Sx,by simp only;omega,by simp only;omega,h.blockV,So,h5,by simp only;omega⟩
theorem zm0(xs:List qa)(tip:Option Nat)(st:List AObj)(b9:xs≠[])(hN:xs.length<=900000)(hv:∀s∈xs,s.length<1000000):qp E 118 [.sl 1 (xs.map λx=>Sv x) tip,Sv [10]] st λr st'=>r=Sv (Lib.join xs [10])∧st'=st:=by
 refine zf4 xs tip [10] st Om ?_;have h1:=qp2 xs hv
 cases xs with
 |nil=>exact absurd rfl b9
 |cons x r=>
  have h2:=congrArg Zv (qrg x r);rw[Qc]at h2;simp only[Qr,Qs]at h2 h1 hN;omega
def parH(a:Nat)(p:PSt):List (Nat×Option SR):=[(0,some (.cells 211 [.tp a,.i p.frm,.b p.full,.tp (a+1),.tp (a+2),.tp (a+3),.i p.records])),(a,some (.tip 1 9 (p.lines.map λx=>Sv x))),(a+1,some (.tip 3 123 (p.items.map kq))),(a+2,some (.tip 1 9 (p.block.map λx=>Sv x))),(a+3,some (.tip 2 40 (p.fields.map fldA)))]
theorem qu2(n:Nat)(p:PSt)(hB:PB n p):vb E 160 [.bx 0 0] 5 (hpF (parH 1 p)) ⟨.a (errP (ka p).1),kr (parH 1 p),parH 5 (ka p).2++vw (parH 1 p),9⟩:=by
 refine xl [.bx 0 0] (parH 1 p) 5 (.a (errP (ka p).1)) (parH 5 (ka p).2) 9 Tryz.func160 rfl rfl rfl rfl λS F ρ=>?_;have hls:=hB.ls;have hsm:=hB.small;have o8:=hB.fields;by_cases h0:p.lines=[]
 .have e:ka p=(none,p):=by unfold ka;rw[if_pos h0]
  rw[e];have hl0:(p.lines.map λx=>Sv x).length=0:=by simp[h0]
  apply qd [];repeat' (first|apply Qd|(intro h;try exact cDd)|exact cSd|apply qb []|refine exr ?_|refine qe ?_)
 .have hl0:(p.lines.map λx=>Sv x).length≠0:=by simp[h0]
  by_cases hu:(zu p.lines).2=0
  .have bf:=λst=>zee p.lines none st hls hu
   cases hf:p.full with
   |true=>
    have e:ka p=(some (p.frm,11),p):=by unfold ka;rw[if_neg h0,if_neg (by simp[hu]),if_pos hf]
    rw[e];have hft:=λst=>qpm p.frm 11 st;apply qd []
    repeat' (first|apply Qd|(intro h;try exact cDd)|exact⟨Tryz.call201⟩|refine cpe bf ?_|exact⟨Tryz.call158⟩|refine cpe hft ?_|(exact absurd (by assumption:p.full=false) (by rw[hf];decide))|exact cSd|apply qb []|refine exr ?_|refine qe ?_)
   |false=>
    have e:ka p=(none,{p with lines:=[],fields:=p.fields++[(zu p.lines).1]}):=by unfold ka;rw[if_neg h0,if_neg (by simp[hu]),if_neg (by simp[hf])]
    rw[e];apply qd [51];repeat' (first|apply Qd|(intro h;try exact cDd)|exact⟨Tryz.call201⟩|refine cpe bf ?_|(exact absurd (by assumption:p.full=true) (by rw[hf];decide))|exact cSd|apply qb [51]|refine exr ?_|refine qe ?_)
    all_goals first|(simp[SV.evs,SV.ev];done)|(simp[SV.evs];omega)
  .have bf:=λst=>zef p.lines none st hls hu
   have e:ka p=(some (p.frm,(zu p.lines).2),p):=by unfold ka;rw[if_neg h0,if_pos hu]
   rw[e];have hft:=λst=>qpm p.frm (zu p.lines).2 st;apply qd [];repeat' (first|apply Qd|(intro h;try exact cDd)|exact⟨Tryz.call201⟩|refine cpe bf ?_|exact⟨Tryz.call158⟩|refine cpe hft ?_|exact cSd|apply qb []|refine exr ?_|refine qe ?_)
theorem zbh(n:Nat)(p:PSt)(hB:PB n p)(hs:n+1<900000):vb E 110 [.bx 0 0] 5 (hpF (parH 1 p)) ⟨.a (errP (endP p).1),kr (parH 1 p),parH 5 (endP p).2++vw (parH 1 p),9⟩:=by
 refine xl [.bx 0 0] (parH 1 p) 5 (.a (errP (endP p).1)) (parH 5 (endP p).2) 9 Tryz.func110 rfl rfl rfl rfl λS F ρ=>?_;have cr:=qu2 n p hB;have ml:=qjr hB hs
 have pf:∀e,(ka p).1=some e->(ka p).2=p:=λe=>by
  unfold ka;split
  .simp
  .split
   .simp
   .split
    .simp
    .simp
 unfold endP;generalize ka p=fq at cr ml pf;obtain⟨fe,q⟩:=fq
 cases fe with
 |some e=>
  obtain rfl:=pf e rfl;obtain⟨a,k⟩:=e;apply qd []
  repeat' (first|apply Qd|(intro h;try exact cDd)|exact⟨Tryz.call160⟩|(refine jn cr ?_)|exact cSd|apply qb []|refine exr ?_|refine qe ?_)
 |none=>
  dsimp only at ml cr;have h3:=ml.fields;have h4:=ml.rec0;have h5:=ml.rec1;have h1:=ml.block;have h2:=ml.items;by_cases hb:q.block=[]
  .have e:y4 q={q with block:=[],fields:=[]}:=by unfold y4;rw[if_pos hb]
   simp only[e];have hl0:(q.block.map λx=>Sv x).length=0:=by simp[hb]
   apply qd [];repeat' (first|apply Qd|(intro h;try exact cDd)|exact⟨Tryz.call160⟩|(refine jn cr ?_)|exact cSd|apply qb []|refine exr ?_|refine qe ?_)
  .have hl0:(q.block.map λx=>Sv x).length≠0:=by simp[hb]
   have cz:=qp2 q.block ml.blockV
   obtain⟨b,r,r7⟩:∃b r,q.block=b::r:=by
    cases hq:q.block with
    |nil=>exact absurd hq hb
    |cons b r=>exact⟨b,r,rfl⟩
   have hjt:=qrg b r;rw[<-r7]at hjt;have hjl:=congrArg Zv hjt;simp only[Qc,Qr,Qs]at hjl;have hjo:=λst=>zm0 q.block none st hb Om ml.blockV;by_cases hf:q.fields=[]
   .have e:y4 q={q with items:=q.items++[⟨2,zj q.block,q.fields⟩],records:=q.records,block:=[],fields:=[]}:=by unfold y4;rw[if_neg hb,if_pos hf,if_pos hf]
    simp only[e];have br:(q.fields.map fldA).length=0:=by simp[hf]
    apply qd [];repeat' (first|apply Qd|(intro h;try exact cDd)|exact⟨Tryz.call160⟩|(refine jn cr ?_)|exact⟨Tryz.call118⟩|refine cpe hjo ?_|exact cSd|apply qb []|refine exr ?_|refine qe ?_)
    all_goals first|(simp[SV.evs,SV.ev,hjt];done)|(simp[SV.evs];omega)
   .have e:y4 q={q with items:=q.items++[⟨3,zj q.block,q.fields⟩],records:=q.records+1,block:=[],fields:=[]}:=by unfold y4;rw[if_neg hb,if_neg hf,if_neg hf]
    simp only[e];have br:(q.fields.map fldA).length≠0:=by simp[hf]
    apply qd [];repeat' (first|apply Qd|(intro h;try exact cDd)|exact⟨Tryz.call160⟩|(refine jn cr ?_)|exact⟨Tryz.call118⟩|refine cpe hjo ?_|exact cSd|apply qb []|refine exr ?_|refine qe ?_)
    all_goals first|(simp[SV.evs,SV.ev,hjt];done)|(simp[SV.evs];omega)
end Go.Proofs.YtlekheifonaipaaGreatDoor
