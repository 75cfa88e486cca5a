/- Contracts and plain facts that the closing text leans on (part 6). No condition of their own beyond those that each states. -/
import Derived.Test.YtihlchbgjdkmpaaGreatDoorK5
import Derived.Laws.StructEq
import Derived.MapKept
set_option maxRecDepth 100000
set_option linter.unusedVariables false
set_option linter.unusedSimpArgs false
open And renaming intro→Qk
open Bool renaming and_eq_true→Qb,or_eq_true→Zh,or_false→Zy,false_or→Xm,or_true→Xo,true_or→Xp
open Exists renaming intro→Qm
open List renaming all_eq_true→Qe,getElem?_set_ne→Qf,length_append→Qh,getElem?_eq_getElem→Qi,getElem?_map→Ql,getElem?_eq_some_iff→Qp,mem_of_getElem?→Qq,length_set→Qr,set_eq_of_length_le→Qs,take_append_getElem→Qt,getElem?_cons_zero→Qu,length_cons→Qv,getElem?_append_left→Qx,length_nil→Qy,map_cons→Qz,any_eq_true→Zb,take_of_length_le→Zc,getD→Zi,append_assoc→Zk,take_succ_eq_append_getElem→Zl,length_take→Zn,take_append_drop→Zo,append_nil→Zp,take_append_of_le_length→Zq,nodup_nil→Zr,any_cons→Zs,mem_or_eq_of_mem_set→Zt,take_length→Zu,take_left→Zv,mem_of_mem_take→Zw,mem_cons→Zx,length_pos_iff→Zz,mem_map→Xa,getElem?_drop→Xb,any_nil→Xc,ext_getElem?→Xe,cons_append→Xg,length_map→Xh,map_append→Xi,nil_append→Xj,drop_zero→Xl,map_nil→Xr,length→Xs
open Nat renaming eq_of_beq_eq_true→Qc,blt→Qd,le_of_ble_eq_true→Qg,zero_add→Qj,le_refl→Qn,ble→Qo,beq→Qw,add_zero→Zd,le_trans→Ze,ble_eq_true_of_le→Zf,mul_le_mul_right→Zg,lt_trichotomy→Xd,zero_le→Xf,testBit_or→Xk,succ_mul→Xq
open Option renaming getD_some→Zm
open Option.some renaming injEq→Qa,inj→Xu
open Prod renaming snd→Zj,fst→Xt
open Prod.mk renaming injEq→Za
namespace Go.Av
open Go Go.RowKit
def cf{α:Type}(L:Nat->Bool):Nat->List (List (Nat×α))->List (Nat×α)->List (Nat×α)
 |_,[],base=>base
 |i,c::r,base=>cf L (i+1) r (bif L i then c++base else base)
def yj{α:Type}(L:Nat->Bool)(k:Nat):Nat->List (List (Nat×α))->Option α
 |_,[]=>none
 |i,c::r=>match yj L k (i+1) r with
  |some v=>some v
  |none=>bif L i then lkS c k else none
theorem qfd{α:Type}(L:Nat->Bool)(k:Nat):∀(i:Nat)(chs:List (List (Nat×α)))(base:List (Nat×α)),lkS (cf L i chs base) k=match yj L k i chs with|some v=>some v|none=>lkS base k
 |_,[],_=>rfl
 |i,c::r,base=>by
  simp only[cf,yj];rw[qfd L k (i+1) r]
  cases yj L k (i+1) r with
  |some v=>rfl
  |none=>
   cases L i with
   |true=>simp only[cond_true];rw[qew];cases lkS c k<;>rfl
   |false=>rfl
theorem qef{α:Type}{L L':Nat->Bool}{k:Nat}:∀{i:Nat}{chs:List (List (Nat×α))},(∀j c,chs[j]?=some c->lkS c k≠none->L (i+j)=L' (i+j))->yj L k i chs=yj L' k i chs
 |_,[],_=>rfl
 |i,c::r,h=>by
  simp only[yj]
  rw[qef (L:=L) (L':=L') (i:=i+1) (chs:=r) λj c hc hl=>by
   have:=h (j+1) c (by simpa using hc) hl;rw[show i+1+j=i+(j+1)by omega]
   exact this]
  cases yj L' k (i+1) r with
  |some v=>rfl
  |none=>
   simp only
   cases hl:lkS c k with
   |none=>cases L i<;>cases L' i<;>rfl
   |some v=>
    have:=h 0 c rfl (by rw[hl];simp);rw[Zd]at this;rw[this]
theorem qke{α:Type}{L:Nat->Bool}{k:Nat}{v:α}:∀{i:Nat}{chs:List (List (Nat×α))},yj L k i chs=some v->∃j c,chs[j]?=some c∧L (i+j)=true∧lkS c k=some v
 |_,[],h=>by simp[yj]at h
 |i,c::r,h=>by
  simp only[yj]at h
  cases hr:yj L k (i+1) r with
  |some w=>
   rw[hr]at h;simp only[Qa]at h;subst h;obtain⟨j,c',h1,h2,h3⟩:=qke hr
   exact⟨j+1,c',by simpa using h1,by rw[show i+(j+1)=i+1+j by omega];exact h2,h3⟩
  |none=>
   rw[hr]at h;simp only at h
   cases hL:L i with
   |true=>rw[hL]at h;exact⟨0,c,rfl,hL,h⟩
   |false=>rw[hL]at h;simp at h
theorem qq2{α:Type}{L:Nat->Bool}{k:Nat}:∀{i j0:Nat}{chs:List (List (Nat×α))}{c0:List (Nat×α)},chs[j0]?=some c0->(∀j c,j0<j->chs[j]?=some c->L (i+j)=true->lkS c0 k≠none->lkS c k=none)->
  yj (addL L (i+j0)) k i chs=match lkS c0 k with|some v=>some v|none=>bif L (i+j0)then yj (addL L (i+j0)) k i chs else yj L k i chs
 |_,_,[],_,h,_=>by simp at h
 |i,0,c::r,c0,h,hd=>by
  simp only[Qu,Qa]at h;subst h
  have hr:yj (addL L (i+0)) k (i+1) r=yj L k (i+1) r:=qef λj c _ _=>by
   unfold addL;rw[ju Om,Xm]
  have ha:addL L (i+0) i=true:=by simp[addL]
  cases hl:lkS c k with
  |some v=>
   have hn:yj L k (i+1) r=none:=by
    cases hq:yj L k (i+1) r with
    |none=>rfl
    |some w=>
     obtain⟨j,c',h1,h2,h3⟩:=qke hq;have:=hd (j+1) c' Om (by simpa using h1) (by rw[show i+(j+1)=i+1+j by omega];exact h2) (by rw[hl];simp);rw[this]at h3;simp at h3
   simp only[yj,hr,hn,ha,cond_true,hl]
  |none=>
   cases hLi:L (i+0)with
   |true=>rfl
   |false=>
    simp only[cond_false,yj,hr,ha,cond_true,hl];rw[Zd]at hLi;rw[hLi]
    cases yj L k (i+1) r<;>rfl
 |i,j0+1,c::r,c0,h,hd=>by
  have ih:=qq2 (L:=L) (k:=k) (i:=i+1) (j0:=j0) (chs:=r) (c0:=c0) (by simpa using h) λj c hj hc hL hl=>hd (j+1) c Om (by simpa using hc) (by rw[show i+(j+1)=i+1+j by omega];exact hL) hl;rw[show i+1+j0=i+(j0+1)by omega]at ih
  have hi:addL L (i+(j0+1)) i=L i:=by
   unfold addL;rw[ju Om,Xm]
  cases hl:lkS c0 k with
  |some v=>rw[hl]at ih;simp only[yj,ih]
  |none=>
   rw[hl]at ih;simp only at ih
   cases hLi:L (i+(j0+1))with
   |true=>rfl
   |false=>
    rw[hLi]at ih;simp only[cond_false]at ih⊢;simp only[yj,ih,hi]
theorem qnj{α:Type}:∀{L:Nat->Bool}{i:Nat}{chs:List (List (Nat×α))}{base:List (Nat×α)},(∀j,j<chs.length->L (i+j)=false)->cf L i chs base=base
 |_,_,[],_,_=>rfl
 |L,i,c::r,base,h=>by
  have h0:=h 0 Sx;rw[Zd]at h0;simp only[cf,h0,cond_false]
  exact qnj λj hj=>by
   have:=h (j+1) (by simpa using hj);rw[show i+1+j=i+(j+1)by omega];exact this
structure Tr where
 rd:List Nat
 dst:Option Nat
 e:Ef
 nx:Nat
def Tr.sch(t:Tr):List (Nat×SV):=match t.dst with
 |some d=>[(d,t.e.val)]
 |none=>[]
def runT:List Tr->Conf->Conf
 | [],C=>C
 |t::r,C=>runT r (C.app t.dst t.e)
theorem zni(C:Conf)(t:Tr):(C.app t.dst t.e).sl=t.sch++C.sl:=by
 unfold Conf.app Tr.sch
 cases t.dst<;>rfl
theorem qnk:∀(tr:List Tr)(i0 n:Nat)(C:Conf),cf (λj=>Qd j (i0+n)) i0 (tr.map Tr.sch) C.sl=(runT (tr.take n) C).sl∧cf (λj=>Qd j (i0+n)) i0 (tr.map λt=>t.e.ch) C.hp=(runT (tr.take n) C).hp
 | [],_,n,C=>by simp[cf,runT]
 |t::r,i0,0,C=>by
  have hf:∀{m:Nat}(j:Nat),j<m->Qd (i0+j) (i0+0)=false:=λj _=>by
   cases hb:Qd (i0+j) (i0+0)with
   |false=>rfl
   |true=>have:=vp hb;omega
  exact⟨qnj λj hj=>hf j hj,qnj λj hj=>hf j hj⟩
 |t::r,i0,n+1,C=>by
  have hb:Qd i0 (i0+(n+1))=true:=qcl Om;have ih:=qnk r (i0+1) n (C.app t.dst t.e);rw[show i0+1+n=i0+(n+1)by omega]at ih;simp only[Qz,cf,hb,cond_true,List.take_succ_cons,runT];rw[<-zni];exact ih
def kr(ch:List (Nat×Option SR)):List Nat:=ch.map Xt
def qb9(a b:List Nat):Bool:=a.all λx=> !memN b x
def dstL:Option Nat->List Nat
 |some d=>[d]
 |none=>[]
def indT(a b:Tr):Bool:=
 qb9 (dstL a.dst) b.rd&&qb9 (dstL a.dst) (dstL b.dst)&&qb9 (dstL b.dst) a.rd&&
 qb9 (kr a.e.ch) b.e.ks&&qb9 (kr a.e.ch) (kr b.e.ch)&&qb9 (kr b.e.ch) a.e.ks&&
 b.e.val.all (λk=>Qd k a.nx||Qo a.e.nx k)&&b.e.ch.all (λq=>(Qd q.1 a.nx||Qo a.e.nx q.1)&&match q.2 with
  |some r=>r.all λk=>Qd k a.nx||Qo a.e.nx k
  |none=>true)
def qkh(o:Oper)(acc:List Nat):Nat:=(qek o).foldl (λm d=>(m|||2^d)|||acc.getD d 0) 0
def ancs:List Oper->List Nat->List Nat
 | [],acc=>acc
 |o::r,acc=>ancs r (acc++[qkh o acc])
inductive AncR (l:List Oper):Nat->Nat->Prop
 |dep {i j:Nat} {o:Oper} (ho:l[j]?=some o) (hi:i∈qek o):AncR l i j
 |step {i d j:Nat} {o:Oper} (ho:l[j]?=some o) (hd:d∈qek o) (h:AncR l i d):AncR l i j
theorem zfh{l:List Oper}{acc:List Nat}(dq:∀j i,(acc.getD j 0).testBit i=true->AncR l i j){o:Oper}{j:Nat}(ho:l[j]?=some o){i:Nat}(h:(qkh o acc).testBit i=true):AncR l i j:=by
 unfold qkh at h
 have key:∀(ds:List Nat)(m:Nat),(∀d∈ds,d∈qek o)->(m.testBit i=true->AncR l i j)->(ds.foldl (λm d=>(m|||2^d)|||acc.getD d 0) m).testBit i=true->AncR l i j:=by
  intro ds
  induction ds with
  |nil=>exactλm _ hm h=>hm h
  |cons d r ih=>
   intro m hd hm h;refine ih ((m|||2^d)|||acc.getD d 0) (λd' dt=>hd d' (by simp[dt])) (λhb=>?_) h;rw[Xk,Xk,Zh,Zh,Nat.testBit_two_pow]at hb;rcases hb with(hb|hb)|hb
   .exact hm hb
   .have:d=i:=by simpa using hb
    subst this;exact .dep ho (hd d Sx)
   .exact .step ho (hd d Sx) (dq d i hb)
 exact key (qek o) 0 (λd hd=>hd) (λh=>by simp at h) h
theorem q3c{l:List Oper}:∀(r:List Oper)(acc:List Nat),(∀k o,r[k]?=some o->l[acc.length+k]?=some o)->(∀j i,(acc.getD j 0).testBit i=true->AncR l i j)->∀j i,((ancs r acc).getD j 0).testBit i=true->AncR l i j
 | [],acc,_,h=>h
 |o::r,acc,hr,h=>by
  refine q3c r (acc++[qkh o acc]) (λk o' hk=>?_) (λj i hb=>?_)
  .have:=hr (k+1) o' (by simpa using hk)
   rw[Qh];simp only[Qv,Qy];rw[show acc.length+(0+1)+k=acc.length+(k+1)by omega];exact this
  .by_cases hj:j<acc.length
   .have e:(acc++[qkh o acc]).getD j 0=acc.getD j 0:=by simp[Zi,Qx hj]
    rw[e]at hb;exact h j i hb
   .by_cases hj':j=acc.length
    .subst hj'
     have e:(acc++[qkh o acc]).getD acc.length 0=qkh o acc:=by simp[Zi]
     rw[e]at hb;exact zfh h (by have:=hr 0 o rfl;simpa using this) hb
    .have e:(acc++[qkh o acc]).getD j 0=0:=by simp[Zi,List.getElem?_eq_none (show(acc++[qkh o acc]).length<=j by simp;omega)]
     rw[e]at hb;simp at hb
def chkR:Nat->Tr->Nat->List Tr->List Nat->Bool
 |_,_,_,[],_=>true
 |i,a,j,b::r,m=>((m.getD j 0).testBit i||indT a b)&&chkR i a (j+1) r m
def chkT:Nat->List Tr->List Nat->Bool
 |_,[],_=>true
 |i,a::r,m=>chkR i a (i+1) r m&&chkT (i+1) r m
theorem q3z:∀{i:Nat}{a:Tr}{j0:Nat}{l:List Tr}{m:List Nat},chkR i a j0 l m=true->∀j b,l[j]?=some b->(m.getD (j0+j) 0).testBit i=true∨indT a b=true
 |_,_,_,[],_,_,j,b,h=>by simp at h
 |i,a,j0,b::r,m,h,j,b',hb=>by
  simp only[chkR,Qb,Zh]at h
  cases j with
  |zero=>
   simp only[Qu,Qa]at hb;subst hb
   exact h.1
  |succ j=>
   have:=q3z h.2 j b' (by simpa using hb);rw[show j0+(j+1)=j0+1+j by omega];exact this
theorem q30:∀{i0:Nat}{l:List Tr}{m:List Nat},chkT i0 l m=true->∀i j a b,i<j->l[i]?=some a->l[j]?=some b->(m.getD (i0+j) 0).testBit (i0+i)=true∨indT a b=true
 |_,[],_,_,_,_,_,_,_,h,_=>by simp at h
 |i0,a::r,m,h,i,j,a',b',hij,ha,hb=>by
  simp only[chkT,Qb]at h
  cases i with
  |zero=>
   simp only[Qu,Qa]at ha;subst ha;obtain⟨j,rfl⟩:∃j',j=j'+1:=⟨j-1,Om⟩;have:=q3z h.1 j b' (by simpa using hb);rw[show i0+(j+1)=i0+1+j by omega,Zd]
   exact this
  |succ i=>
   obtain⟨j,rfl⟩:∃j',j=j'+1:=⟨j-1,Om⟩;have:=q30 h.2 i j a' b' Om (by simpa using ha) (by simpa using hb);rw[show i0+(j+1)=i0+1+j by omega,show i0+(i+1)=i0+1+i by omega];exact this
theorem qgp{a b:List Nat}(h:qb9 a b=true){x:Nat}(hx:memN a x=true):memN b x=false:=by
 unfold memN at hx;obtain⟨y,hy,e⟩:=Zb.1 hx;have:=Qc e;subst this
 simpa using Qe.1 h _ hy
theorem qq9{ch:List (Nat×Option SR)}{k:Nat}(h:lkS ch k≠none):memN (kr ch) k=true:=by
 cases hl:lkS ch k with
 |none=>exact absurd hl h
 |some v=>exact Zb.2 ⟨k,Xa.2 ⟨_,vm hl,rfl⟩,Sx⟩
theorem quu{t:Tr}{d:Nat}(h:lkS t.sch d≠none):memN (dstL t.dst) d=true:=by
 unfold Tr.sch at h
 cases ht:t.dst with
 |none=>rw[ht]at h;simp[lkS]at h
 |some x=>
  rw[ht]at h;simp only[lkS]at h;by_cases e:x=d
  .subst e;simp[dstL,memN]
  .rw[ju e]at h;simp at h
def rs(rd:List Nat)(sl:List (Nat×SV)):List (Nat×SV):=rd.filterMap λd=>match lkS sl d with
 |some v=>some (d,v)
 |none=>none
theorem zoq{rd:List Nat}{sl:List (Nat×SV)}{d:Nat}{v:SV}(h:lkS (rs rd sl) d=some v):memN rd d=true∧lkS sl d=some v:=by
 have:=vm h;unfold rs at this;obtain⟨x,hx,he⟩:=List.mem_filterMap.1 this;split at he
 .rename_i w hw
  simp only[Qa,Za]at he;obtain⟨rfl,rfl⟩:=he;exact⟨Zb.2 ⟨x,hx,Sx⟩,hw⟩
 .simp at he
theorem qoy{l:List Nat}{x:Nat}(h:memN l x=true):x∈l:=by
 obtain⟨y,hy,e⟩:=Zb.1 h;rw[Qc e];exact hy
theorem SatR.congr{S0:List AObj}{F:Nat->Prop}{C C':Conf}{ρ t:Nat->AV}{S:List AObj}(h:SatR S0 F C ρ t S)(h1:∀d,lkS C'.sl d=lkS C.sl d)(h2:hpF C'.hp=hpF C.hp)(h3:C.nx<=C'.nx):SatR S0 F C' ρ t S:=
 ⟨λd v hd=>h.sl d v (by rw[<-h1];exact hd),by rw[h2];exact h.hp,by rw[h2];exact h.own,h.low,h.len,λd v hd=>all_mono (λk hk=>qcl (by have:=vp hk;omega)) v (h.wsl d v (by rw[<-h1];exact hd)),λk r hk=>by
  rw[h2]at hk;obtain⟨g1,g2⟩:=h.whp k r hk
  exact⟨Om,SR.all_mono (λk hk=>qcl (by have:=vp hk;omega)) r g2⟩⟩
structure za8 (E:Env) (N:Nat) (l:List Oper) (C0:Conf) (tr:List Tr):Prop where
 len:tr.length=l.length
 loc:∀i o t,l[i]?=some o->tr[i]?=some t->Loc E N l.toArray o t.nx (rs t.rd (runT (tr.take i) C0).sl) (hpF (runT (tr.take i) C0).hp) t.e∧t.e.wf t.nx=true∧t.nx=(runT (tr.take i) C0).nx∧t.dst=o.dst
theorem qn0{E:Env}{N:Nat}{l:List Oper}{C0:Conf}{tr:List Tr}(h:za8 E N l C0 tr):∀{i j:Nat},i<=j->j<=tr.length->(runT (tr.take i) C0).nx<=(runT (tr.take j) C0).nx:=by
 have step:∀(r:List Tr)(C:Conf)(t:Tr),(runT (r++[t]) C)=(runT r C).app t.dst t.e:=by
  intro r
  induction r with
  |nil=>exactλC t=>rfl
  |cons a r ih=>exactλC t=>ih _ t
 intro i j hij
 induction hij with
 |refl=>exactλ_=>Qn _
 |step hm ih=>
  rename_i m;intro hj;refine Ze (ih Om) ?_;have ht:tr[m]?=some (tr[m]'(by omega)):=Qi Om;have ho:l[m]?=some (l[m]'(by have:=h.len;omega)):=Qi _;obtain⟨_,h2,h3,_⟩:=h.loc m _ _ ho ht;rw[Zl Om,step];have:=(qij h2).1;rw[h3]at this;exact this
theorem zgl{tr:List Tr}{i:Nat}{t:Tr}(ht:tr[i]?=some t)(C0:Conf):runT (tr.take (i+1)) C0=(runT (tr.take i) C0).app t.dst t.e:=by
 have step:∀(r:List Tr)(C:Conf)(t:Tr),(runT (r++[t]) C)=(runT r C).app t.dst t.e:=by
  intro r
  induction r with
  |nil=>exactλC t=>rfl
  |cons a r ih=>exactλC t=>ih _ t
 obtain⟨hi,e⟩:=Qp.1 ht;rw[Zl hi,step,e]
def qr6(l:List Oper)(L:Nat->Bool):Prop:=∀j o,L j=true->l[j]?=some o->∀d∈qek o,L d=true
theorem qr6.anc{l:List Oper}{L:Nat->Bool}(h:qr6 l L){i j:Nat}(ha:AncR l i j):L j=true->L i=true:=by
 induction ha with
 |dep ho hi=>exactλhj=>h _ _ hj ho _ hi
 |step ho hd _ ih=>exactλhj=>ih (h _ _ hj ho _ hd)
theorem zd3{E:Env}{rd:Option Nat}{N:Nat}{id:Nat}{l:List Oper}{B:Bs}{C0:Conf}{tr:List Tr}{Q:Exit->AS->Prop}{s:AS}(hm:E.P.follows .mixedOrders=true)(dp:l.toArray.all qg0=true)(hd:qjg 0 l=true)
  (hw:za8 E N l C0 tr) (hc:chkT 0 tr (ancs l [])=true) (hs:SatC B C0 s) (hq:∀s',SatC B (runT tr C0) s'->Q .normal s'):AWp E rd N (.region id l.toArray true) Q s:=by
 have d5:=hw.len
 let NX:=(runT tr C0).nx
 let SC:=tr.map Tr.sch
 let HC:=tr.map λt:Tr=>t.e.ch
 have hSC:∀{j:Nat}{c:List (Nat×SV)},SC[j]?=some c->∃t,tr[j]?=some t∧c=t.sch:=λ{j c}h=>by
  simp only[SC,Ql]at h
  cases ht:tr[j]?with
  |none=>rw[ht]at h;simp at h
  |some t=>rw[ht]at h;simp at h;exact⟨t,rfl,h.symm⟩
 have hHC:∀{j:Nat}{c:List (Nat×Option SR)},HC[j]?=some c->∃t,tr[j]?=some t∧c=t.e.ch:=λ{j c}h=>by
  simp only[HC,Ql]at h
  cases ht:tr[j]?with
  |none=>rw[ht]at h;simp at h
  |some t=>rw[ht]at h;simp at h;exact⟨t,rfl,h.symm⟩
 have hop:∀{j:Nat}{t:Tr},tr[j]?=some t->∃o,l[j]?=some o:=λ{j t}h=>⟨_,Qi (by have:=lt_of_getElem? h;omega)⟩;have i6:tr.take tr.length=tr:=Zu
 have bv:∀{j:Nat}{t:Tr},tr[j]?=some t->t.nx=(runT (tr.take j) C0).nx∧t.e.nx=(runT (tr.take (j+1)) C0).nx:=λ{j t}h=>by
  obtain⟨o,ho⟩:=hop h;refine⟨(hw.loc j o t ho h).2.2.1,?_⟩;rw[zgl h];rfl
 have cd:∀{i j:Nat}{a b:Tr},i<j->tr[i]?=some a->tr[j]?=some b->a.e.nx<=b.nx:=λ{i j a b}hij ha hb=>by
  rw[(bv ha).2,(bv hb).1];exact qn0 hw Om (by have:=lt_of_getElem? hb;omega)
 have hNX:∀{j:Nat}{t:Tr},tr[j]?=some t->t.e.nx<=NX:=λ{j t}h=>by
  rw[(bv h).2];have:=qn0 hw (i:=j+1) (j:=tr.length) (by have:=lt_of_getElem? h;omega) (Qn _);rw[i6]at this;exact this
 have h0nx:∀{j:Nat}{t:Tr},tr[j]?=some t->C0.nx<=t.nx:=λ{j t}h=>by
  rw[(bv h).1];exact qn0 hw (i:=0) (Xf j) (by have:=lt_of_getElem? h;omega)
 have hanc:∀j i,((ancs l []).getD j 0).testBit i=true->AncR l i j:=q3c l [] (λk o hk=>by simpa using hk) (λj i h=>by simp[Zi]at h)
 have pair:∀{i j:Nat}{a b:Tr},i<j->tr[i]?=some a->tr[j]?=some b->AncR l i j∨indT a b=true:=λ{i j a b}hij ha hb=>by
  have:=q30 hc i j a b hij ha hb;rw[Qj,Qj]at this;exact this.imp_left λh=>hanc j i h
 have hb0:B.n0<=C0.nx:=by obtain⟨_,h,_⟩:=hs;exact h.le
 refine zd2 hm dp hd (λL s=>qr6 l L∧SatC B ⟨cf L 0 SC C0.sl,cf L 0 HC C0.hp,NX⟩ s) ⟨λj o h=>by simp at h,?_⟩ ?_ ?_
 .obtain⟨ρ,m9,hR⟩:=hs
  have hC0:C0.nx<=NX:=by
   have:=qn0 hw (i:=0) (j:=tr.length) (Xf _) (Qn _);rw[i6]at this;exact this
  refine⟨ρ,m9.nx (Ze m9.le hC0),hR.congr (λd=>?_) ?_ ?_⟩
  .rw[qnj λ_ _=>rfl]
  .show hpF (cf (λ_=>false) 0 HC C0.hp)=hpF C0.hp
   rw[qnj λ_ _=>rfl]
  .have:=qn0 hw (i:=0) (j:=tr.length) (Xf _) (Qn _)
   rw[i6]at this;exact this
 .rintro L s' bm ⟨_,ρ,m9,hR⟩
  refine hq s' ⟨ρ,m9.nx m9.le,hR.congr (λd=>?_) ?_ (Qn _)⟩
  .have h1:=(qnk tr 0 tr.length C0).1
   rw[i6]at h1;rw[<-h1];simp only[qfd]
   rw[qef (L:=λj=>Qd j (0+tr.length)) (L':=L) λj c hc _=>by
    obtain⟨t,ht,_⟩:=hSC hc;have hj:=lt_of_getElem? ht;rw[bm (0+j) Om]
    exact qcl Om]
  .have h1:=(qnk tr 0 tr.length C0).2
   rw[i6]at h1;rw[<-h1];funext k;unfold hpF;simp only[qfd]
   rw[qef (L:=λj=>Qd j (0+tr.length)) (L':=L) λj c hc _=>by
    obtain⟨t,ht,_⟩:=hHC hc;have hj:=lt_of_getElem? ht;rw[bm (0+j) Om]
    exact qcl Om]
 ·-- the steps
  suffices H:∀(i:Nat)(o:Oper),l[i]?=some o->∀L s,L i=false->(∀j,(qek o).contains j=true->L j=true)->(qr6 l L∧SatC B ⟨cf L 0 SC C0.sl,cf L 0 HC C0.hp,NX⟩ s)->
    AOps E none N l.toArray [o] (λs=>qr6 l (addL L i)∧SatC B ⟨cf (addL L i) 0 SC C0.sl,cf (addL L i) 0 HC C0.hp,NX⟩ s) s by
   have gen:∀(r:List Oper)(i0:Nat),(∀k o,r[k]?=some o->l[i0+k]?=some o)->qqa E N l.toArray (λL s=>qr6 l L∧SatC B ⟨cf L 0 SC C0.sl,cf L 0 HC C0.hp,NX⟩ s) i0 r:=by
    intro r
    induction r with
    |nil=>exactλ_ _=>trivial
    |cons o r ih=>
     intro i0 hr;exact⟨H i0 o (by have:=hr 0 o rfl;simpa using this),ih (i0+1) λk o' hk=>by rw[show i0+1+k=i0+(k+1)by omega];exact hr (k+1) o' (by simpa using hk)⟩
   exact gen l 0 λk o hk=>by simpa using hk
  rintro i o ho L ⟨t0,S,df⟩ hLi hdeps ⟨hdown,ρ,m9,hR⟩;simp only at m9 hR;have dg:=lt_of_getElem? ho;obtain⟨t,ht⟩:∃t,tr[i]?=some t:=⟨_,Qi Om⟩;obtain⟨hL,hwf,hnxi,hdst⟩:=hw.loc i o t ho ht;obtain⟨w1,w2,w3⟩:=qij hwf
  -- who has done what, told by the text
  have anc_in:∀{j:Nat},AncR l j i->L j=true:=λ{j}h=>by
   cases h with
   |dep e7 hi=>
    rw[ho]at e7;simp only[Qa]at e7;subst e7
    exact hdeps j (by simpa using hi)
   |step e7 dt h'=>
    rw[ho]at e7;simp only[Qa]at e7;subst e7;exact hdown.anc h' (hdeps _ (by simpa using dt))
  have not_after:∀{j:Nat},AncR l i j->L j=false:=λ{j}h=>by
   cases hj:L j with
   |false=>rfl
   |true=>rw[hdown.anc h hj]at hLi;simp at hLi
  have agree:∀{j:Nat}{b:Tr},tr[j]?=some b->(∀(dv:j<i),indT b t=true->False)->(∀(hij:i<j),indT t b=true->False)->L j=Qd j i:=λ{j b}hb h1 h2=>by
   rcases Xd j i with dv|dv|dv
   .rw[qcl dv]
    rcases pair dv hb ht with h|h
    .exact anc_in h
    .exact(h1 dv h).elim
   .subst dv
    rw[hLi]
    cases hbb:Qd j j with
    |false=>rfl
    |true=>have:=vp hbb;omega
   .have:Qd j i=false:=by
     cases hbb:Qd j i with
     |false=>rfl
     |true=>have:=vp hbb;omega
    rw[this];rcases pair dv ht hb with h|h
    .exact not_after h
    .exact(h2 dv h).elim
  have hslA:∀d,memN t.rd d=true->lkS (cf L 0 SC C0.sl) d=lkS (runT (tr.take i) C0).sl d:=λd hd=>by
   have h1:=(qnk tr 0 i C0).1;rw[<-h1];simp only[qfd]
   rw[qef (L:=L) (L':=λj=>Qd j (0+i)) λj c hc hl=>by
    obtain⟨b,hb,rfl⟩:=hSC hc;have hdm:=quu hl;rw[Qj,Qj];refine agree hb (λdv h=>?_) (λhij h=>?_)
    .simp only[indT,Qb]at h
     have:=qgp h.1.1.1.1.1.1.1 hdm;rw[hd]at this;simp at this
    .simp only[indT,Qb]at h
     have:=qgp h.1.1.1.1.1.2 hdm;rw[hd]at this
     simp at this]
  have sr:resF t.e.ks (hpF (runT (tr.take i) C0).hp)=resF t.e.ks (hpF (cf L 0 HC C0.hp)):=by
   funext k;unfold resF
   cases hk:memN t.e.ks k with
   |false=>rfl
   |true=>
    simp only[cond_true];have h1:=(qnk tr 0 i C0).2;rw[<-h1];unfold hpF;simp only[qfd]
    rw[qef (L:=λj=>Qd j (0+i)) (L':=L) λj c hc hl=>by
     obtain⟨b,hb,rfl⟩:=hHC hc;have hdm:=qq9 hl;rw[Qj,Qj];refine(agree hb (λdv h=>?_) (λhij h=>?_)).symm
     .simp only[indT,Qb]at h
      have:=qgp h.1.1.1.1.2 hdm;rw[hk]at this;simp at this
     .simp only[indT,Qb]at h
      have:=qgp h.1.1.2 hdm;rw[hk]at this
      simp at this]
  refine hL _ none _ [] ρ t0 S (λd v dt=>?_) (by rw[sr];exact hR.hp.res _) λρ' S' hp=>qj ⟨λj o' hj e7 d dt=>?_,ρ',?_,?_⟩
  .obtain⟨g1,g2⟩:=zoq dt
   exact hR.sl d v (by rw[hslA d g1];exact g2)
  .unfold addL at hj⊢
   rcases Bool.or_eq_true_iff.1 hj with hj|hj
   .have:=Qc hj
    subst this;rw[ho]at e7;simp only[Qa]at e7;subst e7;rw[hdeps d (by simpa using dt),Xo]
   .rw[hdown j o' hj e7 d dt,Xo]
  .have hp2:qj2 ρ S t.nx (hpF (cf L 0 HC C0.hp)) t.e ρ' S':=⟨hp.old,by rw[<-sr];exact hp.sat,hp.len,by rw[<-sr];exact hp.fr,by rw[<-sr];exact hp.loc⟩
   have:=m9.stepG (C':=⟨cf (addL L i) 0 SC C0.sl,cf (addL L i) 0 HC C0.hp,NX⟩) hR.hp hp2 (by have:=hb0;have:=h0nx ht;omega) m9.le
   cases o.dst<;>exact this
  .have hp2:qj2 ρ S t.nx (hpF (cf L 0 HC C0.hp)) t.e ρ' S':=⟨hp.old,by rw[<-sr];exact hp.sat,hp.len,by rw[<-sr];exact hp.fr,by rw[<-sr];exact hp.loc⟩
   have old_lt:∀k,Qd k C0.nx=true->(Qd k t.nx||Qo t.e.nx k)=true:=λk hk=>by
    have:=h0nx ht;rw[qcl (by have:=vp hk;omega),Xp]
   have ear_lt:∀{j:Nat}{b:Tr},j<i->tr[j]?=some b->∀k,Qd k b.e.nx=true->(Qd k t.nx||Qo t.e.nx k)=true:=λ{j b}dv hb k hk=>by
    have:=cd dv hb ht;rw[qcl (by have:=vp hk;omega),Xp]
   have lat:∀{j:Nat}{b:Tr},tr[j]?=some b->L j=true->¬j<i->indT t b=true∧i<j:=λ{j b}hb rz dv=>by
    have hij:i<j:=by
     rcases Xd i j with h|h|h
     .exact h
     .subst h;rw[hLi]at rz;simp at rz
     .omega
    rcases pair hij ht hb with h|h
    .rw[not_after h]at rz;simp at rz
    .exact⟨h,hij⟩
   have e8:=hR.stepG (d:=o.dst) (nx:=t.nx) (NX:=NX) (Qn _) (all_mono (λk hk=>qcl (by have:=vp hk;have:=hNX ht;omega)) _ w2) (λq hq'=>⟨by have:=(w3 q hq').1;have:=hNX ht;omega,λr hr=>SR.all_mono (λk hk=>qcl (by have:=vp hk;have:=hNX ht;omega)) r ((w3 q hq').2.2 r hr)⟩) (λd v dt=>?_) (λk r hk=>?_) hp2
   .refine SatR.congr (S0:=B.S0) (F:=B.F) (C:=⟨match o.dst with|some d=>(d,t.e.val)::cf L 0 SC C0.sl|none=>cf L 0 SC C0.sl,t.e.ch++cf L 0 HC C0.hp,NX⟩) ?_ (λd=>?_) ?_ (Qn _)
    .cases hod:o.dst with
     |none=>rw[hod]at e8;exact e8
     |some x=>rw[hod]at e8;exact e8
    .have hSi:SC[i]?=some t.sch:=by simp only[SC,Ql,ht];rfl
     have t8:=qq2 (L:=L) (k:=d) (i:=0) (j0:=i) hSi λj c hij hc rz hl=>by
      obtain⟨b,hb,rfl⟩:=hSC hc;rw[Qj]at rz;have h:=(lat hb rz Om).1;simp only[indT,Qb]at h;have h2:=qgp h.1.1.1.1.1.1.2 (quu hl)
      cases hq':lkS b.sch d with
      |none=>rfl
      |some w=>
       have:=quu (t:=b) (d:=d) (by rw[hq'];simp);rw[h2]at this;simp at this
     rw[Qj,hLi]at t8;simp only[cond_false]at t8
     have e:lkS (match o.dst with|some d=>(d,t.e.val)::cf L 0 SC C0.sl|none=>cf L 0 SC C0.sl) d=lkS (t.sch++cf L 0 SC C0.sl) d:=by
      unfold Tr.sch;rw[hdst]
      cases o.dst<;>rfl
     rw[e,qew];simp only[qfd];rw[t8]
     cases lkS t.sch d<;>rfl
    .rw[q9y]
     funext k;have hHi:HC[i]?=some t.e.ch:=by simp only[HC,Ql,ht];rfl
     have t8:=qq2 (L:=L) (k:=k) (i:=0) (j0:=i) hHi λj c hij hc rz hl=>by
      obtain⟨b,hb,rfl⟩:=hHC hc;rw[Qj]at rz;have h:=(lat hb rz Om).1;simp only[indT,Qb]at h;have h2:=qgp h.1.1.1.2 (qq9 hl)
      cases hq':lkS b.e.ch k with
      |none=>rfl
      |some w=>
       have:=qq9 (ch:=b.e.ch) (k:=k) (by rw[hq'];simp);rw[h2]at this;simp at this
     rw[Qj,hLi]at t8;simp only[cond_false]at t8;unfold chF hpF;simp only[qfd];rw[t8]
     cases lkS t.e.ch k<;>rfl
   .simp only[qfd]at dt
    cases r7:yj L d 0 SC with
    |none=>
     rw[r7]at dt;simp only at dt;obtain⟨ρ0,_,hR0⟩:=hs
     exact all_mono old_lt v (hR0.wsl d v dt)
    |some u=>
     rw[r7]at dt;simp only[Qa]at dt;subst dt;obtain⟨j,c,sd,rz,hl⟩:=qke r7;obtain⟨b,hb,rfl⟩:=hSC sd;rw[Qj]at rz;obtain⟨ob,ft⟩:=hop hb
     have hu:u=b.e.val:=by
      unfold Tr.sch at hl
      cases hbd:b.dst with
      |none=>rw[hbd]at hl;simp[lkS]at hl
      |some x=>
       rw[hbd]at hl;simp only[lkS]at hl
       cases hbx:Qw x d with
       |true=>rw[hbx]at hl;simp only[cond_true,Qa]at hl;exact hl.symm
       |false=>rw[hbx]at hl;simp at hl
     subst hu;by_cases dv:j<i
     .exact all_mono (ear_lt dv hb) _ (qij (hw.loc j ob b ft hb).2.1).2.1
     .have h:=(lat hb rz dv).1
      simp only[indT,Qb]at h;exact h.1.2
   .have u6:=yg hk
    simp only[qfd]at u6
    cases r7:yj L k 0 HC with
    |none=>
     rw[r7]at u6;simp only at u6;obtain⟨ρ0,_,hR0⟩:=hs;obtain⟨g1,g2⟩:=hR0.whp k r (by unfold hpF;rw[u6])
     exact⟨.inl (by have:=h0nx ht;omega),SR.all_mono old_lt r g2⟩
    |some u=>
     rw[r7]at u6;simp only[Qa]at u6;subst u6;obtain⟨j,c,sd,rz,hl⟩:=qke r7;obtain⟨b,hb,rfl⟩:=hHC sd;rw[Qj]at rz;obtain⟨ob,ft⟩:=hop hb;obtain⟨g1,_,g3⟩:=(qij (hw.loc j ob b ft hb).2.1).2.2 _ (vm hl);by_cases dv:j<i
     .exact⟨.inl (by have:=cd dv hb ht;simp only at g1;omega),SR.all_mono (ear_lt dv hb) r (g3 r rfl)⟩
     .have h:=(lat hb rz dv).1
      simp only[indT,Qb]at h;have h2:=Qe.1 h.2 _ (vm hl);simp only[Qb,Zh]at h2;exact⟨h2.1.imp vp Qg,h2.2⟩
def opTm:Operand->Option Nat
 |.tmp i=>some i
 |_=>none
def rdOf(l:List Oper)(o:Oper):List Nat:=o.op.operands.toList.filterMap opTm++match o.guard with
 |some (j,_)=>dstL (q2s l j)
 |none=>[]
def wpDr(E:Env)(N:Nat)(l:List Oper)(bxs:List Nat):Nat->List Oper->List Tr->(List Tr->Conf->Prop)->Conf->Prop
 |_,[],tr,K,C=>K tr C
 |i,o::r,tr,K,⟨sl,hp,nx⟩=>opG E N l bxs nx (rs (rdOf l o) sl) (hpF hp) (gdW (isGd i l) (fcE λe=>q2u sl hp nx o.dst (wpDr E N l bxs (i+1) r (tr++[⟨rdOf l o,o.dst,e,nx⟩]) K) e)) o
theorem zkb(r:List Tr)(t:Tr):∀C,runT (r++[t]) C=(runT r C).app t.dst t.e:=by
 induction r with
 |nil=>exactλC=>rfl
 |cons a r ih=>exactλC=>ih _
theorem za4{E:Env}{N:Nat}{l:List Oper}{bxs:List Nat}{C0:Conf}{K:List Tr->Conf->Prop}:∀{r:List Oper}{i:Nat}{tr:List Tr}{C:Conf},(∀k,r[k]?=l[i+k]?)->tr.length=i->i+r.length=l.length->C=runT tr C0->
  (∀j o t,l[j]?=some o->tr[j]?=some t->Loc E N l.toArray o t.nx (rs t.rd (runT (tr.take j) C0).sl) (hpF (runT (tr.take j) C0).hp) t.e∧t.e.wf t.nx=true∧t.nx=(runT (tr.take j) C0).nx∧t.dst=o.dst)->
  wpDr E N l bxs i r tr K C->∃tr',za8 E N l C0 tr'∧K tr' (runT tr' C0)
 | [],i,tr,C,hr,hl,hn,hC,hw,h=>⟨tr,⟨by simpa[hl]using hn,hw⟩,by rw[<-hC];exact h⟩
 |o::r,i,tr,⟨sl,hp,nx⟩,hr,hl,hn,hC,hw,h=>by
  obtain⟨e,hL,h⟩:=zfq h;obtain⟨e,hL,h⟩:=zey hL h;rw[zew]at h;obtain⟨hwf,h⟩:=q5j h
  .refine za4 (r:=r) (i:=i+1) (tr:=tr++[⟨rdOf l o,o.dst,e,nx⟩]) (λk=>?_) (by simp[hl]) (by simp at hn;omega) (by rw[zkb,<-hC]) (λj o' t ho ht=>?_) h
   .have:=hr (k+1)
    rw[show i+1+k=i+(k+1)by omega,<-this];rfl
   .by_cases hj:j<tr.length
    .rw[Qx hj]at ht
     rw[Zq Om];exact hw j o' t ho ht
    .have dv:j=tr.length:=by
      have:=lt_of_getElem? ht;simp at this;omega
     subst dv;simp only[List.getElem?_concat_length,Qa]at ht;subst ht;have mv:=hr 0;rw[<-hl,Zd,ho]at mv;simp only[Qu,Qa]at mv;subst mv;rw[Zv,<-hC];exact⟨hL,hwf,rfl,rfl⟩
def drB(E:Env)(l:List Oper)(tr:List Tr):Bool:=E.P.follows .mixedOrders&&l.toArray.all qg0&&qjg 0 l&&chkT 0 tr (ancs l [])
structure DrOk (E:Env) (l:List Oper) (tr:List Tr):Prop where
 ok:drB E l tr=true
theorem qd{E:Env}{rd:Option Nat}{N:Nat}{B:Bs}{Q:Exit->Conf->Prop}{C:Conf}{id:Nat}{ops:Array Oper}(bxs:List Nat)
  (h:wpDr E N ops.toList bxs 0 ops.toList [] (λtr C'=>DrOk E ops.toList tr∧Q .normal C') C):Sm E rd N B (.region id ops true) Q C:=⟨λs hs=>by
 obtain⟨tr,hw,hb,hq⟩:=za4 (C0:=C) (l:=ops.toList) (i:=0) (tr:=[]) (λk=>by rw[Qj]) rfl Sx rfl (λj o t _ ht=>by simp at ht) h;have hb:=hb.ok;simp only[drB,Qb]at hb;have e:ops=ops.toList.toArray:=Sx
 rw[e]
 exact zd3 hb.1.1.1 hb.1.1.2 hb.1.2 hw hb.2 hs λs' nc=>⟨_,hq,nc⟩⟩
theorem cSd{P:Prop}(h:P:=by first|exact rfl|exact trivial|exactλ_=>rfl|exact qsq _|exact DrOk.mk Kr|exact qdw λ_=>rfl|omega|(simp only[List.length_map,List.length_append,List.length_cons,List.length_nil,List.length_take,List.length_drop];omega)|exact zov):P:=h
theorem exr{α:Type}{A K:α->Prop}{a:α}(k:K a)(h:A a:=by exact rfl):∃x,A x∧K x:=⟨a,h,k⟩
theorem cpe{E:Env}{H:Nat->Option SR}{nx:Nat}{f:FuncId}{vs:List SV}{args:List AV}{r0:AV}{k:Ef->Prop}(hc:∀S,qr E f args S λr S'=>r=r0∧S'=S)(hk:k ⟨nf r0,SV.kss vs,[],nx⟩)(ha:q2p E.P f (frzs (resF (SV.kss vs) H) vs)=some args:=by exact rfl):∃e,va E f vs nx H e∧k e:=⟨_,zlq hc ha,hk⟩
end Go.Av
namespace Go.Proofs.YtihlchbgjdkmpaaGreatDoor
open Go Go.Av Go.RowKit Go.Proofs Go.Pl
def qbr(n0:Nat)(ks:List Nat)(sl:List (Nat×SV))(hp:List (Nat×Option SR))(nx:Nat):Bool:=
 sl.all (λq=>q.2.all λk=>Qd k n0)&&hp.all (λq=>match q.2 with
  |some (.cells _ _)=>memN ks q.1
  |some (.own _ _ _)=>false
  |some (.obj _)=>memN ks q.1
  |some (.rows _ _ _)=>false
  |_=>true)&&Qo n0 nx
def ksIn(n0:Nat)(ks:List Nat)(hp:List (Nat×Option SR)):Bool:=ks.all λk=>Qd k n0&&match lkS hp k with
 |some (some (.cells _ _))=>true
 |some (some (.obj _))=>true
 |_=>false
structure RB (E:Env) (N:Nat) (F:Nat->Prop) (ρ:Nat->AV) (n0:Nat) (body:Code) (Q:Exit->Conf->Prop) (C:Conf):Prop where
 run:∀S rd,Sm E rd N ⟨S,F,ρ,n0,False⟩ body Q C
structure RA (E:Env) (N:Nat) (n0:Nat) (asg:Code) (K:(Nat->Prop)->(Nat->AV)->Conf->Prop) (C:Conf):Prop where
 run:∀S F ρ rd,Sm E rd N ⟨S,F,ρ,n0,True⟩ asg (λe C1=>match e with
  |.normal=>∀F',K F' ρ C1
  |_=>False) C
def q2r(Q:Exit->Conf->Prop):Code->Conf->Prop
 |.ret=>Q .ret
 |.exit id=>Q (.exit id)
 |_=>λ_=>False
def qov(k:Nat)(text rest:List UInt8):SV:=.ag [.i k,.i ((text.length:Int)-rest.length),.s (upto 10 rest),.p (10∈rest) inferInstance]
theorem zi3(k:Nat)(text rest:List UInt8)(ρ:Nat->AV):(qov k text rest).ev ρ=qfc k text rest:=rfl
@[reducible] def rndQ {X : Type} (n0 : Nat) (P : X → Prop) (D : Code → X → Prop) (C : X → Conf) (e : Exit) (C2 : Conf) : Prop := match e with
 |.normal=>∃x,P x∧EntA n0 C2 (C x)
 |.ret=>∃x,D .ret x∧EntA n0 C2 (C x)
 |.exit id=>∃x,D (.exit id) x∧EntA n0 C2 (C x)
 |_=>False
section
variable {N : Nat} {B : Bs} {C : Conf} {Q : Exit → Conf → Prop} {rd : Option Nat}
structure RInv (B:Bs) (n0 n:Nat) (ks:List Nat) (ρ1 t:Nat->AV) (df:List Nat) (C:Conf) (S:List AObj):Prop where
 ex:∃ρ,(∀k,k<n0->ρ k=ρ1 k)∧SatR B.S0 B.F C ρ t S∧(∀d∈df,S[d]?=some .dfr)∧n<=S.length
theorem qud{n0 n:Nat}{ks:List Nat}{ρ1 ρ:Nat->AV}{hp:List (Nat×Option SR)}{sl:List (Nat×SV)}{nx k:Nat}{T:TypeId}{cs:List SV}(lg:∀k∈ks,k<n0∧∃o,zt (ρ1 k)=some o∧o<n)(hr:qbr n0 ks sl hp nx=true)(hρ:∀k,k<n0->ρ k=ρ1 k)(hk:hpF hp k=some (.cells T cs)):k<n0∧∃o,zt (ρ k)=some o∧o<n:=by
 have h1:=yg hk;simp only[qbr,Qb]at hr;have:=Qe.1 hr.1.2 _ (vm h1);simp only at this;obtain⟨g1,g2⟩:=lg k (qoy this);refine⟨g1,?_⟩;rw[hρ k g1];exact g2
theorem q54{n0:Nat}{ks:List Nat}{sl:List (Nat×SV)}{hp:List (Nat×Option SR)}{nx k sz:Nat}{T:TypeId}{xs:List AV}(hr:qbr n0 ks sl hp nx=true)(hk:hpF hp k=some (.own sz T xs)):False:=by
 have h1:=yg hk;simp only[qbr,Qb]at hr;have:=Qe.1 hr.1.2 _ (vm h1);simp at this
theorem q5u{n0 n:Nat}{ks:List Nat}{ρ1 ρ:Nat->AV}{hp:List (Nat×Option SR)}{sl:List (Nat×SV)}{nx k:Nat}{P:AObj->AV->Prop}(lg:∀k∈ks,k<n0∧∃o,zt (ρ1 k)=some o∧o<n)(hr:qbr n0 ks sl hp nx=true)(hρ:∀k,k<n0->ρ k=ρ1 k)(hk:hpF hp k=some (.obj P)):k<n0∧∃o,zt (ρ k)=some o∧o<n:=by
 have h1:=yg hk;simp only[qbr,Qb]at hr;have:=Qe.1 hr.1.2 _ (vm h1);simp only at this;obtain⟨g1,g2⟩:=lg k (qoy this);refine⟨g1,?_⟩;rw[hρ k g1];exact g2
theorem qy8{n0:Nat}{ks:List Nat}{sl:List (Nat×SV)}{hp:List (Nat×Option SR)}{nx k:Nat}{T2:TypeId}{ys2:List AV}{cs2:List SV}(hr:qbr n0 ks sl hp nx=true)(hk:hpF hp k=some (.rows T2 ys2 cs2)):False:=by
 have h1:=yg hk;simp only[qbr,Qb]at hr;have:=Qe.1 hr.1.2 _ (vm h1);simp at this
theorem RInv.ext{n0 n:Nat}{ks:List Nat}{ρ1 t:Nat->AV}{df:List Nat}{C:Conf}{S S':List AObj}(h:RInv B n0 n ks ρ1 t df C S)(lg:∀k∈ks,k<n0∧∃o,zt (ρ1 k)=some o∧o<n)(hr:qbr n0 ks C.sl C.hp C.nx=true)(hB:B.S0.length<=n)(hdn:∀d∈df,d<n)(hE:Ext n S S'):RInv B n0 n ks ρ1 t df C S':=by
 obtain⟨ρ,hρ,hR,hd,hn⟩:=h.ex;refine⟨ρ,hρ,⟨hR.sl,⟨λk r hk=>?_,hR.hp.sep⟩,hR.own,λj hj hF=>?_,Ze hR.len hE.len,hR.wsl,hR.whp⟩,λd gf=>?_,Ze hn hE.len⟩
 .refine SR.ok_of (f:=λ_=>true) (SR.all_mono (λ_ _=>rfl) r (hR.whp k r hk).2) (λ_ _=>rfl) (hR.hp.ok k r hk) λo ho=>?_
  rcases SR.ok_ct (hR.hp.ok k r hk) ho with⟨T,cs,v,h1,T',cs',rfl⟩|⟨m,sz,T,h1⟩|⟨sz,T,xs,rfl⟩|⟨P1,rfl⟩|⟨T2,ys2,cs2,rfl⟩
  rotate_left 2
  .exact(q54 hr hk).elim
  .obtain⟨_,o',h2,h3⟩:=q5u lg hr hρ hk
   rw[h2]at ho;simp only[Qa]at ho;subst ho;exact hE.low _ h3
  .exact(qy8 hr hk).elim
  .obtain⟨_,o',h2,h3⟩:=qud lg hr hρ hk
   rw[h2]at ho;simp only[Qa]at ho;subst ho;exact hE.low _ h3
  .exact hE.tips _ _ _ _ h1
 .rw[hE.low j Om]
  exact hR.low j hj hF
 .rw[hE.low d (hdn d gf)]
  exact hd d gf
def evY{ι:Type}(Y:ι->Option (SV×ι))(i:ι):Option (AV×ι):=match Y i with
 |some (v,j)=>some (v.ev λ_=>zn,j)
 |none=>none
theorem qty{X:Type}{f:Operand}{p:Tmp}{asg body:Code}{g:FuncId}{T:TypeId}{cs:List AV}{ι:Type}{Y:ι->Option (SV×ι)}{i0:ι}(pj:ItC g T cs (evY Y) i0)(a8:∀vs w,(callFunc g vs).run E.P w=.ok (.enter g vs) w)(hY:∀i v j,Y i=some (v,j)->v.all (λ_=>false)=true)(kb n0:Nat)(cv:List SV)(hcv:∀ρ,SV.evs ρ cv=cs)(ks:List Nat)(I:X->Conf)(sl0:List (Nat×SV))(P:ι->X->Prop)(D:Code->X->Prop)(x0:X)(h0:P i0 x0)
  (he:EntA B.n0 C (I x0)) (hz:¬B.dz) (gp:∀x,(I x).sl=sl0)
  (hf:sval N sl0 f=some (.fn (.func g) [] [.bx kb 0]))
  (hkb:∀x,lkS (I x).hp kb=some (some (.cells T cv)))
  (hr:∀x,qbr n0 ks (I x).sl (I x).hp (I x).nx=true) (h0r:(ksIn n0 ks (I x0).hp&&Qo B.n0 n0)=true)
  (hb:∀i x v j,P i x->Y i=some (v,j)->RA E N n0 asg (λF ρ C1=>RB E N F ρ n0 body (rndQ n0 (P j) D I) C1) ⟨(p,v)::(I x).sl,(I x).hp,(I x).nx⟩)
  (hn:∀i x,Y i=none->P i x->Q .normal (I x)) (hd:∀c x,D c x->q2r Q c (I x)):Sm E none N B (.rangeFunc f #[p] asg body) Q C:=⟨λs hs=>by
 obtain⟨ts,S0,df⟩:=s;obtain⟨ρ0,hF0,hR0⟩:=hs;simp only at hF0 hR0;obtain⟨σ,hrg,he⟩:=he.ent;have hF1:=hF0.ren (C':=I x0) hrg;obtain⟨t,hw,nj⟩:=he.sat hR0;clear hF0 hR0 he hrg;generalize renR σ ρ0=ρ1 at hF1 nj;refine qv0 hw ?_;simp only[Qb]at h0r;have tz:=Qg h0r.2;have hB:=nj.len
 have lg:∀k∈ks,k<n0∧∃o,zt (ρ1 k)=some o∧o<S0.length:=λk hk=>by
  have:=Qe.1 h0r.1 k hk;simp only[Qb]at this;refine⟨vp this.1,?_⟩;have h2:=this.2;split at h2
  .rename_i T cs hl
   have s4:hpF (I x0).hp k=some (.cells T cs):=by unfold hpF;rw[hl]
   obtain⟨o,v,h1,h3,rfl⟩:=nj.hp.ok k _ s4;exact⟨o,by rw[h1];rfl,lt_of_getElem? h3⟩
  .rename_i P hl
   have s4:hpF (I x0).hp k=some (.obj P):=by unfold hpF;rw[hl]
   obtain⟨o,x,h1,h3,_⟩:=nj.hp.ok k _ s4;exact⟨o,h1,lt_of_getElem? h3⟩
  .simp at h2
 have hdn:∀d∈df,d<S0.length:=λd hd=>lt_of_getElem? (hF1.dm d hd).1;have hi0:RInv B n0 S0.length ks ρ1 t df (I x0) S0:=⟨ρ1,λ_ _=>rfl,nj,λd hd=>(hF1.dm d hd).1,Qn _⟩
 have hnm:∀x,(sl0.all λq=>q.2.all λk=>Qd k n0)=true:=λx=>by
  have:=hr x;simp only[qbr,Qb,gp]at this;exact this.1.1
 have hnm:=hnm x0
 have slot:∀{ρ:Nat->AV},(∀k,k<n0->ρ k=ρ1 k)->SlOk ρ t sl0:=λ{ρ}hρ d v hd=>by
  rw[nj.sl d v (by rw[gp];exact hd)];exact(qbk (λk hk=>hρ k (vp hk)) v (Qe.1 hnm _ (vm hd))).symm
 have bv:∀x,n0<=(I x).nx:=λx=>by
  have:=hr x;simp only[qbr,Qb]at this;exact Qg this.2
 have hkb1:kb<n0∧∃o,ρ1 kb=.bx o 0 0∧o<S0.length:=by
  have h1:=hr x0;simp only[qbr,Qb]at h1;have:=Qe.1 h1.1.2 _ (vm (hkb x0));have s4:hpF (I x0).hp kb=some (.cells T cv):=by unfold hpF;rw[hkb x0]
  obtain⟨o,v,h1,h3,rfl⟩:=nj.hp.ok kb _ s4;exact⟨(lg kb (qoy this)).1,o,h1,lt_of_getElem? h3⟩
 obtain⟨hkbn,okb,hokb,hokl⟩:=hkb1;have hfe:=q9 (S:=S0) (df:=df) (slot λ_ _=>rfl) hf;simp only[SV.ev,SV.evs,hokb,bxAt]at hfe
 have out:∀{x S},RInv B n0 S0.length ks ρ1 t df (I x) S->S[S0.length]?=some .dfr->SatC B (I x) ⟨t,S,S0.length::df⟩:=λ{x S}hi hm=>by
  obtain⟨ρ,hρ,hR,gf,hnS⟩:=hi.ex;refine⟨ρ,⟨λd hd=>?_,List.nodup_cons.2 ⟨λh=>Nat.lt_irrefl _ (hdn _ h),hF1.nd⟩,λk hk=>(hρ k Om).trans (hF1.rig k hk),Ze tz (bv x),λh=>(hz h).elim⟩,hR⟩;rcases Zx.1 hd with rfl|hd
  .exact⟨hm,hB⟩
  .exact⟨gf d hd,(hF1.dm d hd).2⟩
 refine q3u (S0:=S0) pj rfl hfe a8
  (λi S=>∃x,P i x∧RInv B n0 S0.length ks ρ1 t df (I x) S) (λc S=>∃x,D c x∧RInv B n0 S0.length ks ρ1 t df (I x) S) ⟨x0,h0,hi0⟩ ?_ ?_ ?_ ?_ ?_ ?_
 .rintro i S ⟨x,_,hi⟩
  obtain⟨ρ,hρ,hR,_⟩:=hi.ex;have s4:hpF (I x).hp kb=some (.cells T cv):=by unfold hpF;rw[hkb x]
  obtain⟨o,v,h1,h3,rfl⟩:=hR.hp.ok kb _ s4;rw[hρ kb hkbn,hokb]at h1;simp only[AV.bx.injEq]at h1;obtain⟨rfl,_⟩:=h1;rw[hcv]at h3;exact h3
 .rintro i S S' hE ⟨x,hx,hi⟩
  exact⟨x,hx,hi.ext lg (hr x) hB hdn hE⟩
 .rintro c S S' hE ⟨x,hx,hi⟩
  exact⟨x,hx,hi.ext lg (hr x) hB hdn hE⟩
 .rintro F own rd i u j S hF ⟨x,hx,hi⟩ hy lk hm1 tb
  obtain⟨v,hv,hu⟩:∃v,Y i=some (v,j)∧u=v.ev λ_=>zn:=by
   unfold evY at hy;split at hy
   .rename_i v j2 hv
    simp only[Qa,Za]at hy;obtain⟨rfl,rfl⟩:=hy;exact⟨v,hv,rfl⟩
   .simp at hy
  subst hu;have hva:=hY i v j hv;obtain⟨ρ,hρ,hR,gf,hnS⟩:=hi.ex
  -- what no resource's place is
  have qb9:∀o y,S[o]?=some y->S0.length<=o->(∀m sz T,y≠.tip m sz T)->¬qaq (I x).hp ρ o:=λo y hy ho hyt ⟨k,r,hk,hl⟩=>by
   rcases SR.ok_ct (hR.hp.ok k r hk) hl with⟨T,cs,v,h1,T',cs',rfl⟩|⟨m,sz,T,h1⟩|⟨sz,T,xs,rfl⟩|⟨P1,rfl⟩|⟨T2,ys2,cs2,rfl⟩
   rotate_left 2
   .exact(q54 (hr x) hk).elim
   .obtain⟨_,o',h2,h3⟩:=q5u lg (hr x) hρ hk
    rw[h2]at hl;simp only[Qa]at hl;omega
   .exact(qy8 (hr x) hk).elim
   .obtain⟨_,o',h2,h3⟩:=qud lg (hr x) hρ hk
    rw[h2]at hl;simp only[Qa]at hl;omega
   .rw[h1]at hy
    simp only[Qa]at hy;exact hyt _ _ _ hy.symm
  have a0:=qb9 _ _ lk Om (λ_ _ _=>by simp);have a1:=qb9 _ _ hm1 Om (λ_ _ _=>by rw[hF];simp);have a2:=λk y hk=>qb9 _ _ (tb k y hk).1 Om (λm sz T e=>(tb k y hk).2 m sz T (by rw[e]));have ad:∀d∈df,¬qaq (I x).hp ρ d:=λd hd ⟨k,r,hk,hl⟩=>SR.ok_dfr (hR.hp.ok k r hk) hl (gf d hd);have l2:=lt_of_getElem? hm1
  have s1:=((hb i x v j hx hv).run S (qaq (I x).hp ρ) ρ1 rd).run ⟨put t p (v.ev λ_=>zn),S,[]⟩
   ⟨ρ,⟨nofun,Zr,hρ,bv x,λ_=>rfl⟩,?_⟩
  rotate_left
  .have r6:=hR.rebase (S':=S) λ_ _=>rfl
   refine⟨λd v hd=>?_,r6.hp,r6.own,r6.low,r6.len,λd v hd=>?_,r6.whp⟩
   .simp only[lkS]at hd
    cases bd:Qw p d with
    |true=>
     rw[bd]at hd;simp only[cond_true,Qa]at hd;have e:=Qc bd;subst e hd;simp only[put];rw[qbk (f:=λ_=>false) (ρ:=λ_=>zn) (ρ':=ρ) (λk hk=>by simp at hk) v hva]
     simp
    |false=>
     rw[bd]at hd;have e:d≠p:=λe=>by subst e;simp at bd
     have:=r6.sl d v hd;simp only[put];rw[show Qw d p=false from ju e];exact this
   .simp only[lkS]at hd
    cases bd:Qw p d with
    |true=>
     rw[bd]at hd;simp only[cond_true,Qa]at hd;subst hd
     exact all_mono (f:=λ_=>false) (λk hk=>by simp at hk) v hva
    |false=>
     rw[bd]at hd;exact r6.wsl d _ hd
  refine s1.mono λe s1 ⟨C1,hq,rg⟩=>?_
  cases e with
  |normal=>
   obtain⟨ρs,hFs,hRs⟩:=rg;have hdf1:=hFs.dz trivial;have b1:s1.st[S0.length+1]?=some (F .ready none):=(hRs.low _ (by simp only;omega) a1).trans hm1;refine⟨b1,hdf1,?_⟩;have hq:=(hq (qaq C1.hp ρs)).run (s1.st.set (S0.length+1) (F .busy none)) (some rd)
   have c0:∀o,o<S.length->¬qaq (I x).hp ρ o->¬qaq C1.hp ρs o:=λo ho hn ⟨k,r,hk,hl⟩=>by
    rcases hRs.own k r hk o hl with h|h
    .simp only at h
     omega
    .exact hn h
   have hRb:=hRs.rebase (S':=s1.st.set (S0.length+1) (F .busy none)) λo ho=>Qf λe=>c0 (S0.length+1) Om a1 (by rw[e];exact ho);refine(hq.run ⟨s1.t,s1.st.set (S0.length+1) (F .busy none),[]⟩ ⟨ρs,⟨nofun,Zr,hFs.rig,hFs.le,nofun⟩,hRb⟩).mono λe s2 ⟨C2,r9,sm⟩=>?_;obtain⟨ρ2,hF2,ml⟩:=sm;have bt:=hRs.len
   have keep:∀o y,o≠S0.length+1->S[o]?=some y->¬qaq (I x).hp ρ o->s2.st[o]?=some y:=λo y b9 hy hn=>by
    have ho:=lt_of_getElem? hy;rw[ml.low o (by simp only[Qr];simp only at bt;omega) (c0 o ho hn)];simp only;rw[Qf (λe=>b9 e.symm),hRs.low o ho hn];exact hy
   have k0:=keep _ _ Om lk a0;have k2:∀k y,own[k]?=some y->s2.st[S0.length+2+k]?=some y:=λk y hk=>keep _ _ Om (tb k y hk).1 (a2 k y hk)
   have k1:s2.st[S0.length+1]?=some (F .busy none):=by
    rw[ml.low _ (by simp only[Qr];simp only at bt;omega) (c0 _ Om a1)];simp only;exact kh b1
   have fin:∀x',EntA n0 C2 (I x')->RInv B n0 S0.length ks ρ1 t df (I x') s2.st:=λx' gj=>by
    obtain⟨σ2,hrg2,he2⟩:=gj.ent;have hF3:=hF2.ren (C':=I x') hrg2;obtain⟨t3,_,sq⟩:=he2.sat ml;have hl3:=sq.len;simp only[Qr]at hl3;simp only at bt;refine⟨_,hF3.rig,⟨by rw[gp];exact slot hF3.rig,sq.hp,λk r hk o ho=>?_,λj hj hnj=>?_,Om,sq.wsl,sq.whp⟩,λd hd=>?_,Om⟩
    .rcases sq.own k r hk o ho with h|⟨k',r',h,h'⟩
     .simp only[Qr]at h
      exact .inl Om
     .rcases hRs.own k' r' h o h' with h|⟨k2,r2,h2,h3⟩
      .simp only at h
       exact .inl Om
      .exact hR.own k2 r2 h2 o h3
    .have hj0:¬qaq (I x).hp ρ j:=λ⟨k',r',h,h'⟩=>by
      rcases hR.own k' r' h j h' with h|h
      .omega
      .exact hnj h
     have hjS:j<S.length:=Om
     rw[<-hR.low j hj hnj];obtain⟨y,hy⟩:∃y,S[j]?=some y:=⟨_,Qi hjS⟩;rw[hy];exact keep j y Om hy hj0
    .exact keep d _ (by have:=hdn d hd;omega) (gf d hd) (ad d hd)
   cases e with
   |normal=>
    obtain⟨x',i4,gj⟩:=r9
    exact⟨k0,k1,k2,x',i4,fin x' gj⟩
   |ret=>
    obtain⟨x',i4,gj⟩:=r9
    exact⟨k0,k1,k2,x',i4,fin x' gj⟩
   |exit id=>
    obtain⟨x',i4,gj⟩:=r9
    exact⟨k0,k1,k2,x',i4,fin x' gj⟩
   |_=>exact r9.elim
  |_=>exact hq.elim
 .rintro i S hy ⟨x,hx,hi⟩ hm
  exact⟨I x,hn i x (by
   unfold evY at hy;split at hy
   .simp at hy
   .assumption) hx,out hi hm⟩
 .rintro c S ⟨x,hx,hi⟩ hm
  have hq:=hd c x hx
  cases c with
  |ret=>exact qw ⟨I x,hq,out hi hm⟩
  |exit id=>exact jd ⟨I x,hq,out hi hm⟩
  |_=>exact hq.elim⟩
theorem qig{X:Type}{f:Operand}{p:Tmp}{asg body:Code}(text:List UInt8)(kb n0:Nat)(ks:List Nat)(I:X->Conf)(sl0:List (Nat×SV))(P:Nat->List UInt8->X->Prop)(D:Code->X->Prop)(x0:X)(h0:P 0 text x0)
  (he:EntA B.n0 C (I x0)) (hz:¬B.dz) (ht:text.length<4294967281) (gp:∀x,(I x).sl=sl0)
  (hf:sval N sl0 f=some (.fn (.func 154) [] [.bx kb 0]))
  (hkb:∀x,lkS (I x).hp kb=some (some (.cells 9 [.s text])))
  (hr:∀x,qbr n0 ks (I x).sl (I x).hp (I x).nx=true) (h0r:(ksIn n0 ks (I x0).hp&&Qo B.n0 n0)=true)
  (hb:∀k rest x,P k rest x->rest≠[]->rest.length<=text.length->RA E N n0 asg (λF ρ C1=>RB E N F ρ n0 body (rndQ n0 (P (k+1) (past 10 rest)) D I) C1) ⟨(p,qov k text rest)::(I x).sl,(I x).hp,(I x).nx⟩)
  (hn:∀k x,P k [] x->Q .normal (I x)) (hd:∀c x,D c x->q2r Q c (I x)):Sm E none N B (.rangeFunc f #[p] asg body) Q C:=by
 have hY:evY (λ(q:Nat×List UInt8)=>if q.2=[]∨text.length<q.2.length then none else some (qov q.1 text q.2,(q.1+1,past 10 q.2)))=qrx text:=by
  funext ⟨k,rest⟩;by_cases h:rest=[]∨text.length<rest.length
  .simp[evY,qrx,h]
  .simp[evY,qrx,h,zi3]
 refine qty (Y:=λ(q:Nat×List UInt8)=>if q.2=[]∨text.length<q.2.length then none else some (qov q.1 text q.2,(q.1+1,past 10 q.2))) (i0:=(0,text)) (by rw[hY];exact zki text ht) Tryz.call154 (λi v j h=>?_) kb n0 [.s text] (λ_=>rfl) ks I sl0 (λi x=>P i.1 i.2 x∧i.2.length<=text.length) D x0 ⟨h0,Qn _⟩ he hz gp hf hkb hr h0r (λi x v j hp h=>?_) (λi x h hp=>?_) hd
 .split at h
  .simp at h
  .simp only[Qa,Za]at h
   obtain⟨rfl,_⟩:=h;rfl
 .split at h
  .simp at h
  .rename_i b9
   simp only[Qa,Za]at h;obtain⟨rfl,rfl⟩:=h;have hb:=hb i.1 i.2 x hp.1 (λe=>b9 (.inl e)) hp.2;have hp2:=vl 10 i.2
   exact⟨λS F ρ rd=>⟨λs hs=>((hb.run S F ρ rd).run s hs).mono λe s' ⟨C',hq,nc⟩=>⟨C',by
    cases e with
    |normal=>exactλF'=>⟨λS rd=>q62 ((hq F').run S rd) λe C2 r9=>by
      cases e with
      |normal=>obtain⟨x,h1,h2⟩:=r9;exact⟨x,⟨h1,by simp only;have:=hp.2;omega⟩,h2⟩
      |_=>exact r9⟩
    |_=>exact hq,nc⟩⟩⟩
 .split at h
  .rename_i he
   have:i.2=[]:=he.elim id λh=>by have:=hp.2;omega
   refine hn i.1 x ?_;rw[<-this];exact hp.1
  .simp at h
end
theorem qpk{nx:Nat}{H:Nat->Option SR}(text:qc):va E 113 [.s text] nx H ⟨.fn (.func 154) [] [.bx nx 0],[],[(nx,some (.cells 9 [.s text]))],nx+1⟩:=λρ S hS=>by
 refine(qzc text S _ S.length rfl rfl).mono λr S' ⟨hr,hs⟩=>⟨upd ρ nx (.bx S.length 0 0),?_,?_⟩
 .rw[hr]
  simp only[SV.ev,SV.evs,vd,bxAt]
 .subst hs
  have key:∀k r',chF [(nx,some (SR.cells 9 [.s text]))] (resF [] H) k=some r'->k=nx∧r'=.cells 9 [.s text]:=λk r' hk=>by
   simp only[chF,lkS]at hk
   cases hb:Qw nx k with
   |true=>
    rw[hb]at hk;simp only[cond_true,Qa]at hk
    exact⟨(Qc hb).symm,hk.symm⟩
   |false=>
    rw[hb]at hk;simp[resF,memN]at hk
  refine⟨λk hk=>qag _ _ (by simp only at hk;omega),⟨λk r hk=>?_,λk k' r r' b9 h1 h2=>?_⟩,Sx,λj hj _=>Qx hj,λk r hk o ho=>?_⟩
  .obtain⟨rfl,rfl⟩:=key _ _ hk
   exact⟨S.length,0,vd _ _ _,by simp[SV.evs,SV.ev],rfl⟩
  .obtain⟨rfl,_⟩:=key _ _ h1
   obtain⟨rfl,_⟩:=key _ _ h2;exact absurd rfl b9
  .obtain⟨rfl,_⟩:=key _ _ hk
   rw[vd]at ho;simp only[zt,Qa]at ho;subst ho;exact .inl (Qn _)
end Go.Proofs.YtihlchbgjdkmpaaGreatDoor
namespace Go.Av
open Go Go.RowKit
def vv(hp:List (Nat×Option SR)):List (Nat×Option SR):=hp.map λq=>(q.1,none)
def retS(P:Program)(fn:Func)(nx0:Nat)(r:SV)(bq:List (Nat×Option SR))(nx1:Nat)(e:Exit)(C:Conf):Prop:=
 match e with
 |.normal=>(match resV P fn.ntmps C fn.results.toList with
  |some v=>v.all (λk=>Qd k C.nx)=true∧EntA nx0 ⟨[(0,v)],C.hp,C.nx⟩ ⟨[(0,r)],bq,nx1⟩
  |none=>False)
 |.ret=>(match resV P fn.ntmps C fn.results.toList with
  |some v=>v.all (λk=>Qd k C.nx)=true∧EntA nx0 ⟨[(0,v)],C.hp,C.nx⟩ ⟨[(0,r)],bq,nx1⟩
  |none=>False)
 |_=>False
theorem zcl{hp:List (Nat×Option SR)}{k:Nat}{r:SR}(h:hpF hp k=some r):memN (kr hp) k=true:=by
 have:=vm (yg h);exact Zb.2 ⟨k,Xa.2 ⟨_,this,rfl⟩,Sx⟩
theorem wb(hp:List (Nat×Option SR)):resF (kr hp) (hpF hp)=hpF hp:=by
 funext k;unfold resF
 cases h:memN (kr hp) k with
 |true=>rfl
 |false=>
  cases h2:hpF hp k with
  |none=>rfl
  |some r=>rw[zcl h2]at h;simp at h
theorem q03:∀(hp:List (Nat×Option SR))(k:Nat),lkS (vv hp) k=none∧lkS hp k=none∨lkS (vv hp) k=some none
 | [],_=>.inl ⟨rfl,rfl⟩
 |(i,x)::r,k=>by
  simp only[vv,Qz,lkS]
  cases hb:Qw i k with
  |true=>exact .inr rfl
  |false=>exact q03 r k
theorem qee(s8 bq:List (Nat×Option SR)):chF (bq++vv s8) (hpF s8)=hpF bq:=by
 funext k;unfold chF;rw[qew];unfold hpF
 cases h:lkS bq k with
 |some r=>rfl
 |none=>
  simp only;rcases q03 s8 k with⟨h1,h2⟩|h1
  .rw[h1,h2]
  .rw[h1]
theorem xl{E:Env}{f:FuncId}{fn:Func}{c:Code}(vs:List SV)(s8:List (Nat×Option SR))(nx0:Nat)(r:SV)(bq:List (Nat×Option SR))(nx1:Nat)(hf:E.P.funcs[f]?=some fn)(hb:fn.body=some c)(hn:Qo vs.length fn.ntmps=true)
  (hc:okC ⟨jz 0 vs,s8,nx0⟩=true) (hc1:okC ⟨[(0,r)],bq,nx1⟩=true)
  (h:∀S F ρ,numK 0 vs λsl=>Sm E none fn.ntmps ⟨S,F,ρ,nx0,False⟩ c (retS E.P fn nx0 r bq nx1) ⟨sl,s8,nx0⟩):va E f vs nx0 (hpF s8) ⟨r,kr s8,bq++vv s8,nx1⟩:=λρ S hS=>by
 simp only[qsi]at h;simp only[wb]at hS;have d5:(SV.evs ρ vs).length=vs.length:=by rw[wx,Xh]
 refine qs hf hb (by rw[d5];exact Qg hn) ?_;rw[Zp];simp only[okC,Qb]at hc hc1
 have hwhp:∀k r,hpF s8 k=some r->k<nx0∧r.all (λk=>Qd k nx0)=true:=λk r hk=>by
  have:=Qe.1 hc.2 _ (vm (yg hk));simp only[Qb]at this;exact⟨vp this.1,this.2⟩
 have e8:SatC ⟨S,qaq s8 ρ,ρ,nx0,False⟩ ⟨jz 0 vs,s8,nx0⟩ ⟨argT (SV.evs ρ vs),S,[]⟩:=by
  refine⟨ρ,⟨nofun,Zr,λ_ _=>rfl,Qn _,nofun⟩,⟨λd v hd=>?_,hS,λk r hk o ho=>.inr ⟨k,r,hk,ho⟩,λ_ _ _=>rfl,Qn _,λd v hd=>?_,hwhp⟩⟩
  .obtain⟨j,h1,h2⟩:=qex hd
   have:(SV.evs ρ vs)[j]?=some (v.ev ρ):=by rw[wx,Ql,h2];rfl
   rw[h1,Qj];simp only[argT,Zi,this,Zm]
  .exact Qe.1 hc.1 _ (vm hd)
 refine((h S (qaq s8 ρ) ρ).run _ e8).mono λe s' ⟨C',hq,nc⟩=>?_;obtain⟨t,S',df⟩:=s';obtain⟨ρ2,m9,hR⟩:=nc;simp only at m9 hR
 have fin:(match resV E.P fn.ntmps C' fn.results.toList with
  |some v=>v.all (λk=>Qd k C'.nx)=true∧EntA nx0 ⟨[(0,v)],C'.hp,C'.nx⟩ ⟨[(0,r)],bq,nx1⟩
  |none=>False)->ARet E fn (λr' S'=>∃ρ',r'=r.ev ρ'∧qj2 ρ S nx0 (hpF s8) ⟨r,kr s8,bq++vv s8,nx1⟩ ρ' S') ⟨t,S',df⟩:=λh=>by
  split at h
  .rename_i v hv
   obtain⟨hva,he⟩:=h;obtain⟨σ,hrg,he⟩:=he.ent;refine qj6 hR m9.dm m9.nd λS2 ml=>?_
   have sq:SatR S (qaq s8 ρ) ⟨[(0,v)],C'.hp,C'.nx⟩ ρ2 (λ_=>v.ev ρ2) S2:=
    ⟨λd u hd=>by
     simp only[lkS]at hd
     cases hb:Qw 0 d with
     |true=>rw[hb]at hd;simp only[cond_true,Qa]at hd;rw[hd]
     |false=>rw[hb]at hd;simp[lkS]at hd,ml.hp,ml.own,ml.low,ml.len,λd u hd=>by
     simp only[lkS]at hd
     cases hb:Qw 0 d with
     |true=>rw[hb]at hd;simp only[cond_true,Qa]at hd;rw[<-hd];exact hva
     |false=>rw[hb]at hd;simp[lkS]at hd,ml.whp⟩
   obtain⟨t',hw,hR4⟩:=he.sat sq
   have hrig:∀k,k<nx0->renR σ ρ2 k=ρ k:=λk hk=>by
    simp only[Qb]at hrg;unfold renR;rw[qu1 hrg.1 k hk];exact m9.rig k hk
   have hrn:nx0<=nx1:=by
    simp only[Qb]at hrg;exact Qg hrg.2
   generalize renR σ ρ2=ρ3 at hR4 hrig;have h0:t' 0=r.ev ρ3:=hR4.sl 0 r rfl;have hwk:=hw 0;rw[h0]at hwk
   let ρ':Nat->AV:=λk=>bif Qo nx1 k then ρ k else ρ3 k
   have hρ':∀k,Qd k nx1=true->ρ' k=ρ3 k:=λk hk=>by
    show(bif Qo nx1 k then ρ k else ρ3 k)=_
    have:Qo nx1 k=false:=by
     cases hb:Qo nx1 k with
     |false=>rfl
     |true=>have:=Qg hb;have:=vp hk;omega
    rw[this];rfl
   have hra:r.all (λk=>Qd k nx1)=true:=Qe.1 hc1.1 (0,r) Sx;have hev:r.ev ρ'=r.ev ρ3:=qbk hρ' r hra;refine qo rfl (x8 (zar ml hv) hwk) ⟨ρ',hev.symm,?_⟩
   have hwh:∀k r,hpF bq k=some r->ρ' k=ρ3 k∧r.all (λk=>Qd k nx1)=true:=λk r hk=>by
    obtain⟨g1,g2⟩:=hR4.whp k r hk;exact⟨hρ' k (qcl g1),g2⟩
   refine⟨λk hk=>?_,?_,hR4.len,λj hj hn=>?_,λk r hk o ho=>?_⟩
   .show(bif Qo nx1 k then ρ k else ρ3 k)=_
    cases hb:Qo nx1 k with
    |true=>rfl
    |false=>
     rcases hk with hk|hk
     .exact hrig k hk
     .have:=Zf hk
      simp only at this;rw[this]at hb;simp at hb
   .simp only[wb,qee]
    refine⟨λk r hk=>?_,λk k' r r' b9 h1 h2 o ho=>?_⟩
    .obtain⟨g1,g2⟩:=hwh k r hk
     rw[g1];exact SR.ok_of g2 hρ' (hR4.hp.ok k r hk) λ_ _=>rfl
    .rw[(hwh k r h1).1]at ho
     rw[(hwh k' r' h2).1];exact hR4.hp.sep k k' r r' b9 h1 h2 o ho
   .simp only[wb]at hn
    exact hR4.low j hj λ⟨k,r,hk,hl⟩=>hn k r hk hl
   .simp only[wb,qee]at hk⊢
    rw[(hwh k r hk).1]at ho;exact hR4.own k r hk o ho
  .exact h.elim
 cases e with
 |normal=>exact fin hq
 |ret=>exact fin hq
 |_=>exact hq.elim
def newN:Nat->Nat->Nat->List (Nat×Nat)
 |_,_,0=>[]
 |a,b,m+1=>(a,b)::newN (a+1) (b+1) m
theorem q5i:∀(m a b k:Nat),lkS (newN a b m) k=if a<=k∧k<a+m then some (b+(k-a))else none
 |0,a,b,k=>by rw[if_neg Om];rfl
 |m+1,a,b,k=>by
  simp only[newN,lkS];by_cases h:a=k
  .subst h
   simp
  .rw[ju h,q5i m]
   simp only[cond_false];by_cases h2:a+1<=k∧k<a+1+m
   .rw[if_pos h2,if_pos Om]
    congr 1;omega
   .rw[if_neg h2,if_neg Om]
def nmOf(σ:List (Nat×Nat))(k:Nat):Nat:=match lkS σ k with
 |some j=>j
 |none=>0
def SR.ren(σ:List (Nat×Nat)):SR->SR
 |.cells T cs=>.cells T (SV.rens σ cs)
 |.tip sz T xs=>.tip sz T xs
 |.own sz T xs=>.own sz T xs
 |.obj P=>.obj P
 |.rows T ys cs=>.rows T ys (SV.rens σ cs)
def renO(σ:List (Nat×Nat)):Option SR->Option SR
 |some r=>some (r.ren σ)
 |none=>none
def renH(σ:List (Nat×Nat)):List (Nat×Option SR)->List (Nat×Option SR)
 | []=>[]
 |(k,r)::l=>(nmOf σ k,renO σ r)::renH σ l
def fltH(ks:List Nat):List (Nat×Option SR)->List (Nat×Option SR)
 | []=>[]
 |(k,r)::l=>bif memN ks k then(k,r)::fltH ks l else fltH ks l
def outH(ks:List Nat):List (Nat×Option SR):=ks.map λk=>(k,none)
def qwb:List Nat->Bool
 | []=>true
 |k::r=> !memN r k&&qwb r
theorem zaa(ks:List Nat):∀(hp:List (Nat×Option SR))(k:Nat),lkS (fltH ks hp) k=bif memN ks k then lkS hp k else none
 | [],k=>by simp only[fltH,lkS];cases memN ks k<;>rfl
 |(i,r)::l,k=>by
  have ih:=zaa ks l k;simp only[fltH];by_cases e:i=k
  .subst e
   cases hm:memN ks i with
   |true=>simp[lkS]
   |false=>rw[hm]at ih;simp only[cond_false]at ih⊢;exact ih
  .cases hm:memN ks i with
   |true=>simp only[cond_true,lkS,ju e,cond_false];exact ih
   |false=>simp only[cond_false,lkS,ju e];exact ih
theorem q9z(ks:List Nat)(hp:List (Nat×Option SR)):hpF (fltH ks hp)=resF ks (hpF hp):=by
 funext k;unfold hpF resF;rw[zaa]
 cases memN ks k<;>rfl
theorem zac{σ:List (Nat×Nat)}:∀{hp:List (Nat×Option SR)}{j:Nat}{rr:SR},lkS (renH σ hp) j=some (some rr)->∃k r,(k,some r)∈hp∧nmOf σ k=j∧rr=r.ren σ
 | [],j,rr,h=>by simp[renH,lkS]at h
 |(k,r)::l,j,rr,h=>by
  simp only[renH,lkS]at h
  cases hb:Qw (nmOf σ k) j with
  |true=>
   rw[hb]at h;simp only[cond_true,Qa]at h
   cases r with
   |none=>simp[renO]at h
   |some r=>
    simp only[renO,Qa]at h
    exact⟨k,r,Sx,Qc hb,h.symm⟩
  |false=>
   rw[hb]at h;obtain⟨k',r',h1,h2,h3⟩:=zac h;exact⟨k',r',List.mem_cons_of_mem _ h1,h2,h3⟩
theorem q0c:∀{hp:List (Nat×Option SR)}{k:Nat}{r:SR},qwb (kr hp)=true->(k,some r)∈hp->hpF hp k=some r
 | [],k,r,_,h=>by simp at h
 |(i,x)::l,k,r,hd,h=>by
  simp only[kr,Qz,qwb,Qb]at hd;unfold hpF;simp only[lkS];rcases Zx.1 h with e|e
  .simp only[Za]at e
   obtain⟨rfl,rfl⟩:=e;simp
  .have b9:i≠k:=λe'=>by
    subst e';have:memN (List.map Xt l) i=true:=Zb.2 ⟨i,Xa.2 ⟨_,e,rfl⟩,Sx⟩;rw[this]at hd;simp at hd
   rw[ju b9];exact q0c hd.2 e
theorem zab:∀(ks:List Nat)(j:Nat),lkS (outH ks) j=bif memN ks j then some none else none
 | [],j=>rfl
 |k::r,j=>by
  have ih:=zab r j;simp only[outH,Qz,lkS,memN,Zs];by_cases e:k=j
  .subst e;simp
  .rw[ju e,ju (λh=>e h.symm)]
   exact ih
theorem q5p{α:Type}:∀{l:List α}{i0 i:Nat}{v:α},l[i]?=some v->lkS (jz i0 l) (i0+i)=some v
 | [],_,_,_,h=>by simp at h
 |x::r,i0,0,v,h=>by
  simp only[Qu,Qa]at h;subst h
  simp[jz,lkS]
 |x::r,i0,i+1,v,h=>by
  simp only[jz,lkS];rw[ju Om,show i0+(i+1)=i0+1+i by omega];exact q5p (by simpa using h)
theorem znq{E:Env}{f:FuncId}{vs0:List SV}{s8:List (Nat×Option SR)}{nx0:Nat}{r:SV}{bq:List (Nat×Option SR)}{nx1:Nat}(h:va E f vs0 nx0 (hpF s8) ⟨r,kr s8,bq++vv s8,nx1⟩)
  (σ:List (Nat×Nat)) {tg:List (Nat×Option SR)} {vs:List SV} {nx:Nat} (hl:vs.length=vs0.length) (hc:okC ⟨jz 0 vs,fltH (σ.map Zj) tg,nx⟩=true)
  (he:EntC σ ⟨jz 0 vs,fltH (σ.map Zj) tg,nx⟩ ⟨jz 0 vs0,s8,nx0⟩) (hc1:okC ⟨[(0,r)],bq,nx1⟩=true)
  (hk:(qwb (kr bq)&&bq.all (λq=>(lkS (newN nx0 nx (nx1-nx0)++σ) q.1).isSome)&&σ.all (λq=>Qd q.1 nx0&&Qd q.2 nx)&&Qo nx0 nx1)=true):
  va E f vs nx (hpF tg) ⟨r.ren (newN nx0 nx (nx1-nx0)++σ),σ.map Zj,renH (newN nx0 nx (nx1-nx0)++σ) bq++outH (σ.map Zj),nx+(nx1-nx0)⟩:=λρ S hS=>by
 simp only at hS;simp only[Qb]at hk;obtain⟨⟨⟨hd,hsm⟩,hσ⟩,hn⟩:=hk;have hn:=Qg hn;simp only[okC,Qb]at hc hc1;generalize lg:σ.map Zj=ks at hS hc he⊢;obtain⟨m,hm⟩:∃m,m=nx1-nx0:=⟨_,rfl⟩;rw[<-hm]at hsm⊢
 have hR:SatR S (qaq (fltH ks tg) ρ) ⟨jz 0 vs,fltH ks tg,nx⟩ ρ (argT (SV.evs ρ vs)) S:=by
  refine⟨λd v hd=>?_,by simp only[q9z];exact hS,λk r hk o ho=>.inr ⟨k,r,hk,ho⟩,λ_ _ _=>rfl,Qn _,λd v hd=>Qe.1 hc.1 _ (vm hd),λk r hk=>?_⟩
  .obtain⟨j,h1,h2⟩:=qex hd
   have:(SV.evs ρ vs)[j]?=some (v.ev ρ):=by rw[wx,Ql,h2];rfl
   rw[h1,Qj];simp only[argT,Zi,this,Zm]
  .have:=Qe.1 hc.2 _ (vm (yg hk))
   simp only[Qb]at this;exact⟨vp this.1,this.2⟩
 obtain⟨t',hw,pt⟩:=he.sat hR;have hrc:∀k j,lkS σ k=some j->renR σ ρ k=ρ j:=λk j e=>by unfold renR;rw[e]
 have hrn:∀k,lkS σ k=none->renR σ ρ k=zn:=λk e=>by unfold renR;rw[e]
 -- where a canonical resource lies
 have foot:∀k r,hpF s8 k=some r->∀o,zt (renR σ ρ k)=some o->∃j r',resF ks (hpF tg) j=some r'∧zt (ρ j)=some o:=λk r hk o ho=>by
  have hE:=qib he.2.1 (yg hk);simp only[q9z]at hE;unfold entR at hE
  cases hl:lkS σ k with
  |none=>
   rw[hrn k hl]at ho
   simp[zt]at ho
  |some j=>
   rw[hrc k j hl]at ho;rw[hl]at hE
   cases hj:resF ks (hpF tg) j with
   |none=>cases r<;>(simp only[hj]at hE)
   |some r'=>exact⟨j,r',hj,ho⟩
 have hS0:SatF S (renR σ ρ) (hpF s8):=pt.hp;refine q22 (ys:=SV.evs (renR σ ρ) vs0) (by simp[wx,hl]) (λi x y hx hy=>?_) ((h (renR σ ρ) S (by simp only[wb];exact hS0)).mono λr' S' ⟨ρc,hr,hp⟩=>?_)
 .have h1:=hw i
  simp only[wx,Ql]at hy hx
  cases hv:vs0[i]?with
  |none=>rw[hv]at hy;simp at hy
  |some v=>
   rw[hv]at hy;simp only[Option.map_some,Qa]at hy;have h2:=pt.sl i v (by have:=q5p (i0:=0) hv;rwa [Qj]at this);rw[h2,hy]at h1;have:argT (SV.evs ρ vs) i=x:=by simp only[argT,Zi,wx,Ql,hx,Zm]
   rw[this]at h1;exact h1
 .let ρ':Nat->AV:=λj=>bif Qo nx j&&Qd j (nx+m)then ρc (nx0+(j-nx))else ρ j
  have i5:∀j,(j<nx∨nx+m<=j)->ρ' j=ρ j:=λj hj=>by
   show(bif Qo nx j&&Qd j (nx+m)then ρc (nx0+(j-nx))else ρ j)=ρ j
   have:(Qo nx j&&Qd j (nx+m))=false:=by
    cases hb:(Qo nx j&&Qd j (nx+m))with
    |false=>rfl
    |true=>
     simp only[Qb]at hb;have h1:=Qg hb.1;have h2:=vp hb.2;omega
   rw[this];rfl
  have s7:∀i,i<m->ρ' (nx+i)=ρc (nx0+i):=λi hi=>by
   show(bif Qo nx (nx+i)&&Qd (nx+i) (nx+m)then ρc (nx0+(nx+i-nx))else ρ (nx+i))=_
   have h1:Qo nx (nx+i)=true:=Zf Om;have h2:Qd (nx+i) (nx+m)=true:=qcl Om;rw[h1,h2,show nx+i-nx=i by omega];rfl
  have hσj:∀k j,lkS σ k=some j->k<nx0∧j<nx:=λk j e=>by
   have:=Qe.1 hσ _ (vm e);simp only[Qb]at this;exact⟨vp this.1,vp this.2⟩
  have hro:∀k,k<nx0->ρc k=renR σ ρ k:=λk hk=>hp.old k (.inl hk)
  have key:∀k,k<nx1->renR (newN nx0 nx m++σ) ρ' k=ρc k:=λk hk=>by
   have e:renR (newN nx0 nx m++σ) ρ' k=match lkS (newN nx0 nx m++σ) k with|some j=>ρ' j|none=>zn:=rfl
   rw[e,qew,q5i];by_cases e9:nx0<=k
   .rw[if_pos ⟨e9,Om⟩]
    simp only;rw[s7 _ Om,show nx0+(k-nx0)=k by omega]
   .rw[if_neg Om,hro k Om]
    simp only
    cases hl:lkS σ k with
    |none=>rw[hrn k hl]
    |some j=>
     rw[hrc k j hl];exact i5 j (.inl (hσj k j hl).2)
  have keyj:∀k,k<nx1->(lkS (newN nx0 nx m++σ) k).isSome=true->ρ' (nmOf (newN nx0 nx m++σ) k)=ρc k:=λk hk hs=>by
   rw[<-key k hk];unfold renR nmOf
   cases hl:lkS (newN nx0 nx m++σ) k with
   |none=>rw[hl]at hs;simp at hs
   |some j=>rfl
  have res:∀j rr,chF (renH (newN nx0 nx m++σ) bq++outH ks) (resF ks (hpF tg)) j=some rr->∃k r,hpF bq k=some r∧nmOf (newN nx0 nx m++σ) k=j∧rr=r.ren (newN nx0 nx m++σ)∧ρ' j=ρc k∧r.all (λk=>Qd k nx1)=true:=λj rr hj=>by
   unfold chF at hj;rw[qew]at hj
   cases hl:lkS (renH (newN nx0 nx m++σ) bq) j with
   |some x=>
    rw[hl]at hj;simp only at hj;subst hj;obtain⟨k,r,h1,h2,h3⟩:=zac hl;have h4:=Qe.1 hc1.2 _ h1;simp only[Qb]at h4;have h5:=Qe.1 hsm _ h1;refine⟨k,r,q0c hd h1,h2,h3,?_,h4.2⟩;rw[<-h2]
    exact keyj k (vp h4.1) h5
   |none=>
    rw[hl]at hj;simp only[zab]at hj
    cases hmm:memN ks j with
    |true=>rw[hmm]at hj;simp at hj
    |false=>
     rw[hmm]at hj;simp[resF,hmm]at hj
  have hra:r.all (λk=>Qd k nx1)=true:=Qe.1 hc1.1 (0,r) Sx;refine⟨ρ',?_,λk hk=>i5 k hk,⟨λj rr hj=>?_,λj j' rr rr' b9 h1 h2 o ho=>?_⟩,hp.len,λj hj hnj=>?_,λj rr hj o ho=>?_⟩
  .rw[hr]
   simp only;rw[qxu];exact(qbk (λk hk=>key k (vp hk)) r hra).symm
  .obtain⟨k,r0,h1,h2,rfl,h4,h5⟩:=res j rr hj
   rw[h4];have hsat:=hp.sat;simp only[wb,qee]at hsat;have hok:=hsat.ok k r0 h1
   cases r0 with
   |cells T cs=>
    obtain⟨o,v,g1,g2,g3⟩:=hok;refine⟨o,v,g1,?_,g3⟩;rw[qfk,qbu (λk hk=>key k (vp hk)) cs h5]
    exact g2
   |tip sz T xs=>exact hok
   |own sz T xs=>exact hok
   |obj P=>exact hok
   |rows T ys cs=>
    show OwnS _ 1 T (ys++SV.evs _ (SV.rens _ cs)) _
    rw[qfk,qbu (λk hk=>key k (vp hk)) cs h5];exact hok
  .obtain⟨k,r0,h3,h4,_,h5,_⟩:=res j rr h1
   obtain⟨k',r0',h3',h4',_,h5',_⟩:=res j' rr' h2;rw[h5]at ho;rw[h5'];have hsat:=hp.sat;simp only[wb,qee]at hsat;exact hsat.sep k k' r0 r0' (λe=>b9 (by rw[<-h4,<-h4',e])) h3 h3' o ho
  .refine hp.fr j hj λk r0 hk fc=>?_
   simp only[wb]at hk;obtain⟨j',r',g1,g2⟩:=foot k r0 hk j fc;exact hnj j' r' g1 g2
  .obtain⟨k,r0,h1,h2,_,h4,_⟩:=res j rr hj
   rw[h4]at ho;have hlc:=hp.loc k r0 (by simp only[wb,qee];exact h1) o ho;rcases hlc with g|⟨k',r',g1,g2⟩
   .exact .inl g
   .simp only[wb]at g1
    obtain⟨j',r'',g3,g4⟩:=foot k' r' g1 o g2;exact .inr ⟨j',r'',g3,g4⟩
def useW(vs0:List SV)(s8:List (Nat×Option SR))(nx0:Nat)(r:SV)(bq:List (Nat×Option SR))(nx1:Nat)(tg:List (Nat×Option SR))(vs:List SV)(nx:Nat)(k:Ef->Prop):Prop:=
 fcP (addS [] (prsL vs0 vs)) λa=>fcP (addS a (sigH (hpF tg) a s8)) λσ=>
  vs.length=vs0.length∧okC ⟨jz 0 vs,fltH (σ.map Zj) tg,nx⟩=true∧EntC σ ⟨jz 0 vs,fltH (σ.map Zj) tg,nx⟩ ⟨jz 0 vs0,s8,nx0⟩∧okC ⟨[(0,r)],bq,nx1⟩=true∧
   (qwb (kr bq)&&bq.all (λq=>(lkS (newN nx0 nx (nx1-nx0)++σ) q.1).isSome)&&σ.all (λq=>Qd q.1 nx0&&Qd q.2 nx)&&Qo nx0 nx1)=true∧
   k ⟨r.ren (newN nx0 nx (nx1-nx0)++σ),σ.map Zj,renH (newN nx0 nx (nx1-nx0)++σ) bq++outH (σ.map Zj),nx+(nx1-nx0)⟩
theorem jm{E:Env}{f:FuncId}{vs0:List SV}{s8:List (Nat×Option SR)}{nx0:Nat}{r:SV}{bq:List (Nat×Option SR)}{nx1:Nat}(h:va E f vs0 nx0 (hpF s8) ⟨r,kr s8,bq++vv s8,nx1⟩){tg:List (Nat×Option SR)}{vs:List SV}{nx:Nat}{k:Ef->Prop}
  (hw:useW vs0 s8 nx0 r bq nx1 tg vs nx k):∃e,va E f vs nx (hpF tg) e∧k e:=by
 unfold useW at hw;simp only[q4l]at hw;obtain⟨h1,h2,h3,h4,h5,h6⟩:=hw;exact⟨_,znq h _ h1 h2 h3 h4 h5,h6⟩
theorem zk4{l m:List AV}(hl:l.length=m.length)(h:∀(i:Nat)(x y:AV),l[i]?=some x->m[i]?=some y->Wk x y):Wk (.pp l) (.pp m):=λG v hr=>by
 cases hr with
 |pp _ b off pub hp d5 hr=>
  refine .pp m b off pub hp Om λi y z hy hz=>?_;have hi:i<l.length:=by have:=lt_of_getElem? hy;omega
  have hx:l[i]?=some l[i]:=Qi hi;exact h i _ y hx hy G z (hr i _ z hx hz)
theorem q3t{E:Env}{fn:Func}{R:AV->List AObj->Prop}{s:AS}{d o ver:Nat}{T:TypeId}{cs xs:List AV}(hi:s.t d=.bx o ver 0)(ho:s.st[o]?=some (.cells ver T cs))(hw:Wk (.pp cs) (.pp xs))
  (h:ARet E fn R ⟨Av.put s.t d (.pp xs),s.st.set o .dead,s.df⟩):ARet E fn R s:=
 ⟨λB0 w0 G a w hL hI R2 hR=>by
  obtain⟨G1,h1,h2⟩:=hI.pub hi ho;refine h.run B0 w0 G1 a w hL ⟨h2.agree,h2.defers,h2.size,λj y hy=>?_⟩ R2 λv G' r st' w' hG=>hR v G' r st' w' (h1.trans hG);have hj:=h2.tmps j y hy;by_cases e:j=d
  .subst e
   simp only[xw]at hj⊢;exact hw G1 y hj
  .simp only at hj⊢
   rw[qat _ _ _ _ e]at hj⊢
   exact hj⟩
theorem zdz{E:Env}{fn:Func}{R:AV->List AObj->Prop}{s:AS}{d o ver o2 ver2 sz cap:Nat}{T T2:TypeId}{cs xs ys pad:List AV}(hi:s.t d=.bx o ver 0)(ho:s.st[o]?=some (.cells ver T cs))(mv:s.st[o2]?=some (.cells ver2 T2 (flat ys++pad)))(b9:o≠o2)(hw:∀y∈ys,y.cells.length=sz)(hc:ys.length<=cap)(hl:cs.length=xs.length)
  (hx:∀(i:Nat)(x y:AV),cs[i]?=some x->xs[i]?=some y->Wk x y∨(x=.os o2 ver2 0 ys.length cap∧y=.sl sz ys none)) (h:ARet E fn R ⟨Av.put s.t d (.pp xs),(s.st.set o .dead).set o2 .dead,s.df⟩):ARet E fn R s:=
 ⟨λB0 w0 G a w hL hI R2 hR=>by
  obtain⟨G1,h1,h2⟩:=hI.pub hi ho;have ho3:(s.st.set o .dead)[o2]?=some (.cells ver2 T2 (flat ys++pad)):=(Qf b9).trans mv;obtain⟨vs,d7,hA,hv,hp,mt,hr⟩:=h2.agree.pubOb ho3;refine h.run B0 w0 _ a w hL ⟨hA,h2.defers_mono d7,h2.size,λj y hy=>?_⟩ R2 λv G' r st' w' hG=>hR v G' r st' w' (h1.trans (d7.trans hG));have hj:=(h2.tmps j y hy).mono d7;by_cases e:j=d
  .subst e
   simp only[xw]at hj⊢
   cases hj with
   |pp _ b off pub hp2 d5 i7=>
    refine .pp xs b off pub hp2 Om λi z u hz hu=>?_;have hi:i<cs.length:=by have:=lt_of_getElem? hz;omega
    have hg:cs[i]?=some cs[i]:=Qi hi;have dj:=i7 i _ u hg hu;rcases hx i _ z hg hz with hw1|⟨e1,rfl⟩
    .exact hw1 _ _ dj
    .rw[e1]at dj
     cases dj with
     |os _ _ _ _ bl _ hn dk hb=>
      have hb:=hb hv;subst hb;refine .sl sz ys none _ 0 cap vs hp hw (by rw[<-mt];simp) (λk x y g1 g2=>hr k x y (by rw[Qx (lt_of_getElem? g1)];exact g1) (by simpa using g2)) (λt ht=>by simp at ht) hc
  .simp only at hj⊢
   rw[qat _ _ _ _ e]at hj⊢
   exact hj⟩
theorem zk9{E:Env}{fn:Func}{R:AV->List AObj->Prop}{s:AS}{d o ver sz cap:Nat}{T:TypeId}{ys pad:List AV}(hi:s.t d=.os o ver 0 ys.length cap)(ho:s.st[o]?=some (.cells ver T (flat ys++pad)))(hw:∀y∈ys,y.cells.length=sz)(hc:ys.length<=cap)
  (h:ARet E fn R ⟨Av.put s.t d (.sl sz ys none),s.st.set o .dead,s.df⟩):ARet E fn R s:=
 ⟨λB0 w0 G a w hL hI R2 hR=>by
  obtain⟨G1,h1,h2⟩:=hI.osPub (xs:=ys) (sz:=sz) hi ho rfl hc hw (by rw[Qh,zw hw];omega) (by rw[Xl,<-zw hw,Zv])
  exact h.run B0 w0 G1 a w hL h2 R2 λv G' r st' w' hG=>hR v G' r st' w' (h1.trans hG)⟩
def zfv(H:Nat->Option SR):SV->Option (Nat×Nat×List AV)
 |.tp k=>(match H k with
  |some (.own sz _ ys)=>some (k,sz,ys)
  |_=>none)
 |_=>none
def qxc(H:Nat->Option SR):List SV->Option (Nat×Nat×List AV)
 | []=>none
 |c::r=>(match zfv H c with
  |some x=>some x
  |none=>qxc H r)
theorem q53{H:Nat->Option SR}{j sz:Nat}{ys:List AV}:∀{cs:List SV},qxc H cs=some (j,sz,ys)->∃T,H j=some (.own sz T ys)
 | [],h=>by simp[qxc]at h
 |c::r,h=>by
  simp only[qxc]at h;split at h
  .rename_i x hx
   simp only[Qa]at h;subst h;unfold zfv at hx;split at hx
   .split at hx
    .rename_i hk
     simp only[Qa,Za]at hx;obtain⟨rfl,rfl,rfl⟩:=hx;exact⟨_,hk⟩
    .simp at hx
   .simp at hx
  .exact q53 (cs:=r) h
def frzJ(H:Nat->Option SR)(j sz:Nat)(ys:List AV):List SV->Option (List AV)
 | []=>some []
 |c::r=>(match(match c with
   |.tp k=>bif Qw k j then some (.sl sz ys none)else frz H (.tp k)
   |c=>frz H c),frzJ H j sz ys r with
  |some x,some l=>some (x::l)
  |_,_=>none)
theorem q9w{S:List AObj}{ρ:Nat->AV}{H:Nat->Option SR}(hS:SatF S ρ H){j sz:Nat}{ys:List AV}:∀(cs:List SV)(xs:List AV),frzJ H j sz ys cs=some xs->(SV.evs ρ cs).length=xs.length∧∀(i:Nat)(x y:AV),(SV.evs ρ cs)[i]?=some x->xs[i]?=some y->Wk x y∨(x=tpAt (ρ j)∧y=.sl sz ys none)
 | [],xs,h=>by simp only[frzJ,Qa]at h;subst h;exact⟨rfl,by simp[SV.evs]⟩
 |c::r,xs,h=>by
  simp only[frzJ]at h;split at h
  .rename_i x l h1 h2
   simp only[Qa]at h;subst h;obtain⟨g1,g2⟩:=q9w hS r l h2;refine⟨by simp[SV.evs,g1],λi a b ha hb=>?_⟩
   cases i with
   |zero=>
    simp only[SV.evs,Qu,Qa]at ha hb;subst ha;subst hb;split at h1
    .rename_i k
     cases hkj:Qw k j with
     |true=>
      rw[hkj]at h1;simp only[cond_true,Qa]at h1;rw[Qc hkj]
      exact .inr ⟨rfl,h1.symm⟩
     |false=>
      rw[hkj]at h1;exact .inl (qjk hS _ _ h1)
    .exact .inl (qjk hS _ _ h1)
   |succ i=>exact g2 i a b (by simpa[SV.evs]using ha) (by simpa using hb)
  .simp at h
def pubK(k:Conf->Prop):List ResultVar->Conf->Prop
 | [],C=>k C
 |.tmp t::r,C=>(match lkS C.sl t with
  |some (.bx b 0)=>(match hpF C.hp b with
   |some (.cells _ cs)=>(match qxc (hpF C.hp) cs with
    |some (j,sz,ys)=>(match frzJ (hpF C.hp) j sz ys cs with
     |some xs=>pubK k r ⟨(t,.a (.pp xs))::C.sl,(j,none)::(b,none)::C.hp,C.nx⟩
     |none=>pubK k r C)
    |none=>(match frzs (hpF C.hp) cs with
     |some xs=>pubK k r ⟨(t,.a (.pp xs))::C.sl,(b,none)::C.hp,C.nx⟩
     |none=>pubK k r C))
   |_=>pubK k r C)
  |some (.tp b)=>(match hpF C.hp b with
   |some (.own sz _ ys)=>pubK k r ⟨(t,.a (.sl sz ys none))::C.sl,(b,none)::C.hp,C.nx⟩
   |_=>pubK k r C)
  |_=>pubK k r C)
 |_::r,C=>pubK k r C
theorem SatR.drop{S0:List AObj}{F:Nat->Prop}{C:Conf}{ρ t:Nat->AV}{S:List AObj}(h:SatR S0 F C ρ t S){b o:Nat}{q:SR}(hb:hpF C.hp b=some q)(ho:∀o',zt (ρ b)=some o'->o'=o)(hd:zt (ρ b)=some o∨S.set o .dead=S):
  SatR S0 F ⟨C.sl,(b,none)::C.hp,C.nx⟩ ρ t (S.set o .dead):=by
 have d9:∀k r,hpF ((b,none)::C.hp) k=some r->k≠b∧hpF C.hp k=some r:=λk r hk=>by
  unfold hpF at hk⊢;simp only[lkS]at hk;by_cases e:b=k
  .subst e;simp at hk
  .rw[ju e]at hk
   exact⟨λh=>e h.symm,hk⟩
 rcases hd with hd|hd
 .refine⟨h.sl,⟨λk r hk=>?_,λk k' r r' b9 hk u6=>h.hp.sep k k' r r' b9 (d9 k r hk).2 (d9 k' r' u6).2⟩,λk r hk=>h.own k r (d9 k r hk).2,λj hj hF=>?_,by simpa using h.len,h.wsl,λk r hk=>h.whp k r (d9 k r hk).2⟩
  .obtain⟨b9,hk⟩:=d9 k r hk
   refine SR.ok_of (f:=λ_=>true) (SR.all_mono (λ_ _=>rfl) r (h.whp k r hk).2) (λ_ _=>rfl) (h.hp.ok k r hk) λj hj=>?_;have:o≠j:=λe=>h.hp.sep b k _ r (λe=>b9 e.symm) hb hk o hd (e▸hj);rw[Qf this]
  .have:o≠j:=λe=>by
    rcases h.own b _ hb o hd with g|g
    .omega
    .exact hF (e▸g)
   rw[Qf this];exact h.low j hj hF
 .rw[hd]
  exact⟨h.sl,⟨λk r hk=>h.hp.ok k r (d9 k r hk).2,λk k' r r' b9 hk u6=>h.hp.sep k k' r r' b9 (d9 k r hk).2 (d9 k' r' u6).2⟩,λk r hk=>h.own k r (d9 k r hk).2,h.low,h.len,h.wsl,λk r hk=>h.whp k r (d9 k r hk).2⟩
theorem SatR.slot{S0:List AObj}{F:Nat->Prop}{C:Conf}{ρ t:Nat->AV}{S:List AObj}(h:SatR S0 F C ρ t S)(d:Nat){y:AV}:SatR S0 F ⟨(d,.a y)::C.sl,C.hp,C.nx⟩ ρ (Av.put t d y) S:=by
 refine⟨λx v hx=>?_,h.hp,h.own,h.low,h.len,λx v hx=>?_,h.whp⟩
 .simp only[lkS]at hx
  by_cases e:d=x
  .subst e
   simp at hx;subst hx;exact xw _ _ _
  .rw[ju e]at hx
   simp only[cond_false]at hx;exact(qat _ _ _ _ (λh=>e h.symm)).trans (h.sl x v hx)
 .simp only[lkS]at hx
  by_cases e:d=x
  .subst e
   simp at hx;subst hx;rfl
  .rw[ju e]at hx
   exact h.wsl x v hx
theorem SatR.pub{S0:List AObj}{F:Nat->Prop}{C:Conf}{ρ t:Nat->AV}{S:List AObj}(h:SatR S0 F C ρ t S){d b o:Nat}{T:TypeId}{cs:List SV}{xs:List AV}(hb:hpF C.hp b=some (.cells T cs))(ho:zt (ρ b)=some o):
  SatR S0 F ⟨(d,.a (.pp xs))::C.sl,(b,none)::C.hp,C.nx⟩ ρ (Av.put t d (.pp xs)) (S.set o .dead):=
 (h.drop hb (λo' e7=>by rw[ho]at e7;simpa using e7.symm) (.inl ho)).slot d
theorem zla{E:Env}{fn:Func}{R:AV->List AObj->Prop}{s:AS}{d:Nat}{x r:AV}(hi:s.t d=x)(hw:Wk x r)(h:ARet E fn R ⟨Av.put s.t d r,s.st,s.df⟩):ARet E fn R s:=
 ⟨λB0 w0 G a w hL hI R2 hR=>h.run B0 w0 G a w hL ⟨hI.agree,hI.defers,hI.size,λj y hy=>by
  have hj:=hI.tmps j y hy;by_cases e:j=d
  .subst e
   simp only[xw];rw[hi]at hj;exact hw G y hj
  .simp only
   rw[qat _ _ _ _ e]
   exact hj⟩ R2 hR⟩
theorem qcf{E:Env}{fn:Func}{R:AV->List AObj->Prop}{S0:List AObj}{F:Nat->Prop}{ρ:Nat->AV}{k:Conf->Prop}(hk:∀C t S,k C->SatR S0 F C ρ t S->ARet E fn R ⟨t,S,[]⟩):∀{l:List ResultVar}{C:Conf}{t:Nat->AV}{S:List AObj},pubK k l C->SatR S0 F C ρ t S->ARet E fn R ⟨t,S,[]⟩
 | [],C,t,S,h,hR=>hk C t S h hR
 |.cell _ _::r,C,t,S,h,hR=>qcf hk (l:=r) h hR
 |.tmp d::r,C,t,S,h,hR=>by
  simp only[pubK]at h;split at h
  .rename_i b hd
   split at h
   .rename_i T cs hb
    obtain⟨o,v,e1,e2,e3⟩:=hR.hp.ok b _ hb;have ht:=hR.sl d _ hd;simp only[SV.ev,e1,bxAt]at ht;split at h
    .rename_i j sz ys hj
     split at h
     .rename_i xs hx
      obtain⟨T2,hj⟩:=q53 hj;obtain⟨w1,w2⟩:=q9w hR.hp cs xs hx;have hbj:b≠j:=λe=>by subst e;rw[hb]at hj;simp at hj
      have hP:=hR.pub (d:=d) (xs:=xs) hb (by rw[e1];rfl)
      have hj2:hpF ((b,none)::C.hp) j=some (.own sz T2 ys):=by
       unfold hpF at hj⊢;simp only[lkS,ju hbj,cond_false];exact hj
      rcases hR.hp.ok j _ hj with⟨rfl,f1⟩|⟨o2,ver2,cap,pad,f1,f2,f3,f4,f5,f6⟩
      .refine q3t ht e2 (zk4 w1 λi x y hx hy=>?_) (qcf hk (l:=r) h ?_)
       .rcases w2 i x y hx hy with g|⟨g1,g2⟩
        .exact g
        .subst g1 g2
         unfold tpAt;rw[f1.one];exact f1.wk sz
       .have:=hP.drop (o:=S.length) hj2 (λo' e7=>by rw[f1.loc]at e7;simp at e7) (.inr (Qs Sx))
        rwa [Qs Sx]at this
      .have b9:o≠o2:=λe=>hR.hp.sep b j _ _ hbj hb hj o (by rw[e1];rfl) (by rw[f1,e];rfl)
       refine zdz ht e2 f2 b9 f4 f5 w1 (λi x y hx hy=>?_) (qcf hk (l:=r) h (hP.drop hj2 (λo' e7=>?_) (.inl (by rw[f1];rfl))))
       .rcases w2 i x y hx hy with g|⟨g1,g2⟩
        .exact .inl g
        .exact .inr ⟨by rw[g1,f1];rfl,g2⟩
       .rw[f1]at e7
        simpa[zt]using e7.symm
     .exact qcf hk (l:=r) h hR
    .split at h
     .rename_i xs hx
      obtain⟨w1,w2⟩:=qgu hR.hp cs xs hx;exact q3t ht e2 (zk4 w1 w2) (qcf hk (l:=r) h (hR.pub hb (by rw[e1];rfl)))
     .exact qcf hk (l:=r) h hR
   .exact qcf hk (l:=r) h hR
  .rename_i b hd
   split at h
   .rename_i sz T ys hb
    have ht:=hR.sl d _ hd;have hok:=hR.hp.ok b _ hb;simp only[SV.ev,qih hok]at ht;rcases hok with⟨rfl,f1⟩|⟨o,ver,cap,pad,f1,f2,f3,f4,f5,f6⟩
    .have hP:=hR.drop (o:=S.length) hb (λo' e7=>by rw[f1.loc]at e7;simp at e7) (.inr (Qs Sx))
     rw[Qs Sx]at hP;exact zla ht (f1.wk sz) (qcf hk (l:=r) h (hP.slot d))
    .rw[f1]at ht
     have hP:=hR.drop (o:=o) hb (λo' e7=>by rw[f1]at e7;simpa[zt]using e7.symm) (.inl (by rw[f1];rfl));exact zk9 ht f2 f4 f5 (qcf hk (l:=r) h (hP.slot d))
   .exact qcf hk (l:=r) h hR
  .exact qcf hk (l:=r) h hR
def retP(P:Program)(fn:Func)(r0:AV)(e:Exit)(C:Conf):Prop:=
 match e with
 |.normal=>pubK (λC=>ansW P fn C λy=>Tl y r0) fn.results.toList C
 |.ret=>pubK (λC=>ansW P fn C λy=>Tl y r0) fn.results.toList C
 |_=>False
theorem qpc{E:Env}{f:FuncId}{fn:Func}{c:Code}{args:List AV}{st:List AObj}{r0:AV}(vs:List SV)(hp:Pure r0)(hf:E.P.funcs[f]?=some fn)(hb:fn.body=some c)(hn:Qo args.length fn.ntmps=true)(hv:∀ρ,SV.evs ρ vs=args)(hc:okC ⟨jz 0 vs,[],0⟩=true)
  (h:∀S0,numK 0 vs λsl=>Sm E none fn.ntmps ⟨S0,λ_=>False,λ_=>zn,0,False⟩ c (retP E.P fn r0) ⟨sl,[],0⟩):qr E f args st λr st'=>r=r0∧st'=st:=by
 simp only[qsi]at h;refine q5 hp (qs hf hb (Qg hn) ?_)
 have e8:SatC ⟨st++[],λ_=>False,λ_=>zn,0,False⟩ ⟨jz 0 vs,[],0⟩ ⟨argT args,st++[],[]⟩:=by
  refine⟨λ_=>zn,⟨nofun,Zr,λ_ _=>rfl,Qn _,nofun⟩,⟨λd v hd=>?_,⟨λk r hk=>?_,λk k' r r' _ hk=>?_⟩,λk r hk=>?_,λ_ _ _=>rfl,Qn _,λd v hd=>?_,λk r hk=>?_⟩⟩
  .obtain⟨j,h1,h2⟩:=qex hd
   have:args[j]?=some (v.ev λ_=>zn):=by rw[<-hv λ_=>zn,wx,Ql,h2];rfl
   rw[h1,Qj];simp only[argT,Zi,this,Zm]
  .simp[hpF,lkS]at hk
  .simp[hpF,lkS]at hk
  .simp[hpF,lkS]at hk
  .simp only[okC,Qb]at hc
   exact Qe.1 hc.1 _ (vm hd)
  .simp[hpF,lkS]at hk
 refine((h (st++[])).run _ e8).mono λe s' ⟨C',hq,nc⟩=>?_;obtain⟨t,S,df⟩:=s';obtain⟨ρ,m9,hR⟩:=nc;simp only at m9 hR
 have fin:pubK (λC=>ansW E.P fn C λy=>Tl y r0) fn.results.toList C'->ARet E fn (λr st2=>r=r0∧∃ext,st2=st++ext) ⟨t,S,df⟩:=λh=>by
  refine qj6 hR (λx hx=>m9.dm x hx) m9.nd λS' pt=>?_;refine qcf (λC t S h pt=>?_) h pt;obtain⟨y,h1,h2⟩:=q9c pt h;refine qo rfl (x8 h1 h2.ok) ⟨rfl,?_⟩;have hl:=pt.len;rw[Zp]at hl
  exact qoj hl λk hk=>by
   have:=pt.low k (by simpa using hk) (λh=>h);rw[Zp]at this;exact this
 cases e with
 |normal=>exact fin hq
 |ret=>exact fin hq
 |_=>exact hq.elim
section
variable {E : Env} {N : Nat} {ops : Array Oper} {nx : Nat} {sl : List (Nat × SV)} {H : Nat → Option SR} {k : Ef → Prop} {d : Option Tmp} {T : TypeId} {p : String} {af : Array Edge}
theorem qgh{t e e':TypeId}{x y:Operand}{b sz i:Nat}{agg:Bool}{xs:List AV}{kd:IntKind}{v:SV}(hx:sval N sl x=some (.tp b))(hH:H b=some (.own sz e xs))(hy:sval N sl y=some v)(hv:qfb v=some (kd,(i:Int)))(he:elT (E.P.underlying t)=some e')(ht:tyOf E.P e'=some (sz,agg))(hi:i<xs.length)
  (h:k ⟨.bx b (0+i*sz),[b],[],nx⟩):∃e,Loc E N ops ⟨d,.indexAddr t x y,T,p,af,none⟩ nx sl H e∧k e:=by
 refine⟨_,qac (v:=.bx b (0+i*sz)) λdf rd K rest ρ t' S hs hS hk=>?_,h⟩;rcases hS.ok b _ ((xh b).trans hH)with⟨rfl,_⟩|⟨o,ver,cap,pad,e1,e2,_⟩
 .simp at hi
 .refine qsu (o:=o) (ver:=ver) (off:=0) (len:=xs.length) (cp:=cap+1) ((q9 hs hx).trans (by simp[SV.ev,e1,tpAt,AV.one])) ((q9 hs hy).trans (qb5 hv ρ)) (qa7 he) ht rfl hi ?_
  simpa only[SV.ev,e1,bxAt]using hk
theorem zex{sz i j sz':Nat}{agg:Bool}{xs pad:List AV}{z r:AV}(hw:∀x∈xs,x.cells.length=sz)(hz:xs[i]?=some z)(hr:kf sz' agg j z.cells=some r)(hj:j+sz'<=sz)(h1:agg=false->0<sz'):kf sz' agg (0+i*sz+j) (flat xs++pad)=some r:=by
 have hg:=za1 (pad:=pad) hw hz;have hzl:=hw z (Qq hz)
 have d5:i*sz+sz<=(flat xs++pad).length:=by
  have:=congrArg Xs hg;simp only[Zn,List.length_drop]at this;have h1:i*sz<=xs.length*sz:=Zg _ (by have:=lt_of_getElem? hz;omega);have h2:(flat xs++pad).length=xs.length*sz+pad.length:=by rw[Qh,zw hw]
  omega
 unfold kf at hr⊢;rw[Qj]
 cases agg with
 |true=>
  simp only[cond_true]at hr⊢;have b1:Qo (i*sz+j+sz') (flat xs++pad).length=true:=Zf Om;have b2:Qo (j+sz') z.cells.length=true:=Zf Om;rw[b2]at hr;rw[b1];simp only[cond_true]at hr⊢;rw[<-hr,<-hg];congr 2;apply Xe;intro q;simp only[List.getElem?_take,Xb];by_cases hq:q<sz'
  .rw[if_pos hq,if_pos hq,if_pos Om]
   congr 1;omega
  .rw[if_neg hq,if_neg hq]
 |false=>
  simp only[cond_false]at hr⊢;have:=h1 rfl;rw[<-hr,<-hg,List.getElem?_take_of_lt Om,Xb]
theorem qif{t e:TypeId}{x:Operand}{b off sz i j sz':Nat}{agg:Bool}{xs:List AV}{z r:AV}(hx:sval N sl x=some (.bx b off))(hH:H b=some (.own sz e xs))(ht:tyOf E.P t=some (sz',agg))(ho:off=0+i*sz+j)(hz:xs[i]?=some z)(hr:kf sz' agg j z.cells=some r)(hj:(Qo (j+sz') sz&&(agg||Qd 0 sz'))=true)
  (h:k ⟨nf r,[b],[],nx⟩):∃e,Loc E N ops ⟨d,.load t x,T,p,af,none⟩ nx sl H e∧k e:=by
 simp only[Qb,Zh]at hj;refine⟨_,qac (v:=nf r) λdf rd K rest ρ t' S hs hS hk=>?_,h⟩;rcases hS.ok b _ ((xh b).trans hH)with⟨rfl,_⟩|⟨o,ver,cap,pad,e1,e2,e3,e4,_⟩
 .simp at hz
 .subst ho
  refine vb (o:=o) (ver:=ver) (off:=0+i*sz+j) ((q9 hs hx).trans (by simp only[SV.ev,e1,bxAt])) e2 ht (zex e4 hz hr (Qg hj.1) λe=>?_) (by rw[<-qo4 ρ r];exact hk);rcases hj.2 with h|h
  .rw[e]at h;simp at h
  .exact vp h
theorem qxy(A Z B us:List AV)(j:Nat)(h:j+us.length<=Z.length):z6 (A++Z++B) (A.length+j) us=A++z6 Z j us++B:=by
 unfold z6;rw[Zk A Z B,List.take_length_add_append,Zq Om,Nat.add_assoc,List.drop_length_add_append,List.drop_append_of_le_length Om];simp
theorem qwp{sz i j:Nat}{xs pad us:List AV}{z z':AV}(hw:∀x∈xs,x.cells.length=sz)(hz:xs[i]?=some z)(dx:z'.cells=z6 z.cells j us)(hj:j+us.length<=sz):z6 (flat xs++pad) (0+i*sz+j) us=flat (xs.set i z')++pad∧z'.cells.length=sz:=by
 have hzl:=hw z (Qq hz);have hl:z'.cells.length=sz:=by rw[dx];simp[z6];omega
 have hi:=lt_of_getElem? hz;refine⟨?_,hl⟩;rw[<-qui hw hl hi];have hg:=za1 (pad:=pad) hw hz
 have hA:((flat xs++pad).take (i*sz)).length=i*sz:=by
  have h1:i*sz<=xs.length*sz:=Zg _ Om;rw[Zn,Qh,zw hw];omega
 generalize flat xs++pad=cs at hg hA
 have sj:cs=cs.take (i*sz)++z.cells++(cs.drop (i*sz)).drop sz:=by
  rw[<-hg,Zk,Zo,Zo]
 have e1:=qxy (cs.take (i*sz)) z.cells ((cs.drop (i*sz)).drop sz) us j Om;have e2:=qxy (cs.take (i*sz)) z.cells ((cs.drop (i*sz)).drop sz) z'.cells 0 Om;rw[hA,<-sj]at e1 e2
 have e3:z6 z.cells 0 z'.cells=z'.cells:=by
  unfold z6;rw[Qj,List.drop_eq_nil_of_le Om];simp
 rw[Zd,e3]at e2;rw[Qj,e1,e2,dx]
theorem zfw{t e:TypeId}{x y:Operand}{b off sz i j sz':Nat}{agg:Bool}{xs:List AV}{z z' u:AV}{v:SV}(hx:sval N sl x=some (.bx b off))(hy:sval N sl y=some v)(hv:∀ρ,v.ev ρ=u)(hH:H b=some (.own sz e xs))(ht:tyOf E.P t=some (sz',agg))(ho:off=0+i*sz+j)(hz:xs[i]?=some z)(dx:z'.cells=z6 z.cells j u.cells)
  (hj:(u.okc&&Qw u.cells.length sz'&&ke u.cells&&Qo (j+sz') sz)=true) (h:k ⟨.a (.v undef),[b],[(b,some (.own sz e (xs.set i z')))],nx⟩):∃e,Loc E N ops ⟨d,.store t x y,T,p,af,none⟩ nx sl H e∧k e:=by
 simp only[Qb]at hj;obtain⟨⟨⟨j1,j2⟩,j3⟩,j4⟩:=hj;have j2:=Qc j2;have j4:=Qg j4;refine⟨_,λdf rd K rest ρ t' S hs hS hk=>?_,h⟩;have hok:=hS.ok b _ ((xh b).trans hH);rcases hok with⟨rfl,_⟩|⟨o,ver,cap,pad,e1,e2,e3,e4,e5,e6⟩
 .simp at hz
 .subst ho
  obtain⟨q1,q2⟩:=qwp (pad:=pad) e4 hz dx Om;have d8:=lt_of_getElem? hz
  refine qhk (o:=o) (ver:=ver) (off:=0+i*sz+j) (xs:=u.cells) ((q9 hs hx).trans (by simp only[SV.ev,e1,bxAt])) ((q9 hs hy).trans (hv ρ)) e2 ht j1 rfl j2 (by simpa[ke]using j3) (by
   have h1:i*sz+sz<=xs.length*sz:=by rw[<-Xq];exact Zg _ d8
   rw[Qh,zw e4]
   omega) ?_
  rw[q1]
  have p8:∀y∈xs.set i z',y.cells.length=sz:=λy hy=>by
   rcases Zt hy with h|rfl
   .exact e4 y h
   .exact q2
  have key:∀k r,chF [(b,some (.own sz e (xs.set i z')))] (resF [b] H) k=some r->k=b∧r=.own sz e (xs.set i z'):=λk r hk=>by
   simp only[chF,lkS]at hk;by_cases e:b=k
   .subst e
    have:Qw b b=true:=Sx
    rw[this]at hk;simp only[cond_true,Qa]at hk;exact⟨rfl,hk.symm⟩
   .rw[ju e]at hk
    have:=(wq hk).1;simp only[memN,Zs,Xc,Zy]at this;exact absurd (Qc this).symm e
  refine hk ρ _ ⟨λ_ _=>rfl,⟨λk r hk=>?_,λk k' r r' b9 g1 g2=>?_⟩,Sx,λj hj b9=>?_,λk r hk o' e7=>?_⟩
  .obtain⟨rfl,rfl⟩:=key k r hk
   refine .inr ⟨o,ver,cap,pad,by rw[e1,Qr],qa9 e2,?_,p8,by rw[Qr];exact e5,e6⟩;rw[Qh,zw p8,Qr,<-zw e4,<-Qh];exact e3
  .exact absurd ((key k r g1).1.trans (key k' r' g2).1.symm) b9
  .have:=b9 b _ ((xh b).trans hH)
   rw[e1]at this;exact Qf (λe=>this (by rw[e];rfl))
  .obtain⟨rfl,rfl⟩:=key k r hk
   exact .inr ⟨k,_,(xh k).trans hH,e7⟩
theorem qsk{b:Nat}{q:SR}:∀k r,chF [(b,none),(nx,some q)] (resF [b] H) k=some r->k=nx∧r=q:=λk r hk=>by
 simp only[chF,lkS]at hk;by_cases e:b=k
 .subst e
  simp at hk
 .rw[ju e]at hk
  simp only[cond_false]at hk;by_cases e2:nx=k
  .subst e2
   simp at hk;exact⟨rfl,hk.symm⟩
  .rw[ju e2]at hk
   simp only[cond_false]at hk;have:=(wq hk).1;simp only[memN,Zs,Xc,Zy]at this;exact absurd (Qc this).symm e
theorem zcr{x y:Operand}{t u e:TypeId}{b sz bytes:Nat}{xs ys:List AV}{vy:SV}(hx:sval N sl x=some (.tp b))(hH:H b=some (.own sz e xs))(hy:sval N sl y=some vy)(nq:ql6 H sz vy=some (ys,[]))(ht:elT (E.P.underlying t)=some e)(hu:elT (E.P.underlying u)=some e)(hb:q2t E.P e=some (sz,bytes))
  (hn:(Qd 0 bytes&&Qo bytes 140737&& !Nat.beq b nx)=true) (h1:xs.length+ys.length<=1000000000) (i9:ke (flat ys)=true)
  (h:k ⟨.tp nx,[b],[(b,none),(nx,some (.own sz e (xs++ys)))],nx+1⟩):∃e,Loc E N ops ⟨d,.call ⟨.builtin .append,#[x,y],#[t,u]⟩,T,p,af,none⟩ nx sl H e∧k e:=by
 simp only[Qb]at hn;have hbp:=vp hn.1.1;have dn:=Qg hn.1.2;refine⟨_,λdf rd K rest ρ t' S hs hS hk=>?_,h⟩
 have hw:∀(G:Gh)(v:Value),Rel G (qn N ⟨t',S,df⟩ y) v->Rel G (.sl sz ys none) v:=by
  rw[q9 hs hy];exact qgc (S:=S) nq ⟨λk r hk=>by rw[qgj]at hk;simp at hk,λk k' r r' _ hk=>by rw[qgj]at hk;simp at hk⟩
 have hok:=hS.ok b _ ((xh b).trans hH);have hev:qn N ⟨t',S,df⟩ x=ρ b:=(q9 hs hx).trans (qih hok);have hmul:(xs.length+ys.length)*bytes<=140737488355328:=Ze (Nat.mul_le_mul h1 dn) (by decide)
 have fin:∀(c:AV)(S':List AObj),OwnS S' sz e (xs++ys) c->S.length<=S'.length->(∀j,j<S.length->zt (ρ b)≠some j->S'[j]?=S[j]?)->(∀o,zt c=some o->S.length<=o∨zt (ρ b)=some o)->AOps E rd N ops rest K (AS.put ⟨t',S',df⟩ d c):=λc S' g1 g2 g3 g4=>by
  have:=hk (upd ρ nx c) S' ⟨λk hk=>qag _ _ (by simp only at hk;omega),⟨λk r hk=>?_,λk k' r r' b9 q1 q2=>absurd ((qsk k r q1).1.trans (qsk k' r' q2).1.symm) b9⟩,g2,λj hj b9=>g3 j hj (b9 b _ ((xh b).trans hH)),λk r hk o ho=>?_⟩
  .simpa only[SV.ev,vd,qih g1]using this
  .obtain⟨rfl,rfl⟩:=qsk k r hk
   rw[vd];exact g1
  .obtain⟨rfl,rfl⟩:=qsk k r hk
   rw[vd]at ho;exact(g4 o ho).imp_right λh=>⟨b,_,(xh b).trans hH,h⟩
 by_cases rv:ys=[]
 .subst rv
  have hc:∀G v,Rel G (ρ b) v->∃b n cp,v=.slice b n cp∧n<=cp:=λG v hv=>by
   rcases hok with⟨_,e1⟩|⟨o,ver,cap,pad,e1,e2,e3,e4,e5,e6⟩
   .obtain⟨base,rfl⟩:=e1.val G v hv
    exact⟨_,_,_,rfl,Qn _⟩
   .rw[e1]at hv
    cases hv with
    |os=>exact⟨_,_,_,rfl,e5⟩
  exact qqb hev hc hw (qa7 ht) (qa7 hu) (qog hb) (fin (ρ b) S (by rw[Zp];exact hok) (Qn _) (λ_ _ _=>rfl) λo ho=>.inr ho)
 .rcases hok with⟨rfl,e1⟩|⟨o,ver,cap,pad,e1,e2,e3,e4,e5,e6⟩
  .refine qga (by rw[hev];exact e1.val) hw (qa7 ht) (qa7 hu) (qog hb) i9 rv (by simp only[maxLen];simp only[Qy]at h1;omega) (by simpa using hmul) λcap pad q1 q2 q3 q4=>?_
   exact fin _ _ (.inr ⟨S.length,0,cap,pad,rfl,yc,q1,q2,q3,q4⟩) Sx (λj hj _=>Qx hj) λo ho=>.inl (by simp only[zt,Qa]at ho;omega)
  .refine qpu (o:=o) (hev.trans e1) hw (.os ver (cap+1) pad e3 e4 e5 e6) e2 (qa7 ht) (qa7 hu) (qog hb) i9 (by simp only[maxLen];omega) hmul λa' ob' hV=>?_
   rcases q7i hV with⟨q,_,_⟩|⟨ver',cap',pad',rfl,rfl,q1,q2,q3,q4⟩
   .simp[rv]at q
   .obtain⟨cap',rfl⟩:∃c,cap'=c+1:=⟨cap'-1,by
     have:0<ys.length:=Zz.2 rv;simp at q3
     omega⟩
    refine fin _ _ (.inr ⟨o,ver',cap',pad',rfl,qa9 e2,q1,q2,q3,q4⟩) Sx (λj hj b9=>Qf λe=>b9 (by rw[e1,e];rfl)) λo' e7=>.inr (by rw[e1];exact e7)
structure OwnR (sz:Nat) (T:TypeId) (ys:List AV) (st:List AObj) (c r:AV) (st':List AObj):Prop where
 ok:OwnS st' sz T ys r
 len:st.length<=st'.length
 same:∀j,j<st.length->zt c≠some j->st'[j]?=st[j]?
 loc:∀o,zt r=some o->st.length<=o∨zt c=some o
theorem qsl{S:List AObj}{sz:Nat}{T:TypeId}{xs:List AV}{c:AV}(h:OwnS S sz T xs c):tpAt c=c:=qih h
theorem qub{f:FuncId}{sz:Nat}{T0:TypeId}{xs ys:List AV}(args:List AV)(hc:okC ⟨jz 0 (.tp 0::args.map .a),[(0,some (.own sz T0 xs))],1⟩=true)
  (h:∀st c,OwnS st sz T0 xs c->qr E f (c::args) st λr st'=>OwnR sz T0 ys st c r st'):va E f (.tp 0::args.map .a) 1 (hpF [(0,some (.own sz T0 xs))]) ⟨.tp 1,kr [(0,some (.own sz T0 xs))],[(1,some (.own sz T0 ys))]++vv [(0,some (.own sz T0 xs))],2⟩:=λρ S hS=>by
 simp only[wb]at hS;have hok:OwnS S sz T0 xs (ρ 0):=hS.ok 0 _ rfl
 have e:SV.evs ρ (.tp 0::args.map .a)=ρ 0::args:=by
  simp only[SV.evs,SV.ev,qsl hok,wx,List.map_map];congr 1
  conv=>rhs;rw[<-List.map_id args]
  exact List.map_congr_left λx _=>rfl
 rw[e];refine(h S (ρ 0) hok).mono λr S' hr=>⟨upd ρ 1 r,?_,?_⟩
 .simp only[SV.ev,vd,qsl hr.ok]
 .have key:∀k q,hpF [(1,some (.own sz T0 ys))] k=some q->k=1∧q=.own sz T0 ys:=λk q hk=>by
   have:=yg hk;simp only[lkS]at this
   cases hb:Qw 1 k with
   |true=>
    rw[hb]at this;simp only[cond_true,Qa]at this
    exact⟨(Qc hb).symm,this.symm⟩
   |false=>rw[hb]at this;simp at this
  refine⟨λk hk=>qag _ _ (by simp only at hk;omega),?_,hr.len,λj hj hn=>?_,λk q hk o ho=>?_⟩
  .simp only[wb,qee]
   refine⟨λk q hk=>?_,λk k' q q' b9 h1 h2=>absurd ((key k q h1).1.trans (key k' q' h2).1.symm) b9⟩;obtain⟨rfl,rfl⟩:=key k q hk;rw[vd];exact hr.ok
  .simp only[wb]at hn
   exact hr.same j hj (hn 0 _ rfl)
  .simp only[wb,qee]at hk⊢
   obtain⟨rfl,rfl⟩:=key k q hk;rw[vd]at ho;rcases hr.loc o ho with h|h
   .exact .inl h
   .exact .inr ⟨0,_,rfl,h⟩
theorem q72{f:FuncId}{sz:Nat}{T0:TypeId}{ys:List AV}{nx:Nat}{H:Nat->Option SR}(args:List AV)(vs:List SV)(hv:∀ρ,SV.evs ρ vs=args)
  (h:∀st,qr E f args st λr st'=>OwnR sz T0 ys st (.v undef) r st'):va E f vs nx H ⟨.tp nx,[],[(nx,some (.own sz T0 ys))],nx+1⟩:=λρ S hS=>by
 rw[hv];refine(h S).mono λr S' hr=>⟨upd ρ nx r,?_,?_⟩
 .simp only[SV.ev,vd,qsl hr.ok]
 .have key:∀k q,chF [(nx,some (SR.own sz T0 ys))] (resF [] H) k=some q->k=nx∧q=.own sz T0 ys:=λk q hk=>by
   simp only[chF,lkS]at hk
   cases hb:Qw nx k with
   |true=>
    rw[hb]at hk;simp only[cond_true,Qa]at hk
    exact⟨(Qc hb).symm,hk.symm⟩
   |false=>
    rw[hb]at hk;simp[resF,memN]at hk
  refine⟨λk hk=>qag _ _ (by simp only at hk;omega),⟨λk q hk=>?_,λk k' q q' b9 h1 h2=>absurd ((key k q h1).1.trans (key k' q' h2).1.symm) b9⟩,hr.len,λj hj _=>hr.same j hj (by simp[zt]),λk q hk o ho=>?_⟩
  .obtain⟨rfl,rfl⟩:=key k q hk
   rw[vd];exact hr.ok
  .obtain⟨rfl,rfl⟩:=key k q hk
   rw[vd]at ho;rcases hr.loc o ho with h|h
   .exact .inl h
   .simp[zt]at h
end
end Go.Av
namespace Go.Proofs.YtihlchbgjdkmpaaGreatDoor
open Go Go.Av Go.RowKit Go.Proofs Go.Pl
theorem qx6{b:UInt8}{v:qc}:w9 b v=if 0<v.length∧v.getD 0 0=b then v.drop 1 else v:=by
 cases v with
 |nil=>rfl
 |cons x r=>
  unfold w9;by_cases h:x=b<;>simp[h]
set_option maxHeartbeats 2000000 in
theorem qlk(ls:List qc)(st:List AObj)(hB:LsB ls):qr E 179 [Ss ls] st λr st'=>r=qcw ls∧st'=st:=by
 refine zj [.a (Ss ls)] (qxr _) Tryz.func179 rfl rfl (λ_=>rfl) rfl λS0=>?_;have hL:=hB.len;have o0:(ls.map λx=>Sv x).length=ls.length:=Sx
 cases ls with
 |nil=>
  apply qf [2]
  repeat' (first|apply Qk|(intro h;try exact cDd)|exact cSd|apply qd [2]|refine exr ?_|refine qg ?_)
 |cons l r=>
  have hl:=hB.val l Sx;simp only[Qv]at hL o0;have px:=λst=>qjo l st Om;have gz:((l::r).map λx=>Sv x)[0]?=some (Sv l):=rfl;by_cases h4:qy l=4
  .have hcu:=λst=>zf8 l st Om h4
   simp only[h4]at px;have tq:(w9 32 (vc l)).length<=l.length:=by unfold w9 vc;split <;>simp <;>omega
   have dj:(vc l).length<=l.length:=by unfold vc;simp
   apply qf [2];repeat' (first|apply Qk|(intro h;try exact cDd)|(refine Qm (0) ⟨Om,_,gz,?_⟩)|exact⟨Tryz.call177⟩|refine cpe px ?_|exact⟨Tryz.call231⟩|refine cpe hcu ?_|exact cSd|apply qd [2]|refine exr ?_|refine qg ?_)
   all_goals
    refine zx (X:=Nat×qc) (λ(k,acc)=>⟨[(0,.a (Ss (l::r))),(2,.bx 0 0),(4,.s (jf l)),(5,.s acc),(7,.i ((k:Int)+1))],[(0,some (.cells 77 [.s [],.s []]))],1⟩) (λ(k,acc)=>k<=r.length∧(∀x∈r.take k,qy x=3)∧acc=accU l (r.take k)) (λ(k,_)=>r.length-k) (0,w9 32 (vc l)) ⟨Om,Sx,by simp[accU]⟩ ?_ ?_
    .skip
     repeat' (first|apply Qk|(intro h;try exact cDd)|exact cSd|apply qd []|refine exr ?_|refine qg ?_)
     all_goals (rw[qx6];split <;>rename_i h<;>first|rfl|(exfalso;omega)|exact absurd ((qx8 _).2 h.2) (by assumption)|exact absurd ⟨Om,(qx8 _).1 (by assumption)⟩ h)
    .rintro⟨k,acc⟩ ⟨hk,h3,dq⟩
     have hal:=zhl l (r.take k) λs hs=>hB.val s (by simp[Zw hs]);rw[<-dq,Zn]at hal;by_cases d8:k<r.length
     .obtain⟨a,ha⟩:∃a,r[k]?=some a:=⟨_,Qi d8⟩
      have d9:((l::r).map λx=>Sv x)[k+1]?=some (Sv a):=by simp[ha]
      have hav:=hB.val a (by simp[Qq ha]);have hka:=λst=>qjo a st Om
      have i6:r.take (k+1)=r.take k++[a]:=by
       obtain⟨_,rfl⟩:=Qp.1 ha;rw[Qt]
      by_cases gk:qy a=3
      .obtain⟨h2,_⟩:=qnr gk
       simp only[gk]at hka;have hd1:(a.drop 1).length=a.length-1:=Sx
       have hac:=zdt l (r.take k) a;rw[<-dq,<-i6,qx6]at hac;apply qf [];repeat' (first|apply Qk|(intro h;try exact cDd)|(refine Qm ((k+1)) ⟨Om,_,d9,?_⟩)|exact⟨Tryz.call177⟩|refine cpe hka ?_|(refine Qm (k+1,_) ⟨⟨Om,by rw[i6];exact qo0 h3 gk,rfl⟩,by simp only;omega,?_⟩)|exact cSd|apply qd []|refine exr ?_|refine qg ?_)
       all_goals (rw[hac];split <;>rename_i h<;>first|rfl|(simp only[Zk];rfl)|(exfalso;omega)|exact absurd ((q2z _).2 h.2) (by assumption)|exact absurd ⟨Om,(q2z _).1 (by assumption)⟩ h)
      .have gm:zv (l::r)=(([],[]),2):=if_neg λh=>gk (h.2.2 a (Qq ha))
       unfold qcw;rw[gm];apply qf [];repeat' (first|apply Qk|(intro h;try exact cDd)|(refine Qm ((k+1)) ⟨Om,_,d9,?_⟩)|exact⟨Tryz.call177⟩|refine cpe hka ?_|exact absurd (by assumption) gk|exact cSd|apply qd []|refine exr ?_|refine qg ?_)
     .rw[Zc Om]at h3 dq
      have u7:zv (l::r)=if 1000<(accU l r).length then(([],[]),6)else((jf l,accU l r),0):=if_pos ⟨Sx,h4,h3⟩;unfold qcw;rw[u7,<-dq];apply qf [];repeat' (first|apply Qk|(intro h;try exact cDd)|exact cSd|apply qd []|refine exr ?_|refine qg ?_)
      all_goals (split <;>first|rfl|omega)
  .have gm:zv (l::r)=(([],[]),2):=if_neg λh=>h4 h.2.1
   unfold qcw;rw[gm];apply qf [2];repeat' (first|apply Qk|(intro h;try exact cDd)|(refine Qm (0) ⟨Om,_,gz,?_⟩)|exact⟨Tryz.call177⟩|refine cpe px ?_|exact cSd|apply qd [2]|refine exr ?_|refine qg ?_)
theorem q86{a:qc}(g9:10∉a):wj a=if qy a=1∨a.getD 0 0=46 then 46::a else a:=by
 have hk:=ziz g9;unfold wj
 cases a with
 |nil=>simp[hk,qc4]
 |cons x y=>simp only[List.head?_cons,Qa,hk];rfl
def outK(hd:qc)(r:List qc)(k:Nat):List AV:=(hd::(r.take k).map λs=>[32]++wj s).map λx=>Sv x
theorem zfu{hd:qc}{r:List qc}{k:Nat}{a:qc}(h:r[k]?=some a):outK hd r (k+1)=outK hd r k++[Sv ([32]++wj a)]:=by
 obtain⟨d8,rfl⟩:=Qp.1 h;unfold outK;rw[<-Qt d8];simp only[Xi,Qz,Xr,Xg]
theorem zjh{hd:qc}{r:List qc}{k:Nat}(h:k<=r.length):(outK hd r k).length=k+1:=by
 unfold outK;simp;omega
set_option maxHeartbeats 2000000 in
theorem q6f(f:FldV)(st:List AObj)(hl:f.1.length<4294967281)(hv:f.2.length<1000000):qr E 137 [fldA f] st λr st'=>r=Ss (zq f)∧st'=st:=by
 obtain⟨key,val⟩:=f;dsimp only at hl hv;refine zj [.a (.ag [Sv key,Sv val])] (qnv _) Tryz.func137 rfl rfl (λ_=>rfl) rfl λS0=>?_;obtain⟨p,r,hp⟩:∃p r,zb val=p::r:=⟨_,_,qo9 val⟩;have fj:p.length<=val.length:=qf1 val p (by rw[hp];simp);have dj:∀x∈r,x.length<=val.length:=λx hx=>qf1 val x (by rw[hp];simp[hx]);have hr10:∀x∈r,10∉x:=λx hx=>qfh val x (by rw[hp];simp[hx]);have hrn:r.length<=val.length:=by have:=qdf _ val (Qn _);rw[hp]at this;simpa using this
 have d5:(Sv p::r.map λx=>Sv x).length=r.length+1:=Sx
 have hpt:=λst=>zjn val p r st hv hp;have gz:(Sv p::r.map λx=>Sv x)[0]?=some (Sv p):=rfl;rw[q8h (f:=(key,val)) hp];generalize hhd:kl key p=hd;have lj:Ss (hd::r.map λs=>[32]++wj s)=.sl 1 (outK hd r r.length) none:=by unfold outK;rw[Zu]
 rw[lj];apply qf [1,24];repeat' (first|apply Qk|(intro h;try exact cDd)|exact⟨Tryz.call191⟩|refine cpe hpt ?_|(refine Qm (0) ⟨Om,_,gz,?_⟩)|exact cSd|apply qd [1,24]|refine exr ?_|refine qg ?_)
 all_goals
  refine zx (X:=Nat) (λk=>⟨[(3,.a (.sl 1 (Sv p::r.map λx=>Sv x) none)),(5,.tp 0),(6,.i ((k:Int)+1))],[(0,some (.tip 1 9 (outK hd r k)))],1⟩) (λk=>k<=r.length) (λk=>r.length-k) 0 Om ?_ ?_
  .skip
   repeat' (first|apply Qk|(intro h;try exact cDd)|exact cSd|apply qd []|refine exr ?_|refine qg ?_)
   all_goals (subst hhd;unfold kl outK;simp_all[SV.evs,SV.ev])
  .rintro k hk
   have mw:=zjh (hd:=hd) hk;by_cases d8:k<r.length
   .obtain⟨a,ha⟩:∃a,r[k]?=some a:=⟨_,Qi d8⟩
    have d9:(Sv p::r.map λx=>Sv x)[k+1]?=some (Sv a):=by simp[ha]
    have ham:=Qq ha;have hal:=dj a ham;have hka:=λst=>qjo a st Om;have e8:=q86 (hr10 a ham);have bv:=zfu (hd:=hd) ha;rw[e8]at bv;have hk0:qy a≠1->0<a.length:=λh=>Zz.2 λe=>h (by subst e;rfl);by_cases br:qy a=1
    .simp only[br]at hka
     rw[if_pos (.inl br)]at bv;apply qf [];repeat' (first|apply Qk|(intro h;try exact cDd)|(refine Qm ((k+1)) ⟨Om,_,d9,?_⟩)|exact⟨Tryz.call177⟩|refine cpe hka ?_|(refine Qm (k+1) ⟨Om,Om,?_⟩)|exact cSd|apply qd []|refine exr ?_|refine qg ?_)
     all_goals first|(rw[bv];done)|(rw[bv];simp[SV.evs,SV.ev];done)|(simp only[Qv,Qy];omega)
    .have cz:=hk0 br
     apply qf [];repeat' (first|apply Qk|(intro h;try exact cDd)|(refine Qm ((k+1)) ⟨Om,_,d9,?_⟩)|exact⟨Tryz.call177⟩|refine cpe hka ?_|(refine Qm (k+1) ⟨Om,Om,?_⟩)|exact cSd|apply qd []|refine exr ?_|refine qg ?_)
     all_goals first|(rw[bv,if_pos (.inr ((q2z _).1 (by assumption)))];simp[SV.evs,SV.ev];done)|(rw[bv,if_neg (by simp only[br,false_or];intro e;exact absurd ((q2z _).2 e) (by assumption))];done)|(simp only[Qv,Qy];omega)
   .rw[show k=r.length by omega]
    apply qf [];repeat' (first|apply Qk|(intro h;try exact cDd)|exact cSd|apply qd []|refine exr ?_|refine qg ?_)
set_option maxHeartbeats 2000000 in
theorem qxp(xs:List FldV)(st:List AObj)(hx:q2m xs):qr E 91 [jl xs] st λr st'=>r=Sv (zy xs)∧st'=st:=by
 refine zj [.a (jl xs)] (qt _) Tryz.func91 rfl rfl (λ_=>rfl) rfl λS0=>?_;have hxl:=hx.len;have o0:(xs.map fldA).length=xs.length:=Sx
 apply qf [];repeat' (first|apply Qk|(intro h;try exact cDd)|exact cSd|apply qd []|refine exr ?_|refine qg ?_)
 refine zx (X:=Nat) (λk=>⟨[(0,.a (jl xs)),(3,.s (zy (xs.take k))),(4,.i k)],[],0⟩) (λk=>k<=xs.length) (λk=>xs.length-k) 0 Om ?_ ?_
 .skip
  repeat' (first|apply Qk|(intro h;try exact cDd)|exact cSd|apply qd []|refine exr ?_|refine qg ?_)
 .rintro k hk
  by_cases d8:k<xs.length
  .obtain⟨f,hf⟩:∃f,xs[k]?=some f:=⟨_,Qi d8⟩
   have d9:(xs.map fldA)[k]?=some (fldA f):=by simp[hf]
   obtain⟨mc,hf2⟩:=hx.val f (Qq hf);have r6:=qws (xs.take k) λg hg=>hx.val g (Zw hg);rw[Zn]at r6;have t6:=qtm f;have hln:=λst=>q6f f st mc hf2
   have i6:zy (xs.take (k+1))=zy (xs.take k)++zk (zq f):=by
    obtain⟨_,rfl⟩:=Qp.1 hf;rw[<-Qt d8,q0t,q0u]
   have gp:((zq f).map λx=>Sv x).length=(zq f).length:=Sx
   have bw:=qnd (zq f);apply qf [];repeat' (first|apply Qk|(intro h;try exact cDd)|(refine Qm (k) ⟨Om,_,d9,?_⟩)|exact⟨Tryz.call137⟩|refine cpe hln ?_|exact cSd|apply qd []|refine exr ?_|refine qg ?_)
   refine zx (X:=Nat) (λj=>⟨[(0,.a (jl xs)),(3,.s (zy (xs.take k)++zk ((zq f).take j))),(4,.i k),(17,.a (Ss (zq f))),(18,.i ((zq f).map λx=>Sv x).length),(19,.i j)],[],0⟩) (λj=>j<=(zq f).length) (λj=>(zq f).length-j) 0 Om ?_ ?_
   .skip
    repeat' (first|apply Qk|(intro h;try exact cDd)|exact cSd|apply qd []|refine exr ?_|refine qg ?_)
    all_goals (simp[zk];done)
   .rintro j hj
    by_cases hjl:j<(zq f).length
    .obtain⟨a,ha⟩:∃a,(zq f)[j]?=some a:=⟨_,Qi hjl⟩
     have hget2:((zq f).map λx=>Sv x)[j]?=some (Sv a):=by simp[ha]
     have htj:zk ((zq f).take (j+1))=zk ((zq f).take j)++a++[10]:=by
      obtain⟨_,rfl⟩:=Qp.1 ha;rw[<-Qt hjl,qan,qjs,Zk]
     have hbj:(zk ((zq f).take (j+1))).length<=(zk (zq f)).length:=by
      have:=congrArg (λl=>(zk l).length) (Zo (j+1) (zq f));simp only[qan,Qh]at this;omega
     have dn:=congrArg Xs htj;simp only[Qh,Qv,Qy]at dn;apply qf [];repeat' (first|apply Qk|(intro h;try exact cDd)|(refine Qm (j) ⟨Om,_,hget2,?_⟩)|(refine Qm (j+1) ⟨Om,Om,?_⟩)|exact cSd|apply qd []|refine exr ?_|refine qg ?_)
     all_goals first|(rw[htj];simp;done)|(simp only[Qh,Qv,Qy];omega)
    .rw[Zc (show(zq f).length<=j by omega)]
     apply qf [];repeat' (first|apply Qk|(intro h;try exact cDd)|(refine Qm (k+1) ⟨Om,Om,?_⟩)|exact cSd|apply qd []|refine exr ?_|refine qg ?_)
     all_goals (rw[i6];done)
  .rw[Zc Om]
   apply qf [];repeat' (first|apply Qk|(intro h;try exact cDd)|exact cSd|apply qd []|refine exr ?_|refine qg ?_)
def accK(l:qc)(r:List qc)(k:Nat):List qc:=w9 32 (vc l)::(r.take k).map λs=>w9 46 (s.drop 1)
theorem zds{l:qc}{r:List qc}{k:Nat}{a:qc}(h:r[k]?=some a):(accK l r (k+1)).map (λx=>Sv x)=(accK l r k).map (λx=>Sv x)++[Sv (w9 46 (a.drop 1))]:=by
 obtain⟨d8,rfl⟩:=Qp.1 h;unfold accK;rw[<-Qt d8];simp only[Xi,Qz,Xr,Xg]
set_option maxHeartbeats 4000000 in
theorem qpy(ls:List qc)(st:List AObj)(hB:LsB ls):qr E 218 [Ss ls] st λr st'=>r=qii ls∧st'=st:=by
 refine zj [.a (Ss ls)] (q7h _) Tryz.func218 rfl rfl (λ_=>rfl) rfl λS0=>?_;have hL:=hB.len;have o0:(ls.map λx=>Sv x).length=ls.length:=Sx
 cases ls with
 |nil=>
  apply qf [2]
  repeat' (first|apply Qk|(intro h;try exact cDd)|exact cSd|apply qd [2]|refine exr ?_|refine qg ?_)
 |cons l r=>
  have hl:=hB.val l Sx;simp only[Qv]at hL o0;have gz:((l::r).map λx=>Sv x)[0]?=some (Sv l):=rfl;have hrm:(r.map λx=>Sv x).length=r.length:=Sx
  by_cases h4:qy l=4
  .have hkf:=qmh.1 h4
   have hcu:=λst=>zci l st Om h4;have tj:=λst=>za0 (vc l) 32 st;apply qf [2,31];repeat' (first|apply Qk|(intro h;try exact cDd)|(refine Qm (0) ⟨Om,_,gz,?_⟩)|exact⟨Tryz.call258⟩|refine cpe hcu ?_|exact⟨Tryz.call112⟩|refine cpe tj ?_|exact cSd|apply qd [2,31]|refine exr ?_|refine qg ?_)
   refine zx (X:=Nat) (λk=>⟨[(2,.bx 0 0),(4,.s (jf l)),(7,.tp 1),(33,.a (.sl 1 (r.map λx=>Sv x) none)),(34,.i (r.map λx=>Sv x).length),(35,.i k)],[(0,some (.cells 77 [.s [],.s []])),(1,some (.tip 1 9 ((accK l r k).map λx=>Sv x)))],2⟩) (λk=>k<=r.length∧∀x∈r.take k,qy x=3) (λk=>r.length-k) 0 ⟨Om,Sx⟩ ?_ ?_
   .skip
    repeat' (first|apply Qk|(intro h;try exact cDd)|exact cSd|apply qd []|refine exr ?_|refine qg ?_)
   .rintro k ⟨hk,h3⟩
    have hacl:((accK l r k).map λx=>Sv x).length=k+1:=by unfold accK;simp;omega
    by_cases d8:k<r.length
    .obtain⟨a,ha⟩:∃a,r[k]?=some a:=⟨_,Qi d8⟩
     have d9:(r.map λx=>Sv x)[k]?=some (Sv a):=by simp[ha]
     have hav:=hB.val a (by simp[Qq ha]);have hka:=λst=>qnq a st Om;have ht2:=λst=>za0 (a.drop 1) 46 st;have bv:=zds (l:=l) ha;by_cases gk:qy a=3
     .obtain⟨h2,_⟩:=qnr gk
      simp only[gk]at hka
      have i6:r.take (k+1)=r.take k++[a]:=by
       obtain⟨_,rfl⟩:=Qp.1 ha;rw[Qt]
      apply qf [];repeat' (first|apply Qk|(intro h;try exact cDd)|(refine Qm (k) ⟨Om,_,d9,?_⟩)|exact⟨Tryz.call156⟩|refine cpe hka ?_|exact⟨Tryz.call112⟩|refine cpe ht2 ?_|(refine Qm (k+1) ⟨⟨Om,by rw[i6];exact qo0 h3 gk⟩,Om,?_⟩)|exact cSd|apply qd []|refine exr ?_|refine qg ?_)
      all_goals first|(rw[bv];done)|(rw[bv];simp[SV.evs,SV.ev];done)|(simp only[Qv,Qy];omega)
     .have gm:zv (l::r)=(([],[]),2):=if_neg λh=>gk (h.2.2 a (Qq ha))
      unfold qii;rw[gm];apply qf [];repeat' (first|apply Qk|(intro h;try exact cDd)|(refine Qm (k) ⟨Om,_,d9,?_⟩)|exact⟨Tryz.call156⟩|refine cpe hka ?_|exact absurd (by assumption) gk|exact cSd|apply qd []|refine exr ?_|refine qg ?_)
    .rw[Zc Om]at h3
     have hkr:k=r.length:=Om
     subst hkr;have hok:qve (l::r):=⟨Sx,h4,h3⟩;have hjl:=qu5 r λs hs=>hB.val s (by simp[hs]);have hj:=zfc (w9 32 (vc l)) r;have hjv:Lib.join (accK l r r.length) [10]=qb8 l r:=by unfold accK;rw[Zu];exact hj
     have tq:(w9 32 (vc l)).length<=l.length:=by unfold w9 vc;split <;>simp <;>omega
     have hvl:(qb8 l r).length<=140737488355328:=by
      unfold qb8;rw[Qh];omega
     have hjn:=λtip st=>q97 (accK l r r.length) tip [10] (qb8 l r) st hjv (by rw[<-Xh (f:=λx=>Sv x),hacl];omega) hvl;have hkl:(jf l).length<4294967281:=by have:=hkf.2.2.2.1;omega
     have u7:zv (l::r)=if 1000<(qb8 l r).length then(([],[]),6)else((jf l,qb8 l r),0):=if_pos hok;have hjn0:=hjn none;unfold qii;by_cases hv:1000<(qb8 l r).length
     .have hcf:vh (jf l,qb8 l r)=6:=(if_neg (by simpa using hkf.2.2)).trans (if_pos hv)
      have bf:=λst=>qk9 (jf l,qb8 l r) st hkl (by rw[hcf];decide);rw[hcf]at bf;rw[u7,if_pos hv];apply qf [10];repeat' (first|apply Qk|(intro h;try exact cDd)|exact⟨Tryz.call97⟩|refine cpe hjn0 ?_|exact⟨Tryz.call201⟩|refine cpe bf ?_|exact cSd|apply qd [10]|refine exr ?_|refine qg ?_)
     .have hcf:vh (jf l,qb8 l r)=0:=(if_neg (by simpa using hkf.2.2)).trans (if_neg hv)
      have bf:=λst=>qk8 (jf l,qb8 l r) st hkl hcf;rw[u7,if_neg hv];apply qf [10];repeat' (first|apply Qk|(intro h;try exact cDd)|exact⟨Tryz.call97⟩|refine cpe hjn0 ?_|exact⟨Tryz.call201⟩|refine cpe bf ?_|exact cSd|apply qd [10]|refine exr ?_|refine qg ?_)
  .have gm:zv (l::r)=(([],[]),2):=if_neg λh=>h4 h.2.1
   have hcu:=λst=>q8g l st Om h4;unfold qii;rw[gm];apply qf [2];repeat' (first|apply Qk|(intro h;try exact cDd)|(refine Qm (0) ⟨Om,_,gz,?_⟩)|exact⟨Tryz.call258⟩|refine cpe hcu ?_|exact cSd|apply qd [2]|refine exr ?_|refine qg ?_)
end Go.Proofs.YtihlchbgjdkmpaaGreatDoor
namespace Go.Av
open Go Go.RowKit
structure DP where
 q:Prop
 h:Decidable q
def eqC1(u:Option TypeDesc)(x y:SV):Option DP:=
 match u with
 |some (.int _)=>(match qfb x,qfb y with
  |some (k,m),some (k',n)=>bif decide (k=k')then some ⟨m=n,inferInstance⟩else none
  |_,_=>none)
 |some .string=>(match x,y with
  |.s m,.s n=>some ⟨m=n,inferInstance⟩
  |_,_=>none)
 |some .bool=>(match qnh x,qnh y with
  |some a,some b=>some ⟨a=b,inferInstance⟩
  |_,_=>none)
 |_=>none
def eqCs(P:Program):Nat->List Field->List SV->List SV->Option DP
 |_,[],[],[]=>some ⟨True,inferInstance⟩
 |i,f::r,x::xs,y::ys=>bif f.name != "_" &&Nat.beq f.offset i then(match eqC1 (P.underlying f.type) x y,eqCs P (i+1) r xs ys with
  |some a,some b=>some ⟨a.q∧b.q,@instDecidableAnd _ _ a.h b.h⟩
  |_,_=>none)else none
 |_,_,_,_=>none
def agOf:SV->Option (List SV)
 |.ag cs=>some cs
 |.a (.ag xs)=>some (nfs xs)
 |_=>none
theorem q9b{v:SV}{cs:List SV}(h:agOf v=some cs)(ρ:Nat->AV):v.ev ρ=.ag (SV.evs ρ cs):=by
 unfold agOf at h;split at h
 .simp only[Qa]at h;subst h;rfl
 .simp only[Qa]at h;subst h;simp only[SV.ev,qjn]
 .simp at h
def q5m:TypeDesc->Bool
 |.struct _=>false
 |.array _ _=>false
 |_=>true
theorem q60{P:Program}{t:TypeId}{u:TypeDesc}{cs:Array Value}{off:Nat}{a:Value}(w:World)(hu:P.underlying t=some u)(hs:q5m u=true)(h:cs[off]?=some a):(part t cs off).run P w=.ok a w:=by
 unfold part isAgg
 cases u<;>simp[run_underlying hu,h,q5m]at hs⊢
theorem zik{P:Program}{G:Gh}{ρ:Nat->AV}{t:TypeId}{x y:SV}{a b:Value}{q:DP}{d:Nat}(w:World)(h:eqC1 (P.underlying t) x y=some q)(hx:Rel G (x.ev ρ) a)(hy:Rel G (y.ev ρ) b):
  (Op.equalIn (d+1) t a b).run P w=.ok (@decide q.q q.h) w∧∃u,P.underlying t=some u∧q5m u=true:=by
 unfold eqC1 at h;split at h
 .rename_i kd hu
  split at h
  .rename_i k m k' n hm hn
   cases hk:decide (k=k')with
   |false=>rw[hk]at h;simp at h
   |true=>
    rw[hk]at h;simp only[cond_true,Qa]at h;have hk:=of_decide_eq_true hk;subst hk;subst h;rw[qb5 hm]at hx;rw[qb5 hn]at hy
    cases hx
    cases hy
    refine⟨?_,_,hu,rfl⟩;rw[run_equalIn_int w d t k kd m n hu];congr 1
  .simp at h
 .rename_i hu
  split at h
  .rename_i m n
   simp only[Qa]at h;subst h
   cases hx
   cases hy
   refine⟨?_,_,hu,rfl⟩;rw[run_equalIn_string w d t _ _ hu];simp only[ByteArray.toList_eq];congr 1;by_cases he:m=n<;>simp[he]
  .simp at h
 .rename_i hu
  split at h
  .rename_i m n hm hn
   simp only[Qa]at h;subst h;rw[qgs hm]at hx;rw[qgs hn]at hy
   cases hx
   cases hy
   refine⟨?_,_,hu,rfl⟩;rw[run_equalIn_bool' w d t _ _ hu];congr 1
  .simp at h
 .simp at h
theorem q4j{P:Program}{G:Gh}{ρ:Nat->AV}{d:Nat}(w:World)(us ws:Array Value):∀(i:Nat)(fs:List Field)(xs ys:List SV)(q:DP),eqCs P i fs xs ys=some q->
  (∀j x,xs[j]?=some x->∃a,us[i+j]?=some a∧Rel G (x.ev ρ) a)->(∀j x,ys[j]?=some x->∃a,ws[i+j]?=some a∧Rel G (x.ev ρ) a)->(Op.eqFields (d+1) us ws fs).run P w=.ok (@decide q.q q.h) w
 |i,[],[],[],q,h,_,_=>by
  simp only[eqCs,Qa]at h;subst h
  simp[Op.eqFields]
 |i,f::r,x::xs,y::ys,q,h,hx,hy=>by
  simp only[eqCs]at h
  cases hc:(f.name != "_" &&Nat.beq f.offset i)with
  |false=>rw[hc]at h;simp at h
  |true=>
   rw[hc]at h;simp only[Qb]at hc;obtain⟨hc1,hc2⟩:=hc;have hc2:=Qc hc2;simp only[cond_true]at h;split at h
   .rename_i qa qb h1 h2
    simp only[Qa]at h;subst h;obtain⟨a,ha,hra⟩:=hx 0 x rfl;obtain⟨b,hb,hrb⟩:=hy 0 y rfl;obtain⟨e1,u,hu,hsc⟩:=zik (d:=d) w h1 hra hrb
    have ih:=q4j (d:=d) w us ws (i+1) r xs ys qb h2 (λj z hz=>by
     obtain⟨a,h3,h4⟩:=hx (j+1) z (by simpa using hz)
     exact⟨a,by rw[<-h3];congr 1;omega,h4⟩) (λj z hz=>by
     obtain⟨a,h3,h4⟩:=hy (j+1) z (by simpa using hz)
     exact⟨a,by rw[<-h3];congr 1;omega,h4⟩)
    have hn:f.name≠ "_" :=by simpa using hc1
    rw[Zd,<-hc2]at ha hb;simp only[Op.eqFields,Sem.run_bind,Sem.run_ite,if_pos hn,q60 w hu hsc ha,q60 w hu hsc hb,Result.andThen_ok,e1];rcases(Classical.em qa.q)with hq|hq
    .rw[@decide_eq_true _ qa.h hq]
     simp only[Bool.not_true,Bool.false_eq_true,if_false,ih];congr 1;rcases(Classical.em qb.q)with hr|hr
     .rw[@decide_eq_true _ qb.h hr];exact(@decide_eq_true _ (@instDecidableAnd _ _ qa.h qb.h) ⟨hq,hr⟩).symm
     .rw[@decide_eq_false _ qb.h hr];exact(@decide_eq_false _ (@instDecidableAnd _ _ qa.h qb.h) λh=>hr h.2).symm
    .rw[@decide_eq_false _ qa.h hq]
     simp only[Bool.not_false,if_true,Sem.run_pure];congr 1;exact(@decide_eq_false _ (@instDecidableAnd _ _ qa.h qb.h) λh=>hq h.1).symm
   .simp at h
 |_,[],[],_::_,_,h,_,_=>by simp[eqCs]at h
 |_,[],_::_,_,_,h,_,_=>by simp[eqCs]at h
 |_,_::_,[],_,_,h,_,_=>by simp[eqCs]at h
 |_,_::_,_::_,[],_,h,_,_=>by simp[eqCs]at h
section
variable {E : Env} {N : Nat} {ops : Array Oper} {nx : Nat} {sl : List (Nat × SV)} {H : Nat → Option SR} {k : Ef → Prop} {d : Option Tmp} {T : TypeId} {p : String} {af : Array Edge}
structure EqT (P:Program) (t:TypeId):Prop where
 u:P.underlying t=some (.struct (P.fieldsOf t))
 s:P.stoodInHeld t=false
 g:P.eqGuardType P.depth t=false
theorem zaq{G:Gh}{cs:List AV}{v:Value}(h:Rel G (.ag cs) v):∃vs:Array Value,v=.agg vs∧∀(j:Nat)x,cs[j]?=some x->∃a,vs[j]?=some a∧Rel G x a:=by
 cases h with
 |ag _ vs hl h=>
  refine⟨vs,rfl,λj x hx=>?_⟩;have hj:j<vs.size:=by have:=lt_of_getElem? hx;omega
  exact⟨vs[j],by simp[hj],h j x _ hx (by simp[hj])⟩
theorem zot{t:TypeId}{v1 v2:Value}{G:Gh}{ρ:Nat->AV}{vx vy:SV}{xs ys:List SV}{q:DP}(ht:EqT E.P t)(hx:agOf vx=some xs)(hy:agOf vy=some ys)(hq:eqCs E.P 0 (E.P.fieldsOf t).toList xs ys=some q)(h1:Rel G (vx.ev ρ) v1)(h2:Rel G (vy.ev ρ) v2)(w:World):
  ∃us ws,v1=.agg us∧v2=.agg ws∧(Op.equalIn 10000 t (.agg us) (.agg ws)).run E.P w=.ok (@decide q.q q.h) w:=by
 rw[q9b hx]at h1;rw[q9b hy]at h2;obtain⟨us,rfl,ha⟩:=zaq h1;obtain⟨ws,rfl,hb⟩:=zaq h2;refine⟨us,ws,rfl,rfl,?_⟩;rw[run_equalIn_agg w 9999 t us ws ht.u ht.s];refine q4j (G:=G) (ρ:=ρ) w us ws 0 _ xs ys q hq (λj x hx=>?_) (λj x hx=>?_)
 .rw[Qj]
  exact ha j _ (by rw[wx,Ql,hx];rfl)
 .rw[Qj]
  exact hb j _ (by rw[wx,Ql,hx];rfl)
theorem zpc{t t':TypeId}{x y:Operand}{vx vy:SV}{xs ys:List SV}{q:DP}(ht:EqT E.P t)(hx:sval N sl x=some vx)(hy:sval N sl y=some vy)(h1:agOf vx=some xs)(h2:agOf vy=some ys)(hq:eqCs E.P 0 (E.P.fieldsOf t).toList xs ys=some q)(h:k ⟨.p (¬q.q) (@instDecidableNot _ q.h),[],[],nx⟩):
  ∃e,Loc E N ops ⟨d,.binOp .neq t x y t',T,p,af,none⟩ nx sl H e∧k e:=by
 refine⟨_,js λdf rd K rest ρ t1 S hs hk=>ze rfl (za nofun λB0 w0 G a w _ hI=>?_),h⟩;have e1:=hI.eval x;rw[q9 hs hx]at e1;have e2:=hI.eval y;rw[q9 hs hy]at e2;obtain⟨us,ws,g1,g2,g3⟩:=zot ht h1 h2 hq e1 e2 w;generalize a.eval=ev at g1 g2;have hg:(eqGuard .neq t x y (.agg us) (.agg ws)).run E.P w=.ok () w:=run_eqGuard_agg w .neq t x y us ws ht.g
 have hd:(!(@decide q.q q.h))= @decide (¬q.q) (@instDecidableNot _ q.h):=by
  rcases(Classical.em q.q)with hq|hq
  .rw[@decide_eq_true _ q.h hq];exact(@decide_eq_false _ (@instDecidableNot _ q.h) λh=>h hq).symm
  .rw[@decide_eq_false _ q.h hq];exact(@decide_eq_true _ (@instDecidableNot _ q.h) hq).symm
 refine⟨.bool (@decide (¬q.q) (@instDecidableNot _ q.h)),w,G,Bv (@decide (¬q.q) (@instDecidableNot _ q.h)),S,?_,.refl G,hI.agree,.v _,hk⟩;simp only[<-hd];simp[execOp,g1,g2,hg,run_neq_struct,g3]
end
end Go.Av
namespace Go.Av
open Go Go.RowKit
def qde(kind:TypeDesc)(k:Value):List (Value×Value)->Nat->Option (Option (Nat×Value))
 | [],_=>some none
 |e::es,i=>match Instr.sameNow kind k e.1 with
  |some true=>some (some (i,e.2))
  |some false=>qde kind k es (i+1)
  |none=>none
theorem qtb(kind:TypeDesc)(k:Value):∀(es:List MapEntry)(i:Nat),Instr.findNow kind k es i=qde kind k (es.map λe=>(e.key,e.val)) i
 | [],_=>rfl
 |e::es,i=>by
  rw[Qz,Instr.findNow,qde]
  cases Instr.sameNow kind k e.key with
  |none=>rfl
  |some b=>cases b with
   |true=>rfl
   |false=>exact qtb kind k es (i+1)
def mset(kvs:List (Value×Value))(k v:Value):Option (Nat×Value)->List (Value×Value)
 |some (i,_)=>kvs.set i (k,v)
 |none=>kvs++[(k,v)]
theorem q5e{kind:TypeDesc}{k:Value}:∀{kvs:List (Value×Value)}{n i:Nat}{v:Value},qde kind k kvs n=some (some (i,v))->n<=i∧∃q,kvs[i-n]?=some (q,v)∧Instr.sameNow kind k q=some true
 | [],_,_,_,h=>by simp[qde]at h
 |e::es,n,i,v,h=>by
  unfold qde at h
  cases hs:Instr.sameNow kind k e.1 with
  |none=>rw[hs]at h;simp at h
  |some b=>
   rw[hs]at h
   cases b with
   |true=>
    simp only[Qa,Za]at h;obtain⟨rfl,rfl⟩:=h
    exact⟨Qn _,e.1,Sx,hs⟩
   |false=>
    obtain⟨h1,q,h2,h3⟩:=q5e h;exact⟨Om,q,by rw[show i-n=(i-(n+1))+1 by omega];simpa using h2,h3⟩
section
variable {E : Env} {rd : Option Nat} {N : Nat} {ops : Array Oper} {K : AS → Prop} {s : AS} {rest : List Oper} {d : Option Tmp} {T : TypeId} {p : String} {af : Array Edge}
theorem q3j{t:TypeId}(h:AOps E rd N ops rest K (AS.put ⟨s.t,s.st++[.map []],s.df⟩ d (.mp s.st.length))):AOps E rd N ops (⟨d,.makeMap t none,T,p,af,none⟩::rest) K s:=by
 refine ze rfl (za nofun λB0 w0 G a w _ hI=>?_);have hn:=hI.agree.n
 have hA:=hI.agree.newAny 0 true (.map []) (.map #[] 0) ⟨by simp[Gh.new,hn],by simp[Gh.new,hn];exact hI.agree.hB,#[],0,by
  have e:((G.new 0 w.heap.size 0 true).ob s.st.length).blk=w.heap.size:=by simp[Gh.new,hn]
  rw[e]
  exact y0 w _,rfl⟩
 exact⟨.map (some w.heap.size),_,_,_,_,by simp[execOp,Instr.makeMap,newObj,Sem.run],G.le_new _ _ _ _,hA,.mp _ _ (by simp[Gh.new,hn]) (by simp[Gh.new,hn]) (by simp[Gh.new,hn]),h⟩
def mval(z:Value):Option (Nat×Value)->Value
 |some q=>q.2
 |none=>z
def mkey:TypeDesc->Value->Bool
 |.string,.string _=>true
 |.int _,.int _ _=>true
 |_,_=>false
theorem qrt{P:Program}{kt:TypeId}{kd:TypeDesc}{k:Value}(hk:P.underlying kt=some kd)(h:mkey kd k=true)(e:Bool)(n:Nat)(w:World):(Instr.checkKey e (n+1) kt k).run P w=.ok () w:=by
 unfold Instr.checkKey;rw[Sem.run_bind,run_underlying hk];unfold mkey at h;split at h
 .rfl
 .rfl
 .simp at h
theorem qtx{P:Program}{kt:TypeId}{kd:TypeDesc}{k:Value}{es:List MapEntry}{r:Option (Nat×Value)}(hk:P.underlying kt=some kd)(hf:qde kd k (es.map λe=>(e.key,e.val)) 0=some r)(w:World):(Instr.findKey kt k es).run P w=.ok r w:=by
 unfold Instr.findKey;rw[Sem.run_bind,run_underlying hk];simp only[Result.andThen_ok,qtb,hf];rfl
theorem zkc{P:Program}{t:TypeId}{z:Value}(h:(P.info? t).bind (λi=>i.zero)=some z)(w:World):(zeroValue t).run P w=.ok z w:=by
 cases hi:P.info? t with
 |none=>rw[hi]at h;simp at h
 |some i=>
  rw[hi]at h;simp only[Option.bind_some]at h;simp[zeroValue,typeInfo,hi,h]
theorem q3k{t kt vt:TypeId}{kd:TypeDesc}{x y:Operand}{o:Nat}{k z:Value}{kvs:List (Value×Value)}{r:Option (Nat×Value)}(hx:qn N s x=.mp o)(hy:qn N s y=.v k)(ho:s.st[o]?=some (.map kvs))
  (hu:E.P.underlying t=some (.map kt vt)) (hk:E.P.underlying kt=some kd) (bf:mkey kd k=true) (hf:qde kd k kvs 0=some r) (hz:(E.P.info? vt).bind (λi=>i.zero)=some z)
  (h:AOps E rd N ops rest K (s.put d (.tu [.v (mval z r),Bv r.isSome]))):AOps E rd N ops (⟨d,.lookup t x y true,T,p,af,none⟩::rest) K s:=by
 refine ze rfl (za nofun λB0 w0 G a w _ hI=>?_);have hv:=hI.evalv hy;have he:=hI.eval_of hx;generalize hvx:a.eval x=v at he
 cases he with
 |mp _ b hn hr hb=>
  obtain⟨_,_,es,clock,h4,h5⟩:=hI.agree.ob o _ ho;rw[hb]at h4;subst h5;refine⟨_,w,G,_,s.st,?_,.refl G,hI.agree,qfj (.v (mval z r)) (.v (.bool r.isSome)),h⟩
  have sw:(Instr.lookup t (.map (some b)) k true).run E.P w=.ok (.tuple #[mval z r,.bool r.isSome]) w:=by
   unfold Instr.lookup;rw[Sem.run_bind,run_underlying hu];simp only[Result.andThen_ok,Sem.run_bind];simp only[getObj,Sem.run,h4,Result.andThen_ok,Sem.run_bind,Sem.run_pure];rw[show(10000:Nat)=9999+1 from rfl,qrt hk bf];simp only[Result.andThen_ok];rw[qtx hk hf]
   cases r with
   |none=>simp[zkc hz,mval]
   |some q=>simp[mval]
  simp only[execOp,hvx,hv];rw[Sem.run_bind,sw];rfl
theorem q7o{t kt vt:TypeId}{kd:TypeDesc}{x y q:Operand}{o:Nat}{k u:Value}{kvs:List (Value×Value)}{r:Option (Nat×Value)}(hx:qn N s x=.mp o)(hy:qn N s y=.v k)(hq:qn N s q=.v u)(ho:s.st[o]?=some (.map kvs))
  (hu:E.P.underlying t=some (.map kt vt)) (hk:E.P.underlying kt=some kd) (bf:mkey kd k=true) (hf:qde kd k kvs 0=some r)
  (h:AOps E rd N ops rest K (AS.put ⟨s.t,s.st.set o (.map (mset kvs k u r)),s.df⟩ d (.v undef))):AOps E rd N ops (⟨d,.mapUpdate t x y q,T,p,af,none⟩::rest) K s:=by
 refine ze rfl (qmv nofun λB0 w0 G a w _ hI=>?_);have hv:=hI.evalv hy;have rj:=hI.evalv hq;have he:=hI.eval_of hx;generalize hvx:a.eval x=v at he
 cases he with
 |mp _ b hn hr hb=>
  obtain⟨hraw,fp,es,clock,h4,h5⟩:=hI.agree.ob o _ ho;subst h5
  have key:∀(es':Array MapEntry)(clock':Nat),es'.toList.map (λe=>(e.key,e.val))=mset (es.toList.map λe=>(e.key,e.val)) k u r->
    (Instr.mapUpdate t (.map (some b)) k u).run E.P w=.ok () (w.putObj b (.map es' clock'))->∃w' G' st',(execOp a.eval ⟨d,.mapUpdate t x y q,T,p,af,none⟩).run E.P w=.ok .skip w'∧G.le G'∧zm B0 w0 G' st' w'∧AOps E rd N ops rest K (AS.put ⟨s.t,st',s.df⟩ d (.v undef)):=λes' clock' he a8=>by
   refine⟨_,G,_,?_,.refl G,hI.agree.putRaw (x':=.map (mset (es.toList.map λe=>(e.key,e.val)) k u r)) (y':=.map es' clock') ho trivial hraw h4 Sx ⟨hraw,fp,es',clock',?_,he⟩,h⟩
   .simp only[execOp,hvx,hv,rj]
    rw[Sem.run_bind,a8,hb];rfl
   .have d8:(G.ob o).blk<w.heap.size:=(Array.getElem?_eq_some_iff.1 h4).1
    simp[World.putObj,d8]
  rw[hb]at h4
  have hcommon:(Instr.mapUpdate t (.map (some b)) k u).run E.P w=(match r with
   |some (i,_)=>(do
     let key <-Instr.keyThatStays (((es[i]?).map (λe:MapEntry=>e.key)).getD k) k
     setObj b (.map (es.modify i λe:MapEntry=>{e with key,val:=u}) clock):Sem Unit)
   |none=>(setObj b (.map (es.push {key:=k,val:=u,born:=clock}) (clock+1)):Sem Unit)).run E.P w:=by
   unfold Instr.mapUpdate;rw[Sem.run_bind,run_underlying hu];simp only[Result.andThen_ok,Sem.run_bind];simp only[getObj,Sem.run,h4,Result.andThen_ok,Sem.run_bind];rw[show(10000:Nat)=9999+1 from rfl,qrt hk bf];simp only[Result.andThen_ok];rw[qtx hk hf];simp only[Result.andThen_ok]
   cases r with
   |none=>rfl
   |some q=>rfl
  cases r with
  |none=>
   refine key (es.push {key:=k,val:=u,born:=clock}) (clock+1) (by simp[mset]) ?_;rw[hcommon]
   simp[setObj,Sem.run,World.putObj,h4]
  |some q=>
   obtain⟨i,v0⟩:=q;obtain⟨_,q0,hq1,r9⟩:=q5e hf;rw[Nat.sub_zero,Ql]at hq1;obtain⟨e0,he0,he1⟩:=Option.map_eq_some_iff.1 hq1;simp only[Za]at he1;obtain⟨rfl,rfl⟩:=he1
   have hsb:Instr.sameBits 10000 e0.key k=true:=by
    unfold mkey at bf;split at bf
    .unfold Instr.sameNow at r9
     split at r9
     .simp at *
     .rename_i s1 s2 e1 e2 e3
      have hq3:s1=s2:=(Go.MapKept.bytes_beq _ _).1 (Xu r9);subst hq3;rw[e3,<-e2];simp only[Instr.sameBits];exact(Go.MapKept.bytes_beq _ _).2 rfl
     .simp at *
     .simp at r9
    .unfold Instr.sameNow at r9
     split at r9
     .rename_i k1 a1 k2 b1 e1 e2 e3
      split at r9
      .rename_i ek
       subst ek;simp only[Qa,beq_iff_eq]at r9;subst r9;rw[e3,<-e2];simp[Instr.sameBits]
      .simp at r9
     .simp at *
     .simp at *
     .simp at r9
    .simp at bf
   refine key (es.modify i λe:MapEntry=>{e with key:=k,val:=u}) clock ?_ ?_
   .simp only[mset,Array.toList_modify]
    apply Xe;intro j;rw[Ql,List.getElem?_modify,List.getElem?_set,Ql];by_cases e:i=j
    .subst e
     rw[he0];have:=(Qp.1 he0).1;simp at this⊢;exact this
    .simp[e]
   .rw[hcommon]
    have:es[i]?=some e0:=by simpa using he0
    simp[this,Instr.keyThatStays,hsb,setObj,Sem.run,World.putObj,h4]
end
end Go.Av
namespace Go.Av
open Go Go.RowKit
structure mapP (kvs:List (Value×Value)) (x:AObj) (c:AV):Prop where
 ob:x=.map kvs
 mp:∃o,c=.mp o
section
variable {E : Env} {N : Nat} {ops : Array Oper} {nx : Nat} {sl : List (Nat × SV)} {H : Nat → Option SR} {k : Ef → Prop} {d : Option Tmp} {T : TypeId} {p : String} {af : Array Edge}
theorem zmk{t:TypeId}(h:k ⟨.tp nx,[],[(nx,some (.obj (mapP [])))],nx+1⟩):∃e,Loc E N ops ⟨d,.makeMap t none,T,p,af,none⟩ nx sl H e∧k e:=by
 refine⟨_,qnt (λk r hk=>by rw[qgj]at hk;simp at hk) λdf rd K rest ρ t1 S ho _ hk=>q3j ?_,h⟩;have:=hk (.mp S.length) [.map []] ⟨S.length,_,rfl,yc,Sx,rfl,_,rfl⟩ (λo ho=>by simp only[zt,Qa]at ho;omega)
 simpa[SV.ev,vd,tpAt,AV.one]using this
theorem zjd{t kt vt:TypeId}{kd:TypeDesc}{x y:Operand}{b:Nat}{kvs:List (Value×Value)}{v:SV}{kv z:Value}{r:Option (Nat×Value)}{n:Int}(hx:sval N sl x=some (.tp b))(hH:H b=some (.obj (mapP kvs)))(hy:sval N sl y=some v)(hv:∀ρ,v.ev ρ=.v kv)
  (hu:E.P.underlying t=some (.map kt vt)) (hk:E.P.underlying kt=some kd) (bf:mkey kd kv=true) (hf:qde kd kv kvs 0=some r) (hz:(E.P.info? vt).bind (λi=>i.zero)=some z) (hn:mval z r=.int .i64 n)
  (h:k ⟨.tu [.i n,.b r.isSome],[b],[],nx⟩):∃e,Loc E N ops ⟨d,.lookup t x y true,T,p,af,none⟩ nx sl H e∧k e:=by
 refine⟨_,qac (v:=.tu [.i n,.b r.isSome]) λdf rd K rest ρ t' S hs hS s4=>?_,h⟩;obtain⟨o,x',h1,h2,_,rfl,o',e1⟩:=hS.ok b _ ((xh b).trans hH);rw[e1]at h1;simp only[zt,Qa]at h1;subst h1;refine q3k (o:=o') ((q9 hs hx).trans (by simp[SV.ev,e1,tpAt,AV.one])) ((q9 hs hy).trans (hv ρ)) h2 hu hk bf hf hz ?_;rw[hn];exact s4
theorem zml{t kt vt:TypeId}{kd:TypeDesc}{x y q:Operand}{b:Nat}{kvs:List (Value×Value)}{v w:SV}{kv u:Value}{r:Option (Nat×Value)}(hx:sval N sl x=some (.tp b))(hH:H b=some (.obj (mapP kvs)))(hy:sval N sl y=some v)(hv:∀ρ,v.ev ρ=.v kv)(hq:sval N sl q=some w)(hw:∀ρ,w.ev ρ=.v u)
  (hu:E.P.underlying t=some (.map kt vt)) (hk:E.P.underlying kt=some kd) (bf:mkey kd kv=true) (hf:qde kd kv kvs 0=some r)
  (h:k ⟨.a (.v undef),[b],[(b,some (.obj (mapP (mset kvs kv u r))))],nx⟩):∃e,Loc E N ops ⟨d,.mapUpdate t x y q,T,p,af,none⟩ nx sl H e∧k e:=by
 refine⟨_,λdf rd K rest ρ t' S hs hS s4=>?_,h⟩;obtain⟨o,x',h1,h2,_,rfl,o',e1⟩:=hS.ok b _ ((xh b).trans hH);rw[e1]at h1;simp only[zt,Qa]at h1;subst h1;refine q7o (o:=o') ((q9 hs hx).trans (by simp[SV.ev,e1,tpAt,AV.one])) ((q9 hs hy).trans (hv ρ)) ((q9 hs hq).trans (hw ρ)) h2 hu hk bf hf ?_
 have key:∀k r',chF [(b,some (.obj (mapP (mset kvs kv u r))))] (resF [b] H) k=some r'->k=b∧r'=.obj (mapP (mset kvs kv u r)):=λk r' hk=>by
  simp only[chF,lkS]at hk;by_cases e:b=k
  .subst e
   have:Qw b b=true:=Sx
   rw[this]at hk;simp only[cond_true,Qa]at hk;exact⟨rfl,hk.symm⟩
  .rw[ju e]at hk
   have:=(wq hk).1;simp only[memN,Zs,Xc,Zy]at this;exact absurd (Qc this).symm e
 refine s4 ρ _ ⟨λ_ _=>rfl,⟨λk r' hk=>?_,λk k' r1 r2 b9 g1 g2=>?_⟩,Sx,λj hj b9=>?_,λk r' hk o' e7=>?_⟩
 .obtain⟨rfl,rfl⟩:=key k r' hk
  exact⟨o',_,by rw[e1];rfl,qa9 h2,Sx,rfl,o',e1⟩
 .exact absurd ((key k r1 g1).1.trans (key k' r2 g2).1.symm) b9
 .have:=b9 b _ ((xh b).trans hH)
  rw[e1]at this;exact Qf (λe=>this (by rw[e];rfl))
 .obtain⟨rfl,rfl⟩:=key k r' hk
  exact .inr ⟨k,_,(xh k).trans hH,e7⟩
end
end Go.Av
namespace Go.Av
open Go Go.RowKit
def getM{α:Type}[DecidableEq α](s:α):List (α×Int)->Int
 | []=>0
 |q::r=>if q.1=s then q.2 else getM s r
def setM{α:Type}[DecidableEq α](s:α)(n:Int):List (α×Int)->List (α×Int)
 | []=>[(s,n)]
 |q::r=>if q.1=s then(s,n)::r else q::setM s n r
theorem q4y{α:Type}[DecidableEq α](s t:α)(n:Int):∀(L:List (α×Int)),getM t (setM s n L)=if t=s then n else getM t L
 | []=>by
  unfold setM getM getM;by_cases h:t=s
  .rw[if_pos h,if_pos h.symm]
  .rw[if_neg h,if_neg λe=>h e.symm]
 |q::r=>by
  have ih:=q4y s t n r;unfold setM;by_cases hq:q.1=s
  .rw[if_pos hq]
   unfold getM;by_cases h:t=s
   .rw[if_pos h,if_pos h.symm]
   .rw[if_neg h,if_neg λe=>h e.symm,if_neg λe=>h (e.symm.trans hq)]
  .rw[if_neg hq]
   unfold getM;rw[ih];by_cases ht:q.1=t
   .rw[if_pos ht,if_pos ht,if_neg λe=>hq (ht.trans e)]
   .rw[if_neg ht,if_neg ht]
section
variable {α : Type} [DecidableEq α] {kd : TypeDesc} {key : α → Value}
def kvM(key:α->Value)(q:α×Int):Value×Value:=(key q.1,.int .i64 q.2)
theorem qyy(hs:∀a b,Instr.sameNow kd (key a) (key b)=some (decide (b=a)))(s:α)(n:Int):∀(L:List (α×Int))(pre:List (Value×Value)),∃r,qde kd (key s) (L.map (kvM key)) pre.length=some r∧mval (.int .i64 0) r=.int .i64 (getM s L)∧mset (pre++L.map (kvM key)) (key s) (.int .i64 n) r=pre++(setM s n L).map (kvM key)
 | [],pre=>⟨none,rfl,rfl,by simp[mset,setM,kvM]⟩
 |q::r,pre=>by
  rw[Qz,qde]
  show∃r',(match Instr.sameNow kd (key s) (key q.1)with|some true=>_|some false=>_|none=>_)=some r'∧_
  rw[hs];unfold getM setM;by_cases h:q.1=s
  .rw[if_pos h,if_pos h]
   simp only[h,decide_true];refine⟨_,rfl,rfl,?_⟩;simp only[mset];rw[List.set_append_right _ _ (Qn _),Nat.sub_self];rfl
  .rw[if_neg h,if_neg h]
   simp only[h,decide_false];obtain⟨r',h1,h2,h3⟩:=qyy hs s n r (pre++[kvM key q]);rw[Qh,List.length_singleton]at h1;exact⟨r',h1,h2,by simpa using h3⟩
variable {E : Env} {N : Nat} {ops : Array Oper} {nx : Nat} {sl : List (Nat × SV)} {H : Nat → Option SR} {k : Ef → Prop} {d : Option Tmp} {T : TypeId} {p : String} {af : Array Edge}
theorem zi9{t kt vt:TypeId}{x y q:Operand}{b:Nat}{L:List (α×Int)}{v w:SV}{s:α}{n:Int}(hs:∀a b,Instr.sameNow kd (key a) (key b)=some (decide (b=a)))(hx:sval N sl x=some (.tp b))(hH:H b=some (.obj (mapP (L.map (kvM key)))))(hy:sval N sl y=some v)(hv:∀ρ,v.ev ρ=.v (key s))(hq:sval N sl q=some w)(hw:∀ρ,w.ev ρ=.v (.int .i64 n))
  (hu:E.P.underlying t=some (.map kt vt)) (hk:E.P.underlying kt=some kd) (bf:mkey kd (key s)=true)
  (h:k ⟨.a (.v undef),[b],[(b,some (.obj (mapP ((setM s n L).map (kvM key)))))],nx⟩):∃e,Loc E N ops ⟨d,.mapUpdate t x y q,T,p,af,none⟩ nx sl H e∧k e:=by
 obtain⟨r,h1,_,h3⟩:=qyy hs s n L [];rw[Xj,Xj]at h3;rw[<-h3]at h;exact zml hx hH hy hv hq hw hu hk bf h1 h
end
def keyI(n:Int):Value:=.int .i64 n
theorem q61(a b:Int):Instr.sameNow (.int .i64) (keyI a) (keyI b)=some (decide (b=a)):=by
 show(if IntKind.i64=IntKind.i64 then some (a==b)else none)=_
 rw[if_pos rfl];congr 1;by_cases h:b=a
 .subst h;simp
 .rw[decide_eq_false h]
  simpa usingλe=>h e.symm
end Go.Av
namespace Go.Av
open Go Go.RowKit
theorem qza{E:Env}{rd:Option Nat}{N:Nat}{B:Bs}{c:Code}{Q:Exit->Conf->Prop}{C:Conf}(d:Nat){b sz:Nat}{T:TypeId}{ys:List AV}(hd:lkS C.sl d=some (.tp b))(hb:hpF C.hp b=some (.own sz T ys))
  (h:Sm E rd N B c Q ⟨(d,.a (.sl sz ys none))::C.sl,(b,none)::C.hp,C.nx⟩):Sm E rd N B c Q C:=⟨λs hs=>by
 obtain⟨t,S,df⟩:=s;obtain⟨ρ,hF,hR⟩:=hs;simp only at hF hR;have ht:=hR.sl d _ hd;have hok:=hR.hp.ok b _ hb;simp only[SV.ev,qih hok]at ht;rcases hok with⟨rfl,f1⟩|⟨o,ver,cap,pad,f1,f2,f3,f4,f5,f6⟩
 .have hP:=hR.drop (o:=S.length) hb (λo' e7=>by rw[f1.loc]at e7;simp at e7) (.inr (Qs Sx))
  rw[Qs Sx]at hP;refine qv0 (t':=Av.put t d (.sl sz [] none)) (λx=>?_) (h.run ⟨Av.put t d (.sl sz [] none),S,df⟩ ⟨ρ,⟨hF.dm,hF.nd,hF.rig,hF.le,hF.dz⟩,hP.slot d⟩);by_cases e:x=d
  .subst e
   rw[xw,ht];exact f1.wk sz
  .rw[qat _ _ _ _ e]
   exact xd _
 .rw[f1]at ht
  have hP:=hR.drop (o:=o) hb (λo' e7=>by rw[f1]at e7;simpa[zt]using e7.symm) (.inl (by rw[f1];rfl));have hr:=h.run ⟨Av.put t d (.sl sz ys none),S.set o .dead,df⟩ ⟨ρ,⟨λx hx=>?_,hF.nd,hF.rig,hF.le,hF.dz⟩,hP.slot d⟩
  .exact⟨λB0 w0 G a w hL hI=>by
    obtain⟨G1,h1,h2⟩:=hI.osPub (xs:=ys) (sz:=sz) ht f2 rfl f5 f4 (by rw[Qh,zw f4];omega) (by rw[Xl,<-zw f4,Zv])
    exact wpIn_mono (hr.run B0 w0 G1 a w hL h2) λ_ _ _ ⟨G',s',hG,k1,k2⟩=>⟨G',s',h1.trans hG,k1,k2⟩⟩
  .have hm:=hF.dm x hx
   refine⟨?_,hm.2⟩
   have b9:o≠x:=λe=>by
    rw[<-e]at hm;rw[f2]at hm;simp at hm
   simp only;rw[Qf b9]
   exact hm.1⟩
section
variable {E : Env} {rd : Option Nat} {N : Nat} {ops : Array Oper} {K : AS → Prop} {s : AS} {rest : List Oper} {d : Option Tmp} {T : TypeId} {p : String} {af : Array Edge}
theorem q7r{x y:Operand}{t:TypeId}{sz:Nat}{agg:Bool}{o ver off:Nat}{T':TypeId}{cs xs:List AV}{r:AV}(hx:qn N s x=.bx o ver off)(hy:Wk (qn N s y) r)(ho:s.st[o]?=some (.cells ver T' cs))(ht:tyOf E.P t=some (sz,agg))
  (hok:r.okc=true) (hc:r.cells=xs) (m8:xs.length=sz) (h1:∀z∈xs,z.one=true) (i8:off+sz<=cs.length)
  (h:AOps E rd N ops rest K (AS.put ⟨s.t,s.st.set o (.cells ver T' (z6 cs off xs)),s.df⟩ d (.v undef))):AOps E rd N ops (⟨d,.store t x y,T,p,af,none⟩::rest) K s:=by
 refine ze rfl (qmv nofun λB0 w0 G a w _ hI=>?_);have he:=hI.eval_of hx;have fb:=hy _ _ (hI.eval y);have gr:=fb.cells hok;generalize hv:a.eval x=v at he;generalize rj:a.eval y=v2 at fb gr;rw[hc]at gr
 cases he with
 |bx _ _ _ b hn dk hb=>
  obtain⟨_,g1,g2,g3,c,g4,g5,g6⟩:=hI.agree.ob o _ ho;have hb:=hb g1;subst hb;have hcl':RelC G xs v2.cells.toList.toArray:=by simpa using gr
  have d5:v2.cells.size=sz:=by rw[<-gr.1];exact m8
  have i9:∀u∈v2.cells.toList,u.oneCell'=true:=λu hu=>by
   obtain⟨i,hi⟩:=List.getElem?_of_mem hu;obtain⟨z,hz⟩:=qwu hi (Nat.le_of_eq (by simpa using gr.1.symm));exact(gr.2 i z u hz (by simpa using hi)).one (h1 z (Qq hz))
  have e8:=run_storeCells_at E.P (G.ob o).blk off T' v2.cells.toList 0 c w g4 (by simp[d5];omega) i9;have r8:=qxz (off:=off) g5 g6 hcl' Om;refine⟨_,G,_,?_,.refl G,hI.agree.setRow ho r8.1 r8.2,h⟩;simp only[execOp,hv,rj,Instr.storeAt,Instr.sureAddr];simp[storeVar,(vw ht w).1,d5,e8]
end
section
variable {E : Env} {N : Nat} {ops : Array Oper} {nx : Nat} {sl : List (Nat × SV)} {H : Nat → Option SR} {k : Ef → Prop} {d : Option Tmp} {T : TypeId} {p : String} {af : Array Edge}
theorem qo5{t e:TypeId}{x y:Operand}{b off sz i j sz':Nat}{agg:Bool}{xs:List AV}{z z' u:AV}{v:SV}(hx:sval N sl x=some (.bx b off))(hy:sval N sl y=some v)(hf:frz (resF (b::v.ks) H) v=some u)(hH:H b=some (.own sz e xs))(ht:tyOf E.P t=some (sz',agg))(ho:off=0+i*sz+j)(hz:xs[i]?=some z)(dx:z'.cells=z6 z.cells j u.cells)
  (hj:(u.okc&&Qw u.cells.length sz'&&ke u.cells&&Qo (j+sz') sz)=true) (h:k ⟨.a (.v undef),b::v.ks,[(b,some (.own sz e (xs.set i z')))],nx⟩):∃e,Loc E N ops ⟨d,.store t x y,T,p,af,none⟩ nx sl H e∧k e:=by
 simp only[Qb]at hj;obtain⟨⟨⟨j1,j2⟩,j3⟩,j4⟩:=hj;have j2:=Qc j2;have j4:=Qg j4;have hHb:resF (b::v.ks) H b=some (.own sz e xs):=by unfold resF;simp[memN,hH]
 refine⟨_,λdf rd K rest ρ t' S hs hS hk=>?_,h⟩;rcases hS.ok b _ hHb with⟨rfl,_⟩|⟨o,ver,cap,pad,e1,e2,e3,e4,e5,e6⟩
 .simp at hz
 .subst ho
  obtain⟨q1,q2⟩:=qwp (pad:=pad) e4 hz dx Om;have d8:=lt_of_getElem? hz
  refine q7r (o:=o) (ver:=ver) (off:=0+i*sz+j) (xs:=u.cells) ((q9 hs hx).trans (by simp only[SV.ev,e1,bxAt])) (by rw[q9 hs hy];exact qjk hS v u hf) e2 ht j1 rfl j2 (by simpa[ke]using j3) (by
   have h1:i*sz+sz<=xs.length*sz:=by rw[<-Xq];exact Zg _ d8
   rw[Qh,zw e4]
   omega) ?_
  rw[q1]
  have p8:∀y∈xs.set i z',y.cells.length=sz:=λy hy=>by
   rcases Zt hy with h|rfl
   .exact e4 y h
   .exact q2
  have key:∀k r,chF [(b,some (.own sz e (xs.set i z')))] (resF (b::v.ks) H) k=some r->(k=b∧r=.own sz e (xs.set i z'))∨(k≠b∧resF (b::v.ks) H k=some r):=λk r hk=>by
   simp only[chF,lkS]at hk;by_cases e:b=k
   .subst e
    have:Qw b b=true:=Sx
    rw[this]at hk;simp only[cond_true,Qa]at hk;exact .inl ⟨rfl,hk.symm⟩
   .rw[ju e]at hk
    exact .inr ⟨λh=>e h.symm,hk⟩
  have hloc:∀k r,k≠b->resF (b::v.ks) H k=some r->∀o',zt (ρ k)=some o'->o'≠o:=λk r b9 hk o' e7 e=>hS.sep k b _ _ b9 hk hHb o' e7 (by rw[e1,e];rfl);refine hk ρ _ ⟨λ_ _=>rfl,⟨λk r hk=>?_,λk k' r r' b9 g1 g2=>?_⟩,Sx,λj hj b9=>?_,λk r hk o' e7=>?_⟩
  .rcases key k r hk with⟨rfl,rfl⟩|⟨b9,hk⟩
   .refine .inr ⟨o,ver,cap,pad,by rw[e1,Qr],qa9 e2,?_,p8,by rw[Qr];exact e5,e6⟩
    rw[Qh,zw p8,Qr,<-zw e4,<-Qh];exact e3
   .have h3:=hS.ok k r hk
    cases r with
    |cells T1 cs=>
     obtain⟨o',v',f1,f2,f3⟩:=h3
     exact⟨o',v',f1,(Qf (hloc k _ b9 hk o' (by rw[f1];rfl)).symm).trans f2,f3⟩
    |tip z T1 zs=>exact SR.ok_of (f:=λ_=>false) (r:=.tip z T1 zs) (ρ:=ρ) rfl (λk hk=>by simp at hk) h3 λo' e7=>Qf (hloc k _ b9 hk o' e7).symm
    |own z T1 zs=>exact SR.ok_of (f:=λ_=>false) (r:=.own z T1 zs) (ρ:=ρ) rfl (λk hk=>by simp at hk) h3 λo' e7=>Qf (hloc k _ b9 hk o' e7).symm
    |obj P1=>exact SR.ok_of (f:=λ_=>false) (r:=.obj P1) (ρ:=ρ) rfl (λk hk=>by simp at hk) h3 λo' e7=>Qf (hloc k _ b9 hk o' e7).symm
    |rows T1 ys cs=>exact OwnS.of (show OwnS S 1 T1 (ys++SV.evs ρ cs) (ρ k) from h3) λo' e7=>Qf (hloc k _ b9 hk o' e7).symm
  .rcases key k r g1 with⟨rfl,rfl⟩|⟨n1,g1⟩
   .rcases key k' r' g2 with⟨rfl,rfl⟩|⟨n2,g2⟩
    .exact absurd rfl b9
    .exactλo' e7=>hS.sep _ _ _ _ b9 hHb g2 o' e7
   .rcases key k' r' g2 with⟨rfl,rfl⟩|⟨n2,g2⟩
    .exactλo' e7=>hS.sep _ _ _ _ b9 g1 hHb o' e7
    .exactλo' e7=>hS.sep _ _ _ _ b9 g1 g2 o' e7
  .have:=b9 b _ hHb
   rw[e1]at this;exact Qf (λe=>this (by rw[e];rfl))
  .rcases key k r hk with⟨rfl,rfl⟩|⟨n1,hk⟩
   .exact .inr ⟨k,_,hHb,e7⟩
   .exact .inr ⟨k,_,hk,e7⟩
end
end Go.Av
namespace Go.Pl
open Go Go.Proofs
structure zh where
 kind:Int
 raw:qc
 fields:List Fld
structure PSt where
 lines:List qc
 frm:Int
 full:Bool
 items:List zh
 block:List qc
 fields:List Fld
 records:Int
def ka(p:PSt):Option (Int×Int)×PSt:=
 if p.lines=[]then(none,p)
 else if(zv p.lines).2≠0 then(some (p.frm,(zv p.lines).2),p)
 else if p.full=true then(some (p.frm,11),p)
 else(none,{p with lines:=[],fields:=p.fields++[(zv p.lines).1]})
end Go.Pl
namespace Go.Proofs.YtihlchbgjdkmpaaGreatDoor
open Go Go.Av Go.RowKit Go.Proofs Go.Pl
@[reducible] def kq (x : zh) : AV := .ag [Iv x.kind, Sv x.raw, jl x.fields]
@[reducible] def vr (xs : List zh) : AV := .sl 3 (xs.map kq) none
@[reducible] def parC (c1 c2 c3 c4 : AV) (p : PSt) : List AV := [c1, Iv p.frm, Bv p.full, c2, c3, c4, Iv p.records]
@[reducible] def parO (c1 c2 c3 c4 : AV) (p : PSt) : AObj := .cells 0 211 (parC c1 c2 c3 c4 p)
structure ParS (b o:Nat) (p:PSt) (st:List AObj) (c1 c2 c3 c4:AV):Prop where
 lt:o<b
 le:b<=st.length
 ob:st[o]?=some (parO c1 c2 c3 c4 p)
 h1:TipC b st 1 9 (p.lines.map λx=>Sv x) c1
 h2:TipC b st 3 98 (p.items.map kq) c2
 h3:TipC b st 1 9 (p.block.map λx=>Sv x) c3
 h4:TipC b st 2 77 (p.fields.map fldA) c4
 ne:∀t xs ys,c1=.sl 1 xs (some t)->c3=.sl 1 ys (some t)->False
structure Keep (b o:Nat) (st st':List AObj):Prop where
 len:st.length<=st'.length
 same:∀k,k≠o->k<st.length->(k<b∨qhv st[k]?)->st'[k]?=st[k]?
theorem Keep.trans{b o:Nat}{st st' st'':List AObj}(h:Keep b o st st')(k:Keep b o st' st''):Keep b o st st'':=⟨Ze h.len k.len,λi b9 hi hc=>by
 have e:=h.same i b9 hi hc;refine(k.same i b9 (Nat.lt_of_lt_of_le hi h.len) ?_).trans e;rw[e]
 exact hc⟩
def qjh(a n:Int):AV:=.ifc 115 (.pp [Iv a,.ifc 37 (Iv n)])
def errP:Option (Int×Int)->AV
 |none=>.v .nilIface
 |some (a,n)=>qjh a n
theorem qm1(a n:Int):Pure (qjh a n):=qd4 (qy4 λx hx=>by
 simp only[Zx,List.not_mem_nil,or_false]at hx;rcases hx with rfl|rfl
 .exact qt _
 .exact qd4 (qt _))
theorem qpb(a n:Int)(st:List AObj):qr E 158 [Iv a,.ifc 37 (Iv n)] st λr st'=>r=qjh a n∧st'=st:=by
 refine q5 (qm1 a n) (qs Tryz.func158 rfl (Qg rfl) ?_);repeat' (first|(apply qqc;(iterate 3 exact rfl))|apply qq|apply qh|apply qj|apply ql|apply qi|(apply vq;exact rfl;exact rfl)|(apply yb;(iterate 3 exact rfl))|apply qw)
 exact qo rfl (q7 rfl) ⟨rfl,_,rfl⟩
theorem zdm(ls:List qc)(t:Option Nat)(st:List AObj)(hB:LsB ls)(h:(zv ls).2=0):qr E 218 [.sl 1 (ls.map λx=>Sv x) t] st λr st'=>r=.tu [fldA (zv ls).1,.v .nilIface]∧st'=st:=by
 have:=qpy ls st hB;unfold qii at this;rw[h]at this;exact qsv (qpq _ _ _) this
theorem zdn(ls:List qc)(t:Option Nat)(st:List AObj)(hB:LsB ls)(h:(zv ls).2≠0):qr E 218 [.sl 1 (ls.map λx=>Sv x) t] st λr st'=>r=.tu [fldA (zv ls).1,.ifc 37 (Iv (zv ls).2)]∧st'=st:=by
 have:=qpy ls st hB;unfold qii at this;rw[qno h]at this;exact qsv (qpq _ _ _) this
structure PB (n:Nat) (p:PSt):Prop where
 small:n<900000
 lines:p.lines.length<=n
 linesV:∀s∈p.lines,s.length<1000000
 items:p.items.length<=n
 block:p.block.length<=n
 blockV:∀s∈p.block,s.length<1000000
 fields:p.fields.length<=n
 rec0:0<=p.records
 rec1:p.records<=n
theorem PB.ls{n:Nat}{p:PSt}(h:PB n p):LsB p.lines:=⟨by have:=h.lines;have:=h.small;omega,h.linesV⟩
theorem ParS.pre{b o:Nat}{p:PSt}{st l:List AObj}{c1 c2 c3 c4:AV}(P:ParS b o p st c1 c2 c3 c4):ParS b o p (st++l) c1 c2 c3 c4:=
 ⟨P.lt,by have:=P.le;simp;omega,qc7 P.ob,qlp P.h1,qlp P.h2,qlp P.h3,qlp P.h4,P.ne⟩
end Go.Proofs.YtihlchbgjdkmpaaGreatDoor
