/- Contracts and plain facts that the closing text leans on (part 5). No condition of their own beyond those that each states. -/
import Derived.Test.YtlekheifonaipaaGreatDoorK4
import Derived.Lib.AppendZerosOnto
import Derived.Lib.Overlaps
set_option maxRecDepth 100000
set_option linter.unusedVariables false
set_option linter.unusedSimpArgs false
open Array renaming toList_inj→Qt,range→Qw,getD_eq_getD_getElem?→Qx,getD→Qz,getElem?_toList→Zd,all_eq_true'→Zk,replicate→Zq
open Bool renaming and_eq_true→Qd,false_or→Qy,or_false→Zh,or_true→Zn,not_eq_true'→Zo
open List renaming getElem?_eq_getElem→Qe,all_eq_true→Qk,getElem?_set_ne→Ql,getElem?_map→Qn,getElem?_append_left→Qo,getElem?_cons_zero→Qp,eq_nil_of_length_eq_zero→Qq,map_cons→Qs,mem_filter→Zc,mem_cons_of_mem→Zf,any_cons→Zg,getElem?_take→Zi,length_append→Zj,length_map→Zp,count_cons→Zs,append_nil→Zt,mem_map→Zu,any_nil→Zv
open List.cons renaming injEq→Zw
open Nat renaming eq_of_beq_eq_true→Qb,beq→Qc,blt→Qf,ble→Qh,le_of_ble_eq_true→Qi,le_refl→Qj,le_trans→Qr,zero_le→Qv,zero_add→Zb,mul_le_mul_right→Ze,lt_of_lt_of_le→Zl,succ_mul→Zm,blt_eq→Zr
open Option renaming map_some→Qu,getD_some→Za
open Option.some renaming injEq→Qa
open Prod renaming snd→Qm
open Prod.mk renaming injEq→Qg
namespace Go.Av
open Go Go.RowKit
theorem qvm{P:Program}(w:World)(tS tR e:TypeId)(ht:P.underlying tS=some (.slice e))(size:Nat)(hz:∀w,(Go.sizeOf e).run P w=.ok size w)
  (a b:Addr) (la ca lb cb:Nat) (b9:a.block≠b.block) (tA tB:TypeId) (kA kB:Nat)
  (hsa:w.shape? a.block=some (tA,kA)) (hsb:w.shape? b.block=some (tB,kB)) (hkA:kA≠0)
  (hfb:w.frozen? b=false) (hfe:w.frozen? {block:=b.block,off:=kB}=false):
  (Extern.SlicesOverlaps.overlaps #[tS,tS] #[tR] #[.slice (some a) la ca,.slice (some b) lb cb]).run P w=.ok (.bool false) w:=by
 have hnb:(a.block != b.block)=true:=by simpa using b9
 have hnb':(a.block==b.block)=false:=by simpa using b9
 change Sem.run P (α:=Value) (do
  let some t:=(#[tS,tS]:Array TypeId)[0]?|stuck "slices.overlaps: no parameter types"
  let .slice elem <-underlying t|stuck "slices.overlaps: slice type expected"
  let size <-sizeOf elem
  match(some a:Option Addr),(some b:Option Addr)with
  |some a,some b=>
   if la=0∨lb=0∨size=0 then pure (Value.bool false)
   else if a.block != b.block&&(<-frozen a)&&(<-frozen b)then unsupported .addressObserved
   else do
    if a.block != b.block then do
     noView a;noView b
     if <-mayBeOne a b then return Value.bool ((<-choose (.extern "sameAddr.stringBytes" 2))==1)
    pure (Value.bool (a.block==b.block&&a.off<b.off+lb*size&&b.off<a.off+la*size))
  |_,_=>pure (Value.bool false)) w=_
 by_cases h0:la=0∨lb=0∨size=0
 .simp[run_underlying ht,hz,h0]
 .cases kA with
  |zero=>exact absurd rfl hkA
  |succ kA=>
   cases hA:w.frozen? a<;>cases mb:w.frozen? {block:=a.block,off:=kA+1}<;>
    simp[run_underlying ht,hz,h0,hnb,hnb',frozen,noView,viewAt,mayBeOne,stringish,shape,Sem.run,hsa,hsb,hfb,hfe,hA,mb]
section
variable {E : Env} {rd : Option Nat} {N : Nat} {ops : Array Oper} {K : AS → Prop} {s : AS} {rest : List Oper} {d : Option Tmp} {T : TypeId} {p : String} {af : Array Edge}
theorem qwd{x:Operand}{t0 e:TypeId}{ts:Array TypeId}{o ver off len cap:Nat}(hx:ql N s x=.os o ver off len cap)(ht:ts[0]?=some t0)(hu:E.P.underlying t0=some (.slice e))
  (h:AOps E rd N ops rest K (s.put d (Iv cap))):AOps E rd N ops (⟨d,.call ⟨.builtin .cap,#[x],ts⟩,T,p,af,none⟩::rest) K s:=by
 refine q9 rfl (q8 nofun λB0 w0 G a w _ hI=>?_);have he:=hI.eval_of hx;generalize hv:a.eval x=v at he
 cases he with
 |os _ _ _ _ b _ hn hvr hb=>
  refine⟨_,w,G,_,s.st,?_,.refl G,hI.agree,.v _,h⟩;generalize a.eval=ρ at hv⊢;simp[execOp,resolve,invoke,builtin,hv,Builtin.cap_,ht,run_underlying hu,goInt]
theorem quh{x y:Operand}{t u T':TypeId}{kn:IntKind}{sz bytes o ver n cap k:Nat}{cs:List AV}(hx:ql N s x=.os o ver 0 n cap)(hy:ql N s y=Iv (k:Nat))(ho:s.st[o]?=some (.cells ver T' cs))
  (ht:E.P.underlying t=some (.slice T')) (hu:E.P.underlying u=some (.int kn)) (hT:y0 E.P T' sz bytes) (r6:cap<n+k) (hk:0<k) (o6:0<sz) (i9:n*sz<=cs.length) (u7:n+k<=maxLen) (hb:(n+k)*bytes<=140737488355328)
  (h:∀cap'(zs:List AV),zs.length=(cap'-n)*sz->n+k<=cap'->cap'<=maxLen->AOps E rd N ops rest K (AS.put ⟨s.t,s.st++[.cells 0 T' (cs.take (n*sz)++zs)],s.df⟩ d (.os s.st.length 0 0 (n+k) cap'))):AOps E rd N ops (⟨d,.call ⟨.builtin .append,#[x,y],#[t,u]⟩,T,p,af,none⟩::rest) K s:=by
 refine q9 rfl (q8 nofun λB0 w0 G a0 w _ hI=>?_);obtain⟨i,z,hi,hz,rfl,rfl,pj⟩:=hT.ex;have hyv:=hI.evalv hy;have hv:=hI.eval_of hx;generalize dk:a0.eval x=v at hv;obtain⟨g0,g1,g2,g3,c,g4,g5,g6⟩:=hI.agree.ob o _ ho
 cases hv with
 |os _ _ _ _ b _ hn hv gx=>
  have gx:=gx g1;subst gx
  have i5:(Builtin.firstCells i.size n (.slice (some ⟨(G.ob o).blk,0,none⟩) n cap)).run E.P w.drew=.ok (c.toList.take (n*i.size)).toArray w.drew:=by
   refine run_firstCells_some w.drew i.size n ⟨(G.ob o).blk,0,none⟩ n cap _ So λj y hy=>?_;have e1':w.drew.heap[(G.ob o).blk]?=some (.cells c T' (0,0)):=g4;rw[Addr.add_lit];rw[Zi]at hy;split at hy
   .simp only[Zd]at hy
    simp[World.cell?,e1',hy]
   .simp at hy
  have hkb:k*i.bytes<=(n+k)*i.bytes:=Ze _ Om;have a8:=Lib.run_append_grow_zeros w t u T T' i z .i64 kn ht hu hi hz (some ⟨(G.ob o).blk,0,none⟩) n cap _ i5 k hk o6 r6 (by simp only[maxLen]at u7;omega) Om (growslice_fits Om hb);have ft:=grownCap_ge w (n+k) cap T';have d7:=grownCap_le_maxLen w (n+k) cap T' u7;generalize grownCap w (n+k) cap T'=cap' at a8 ft d7;have hzl:(Builtin.zeroCells z.cells k).size=k*i.size:=by rw[size_zeroCells,pj]
  have hzl2:(Builtin.zeroCells z.cells (cap'-(n+k))).size=(cap'-(n+k))*i.size:=by rw[size_zeroCells,pj]
  generalize Builtin.zeroCells z.cells k=zc at a8 hzl;generalize Builtin.zeroCells z.cells (cap'-(n+k))=zd at a8 hzl2;have bv:Below w.heap.size w w.drew:=⟨rfl,rfl,rfl,Qj _,λ_ _=>rfl⟩
  have e1:∀(j:Nat)(a:AV)(b:Value),(cs.take (n*i.size))[j]?=some a->(c.toList.take (n*i.size))[j]?=some b->Rel G a b:=λj a b h1 h2=>by
   rw[Zi]at h1 h2;split at h1
   .rename_i hj
    rw[if_pos hj]at h2;exact g6 j a b h1 (by simpa using h2)
   .simp at h1
  have hr:=qby (G:=G) (cs:=cs.take (n*i.size)) (ds:=(zc.toList++zd.toList).map AV.v) (vs:=c.toList.take (n*i.size)) (us:=zc.toList++zd.toList) So e1 (λj a b h1 h2=>by
   rw[Qn,h2]at h1;simp at h1;subst h1
   exact .v _)
  have hA:=(hI.agree.fresh bv).newCells T' ((c.toList.take (n*i.size)).toArray++zc++zd) (cs.take (n*i.size)++(zc.toList++zd.toList).map AV.v) So (λj a b q1 q2=>hr j a b q1 (by rw[<-q2];simp[<-Zd]));have hn:=hI.agree.n;refine⟨_,_,_,_,_,?_,G.le_new _ _ _ _,hA,.os _ _ _ _ _ _ (by simp[Gh.new,hn]) (Qv _) (λ_=>by simp[Gh.new,hn];rfl),h cap' _ ?_ ft d7⟩
  .generalize a0.eval=ρ at a8 dk hyv⊢
   simp[execOp,resolve,invoke,builtin,dk,hyv,a8]
  .have h1:zc.toList.length=k*i.size:=by rw[<-hzl];simp
   have h2:zd.toList.length=(cap'-(n+k))*i.size:=by rw[<-hzl2];simp
   rw[Zp,Zj,h1,h2,<-Nat.add_mul];congr 1;omega
theorem q23{f:FuncId}{x y:Operand}{ts:Array TypeId}{T':TypeId}{sz o ver off n c:Nat}{xs cs:List AV}{tip:Option Nat}(hx:ql N s x=.sl sz xs tip)(hy:ql N s y=.os o ver off n c)(ho:s.st[o]?=some (.cells ver T' cs))(nc:flat xs≠[])
  (a8:∀(w:World)(a b:Addr)(la ca lb cb:Nat)(tA tB:TypeId)(kA kB:Nat),a.block≠b.block->w.shape? a.block=some (tA,kA)->w.shape? b.block=some (tB,kB)->kA≠0->w.frozen? b=false->w.frozen? {block:=b.block,off:=kB}=false->(callFunc f #[.slice (some a) la ca,.slice (some b) lb cb]).run E.P w=.ok (.value (.bool false)) w)
  (h:AOps E rd N ops rest K (s.put d (Bv false))):AOps E rd N ops (⟨d,.call ⟨.value (.func f),#[x,y],ts⟩,T,p,af,none⟩::rest) K s:=by
 refine q9 rfl (q8 nofun λB0 w0 G a w _ hI=>?_);have h1:=hI.eval_of hx;have h2:=hI.eval_of hy;generalize hvx:a.eval x=v at h1;generalize hvy:a.eval y=u at h2;obtain⟨g0,g1,g2,g3,cc,g4,g5,g6⟩:=hI.agree.ob o _ ho
 cases h1 with
 |sl0=>exact absurd rfl nc
 |sl _ _ _ b off2 cap pub hp hw d5 hr rm hcap0=>
  cases h2 with
  |os _ _ _ _ b2 _ hn hv hb=>
   have hb:=hb g1;subst hb;obtain⟨c2,T2,fz,q1,q2⟩:=hI.agree.pub b pub hp;have b9:b≠(G.ob o).blk:=λe=>by rw[e,g3]at hp;simp at hp
   have hc2:c2.size≠0:=λe=>by
    have h0:0<(flat xs).length:=List.length_pos_iff.2 nc;have h3:pub[off2]?=some pub[off2]:=Qe Om;have:=q2 off2 _ h3;rw[Array.getElem?_eq_none Om]at this;simp at this
   have hq:=a8 w ⟨b,off2,none⟩ ⟨(G.ob o).blk,off,none⟩ xs.length cap n c T2 T' c2.size cc.size b9 (by simp[World.shape?,q1]) (by simp[World.shape?,g4]) hc2 (by simp[World.frozen?,g4]) (by simp[World.frozen?,g4]);refine⟨_,w,G,_,s.st,?_,.refl G,hI.agree,.v _,h⟩;have he:a.eval (.func f)=.func (.func f) #[] #[]:=rfl;generalize a.eval=ρ at he hvx hvy⊢;simp[execOp,resolve,Deferred.ofValue,he,invoke,hvx,hvy,hq]
theorem q4m{x y:Operand}{t e:TypeId}{sz:Nat}{agg:Bool}{c:AV}(hx:ql N s x=c)(hc:∀(G:Gh)(v:Value),Rel G c v->∃base,v=.slice base 0 0)(hu:E.P.underlying t=some (.slice e))(ht:tyOf E.P e=some (sz,agg))(hy:∃k,ql N s y=.v (.int k 0))
  (h:AOps E rd N ops rest K (s.put d c)):AOps E rd N ops (⟨d,.slice t x (some y) none none,T,p,af,none⟩::rest) K s:=by
 refine q9 rfl (q8 nofun λB0 w0 G a w _ hI=>?_);have he:=hI.eval_of hx;obtain⟨base,hv⟩:=hc _ _ he;have a8:=qyo hu ht base 0 0 (some (a.eval y)) none none 0 0 0 w (by obtain⟨k,hy⟩:=hy;exact⟨k,hI.evalv hy⟩) ⟨rfl,rfl⟩ rfl (Qj _) (Qj _) (Qj _);refine⟨.slice base 0 0,w,G,c,s.st,?_,.refl G,hI.agree,by rw[<-hv];exact he,h⟩;generalize a.eval=ρ at hv a8⊢;simp only[execOp,hv];simp[Instr.sliceAt,run_underlying hu,a8]
theorem qwh{l:List Oper}(L:List (Nat×AV))(st':List AObj)(df':List Nat)(h:HasL s.t L)(e7:s.st=st')(m8:s.df=df')(k:∀t,AOps E rd N ops l K ⟨puts t L,st',df'⟩):AOps E rd N ops l K s:=by
 have:=k s.t;rw[qk4 h,<-e7,<-m8]at this;exact this
end
end Go.Av
namespace Go.Av
open Go Go.RowKit
def qg4(o:Oper):Bool:=match o.op with
 |.defer _=>false
 |_=>true
theorem qxx{o:Oper}(h:qg4 o=true):∀c,o.op≠.defer c:=λc e=>by
 unfold qg4 at h;rw[e]at h;simp at h
theorem zh9{P:Program}{ops:Array Oper}{Q:Exit->Act->World->Prop}{l i:Nat}{K:Act->World->Prop}{a:Act}{w:World}(dq:∀o,ops[i]?=some o->qg4 o=true)(h:wpOpIn (fw none) 0 P ops Q i K a w):wpOpIn (fw (some l)) 0 P ops Q i K a w:=by
 unfold wpOpIn at *
 cases ho:ops[i]?with
 |none=>simp only[ho]at h⊢;exact h
 |some o=>
  simp only[ho]at h⊢;split
  .rename_i hw
   rw[if_pos hw]at h;unfold Oper.wpIn at *;rw[qgq (rd:=none) (qxx (dq o ho))]at h;rw[qgq (rd:=some l) (qxx (dq o ho))];exact h
  .rename_i hw
   rw[if_neg hw]at h;exact h
theorem qy4{P:Program}{ops:Array Oper}{Q:Exit->Act->World->Prop}{l:Nat}{md:Region.Mode}(dq:ops.all qg4=true):∀(fuel:Nat)(listed:Array Bool)(a:Act)(w:World),wpAnyIn (fw none) 0 P md ops Q fuel listed a w->wpAnyIn (fw (some l)) 0 P md ops Q fuel listed a w
 |0,_,_,_,h=>h
 |fuel+1,listed,a,w,h=>⟨h.1,λi hi=>zh9 (λo ho=>by
   rw[Array.all_eq_true]at dq;obtain⟨h1,h2⟩:=Array.getElem?_eq_some_iff.1 ho;rw[<-h2]
   exact dq i h1) (wpOpIn_mono (λa w=>qy4 dq fuel _ a w) (h.2 i hi))⟩
theorem zcg{E:Env}{rd:Option Nat}{N:Nat}{ops:Array Oper}{s:AS}{id:Nat}{Q:Exit->AS->Prop}{n:Nat}(hm:E.P.follows .mixedOrders=true)(hd:ops.all qg4=true)(hn:ops.size=n)(h:AZ E N ops n (Zq n false) (Q .normal) s):AWp E rd N (.region id ops true) Q s:=by
 cases rd with
 |none=>exact ql2 hm hn h
 |some l=>
  subst hn;refine⟨λB0 w0 G a w hL hI=>?_⟩;have hBl:Below w.heap.size w {w with drawn:=w.drawn+1}:=⟨rfl,rfl,rfl,Qj _,λ_ _=>rfl⟩;have tb:Inv B0 w0 N G s a {w with drawn:=w.drawn+1}:=⟨hI.agree.fresh hBl,hI.defers,hI.size,hI.tmps⟩;have:=h.run B0 w0 G a _ hL tb (λa' w'=>∃(G':Gh)(s':AS),G.le G'∧Inv B0 w0 N G' s' a' w'∧Q .normal s') λG' s' a' w' hG s9 hk=>⟨G',s',hG,s9,hk⟩;refine wpIn_mono (wpIn_region_any hm (qy4 hd _ _ _ _ this)) λe a' w' hq=>?_
  cases e with
  |normal=>exact hq
  |_=>exact hq.elim
def qeo(o:Oper):List Nat:=(o.after.toList.filter λe=>Region.binds .any e).map (·.on)
def addL(L:Nat->Bool)(i:Nat):Nat->Bool:=λk=>Qc k i||L k
def qjo:Nat->List Oper->Bool
 |_,[]=>true
 |i,o::r=>(qeo o).all (λj=>Qf j i)&&qjo (i+1) r
def qqo(E:Env)(N:Nat)(ops:Array Oper)(J:(Nat->Bool)->AS->Prop):Nat->List Oper->Prop
 |_,[]=>True
 |i,o::r=>(∀L s,L i=false->(∀j,(qeo o).contains j=true->L j=true)->J L s->AOps E none N ops [o] (J (addL L i)) s)∧qqo E N ops J (i+1) r
theorem qyt{E:Env}{N:Nat}{ops:Array Oper}{J:(Nat->Bool)->AS->Prop}:∀{l:List Oper}{i0 k:Nat}{o:Oper},qqo E N ops J i0 l->l[k]?=some o->
  ∀L s,L (i0+k)=false->(∀j,(qeo o).contains j=true->L j=true)->J L s->AOps E none N ops [o] (J (addL L (i0+k))) s
 | [],_,_,_,_,h=>by simp at h
 |o'::r,i0,0,o,hs,h=>by
  simp only[Qp,Qa]at h;subst h
  exact hs.1
 |o'::r,i0,k+1,o,hs,h=>by
  have:=qyt hs.2 (by simpa using h);rw[show i0+1+k=i0+(k+1)by omega]at this;exact this
theorem qxa:∀{l:List Oper}{i0 k:Nat}{o:Oper},qjo i0 l=true->l[k]?=some o->∀j∈qeo o,j<i0+k
 | [],_,_,_,_,h=>by simp at h
 |o'::r,i0,0,o,hs,h=>by
  simp only[Qp,Qa]at h;subst h;simp only[qjo,Qd]at hs;intro j hj;have:=Qk.1 hs.1 j hj
  simpa[Zr]using this
 |o'::r,i0,k+1,o,hs,h=>by
  simp only[qjo,Qd]at hs;have:=qxa hs.2 (show r[k]?=some o by simpa using h);intro j hj;have:=this j hj;omega
def lof(listed:Array Bool):Nat->Bool:=λk=>listed.getD k false
theorem zm6{listed:Array Bool}{i:Nat}(hi:i<listed.size):lof (listed.setIfInBounds i true)=addL (lof listed) i:=by
 funext k;unfold lof addL;by_cases h:k=i
 .subst h
  simp[Qz,hi]
 .have hb:Qc k i=false:=jv h
  rw[hb,Qy];simp only[Qx,Array.getElem?_setIfInBounds];rw[if_neg (λe=>h e.symm)]
theorem q00:∀{l:List Bool}{i:Nat},l[i]?=some false->(l.set i true).count false+1=l.count false
 | [],_,h=>by simp at h
 |b::l,0,h=>by
  simp only[Qp,Qa]at h;subst h
  simp
 |b::l,i+1,h=>by
  have:=q00 (l:=l) (i:=i) (by simpa using h);rw[List.set_cons_succ,Zs,Zs];omega
theorem qr0{l:List Oper}{listed:Array Bool}{i:Nat}:i∈Region.ready .any l.toArray listed↔listed.getD i true=false∧∃o,l[i]?=some o∧∀j∈qeo o,lof listed j=true:=by
 unfold Region.ready;simp only[Zc,List.mem_range,Qd,Zo,List.size_toArray,List.getElem?_toArray];constructor
 .rintro⟨h1,h2,h3⟩
  refine⟨h2,l[i],Qe h1,λj hj=>?_⟩;rw[Qe h1]at h3;simp only[Qu,Za]at h3;unfold qeo at hj;obtain⟨e,he,rfl⟩:=Zu.1 hj;obtain⟨he1,he2⟩:=Zc.1 he;have:=Zk.1 h3 e (by simpa using he1);rw[he2]at this
  simpa[lof]using this
 .rintro⟨h2,o,ho,h3⟩
  refine⟨lt_of_getElem? ho,h2,?_⟩;rw[ho];simp only[Qu,Za];rw[Zk];intro e he
  cases hb:Region.binds .any e with
  |false=>rfl
  |true=>
   have:=h3 e.on (by
    unfold qeo
    exact Zu.2 ⟨e,Zc.2 ⟨by simpa using he,hb⟩,rfl⟩)
   simpa[lof]using this
theorem q38{P:Nat->Prop}:∀{l:List Nat},(∀i∈l,P i)->q3j P l
 | [],_=>trivial
 |i::r,h=>⟨h i Sx,q38 λj hj=>h j (by simp[hj])⟩
theorem AOps.mono'{E:Env}{rd:Option Nat}{N:Nat}{ops:Array Oper}{K K':AS->Prop}{s:AS}{l:List Oper}(h:AOps E rd N ops l K' s)(hk:∀s,K' s->K s):AOps E rd N ops l K s:=
 ⟨λB0 w0 G a w hL hI Q hQ=>h.run B0 w0 G a w hL hI Q λG' s' a' w' hG s9 hK=>hQ G' s' a' w' hG s9 (hk _ hK)⟩
theorem az_J{E:Env}{N:Nat}{l:List Oper}{J:(Nat->Bool)->AS->Prop}{K:AS->Prop}(hd:qjo 0 l=true)(hs:qqo E N l.toArray J 0 l)(fp:∀L s,(∀i,i<l.length->L i=true)->J L s->K s):
  ∀(fuel:Nat)(listed:Array Bool)(s:AS),listed.size=l.length->listed.toList.count false<=fuel->J (lof listed) s->AZ E N l.toArray fuel listed K s:=by
 intro fuel
 induction fuel with
 |zero=>
  intro listed s o6 hc hJ
  have bm:∀i,i<l.length->lof listed i=true:=λi hi=>by
   have h0:listed.toList.count false=0:=Om
   have hi':i<listed.size:=Om
   have fg:lof listed i=listed[i]:=by simp[lof,hi']
   rw[fg]
   cases hb:listed[i]with
   |true=>rfl
   |false=>exact absurd (by rw[<-hb];simp) (List.count_eq_zero.1 h0)
  have hr:Region.ready .any l.toArray listed=[]:=by
   rw[List.eq_nil_iff_forall_not_mem];intro i hi;obtain⟨h1,o,ho,_⟩:=qr0.1 hi;have hi':=lt_of_getElem? ho;have:=bm i hi';unfold lof at this;have lj:i<listed.size:=Om
   simp only[Qz,lj,dite_true]at this h1;rw[this]at h1;simp at h1
  exact qeb hr (fp _ s bm hJ)
 |succ fuel ih=>
  intro listed s o6 hc hJ;by_cases hr:Region.ready .any l.toArray listed=[]
  .refine qeb hr (fp _ s (λi=>?_) hJ)
   induction i using Nat.strongRecOn with
   |_ i ihi=>
    intro hi
    cases hb:lof listed i with
    |true=>rfl
    |false=>
     exfalso
     have hm:i∈Region.ready .any l.toArray listed:=by
      refine qr0.2 ⟨?_,l[i],Qe hi,λj hj=>?_⟩
      .have lj:i<listed.size:=by omega
       unfold lof at hb;simp only[Qz,lj,dite_true]at hb⊢;exact hb
      .have:=qxa hd (Qe hi) j hj
       exact ihi j Om Om
     rw[hr]at hm;simp at hm
  .refine x2 _ rfl ?_ (q38 λi hi=>?_)
   .cases h:Region.ready .any l.toArray listed with
    |nil=>exact absurd h hr
    |cons a r=>rfl
   .obtain⟨h1,o,ho,h3⟩:=qr0.1 hi
    have fc:=lt_of_getElem? ho;have lj:i<listed.size:=Om
    refine⟨o,by simpa using ho,?_⟩
    have hl:lof listed i=false:=by
     unfold lof;simp only[Qz,lj,dite_true]at h1⊢;exact h1
    have:=qyt hs ho (lof listed) s (by rw[Zb];exact hl) (λj hj=>h3 j (by simpa using hj)) hJ;rw[Zb]at this;refine this.mono' λs' hJ'=>ih _ s' (by simpa using o6) ?_ (by rw[zm6 lj];exact hJ')
    have hg:listed.toList[i]?=some false:=by
     have:listed[i]=false:=by
      simp only[Qz,lj,dite_true]at h1;exact h1
     simp[lj,this]
    have:=q00 hg;rw[Array.toList_setIfInBounds];omega
theorem zev{E:Env}{rd:Option Nat}{N:Nat}{s:AS}{id:Nat}{l:List Oper}{Q:Exit->AS->Prop}(hm:E.P.follows .mixedOrders=true)(dq:l.toArray.all qg4=true)(hd:qjo 0 l=true)(J:(Nat->Bool)->AS->Prop)
  (h0:J (λ_=>false) s) (fp:∀L s,(∀i,i<l.length->L i=true)->J L s->Q .normal s) (hs:qqo E N l.toArray J 0 l):AWp E rd N (.region id l.toArray true) Q s:=by
 refine zcg hm dq (n:=l.length) Sx (az_J hd hs fp _ _ _ Sx ?_ ?_)
 .simp only[Array.toList_replicate,List.count_replicate]
  split <;>omega
 .have:lof (Zq l.length false)=λ_=>false:=by
   funext k;unfold lof;simp only[Qx,Array.getElem?_replicate];split <;>rfl
  rw[this];exact h0
inductive SV where
 |a (x:AV)
 |i (n:Int)
 |s (l:List UInt8)
 |tt
 |ff
 |b (c:Bool)
 |p (q:Prop) (h:Decidable q)
 |bx (k off:Nat)
 |tp (k:Nat)
 |ag (cs:List SV)
 |tu (cs:List SV)
 |fn (f:Fn) (xs ys:List SV)
 |ifc (t:TypeId) (x:SV)
def bxAt:AV->Nat->AV
 |.bx o v _,off=>.bx o v off
 |.os o v _ _ _,off=>.bx o v off
 |_,off=>.bx 0 0 off
def tpAt(x:AV):AV:=bif x.one then x else Bv false
mutual
def SV.ev(ρ:Nat->AV):SV->AV
 |.a x=>x
 |.i n=>Iv n
 |.s l=>Sv l
 |.tt=>Bv true
 |.ff=>Bv false
 |.b c=>Bv c
 |.p q h=>Bv (@decide q h)
 |.bx k off=>bxAt (ρ k) off
 |.tp k=>tpAt (ρ k)
 |.ag cs=>.ag (SV.evs ρ cs)
 |.tu cs=>.tu (SV.evs ρ cs)
 |.fn f xs ys=>.fn f (SV.evs ρ xs) (SV.evs ρ ys)
 |.ifc t x=>.ifc t (SV.ev ρ x)
def SV.evs(ρ:Nat->AV):List SV->List AV
 | []=>[]
 |x::r=>SV.ev ρ x::SV.evs ρ r
end
mutual
def SV.all(f:Nat->Bool):SV->Bool
 |.bx k _=>f k
 |.tp k=>f k
 |.ag cs=>SV.alls f cs
 |.tu cs=>SV.alls f cs
 |.fn _ xs ys=>SV.alls f xs&&SV.alls f ys
 |.ifc _ x=>SV.all f x
 |_=>true
def SV.alls(f:Nat->Bool):List SV->Bool
 | []=>true
 |x::r=>SV.all f x&&SV.alls f r
end
theorem xp(ρ:Nat->AV):∀l:List SV,SV.evs ρ l=l.map (SV.ev ρ)
 | []=>rfl
 |x::r=>by rw[SV.evs,xp ρ r];rfl
mutual
theorem qbm{f:Nat->Bool}{ρ ρ':Nat->AV}(h:∀k,f k=true->ρ' k=ρ k):∀v:SV,v.all f=true->v.ev ρ'=v.ev ρ
 |.a _,_=>rfl
 |.i _,_=>rfl
 |.s _,_=>rfl
 |.tt,_=>rfl
 |.ff,_=>rfl
 |.b _,_=>rfl
 |.p _ _,_=>rfl
 |.bx k off,hv=>by simp only[SV.all]at hv;simp only[SV.ev,h k hv]
 |.tp k,hv=>by simp only[SV.all]at hv;simp only[SV.ev,h k hv]
 |.ag cs,hv=>by simp only[SV.all]at hv;simp only[SV.ev,qbx h cs hv]
 |.tu cs,hv=>by simp only[SV.all]at hv;simp only[SV.ev,qbx h cs hv]
 |.fn f xs ys,hv=>by simp only[SV.all,Qd]at hv;simp only[SV.ev,qbx h xs hv.1,qbx h ys hv.2]
 |.ifc t x,hv=>by simp only[SV.all]at hv;simp only[SV.ev,qbm h x hv]
theorem qbx{f:Nat->Bool}{ρ ρ':Nat->AV}(h:∀k,f k=true->ρ' k=ρ k):∀l:List SV,SV.alls f l=true->SV.evs ρ' l=SV.evs ρ l
 | [],_=>rfl
 |x::r,hv=>by simp only[SV.alls,Qd]at hv;simp only[SV.evs,qbm h x hv.1,qbx h r hv.2]
end
mutual
theorem all_mono{f g:Nat->Bool}(h:∀k,f k=true->g k=true):∀v:SV,v.all f=true->v.all g=true
 |.a _,_=>rfl
 |.i _,_=>rfl
 |.s _,_=>rfl
 |.tt,_=>rfl
 |.ff,_=>rfl
 |.b _,_=>rfl
 |.p _ _,_=>rfl
 |.bx k off,hv=>h k hv
 |.tp k,hv=>h k hv
 |.ag cs,hv=>qer h cs hv
 |.tu cs,hv=>qer h cs hv
 |.fn f xs ys,hv=>by simp only[SV.all,Qd]at hv⊢;exact⟨qer h xs hv.1,qer h ys hv.2⟩
 |.ifc t x,hv=>all_mono h x hv
theorem qer{f g:Nat->Bool}(h:∀k,f k=true->g k=true):∀l:List SV,SV.alls f l=true->SV.alls g l=true
 | [],_=>rfl
 |x::r,hv=>by simp only[SV.alls,Qd]at hv⊢;exact⟨all_mono h x hv.1,qer h r hv.2⟩
end
inductive SR where
 |cells (T:TypeId) (cs:List SV)
 |tip (sz:Nat) (T:TypeId) (xs:List AV)
 |own (sz:Nat) (T:TypeId) (xs:List AV)
 |obj (P:AObj->AV->Prop)
  |rows (T:TypeId) (ys:List AV) (cs:List SV)
def SR.all(f:Nat->Bool):SR->Bool
 |.cells _ cs=>SV.alls f cs
 |.tip _ _ _=>true
 |.own _ _ _=>true
 |.obj _=>true
 |.rows _ _ cs=>SV.alls f cs
structure qd7 (c:AV):Prop where
 val:∀(G:Gh)(v:Value),Rel G c v->∃base,v=.slice base 0 0
 one:c.one=true
 len:lenA c=some 0
 bx:∀(o ver off len cap:Nat),c≠.os o ver off len (cap+1)
 nb:∀(o ver off:Nat),c≠.bx o ver off
 ns:∀(sz:Nat)(xs:List AV)(t:Nat),c≠.sl sz xs (some t)
theorem qvd(base:Option Addr):qd7 (.v (.slice base 0 0)):=⟨λG v h=>by cases h;exact⟨base,rfl⟩,rfl,rfl,Sx,Sx,Sx⟩
theorem qro(o v f:Nat):qd7 (.os o v f 0 0):=⟨λG v h=>by cases h;exact⟨_,rfl⟩,rfl,rfl,Sx,Sx,Sx⟩
def OwnS(S:List AObj)(sz:Nat)(T:TypeId)(xs:List AV)(c:AV):Prop:=
 (xs=[]∧qd7 c)∨∃o ver cap pad,c=.os o ver 0 xs.length (cap+1)∧S[o]?=some (.cells ver T (flat xs++pad))∧(flat xs++pad).length=(cap+1)*sz∧(∀x∈xs,x.cells.length=sz)∧xs.length<=cap+1∧cap+1<=maxLen
def zq:AV->Option Nat
 |.bx o _ _=>some o
 |.sl _ _ (some t)=>some t
 |.os o _ _ _ (_+1)=>some o
 |.mp o=>some o
 |_=>none
def SR.ok(ρ:Nat->AV)(S:List AObj)(c:AV):SR->Prop
 |.cells T cs=>∃o v,c=.bx o v 0∧S[o]?=some (.cells v T (SV.evs ρ cs))∧v=0
 |.tip sz T xs=>TipO 0 S sz T xs c
 |.own sz T xs=>OwnS S sz T xs c
 |.obj P=>∃o x,zq c=some o∧S[o]?=some x∧x≠.dfr∧P x c
 |.rows T ys cs=>OwnS S 1 T (ys++SV.evs ρ cs) c
theorem SR.all_mono{f g:Nat->Bool}(h:∀k,f k=true->g k=true):∀r:SR,r.all f=true->r.all g=true
 |.cells _ cs,hr=>qer h cs hr
 |.tip _ _ _,_=>rfl
 |.own _ _ _,_=>rfl
 |.obj _,_=>rfl
 |.rows _ _ cs,hr=>qer h cs hr
theorem qd7.nm{o:Nat}(h:qd7 (.mp o)):False:=by
 obtain⟨_,e⟩:=h.val ⟨λ_=>none,λ_=>⟨0,0,0,true⟩,o+1⟩ (.map (some 0)) (.mp _ _ (Nat.lt_succ_self _) rfl rfl)
 cases e
theorem OwnS.loc{S:List AObj}{sz:Nat}{T:TypeId}{xs:List AV}{c:AV}(h:OwnS S sz T xs c){o:Nat}(ho:zq c=some o):∃ver cap pad,c=.os o ver 0 xs.length (cap+1)∧S[o]?=some (.cells ver T (flat xs++pad))∧(flat xs++pad).length=(cap+1)*sz∧(∀x∈xs,x.cells.length=sz)∧xs.length<=cap+1∧cap+1<=maxLen:=by
 rcases h with⟨_,h⟩|⟨o',ver,cap,pad,rfl,h⟩
 .unfold zq at ho
  split at ho
  .exact absurd rfl (h.nb _ _ _)
  .exact absurd rfl (h.ns _ _ _)
  .exact absurd rfl (h.bx _ _ _ _ _)
  .exact h.nm.elim
  .simp at ho
 .simp only[zq,Qa]at ho
  subst ho;exact⟨ver,cap,pad,rfl,h⟩
theorem qd7.loc{c:AV}(h:qd7 c):zq c=none:=by
 unfold zq;split
 .exact absurd rfl (h.nb _ _ _)
 .exact absurd rfl (h.ns _ _ _)
 .exact absurd rfl (h.bx _ _ _ _ _)
 .exact h.nm.elim
 .rfl
theorem qd7.wk{c:AV}(h:qd7 c)(sz:Nat):∀(G:Gh)(v:Value),Rel G c v->Rel G (.sl sz [] none) v:=λG v hv=>by
 obtain⟨base,rfl⟩:=h.val G v hv;exact .sl0 sz none _ _ Sx
theorem OwnS.of{S S':List AObj}{sz:Nat}{T:TypeId}{xs:List AV}{c:AV}(h:OwnS S sz T xs c)(hs:∀o,zq c=some o->S'[o]?=S[o]?):OwnS S' sz T xs c:=by
 rcases h with h|⟨o,ver,cap,pad,rfl,h1,h2⟩
 .exact .inl h
 .exact .inr ⟨o,ver,cap,pad,rfl,(hs o rfl).trans h1,h2⟩
theorem SR.ok_lt{ρ:Nat->AV}{S:List AObj}{c:AV}{r:SR}(h:r.ok ρ S c){o:Nat}(ho:zq c=some o):o<S.length:=by
 cases r with
 |cells T cs=>
  obtain⟨o',v,rfl,h,_⟩:=h;simp only[zq,Qa]at ho;subst ho
  exact lt_of_getElem? h
 |tip sz T xs=>
  rcases h with(⟨_,rfl⟩|⟨t,rfl,ht,_⟩)|⟨_,o',v,f,rfl⟩
  .simp[zq]at ho
  .simp only[zq,Qa]at ho
   subst ho;exact lt_of_getElem? ht
  .simp[zq]at ho
 |own sz T xs=>
  obtain⟨_,_,_,_,h,_⟩:=OwnS.loc h ho
  exact lt_of_getElem? h
 |obj P=>
  obtain⟨o',x,h1,h2,_⟩:=h;rw[h1,Qa]at ho;subst ho
  exact lt_of_getElem? h2
 |rows T ys cs=>
  obtain⟨_,_,_,_,h,_⟩:=OwnS.loc h ho;exact lt_of_getElem? h
theorem SR.ok_of{ρ ρ':Nat->AV}{S S':List AObj}{c:AV}{r:SR}{f:Nat->Bool}(hf:r.all f=true)(hr:∀k,f k=true->ρ' k=ρ k)(h:r.ok ρ S c)(hs:∀o,zq c=some o->S'[o]?=S[o]?):r.ok ρ' S' c:=by
 cases r with
 |cells T cs=>
  obtain⟨o,v,rfl,h,h0⟩:=h;refine⟨o,v,rfl,?_,h0⟩;rw[hs o rfl,qbx hr cs hf]
  exact h
 |tip sz T xs=>
  rcases h with(⟨h1,h2⟩|⟨t,rfl,ht,h0⟩)|h
  .exact .inl (.inl ⟨h1,h2⟩)
  .exact .inl (.inr ⟨t,rfl,(hs t rfl).trans ht,h0⟩)
  .exact .inr h
 |own sz T xs=>exact OwnS.of h hs
 |obj P=>
  obtain⟨o,x,h1,h2,h3⟩:=h
  exact⟨o,x,h1,(hs o h1).trans h2,h3⟩
 |rows T ys cs=>
  have h2:=OwnS.of (S':=S') (show OwnS S 1 T (ys++SV.evs ρ cs) c from h) hs
  show OwnS S' 1 T (ys++SV.evs ρ' cs) c
  rw[qbx hr cs hf];exact h2
structure SatF (S:List AObj) (ρ:Nat->AV) (H:Nat->Option SR):Prop where
 ok:∀k r,H k=some r->r.ok ρ S (ρ k)
 sep:∀k k' r r',k≠k'->H k=some r->H k'=some r'->∀o,zq (ρ k)=some o->zq (ρ k')≠some o
def lkS{α:Type}:List (Nat×α)->Nat->Option α
 | [],_=>none
 |(i,v)::r,k=>bif Qc i k then some v else lkS r k
theorem qez{α:Type}:∀(l r:List (Nat×α))(k:Nat),lkS (l++r) k=match lkS l k with|some v=>some v|none=>lkS r k
 | [],_,_=>rfl
 |(i,v)::l,r,k=>by
  simp only[List.cons_append,lkS]
  cases Qc i k
  .simp only[cond_false];exact qez l r k
  .rfl
def hpF(hp:List (Nat×Option SR))(k:Nat):Option SR:=match lkS hp k with|some r=>r|none=>none
def chF(ch:List (Nat×Option SR))(H:Nat->Option SR)(k:Nat):Option SR:=match lkS ch k with|some r=>r|none=>H k
theorem zas(ch hp:List (Nat×Option SR)):hpF (ch++hp)=chF ch (hpF hp):=by
 funext k;unfold hpF chF;rw[qez]
 cases lkS ch k<;>rfl
def memN(ks:List Nat)(k:Nat):Bool:=ks.any (Qc k)
def resF(ks:List Nat)(H:Nat->Option SR)(k:Nat):Option SR:=bif memN ks k then H k else none
theorem wr{ks:List Nat}{H:Nat->Option SR}{k:Nat}{r:SR}(h:resF ks H k=some r):memN ks k=true∧H k=some r:=by
 unfold resF at h
 cases hm:memN ks k with
 |true=>rw[hm]at h;exact⟨rfl,h⟩
 |false=>rw[hm]at h;simp at h
theorem SatF.res{S:List AObj}{ρ:Nat->AV}{H:Nat->Option SR}(h:SatF S ρ H)(ks:List Nat):SatF S ρ (resF ks H):=
 ⟨λk r hk=>h.ok k r (wr hk).2,λk k' r r' b9 h1 h2=>h.sep k k' r r' b9 (wr h1).2 (wr h2).2⟩
structure Ef where
 val:SV
 ks:List Nat
 ch:List (Nat×Option SR)
 nx:Nat
def Ef.wf(e:Ef)(nx:Nat):Bool:=Qh nx e.nx&&e.val.all (λk=>Qf k e.nx)&&e.ch.all (λp=>Qf p.1 e.nx&&(memN e.ks p.1||Qh nx p.1)&&match p.2 with|some r=>r.all (λk=>Qf k e.nx)|none=>true)
def SlOk(ρ:Nat->AV)(t:Nat->AV)(sl:List (Nat×SV)):Prop:=∀d v,lkS sl d=some v->t d=v.ev ρ
structure qkc (ρ:Nat->AV) (S:List AObj) (nx:Nat) (H:Nat->Option SR) (e:Ef) (ρ':Nat->AV) (S':List AObj):Prop where
 old:∀k,(k<nx∨e.nx<=k)->ρ' k=ρ k
 sat:SatF S' ρ' (chF e.ch (resF e.ks H))
 len:S.length<=S'.length
 fr:∀j,j<S.length->(∀k r,resF e.ks H k=some r->zq (ρ k)≠some j)->S'[j]?=S[j]?
 loc:∀k r,chF e.ch (resF e.ks H) k=some r->∀o,zq (ρ' k)=some o->S.length<=o∨∃k' r',resF e.ks H k'=some r'∧zq (ρ k')=some o
def Loc(E:Env)(N:Nat)(ops:Array Oper)(o:Oper)(nx:Nat)(sl:List (Nat×SV))(H:Nat->Option SR)(e:Ef):Prop:=
 ∀(df:List Nat)(rd:Option Nat)(K:AS->Prop)(rest:List Oper)(ρ:Nat->AV)(t:Nat->AV)(S:List AObj),SlOk ρ t sl->SatF S ρ (resF e.ks H)->
  (∀ρ' S',qkc ρ S nx H e ρ' S'->AOps E rd N ops rest K (AS.put ⟨t,S',df⟩ o.dst (e.val.ev ρ')))->AOps E rd N ops (o::rest) K ⟨t,S,df⟩
structure Conf where
 sl:List (Nat×SV)
 hp:List (Nat×Option SR)
 nx:Nat
def Conf.app(C:Conf)(d:Option Tmp)(e:Ef):Conf:=⟨match d with|some d=>(d,e.val)::C.sl|none=>C.sl,e.ch++C.hp,e.nx⟩
structure SatR (S0:List AObj) (F:Nat->Prop) (C:Conf) (ρ:Nat->AV) (t:Nat->AV) (S:List AObj):Prop where
 sl:SlOk ρ t C.sl
 hp:SatF S ρ (hpF C.hp)
 own:∀k r,hpF C.hp k=some r->∀o,zq (ρ k)=some o->S0.length<=o∨F o
 low:∀j,j<S0.length->¬F j->S[j]?=S0[j]?
 len:S0.length<=S.length
 wsl:∀d v,lkS C.sl d=some v->v.all (λk=>Qf k C.nx)=true
 whp:∀k r,hpF C.hp k=some r->k<C.nx∧r.all (λk=>Qf k C.nx)=true
structure Bs where
 S0:List AObj
 F:Nat->Prop
 ρ0:Nat->AV
 n0:Nat
 dz:Prop
structure Frm (B:Bs) (C:Conf) (ρ:Nat->AV) (df:List Nat) (S:List AObj):Prop where
 dm:∀d∈df,S[d]?=some .dfr∧B.S0.length<=d
 nd:df.Nodup
 rig:∀k,k<B.n0->ρ k=B.ρ0 k
 le:B.n0<=C.nx
 dz:B.dz->df=[]
def SatC(B:Bs)(C:Conf)(s:AS):Prop:=∃ρ,Frm B C ρ s.df s.st∧SatR B.S0 B.F C ρ s.t s.st
theorem SR.ok_dfr{ρ:Nat->AV}{S:List AObj}{c:AV}{r:SR}(h:r.ok ρ S c){o:Nat}(ho:zq c=some o):S[o]?≠some .dfr:=by
 cases r with
 |cells T cs=>
  obtain⟨o',v,rfl,h,_⟩:=h;simp only[zq,Qa]at ho;subst ho;rw[h]
  simp
 |tip sz T xs=>
  rcases h with(⟨_,rfl⟩|⟨t,rfl,ht,_⟩)|⟨_,o',v,f,rfl⟩
  .simp[zq]at ho
  .simp only[zq,Qa]at ho
   subst ho;rw[ht];simp
  .simp[zq]at ho
 |own sz T xs=>
  obtain⟨_,_,_,_,h,_⟩:=OwnS.loc h ho;rw[h]
  simp
 |obj P=>
  obtain⟨o',x,h1,h2,h3,_⟩:=h;rw[h1,Qa]at ho;subst ho;rw[h2]
  simpa using h3
 |rows T ys cs=>
  obtain⟨_,_,_,_,h,_⟩:=OwnS.loc h ho;rw[h];simp
theorem vi{a b:Nat}(h:Qf a b=true):a<b:=by simpa[Zr]using h
theorem qcl{a b:Nat}(h:a<b):Qf a b=true:=by simpa[Zr]using h
theorem qiq{e:Ef}{nx:Nat}(h:e.wf nx=true):nx<=e.nx∧e.val.all (λk=>Qf k e.nx)=true∧∀p∈e.ch,p.1<e.nx∧(memN e.ks p.1=true∨nx<=p.1)∧∀r,p.2=some r->r.all (λk=>Qf k e.nx)=true:=by
 simp only[Ef.wf,Qd]at h;refine⟨Qi h.1.1,h.1.2,λp hp=>?_⟩;have:=Qk.1 h.2 p hp;simp only[Qd,Bool.or_eq_true]at this;refine⟨vi this.1.1,this.1.2.imp_right Qi,λr hr=>?_⟩;have h3:=this.2;rw[hr]at h3;exact h3
theorem vn{α:Type}:∀{l:List (Nat×α)}{k:Nat}{v:α},lkS l k=some v->(k,v)∈l
 | [],_,_,h=>by simp[lkS]at h
 |(i,x)::r,k,v,h=>by
  unfold lkS at h
  cases hb:Qc i k with
  |true=>
   rw[hb]at h;simp only[cond_true,Qa]at h;have:=Qb hb;subst this;subst h
   simp
  |false=>
   rw[hb]at h;exact Zf _ (vn h)
theorem SatR.stepG{S0:List AObj}{F:Nat->Prop}{C:Conf}{ρ ρ' t:Nat->AV}{S S':List AObj}{e:Ef}{d:Option Tmp}{nx NX:Nat}(h:SatR S0 F C ρ t S)(hN:C.nx<=NX)(w2:e.val.all (λk=>Qf k NX)=true)(w3:∀p∈e.ch,p.1<NX∧∀r,p.2=some r->r.all (λk=>Qf k NX)=true)
  (a1:∀d v,lkS C.sl d=some v->v.all (λk=>Qf k nx||Qh e.nx k)=true) (a2:∀k r,hpF C.hp k=some r->(k<nx∨e.nx<=k)∧r.all (λk=>Qf k nx||Qh e.nx k)=true) (hp:qkc ρ S nx (hpF C.hp) e ρ' S'):
  SatR S0 F ⟨match d with|some d=>(d,e.val)::C.sl|none=>C.sl,e.ch++C.hp,NX⟩ ρ' (AS.put ⟨t,S',[]⟩ d (e.val.ev ρ')).t S':=by
 have hav:∀k,(Qf k nx||Qh e.nx k)=true->ρ' k=ρ k:=λk hk=>by
  rcases Bool.or_eq_true_iff.1 hk with hk|hk
  .exact hp.old k (.inl (vi hk))
  .exact hp.old k (.inr (Qi hk))
 have hev:∀d v,lkS C.sl d=some v->v.ev ρ'=v.ev ρ:=λd v hd=>qbm hav v (a1 d v hd);have hres:∀k r,hpF C.hp k=some r->memN e.ks k=true->resF e.ks (hpF C.hp) k=some r:=λk r h1 h2=>by unfold resF;rw[h2];exact h1
 -- what lies at a name behind the operation
 have key:∀k r,hpF (e.ch++C.hp) k=some r->chF e.ch (resF e.ks (hpF C.hp)) k=some r∨(memN e.ks k=false∧lkS e.ch k=none∧hpF C.hp k=some r):=λk r hk=>by
  rw[zas]at hk;unfold chF at hk⊢
  cases hl:lkS e.ch k with
  |some x=>rw[hl]at hk;exact .inl hk
  |none=>
   rw[hl]at hk;simp only at hk⊢
   cases hm:memN e.ks k with
   |true=>exact .inl (hres k r hk hm)
   |false=>exact .inr ⟨rfl,trivial,hk⟩
 have e7:∀k r,memN e.ks k=false->hpF C.hp k=some r->∀o,zq (ρ k)=some o->S'[o]?=S[o]?∧o<S.length:=λk r hm hk o ho=>by
  have d9:=SR.ok_lt (h.hp.ok k r hk) ho;refine⟨hp.fr o d9 λk' r' bg=>?_,d9⟩;obtain⟨hm',bg⟩:=wr bg;have b9:k≠k':=λe=>by subst e;rw[hm]at hm';simp at hm'
  exact h.hp.sep k k' r r' b9 hk bg o ho
 have hρ:∀k r,hpF C.hp k=some r->ρ' k=ρ k:=λk r hk=>hp.old k (a2 k r hk).1
 have sepx:∀k k' r r',memN e.ks k=false->hpF C.hp k=some r->chF e.ch (resF e.ks (hpF C.hp)) k'=some r'->∀o,zq (ρ' k)=some o->zq (ρ' k')≠some o:=λk k' r r' hm hk bg o ho e8=>by
  rw[hρ k r hk]at ho;obtain⟨_,d9⟩:=e7 k r hm hk o ho;rcases hp.loc k' r' bg o e8 with h1|⟨k2,r2,h2,h3⟩
  .omega
  .obtain⟨tn,s8⟩:=wr h2
   have b9:k≠k2:=λe=>by subst e;rw[hm]at tn;simp at tn
   exact h.hp.sep k k2 r r2 b9 hk s8 o ho h3
 refine⟨?_,⟨?_,?_⟩,?_,?_,Qr h.len hp.len,?_,?_⟩
 .cases d with
  |none=>exactλx v hx=>(h.sl x v hx).trans (hev x v hx).symm
  |some d=>
   intro x v hx;simp only[lkS]at hx;by_cases hd:x=d
   .subst hd
    have hb:Qc x x=true:=Sx
    rw[hb]at hx;simp only[cond_true,Qa]at hx;subst hx;exact xx _ _ _
   .rw[jv (λe=>hd e.symm)]at hx
    simp only[cond_false]at hx;exact(qax _ _ _ _ hd).trans ((h.sl x v hx).trans (hev x v hx).symm)
 .intro k r hk
  rcases key k r hk with h1|⟨hm,_,h1⟩
  .exact hp.sat.ok k r h1
  .rw[hρ k r h1]
   exact SR.ok_of (a2 k r h1).2 hav (h.hp.ok k r h1) λo ho=>(e7 k r hm h1 o ho).1
 .intro k k' r r' b9 hk bg o ho
  rcases key k r hk with h1|⟨hm,_,h1⟩
  .rcases key k' r' bg with h2|⟨tn,_,h2⟩
   .exact hp.sat.sep k k' r r' b9 h1 h2 o ho
   .exactλe8=>sepx k' k r' r tn h2 h1 o e8 ho
  .rcases key k' r' bg with h2|⟨tn,_,h2⟩
   .exact sepx k k' r r' hm h1 h2 o ho
   .rw[hρ k r h1]at ho
    rw[hρ k' r' h2];exact h.hp.sep k k' r r' b9 h1 h2 o ho
 .intro k r hk o ho
  rcases key k r hk with h1|⟨hm,_,h1⟩
  .rcases hp.loc k r h1 o ho with h2|⟨k',r',h2,h3⟩
   .exact .inl (Qr h.len h2)
   .exact h.own k' r' (wr h2).2 o h3
  .rw[hρ k r h1]at ho
   exact h.own k r h1 o ho
 .intro j hj hF
  refine(hp.fr j (Zl hj h.len) λk r hk ho=>?_).trans (h.low j hj hF);rcases h.own k r (wr hk).2 j ho with h1|h1
  .omega
  .exact hF h1
 .intro x v hx
  have i5:lkS C.sl x=some v->v.all (λk=>Qf k NX)=true:=λhx=>all_mono (λk hk=>qcl (by have:=vi hk;omega)) v (h.wsl x v hx)
  cases d with
  |none=>exact i5 hx
  |some d=>
   simp only[lkS]at hx
   cases hb:Qc d x with
   |true=>
    rw[hb]at hx;simp only[cond_true,Qa]at hx;subst hx
    exact w2
   |false=>
    rw[hb]at hx;exact i5 hx
 .intro k r hk
  have i5:hpF C.hp k=some r->k<NX∧r.all (λk=>Qf k NX)=true:=λhk=>⟨by have:=(h.whp k r hk).1;omega,SR.all_mono (λk hk=>qcl (by have:=vi hk;omega)) r (h.whp k r hk).2⟩;rcases key k r hk with h1|⟨_,_,h1⟩
  .unfold chF at h1
   cases hl:lkS e.ch k with
   |some x=>
    rw[hl]at h1;simp only at h1;obtain⟨h2,h3⟩:=w3 _ (vn hl)
    exact⟨h2,h3 r h1⟩
   |none=>
    rw[hl]at h1;exact i5 (wr h1).2
  .exact i5 h1
theorem SatR.step{S0:List AObj}{F:Nat->Prop}{C:Conf}{ρ ρ' t:Nat->AV}{S S':List AObj}{e:Ef}{d:Option Tmp}(h:SatR S0 F C ρ t S)(hw:e.wf C.nx=true)(hp:qkc ρ S C.nx (hpF C.hp) e ρ' S'):
  SatR S0 F (C.app d e) ρ' (AS.put ⟨t,S',[]⟩ d (e.val.ev ρ')).t S':=by
 obtain⟨w1,w2,w3⟩:=qiq hw;exact h.stepG w1 w2 (λp hp=>⟨(w3 p hp).1,(w3 p hp).2.2⟩) (λd v hd=>all_mono (λk hk=>by rw[hk];rfl) v (h.wsl d v hd)) (λk r hk=>⟨.inl (h.whp k r hk).1,SR.all_mono (λk hk=>by rw[hk];rfl) r (h.whp k r hk).2⟩) hp
theorem Frm.nx{B:Bs}{C C':Conf}{ρ:Nat->AV}{S:List AObj}{df:List Nat}(h:Frm B C ρ df S)(hn:B.n0<=C'.nx):Frm B C' ρ df S:=⟨h.dm,h.nd,h.rig,hn,h.dz⟩
theorem Frm.stepG{B:Bs}{C C':Conf}{ρ ρ':Nat->AV}{S S':List AObj}{df:List Nat}{e:Ef}{nx:Nat}{H:Nat->Option SR}(h:Frm B C ρ df S)(hS:SatF S ρ H)(hp:qkc ρ S nx H e ρ' S')(hn:B.n0<=nx)(nw:B.n0<=C'.nx):Frm B C' ρ' df S':=by
 refine⟨λx hx=>?_,h.nd,λk hk=>?_,nw,h.dz⟩
 .have hm:=h.dm x hx
  refine⟨?_,hm.2⟩;rw[hp.fr x (lt_of_getElem? hm.1) λk r hk hl=>?_]
  .exact hm.1
  .exact SR.ok_dfr (hS.ok k r (wr hk).2) hl hm.1
 .rw[hp.old k (.inl (Zl hk hn))]
  exact h.rig k hk
theorem Frm.step{B:Bs}{C:Conf}{ρ ρ':Nat->AV}{S S':List AObj}{df:List Nat}{e:Ef}{d:Option Tmp}(h:Frm B C ρ df S)(hS:SatF S ρ (hpF C.hp))(hw:e.wf C.nx=true)(hp:qkc ρ S C.nx (hpF C.hp) e ρ' S'):Frm B (C.app d e) ρ' df S':=
 h.stepG hS hp h.le (Qr h.le (qiq hw).1)
theorem SatR.dead{S0:List AObj}{F:Nat->Prop}{C:Conf}{ρ t:Nat->AV}{S:List AObj}{d:Nat}(h:SatR S0 F C ρ t S)(hd:S[d]?=some .dfr)(hl:S0.length<=d):SatR S0 F C ρ t (S.set d .dead):=by
 refine⟨h.sl,⟨λk r hk=>?_,h.hp.sep⟩,h.own,λj hj hF=>?_,by simpa using h.len,h.wsl,h.whp⟩
 .refine SR.ok_of (f:=λ_=>true) (SR.all_mono (λ_ _=>rfl) r (h.whp k r hk).2) (λ_ _=>rfl) (h.hp.ok k r hk) λo ho=>?_
  have b9:d≠o:=λe=>SR.ok_dfr (h.hp.ok k r hk) ho (e▸hd);rw[Ql b9]
 .rw[Ql Om]
  exact h.low j hj hF
theorem SR.ok_ct{ρ:Nat->AV}{S:List AObj}{c:AV}{r:SR}(h:r.ok ρ S c){o:Nat}(ho:zq c=some o):(∃T cs v,S[o]?=some (.cells v T cs)∧∃T' cs',r=.cells T' cs')∨(∃m sz T,S[o]?=some (.tip m sz T))∨(∃sz T xs,r=.own sz T xs)∨(∃P,r=.obj P)∨∃T ys cs,r=.rows T ys cs:=by
 cases r with
 |cells T cs=>
  obtain⟨o',v,rfl,h,_⟩:=h;simp only[zq,Qa]at ho;subst ho
  exact .inl ⟨_,_,_,h,_,_,rfl⟩
 |tip sz T xs=>
  rcases h with(⟨_,rfl⟩|⟨t,rfl,ht,_⟩)|⟨_,o',v,f,rfl⟩
  .simp[zq]at ho
  .simp only[zq,Qa]at ho
   subst ho;exact .inr (.inl ⟨_,_,_,ht⟩)
  .simp[zq]at ho
 |own sz T xs=>exact .inr (.inr (.inl ⟨_,_,_,rfl⟩))
 |obj P=>exact .inr (.inr (.inr (.inl ⟨_,rfl⟩)))
 |rows T ys cs=>exact .inr (.inr (.inr (.inr ⟨_,_,_,rfl⟩)))
def qav(hp:List (Nat×Option SR))(ρ:Nat->AV)(o:Nat):Prop:=∃k r,hpF hp k=some r∧zq (ρ k)=some o
theorem SatR.rebase{S0:List AObj}{F:Nat->Prop}{C:Conf}{ρ t:Nat->AV}{S S':List AObj}(h:SatR S0 F C ρ t S)(hs:∀o,qav C.hp ρ o->S'[o]?=S[o]?):SatR S' (qav C.hp ρ) C ρ t S':=
 ⟨h.sl,⟨λk r hk=>SR.ok_of (f:=λ_=>true) (SR.all_mono (λ_ _=>rfl) r (h.whp k r hk).2) (λ_ _=>rfl) (h.hp.ok k r hk) λo ho=>hs o ⟨k,r,hk,ho⟩,h.hp.sep⟩,
  λk r hk o ho=>.inr ⟨k,r,hk,ho⟩,λ_ _ _=>rfl,Qj _,h.wsl,h.whp⟩
def Wk(x r:AV):Prop:=∀(G:Gh)(v:Value),Rel G x v->Rel G r v
theorem xc(x:AV):Wk x x:=λ_ _ h=>h
theorem zp0{x y:AV}(h:x=y):Wk x y:=h▸xc x
theorem zlk(sz:Nat)(xs:List AV)(tip:Option Nat):Wk (.sl sz xs tip) (.sl sz xs none):=λ_ _ h=>qmt h
theorem zeh{xs ys:List AV}(hl:xs.length=ys.length)(h:∀(i:Nat)(x y:AV),xs[i]?=some x->ys[i]?=some y->Wk x y):Wk (.ag xs) (.ag ys):=λG v hr=>by
 cases hr with
 |ag _ vs bj hr=>
  refine .ag _ vs Om λi y b hy hb=>?_;have hi:=lt_of_getElem? hy;have hx:xs[i]?=some (xs[i]'(by omega)):=Qe Om;exact h i _ y hx hy G b (hr i _ b hx hb)
theorem zlu{xs ys:List AV}(hl:xs.length=ys.length)(h:∀(i:Nat)(x y:AV),xs[i]?=some x->ys[i]?=some y->Wk x y):Wk (.tu xs) (.tu ys):=λG v hr=>by
 cases hr with
 |tu _ vs bj hr=>
  refine .tu _ vs Om λi y b hy hb=>?_;have hi:=lt_of_getElem? hy;have hx:xs[i]?=some (xs[i]'(by omega)):=Qe Om;exact h i _ y hx hy G b (hr i _ b hx hb)
theorem zpi{t:TypeId}{x y:AV}(h:Wk x y):Wk (.ifc t x) (.ifc t y):=λG v hr=>by
 cases hr with
 |ifc _ _ z hz=>exact .ifc t y z (h G z hz)
theorem zp1{f:Fn}{a b c d:List AV}(h1:a.length=c.length)(h2:∀(i:Nat)(x y:AV),a[i]?=some x->c[i]?=some y->Wk x y)(h3:b.length=d.length)(h4:∀(i:Nat)(x y:AV),b[i]?=some x->d[i]?=some y->Wk x y):Wk (.fn f a b) (.fn f c d):=λG v hr=>by
 cases hr with
 |fn _ _ _ a' b' g1 g2 g3 g4=>
  refine .fn f c d a' b' Om Om (λi x y hx hy=>?_) (λi x y hx hy=>?_)
  .have hi:i<a.length:=by have:=lt_of_getElem? hx;omega
   have hz:a[i]?=some a[i]:=Qe hi;exact h2 i _ x hz hx G y (g3 i _ y hz hy)
  .have hi:i<b.length:=by have:=lt_of_getElem? hx;omega
   have hz:b[i]?=some b[i]:=Qe hi;exact h4 i _ x hz hx G y (g4 i _ y hz hy)
mutual
def frz(H:Nat->Option SR):SV->Option AV
 |.a x=>some x
 |.i n=>some (Iv n)
 |.s l=>some (Sv l)
 |.tt=>some (Bv true)
 |.ff=>some (Bv false)
 |.b c=>some (Bv c)
 |.p q h=>some (Bv (@decide q h))
 |.bx _ _=>none
 |.tp k=>match H k with
  |some (.tip sz _ xs)=>some (.sl sz xs none)
  |_=>none
 |.ag cs=>match frzs H cs with
  |some l=>some (.ag l)
  |none=>none
 |.tu cs=>match frzs H cs with
  |some l=>some (.tu l)
  |none=>none
 |.fn f xs ys=>match frzs H xs,frzs H ys with
  |some a,some b=>some (.fn f a b)
  |_,_=>none
 |.ifc t x=>match frz H x with
  |some y=>some (.ifc t y)
  |none=>none
def frzs(H:Nat->Option SR):List SV->Option (List AV)
 | []=>some []
 |x::r=>match frz H x,frzs H r with
  |some y,some l=>some (y::l)
  |_,_=>none
end
theorem zgi{x:AV}(h:x.one=true):x.cells=[x]:=by
 cases x<;>first|rfl|simp[AV.one]at h
theorem q0b{b:Nat}{S:List AObj}{sz:Nat}{T:TypeId}{xs:List AV}{c:AV}(h:TipO b S sz T xs c):Wk (tpAt c) (.sl sz xs none)∧c.one=true:=by
 have h1:c.one=true:=by rcases h with(⟨_,rfl⟩|⟨t,rfl,_⟩)|⟨_,o,v,f,rfl⟩<;>rfl
 refine⟨?_,h1⟩;unfold tpAt;rw[h1];exact qpt h
mutual
theorem qjs{S:List AObj}{ρ:Nat->AV}{H:Nat->Option SR}(hS:SatF S ρ H):∀(v:SV)(x:AV),frz H v=some x->Wk (v.ev ρ) x
 |.a y,x,h=>by simp only[frz,Qa]at h;subst h;exact xc _
 |.i y,x,h=>by simp only[frz,Qa]at h;subst h;exact xc _
 |.s y,x,h=>by simp only[frz,Qa]at h;subst h;exact xc _
 |.tt,x,h=>by simp only[frz,Qa]at h;subst h;exact xc _
 |.ff,x,h=>by simp only[frz,Qa]at h;subst h;exact xc _
 |.b y,x,h=>by simp only[frz,Qa]at h;subst h;exact xc _
 |.p q d,x,h=>by simp only[frz,Qa]at h;subst h;exact xc _
 |.bx _ _,x,h=>by simp[frz]at h
 |.tp k,x,h=>by
  simp only[frz]at h;split at h
  .rename_i sz T xs hk
   simp only[Qa]at h;subst h;exact(q0b (hS.ok k _ hk)).1
  .simp at h
 |.ag cs,x,h=>by
  simp only[frz]at h;split at h
  .rename_i l hl
   simp only[Qa]at h;subst h;obtain⟨h1,h2⟩:=qgz hS cs l hl;exact zeh h1 h2
  .simp at h
 |.tu cs,x,h=>by
  simp only[frz]at h;split at h
  .rename_i l hl
   simp only[Qa]at h;subst h;obtain⟨h1,h2⟩:=qgz hS cs l hl;exact zlu h1 h2
  .simp at h
 |.fn f xs ys,x,h=>by
  simp only[frz]at h;split at h
  .rename_i a b ha hb
   simp only[Qa]at h;subst h;obtain⟨h1,h2⟩:=qgz hS xs a ha;obtain⟨h3,h4⟩:=qgz hS ys b hb;exact zp1 h1 h2 h3 h4
  .simp at h
 |.ifc t y,x,h=>by
  simp only[frz]at h;split at h
  .rename_i z hz
   simp only[Qa]at h;subst h;exact zpi (qjs hS y z hz)
  .simp at h
theorem qgz{S:List AObj}{ρ:Nat->AV}{H:Nat->Option SR}(hS:SatF S ρ H):∀(l:List SV)(ys:List AV),frzs H l=some ys->(SV.evs ρ l).length=ys.length∧∀(i:Nat)(x y:AV),(SV.evs ρ l)[i]?=some x->ys[i]?=some y->Wk x y
 | [],ys,h=>by simp only[frzs,Qa]at h;subst h;exact⟨rfl,by simp[SV.evs]⟩
 |v::r,ys,h=>by
  simp only[frzs]at h;split at h
  .rename_i y l hy hl
   simp only[Qa]at h;subst h;obtain⟨h1,h2⟩:=qgz hS r l hl;have h3:=qjs hS v y hy;refine⟨by simp[SV.evs,h1],λi a b ha hb=>?_⟩
   cases i with
   |zero=>simp[SV.evs]at ha hb;subst ha;subst hb;exact h3
   |succ i=>exact h2 i a b (by simpa[SV.evs]using ha) (by simpa using hb)
  .simp at h
end
mutual
def SV.ks:SV->List Nat
 |.bx k _=>[k]
 |.tp k=>[k]
 |.ag cs=>SV.kss cs
 |.tu cs=>SV.kss cs
 |.fn _ xs ys=>SV.kss xs++SV.kss ys
 |.ifc _ x=>SV.ks x
 |_=>[]
def SV.kss:List SV->List Nat
 | []=>[]
 |x::r=>SV.ks x++SV.kss r
end
mutual
def nf:AV->SV
 |.v (.int .i64 n)=>.i n
 |.v (.string ⟨⟨l⟩⟩)=>.s l
 |.v (.bool c)=>.b c
 |.ag cs=>.ag (nfs cs)
 |.tu cs=>.tu (nfs cs)
 |x=>.a x
def nfs:List AV->List SV
 | []=>[]
 |x::r=>nf x::nfs r
end
mutual
theorem qpf(ρ:Nat->AV):∀x:AV,(nf x).ev ρ=x
 |.v x=>by
  unfold nf
  split <;>first|rfl|(rename_i h;cases h;done)|(rename_i h;cases h;rfl)
 |.ag cs=>by simp only[nf,SV.ev,qjv ρ cs]
 |.tu cs=>by simp only[nf,SV.ev,qjv ρ cs]
 |.ifc _ _=>rfl
 |.fn _ _ _=>rfl
 |.sl _ _ _=>rfl
 |.pp _=>rfl
 |.bx _ _ _=>rfl
 |.os _ _ _ _ _=>rfl
 |.mp _=>rfl
 |.yd _=>rfl
theorem qjv(ρ:Nat->AV):∀l:List AV,SV.evs ρ (nfs l)=l
 | []=>rfl
 |x::r=>by simp only[nfs,SV.evs,qpf ρ x,qjv ρ r]
end
mutual
theorem zoz{f:Nat->Bool}:∀x:AV,(nf x).all f=true
 |.v x=>by unfold nf;split <;>first|rfl|(rename_i h;cases h)
 |.ag cs=>by simp only[nf,SV.all];exact qsr cs
 |.tu cs=>by simp only[nf,SV.all];exact qsr cs
 |.ifc _ _=>rfl
 |.fn _ _ _=>rfl
 |.sl _ _ _=>rfl
 |.pp _=>rfl
 |.bx _ _ _=>rfl
 |.os _ _ _ _ _=>rfl
 |.mp _=>rfl
 |.yd _=>rfl
theorem qsr{f:Nat->Bool}:∀l:List AV,SV.alls f (nfs l)=true
 | []=>rfl
 |x::r=>by simp only[nfs,SV.alls,zoz x,qsr r];rfl
end
def cst:Value->SV
 |.bool true=>.tt
 |.bool false=>.ff
 |x=>nf (.v x)
theorem zoi(ρ:Nat->AV)(x:Value):(cst x).ev ρ=.v x:=by
 unfold cst;split
 .rfl
 .rfl
 .exact qpf ρ _
def SV.cells:SV->List SV
 |.ag cs=>cs
 |.a x=>nfs x.cells
 |v=>[v]
theorem qut(ρ:Nat->AV)(v:SV):SV.evs ρ v.cells=(v.ev ρ).cells:=by
 cases v with
 |a x=>exact qjv ρ _
 |bx k off=>simp only[SV.cells,SV.evs,SV.ev];cases ρ k<;>rfl
 |tp k=>simp only[SV.cells,SV.evs,SV.ev,tpAt];cases h:(ρ k).one<;>first|rfl|(simp only[cond_true];exact(zgi h).symm)
 |_=>rfl
def SV.okc:SV->Bool
 |.a x=>x.okc
 |_=>true
theorem q6u(ρ:Nat->AV)(v:SV)(h:v.okc=true):(v.ev ρ).okc=true:=by
 cases v with
 |a x=>exact h
 |bx k off=>simp only[SV.ev];cases ρ k<;>rfl
 |tp k=>
  simp only[SV.ev,tpAt]
  cases h:(ρ k).one
  .rfl
  .simp only[cond_true]
   cases hk:ρ k with
   |v x=>rw[hk]at h;cases x<;>first|rfl|simp[AV.one]at h
   |_=>rfl
 |_=>rfl
def SV.one:SV->Bool
 |.a x=>x.one
 |.ag _=>false
 |.tu _=>false
 |_=>true
theorem znw(ρ:Nat->AV)(v:SV)(h:v.one=true):(v.ev ρ).one=true:=by
 cases v with
 |a x=>exact h
 |bx k off=>simp only[SV.ev];cases ρ k<;>rfl
 |tp k=>simp only[SV.ev,tpAt];cases h:(ρ k).one<;>first|rfl|exact h
 |ag _=>simp[SV.one]at h
 |tu _=>simp[SV.one]at h
 |_=>rfl
def ones(l:List SV):Bool:=l.all SV.one
theorem zbg(ρ:Nat->AV):∀l:List SV,ones l=true->∀z∈SV.evs ρ l,z.one=true
 | [],_,z,hz=>by simp[SV.evs]at hz
 |x::r,h,z,hz=>by
  simp only[ones,List.all_cons,Qd]at h;simp only[SV.evs,List.mem_cons]at hz;rcases hz with rfl|hz
  .exact znw ρ x h.1
  .exact zbg ρ r h.2 z hz
def sval(N:Nat)(sl:List (Nat×SV)):Operand->Option SV
 |.tmp i=>bif Qf i N then lkS sl i else none
 |.const x=>some (cst x)
 |.global g=>some (.a (.v (.pointer (some ⟨g,0,none⟩))))
 |.func f=>some (.a (.fn (.func f) [] []))
theorem q7{N:Nat}{sl:List (Nat×SV)}{ρ t:Nat->AV}{S:List AObj}{df:List Nat}(h:SlOk ρ t sl){x:Operand}{v:SV}(hx:sval N sl x=some v):ql N ⟨t,S,df⟩ x=v.ev ρ:=by
 cases x with
 |tmp i=>
  simp only[sval]at hx;simp only[ql]
  cases hb:Qf i N with
  |true=>rw[hb]at hx;exact h i v hx
  |false=>rw[hb]at hx;simp at hx
 |const x=>simp only[sval,Qa]at hx;subst hx;exact(zoi ρ x).symm
 |global g=>simp only[sval,Qa]at hx;subst hx;rfl
 |func f=>simp only[sval,Qa]at hx;subst hx;rfl
def qpy(N:Nat)(sl:List (Nat×SV)):List Operand->Option (List SV)
 | []=>some []
 |x::r=>match sval N sl x,qpy N sl r with
  |some v,some l=>some (v::l)
  |_,_=>none
theorem qpz{N:Nat}{sl:List (Nat×SV)}{ρ t:Nat->AV}{S:List AObj}{df:List Nat}(h:SlOk ρ t sl):∀{xs:List Operand}{l:List SV},qpy N sl xs=some l->xs.map (ql N ⟨t,S,df⟩)=SV.evs ρ l
 | [],l,hx=>by simp only[qpy,Qa]at hx;subst hx;rfl
 |x::r,l,hx=>by
  simp only[qpy]at hx;split at hx
  .rename_i v l' h1 h2
   simp only[Qa]at hx;subst hx;simp only[Qs,SV.evs,q7 h h1,qpz h h2]
  .simp at hx
section
variable {E : Env} {N : Nat} {ops : Array Oper} {o : Oper} {nx : Nat} {sl : List (Nat × SV)} {H : Nat → Option SR}
theorem qah{v:SV}{ks:List Nat}(h:∀(df:List Nat)(rd:Option Nat)(K:AS->Prop)(rest:List Oper)(ρ t:Nat->AV)(S:List AObj),SlOk ρ t sl->SatF S ρ (resF ks H)->AOps E rd N ops rest K (AS.put ⟨t,S,df⟩ o.dst (v.ev ρ))->AOps E rd N ops (o::rest) K ⟨t,S,df⟩):
  Loc E N ops o nx sl H ⟨v,ks,[],nx⟩:=λdf rd K rest ρ t S hs hS hk=>
 h df rd K rest ρ t S hs hS (hk ρ S ⟨λ_ _=>rfl,⟨λk r hk=>hS.ok k r hk,λk k' r r' b9 h1 h2=>hS.sep k k' r r' b9 h1 h2⟩,Qj _,λ_ _ _=>rfl,λk r hk o ho=>.inr ⟨k,r,hk,ho⟩⟩)
theorem js{v:SV}(h:∀(df:List Nat)(rd:Option Nat)(K:AS->Prop)(rest:List Oper)(ρ t:Nat->AV)(S:List AObj),SlOk ρ t sl->AOps E rd N ops rest K (AS.put ⟨t,S,df⟩ o.dst (v.ev ρ))->AOps E rd N ops (o::rest) K ⟨t,S,df⟩):
  Loc E N ops o nx sl H ⟨v,[],[],nx⟩:=qah λdf rd K rest ρ t S hs _ hk=>h df rd K rest ρ t S hs hk
def upd(ρ:Nat->AV)(n:Nat)(c:AV):Nat->AV:=λk=>bif Qc k n then c else ρ k
theorem ve(ρ:Nat->AV)(n:Nat)(c:AV):upd ρ n c n=c:=by simp[upd]
theorem qak(ρ:Nat->AV){n k:Nat}(c:AV)(h:k≠n):upd ρ n c k=ρ k:=by simp[upd,jv h]
theorem qny{v:SV}{r:SR}{ks:List Nat}(lk:∀k r,resF ks H k=some r->k≠nx∧r.all (λk=> !Nat.beq k nx)=true)(h:∀(df:List Nat)(rd:Option Nat)(K:AS->Prop)(rest:List Oper)(ρ t:Nat->AV)(S:List AObj),SlOk ρ t sl->SatF S ρ (resF ks H)->
   (∀c l,r.ok (upd ρ nx c) (S++l) c->(∀o,zq c=some o->S.length<=o)->AOps E rd N ops rest K (AS.put ⟨t,S++l,df⟩ o.dst (v.ev (upd ρ nx c))))->AOps E rd N ops (o::rest) K ⟨t,S,df⟩):
  Loc E N ops o nx sl H ⟨v,ks,[(nx,some r)],nx+1⟩:=λdf rd K rest ρ t S hs hS hk=>by
 refine h df rd K rest ρ t S hs hS λc l hc hl=>hk _ _ ⟨λk hk=>qak _ _ (by simp only at hk;omega),?_,Sx,λj hj _=>Qo hj,?_⟩
 .have key:∀k r',chF [(nx,some r)] (resF ks H) k=some r'->(k=nx∧r'=r)∨(k≠nx∧resF ks H k=some r'):=λk r' hk=>by
   simp only[chF,lkS]at hk;by_cases e:nx=k
   .subst e
    have:Qc nx nx=true:=Sx
    rw[this]at hk;simp only[cond_true,Qa]at hk;exact .inl ⟨rfl,hk.symm⟩
   .rw[jv e]at hk
    exact .inr ⟨λh=>e h.symm,hk⟩
  refine⟨λk r' hk=>?_,λk k' r1 r2 b9 h1 h2 o ho=>?_⟩
  .rcases key k r' hk with⟨rfl,rfl⟩|⟨h1,h2⟩
   .rw[ve];exact hc
   .rw[qak _ _ h1]
    have h3:=hS.ok k r' h2;exact SR.ok_of (lk k r' h2).2 (λk hk=>qak _ _ (λe=>by subst e;simp at hk)) h3 λo ho=>Qo (SR.ok_lt h3 ho)
  .rcases key k r1 h1 with⟨rfl,rfl⟩|⟨g1,g2⟩
   .rcases key k' r2 h2 with⟨rfl,rfl⟩|⟨f1,f2⟩
    .exact absurd rfl b9
    .rw[ve]at ho
     rw[qak _ _ f1];intro e8;have:=SR.ok_lt (hS.ok k' r2 f2) e8;have:=hl o ho;omega
   .rcases key k' r2 h2 with⟨rfl,rfl⟩|⟨f1,f2⟩
    .rw[qak _ _ g1]at ho
     rw[ve];intro e8;have:=SR.ok_lt (hS.ok k r1 g2) ho;have:=hl o e8;omega
    .rw[qak _ _ g1]at ho
     rw[qak _ _ f1];exact hS.sep k k' r1 r2 b9 g2 f2 o ho
 .intro k r' hk o ho
  simp only[chF,lkS]at hk;by_cases e:nx=k
  .subst e
   rw[ve]at ho;exact .inl (hl o ho)
  .rw[jv e]at hk
   rw[qak _ _ (λh=>e h.symm)]at ho;exact .inr ⟨k,r',hk,ho⟩
end
end Go.Av
namespace Go.Av
open Go Go.RowKit
section
variable {E : Env} {N : Nat} {ops : Array Oper} {nx : Nat} {sl : List (Nat × SV)} {H : Nat → Option SR} {k : Ef → Prop} {d : Option Tmp} {T : TypeId} {p : String} {af : Array Edge}
def w7(nx:Nat)(v:SV):Ef:=⟨v,[],[],nx⟩
def mvW(nx:Nat)(k:Ef->Prop):Option SV->Prop
 |some v=>k (w7 nx v)
 |none=>False
theorem zna{x:Operand}(h:mvW nx k (sval N sl x)):∃e,Loc E N ops ⟨d,.move x,T,p,af,none⟩ nx sl H e∧k e:=by
 cases hv:sval N sl x with
 |none=>rw[hv]at h;exact h.elim
 |some v=>rw[hv]at h;exact⟨_,js λdf rd K rest ρ t S hs hk=>qj (by rw[q7 hs hv];exact hk),h⟩
theorem zet{x:Operand}(h:mvW nx k (sval N sl x)):∃e,Loc E N ops ⟨d,.assign x,T,p,af,none⟩ nx sl H e∧k e:=by
 cases hv:sval N sl x with
 |none=>rw[hv]at h;exact h.elim
 |some v=>rw[hv]at h;exact⟨_,js λdf rd K rest ρ t S hs hk=>qg (by rw[q7 hs hv];exact hk),h⟩
def wayW(x y:Prop):SV->Prop
 |.tt=>x
 |.ff=>y
 |.p q _=>(q->x)∧(¬q->y)
 |.b c=>(c=true->x)∧(c=false->y)
 |_=>False
theorem zh5{x y:Prop}{v:SV}(h:wayW x y v):∃c:Bool,(∀ρ,v.ev ρ=Bv c)∧((c=true∧x)∨(c=false∧y)):=by
 cases v with
 |tt=>exact⟨true,λ_=>rfl,.inl ⟨rfl,h⟩⟩
 |ff=>exact⟨false,λ_=>rfl,.inr ⟨rfl,h⟩⟩
 |p q i=>
  by_cases hq:q
  .exact⟨_,λ_=>rfl,.inl ⟨by simp[hq],h.1 hq⟩⟩
  .exact⟨_,λ_=>rfl,.inr ⟨by simp[hq],h.2 hq⟩⟩
 |b c=>
  cases c with
  |true=>exact⟨true,λ_=>rfl,.inl ⟨rfl,h.1 rfl⟩⟩
  |false=>exact⟨false,λ_=>rfl,.inr ⟨rfl,h.2 rfl⟩⟩
 |_=>exact h.elim
def zdl(N:Nat)(sl:List (Nat×SV))(nx:Nat)(k:Ef->Prop)(c x y:Operand):Prop:=
 match sval N sl c with
 |some v=>wayW (mvW nx k (sval N sl x)) (mvW nx k (sval N sl y)) v
 |none=>False
theorem zni{c x y:Operand}(h:zdl N sl nx k c x y):∃e,Loc E N ops ⟨d,.pick c x y,T,p,af,none⟩ nx sl H e∧k e:=by
 unfold zdl at h;split at h
 .rename_i v hv
  obtain⟨b,hb,h⟩:=zh5 h;rcases h with⟨hc,h⟩|⟨hc,h⟩
  .cases hx:sval N sl x with
   |none=>rw[hx]at h;exact h.elim
   |some u=>rw[hx]at h;exact⟨_,js λdf rd K rest ρ t S hs hk=>qtb ((q7 hs hv).trans (hb ρ)) hc (by rw[q7 hs hx];exact hk),h⟩
  .cases hx:sval N sl y with
   |none=>rw[hx]at h;exact h.elim
   |some u=>rw[hx]at h;exact⟨_,js λdf rd K rest ρ t S hs hk=>qta ((q7 hs hv).trans (hb ρ)) hc (by rw[q7 hs hx];exact hk),h⟩
 .exact h.elim
def q39(P:Program)(nx:Nat)(k:Ef->Prop)(t:TypeId):Prop:=
 match qh8 P t with
 |some cs=>k ⟨.bx nx 0,[],[(nx,some (.cells t (nfs cs)))],nx+1⟩
 |none=>False
theorem qgp(k:Nat):resF [] H k=none:=rfl
theorem xg(k:Nat):resF [k] H k=H k:=by simp[resF,memN]
theorem zid{t:TypeId}(h:q39 E.P nx k t):∃e,Loc E N ops ⟨d,.alloc t,T,p,af,none⟩ nx sl H e∧k e:=by
 unfold q39 at h;split at h
 .rename_i cs hz
  refine⟨_,qny (λk r hk=>by rw[qgp]at hk;simp at hk) λdf rd K rest ρ t' S hs _ hk=>qmz rfl hz ?_,h⟩;have:=hk (.bx S.length 0 0) [.cells 0 t cs] ⟨S.length,0,rfl,by rw[qjv];exact yg,rfl⟩ (λo ho=>by simp only[zq,Qa]at ho;omega)
  simpa only[SV.ev,ve,bxAt]using this
 .exact h.elim
theorem zb6{rd:Option Nat}{K:AS->Prop}{rest:List Oper}{s:AS}{t:TypeId}{x:Operand}{r:AV}{cs:List AV}(hx:Wk (ql N s x) r)(hok:r.okc=true)(hc:r.cells=cs)
  (h:AOps E rd N ops rest K (s.put d (.pp cs))):AOps E rd N ops (⟨d,.box t x,T,p,af,none⟩::rest) K s:=by
 refine q9 rfl (q8 nofun λB0 w0 G a w _ hI=>?_);have hr:=(hx _ _ (hI.eval x)).cells hok;rw[hc]at hr;obtain⟨d7,hA⟩:=hI.agree.newPub t (a.eval x).cells (0,0) (a.eval x).cells.toList (λi y hy=>by simpa using hy)
 have a8:(execOp a.eval ⟨d,.box t x,T,p,af,none⟩).run E.P w=.ok (.value (.pointer (some ⟨w.heap.size,0,none⟩))) (w.alloc (.cells (a.eval x).cells t)):=by
  generalize a.eval=ρ;simp[execOp,Instr.box,newVar,newRow,newObj,Sem.run]
 refine⟨_,_,_,.pp cs,s.st,a8,d7,hA,.pp cs w.heap.size 0 (a.eval x).cells.toList (by simp[Gh.publish]) (by rw[hr.1];simp) λi x y hx hy=>(hr.2 i x y hx (by simpa using hy)).mono d7,h⟩
def qxp(bxs:List Nat):Option Tmp->Bool
 |some d=>memN bxs d
 |none=>false
def boxW(bxs:List Nat)(H:Nat->Option SR)(nx:Nat)(k:Ef->Prop)(d:Option Tmp)(t:TypeId):Option SV->Prop
 |some v=>bif qxp bxs d then(bif v.okc&&v.all (λk=> !Nat.beq k nx)then k ⟨.bx nx 0,[],[(nx,some (.cells t v.cells))],nx+1⟩else False)
  else match frz (resF v.ks H) v with
   |some y=>bif y.okc then k ⟨.a (.pp y.cells),v.ks,[],nx⟩else False
   |none=>False
 |none=>False
theorem zfa{f:Nat->Bool}:∀v:SV,v.all f=true->SV.alls f v.cells=true
 |.ag cs,h=>h
 |.a x,_=>qsr _
 |.i _,_=>rfl
 |.s _,_=>rfl
 |.tt,_=>rfl
 |.ff,_=>rfl
 |.b _,_=>rfl
 |.p _ _,_=>rfl
 |.bx k _,h=>by simpa[SV.cells,SV.alls]using h
 |.tp k,h=>by simpa[SV.cells,SV.alls]using h
 |.tu cs,h=>by simpa[SV.cells,SV.alls]using h
 |.fn _ _ _,h=>by simpa[SV.cells,SV.alls]using h
 |.ifc _ _,h=>by simpa[SV.cells,SV.alls]using h
theorem zoe{bxs:List Nat}{t:TypeId}{x:Operand}(h:boxW bxs H nx k d t (sval N sl x)):∃e,Loc E N ops ⟨d,.box t x,T,p,af,none⟩ nx sl H e∧k e:=by
 cases hv:sval N sl x with
 |none=>rw[hv]at h;exact h.elim
 |some v=>
  rw[hv]at h;unfold boxW at h
  cases hb:qxp bxs d with
  |true=>
   rw[hb]at h;simp only[cond_true]at h
   cases hc:(v.okc&&v.all (λk=> !Nat.beq k nx))with
   |false=>rw[hc]at h;exact h.elim
   |true=>
    rw[hc]at h;simp only[Qd]at hc;refine⟨_,qny (λk r hk=>by rw[qgp]at hk;simp at hk) λdf rd K rest ρ t' S hs _ hk=>zeo rfl (q7 hs hv) (q6u ρ v hc.1) (qut ρ v).symm ?_,h⟩;have he:SV.evs (upd ρ nx (.bx S.length 0 0)) v.cells=SV.evs ρ v.cells:=qbx (f:=λk=> !Nat.beq k nx) (λk hk=>qak _ _ (λe=>by subst e;simp at hk)) _ (zfa v hc.2);have:=hk (.bx S.length 0 0) [.cells 0 t (SV.evs ρ v.cells)] ⟨S.length,0,rfl,by rw[he];exact yg,rfl⟩ (λo ho=>by simp only[zq,Qa]at ho;omega)
    simpa only[SV.ev,ve,bxAt]using this
  |false=>
   rw[hb]at h;simp only[cond_false]at h;split at h
   .rename_i y hy
    cases hc:y.okc with
    |false=>rw[hc]at h;exact h.elim
    |true=>
     rw[hc]at h;exact⟨_,qah (v:=.a (.pp y.cells)) λdf rd K rest ρ t' S hs hS hk=>zb6 (by rw[q7 hs hv];exact qjs hS v y hy) hc rfl hk,h⟩
   .exact h.elim
def spl{α:Type}(cs:List α)(off:Nat)(xs:List α):List α:=cs.take off++xs++cs.drop (off+xs.length)
theorem zhk(ρ:Nat->AV)(cs xs:List SV)(off:Nat):SV.evs ρ (spl cs off xs)=z4 (SV.evs ρ cs) off (SV.evs ρ xs):=by
 simp[spl,z4,xp]
def qsn(place:Nat->Option (Nat×Nat))(cells:List SV):List (Nat×SV)->Option (List SV)
 | []=>some cells
 |(i,x)::rest=>
  match place i with
  |none=>none
  |some (off,size)=>bif x.okc&&Qc x.cells.length size&&Qh (off+size) cells.length then qsn place (spl cells off x.cells) rest else none
theorem quy(ρ:Nat->AV)(place:Nat->Option (Nat×Nat)):∀(ps:List (Nat×SV))(cells cs:List SV),qsn place cells ps=some cs->qdb place (SV.evs ρ cells) (ps.map λq=>(q.1,q.2.ev ρ))=some (SV.evs ρ cs)
 | [],cells,cs,h=>by simp only[qsn,Qa]at h;subst h;rfl
 |(i,x)::rest,cells,cs,h=>by
  simp only[qsn]at h;simp only[Qs,qdb]
  cases hp:place i with
  |none=>rw[hp]at h;simp at h
  |some q=>
   obtain⟨off,size⟩:=q;rw[hp]at h;simp only at h⊢
   cases hb:(x.okc&&Qc x.cells.length size&&Qh (off+size) cells.length)with
   |false=>rw[hb]at h;simp at h
   |true=>
    rw[hb]at h;simp only[Qd]at hb;have hl:∀l:List SV,(SV.evs ρ l).length=l.length:=λl=>by simp[xp]
    rw[q6u ρ x hb.1.1,<-qut,hl,hl,hb.1.2,hb.2,<-zhk];exact quy ρ place rest _ cs h
def qpv(N:Nat)(sl:List (Nat×SV)):List (Nat×Operand)->Option (List (Nat×SV))
 | []=>some []
 |(i,x)::r=>match sval N sl x,qpv N sl r with
  |some v,some l=>some ((i,v)::l)
  |_,_=>none
theorem qin{ρ t:Nat->AV}{S:List AObj}{df:List Nat}(h:SlOk ρ t sl):∀{xs:List (Nat×Operand)}{l:List (Nat×SV)},qpv N sl xs=some l->(xs.map λx=>(x.1,ql N ⟨t,S,df⟩ x.2))=l.map λq=>(q.1,q.2.ev ρ)
 | [],l,hx=>by simp only[qpv,Qa]at hx;subst hx;rfl
 |(i,x)::r,l,hx=>by
  simp only[qpv]at hx;split at hx
  .rename_i v l' h1 h2
   simp only[Qa]at hx;subst hx;simp only[Qs,q7 h h1,qin h h2]
  .simp at hx
def q4y(P:Program)(N:Nat)(sl:List (Nat×SV))(nx:Nat)(k:Ef->Prop)(t:TypeId)(parts:Array (Nat×Operand)):Prop:=
 match qh8 P t,qzw P t,qpv N sl parts.toList with
 |some zs,some pl,some ps=>(match qsn (pl[·]?) (nfs zs) ps with
  |some cs=>k (w7 nx (.ag cs))
  |none=>False)
 |_,_,_=>False
theorem zit{t:TypeId}{parts:Array (Nat×Operand)}(h:q4y E.P N sl nx k t parts):∃e,Loc E N ops ⟨d,.build t parts,T,p,af,none⟩ nx sl H e∧k e:=by
 unfold q4y at h;split at h
 .rename_i zs pl ps hz hp hs
  split at h
  .rename_i cs hf
   refine⟨_,js (v:=.ag cs) λdf rd K rest ρ t' S ho hk=>yf hz hp (cs:=SV.evs ρ cs) ?_ hk,h⟩;have:=quy ρ _ _ _ _ hf;rw[qjv]at this;unfold vz;rw[qin ho hs];exact this
  .exact h.elim
 .exact h.elim
def qo8(sz:Nat)(agg:Bool)(off:Nat)(cs:List SV):Option SV:=
 bif agg then(bif Qh (off+sz) cs.length then some (.ag ((cs.drop off).take sz))else none)else cs[off]?
theorem qva(ρ:Nat->AV){sz:Nat}{agg:Bool}{off:Nat}{cs:List SV}{v:SV}(h:qo8 sz agg off cs=some v):ke sz agg off (SV.evs ρ cs)=some (v.ev ρ):=by
 unfold qo8 at h;unfold ke
 cases agg with
 |true=>
  simp only[cond_true]at h⊢;rw[xp,Zp]
  cases hb:Qh (off+sz) cs.length with
  |false=>rw[hb]at h;simp at h
  |true=>
   rw[hb]at h;simp only[cond_true,Qa]at h⊢;subst h
   simp[SV.ev,xp]
 |false=>
  simp only[cond_false]at h⊢;rw[xp,Qn,h];rfl
def optW(nx:Nat)(ks:List Nat)(k:Ef->Prop):Option SV->Prop
 |some v=>k ⟨v,ks,[],nx⟩
 |none=>False
def zdb(P:Program)(H:Nat->Option SR)(nx:Nat)(k:Ef->Prop)(t:TypeId):Option SV->Prop
 |some (.bx b off)=>(match H b,tyOf P t with
  |some (.cells _ cs),some (sz,agg)=>optW nx [b] k (qo8 sz agg off cs)
  |_,_=>False)
 |some (.a (.pp cs))=>(match tyOf P t with
  |some (sz,agg)=>(match ke sz agg 0 cs with
   |some r=>k (w7 nx (nf r))
   |none=>False)
  |none=>False)
 |_=>False
theorem zm5{t:TypeId}{x:Operand}(h:zdb E.P H nx k t (sval N sl x)):∃e,Loc E N ops ⟨d,.load t x,T,p,af,none⟩ nx sl H e∧k e:=by
 unfold zdb at h;split at h
 .rename_i b off hv
  split at h
  .rename_i T' cs sz agg hH ht
   cases hl:qo8 sz agg off cs with
   |none=>rw[hl]at h;exact h.elim
   |some v=>
    rw[hl]at h;refine⟨_,qah λdf rd K rest ρ t' S hs hS hk=>?_,h⟩;obtain⟨o,ver,h1,h2,h0⟩:=hS.ok b _ ((xg b).trans hH);exact vc (o:=o) (ver:=ver) (off:=off) ((q7 hs hv).trans (by simp only[SV.ev,h1,bxAt])) h2 ht (qva ρ hl) hk
  .exact h.elim
 .rename_i cs hv
  split at h
  .rename_i sz agg ht
   split at h
   .rename_i r hr
    exact⟨_,js λdf rd K rest ρ t' S hs hk=>jq (q7 hs hv) ht hr (by rw[<-qpf ρ r];exact hk),h⟩
   .exact h.elim
  .exact h.elim
 .exact h.elim
def q73(P:Program)(H:Nat->Option SR)(nx:Nat)(k:Ef->Prop)(t:TypeId):Option SV->Option SV->Prop
 |some (.bx b off),some v=>(match H b,tyOf P t with
  |some (.cells T cs),some (sz,agg)=>bif v.okc&&Qc v.cells.length sz&&ones v.cells&&Qh (off+sz) cs.length then k ⟨.a (.v undef),[b],[(b,some (.cells T (spl cs off v.cells)))],nx⟩else False
  |_,_=>False)
 |_,_=>False
theorem zlb{t:TypeId}{x y:Operand}(h:q73 E.P H nx k t (sval N sl x) (sval N sl y)):∃e,Loc E N ops ⟨d,.store t x y,T,p,af,none⟩ nx sl H e∧k e:=by
 unfold q73 at h;split at h
 .rename_i b off v hv hy
  split at h
  .rename_i T' cs sz agg hH ht
   cases hb:(v.okc&&Qc v.cells.length sz&&ones v.cells&&Qh (off+sz) cs.length)with
   |false=>rw[hb]at h;exact h.elim
   |true=>
    rw[hb]at h;simp only[Qd]at hb;refine⟨_,λdf rd K rest ρ t' S hs hS hk=>?_,h⟩;obtain⟨o,ver,h1,h2,h0⟩:=hS.ok b _ ((xg b).trans hH);have hl:∀l:List SV,(SV.evs ρ l).length=l.length:=λl=>by simp[xp]
    refine qho (o:=o) (ver:=ver) (off:=off) (xs:=SV.evs ρ v.cells) ((q7 hs hv).trans (by simp only[SV.ev,h1,bxAt])) (q7 hs hy) h2 ht (q6u ρ v hb.1.1.1) (qut ρ v).symm (by rw[hl];exact Qb hb.1.1.2) (zbg ρ _ hb.1.2) (by rw[hl];exact Qi hb.2) ?_;rw[<-zhk]
    have key:∀k r,chF [(b,some (.cells T' (spl cs off v.cells)))] (resF [b] H) k=some r->k=b∧r=.cells T' (spl cs off v.cells):=λk r hk=>by
     simp only[chF,lkS]at hk;by_cases e:b=k
     .subst e
      have:Qc b b=true:=Sx
      rw[this]at hk;simp only[cond_true,Qa]at hk;exact⟨rfl,hk.symm⟩
     .rw[jv e]at hk
      have:=(wr hk).1;simp only[memN,Zg,Zv,Zh]at this;exact absurd (Qb this).symm e
    refine hk ρ _ ⟨λ_ _=>rfl,⟨λk r hk=>?_,λk k' r r' b9 g1 g2=>?_⟩,Sx,λj hj b9=>?_,λk r hk o' e8=>?_⟩
    .obtain⟨rfl,rfl⟩:=key k r hk
     exact⟨o,ver,h1,qbc h2,h0⟩
    .exact absurd ((key k r g1).1.trans (key k' r' g2).1.symm) b9
    .have:=b9 b _ ((xg b).trans hH)
     rw[h1]at this;exact Ql (λe=>this (by rw[e];rfl))
    .obtain⟨rfl,rfl⟩:=key k r hk
     exact .inr ⟨k,_,(xg k).trans hH,e8⟩
  .exact h.elim
 .exact h.elim
def q6f(nx:Nat)(k:Ef->Prop):Option SV->Prop
 |some (.bx b off)=>k (w7 nx (.bx b off))
 |some (.a (.pp cs))=>k (w7 nx (.a (.pp cs)))
 |_=>False
theorem zj5{x:Operand}(h:q6f nx k (sval N sl x)):∃e,Loc E N ops ⟨d,.nilCheck x,T,p,af,none⟩ nx sl H e∧k e:=by
 unfold q6f at h;split at h
 .rename_i b off hv
  exact⟨_,js λdf rd K rest ρ t' S hs hk=>ww (q7 hs hv) (by simp only[SV.ev];cases ρ b<;>rfl) hk,h⟩
 .rename_i cs hv
  exact⟨_,js λdf rd K rest ρ t' S hs hk=>ww (q7 hs hv) rfl hk,h⟩
 .exact h.elim
end
end Go.Av
namespace Go.Av
open Go Go.RowKit
def qgb:SV->Option (IntKind×Int)
 |.i n=>some (.i64,n)
 |.a (.v (.int k n))=>some (k,n)
 |_=>none
theorem qc6{v:SV}{k:IntKind}{n:Int}(h:qgb v=some (k,n))(ρ:Nat->AV):v.ev ρ=.v (.int k n):=by
 unfold qgb at h;split at h
 .simp only[Qa,Qg]at h;obtain⟨rfl,rfl⟩:=h;rfl
 .simp only[Qa,Qg]at h;obtain⟨rfl,rfl⟩:=h;rfl
 .simp at h
def cmpW(op:BinOp)(m n:Int)(k:SV->Prop):Prop:=
 match op with
 |.eql=>k (.p (m=n) inferInstance)
 |.neq=>k (.p (¬m=n) inferInstance)
 |.lss=>k (.p (m<n) inferInstance)
 |.leq=>k (.p (m<=n) inferInstance)
 |.gtr=>k (.p (n<m) inferInstance)
 |.geq=>k (.p (n<=m) inferInstance)
 |_=>False
theorem zmd{op:BinOp}{m n:Int}{k:SV->Prop}(h:cmpW op m n k):∃v b,cmpI op m n=some b∧(∀ρ,SV.ev ρ v=Bv b)∧k v:=by
 cases op<;>first|exact h.elim|exact⟨_,_,rfl,λ_=>rfl,h⟩
def rngW(r:Int)(k:SV->Prop):Prop:=(-9223372036854775808<=r∧r<=9223372036854775807)∧k (.i r)
def arW(kd:IntKind)(r:Int)(k:SV->Prop):Prop:=
 match kd with
 |.i64=>rngW r k
 |kd=>k (.a (.v (.int kd (kd.wrap r))))
theorem qwm{kd:IntKind}{r:Int}{k:SV->Prop}(h:arW kd r k):∃v,(∀ρ,SV.ev ρ v=.v (.int kd (kd.wrap r)))∧k v:=by
 cases kd<;>first|exact⟨.i r,λρ=>by rw[q6 h.1.1 h.1.2];rfl,h.2⟩|exact⟨_,λ_=>rfl,h⟩
def remW(kd:IntKind)(r:Int)(k:SV->Prop):Prop:=
 match kd with
 |.i64=>k (.i r)
 |kd=>k (.a (.v (.int kd r)))
theorem znn{kd:IntKind}{r:Int}{k:SV->Prop}(h:remW kd r k):∃v,(∀ρ,SV.ev ρ v=.v (.int kd r))∧k v:=by
 cases kd<;>exact⟨_,λ_=>rfl,h⟩
def intW(op:BinOp)(kd:IntKind)(m n:Int)(k:SV->Prop):Prop:=
 match op with
 |.add=>arW kd (m+n) k
 |.sub=>arW kd (m-n) k
 |.mul=>arW kd (m*n) k
 |.quo=>n≠0∧arW kd (m.tdiv n) k
 |.rem=>n≠0∧remW kd (m.tmod n) k
 |op=>cmpW op m n k
def strW(op:BinOp)(m n:List UInt8)(k:SV->Prop):Prop:=
 match op with
 |.add=>m.length+n.length<9223372036854775808∧k (.s (m++n))
 |.eql=>k (.p (m=n) inferInstance)
 |.neq=>k (.p (¬m=n) inferInstance)
 |op=>match cmpS op m n with
  |some b=>k (.b b)
  |none=>False
def qwt:SV->Option Bool
 |.tt=>some true
 |.ff=>some false
 |.b c=>some c
 |.p q h=>some (@decide q h)
 |_=>none
theorem ql6{v:SV}{b:Bool}(h:qwt v=some b)(ρ:Nat->AV):v.ev ρ=Bv b:=by
 unfold qwt at h;split at h<;>first|(simp only[Qa]at h;subst h;rfl)|simp at h
def nilQ:SV->Option Bool
 |.ifc _ _=>some false
 |.a (.ifc _ _)=>some false
 |.a (.v .nilIface)=>some true
 |_=>none
def nilP:SV->Option Bool
 |.bx _ _=>some false
 |.a (.pp _)=>some false
 |.a (.bx _ _ _)=>some false
 |.a (.v (.pointer none))=>some true
 |_=>none
def tf:Bool->SV
 |true=>.tt
 |false=>.ff
def eqW(op:BinOp)(b:Bool)(k:SV->Prop):Prop:=
 match op with
 |.eql=>k (tf b)
 |.neq=>k (tf (!b))
 |_=>False
def q53:Option TypeDesc->Bool
 |some (.interface _)=>true
 |_=>false
def q54:Option TypeDesc->Bool
 |some (.pointer _)=>true
 |_=>false
def binW(P:Program)(op:BinOp)(t:TypeId)(y:Operand)(k:SV->Prop)(vx vy:SV):Prop:=
 match y with
 |.const .nilIface=>(match nilQ vx with
  |some b=>bif q53 (P.underlying t)then eqW op b k else False
  |none=>False)
 |.const (.pointer none)=>(match nilP vx with
  |some b=>bif q54 (P.underlying t)then eqW op b k else False
  |none=>False)
 |_=>match qgb vx,qgb vy with
  |some (kd,m),some (kd',n)=>bif decide (kd=kd')then intW op kd m n k else False
  |_,_=>match vx,vy with
   |.s m,.s n=>strW op m n k
   |vx,vy=>match qwt vx,qwt vy,P.underlying t,op with
    |some a,some b,some .bool,.eql=>k (.b (a==b))
    |some a,some b,some .bool,.neq=>k (.b (!(a==b)))
    |_,_,_,_=>False
section
variable {E : Env} {N : Nat} {ops : Array Oper} {nx : Nat} {sl : List (Nat × SV)} {H : Nat → Option SR} {k : Ef → Prop} {d : Option Tmp} {T : TypeId} {p : String} {af : Array Edge}
def Rule(E:Env)(N:Nat)(ops:Array Oper)(o:Oper)(sl:List (Nat×SV))(v:SV):Prop:=∀(df:List Nat)(rd:Option Nat)(K:AS->Prop)(rest:List Oper)(ρ t:Nat->AV)(S:List AObj),SlOk ρ t sl->AOps E rd N ops rest K (AS.put ⟨t,S,df⟩ o.dst (v.ev ρ))->AOps E rd N ops (o::rest) K ⟨t,S,df⟩
theorem zor{op:BinOp}{t t':TypeId}{x y:Operand}{vx vy:SV}{kd:IntKind}{m n:Int}{q:SV->Prop}(hx:sval N sl x=some vx)(hy:sval N sl y=some vy)(h1:qgb vx=some (kd,m))(h2:qgb vy=some (kd,n))(h:intW op kd m n q):
  ∃v,Rule E N ops ⟨d,.binOp op t x y t',T,p,af,none⟩ sl v∧q v:=by
 have e1:∀{ρ t:Nat->AV}{S:List AObj}{df:List Nat},SlOk ρ t sl->ql N ⟨t,S,df⟩ x=.v (.int kd m):=λhs=>(q7 hs hx).trans (qc6 h1 _);have e2:∀{ρ t:Nat->AV}{S:List AObj}{df:List Nat},SlOk ρ t sl->ql N ⟨t,S,df⟩ y=.v (.int kd n):=λhs=>(q7 hs hy).trans (qc6 h2 _)
 have cmp:cmpW op m n q->∃v,Rule E N ops ⟨d,.binOp op t x y t',T,p,af,none⟩ sl v∧q v:=λh=>by
  obtain⟨v,b,hb,hv,hq⟩:=zmd h;exact⟨v,λdf rd K rest ρ t S hs hk=>qt (e1 hs) (e2 hs) hb (by rw[<-hv ρ];exact hk),hq⟩
 cases op with
 |add=>
  obtain⟨v,hv,hq⟩:=qwm h
  exact⟨v,λdf rd K rest ρ t S hs hk=>zn (e1 hs) (e2 hs) rfl (by rw[<-hv ρ];exact hk),hq⟩
 |sub=>
  obtain⟨v,hv,hq⟩:=qwm h
  exact⟨v,λdf rd K rest ρ t S hs hk=>wx (e1 hs) (e2 hs) rfl (by rw[<-hv ρ];exact hk),hq⟩
 |mul=>
  obtain⟨v,hv,hq⟩:=qwm h
  exact⟨v,λdf rd K rest ρ t S hs hk=>qia (e1 hs) (e2 hs) rfl (by rw[<-hv ρ];exact hk),hq⟩
 |quo=>
  obtain⟨hn,h⟩:=h;obtain⟨v,hv,hq⟩:=qwm h
  exact⟨v,λdf rd K rest ρ t S hs hk=>q4k (e1 hs) (e2 hs) hn rfl (by rw[<-hv ρ];exact hk),hq⟩
 |rem=>
  obtain⟨hn,h⟩:=h;obtain⟨v,hv,hq⟩:=znn h
  exact⟨v,λdf rd K rest ρ t S hs hk=>q4l (e1 hs) (e2 hs) hn (by rw[<-hv ρ];exact hk),hq⟩
 |_=>exact cmp h
theorem zpf{op:BinOp}{t t':TypeId}{x y:Operand}{m n:List UInt8}{q:SV->Prop}(hx:sval N sl x=some (.s m))(hy:sval N sl y=some (.s n))(h:strW op m n q):∃v,Rule E N ops ⟨d,.binOp op t x y t',T,p,af,none⟩ sl v∧q v:=by
 have cmp:(match cmpS op m n with|some b=>q (.b b)|none=>False)->∃v,Rule E N ops ⟨d,.binOp op t x y t',T,p,af,none⟩ sl v∧q v:=λh=>by
  cases hc:cmpS op m n with
  |none=>rw[hc]at h;exact h.elim
  |some b=>rw[hc]at h;exact⟨.b b,λdf rd K rest ρ t S hs hk=>jp (q7 hs hx) (q7 hs hy) hc hk,h⟩
 cases op with
 |add=>exact⟨.s (m++n),λdf rd K rest ρ t S hs hk=>jz (q7 hs hx) (q7 hs hy) h.1 hk,h.2⟩
 |eql=>exact⟨.p (m=n) inferInstance,λdf rd K rest ρ t S hs hk=>jp (b:=decide (m=n)) (q7 hs hx) (q7 hs hy) rfl hk,h⟩
 |neq=>exact⟨.p (¬m=n) inferInstance,λdf rd K rest ρ t S hs hk=>jp (b:=decide (¬m=n)) (q7 hs hx) (q7 hs hy) rfl hk,h⟩
 |_=>exact cmp h
theorem zlr(ρ:Nat->AV)(b:Bool):(tf b).ev ρ=Bv b:=by cases b<;>rfl
theorem zod{op:BinOp}{t t':TypeId}{x y:Operand}{vx vy:SV}{q:SV->Prop}(hx:sval N sl x=some vx)(hy:sval N sl y=some vy)(h:binW E.P op t y q vx vy):∃v,Rule E N ops ⟨d,.binOp op t x y t',T,p,af,none⟩ sl v∧q v:=by
 unfold binW at h;split at h
 .split at h
  .rename_i b hb
   cases hu:q53 (E.P.underlying t)with
   |false=>rw[hu]at h;exact h.elim
   |true=>
    rw[hu]at h
    have hu':∃ms,E.P.underlying t=some (.interface ms):=by
     unfold q53 at hu;split at hu
     .rename_i ms he;exact⟨ms,he⟩
     .simp at hu
    obtain⟨ms,hu'⟩:=hu';simp only[cond_true]at h
    have gf:(∃(u:TypeId)(z:(Nat->AV)->AV),∀ρ,vx.ev ρ=.ifc u (z ρ))∧b=false∨(∀ρ,vx.ev ρ=.v .nilIface)∧b=true:=by
     unfold nilQ at hb;split at hb<;>simp only[Qa,reduceCtorEq]at hb<;>subst hb
     .rename_i u z;exact .inl ⟨⟨u,λρ=>z.ev ρ,λ_=>rfl⟩,rfl⟩
     .rename_i u z;exact .inl ⟨⟨u,λ_=>z,λ_=>rfl⟩,rfl⟩
     .exact .inr ⟨λ_=>rfl,rfl⟩
    rcases gf with⟨⟨u,z,hz⟩,rfl⟩|⟨hz,rfl⟩
    .cases op with
     |eql=>exact⟨.ff,λdf rd K rest ρ t S hs hk=>qbj ((q7 hs hx).trans (hz ρ)) hu' hk,h⟩
     |neq=>exact⟨.tt,λdf rd K rest ρ t S hs hk=>xi ((q7 hs hx).trans (hz ρ)) hu' hk,h⟩
     |_=>exact h.elim
    .cases op with
     |eql=>exact⟨.tt,λdf rd K rest ρ t S hs hk=>qd8 ((q7 hs hx).trans (hz ρ)) hu' hk,h⟩
     |neq=>exact⟨.ff,λdf rd K rest ρ t S hs hk=>wh ((q7 hs hx).trans (hz ρ)) hu' hk,h⟩
     |_=>exact h.elim
  .exact h.elim
 .split at h
  .rename_i b hb
   cases hu:q54 (E.P.underlying t)with
   |false=>rw[hu]at h;exact h.elim
   |true=>
    rw[hu]at h
    have hu':∃ms,E.P.underlying t=some (.pointer ms):=by
     unfold q54 at hu;split at hu
     .rename_i ms he;exact⟨ms,he⟩
     .simp at hu
    obtain⟨ms,hu'⟩:=hu';simp only[cond_true]at h
    have gf:∀ρ,qdl (vx.ev ρ)=some b:=λρ=>by
     unfold nilP at hb;split at hb<;>simp only[Qa,reduceCtorEq]at hb<;>subst hb
     .rename_i kk off;simp only[SV.ev];cases ρ kk<;>rfl
     .rfl
     .rfl
     .rfl
    cases op with
    |eql=>exact⟨tf b,λdf rd K rest ρ t S hs hk=>qbl (b:=b) rfl (by rw[q7 hs hx];exact gf ρ) hu' (by rw[<-zlr ρ];exact hk),h⟩
    |neq=>exact⟨tf (!b),λdf rd K rest ρ t S hs hk=>qf6 (b:=b) rfl (by rw[q7 hs hx];exact gf ρ) hu' (by rw[<-zlr ρ];exact hk),h⟩
    |_=>exact h.elim
  .exact h.elim
 .split at h
  .rename_i kd m kd' n h1 h2
   cases hd:decide (kd=kd')with
   |false=>rw[hd]at h;exact h.elim
   |true=>
    rw[hd]at h;have:kd=kd':=of_decide_eq_true hd;subst this;exact zor hx hy h1 h2 h
  .split at h
   .exact zpf hx hy h
   .split at h
    .rename_i a b h1 h2 h3
     exact⟨.b (a==b),λdf rd K rest ρ t S hs hk=>zif ((q7 hs hx).trans (ql6 h1 ρ)) ((q7 hs hy).trans (ql6 h2 ρ)) h3 hk,h⟩
    .rename_i a b h1 h2 h3
     exact⟨.b (!(a==b)),λdf rd K rest ρ t S hs hk=>zig ((q7 hs hx).trans (ql6 h1 ρ)) ((q7 hs hy).trans (ql6 h2 ρ)) h3 hk,h⟩
    .exact h.elim
def notW(nx:Nat)(k:Ef->Prop):Option SV->Prop
 |some .tt=>k (w7 nx .ff)
 |some .ff=>k (w7 nx .tt)
 |some (.b c)=>k (w7 nx (.b (!c)))
 |some (.p q h)=>k (w7 nx (.p (¬q) (@instDecidableNot q h)))
 |_=>False
theorem zo0{t:TypeId}{x:Operand}(h:notW nx k (sval N sl x)):∃e,Loc E N ops ⟨d,.unOp .not t x,T,p,af,none⟩ nx sl H e∧k e:=by
 unfold notW at h;split at h
 .rename_i hv;exact⟨_,js (v:=.ff) λdf rd K rest ρ t' S hs hk=>ja (m:=true) (q7 hs hv) hk,h⟩
 .rename_i hv;exact⟨_,js (v:=.tt) λdf rd K rest ρ t' S hs hk=>ja (m:=false) (q7 hs hv) hk,h⟩
 .rename_i c hv;exact⟨_,js (v:=.b (!c)) λdf rd K rest ρ t' S hs hk=>ja (q7 hs hv) hk,h⟩
 .rename_i q i hv;exact⟨_,js (v:=.p (¬q) (@instDecidableNot q i)) λdf rd K rest ρ t' S hs hk=>qoe (q:=q) (q7 hs hv) hk,h⟩
 .exact h.elim
def zcq(P:Program)(t t':TypeId)(nx:Nat)(k:Ef->Prop):Option SV->Prop
 |some v=>(match qgb v,P.underlying t,P.underlying t' with
  |some (_,m),some _,some (.int kd)=>(match kd with
   |.i64=>(-9223372036854775808<=m∧m<=9223372036854775807)∧k (w7 nx (.i m))
   |kd=>k (w7 nx (.a (.v (.int kd (kd.wrap m))))))
  |_,_,_=>False)
 |none=>False
theorem zmf{t t':TypeId}{x:Operand}(h:zcq E.P t t' nx k (sval N sl x)):∃e,Loc E N ops ⟨d,.convert t t' x,T,p,af,none⟩ nx sl H e∧k e:=by
 unfold zcq at h;split at h
 .rename_i v hv
  split at h
  .rename_i kk m e kd h1 h2 h3
   have:∃v,(∀ρ,SV.ev ρ v=.v (.int kd (kd.wrap m)))∧k (w7 nx v):=by
    cases kd<;>first|exact⟨.i m,λρ=>by rw[q6 h.1.1 h.1.2];rfl,h.2⟩|exact⟨_,λ_=>rfl,h⟩
   obtain⟨u,hu,hk⟩:=this;exact⟨_,js λdf rd K rest ρ t' S hs hk=>qe6 ((q7 hs hv).trans (qc6 h1 ρ)) h2 h3 rfl (by rw[<-hu ρ];exact hk),hk⟩
  .exact h.elim
 .exact h.elim
def q6b(P:Program)(t:TypeId)(nx:Nat)(k:Ef->Prop):Option SV->Prop
 |some v=>(match P.underlying t with
  |some dsc=>bif qsp dsc then False else k (w7 nx (.ifc t v))
  |none=>False)
 |none=>False
theorem zj3{t:TypeId}{x:Operand}(h:q6b E.P t nx k (sval N sl x)):∃e,Loc E N ops ⟨d,.makeInterface t x,T,p,af,none⟩ nx sl H e∧k e:=by
 unfold q6b at h;split at h
 .rename_i v hv
  split at h
  .rename_i dsc hd
   cases hi:qsp dsc with
   |true=>rw[hi]at h;exact h.elim
   |false=>rw[hi]at h;exact⟨_,js λdf rd K rest ρ t' S hs hk=>vr hd hi (by rw[q7 hs hv];exact hk),h⟩
  .exact h.elim
 .exact h.elim
def zde(N:Nat)(sl:List (Nat×SV))(fn:Fn)(xs ys:Array Operand)(nx:Nat)(k:Ef->Prop):Prop:=
 match qpy N sl xs.toList,qpy N sl ys.toList with
 |some a,some b=>k (w7 nx (.fn fn a b))
 |_,_=>False
theorem zm9{fn:Fn}{xs ys:Array Operand}(h:zde N sl fn xs ys nx k):∃e,Loc E N ops ⟨d,.makeFunc fn xs ys,T,p,af,none⟩ nx sl H e∧k e:=by
 unfold zde at h;split at h
 .rename_i a b ha hb
  exact⟨_,js λdf rd K rest ρ t' S hs hk=>qf5 (by rw[qpz hs ha,qpz hs hb];exact hk),h⟩
 .exact h.elim
def qos(P:Program)(t:TypeId)(f:Nat)(nx:Nat)(k:Ef->Prop):Option SV->Prop
 |some (.bx b off)=>(match qce P t f with
  |some (o,sz,_)=>bif Qc sz 0 then False else k (w7 nx (.bx b (off+o)))
  |none=>False)
 |some (.a (.pp cs))=>(match qce P t f with
  |some (o,sz,_)=>bif !Nat.beq sz 0&&Qh o cs.length then k (w7 nx (.a (.pp (cs.drop o))))else False
  |none=>False)
 |_=>False
theorem ziv(x:AV)(off o:Nat):∃a b,bxAt x off=.bx a b off∧bxAt x (off+o)=.bx a b (off+o):=by
 cases x<;>exact⟨_,_,rfl,rfl⟩
theorem q5l{t:TypeId}{f:Nat}{x:Operand}(h:qos E.P t f nx k (sval N sl x)):∃e,Loc E N ops ⟨d,.fieldAddr t x f,T,p,af,none⟩ nx sl H e∧k e:=by
 unfold qos at h;split at h
 .rename_i b off hv
  split at h
  .rename_i o sz agg hf
   cases hz:Qc sz 0 with
   |true=>rw[hz]at h;exact h.elim
   |false=>
    rw[hz]at h;refine⟨_,js λdf rd K rest ρ t' S hs hk=>?_,h⟩;obtain⟨a1,b1,g1,g2⟩:=ziv (ρ b) off o;exact zk ((q7 hs hv).trans g1) hf hz (by rw[<-g2];exact hk)
  .exact h.elim
 .rename_i cs hv
  split at h
  .rename_i o sz agg hf
   cases hz:(!Nat.beq sz 0&&Qh o cs.length)with
   |false=>rw[hz]at h;exact h.elim
   |true=>
    rw[hz]at h;simp only[Qd,Zo]at hz;exact⟨_,js (v:=.a (.pp (cs.drop o))) λdf rd K rest ρ t' S hs hk=>yl (q7 hs hv) hf hz.1 hz.2 hk,h⟩
  .exact h.elim
 .exact h.elim
def q5m(P:Program)(t:TypeId)(f:Nat)(nx:Nat)(k:Ef->Prop):Option SV->Prop
 |some (.ag cs)=>(match qce P t f with
  |some (o,sz,agg)=>optW nx [] k (qo8 sz agg o cs)
  |none=>False)
 |some (.a (.ag cs))=>(match qce P t f with
  |some (o,sz,agg)=>(match ke sz agg o cs with
   |some r=>k (w7 nx (nf r))
   |none=>False)
  |none=>False)
 |_=>False
theorem zje{t:TypeId}{f:Nat}{x:Operand}(h:q5m E.P t f nx k (sval N sl x)):∃e,Loc E N ops ⟨d,.field t x f,T,p,af,none⟩ nx sl H e∧k e:=by
 unfold q5m at h;split at h
 .rename_i cs hv
  split at h
  .rename_i o sz agg hf
   cases hl:qo8 sz agg o cs with
   |none=>rw[hl]at h;exact h.elim
   |some v=>
    rw[hl]at h;exact⟨_,js λdf rd K rest ρ t' S hs hk=>qke (q7 hs hv) hf (qva ρ hl) hk,h⟩
  .exact h.elim
 .rename_i cs hv
  split at h
  .rename_i o sz agg hf
   split at h
   .rename_i r hr
    exact⟨_,js λdf rd K rest ρ t' S hs hk=>qke (q7 hs hv) hf hr (by rw[<-qpf ρ r];exact hk),h⟩
   .exact h.elim
  .exact h.elim
 .exact h.elim
def qux(i:Nat)(nx:Nat)(k:Ef->Prop):Option SV->Prop
 |some (.tu vs)=>optW nx [] k vs[i]?
 |some (.a (.tu vs))=>(match vs[i]?with
  |some r=>k (w7 nx (nf r))
  |none=>False)
 |_=>False
theorem zc0{i:Nat}{x:Operand}(h:qux i nx k (sval N sl x)):∃e,Loc E N ops ⟨d,.extract x i,T,p,af,none⟩ nx sl H e∧k e:=by
 unfold qux at h;split at h
 .rename_i vs hv
  cases hl:vs[i]?with
  |none=>rw[hl]at h;exact h.elim
  |some v=>
   rw[hl]at h;exact⟨_,js λdf rd K rest ρ t' S hs hk=>zf (xs:=SV.evs ρ vs) (q7 hs hv) (by rw[xp,Qn,hl];rfl) hk,h⟩
 .rename_i vs hv
  split at h
  .rename_i r hr
   exact⟨_,js λdf rd K rest ρ t' S hs hk=>zf (q7 hs hv) hr (by rw[<-qpf ρ r];exact hk),h⟩
  .exact h.elim
 .exact h.elim
def qma(H:Nat->Option SR)(sz:Nat):SV->Option (List AV×List Nat)
 |.a (.sl z xs _)=>bif Qc z sz then some (xs,[])else none
 |.a (.v (.slice none 0 0))=>some ([],[])
 |.tp b=>(match H b with
  |some (.tip z _ xs)=>bif Qc z sz then some (xs,[b])else none
  |_=>none)
 |_=>none
theorem qgi{S:List AObj}{ρ:Nat->AV}{v:SV}{sz:Nat}{xs:List AV}{ks:List Nat}(h:qma H sz v=some (xs,ks))(hS:SatF S ρ (resF ks H)):Wk (v.ev ρ) (.sl sz xs none):=by
 unfold qma at h;split at h
 .rename_i z ys tip
  cases hz:Qc z sz with
  |false=>rw[hz]at h;simp at h
  |true=>
   rw[hz]at h;simp only[cond_true,Qa,Qg]at h;obtain⟨rfl,rfl⟩:=h;rw[<-Qb hz];exact zlk _ _ _
 .simp only[Qa,Qg]at h
  obtain⟨rfl,rfl⟩:=h;exactλ_ _ h=>qcw h
 .rename_i b
  split at h
  .rename_i z T' ys hb
   cases hz:Qc z sz with
   |false=>rw[hz]at h;simp at h
   |true=>
    rw[hz]at h;simp only[cond_true,Qa,Qg]at h;obtain⟨rfl,rfl⟩:=h;rw[<-Qb hz];exact(q0b (hS.ok b _ ((xg b).trans hb))).1
  .simp at h
 .simp at h
end
end Go.Av
namespace Go.Av
open Go Go.RowKit
section
variable {E : Env} {rd : Option Nat} {N : Nat} {ops : Array Oper} {K : AS → Prop} {s : AS} {rest : List Oper} {d : Option Tmp} {T : TypeId} {p : String} {af : Array Edge}
theorem qhn{x:Operand}{t e:TypeId}{lo hi:Option Operand}{sz:Nat}{agg:Bool}{xs:List AV}{i j:Nat}(hx:Wk (ql N s x) (.sl sz xs none))(hu:E.P.underlying t=some (.slice e))(ht:tyOf E.P e=some (sz,agg))
  (fg:match lo with|none=>i=0|some y=>∃k,ql N s y=.v (.int k (i:Int))) (cn:match hi with|none=>j=xs.length|some y=>∃k,ql N s y=.v (.int k (j:Int))) (h1:i<=j) (h2:j<=xs.length)
  (h:AOps E rd N ops rest K (s.put d (.sl sz ((xs.take j).drop i) none))):AOps E rd N ops (⟨d,.slice t x lo hi none,T,p,af,none⟩::rest) K s:=by
 refine q9 rfl (q8 nofun λB0 w0 G a w _ hI=>?_);have he:=hx _ _ (hI.eval x);generalize hv:a.eval x=v at he;have fm:∃b len cap,v=.slice b len cap:=by cases he<;>exact⟨_,_,_,rfl⟩
 obtain⟨b,len,cap,rfl⟩:=fm;obtain⟨hl,hlc,hr⟩:=qyk he h1 h2;refine⟨_,w,G,_,s.st,?_,.refl G,hI.agree,hr,h⟩
 have a8:=qyp hu ht b len cap (lo.map a.eval) (hi.map a.eval) i j w (by
  cases lo with
  |none=>exact fg
  |some y=>obtain⟨k,hy⟩:=fg;exact⟨k,hI.evalv hy⟩) (by
  cases hi with
  |none=>simp only at cn;simp only[Option.map_none];omega
  |some y=>obtain⟨k,hy⟩:=cn;exact⟨⟨k,hI.evalv hy⟩,Om⟩) h1
 generalize a.eval=ρ at hv a8;simp only[execOp,hv];simp[Instr.sliceAt,run_underlying hu,a8]
theorem qwg{x y:Operand}{t e:TypeId}{sz:Nat}{agg:Bool}{xs:List AV}{k:IntKind}{i:Int}{n:Nat}{z:AV}(hx:Wk (ql N s x) (.sl sz xs none))(hy:ql N s y=.v (.int k i))(hu:E.P.underlying t=some (.slice e))(ht:tyOf E.P e=some (sz,agg))(hi:i=n)(hz:xs[n]?=some z)
  (h:AOps E rd N ops rest K (s.put d (.pp z.cells))):AOps E rd N ops (⟨d,.indexAddr t x y,T,p,af,none⟩::rest) K s:=by
 refine q9 rfl (q8 nofun λB0 w0 G a w _ hI=>?_);subst hi;have he:=hx _ _ (hI.eval x);have dj:=hI.evalv hy;generalize hv:a.eval x=v at he;have d9:=lt_of_getElem? hz
 cases he with
 |sl0=>simp at hz
 |sl _ _ _ b off cap pub hp hw d5 i6 htip r6=>
  have pj:z.cells.length=sz:=hw z (List.mem_of_getElem? hz);have o8:=zv hw;have d7:(n+1)*sz<=xs.length*sz:=Ze _ d9;rw[Zm]at d7;refine⟨.pointer (some ⟨b,off+n*sz,none⟩),w,G,.pp z.cells,s.st,?_,.refl G,hI.agree,?_,h⟩
  .generalize a.eval=ρ at hv dj
   simp only[execOp,hv,dj];simp[Instr.indexAt,asIntOf,run_underlying hu,d9,(vp ht w).1,Addr.add_lit]
  .refine .pp _ b _ pub hp Om λj q r h1 h2=>?_
   have hj:j<sz:=by have:=lt_of_getElem? h1;omega
   have hf:=qot hw hz j hj;exact i6 (n*sz+j) q r (by rw[hf];exact h1) (by rw[<-h2];congr 1;omega)
theorem q4f{x y:Operand}{t u T':TypeId}{sz bytes:Nat}{xs ys:List AV}{c:AV}(hx:ql N s x=c)(hy:Wk (ql N s y) (.sl sz ys none))
  (ht:E.P.underlying t=some (.slice T')) (hu:E.P.underlying u=some (.slice T')) (hT:y0 E.P T' sz bytes) (hc:TipO 0 s.st sz T' xs c) (m9:kc (flat ys)=true) (u7:xs.length+ys.length<=maxLen) (hby:(xs.length+ys.length)*bytes<=140737488355328)
  (h:∀c' st' t1,TipO 0 st' sz T' (xs++ys) c'->Fr s.st st' t1->(c=.sl sz xs (some t1)∨s.st.length<=t1)->(∀o,zq c'=some o->o=t1)->AOps E rd N ops rest K (AS.put ⟨s.t,st',s.df⟩ d c')):AOps E rd N ops (⟨d,.call ⟨.builtin .append,#[x,y],#[t,u]⟩,T,p,af,none⟩::rest) K s:=by
 refine q9 rfl (q8 nofun λB0 w0 G a w _ hI=>?_);have hyr:Rel G (.sl sz ys none) (a.eval y):=hy _ _ (hI.eval y);rcases hc with(⟨nc,hcn⟩|⟨t1,h1,h2,h3⟩)|⟨nc,o,ver,f,hco⟩
 .subst nc
  have d7:=G.le_new 0 0 0 false;have hA:=hI.agree.newTip sz T';have hv:a.eval x=.slice none 0 0:=hI.evalv (hx.trans hcn);have hn:=hI.agree.n;obtain⟨news,k1,k2,k3⟩:=qap (P:=E.P) hA (hyr.mono d7) (by simpa[kc]using m9)
  have hr:Rel (G.new 0 0 0 false) (.sl sz [] (some s.st.length)) (a.eval x):=by
   rw[hv];exact .sl0 sz _ none 0 λt ht=>by simp only[Qa]at ht;subst ht;exact⟨by simp[Gh.new,hn],rfl,rfl⟩
  obtain⟨v',w',G',e1,e2,e3,e4⟩:=qde (ty:=T) hA ht hu (.inr ⟨_,rfl⟩) hT (t:=s.st.length) (n:=0) Sx hr rfl rfl k1 k2 k3 (by simpa using u7) (by simpa using hby);refine⟨v',w',G',_,_,?_,d7.trans e2,e3,e4,h _ _ s.st.length (.inl (.inr ⟨s.st.length,rfl,?_,Qv _⟩)) ⟨Sx,λk hk d9=>?_⟩ (.inr (Qj _)) (λo ho=>by simp only[zq,Qa]at ho;exact ho.symm)⟩
  .generalize a.eval=ρ at e1
   simp[execOp,resolve,invoke,builtin,e1]
  .simp
  .rw[Ql (Ne.symm hk),Qo d9]
 .obtain⟨news,k1,k2,k3⟩:=qap (P:=E.P) hI.agree hyr (by simpa[kc]using m9)
  obtain⟨v',w',G',e1,e2,e3,e4⟩:=qde (ty:=T) hI.agree ht hu (.inr ⟨_,rfl⟩) hT h2 (hI.eval_of (hx.trans h1)) rfl rfl k1 k2 k3 u7 hby;refine⟨v',w',G',_,_,?_,e2,e3,e4,h _ _ t1 (.inl (.inr ⟨t1,rfl,?_,Qv _⟩)) ⟨Sx,λk hk d9=>?_⟩ (.inl h1) (λo ho=>by simp only[zq,Qa]at ho;exact ho.symm)⟩
  .generalize a.eval=ρ at e1
   simp[execOp,resolve,invoke,builtin,e1]
  .rw[Zj]
   exact kg h2
  .rw[Ql (Ne.symm hk)]
 .subst nc
  have he:=hI.eval_of (hx.trans hco);obtain⟨news,k1,k2,k3⟩:=qap (P:=E.P) hI.agree hyr (by simpa[kc]using m9);have hex:=hT.ex;obtain⟨i,z,hi,hz,o6,hbt,pj⟩:=hex;generalize hv:a.eval x=v at he
  cases he with
  |os _ _ _ _ blk _ hn hvv hbb=>
   by_cases ln:ys.length=0
   .have sg:ys=[]:=Qq ln
    subst sg
    have hk1':Src E.P w (a.eval y) 0 i.size []:=by
     have:news=[]:=Qq (by simpa using k1.count);rw[o6];rw[this]at k1;exact k1
    refine⟨_,w,G,_,s.st,?_,.refl G,hI.agree,.os o ver f 0 blk 0 hn hvv hbb,h _ s.st s.st.length (.inr ⟨rfl,o,ver,f,rfl⟩) ⟨Qj _,λ_ _ _=>rfl⟩ (.inr (Qj _)) (λo ho=>by simp[zq]at ho)⟩;have:=qdo (ty:=T) ht hu (.inr ⟨_,rfl⟩) hi hk1' (some ⟨blk,f,none⟩) 0 0 (Qj _);generalize a.eval=ρ at hv this;simp[execOp,resolve,invoke,builtin,hv,this]
   .have d7:=G.le_new 0 0 0 false
    have hA:=hI.agree.newTip sz T';have hz63:0+ys.length<=maxLen:=by simpa using u7
    obtain⟨v',w',G',e1,e2,e3,e4⟩:=qwa (ty:=T) hA ht hu (.inr ⟨_,rfl⟩) hT (t:=s.st.length) (n:=0) (xs:=[]) Sx rfl rfl k1 k2 (λi a b h1 h2=>(k3 i a b h1 h2).mono d7) hz63 (some ⟨blk,f,none⟩) 0 []
     (run_firstCells_some w.drew sz 0 ⟨blk,f,none⟩ 0 0 [] Sx Sx) Om Sx (by simp[flat]) Sx (by simp[flat]) (by rw[Zb,nextslicecap_zero Om];have:=hby;simp at this;omega) ln
    refine⟨v',w',G',_,_,?_,d7.trans e2,e3,e4,h _ _ s.st.length (.inl (.inr ⟨s.st.length,rfl,?_,Qv _⟩)) ⟨Sx,λk hk d9=>?_⟩ (.inr (Qj _)) (λo ho=>by simp only[zq,Qa]at ho;exact ho.symm)⟩
    .generalize a.eval=ρ at e1 hv
     simp[execOp,resolve,invoke,builtin,hv,e1]
    .simp
    .rw[Ql (Ne.symm hk),Qo d9]
theorem qui{t e:TypeId}{len sz:Nat}{agg:Bool}{parts:Array (Nat×Operand)}{zs cs xs:List AV}(ps:List (Nat×AV))(dx:(vz N s parts).length=ps.length)(hps:∀(i:Nat)(q p:Nat×AV),(vz N s parts)[i]?=some q->ps[i]?=some p->q.1=p.1∧Wk q.2 p.2)
  (hu:E.P.underlying t=some (.slice e)) (ht:tyOf E.P e=some (sz,agg)) (hz:qh9 E.P e len=some zs)
  (hf:qdb (λi=>some (i*sz,sz)) zs ps=some cs) (d5:xs.length=len) (o8:flat xs=cs) (hw:∀x∈xs,x.cells.length=sz) (o6:Qh (len*sz) 16777216=true)
  (h:AOps E rd N ops rest K (s.put d (.sl sz xs none))):AOps E rd N ops (⟨d,.buildSlice t len parts,T,p,af,none⟩::rest) K s:=by
 refine q9 rfl (q8 nofun λB0 w0 G a w _ hI=>?_)
 have hparts:∀(i:Nat)(p:Nat×AV)(v:Nat×Value),ps[i]?=some p->(parts.toList.map λx=>(x.1,a.eval x.2))[i]?=some v->p.1=v.1∧Rel G p.2 v.2:=λi p v hp hv=>by
  have hi:i<(vz N s parts).length:=by rw[dx];exact lt_of_getElem? hp
  have hq:(vz N s parts)[i]?=some (vz N s parts)[i]:=Qe hi;obtain⟨h1,h2⟩:=hps i _ p hq hp;obtain⟨h3,h4⟩:=qjw hI parts i _ v hq hv;exact⟨h1.symm.trans h3,h2 _ _ h4⟩
 have fb:=(vp ht w).1;have o6:=Qi o6
 have hrunE:∃c':Array Value,(execOp a.eval ⟨d,.buildSlice t len parts,T,p,af,none⟩).run E.P w=.ok (.value (.slice (some ⟨w.heap.size,0,none⟩) len len)) (w.alloc (.cells c' e))∧RelC G cs c':=by
  unfold qh9 at hz
  cases hi:E.P.info? e with
  |none=>rw[hi]at hz;simp at hz
  |some i=>
   rw[hi]at hz;simp only at hz;have hs:i.size=sz:=by simpa[sizeOf,typeInfo,hi]using fb
   rw[hs]at hz
   have key:∃c0:Array Value,RelC G zs c0∧∀(Q:Array Value->Sem Value),((do
     let zero <-if len*sz=0 then pure #[]else do pure (<-zeroValue e).cells
     Q ((Qw (len*sz)).map (zero[· %zero.size]!)):Sem Value)).run E.P w=(Q c0).run E.P w:=by
    by_cases h0:len*sz=0
    .rw[h0]at hz
     simp at hz;subst hz;exact⟨#[],⟨rfl,Sx⟩,λQ=>by have e:Qw 0= #[]:=(by simp[Qw]);simp[h0,e]⟩
    .have:Qc (len*sz) 0=false:=jv h0
     rw[this]at hz;simp only[cond_false]at hz
     cases hzr:i.zero with
     |none=>rw[hzr]at hz;simp at hz
     |some z=>
      rw[hzr]at hz;simp only[Qu,Qa]at hz;subst hz;refine⟨(Qw (len*sz)).map (z.cells[· %z.cells.size]!),⟨Sx,λk x y h1 h2=>?_⟩,λQ=>by simp[h0,zeroValue,typeInfo,hi,hzr]⟩;have hk:k<len*sz:=by have:=lt_of_getElem? h1;simpa using this
      simp[hk]at h1 h2;subst h1;subst h2;exact .v _
   obtain⟨c0,hc0,hrun0⟩:=key;obtain⟨c',h1,h2⟩:=qih (λi=>some (i*sz,sz)) ps (parts.toList.map λx=>(x.1,a.eval x.2)) zs c0 cs (by rw[<-dx];simp[vz]) hparts hc0 hf;refine⟨c',?_,h2⟩;generalize a.eval=ρ at h1;have hb:¬16777216<len*sz:=Om
   have hg:∃m:String,(execOp ρ ⟨d,.buildSlice t len parts,T,p,af,none⟩).run E.P w=(((do
    let zero <-if len*sz=0 then pure #[]else do pure (<-zeroValue e).cells
    (λc=>(do
    let some cells:=Instr.fill (λi=>some (i*sz,sz)) c (parts.map λx=>(x.1,ρ x.2)).toList|stuck m
    pure (Value.slice (some (<-newRow e cells)) len len):Sem Value)) ((Qw (len*sz)).map (zero[· %zero.size]!)):Sem Value)).run E.P w).andThen λv w'=>.ok (.value v) w':=by
    apply Exists.intro;simp only[execOp,Instr.buildSlice];simp[run_underlying hu,fb,hb];rfl
   obtain⟨m,hg⟩:=hg
   have hQ:=hrun0 (λc=>do
    let some cells:=Instr.fill (λi=>some (i*sz,sz)) c (parts.map λx=>(x.1,ρ x.2)).toList|stuck m
    pure (.slice (some (<-newRow e cells)) len len))
   rw[hg,hQ];simp[h1,newRow,newObj,Sem.run]
 obtain⟨c',a8,h2⟩:=hrunE;obtain⟨d7,hA⟩:=hI.agree.newPub e c' (0,0) c'.toList (λi y hy=>by simpa using hy);refine⟨.slice (some ⟨w.heap.size,0,none⟩) len len,w.alloc (.cells c' e),_,.sl sz xs none,s.st,a8,d7,hA,?_,h⟩;rw[<-d5]
 cases xs with
 |nil=>exact .sl0 sz none _ _ Sx
 |cons x0 xr=>
  refine .sl sz _ none w.heap.size 0 _ c'.toList (by simp[Gh.publish]) hw (by rw[o8,h2.1];simp) (λk x y g1 g2=>?_) (λt ht=>by simp at ht) (Qj _);rw[o8]at g1;exact(h2.2 k x y g1 (by simpa using g2)).mono d7
end
def j5{α:Type}:Nat->List α->List (Nat×α)
 |_,[]=>[]
 |i,x::r=>(i,x)::j5 (i+1) r
theorem quz{sz:Nat}:∀(ys:List AV)(k:Nat)(done zs:List AV),(∀y∈ys,y.okc=true∧y.cells.length=sz)->done.length=k*sz->zs.length=ys.length*sz->
  qdb (λi=>some (i*sz,sz)) (done++zs) (j5 k ys)=some (done++flat ys)
 | [],k,done,zs,_,_,hz=>by
  have:zs=[]:=Qq (by simpa using hz);subst this
  rfl
 |y::r,k,done,zs,hy,hd,hz=>by
  obtain⟨h1,h2⟩:=hy y Sx;simp only[List.length_cons,Zm]at hz;simp only[j5,qdb,h1,h2];have hb:Qc sz sz=true:=Sx
  have hl:Qh (k*sz+sz) (done++zs).length=true:=Nat.ble_eq_true_of_le So;rw[hb,hl]
  have e:z4 (done++zs) (k*sz) y.cells=(done++y.cells)++zs.drop sz:=by
   unfold z4;rw[<-hd,List.take_left,h2,List.drop_append];simp
  simp only[Bool.and_self,cond_true];rw[e,quz r (k+1) (done++y.cells) (zs.drop sz) (λy' hy'=>hy y' (by simp[hy'])) (by simp[hd,h2,Zm]) So];simp[flat]
def qnp(P:Program):Nat->TypeId->List (Option Nat)
 |0,_=>[none]
 |n+1,t=>match P.underlying t with
  |some (.struct fs)=>fs.toList.flatMap λf=>qnp P n f.type
  |some (.slice e)=>(match tyOf P e with
   |some (sz,_)=>[some sz]
   |none=>[none])
  |_=>[none]
def nrm1:Option Nat->AV->AV
 |some sz,.v (.slice none 0 0)=>.sl sz [] none
 |_,x=>x
def nrmL:List (Option Nat)->List AV->List AV
 |k::r,x::s=>nrm1 k x::nrmL r s
 |_,l=>l
def nrmT(P:Program)(t:TypeId)(x:AV):AV:=
 match x with
 |.ag cs=>.ag (nrmL (qnp P 4 t) cs)
 |.v (.slice none 0 0)=>(match qnp P 1 t with
  | [k]=>nrm1 k (.v (.slice none 0 0))
  |_=>.v (.slice none 0 0))
 |x=>x
def zipT(P:Program):List TypeId->List AV->List AV
 |t::r,x::s=>nrmT P t x::zipT P r s
 |_,l=>l
theorem zby(k:Option Nat)(x:AV):Wk x (nrm1 k x):=by
 unfold nrm1;split
 .exactλ_ _ h=>qcw h
 .exact xc _
theorem za8:∀(ks:List (Option Nat))(l:List AV),l.length=(nrmL ks l).length∧∀(i:Nat)(x y:AV),l[i]?=some x->(nrmL ks l)[i]?=some y->Wk x y
 | [],l=>⟨by simp[nrmL],λi x y hx hy=>by simp only[nrmL]at hy;rw[hx]at hy;simp only[Qa]at hy;subst hy;exact xc _⟩
 |k::r,[]=>⟨by simp[nrmL],λi x y hx=>by simp at hx⟩
 |k::r,z::s=>by
  obtain⟨h1,h2⟩:=za8 r s;refine⟨by simp[nrmL,h1],λi x y hx hy=>?_⟩;simp only[nrmL]at hy
  cases i with
  |zero=>simp at hx hy;subst hx;subst hy;exact zby k _
  |succ i=>exact h2 i x y (by simpa using hx) (by simpa using hy)
theorem zn5(P:Program)(t:TypeId)(x:AV):Wk x (nrmT P t x):=by
 unfold nrmT;split
 .obtain⟨h1,h2⟩:=za8 (qnp P 4 t) (by assumption)
  exact zeh h1 h2
 .split
  .exact zby _ _
  .exact xc _
 .exact xc _
theorem zb3(P:Program):∀(ts:List TypeId)(l:List AV),l.length=(zipT P ts l).length∧∀(i:Nat)(x y:AV),l[i]?=some x->(zipT P ts l)[i]?=some y->Wk x y
 | [],l=>⟨by simp[zipT],λi x y hx hy=>by simp only[zipT]at hy;rw[hx]at hy;simp only[Qa]at hy;subst hy;exact xc _⟩
 |t::r,[]=>⟨by simp[zipT],λi x y hx=>by simp at hx⟩
 |t::r,z::s=>by
  obtain⟨h1,h2⟩:=zb3 P r s;refine⟨by simp[zipT,h1],λi x y hx hy=>?_⟩;simp only[zipT]at hy
  cases i with
  |zero=>simp at hx hy;subst hx;subst hy;exact zn5 P t _
  |succ i=>exact h2 i x y (by simpa using hx) (by simpa using hy)
def qxq:AV->Bool
 |.v (.slice none 0 0)=>true
 |_=>false
theorem q1p{x:AV}(h:qxq x=true):x=zm:=by
 unfold qxq at h;split at h
 .rfl
 .simp at h
def fcN(n:Nat)(k:Nat->Prop):Prop:=
 bif Qc n 1 then k 1 else bif Qc n 2 then k 2 else bif Qc n 3 then k 3 else bif Qc n 4 then k 4 else bif Qc n 5 then k 5 else k n
theorem qq7(n:Nat)(k:Nat->Prop):fcN n k=k n:=by
 unfold fcN;by_cases h1:n=1
 .subst h1;rfl
 rw[jv h1];by_cases h2:n=2
 .subst h2;rfl
 rw[jv h2];by_cases h3:n=3
 .subst h3;rfl
 rw[jv h3];by_cases h4:n=4
 .subst h4;rfl
 rw[jv h4];by_cases h5:n=5
 .subst h5;rfl
 rw[jv h5];rfl
def qxy:List (Option Nat)->List AV->(List AV->Prop)->Prop
 |c::r,x::s,k=>(match qxq x,c with
  |true,some sz=>fcN sz λsz=>qxy r s λl=>k (.sl sz [] none::l)
  |_,_=>qxy r s λl=>k (x::l))
 |_,l,k=>k l
def zdg:List AV->Bool
 | []=>false
 |x::r=>qxq x||zdg r
def nrmK(P:Program)(t:TypeId)(x:AV)(k:AV->Prop):Prop:=
 match zdg x.cells with
 |false=>k x
 |true=>(match x with
  |.ag cs=>qxy (qnp P 4 t) cs λl=>k (.ag l)
  |x=>(match qnp P 1 t with
   | [some sz]=>fcN sz λsz=>k (.sl sz [] none)
   |_=>k x))
def WkL(l m:List AV):Prop:=l.length=m.length∧∀(i:Nat)(x y:AV),l[i]?=some x->m[i]?=some y->Wk x y
theorem qs3:WkL [] []:=⟨rfl,λi x y h=>by simp at h⟩
theorem qlv{x y:AV}{l m:List AV}(h:Wk x y)(hl:WkL l m):WkL (x::l) (y::m):=⟨by simp[hl.1],λi a b ha hb=>by
 cases i with
 |zero=>simp at ha hb;subst ha;subst hb;exact h
 |succ i=>exact hl.2 i a b (by simpa using ha) (by simpa using hb)⟩
theorem qv1:∀l:List AV,WkL l l
 | []=>qs3
 |x::r=>qlv (xc x) (qv1 r)
theorem qve:∀(cs:List (Option Nat))(l:List AV)(k:List AV->Prop),qxy cs l k->∃m,WkL l m∧k m
 | [],l,k,h=>⟨l,qv1 l,by cases l<;>exact h⟩
 |c::r,[],k,h=>⟨[],qs3,h⟩
 |c::r,x::s,k,h=>by
  simp only[qxy]at h;split at h
  .rename_i sz hx
   rw[qq7]at h;obtain⟨m,h1,h2⟩:=qve r s _ h;exact⟨_,qlv (by rw[q1p hx];exactλ_ _ h=>qcw h) h1,h2⟩
  .obtain⟨m,h1,h2⟩:=qve r s _ h
   exact⟨_,qlv (xc x) h1,h2⟩
theorem qzr{P:Program}{t:TypeId}{x:AV}{k:AV->Prop}(h:nrmK P t x k):∃y,Wk x y∧k y:=by
 unfold nrmK at h;split at h
 .exact⟨x,xc x,h⟩
 .rename_i hn
  split at h
  .rename_i cs
   obtain⟨m,h1,h2⟩:=qve _ _ _ h;exact⟨_,zeh h1.1 h1.2,h2⟩
  .rename_i hx
   split at h
   .rename_i sz _
    rw[qq7]at h
    have:x=zm:=by
     have hc:x.cells=[x]:=by cases x<;>first|rfl|exact absurd rfl (hx _)
     rw[hc]at hn;simp only[zdg,Zh]at hn;exact q1p hn
    exact⟨_,by rw[this];exactλ_ _ h=>qcw h,h⟩
   .exact⟨x,xc x,h⟩
def zdi(P:Program)(t:TypeId):List AV->(List AV->Prop)->Prop
 | [],k=>k []
 |x::r,k=>nrmK P t x λx=>zdi P t r λr=>k (x::r)
theorem q6i{P:Program}{t:TypeId}:∀{l:List AV}{k:List AV->Prop},zdi P t l k->∃m,WkL l m∧k m
 | [],k,h=>⟨[],qs3,h⟩
 |x::r,k,h=>by
  obtain⟨y,h1,h2⟩:=qzr h;obtain⟨m,h3,h4⟩:=q6i h2;exact⟨_,qlv h1 h3,h4⟩
def zipK(P:Program):List TypeId->List AV->(List AV->Prop)->Prop
 |t::r,x::s,k=>nrmK P t x λx=>zipK P r s λl=>k (x::l)
 |_,l,k=>k l
theorem zb2{P:Program}:∀{ts:List TypeId}{l:List AV}{k:List AV->Prop},zipK P ts l k->∃m,WkL l m∧k m
 | [],l,k,h=>⟨l,qv1 l,by cases l<;>exact h⟩
 |t::r,[],k,h=>⟨[],qs3,h⟩
 |t::r,x::s,k,h=>by
  obtain⟨y,h1,h2⟩:=qzr h;obtain⟨m,h3,h4⟩:=zb2 h2;exact⟨_,qlv h1 h3,h4⟩
def q3r(P:Program)(T:TypeId):Option (Nat×Nat):=
 match P.info? T with
 |some i=>(match i.zero with
  |some z=>bif Qc z.cells.size i.size then some (i.size,i.bytes)else none
  |none=>none)
 |none=>none
theorem qoo{P:Program}{T:TypeId}{sz bytes:Nat}(h:q3r P T=some (sz,bytes)):y0 P T sz bytes:=by
 unfold q3r at h;split at h
 .rename_i i hi
  split at h
  .rename_i z hz
   cases hb:Qc z.cells.size i.size with
   |false=>rw[hb]at h;simp at h
   |true=>
    rw[hb]at h;simp only[cond_true,Qa,Qg]at h;exact⟨i,z,hi,hz,h.1,h.2,(Qb hb).trans h.1⟩
  .simp at h
 .simp at h
end Go.Av
namespace Go.Av
open Go Go.RowKit
section
variable {E : Env} {N : Nat} {ops : Array Oper} {nx : Nat} {sl : List (Nat × SV)} {H : Nat → Option SR} {k : Ef → Prop} {d : Option Tmp} {T : TypeId} {p : String} {af : Array Edge}
def bndW(v:Option SV)(q:Nat->Prop):Prop:=
 match v with
 |some v=>(match qgb v with
  |some (_,n)=>∃i:Nat,n=(i:Int)∧q i
  |none=>False)
 |none=>False
theorem qed{x:Operand}{q:Nat->Prop}(h:bndW (sval N sl x) q):∃(i:Nat)(kd:IntKind),(∀{ρ t:Nat->AV}{S:List AObj}{df:List Nat},SlOk ρ t sl->ql N ⟨t,S,df⟩ x=.v (.int kd (i:Int)))∧q i:=by
 unfold bndW at h;split at h
 .rename_i v hv
  split at h
  .rename_i kd n hn
   obtain⟨i,rfl,h⟩:=h;exact⟨i,kd,λhs=>(q7 hs hv).trans (qc6 hn _),h⟩
  .exact h.elim
 .exact h.elim
def qmf:Option TypeDesc->Bool
 |some .string=>true
 |_=>false
theorem qu6{u:Option TypeDesc}(h:qmf u=true):u=some .string:=by
 unfold qmf at h;split at h
 .rfl
 .simp at h
def elT:Option TypeDesc->Option TypeId
 |some (.slice e)=>some e
 |_=>none
theorem qba{u:Option TypeDesc}{e:TypeId}(h:elT u=some e):u=some (.slice e):=by
 unfold elT at h;split at h
 .simp only[Qa]at h;subst h;rfl
 .simp at h
def q71(P:Program)(N:Nat)(sl:List (Nat×SV))(H:Nat->Option SR)(nx:Nat)(k:Ef->Prop)(t:TypeId)(x:Operand)(lo hi:Option Operand):Prop:=
 match sval N sl x with
 |some (.s l)=>bif qmf (P.underlying t)then(match lo,hi with
  |none,none=>k (w7 nx (.s l))
  |some y,none=>bndW (sval N sl y) λi=>i<=l.length∧k (w7 nx (.s (l.drop i)))
  |none,some z=>bndW (sval N sl z) λj=>j<=l.length∧k (w7 nx (.s (l.take j)))
  |some y,some z=>bndW (sval N sl y) λi=>bndW (sval N sl z) λj=>i<=j∧j<=l.length∧k (w7 nx (.s ((l.take j).drop i))))else False
 |some v=>(match elT (P.underlying t)with
  |some e=>(match tyOf P e with
   |some (sz,_)=>(match qma H sz v with
    |some (xs,ks)=>(match lo,hi with
     |none,none=>k ⟨.a (.sl sz xs none),ks,[],nx⟩
     |some y,none=>bndW (sval N sl y) λi=>i<=xs.length∧k ⟨.a (.sl sz (xs.drop i) none),ks,[],nx⟩
     |none,some z=>bndW (sval N sl z) λj=>j<=xs.length∧k ⟨.a (.sl sz (xs.take j) none),ks,[],nx⟩
     |some y,some z=>bndW (sval N sl y) λi=>bndW (sval N sl z) λj=>i<=j∧j<=xs.length∧k ⟨.a (.sl sz ((xs.take j).drop i) none),ks,[],nx⟩)
    |none=>False)
   |none=>False)
  |none=>False)
 |none=>False
theorem zk8{t:TypeId}{x:Operand}{lo hi:Option Operand}(h:q71 E.P N sl H nx k t x lo hi):∃e,Loc E N ops ⟨d,.slice t x lo hi none,T,p,af,none⟩ nx sl H e∧k e:=by
 unfold q71 at h;split at h
 .rename_i l hv
  cases hu:qmf (E.P.underlying t)with
  |false=>rw[hu]at h;exact h.elim
  |true=>
   rw[hu]at h;simp only[cond_true]at h;have hu:=qu6 hu;split at h
   .exact⟨_,js (v:=.s l) λdf rd K rest ρ t' S hs hk=>qfu (i:=0) (j:=l.length) (q7 hs hv) hu rfl rfl Om Om Om (by simpa[SV.ev]using hk),h⟩
   .obtain⟨i,kd,hi,h1,h⟩:=qed h
    exact⟨_,js (v:=.s (l.drop i)) λdf rd K rest ρ t' S hs hk=>qgu (q7 hs hv) (hi hs) hu h1 hk,h⟩
   .obtain⟨j,kd,hj,h1,h⟩:=qed h
    exact⟨_,js (v:=.s (l.take j)) λdf rd K rest ρ t' S hs hk=>qbw (q7 hs hv) (hj hs) hu h1 hk,h⟩
   .obtain⟨i,kd,hi,h⟩:=qed h
    obtain⟨j,kd',hj,h1,h2,h⟩:=qed h;exact⟨_,js (v:=.s ((l.take j).drop i)) λdf rd K rest ρ t' S hs hk=>qgv (q7 hs hv) (hi hs) (hj hs) hu h1 h2 hk,h⟩
 .rename_i v hns hv
  split at h
  .rename_i e he
   have hu:=qba he;split at h
   .rename_i sz agg ht
    split at h
    .rename_i xs ks nq
     split at h
     .exact⟨_,qah (v:=.a (.sl sz xs none)) λdf rd K rest ρ t' S hs hS hk=>qhn (i:=0) (j:=xs.length) (by rw[q7 hs hv];exact qgi nq hS) hu ht rfl rfl Om Om (by simpa[SV.ev]using hk),h⟩
     .obtain⟨i,kd,hi,h1,h⟩:=qed h
      exact⟨_,qah (v:=.a (.sl sz (xs.drop i) none)) λdf rd K rest ρ t' S hs hS hk=>qhn (i:=i) (j:=xs.length) (by rw[q7 hs hv];exact qgi nq hS) hu ht ⟨kd,hi hs⟩ rfl h1 Om (by simpa[SV.ev]using hk),h⟩
     .obtain⟨j,kd,hj,h1,h⟩:=qed h
      exact⟨_,qah (v:=.a (.sl sz (xs.take j) none)) λdf rd K rest ρ t' S hs hS hk=>qhn (i:=0) (j:=j) (by rw[q7 hs hv];exact qgi nq hS) hu ht rfl ⟨kd,hj hs⟩ Om h1 (by simpa[SV.ev]using hk),h⟩
     .obtain⟨i,kd,hi,h⟩:=qed h
      obtain⟨j,kd',hj,h1,h2,h⟩:=qed h;exact⟨_,qah (v:=.a (.sl sz ((xs.take j).drop i) none)) λdf rd K rest ρ t' S hs hS hk=>qhn (i:=i) (j:=j) (by rw[q7 hs hv];exact qgi nq hS) hu ht ⟨kd,hi hs⟩ ⟨kd',hj hs⟩ h1 h2 (by simpa[SV.ev]using hk),h⟩
    .exact h.elim
   .exact h.elim
  .exact h.elim
 .exact h.elim
def q51(P:Program)(N:Nat)(sl:List (Nat×SV))(nx:Nat)(k:Ef->Prop)(t:TypeId)(x y:Operand):Prop:=
 match sval N sl x with
 |some (.s l)=>bif qmf (P.underlying t)then bndW (sval N sl y) λi=>i<l.length∧k (w7 nx (.a (Uv (l.getD i 0))))else False
 |_=>False
theorem zjp{t:TypeId}{x y:Operand}(h:q51 E.P N sl nx k t x y):∃e,Loc E N ops ⟨d,.index t x y,T,p,af,none⟩ nx sl H e∧k e:=by
 unfold q51 at h;split at h
 .rename_i l hv
  cases hu:qmf (E.P.underlying t)with
  |false=>rw[hu]at h;exact h.elim
  |true=>
   rw[hu]at h;simp only[cond_true]at h;obtain⟨i,kd,hi,h1,h⟩:=qed h;exact⟨_,js (v:=.a (Uv (l.getD i 0))) λdf rd K rest ρ t' S hs hk=>wp (q7 hs hv) (hi hs) (qu6 hu) h1 hk,h⟩
 .exact h.elim
def qo3(P:Program)(N:Nat)(sl:List (Nat×SV))(H:Nat->Option SR)(nx:Nat)(k:Ef->Prop)(t:TypeId)(x y:Operand):Prop:=
 match sval N sl x,elT (P.underlying t)with
 |some v,some e=>(match tyOf P e with
  |some (sz,_)=>(match qma H sz v with
   |some (xs,ks)=>bndW (sval N sl y) λi=>∃z,xs[i]?=some z∧k ⟨.a (.pp z.cells),ks,[],nx⟩
   |none=>False)
  |none=>False)
 |_,_=>False
theorem q50{t:TypeId}{x y:Operand}(h:qo3 E.P N sl H nx k t x y):∃e,Loc E N ops ⟨d,.indexAddr t x y,T,p,af,none⟩ nx sl H e∧k e:=by
 unfold qo3 at h;split at h
 .rename_i v e hv he
  split at h
  .rename_i sz agg ht
   split at h
   .rename_i xs ks nq
    obtain⟨i,kd,hi,z,hz,h⟩:=qed h;exact⟨_,qah (v:=.a (.pp z.cells)) λdf rd K rest ρ t' S hs hS hk=>qwg (by rw[q7 hs hv];exact qgi nq hS) (hi hs) (qba he) ht rfl hz hk,h⟩
   .exact h.elim
  .exact h.elim
 .exact h.elim
def lenW(P:Program)(H:Nat->Option SR)(nx:Nat)(k:Ef->Prop)(t:TypeId):Option SV->Prop
 |some (.s l)=>bif qmf (P.underlying t)then k (w7 nx (.i l.length))else False
 |some (.tp b)=>(match H b,elT (P.underlying t)with
  |some (.tip _ _ xs),some _=>k ⟨.i xs.length,[b],[],nx⟩
  |some (.own _ _ xs),some _=>k ⟨.i xs.length,[b],[],nx⟩
  |_,_=>False)
 |some (.a x)=>(match lenA x,elT (P.underlying t)with
  |some n,some _=>k (w7 nx (.i n))
  |_,_=>False)
 |_=>False
theorem zh0{b sz:Nat}{T:TypeId}{xs:List AV}{c:AV}{S:List AObj}(h:TipO b S sz T xs c):lenA c=some xs.length:=by
 rcases h with(⟨rfl,rfl⟩|⟨t,rfl,_⟩)|⟨rfl,o,v,f,rfl⟩<;>rfl
theorem qvx{b sz:Nat}{T:TypeId}{xs:List AV}{c:AV}{S:List AObj}(h:TipO b S sz T xs c):tpAt c=c:=by
 unfold tpAt;rw[(q0b h).2];rfl
theorem zj9{sz:Nat}{T:TypeId}{xs:List AV}{c:AV}{S:List AObj}(h:OwnS S sz T xs c):lenA c=some xs.length:=by
 rcases h with⟨rfl,h⟩|⟨_,_,_,_,rfl,_⟩
 .exact h.len
 .rfl
theorem qio{sz:Nat}{T:TypeId}{xs:List AV}{c:AV}{S:List AObj}(h:OwnS S sz T xs c):tpAt c=c:=by
 rcases h with⟨_,h⟩|⟨_,_,_,_,rfl,_⟩
 .unfold tpAt
  rw[h.one];rfl
 .rfl
theorem zou{t:TypeId}{ts:Array TypeId}{x:Operand}(ht:ts[0]?=some t)(h:lenW E.P H nx k t (sval N sl x)):∃e,Loc E N ops ⟨d,.call ⟨.builtin .len,#[x],ts⟩,T,p,af,none⟩ nx sl H e∧k e:=by
 unfold lenW at h;split at h
 .rename_i l hv
  cases hu:qmf (E.P.underlying t)with
  |false=>rw[hu]at h;exact h.elim
  |true=>rw[hu]at h;exact⟨_,js (v:=.i l.length) λdf rd K rest ρ t' S hs hk=>zr (q7 hs hv) ht (qu6 hu) hk,h⟩
 .rename_i b hv
  split at h
  .rename_i sz T' xs e hb he
   refine⟨_,qah (v:=.i xs.length) λdf rd K rest ρ t' S hs hS hk=>?_,h⟩;have:=hS.ok b _ ((xg b).trans hb);exact jk (v:=ρ b) ((q7 hs hv).trans (qvx this)) (zh0 this) ht (qba he) hk
  .rename_i sz T' xs e hb he
   refine⟨_,qah (v:=.i xs.length) λdf rd K rest ρ t' S hs hS hk=>?_,h⟩;have:=hS.ok b _ ((xg b).trans hb);exact jk (v:=ρ b) ((q7 hs hv).trans (qio this)) (zj9 this) ht (qba he) hk
  .exact h.elim
 .rename_i y hv
  split at h
  .rename_i n e hn he
   exact⟨_,js (v:=.i n) λdf rd K rest ρ t' S hs hk=>jk (q7 hs hv) hn ht (qba he) hk,h⟩
  .exact h.elim
 .exact h.elim
def qrd(H:Nat->Option SR)(sz:Nat)(T:TypeId):SV->Option (List AV×List Nat)
 |.tp b=>(match H b with
  |some (.tip z T' xs)=>bif Qc z sz&&Qc T' T then some (xs,[b])else none
  |_=>none)
 |.a (.v (.slice none 0 0))=>some ([],[])
 |_=>none
theorem zfu{S:List AObj}{ρ:Nat->AV}{v:SV}{sz:Nat}{T:TypeId}{xs:List AV}{ks ks':List Nat}(h:qrd H sz T v=some (xs,ks))(hS:SatF S ρ (resF (ks++ks') H)):TipO 0 S sz T xs (v.ev ρ)∧∀o,zq (v.ev ρ)=some o->∃b,ks=[b]∧zq (ρ b)=some o:=by
 unfold qrd at h;split at h
 .rename_i b
  split at h
  .rename_i z T' ys hb
   cases hz:(Qc z sz&&Qc T' T)with
   |false=>rw[hz]at h;simp at h
   |true=>
    rw[hz]at h;simp only[cond_true,Qa,Qg]at h;obtain⟨rfl,rfl⟩:=h;simp only[Qd]at hz;have e1:=Qb hz.1;have e2:=Qb hz.2;subst e1;subst e2;have:=hS.ok b _ (by unfold resF;simp[memN];exact hb);have e:(SV.tp b).ev ρ=ρ b:=qvx this;rw[e];exact⟨this,λo ho=>⟨b,rfl,ho⟩⟩
  .simp at h
 .simp only[Qa,Qg]at h
  obtain⟨rfl,rfl⟩:=h;exact⟨.inl (.inl ⟨rfl,rfl⟩),λo ho=>by simp[SV.ev,zq]at ho⟩
 .simp at h
theorem zc5{v:SV}{sz:Nat}{T:TypeId}{xs:List AV}{ks:List Nat}(h:qrd H sz T v=some (xs,ks)):∀b,ks=[b]->∃z T ys,H b=some (.tip z T ys):=λb hb=>by
 unfold qrd at h;split at h
 .split at h
  .rename_i b' z T' ys hk
   cases hz:(Qc z sz&&Qc T' T)with
   |false=>rw[hz]at h;simp at h
   |true=>
    rw[hz]at h;simp only[cond_true,Qa,Qg]at h;rw[hb]at h;simp only[Zw,and_true]at h;exact⟨z,T',ys,by rw[<-h.2];exact hk⟩
  .simp at h
 .simp only[Qa,Qg]at h
  rw[hb]at h;simp at h
 .simp at h
theorem q1f{v:SV}{sz:Nat}{xs:List AV}{ks:List Nat}(h:qma H sz v=some (xs,ks)):∀b,memN ks b=true->∃z T ys,H b=some (.tip z T ys):=λb hb=>by
 unfold qma at h;split at h
 .rename_i z ys tip
  cases hz:Qc z sz with
  |false=>rw[hz]at h;simp at h
  |true=>
   rw[hz]at h;simp only[cond_true,Qa,Qg]at h;rw[<-h.2]at hb;simp[memN]at hb
 .simp only[Qa,Qg]at h
  rw[<-h.2]at hb;simp[memN]at hb
 .rename_i b'
  split at h
  .rename_i z T' ys hk
   cases hz:Qc z sz with
   |false=>rw[hz]at h;simp at h
   |true=>
    rw[hz]at h;simp only[cond_true,Qa,Qg]at h;rw[<-h.2]at hb;simp only[memN,Zg,Zv,Zh]at hb;rw[Qb hb];exact⟨z,T',ys,hk⟩
  .simp at h
 .simp at h
def appW(P:Program)(H:Nat->Option SR)(nx:Nat)(k:Ef->Prop)(t u:TypeId):Option SV->Option SV->Prop
 |some vx,some vy=>(match elT (P.underlying t),elT (P.underlying u)with
  |some e,some e'=>(match q3r P e with
   |some (sz,bytes)=>(match qrd H sz e vx,qma H sz vy with
    |some (xs,kx),some (ys,ky)=>bif Qc e e'&&Qf 0 bytes&&Qh bytes 140737&&(kx++ky).all (λb=> !Nat.beq b nx)then((xs.length+ys.length<=1000000000∨(xs.length+ys.length)*bytes<=140737488355328)∧kc (flat ys)=true)∧k ⟨.tp nx,kx++ky,kx.map (λb=>(b,none))++[(nx,some (.tip sz e (xs++ys)))],nx+1⟩else False
    |_,_=>False)
   |none=>False)
  |_,_=>False)
 |_,_=>False
theorem zf9(l:List Nat)(k:Nat):lkS (l.map λb=>(b,(none:Option SR))) k=bif memN l k then some none else none:=by
 induction l with
 |nil=>rfl
 |cons b r ih=>
  simp only[Qs,lkS,memN,Zg]at ih⊢;by_cases h:b=k
  .subst h
   have:Qc b b=true:=Sx
   simp only[this,cond_true,Bool.true_or]
  .rw[jv h,jv (λe=>h e.symm),Qy]
   simp only[cond_false];exact ih
theorem qlk(a b:List Nat)(k:Nat):memN (a++b) k=(memN a k||memN b k):=by simp[memN]
theorem zn7{t u:TypeId}{x y:Operand}(h:appW E.P H nx k t u (sval N sl x) (sval N sl y)):∃e,Loc E N ops ⟨d,.call ⟨.builtin .append,#[x,y],#[t,u]⟩,T,p,af,none⟩ nx sl H e∧k e:=by
 unfold appW at h;split at h
 .rename_i vx vy hvx hvy
  split at h
  .rename_i e e' he gk
   split at h
   .rename_i sz bytes hb
    split at h
    .rename_i xs kx ys ky hg nq
     cases hc:(Qc e e'&&Qf 0 bytes&&Qh bytes 140737&&(kx++ky).all (λb=> !Nat.beq b nx))with
     |false=>rw[hc]at h;exact h.elim
     |true=>
      rw[hc]at h;simp only[Qd]at hc;have ee:=Qb hc.1.1.1;subst ee;have hbp:=vi hc.1.1.2;have cz:=Qi hc.1.2
      have bt:∀b∈kx++ky,b≠nx:=λb hb e=>by
       have:=Qk.1 hc.2 b hb;subst e;simp at this
      obtain⟨⟨h1,h2⟩,h⟩:=h;refine⟨_,λdf rd K rest ρ t' S hs hS hk=>?_,h⟩;simp only at hS hk;obtain⟨hT,hl⟩:=zfu hg hS;have hSy:SatF S ρ (resF ky H):=⟨λk r hk=>hS.ok k r (by have:=wr hk;unfold resF;rw[qlk,this.1,Zn];exact this.2),λk k' r r' b9 g1 g2=>hS.sep k k' r r' b9 (by have:=wr g1;unfold resF;rw[qlk,this.1,Zn];exact this.2) (by have:=wr g2;unfold resF;rw[qlk,this.1,Zn];exact this.2)⟩;have h47:(xs.length+ys.length)*bytes<=140737488355328:=h1.elim (λh=>Qr (Nat.mul_le_mul h cz) Om) id;have u7:xs.length+ys.length<=maxLen:=Qr (Qr (Nat.le_mul_of_pos_right _ hbp) h47) (by decide);refine q4f (q7 hs hvx) (by rw[q7 hs hvy];exact qgi nq hSy) (qba he) (qba gk) (qoo hb) hT h2 u7 h47 λc' S' t1 g1 g2 g3 g4=>?_;simp only at g2 g3
      have hresE:∀b,kx=[b]->∃r,resF (kx++ky) H b=some r:=λb p9=>by
       obtain⟨z,T2,ys2,q⟩:=zc5 hg b p9;refine⟨.tip z T2 ys2,?_⟩;unfold resF;rw[p9];simp[memN];exact q
      have key:∀k r,chF (kx.map (λb=>(b,none))++[(nx,some (.tip sz e (xs++ys)))]) (resF (kx++ky) H) k=some r->(k=nx∧r=.tip sz e (xs++ys))∨(k≠nx∧memN kx k=false∧resF (kx++ky) H k=some r):=λk r hk=>by
       unfold chF at hk;rw[qez]at hk;rw[zf9]at hk
       cases hm:memN kx k with
       |true=>rw[hm]at hk;simp at hk
       |false=>
        rw[hm]at hk;simp only[cond_false,lkS]at hk;by_cases hn:nx=k
        .subst hn
         have:Qc nx nx=true:=Sx
         rw[this]at hk;simp only[cond_true,Qa]at hk;exact .inl ⟨rfl,hk.symm⟩
        .rw[jv hn]at hk
         exact .inr ⟨λe=>hn e.symm,rfl,hk⟩
      have i5:∀k r,k≠nx->memN kx k=false->resF (kx++ky) H k=some r->∀o,zq (ρ k)=some o->o≠t1∧o<S.length:=λk r b9 hm hk o ho=>by
       have d9:=SR.ok_lt (hS.ok k r hk) ho;refine⟨λe=>?_,d9⟩;subst e;rcases g3 with g3|g3
       .obtain⟨b,p9,t8⟩:=hl o (by rw[g3];rfl)
        have gx:b≠k:=λe=>by subst e;rw[p9]at hm;simp[memN]at hm
        have r7:=hresE b p9;obtain⟨r',r7⟩:=r7;exact hS.sep b k r' r gx r7 hk o t8 ho
       .omega
      have:=hk (upd ρ nx c') S' ⟨λk hk=>qak _ _ (by simp only at hk;omega),⟨λk r hk=>?_,λk k' r1 r2 b9 q1 q2 o ho e8=>?_⟩,g2.len,λj hj b9=>?_,λk r hk o ho=>?_⟩
      .simpa only[SV.ev,ve,qvx g1]using this
      .rcases key k r hk with⟨rfl,rfl⟩|⟨q1,q2,q3⟩
       .rw[ve];exact g1
       .rw[qak _ _ q1]
        have h3:=hS.ok k r q3
        cases r with
        |cells T1 cs=>
         exfalso;have:=(wr q3)
         have hmy:memN ky k=true:=by
          have h5:=this.1;rw[qlk,q2,Qy]at h5;exact h5
         obtain⟨z,T2,ys2,q⟩:=q1f nq k hmy;rw[this.2]at q
         simp at q
        |tip z T1 zs=>exact SR.ok_of (f:=λ_=>false) (r:=.tip z T1 zs) (ρ:=ρ) rfl (λk hk=>by simp at hk) h3 λo ho=>g2.same o (i5 k _ q1 q2 q3 o ho).1 (i5 k _ q1 q2 q3 o ho).2
        |own z T1 zs=>exact SR.ok_of (f:=λ_=>false) (r:=.own z T1 zs) (ρ:=ρ) rfl (λk hk=>by simp at hk) h3 λo ho=>g2.same o (i5 k _ q1 q2 q3 o ho).1 (i5 k _ q1 q2 q3 o ho).2
        |obj P1=>exact SR.ok_of (f:=λ_=>false) (r:=.obj P1) (ρ:=ρ) rfl (λk hk=>by simp at hk) h3 λo ho=>g2.same o (i5 k _ q1 q2 q3 o ho).1 (i5 k _ q1 q2 q3 o ho).2
        |rows T1 ys cs=>
         exfalso;have:=(wr q3)
         have hmy:memN ky k=true:=by
          have h5:=this.1;rw[qlk,q2,Qy]at h5;exact h5
         obtain⟨z,T2,ys2,q⟩:=q1f nq k hmy;rw[this.2]at q;simp at q
      .rcases key k r1 q1 with⟨rfl,rfl⟩|⟨f1,f2,f3⟩
       .rcases key k' r2 q2 with⟨rfl,rfl⟩|⟨e1,e2,e3⟩
        .exact b9 rfl
        .rw[ve]at ho
         rw[qak _ _ e1]at e8;exact(i5 k' r2 e1 e2 e3 o e8).1 (g4 o ho)
       .rw[qak _ _ f1]at ho
        rcases key k' r2 q2 with⟨rfl,rfl⟩|⟨e1,e2,e3⟩
        .rw[ve]at e8
         exact(i5 k r1 f1 f2 f3 o ho).1 (g4 o e8)
        .rw[qak _ _ e1]at e8
         exact hS.sep k k' r1 r2 b9 f3 e3 o ho e8
      .refine g2.same j (λe=>?_) hj
       subst e;rcases g3 with g3|g3
       .obtain⟨b,p9,t8⟩:=hl j (by rw[g3];rfl)
        obtain⟨r2,hr2⟩:=hresE b p9;exact b9 b r2 hr2 t8
       .omega
      .rcases key k r hk with⟨rfl,rfl⟩|⟨q1,q2,q3⟩
       .rw[ve]at ho
        have:=g4 o ho;subst this;rcases g3 with g3|g3
        .obtain⟨b,p9,t8⟩:=hl o (by rw[g3];rfl)
         obtain⟨r2,hr2⟩:=hresE b p9;exact .inr ⟨b,r2,hr2,t8⟩
        .exact .inl g3
       .rw[qak _ _ q1]at ho
        exact .inr ⟨k,r,q3,ho⟩
    .exact h.elim
   .exact h.elim
  .exact h.elim
 .exact h.elim
end
end Go.Av
namespace Go.Av
open Go Go.RowKit
structure zpk (E:Env) (f:FuncId):Prop where
 run:∀vs w,(callFunc f vs).run E.P w=.ok (.enter f vs) w
def vb(E:Env)(f:FuncId)(vs:List SV)(nx:Nat)(H:Nat->Option SR)(e:Ef):Prop:=
 ∀(ρ:Nat->AV)(S:List AObj),SatF S ρ (resF e.ks H)->qp E f (SV.evs ρ vs) S λr S'=>∃ρ',r=e.val.ev ρ'∧qkc ρ S nx H e ρ' S'
def nums:Nat->List (Nat×SV)->Bool
 |_,[]=>true
 |i,(j,_)::r=>Qc j i&&nums (i+1) r
section
variable {E : Env} {N : Nat} {ops : Array Oper} {nx : Nat} {sl : List (Nat × SV)} {H : Nat → Option SR} {k : Ef → Prop} {d : Option Tmp} {T : TypeId} {p : String} {af : Array Edge}
theorem q31{f:FuncId}{xs ys:List AV}{st:List AObj}{R:AV->List AObj->Prop}(hl:xs.length=ys.length)(hw:∀(i:Nat)(x y:AV),xs[i]?=some x->ys[i]?=some y->Wk x y)(h:qp E f ys st R):qp E f xs st R:=
 ⟨λB0 w0 G vals w hL hA hR=>h.run B0 w0 G vals w hL hA ⟨by rw[<-hl];exact hR.1,λi a b ha hb=>by
  have hi:=lt_of_getElem? ha;have hx:xs[i]?=some (xs[i]'(by omega)):=Qe Om
  exact hw i _ a hx ha G b (hR.2 i _ b hx hb)⟩⟩
def parT(P:Program)(f:FuncId):List TypeId:=match P.funcs[f]?with
 |some fn=>fn.params.toList
 |none=>[]
def q3n(P:Program)(f:FuncId):Option (List AV)->Option (List AV)
 |some xs=>some (zipT P (parT P f) xs)
 |none=>none
theorem zmg{f:FuncId}{vs:List SV}{args:List AV}{r0:AV}(hc:∀S,qp E f args S λr S'=>r=r0∧S'=S)(ha:q3n E.P f (frzs (resF (SV.kss vs) H) vs)=some args):vb E f vs nx H ⟨nf r0,SV.kss vs,[],nx⟩:=λρ S hS=>by
 cases hf:frzs (resF (SV.kss vs) H) vs with
 |none=>rw[hf]at ha;simp[q3n]at ha
 |some xs=>
 rw[hf]at ha;simp only[q3n,Qa]at ha;obtain⟨h1,h2⟩:=qgz hS vs xs hf;obtain⟨h3,h4⟩:=zb3 E.P (parT E.P f) xs;rw[ha]at h3 h4;refine q31 (h1.trans h3) (λi x y hx hy=>?_) ((hc S).mono ?_)
 .have hi:i<xs.length:=by rw[<-h1];exact lt_of_getElem? hx
  have hz:xs[i]?=some xs[i]:=Qe hi;exactλG v hv=>h4 i _ y hz hy G v (h2 i x _ hx hz G v hv)
 rintro r S' ⟨rfl,rfl⟩;exact⟨ρ,(qpf ρ _).symm,λ_ _=>rfl,⟨λk r hk=>hS.ok k r hk,λk k' r r' b9 h1 h2=>hS.sep k k' r r' b9 h1 h2⟩,Qj _,λ_ _ _=>rfl,λk r hk o ho=>.inr ⟨k,r,hk,ho⟩⟩
def fnOf:SV->Option (FuncId×List SV×List SV)
 |.fn (.func f) a b=>some (f,a,b)
 |.a (.fn (.func f) a b)=>some (f,nfs a,nfs b)
 |_=>none
theorem zmt{v:SV}{f:FuncId}{a b:List SV}(h:fnOf v=some (f,a,b))(ρ:Nat->AV):v.ev ρ=.fn (.func f) (SV.evs ρ a) (SV.evs ρ b):=by
 unfold fnOf at h;split at h
 .simp only[Qa,Qg]at h;obtain⟨rfl,rfl,rfl⟩:=h;rfl
 .simp only[Qa,Qg]at h;obtain⟨rfl,rfl,rfl⟩:=h;simp only[SV.ev,qjv]
 .simp at h
def zcm(E:Env)(N:Nat)(sl:List (Nat×SV))(H:Nat->Option SR)(nx:Nat)(k:Ef->Prop)(x:Operand)(xs:Array Operand):Prop:=
 match sval N sl x,qpy N sl xs.toList with
 |some v,some vs=>(match fnOf v with
  |some (f,a,b)=>zpk E f∧∃e,vb E f (a++(vs++b)) nx H e∧k e
  |none=>False)
 |_,_=>False
theorem zma{x:Operand}{xs:Array Operand}{ts:Array TypeId}(h:zcm E N sl H nx k x xs):∃e,Loc E N ops ⟨d,.call ⟨.value x,xs,ts⟩,T,p,af,none⟩ nx sl H e∧k e:=by
 unfold zcm at h;split at h
 .rename_i v vs hv hvs
  split at h
  .rename_i f a b hf
   obtain⟨hE,e,hc,h⟩:=h;refine⟨e,λdf rd K rest ρ t S hs hS hk=>zb7 ((q7 hs hv).trans (zmt hf ρ)) hE.run ?_,h⟩;have:=hc ρ S hS;rw[qpz hs hvs];have he:SV.evs ρ (a++(vs++b))=SV.evs ρ a++SV.evs ρ vs++SV.evs ρ b:=by simp[xp]
   rw[he]at this;refine this.mono ?_;rintro r S' ⟨ρ',rfl,hp⟩;exact hk ρ' S' hp
  .exact h.elim
 .exact h.elim
def bslW(P:Program)(N:Nat)(bxs:List Nat)(d:Option Tmp)(sl:List (Nat×SV))(H:Nat->Option SR)(nx:Nat)(k:Ef->Prop)(t:TypeId)(len:Nat)(parts:Array (Nat×Operand)):Prop:=
 match elT (P.underlying t)with
 |some e=>(match tyOf P e,qh9 P e len,qpv N sl parts.toList with
  |some (sz,_),some zs,some ps=>(match len with
   |0=>(match ps with
    | []=>k ⟨.tp nx,[],[(nx,some (.tip sz e []))],nx+1⟩
    |_=>False)
   |len=>bif qxp bxs d then(bif ps.all (λq=>q.2.all λ_=>false)&&nums 0 ps&&Qc ps.length len&&(SV.evs (λ_=>zm) (ps.map Qm)).all (λy=>y.okc&&Qc y.cells.length sz)&&Qc zs.length (len*sz)&&Qh (len*sz) 16777216&&Qf 0 len&&Qh len 16777216 then
     k ⟨.tp nx,[],[(nx,some (.tip sz e (SV.evs (λ_=>zm) (ps.map Qm))))],nx+1⟩else False)else(match frzs (resF (SV.kss (ps.map Qm)) H) (ps.map Qm)with
    |some ys=>zdi P e ys λys=>fcN sz λsz=>bif nums 0 ps&&Qc ys.length len&&ys.all (λy=>y.okc&&Qc y.cells.length sz)&&Qc zs.length (len*sz)&&Qh (len*sz) 16777216 then k ⟨.a (.sl sz ys none),SV.kss (ps.map Qm),[],nx⟩else False
    |none=>False))
  |_,_,_=>False)
 |none=>False
theorem q6o:∀{ps:List (Nat×SV)}{i0:Nat}{ys:List AV},nums i0 ps=true->ps.length=ys.length->∀(i:Nat)(q:Nat×SV)(r:Nat×AV),ps[i]?=some q->(j5 i0 ys)[i]?=some r->q.1=r.1∧(ps.map Qm)[i]?=some q.2∧ys[i]?=some r.2
 | [],_,_,_,_,i,_,_,h,_=>by simp at h
 |(j,v)::ps,i0,[],_,hl,_,_,_,_,_=>by simp at hl
 |(j,v)::ps,i0,y::ys,h,hl,i,q,r,hq,hr=>by
  simp only[nums,Qd]at h;simp only[j5]at hr
  cases i with
  |zero=>
   simp only[Qp,Qa]at hq hr;subst hq;subst hr
   exact⟨Qb h.1,rfl,rfl⟩
  |succ i=>
   have:=q6o h.2 (by simpa using hl) i q r (by simpa using hq) (by simpa using hr)
   simpa using this
theorem qrr{α:Type}:∀(l:List α)(i:Nat),(j5 i l).length=l.length
 | [],_=>rfl
 |x::r,i=>by simp[j5,qrr r]
theorem zgx(t:Nat->AV)(i:Nat)(a b:AV):put (put t i a) i b=put t i b:=by
 funext j;by_cases h:j=i
 .subst h;rw[xx,xx]
 .rw[qax _ _ _ _ h,qax _ _ _ _ h,qax _ _ _ _ h]
theorem qrs:∀(ps:List (Nat×SV))(i:Nat),nums i ps=true->(ps.map λq=>(q.1,q.2.ev λ_=>zm))=j5 i (SV.evs (λ_=>zm) (ps.map Qm))
 | [],_,_=>rfl
 |(j,v)::r,i,h=>by
  simp only[nums,Qd]at h;simp only[Qs,SV.evs,j5,qrs r (i+1) h.2];rw[Qb h.1]
theorem zof{bxs:List Nat}{t:TypeId}{len:Nat}{parts:Array (Nat×Operand)}(h:bslW E.P N bxs d sl H nx k t len parts):∃e,Loc E N ops ⟨d,.buildSlice t len parts,T,p,af,none⟩ nx sl H e∧k e:=by
 unfold bslW at h;split at h
 .rename_i e he
  split at h
  .rename_i sz agg zs ps ht hz hp
   split at h
   .split at h
    .refine⟨_,qny (λk r hk=>by rw[qgp]at hk;simp at hk) λdf rd K rest ρ t' S hs _ hk=>?_,h⟩
     have lv:vz N ⟨t',S,df⟩ parts=[]:=by unfold vz;rw[qin hs hp];rfl
     have o8:zs=[]:=by
      unfold qh9 at hz;split at hz
      .simp at hz;exact hz
      .simp at hz
     subst o8;refine qb5 (loc:=[]) (st:=S) Sx (qba he) ht hz (by rw[lv];rfl) Sx ?_;have:=hk (.os S.length 0 0 0 0) [.cells 0 e []] (.inr ⟨rfl,_,_,_,rfl⟩) (λo ho=>by simp[zq]at ho)
     simpa[SV.ev,ve,tpAt,AV.one]using this
    .exact h.elim
   .rename_i b9
    cases t6:qxp bxs d with
    |true=>
     rw[t6]at h;simp only[cond_true]at h
     cases hc:(ps.all (λq=>q.2.all λ_=>false)&&nums 0 ps&&Qc ps.length len&&(SV.evs (λ_=>zm) (ps.map Qm)).all (λy=>y.okc&&Qc y.cells.length sz)&&Qc zs.length (len*sz)&&Qh (len*sz) 16777216&&Qf 0 len&&Qh len 16777216)with
     |false=>rw[hc]at h;exact h.elim
     |true=>
      rw[hc]at h;simp only[Qd]at hc;obtain⟨⟨⟨⟨⟨⟨⟨c0,c1⟩,c2⟩,c3⟩,c4⟩,c5⟩,c6⟩,c7⟩:=hc;have c2:=Qb c2;have c4:=Qb c4;have hyl:(SV.evs (λ_=>zm) (ps.map Qm)).length=len:=by rw[xp];simpa using c2
      have c3:∀y∈SV.evs (λ_=>zm) (ps.map Qm),y.okc=true∧y.cells.length=sz:=λy hy=>by
       have:=Qk.1 c3 y hy;simp only[Qd]at this;exact⟨this.1,Qb this.2⟩
      refine⟨_,qny (λk r hk=>by rw[qgp]at hk;simp at hk) λdf rd K rest ρ t' S hs _ hk=>?_,h⟩
      have hev:(ps.map λq=>(q.1,q.2.ev ρ))=j5 0 (SV.evs (λ_=>zm) (ps.map Qm)):=by
       rw[<-qrs ps 0 c1];refine List.map_congr_left λq hq=>?_;rw[qbm (f:=λ_=>false) (ρ:=λ_=>zm) (ρ':=ρ) (λk hk=>by simp at hk) q.2 (Qk.1 c0 q hq)]
      have lv:vz N ⟨t',S,df⟩ parts=j5 0 (SV.evs (λ_=>zm) (ps.map Qm)):=by rw[<-hev];unfold vz;exact qin hs hp
      have hfill:=quz (sz:=sz) _ 0 [] zs c3 Sx (by rw[c4,hyl]);have o8:(flat (SV.evs (λ_=>zm) (ps.map Qm))).length=len*sz:=by rw[zv λx hx=>(c3 x hx).2,hyl]
      refine qb5 (loc:=[]) (st:=S) Sx (qba he) ht hz (by rw[lv];simpa using hfill) c5 ?_
      cases d with
      |none=>simp[qxp]at t6
      |some x=>
       refine zca x (o:=S.length) (sz:=sz) (len:=len) (cap:=len) (T':=e) (xs:=SV.evs (λ_=>zm) (ps.map Qm)) (by simp[AS.put,xx]) (by simp[AS.put]) o8 hyl (vi c6) (Qj _) (by have:=Qi c7;simp only[maxLen];omega) (λx hx=>(c3 x hx).2) (by rw[<-o8,List.take_length]) ?_;have:=hk (.sl sz (SV.evs (λ_=>zm) (ps.map Qm)) (some S.length)) [.tip len sz e] (.inl (.inr ⟨S.length,rfl,by rw[hyl];exact yg,Qv _⟩)) (λo ho=>by simp only[zq,Qa]at ho;omega);simp only[SV.ev,ve,tpAt,AV.one,cond_true,AS.put]at this
       simpa[AS.put,zgx]using this
    |false=>
    rw[t6]at h;simp only[cond_false]at h;split at h
    .rename_i ys0 hys
     obtain⟨ys,hyn,h⟩:=q6i h;rw[qq7]at h
     cases hc:(nums 0 ps&&Qc ys.length len&&ys.all (λy=>y.okc&&Qc y.cells.length sz)&&Qc zs.length (len*sz)&&Qh (len*sz) 16777216)with
     |false=>rw[hc]at h;exact h.elim
     |true=>
      rw[hc]at h;simp only[Qd]at hc;obtain⟨⟨⟨⟨c1,c2⟩,c3⟩,c4⟩,c5⟩:=hc;have c2:=Qb c2;have c4:=Qb c4
      have c3:∀y∈ys,y.okc=true∧y.cells.length=sz:=λy hy=>by
       have:=Qk.1 c3 y hy;simp only[Qd]at this;exact⟨this.1,Qb this.2⟩
      refine⟨_,qah (v:=.a (.sl sz ys none)) λdf rd K rest ρ t' S hs hS hk=>?_,h⟩;obtain⟨w1,w2⟩:=qgz hS _ _ hys;have hlp:ps.length=ys.length:=by rw[<-hyn.1,<-w1];simp[xp]
      have lv:vz N ⟨t',S,df⟩ parts=ps.map λq=>(q.1,q.2.ev ρ):=by unfold vz;exact qin hs hp
      have hfill:=quz (sz:=sz) ys 0 [] zs c3 Sx (by rw[c4,c2]);refine qui (j5 0 ys) (by rw[lv,qrr];simpa using hlp) (λi q r hq hr=>?_) (qba he) ht hz (by simpa using hfill) c2 Sx (λx hx=>(c3 x hx).2) c5 hk;rw[lv,Qn]at hq
      cases hpi:ps[i]?with
      |none=>rw[hpi]at hq;simp at hq
      |some q'=>
       rw[hpi]at hq;simp only[Qu,Qa]at hq;subst hq;obtain⟨g1,g2,g3⟩:=q6o c1 hlp i q' r hpi hr;have hi:i<ys0.length:=by rw[hyn.1];exact lt_of_getElem? g3
       have sg:ys0[i]?=some ys0[i]:=Qe hi;exact⟨g1,λG v hv=>hyn.2 i _ _ sg g3 G v (w2 i _ _ (by rw[xp,Qn,g2];rfl) sg G v hv)⟩
    .exact h.elim
  .exact h.elim
 .exact h.elim
def mmW(nx:Nat)(k:Ef->Prop)(f:Int->Int->Int):Option SV->Option SV->Prop
 |some a,some b=>(match qgb a,qgb b with
  |some (.i64,m),some (.i64,n)=>k (w7 nx (.i (f m n)))
  |_,_=>False)
 |_,_=>False
theorem zoy{ts:Array TypeId}{x y:Operand}(h:mmW nx k min (sval N sl x) (sval N sl y)):∃e,Loc E N ops ⟨d,.call ⟨.builtin .min,#[x,y],ts⟩,T,p,af,none⟩ nx sl H e∧k e:=by
 unfold mmW at h;split at h
 .rename_i a b ha hb
  split at h
  .rename_i m n hm hn
   exact⟨_,js (v:=.i (min m n)) λdf rd K rest ρ t' S hs hk=>jm (.int .i64 (min m n)) rfl nofun (λa w he=>by
    have e1:=he _ _ ((q7 hs ha).trans (qc6 hm ρ));have e2:=he _ _ ((q7 hs hb).trans (qc6 hn ρ));have e:min m n=if n<m then n else m:=by simp only[Int.min_def];split <;>split <;>omega
    simp[execOp,resolve,invoke,builtin,Builtin.min_,Builtin.min2,e1,e2,e]) hk,h⟩
  .exact h.elim
 .exact h.elim
theorem zox{ts:Array TypeId}{x y:Operand}(h:mmW nx k max (sval N sl x) (sval N sl y)):∃e,Loc E N ops ⟨d,.call ⟨.builtin .max,#[x,y],ts⟩,T,p,af,none⟩ nx sl H e∧k e:=by
 unfold mmW at h;split at h
 .rename_i a b ha hb
  split at h
  .rename_i m n hm hn
   exact⟨_,js (v:=.i (max m n)) λdf rd K rest ρ t' S hs hk=>jm (.int .i64 (max m n)) rfl nofun (λa w he=>by
    have e1:=he _ _ ((q7 hs ha).trans (qc6 hm ρ));have e2:=he _ _ ((q7 hs hb).trans (qc6 hn ρ));have e:max m n=if n>m then n else m:=by simp only[Int.max_def];split <;>split <;>omega
    simp[execOp,resolve,invoke,builtin,Builtin.max_,Builtin.max2,e1,e2,e]) hk,h⟩
  .exact h.elim
 .exact h.elim
def q3s(H:Nat->Option SR):Option SV->Bool
 |some (.tp b)=>(match H b with
  |some (.own _ _ _)=>true
  |some (.obj _)=>true
  |some (.rows _ _ _)=>true
  |_=>false)
 |some (.bx b _)=>(match H b with
  |some (.own _ _ _)=>true
  |some (.obj _)=>true
  |some (.rows _ _ _)=>true
  |_=>false)
 |_=>false
def zpr(H:Nat->Option SR):Option SV->Bool
 |some (.tp b)=>(match H b with
  |some (.obj _)=>true
  |_=>false)
 |_=>false
def orW(c:Bool)(x y:Prop):Prop:=
 match c with
 |true=>x
 |false=>y
theorem qll{c:Bool}{x y:Prop}(h:orW c x y)(hy:y->x):x:=by
 cases c with
 |true=>exact h
 |false=>exact hy h
def oddT(u:Option TypeDesc)(y:Operand):Bool:=
 match u with
 |some (.struct _)=>true
 |some (.array _ _)=>true
 |some (.interface _)=>(match y with
  |.const .nilIface=>false
  |_=>true)
 |_=>false
def oddB(P:Program)(op:BinOp)(t:TypeId)(y:Operand):Bool:=
 match op with
 |.and=>true
 |.or=>true
 |.xor=>true
 |.shl=>true
 |.shr=>true
 |.andNot=>true
 |.eql=>oddT (P.underlying t) y
 |.neq=>oddT (P.underlying t) y
 |_=>false
def slT:Option TypeDesc->Bool
 |some (.slice _)=>true
 |_=>false
def opW(E:Env)(N:Nat)(ops:Array Oper)(bxs:List Nat)(nx:Nat)(sl:List (Nat×SV))(H:Nat->Option SR)(k:Ef->Prop)(o:Oper):Prop:=
 match o.op with
 |.move x=>mvW nx k (sval N sl x)
 |.assign x=>mvW nx k (sval N sl x)
 |.pick c x y=>zdl N sl nx k c x y
 |.alloc t=>q39 E.P nx k t
 |.box t x=>boxW bxs H nx k o.dst t (sval N sl x)
 |.build t ps=>q4y E.P N sl nx k t ps
 |.buildSlice t len ps=>bslW E.P N bxs o.dst sl H nx k t len ps
 |.load t x=>orW (q3s H (sval N sl x)) (∃e,Loc E N ops o nx sl H e∧k e) (zdb E.P H nx k t (sval N sl x))
 |.store t x y=>orW (q3s H (sval N sl x)) (∃e,Loc E N ops o nx sl H e∧k e) (q73 E.P H nx k t (sval N sl x) (sval N sl y))
 |.nilCheck x=>q6f nx k (sval N sl x)
 |.binOp op t x y _=>orW (oddB E.P op t y) (∃e,Loc E N ops o nx sl H e∧k e) (match sval N sl x,sval N sl y with
  |some vx,some vy=>binW E.P op t y (λv=>k (w7 nx v)) vx vy
  |_,_=>False)
 |.unOp .not _ x=>notW nx k (sval N sl x)
 |.convert t t' x=>orW (slT (E.P.underlying t)||slT (E.P.underlying t')) (∃e,Loc E N ops o nx sl H e∧k e) (zcq E.P t t' nx k (sval N sl x))
 |.makeInterface t x=>q6b E.P t nx k (sval N sl x)
 |.makeFunc fn xs ys=>zde N sl fn xs ys nx k
 |.slice t x lo hi none=>q71 E.P N sl H nx k t x lo hi
 |.fieldAddr t x f=>qos E.P t f nx k (sval N sl x)
 |.field t x f=>q5m E.P t f nx k (sval N sl x)
 |.indexAddr t x y=>orW (q3s H (sval N sl x)) (∃e,Loc E N ops o nx sl H e∧k e) (qo3 E.P N sl H nx k t x y)
 |.index t x y=>q51 E.P N sl nx k t x y
 |.extract x i=>qux i nx k (sval N sl x)
 |.call c=>(match c.callee,c.args,c.argTypes with
  |.value x,xs,_=>zcm E N sl H nx k x xs
  |.builtin .len,⟨[x]⟩,⟨t::_⟩=>orW (zpr H (sval N sl x)) (∃e,Loc E N ops o nx sl H e∧k e) (lenW E.P H nx k t (sval N sl x))
  |.builtin .append,⟨[x,y]⟩,⟨[t,u]⟩=>orW (q3s H (sval N sl x)) (∃e,Loc E N ops o nx sl H e∧k e) (appW E.P H nx k t u (sval N sl x) (sval N sl y))
  |.builtin .min,⟨[x,y]⟩,_=>mmW nx k min (sval N sl x) (sval N sl y)
  |.builtin .max,⟨[x,y]⟩,_=>mmW nx k max (sval N sl x) (sval N sl y)
  |_,_,_=>∃e,Loc E N ops o nx sl H e∧k e)
 |_=>∃e,Loc E N ops o nx sl H e∧k e
theorem zgj{bxs:List Nat}{o:Oper}(hg:o.guard=none)(h:opW E N ops bxs nx sl H k o):∃e,Loc E N ops o nx sl H e∧k e:=by
 obtain⟨d,op,T,p,af,g⟩:=o;subst hg;unfold opW at h;split at h
 .rename_i he;simp only at he;subst he;exact zna h
 .rename_i he;simp only at he;subst he;exact zet h
 .rename_i he;simp only at he;subst he;exact zni h
 .rename_i he;simp only at he;subst he;exact zid h
 .rename_i he;simp only at he;subst he;exact zoe h
 .rename_i he;simp only at he;subst he;exact zit h
 .rename_i he;simp only at he;subst he;exact zof h
 .rename_i he;simp only at he;subst he;exact qll h zm5
 .rename_i he;simp only at he;subst he;exact qll h zlb
 .rename_i he;simp only at he;subst he;exact zj5 h
 .rename_i he
  simp only at he;subst he;refine qll h λh=>?_;split at h
  .rename_i hx hy
   obtain⟨v,hv,hk⟩:=zod hx hy h;exact⟨_,js hv,hk⟩
  .exact h.elim
 .rename_i he;simp only at he;subst he;exact zo0 h
 .rename_i he;simp only at he;subst he;exact qll h zmf
 .rename_i he;simp only at he;subst he;exact zj3 h
 .rename_i he;simp only at he;subst he;exact zm9 h
 .rename_i he;simp only at he;subst he;exact zk8 h
 .rename_i he;simp only at he;subst he;exact q5l h
 .rename_i he;simp only at he;subst he;exact zje h
 .rename_i he;simp only at he;subst he;exact qll h q50
 .rename_i he;simp only at he;subst he;exact zjp h
 .rename_i he;simp only at he;subst he;exact zc0 h
 .rename_i c he
  simp only at he;subst he;obtain⟨cl,xs,ts⟩:=c;split at h
  .rename_i e1;simp only at e1;subst e1;exact zma h
  .rename_i e1 e2 e3;simp only at e1 e2 e3;subst e1;subst e2;subst e3;exact qll h (zou rfl)
  .rename_i e1 e2 e3;simp only at e1 e2 e3;subst e1;subst e2;subst e3;exact qll h zn7
  .rename_i e1 e2;simp only at e1 e2;subst e1;subst e2;exact zoy h
  .rename_i e1 e2;simp only at e1 e2;subst e1;subst e2;exact zox h
  .exact h
 .exact h
end
end Go.Av
namespace Go.Av
open Go Go.RowKit
def isGd(i:Nat)(l:List Oper):Bool:=l.any λo=>match o.guard with
 |some (j,_)=>Qc j i
 |none=>false
def Ef.as(e:Ef)(v:SV):Ef:=⟨v,e.ks,e.ch,e.nx⟩
def gdW(g:Bool)(k:Ef->Prop)(e:Ef):Prop:=
 match g with
 |false=>k e
 |true=>match e.val with
  |.p q _=>(q->k (e.as .tt))∧(¬q->k (e.as .ff))
  |.b c=>(c=true->k (e.as .tt))∧(c=false->k (e.as .ff))
  |_=>k e
section
variable {E : Env} {N : Nat} {ops : Array Oper} {nx : Nat} {sl : List (Nat × SV)} {H : Nat → Option SR} {k : Ef → Prop} {o : Oper}
theorem qsq{e:Ef}{v:SV}(h:Loc E N ops o nx sl H e)(hv:∀ρ,e.val.ev ρ=v.ev ρ):Loc E N ops o nx sl H (e.as v):=λdf rd K rest ρ t S hs hS hk=>
 h df rd K rest ρ t S hs hS λρ' S' hp=>by rw[hv ρ'];exact hk ρ' S' ⟨hp.old,hp.sat,hp.len,hp.fr,hp.loc⟩
theorem q5u{g:Bool}{e:Ef}(hL:Loc E N ops o nx sl H e)(h:gdW g k e):∃e,Loc E N ops o nx sl H e∧k e:=by
 unfold gdW at h;split at h
 .exact⟨e,hL,h⟩
 .split at h
  .rename_i q i hv
   by_cases hq:q
   .exact⟨_,qsq hL (λρ=>by rw[hv];simp[SV.ev,hq]),h.1 hq⟩
   .exact⟨_,qsq hL (λρ=>by rw[hv];simp[SV.ev,hq]),h.2 hq⟩
  .rename_i c hv
   cases c with
   |true=>exact⟨_,qsq hL (λρ=>by rw[hv];rfl),h.1 rfl⟩
   |false=>exact⟨_,qsq hL (λρ=>by rw[hv];rfl),h.2 rfl⟩
  .exact⟨e,hL,h⟩
def Oper.bare(o:Oper):Oper:=⟨o.dst,o.op,o.type,o.pos,o.after,none⟩
def q3q(l:List Oper)(j:Nat):Option Nat:=match l[j]?with
 |some o=>o.dst
 |none=>none
def opG(E:Env)(N:Nat)(l:List Oper)(bxs:List Nat)(nx:Nat)(sl:List (Nat×SV))(H:Nat->Option SR)(k:Ef->Prop)(o:Oper):Prop:=
 match o.guard with
 |none=>opW E N l.toArray bxs nx sl H k o
 |some (j,want)=>(match q3q l j with
  |some e=>(match bif Qf e N then lkS sl e else none with
   |some .tt=>bif want then opW E N l.toArray bxs nx sl H k (Oper.bare o)else k (w7 nx (.a (.v undef)))
   |some .ff=>bif want then k (w7 nx (.a (.v undef)))else opW E N l.toArray bxs nx sl H k (Oper.bare o)
   |some (.a (.v (.tuple ⟨[]⟩)))=>k (w7 nx (.a (.v undef)))
   |_=>False)
  |none=>False)
theorem zi8{l:List Oper}{j e:Nat}(h:q3q l j=some e):∃oj,l.toArray[j]?=some oj∧oj.dst=some e:=by
 unfold q3q at h;split at h
 .rename_i o ho;exact⟨o,by simpa using ho,h⟩
 .simp at h
theorem q6v{l:List Oper}{bxs:List Nat}(h:opG E N l bxs nx sl H k o):∃e,Loc E N l.toArray o nx sl H e∧k e:=by
 obtain⟨d,op,T,p,af,g⟩:=o;unfold opG at h;simp only at h;split at h
 .exact zgj rfl h
 .rename_i j want
  split at h
  .rename_i e he
   obtain⟨oj,hj,hd⟩:=zi8 he
   cases hN:Qf e N with
   |false=>rw[hN]at h;exact h.elim
   |true=>
    rw[hN]at h;simp only[cond_true]at h
    have run:∀b:Bool,lkS sl e=some (bif b then .tt else .ff)->b=want->opW E N l.toArray bxs nx sl H k ⟨d,op,T,p,af,none⟩->∃e,Loc E N l.toArray ⟨d,op,T,p,af,some (j,want)⟩ nx sl H e∧k e:=λb hl hb h=>by
     obtain⟨e1,hL,hk⟩:=zgj rfl h;refine⟨e1,λdf rd K rest ρ t S hs hS hk=>qni hj hd hN (b:=b) ?_ hb (hL df rd K rest ρ t S hs hS hk),hk⟩;refine(hs e _ hl).trans ?_
     cases b<;>rfl
    have skp:∀b:Bool,lkS sl e=some (bif b then .tt else .ff)->(b==want)=false->k (w7 nx (.a (.v undef)))->∃e,Loc E N l.toArray ⟨d,op,T,p,af,some (j,want)⟩ nx sl H e∧k e:=λb hl hb h=>by
     refine⟨_,js (v:=.a (.v undef)) λdf rd K rest ρ t S hs hk=>qlz hj hd hN (b:=b) ?_ hb hk,h⟩;refine(hs e _ hl).trans ?_
     cases b<;>rfl
    split at h
    .rename_i hl
     cases want with
     |true=>exact run true hl rfl h
     |false=>exact skp true hl rfl h
    .rename_i hl
     cases want with
     |true=>exact skp false hl rfl h
     |false=>exact run false hl rfl h
    .rename_i hl
     exact⟨_,js (v:=.a (.v undef)) λdf rd K rest ρ t S hs hk=>qaz hj hd hN (hs e _ hl) hk,h⟩
    .exact h.elim
  .exact h.elim
end
mutual
def fcV:SV->(SV->Prop)->Prop
 |.a x,k=>k (.a x)
 |.i n,k=>k (.i n)
 |.s l,k=>k (.s l)
 |.tt,k=>k .tt
 |.ff,k=>k .ff
 |.b c,k=>k (.b c)
 |.p q h,k=>k (.p q h)
 |.bx a b,k=>k (.bx a b)
 |.tp a,k=>k (.tp a)
 |.ag cs,k=>fcL cs λcs=>k (.ag cs)
 |.tu cs,k=>fcL cs λcs=>k (.tu cs)
 |.fn f xs ys,k=>fcL xs λxs=>fcL ys λys=>k (.fn f xs ys)
 |.ifc t x,k=>fcV x λx=>k (.ifc t x)
def fcL:List SV->(List SV->Prop)->Prop
 | [],k=>k []
 |x::r,k=>fcV x λx=>fcL r λr=>k (x::r)
end
mutual
theorem q5k:∀(v:SV)(k:SV->Prop),fcV v k=k v
 |.a _,_=>rfl
 |.i _,_=>rfl
 |.s _,_=>rfl
 |.tt,_=>rfl
 |.ff,_=>rfl
 |.b _,_=>rfl
 |.p _ _,_=>rfl
 |.bx _ _,_=>rfl
 |.tp _,_=>rfl
 |.ag cs,k=>by simp only[fcV,qlf cs]
 |.tu cs,k=>by simp only[fcV,qlf cs]
 |.fn f xs ys,k=>by simp only[fcV,qlf xs,qlf ys]
 |.ifc t x,k=>by simp only[fcV,q5k x]
theorem qlf:∀(l:List SV)(k:List SV->Prop),fcL l k=k l
 | [],_=>rfl
 |x::r,k=>by simp only[fcL,q5k x,qlf r]
end
def fcR:SR->(SR->Prop)->Prop
 |.cells T cs,k=>fcL cs λcs=>k (.cells T cs)
 |.tip sz T xs,k=>fcN sz λsz=>k (.tip sz T xs)
 |.own sz T xs,k=>fcN sz λsz=>k (.own sz T xs)
 |.obj P,k=>k (.obj P)
 |.rows T ys cs,k=>fcL cs λcs=>k (.rows T ys cs)
theorem zon:∀(r:SR)(k:SR->Prop),fcR r k=k r
 |.cells _ cs,k=>by simp only[fcR,qlf]
 |.tip sz _ _,k=>by simp only[fcR,qq7]
 |.own sz _ _,k=>by simp only[fcR,qq7]
 |.obj _,k=>rfl
 |.rows _ _ cs,k=>by simp only[fcR,qlf]
def fcH:List (Nat×Option SR)->(List (Nat×Option SR)->Prop)->Prop
 | [],k=>k []
 |(a,none)::l,k=>fcH l λl=>k ((a,none)::l)
 |(a,some r)::l,k=>fcR r λr=>fcH l λl=>k ((a,some r)::l)
theorem q5i:∀(l:List (Nat×Option SR))(k:List (Nat×Option SR)->Prop),fcH l k=k l
 | [],_=>rfl
 |(a,none)::l,k=>by simp only[fcH,q5i l]
 |(a,some r)::l,k=>by simp only[fcH,zon,q5i l]
def fcE(k:Ef->Prop):Ef->Prop
 |⟨v,ks,ch,nx⟩=>fcV v λv=>fcH ch λch=>k ⟨v,ks,ch,nx⟩
theorem q5h(k:Ef->Prop)(e:Ef):fcE k e=k e:=by
 obtain⟨v,ks,ch,nx⟩:=e;simp only[fcE,q5k,q5i]
def qx7(hp:List (Nat×Option SR))(k:List (Nat×Option SR)->Prop):List (Nat×Option SR)->Prop
 | []=>k hp
 |c::r=>qx7 hp (λl=>k (c::l)) r
theorem qvh(hp:List (Nat×Option SR)):∀(ch:List (Nat×Option SR))(k:List (Nat×Option SR)->Prop),qx7 hp k ch=k (ch++hp)
 | [],_=>rfl
 |c::r,k=>by rw[qx7,qvh hp r];rfl
def qxw(sl:List (Nat×SV))(hp:List (Nat×Option SR))(nx:Nat)(d:Option Tmp)(k:Conf->Prop):Ef->Prop
 |⟨v,ks,ch,nx'⟩=>bif Ef.wf ⟨v,ks,ch,nx'⟩ nx then(match d with
  |some d=>qx7 hp (λhp=>k ⟨(d,v)::sl,hp,nx'⟩) ch
  |none=>qx7 hp (λhp=>k ⟨sl,hp,nx'⟩) ch)else False
theorem qvc{sl:List (Nat×SV)}{hp:List (Nat×Option SR)}{nx:Nat}{d:Option Tmp}{k:Conf->Prop}{e:Ef}(h:qxw sl hp nx d k e):e.wf nx=true∧k ((Conf.mk sl hp nx).app d e):=by
 obtain⟨v,ks,ch,nx'⟩:=e;simp only[qxw]at h
 cases hw:Ef.wf ⟨v,ks,ch,nx'⟩ nx with
 |false=>rw[hw]at h;exact h.elim
 |true=>
  rw[hw]at h;refine⟨rfl,?_⟩
  cases d with
  |none=>simp only[cond_true]at h;rw[qvh]at h;exact h
  |some d=>simp only[cond_true]at h;rw[qvh]at h;exact h
def q3y(E:Env)(N:Nat)(l:List Oper)(bxs:List Nat):Nat->List Oper->(Conf->Prop)->Conf->Prop
 |_,[],K,C=>K C
 |i,o::r,K,⟨sl,hp,nx⟩=>opG E N l bxs nx sl (hpF hp) (gdW (isGd i l) (fcE (qxw sl hp nx o.dst (q3y E N l bxs (i+1) r K)))) o
theorem qv2{E:Env}{rd:Option Nat}{N:Nat}{l:List Oper}{bxs:List Nat}{B:Bs}{K:Conf->Prop}:∀{r:List Oper}{i:Nat}{C:Conf}{s:AS},q3y E N l bxs i r K C->SatC B C s->AOps E rd N l.toArray r (λs'=>∃C',K C'∧SatC B C' s') s
 | [],_,C,s,h,hs=>qh ⟨C,h,hs⟩
 |o::r,i,⟨sl,hp,nx⟩,s,h,hs=>by
  obtain⟨e,hL,h⟩:=q6v h;obtain⟨e,hL,h⟩:=q5u hL h;rw[q5h]at h;obtain⟨hw,h⟩:=qvc h;obtain⟨t,S,df⟩:=s;obtain⟨ρ,m8,hR⟩:=hs;simp only at m8 hR;refine hL _ rd _ r ρ t S hR.sl (hR.hp.res _) λρ' S' hp=>qv2 h ⟨ρ',?_,?_⟩
  .have:=m8.step (d:=o.dst) hR.hp hw hp
   cases hd:o.dst with
   |none=>rw[hd]at this;exact this
   |some d=>rw[hd]at this;exact this
  .have:=hR.step (d:=o.dst) hw hp
   cases hd:o.dst with
   |none=>rw[hd]at this;exact this
   |some d=>rw[hd]at this;exact this
structure Sm (E:Env) (rd:Option Nat) (N:Nat) (B:Bs) (c:Code) (Q:Exit->Conf->Prop) (C:Conf):Prop where
 run:∀s,SatC B C s->AWp E rd N c (λe s'=>∃C',Q e C'∧SatC B C' s') s
@[reducible] def zed (K : Conf → Prop) (Q : Exit → Conf → Prop) : Exit → Conf → Prop
 |.normal,C=>K C
 |e,C=>Q e C
@[reducible] def qoz (id : Nat) (Q : Exit → Conf → Prop) : Exit → Conf → Prop
 |.exit id',C=>bif Qc id' id then Q .normal C else Q (.exit id') C
 |e,C=>Q e C
section
variable {E : Env} {rd : Option Nat} {N : Nat} {B : Bs} {C : Conf} {Q : Exit → Conf → Prop}
theorem zbp{x y:Code}(h:Sm E rd N B x (zed (Sm E rd N B y Q) Q) C):Sm E rd N B (.seq x y) Q C:=⟨λs hs=>
 qo ((h.run s hs).mono λe s' ⟨C',hq,mz⟩=>by
  cases e with
  |normal=>exact hq.run s' mz
  |_=>exact⟨C',hq,mz⟩)⟩
theorem q2n{id:Nat}{c:Code}(h:Sm E rd N B c (qoz id Q) C):Sm E rd N B (.block id c) Q C:=⟨λs hs=>
 qy ((h.run s hs).mono λe s' ⟨C',hq,mz⟩=>by
  cases e with
  |exit id'=>
   simp only[qoz]at hq;simp only[qu5]
   cases hb:Qc id' id with
   |true=>rw[hb]at hq;exact⟨C',hq,mz⟩
   |false=>rw[hb]at hq;exact⟨C',hq,mz⟩
  |_=>exact⟨C',hq,mz⟩)⟩
theorem q7z{c:Operand}{x y:Code}{v:SV}(hv:sval N C.sl c=some v)(h:wayW (Sm E rd N B x Q C) (Sm E rd N B y Q C) v):Sm E rd N B (.cond c x y) Q C:=⟨λs hs=>by
 obtain⟨b,hb,h⟩:=zh5 h;obtain⟨t,S,df⟩:=s;have ⟨ρ,m8,hR⟩:=hs;have he:=(q7 (S:=S) (df:=df) hR.sl hv).trans (hb ρ);rcases h with⟨hc,h⟩|⟨hc,h⟩
 .exact zcf he hc (h.run _ hs)
 .exact zce he hc (h.run _ hs)⟩
theorem qvn{c:Code}{Q':Exit->Conf->Prop}(h:Sm E rd N B c Q' C)(hq:∀e C',Q' e C'->Q e C'):Sm E rd N B c Q C:=⟨λs hs=>
 (h.run s hs).mono λe s' ⟨C',hq',mz⟩=>⟨C',hq e C' hq',mz⟩⟩
end
def wpC(E:Env)(rd:Option Nat)(N:Nat)(B:Bs)(bxs:List Nat):Code->(Exit->Conf->Prop)->Conf->Prop
 |.skip,Q,C=>Q .normal C
 |.region id ops false,Q,C=>q3y E N ops.toList bxs 0 ops.toList (Q .normal) C
 |.seq x y,Q,C=>wpC E rd N B bxs x (zed (wpC E rd N B bxs y Q) Q) C
 |.cond c x y,Q,C=>(match sval N C.sl c with
  |some v=>wayW (wpC E rd N B bxs x Q C) (wpC E rd N B bxs y Q C) v
  |none=>False)
 |.block id c,Q,C=>wpC E rd N B bxs c (qoz id Q) C
 |.exit id,Q,C=>Q (.exit id) C
 |.ret,Q,C=>Q .ret C
 |c,Q,C=>Sm E rd N B c Q C
theorem q2x{x y x' y':Prop}{v:SV}(hx:x->x')(hy:y->y')(h:wayW x y v):wayW x' y' v:=by
 cases v with
 |tt=>exact hx h
 |ff=>exact hy h
 |p q i=>exact⟨λhq=>hx (h.1 hq),λhq=>hy (h.2 hq)⟩
 |b c=>exact⟨λhq=>hx (h.1 hq),λhq=>hy (h.2 hq)⟩
 |_=>exact h.elim
theorem qd{E:Env}{rd:Option Nat}{N:Nat}{B:Bs}(bxs:List Nat):∀{c:Code}{Q:Exit->Conf->Prop}{C:Conf},wpC E rd N B bxs c Q C->Sm E rd N B c Q C
 |.skip,Q,C,h=>⟨λs hs=>qv ⟨C,h,hs⟩⟩
 |.exit id,Q,C,h=>⟨λs hs=>z7 ⟨C,h,hs⟩⟩
 |.ret,Q,C,h=>⟨λs hs=>qu ⟨C,h,hs⟩⟩
 |.seq x y,Q,C,h=>zbp (qvn (qd bxs (c:=x) h) λe C' hq=>by
   cases e with
   |normal=>exact qd bxs (c:=y) hq
   |_=>exact hq)
 |.block id c,Q,C,h=>q2n (qd bxs (c:=c) h)
 |.cond c x y,Q,C,h=>by
  simp only[wpC]at h;split at h
  .rename_i v hv
   exact q7z hv (q2x (λh=>qd bxs (c:=x) h) (λh=>qd bxs (c:=y) h) h)
  .exact h.elim
 |.region id ops false,Q,C,h=>⟨λs hs=>by
  have e:ops=ops.toList.toArray:=Sx
  rw[e]
  exact qf (qv2 h hs)⟩
 |.region id ops true,Q,C,h=>h
 |.loop c,Q,C,h=>h
 |.rangeFunc _ _ _ _,Q,C,h=>h
 |.scope _,Q,C,h=>h
 |.label _,Q,C,h=>h
 |.goto _,Q,C,h=>h
 |.refuse _,Q,C,h=>h
mutual
def SV.ren(σ:List (Nat×Nat)):SV->SV
 |.bx k off=>match lkS σ k with
  |some j=>.bx j off
  |none=>.a (.bx 0 0 off)
 |.tp k=>match lkS σ k with
  |some j=>.tp j
  |none=>.a zm
 |.ag cs=>.ag (SV.rens σ cs)
 |.tu cs=>.tu (SV.rens σ cs)
 |.fn f xs ys=>.fn f (SV.rens σ xs) (SV.rens σ ys)
 |.ifc t x=>.ifc t (SV.ren σ x)
 |v=>v
def SV.rens(σ:List (Nat×Nat)):List SV->List SV
 | []=>[]
 |x::r=>SV.ren σ x::SV.rens σ r
end
def renR(σ:List (Nat×Nat))(ρ:Nat->AV):Nat->AV:=λk=>match lkS σ k with
 |some j=>ρ j
 |none=>zm
mutual
theorem qyl(σ:List (Nat×Nat))(ρ:Nat->AV):∀v:SV,(v.ren σ).ev ρ=v.ev (renR σ ρ)
 |.a _=>rfl
 |.i _=>rfl
 |.s _=>rfl
 |.tt=>rfl
 |.ff=>rfl
 |.b _=>rfl
 |.p _ _=>rfl
 |.bx k off=>by
  simp only[SV.ren,SV.ev,renR]
  cases lkS σ k<;>rfl
 |.tp k=>by
  simp only[SV.ren,SV.ev,renR]
  cases lkS σ k<;>rfl
 |.ag cs=>by simp only[SV.ren,SV.ev,qfo σ ρ cs]
 |.tu cs=>by simp only[SV.ren,SV.ev,qfo σ ρ cs]
 |.fn f xs ys=>by simp only[SV.ren,SV.ev,qfo σ ρ xs,qfo σ ρ ys]
 |.ifc t x=>by simp only[SV.ren,SV.ev,qyl σ ρ x]
theorem qfo(σ:List (Nat×Nat))(ρ:Nat->AV):∀l:List SV,SV.evs ρ (SV.rens σ l)=SV.evs (renR σ ρ) l
 | []=>rfl
 |x::r=>by simp only[SV.rens,SV.evs,qyl σ ρ x,qfo σ ρ r]
end
structure Tl (x r:AV):Prop where
 ok:Wk x r
theorem qs0(x:AV):Tl x x:=⟨xc x⟩
theorem qe{x y:AV}(h:x=y):Tl x y:=⟨zp0 h⟩
theorem zpg{sz:Nat}:Tl zm (.sl sz [] none):=⟨λ_ _ h=>qcw h⟩
def evK(v:SV)(k:AV->Prop):Prop:=
 match v with
 |.a x=>k x
 |.i n=>k (Iv n)
 |.s l=>k (Sv l)
 |.b c=>k (Bv c)
 |.p q h=>k (Bv (@decide q h))
 |v=>k (v.ev λ_=>zm)
theorem zom(v:SV)(k:AV->Prop):evK v k=k (v.ev λ_=>zm):=by
 cases v<;>rfl
def covW(H:Nat->Option SR)(v:Option SV)(σ:List (Nat×Nat))(u:SV):Prop:=
 match v with
 |none=>False
 |some v=>match u.all (λ_=>false)with
  |true=>(match frz H v with
   |some x=>evK u λy=>Tl x y
   |none=>False)
  |false=>∀ρ,v.ev ρ=(u.ren σ).ev ρ
def entS(H:Nat->Option SR)(sl:List (Nat×SV))(σ:List (Nat×Nat)):List (Nat×SV)->Prop
 | []=>True
 |(d,v)::r=>covW H (lkS sl d) σ v∧entS H sl σ r
def entR(H:Nat->Option SR)(σ:List (Nat×Nat))(k:Nat)(r:SR):Prop:=
 match lkS σ k,r with
 |some j,.cells T cs=>(match H j with
  |some (.cells T' cs')=>T'=T∧∀ρ,SV.evs ρ cs'=SV.evs ρ (SV.rens σ cs)
  |_=>False)
 |some j,.tip sz T xs=>(match H j with
  |some (.tip sz' T' xs')=>(sz'=sz∧T'=T)∧xs'=xs
  |_=>False)
 |none,.tip _ _ xs=>xs=[]
 |some j,.own sz T xs=>(match H j with
  |some (.own sz' T' xs')=>(sz'=sz∧T'=T)∧xs'=xs
  |_=>False)
 |none,.own _ _ xs=>xs=[]
 |none,.cells _ _=>False
 |some j,.obj P=>(match H j with
  |some (.obj P')=>∀x c,P' x c->P x c
  |_=>False)
 |none,.obj _=>False
 |some j,.rows T ys cs=>(match H j with
  |some (.rows T' ys' cs')=>(T'=T∧ys'=ys)∧∀ρ,SV.evs ρ cs'=SV.evs ρ (SV.rens σ cs)
  |_=>False)
 |none,.rows _ ys cs=>ys=[]∧cs=[]
def entH(H:Nat->Option SR)(σ:List (Nat×Nat)):List (Nat×Option SR)->Prop
 | []=>True
 |(k,some r)::l=>entR H σ k r∧entH H σ l
 |(_,none)::l=>entH H σ l
def injN:List (Nat×Nat)->Bool
 | []=>true
 |(_,j)::r=>r.all (λq=> !Nat.beq q.2 j)&&injN r
def fltN(hp:List (Nat×Option SR)):List (Nat×Nat)->List (Nat×Nat)
 | []=>[]
 |(k,j)::r=>match lkS hp k with
  |some _=>(k,j)::fltN hp r
  |none=>fltN hp r
theorem qu1{hp:List (Nat×Option SR)}{k:Nat}{x:Option SR}(hk:lkS hp k=some x):∀σ:List (Nat×Nat),lkS (fltN hp σ) k=lkS σ k
 | []=>rfl
 |(i,j)::r=>by
  have ih:=qu1 hk r;simp only[fltN];by_cases e:i=k
  .subst e
   rw[hk];simp[lkS]
  .cases h:lkS hp i with
   |none=>simp only[lkS,jv e,cond_false];exact ih
   |some y=>simp only[lkS,jv e,cond_false];exact ih
def okC(C:Conf):Bool:=C.sl.all (λq=>q.2.all λk=>Qf k C.nx)&&C.hp.all (λq=>Qf q.1 C.nx&&match q.2 with
 |some r=>r.all λk=>Qf k C.nx
 |none=>true)
def rigN(σ:List (Nat×Nat)):Nat->Bool
 |0=>true
 |n+1=>(match lkS σ n with
  |some j=>Qc j n
  |none=>false)&&rigN σ n
def idN:Nat->List (Nat×Nat)
 |0=>[]
 |n+1=>(n,n)::idN n
theorem qvk{σ:List (Nat×Nat)}:∀{n:Nat},rigN σ n=true->∀k,k<n->lkS σ k=some k
 |0,_,k,hk=>by omega
 |n+1,h,k,hk=>by
  simp only[rigN,Qd]at h;by_cases e:k=n
  .subst e
   have h1:=h.1;split at h1
   .rename_i j hj
    rw[hj,Qb h1]
   .simp at h1
  .exact qvk h.2 k Om
def EntC(σ:List (Nat×Nat))(C C':Conf):Prop:=entS (hpF C.hp) C.sl σ C'.sl∧entH (hpF C.hp) σ C'.hp∧(injN (fltN C'.hp σ)&&okC C')=true
mutual
def prs:SV->SV->List (Nat×Nat)
 |.tp k,.tp j=>[(k,j)]
 |.bx k _,.bx j _=>[(k,j)]
 |.ag a,.ag b=>prsL a b
 |.tu a,.tu b=>prsL a b
 |.fn _ a b,.fn _ c d=>prsL a c++prsL b d
 |.ifc _ x,.ifc _ y=>prs x y
 |_,_=>[]
def prsL:List SV->List SV->List (Nat×Nat)
 |x::r,y::s=>prs x y++prsL r s
 |_,_=>[]
end
def addS:List (Nat×Nat)->List (Nat×Nat)->List (Nat×Nat)
 |acc,[]=>acc
 |acc,(k,j)::r=>match lkS acc k with
  |some _=>addS acc r
  |none=>addS ((k,j)::acc) r
def sigS(sl:List (Nat×SV)):List (Nat×SV)->List (Nat×Nat)
 | []=>[]
 |(d,v)::r=>(match lkS sl d with
  |some u=>prs v u
  |none=>[])++sigS sl r
def sigH(H:Nat->Option SR)(σ:List (Nat×Nat)):List (Nat×Option SR)->List (Nat×Nat)
 | []=>[]
 |(k,some (.cells _ cs))::r=>(match lkS σ k with
  |some j=>(match H j with
   |some (.cells _ ds)=>prsL cs ds
   |_=>[])
  |none=>[])++sigH H σ r
 |_::r=>sigH H σ r
def fcP:List (Nat×Nat)->(List (Nat×Nat)->Prop)->Prop
 | [],k=>k []
 |(a,b)::r,k=>fcP r λr=>k ((a,b)::r)
theorem q5j:∀(l:List (Nat×Nat))(k:List (Nat×Nat)->Prop),fcP l k=k l
 | [],_=>rfl
 |(a,b)::r,k=>by simp only[fcP,q5j r]
def EntA(n0:Nat)(C C':Conf):Prop:=
 fcP (addS (idN n0) (sigS C.sl C'.sl)) λa=>fcP (addS a (sigH (hpF C.hp) a C'.hp)) λb=>fcP (addS b (sigH (hpF C.hp) b C'.hp)) λσ=>(rigN σ n0&&Qh n0 C'.nx)=true∧EntC σ C C'
theorem EntA.ent{n0:Nat}{C C':Conf}(h:EntA n0 C C'):∃σ,(rigN σ n0&&Qh n0 C'.nx)=true∧EntC σ C C':=by
 unfold EntA at h;simp only[q5j]at h;exact⟨_,h⟩
theorem q5g{H:Nat->Option SR}{sl:List (Nat×SV)}{σ:List (Nat×Nat)}:∀{l:List (Nat×SV)}{d:Nat}{v:SV},entS H sl σ l->lkS l d=some v->covW H (lkS sl d) σ v
 | [],_,_,_,h=>by simp[lkS]at h
 |(i,x)::r,d,v,h,hl=>by
  unfold lkS at hl
  cases hb:Qc i d with
  |true=>
   rw[hb]at hl;simp only[cond_true,Qa]at hl;subst hl;rw[<-Qb hb]
   exact h.1
  |false=>rw[hb]at hl;exact q5g h.2 hl
theorem qif{H:Nat->Option SR}{σ:List (Nat×Nat)}:∀{l:List (Nat×Option SR)}{k:Nat}{r:SR},entH H σ l->lkS l k=some (some r)->entR H σ k r
 | [],_,_,_,h=>by simp[lkS]at h
 |(i,none)::l,k,r,h,hl=>by
  unfold lkS at hl
  cases hb:Qc i k with
  |true=>rw[hb]at hl;simp at hl
  |false=>rw[hb]at hl;exact qif (l:=l) h hl
 |(i,some x)::l,k,r,h,hl=>by
  unfold lkS at hl
  cases hb:Qc i k with
  |true=>
   rw[hb]at hl;simp only[cond_true,Qa]at hl;subst hl;rw[<-Qb hb]
   exact h.1
  |false=>rw[hb]at hl;exact qif (l:=l) h.2 hl
theorem q52:∀{σ:List (Nat×Nat)}{k k' j:Nat},injN σ=true->lkS σ k=some j->lkS σ k'=some j->k=k'
 | [],_,_,_,_,h,_=>by simp[lkS]at h
 |(i,x)::r,k,k',j,h,h1,h2=>by
  simp only[injN,Qd]at h
  have no:∀q,lkS r q=some x->False:=λq hq=>by
   have:=Qk.1 h.1 _ (vn hq);simp at this
  unfold lkS at h1 h2
  cases hb:Qc i k with
  |true=>
   rw[hb]at h1;simp only[cond_true,Qa]at h1;subst h1
   cases gb:Qc i k' with
   |true=>rw[<-Qb hb,<-Qb gb]
   |false=>rw[gb]at h2;exact(no _ h2).elim
  |false=>
   rw[hb]at h1
   cases gb:Qc i k' with
   |true=>
    rw[gb]at h2;simp only[cond_true,Qa]at h2;subst h2
    exact(no _ h1).elim
   |false=>rw[gb]at h2;exact q52 h.2 h1 h2
theorem ym{hp:List (Nat×Option SR)}{k:Nat}{r:SR}(h:hpF hp k=some r):lkS hp k=some (some r):=by
 unfold hpF at h
 cases hl:lkS hp k with
 |none=>rw[hl]at h;simp at h
 |some x=>rw[hl]at h;simp only at h;rw[h]
theorem EntC.sat{σ:List (Nat×Nat)}{C C':Conf}{S0:List AObj}{F:Nat->Prop}{ρ t:Nat->AV}{S:List AObj}(h:EntC σ C C')(hR:SatR S0 F C ρ t S):∃t',(∀d,Wk (t d) (t' d))∧SatR S0 F C' (renR σ ρ) t' S:=by
 obtain⟨hs,hh,hb⟩:=h;simp only[Qd,okC]at hb;obtain⟨hi,p9,t8⟩:=hb;refine⟨λd=>match lkS C'.sl d with|some v=>v.ev (renR σ ρ)|none=>t d,λd=>?_,⟨λd v hd=>by simp only[hd],⟨λk r hk=>?_,λk k' r r' b9 h1 h2 o ho=>?_⟩,λk r hk o ho=>?_,hR.low,hR.len,λd v hd=>?_,λk r hk=>?_⟩⟩
 .simp only
  cases hd:lkS C'.sl d with
  |none=>exact xc _
  |some v=>
   have hc:=q5g hs hd;unfold covW at hc;split at hc
   .exact hc.elim
   .rename_i u hu
    rw[hR.sl d u hu];simp only;split at hc
    .rename_i bm
     split at hc
     .rename_i x hx
      rw[zom]at hc;have e:v.ev (renR σ ρ)=v.ev λ_=>zm:=qbm (f:=λ_=>false) (λk hk=>by simp at hk) _ bm;rw[e];exactλG y hy=>hc.ok G y (qjs hR.hp u x hx G y hy)
     .exact hc.elim
    .rw[hc ρ,qyl]
     exact xc _
 .have hc:=qif hh (ym hk)
  unfold entR at hc;unfold renR;split at hc
  .rename_i j T cs hj
   rw[hj];split at hc
   .rename_i T' cs' hH
    obtain⟨rfl,hc⟩:=hc;obtain⟨o,v,h1,h2,h0⟩:=hR.hp.ok j _ hH;refine⟨o,v,h1,?_,h0⟩;rw[h2,hc ρ,qfo];rfl
   .exact hc.elim
  .rename_i j sz T xs hj
   rw[hj];split at hc
   .rename_i sz' T' xs' hH
    obtain⟨⟨rfl,rfl⟩,rfl⟩:=hc;exact hR.hp.ok j _ hH
   .exact hc.elim
  .rename_i sz T xs hj
   rw[hj];subst hc;exact .inl (.inl ⟨rfl,rfl⟩)
  .rename_i j sz T xs hj
   rw[hj];split at hc
   .rename_i sz' T' xs' hH
    obtain⟨⟨rfl,rfl⟩,rfl⟩:=hc;exact hR.hp.ok j _ hH
   .exact hc.elim
  .rename_i sz T xs hj
   rw[hj];subst hc;exact .inl ⟨rfl,qvd none⟩
  .exact hc.elim
  .rename_i j P hj
   rw[hj];split at hc
   .rename_i P' hH
    obtain⟨o,x,h1,h2,h3,h4⟩:=hR.hp.ok j _ hH;exact⟨o,x,h1,h2,h3,hc x _ h4⟩
   .exact hc.elim
  .exact hc.elim
  .rename_i j T ys cs hj
   rw[hj];split at hc
   .rename_i T' ys' cs' hH
    obtain⟨⟨rfl,rfl⟩,hc⟩:=hc;have h1:=hR.hp.ok j _ hH
    show OwnS _ 1 _ (ys'++SV.evs (renR σ ρ) cs) _
    rw[<-qfo,<-hc ρ];exact h1
   .exact hc.elim
  .rename_i T ys cs hj
   rw[hj];obtain⟨rfl,rfl⟩:=hc;exact .inl ⟨rfl,qvd none⟩
 .have key:∀k r,hpF C'.hp k=some r->∀o,zq (renR σ ρ k)=some o->∃j r',lkS σ k=some j∧hpF C.hp j=some r'∧zq (ρ j)=some o:=λk r hk o ho=>by
   have hc:=qif hh (ym hk);unfold renR at ho
   cases hj:lkS σ k with
   |none=>rw[hj]at ho;simp[zq]at ho
   |some j=>
    rw[hj]at ho;unfold entR at hc;rw[hj]at hc
    cases r with
    |cells T cs=>
     simp only at hc;split at hc
     .rename_i hH;exact⟨j,_,rfl,hH,ho⟩
     .exact hc.elim
    |tip sz T xs=>
     simp only at hc;split at hc
     .rename_i hH;exact⟨j,_,rfl,hH,ho⟩
     .exact hc.elim
    |own sz T xs=>
     simp only at hc;split at hc
     .rename_i hH;exact⟨j,_,rfl,hH,ho⟩
     .exact hc.elim
    |obj P=>
     simp only at hc;split at hc
     .rename_i hH;exact⟨j,_,rfl,hH,ho⟩
     .exact hc.elim
    |rows T ys cs=>
     simp only at hc;split at hc
     .rename_i hH;exact⟨j,_,rfl,hH,ho⟩
     .exact hc.elim
  obtain⟨j,q,g1,g2,g3⟩:=key k r h1 o ho;intro e8;obtain⟨j',q',g4,g5,g6⟩:=key k' r' h2 o e8;exact hR.hp.sep j j' q q' (λe=>b9 (q52 hi ((qu1 (ym h1) σ).trans g1) ((qu1 (ym h2) σ).trans (by rw[e];exact g4)))) g2 g5 o g3 g6
 .have hc:=qif hh (ym hk)
  unfold renR at ho
  cases hj:lkS σ k with
  |none=>rw[hj]at ho;simp[zq]at ho
  |some j=>
   rw[hj]at ho;unfold entR at hc;rw[hj]at hc
   cases r with
   |cells T cs=>
    simp only at hc;split at hc
    .rename_i hH;exact hR.own j _ hH o ho
    .exact hc.elim
   |tip sz T xs=>
    simp only at hc;split at hc
    .rename_i hH;exact hR.own j _ hH o ho
    .exact hc.elim
   |own sz T xs=>
    simp only at hc;split at hc
    .rename_i hH;exact hR.own j _ hH o ho
    .exact hc.elim
   |obj P=>
    simp only at hc;split at hc
    .rename_i hH;exact hR.own j _ hH o ho
    .exact hc.elim
   |rows T ys cs=>
    simp only at hc;split at hc
    .rename_i hH;exact hR.own j _ hH o ho
    .exact hc.elim
 .exact Qk.1 p9 _ (vn hd)
 .have:=Qk.1 t8 _ (vn (ym hk))
  simp only[Qd]at this;exact⟨vi this.1,this.2⟩
section
variable {E : Env} {rd : Option Nat} {N : Nat} {B : Bs} {C : Conf} {Q : Exit → Conf → Prop}
theorem Frm.ren{B:Bs}{C C':Conf}{ρ:Nat->AV}{df:List Nat}{S:List AObj}{σ:List (Nat×Nat)}(h:Frm B C ρ df S)(hr:(rigN σ B.n0&&Qh B.n0 C'.nx)=true):Frm B C' (renR σ ρ) df S:=by
 simp only[Qd]at hr;refine⟨h.dm,h.nd,λk hk=>?_,Qi hr.2,h.dz⟩;unfold renR;rw[qvk hr.1 k hk];exact h.rig k hk
theorem qwo{c:Code}{Q:Exit->AS->Prop}{t t':Nat->AV}{S:List AObj}{df:List Nat}(hw:∀d,Wk (t d) (t' d))(h:AWp E rd N c Q ⟨t',S,df⟩):AWp E rd N c Q ⟨t,S,df⟩:=
 ⟨λB0 w0 G a w hL hI=>h.run B0 w0 G a w hL ⟨hI.agree,hI.defers,hI.size,λi y hy=>hw i G y (hI.tmps i y hy)⟩⟩
theorem zw{X:Type}{c:Code}(I:X->Conf)(P:X->Prop)(μ:X->Nat)(x0:X)(h0:P x0)(he:EntA B.n0 C (I x0))
  (hr:∀x,P x->Sm E rd N B c (λe C'=>match e with
   |.normal=>∃x',P x'∧μ x'<μ x∧EntA B.n0 C' (I x')
   |e=>Q e C') (I x)):Sm E rd N B (.loop c) Q C:=⟨λs hs=>by
 refine jr (σ:=X) (λx s=>P x∧∃t',(∀d,Wk (s.t d) (t' d))∧SatC B (I x) ⟨t',s.st,s.df⟩) μ x0 ?_ ?_
 .obtain⟨t,S,df⟩:=s
  obtain⟨ρ,m8,hR⟩:=hs;simp only at m8 hR;obtain⟨σ0,hr0,he⟩:=he.ent;obtain⟨t',hw,pz⟩:=he.sat hR;exact⟨h0,t',hw,_,m8.ren hr0,pz⟩
 .rintro x ⟨t,S,df⟩ ⟨hP,t',hw,hs⟩
  simp only at hw hs;refine qwo hw (((hr x hP).run ⟨t',S,df⟩ hs).mono λe s' ⟨C',hq,mz⟩=>?_)
  cases e with
  |normal=>
   obtain⟨x',hP',d9,gk⟩:=hq;obtain⟨t2,S2,df2⟩:=s';obtain⟨ρ2,hdf2,mq⟩:=mz;simp only at hdf2 mq;obtain⟨σ,hr2,gk⟩:=gk.ent;obtain⟨t3,hw3,td⟩:=gk.sat mq
   exact⟨x',⟨hP',t3,hw3,_,hdf2.ren hr2,td⟩,d9⟩
  |_=>exact⟨C',hq,mz⟩⟩
end
def qfp(P:Program)(N:Nat)(C:Conf):ResultVar->Option SV
 |.tmp t=>sval N C.sl (.tmp t)
 |.cell a T=>(match sval N C.sl (.tmp a),tyOf P T with
  |some (.bx b off),some (sz,agg)=>(match hpF C.hp b with
   |some (.cells _ cs)=>qo8 sz agg off cs
   |_=>none)
  |_,_=>none)
def resV(P:Program)(N:Nat)(C:Conf):List ResultVar->Option SV
 | []=>some (.tu [])
 | [a]=>qfp P N C a
 | [a,b]=>(match qfp P N C a,qfp P N C b with
  |some x,some y=>some (.tu [x,y])
  |_,_=>none)
 | [a,b,c]=>(match qfp P N C a,qfp P N C b,qfp P N C c with
  |some x,some y,some z=>some (.tu [x,y,z])
  |_,_,_=>none)
 | [a,b,c,d]=>(match qfp P N C a,qfp P N C b,qfp P N C c,qfp P N C d with
  |some x,some y,some z,some u=>some (.tu [x,y,z,u])
  |_,_,_,_=>none)
 |_=>none
theorem znm{G:Gh}{x y z p:AV}{v u t q:Value}(h1:Rel G x v)(h2:Rel G y u)(h3:Rel G z t)(h4:Rel G p q):Rel G (.tu [x,y,z,p]) (.tuple #[v,u,t,q]):=
 .tu _ _ rfl λi x' y' hx hy=>by
  match i with
  |0=>simp at hx hy;subst hx;subst hy;exact h1
  |1=>simp at hx hy;subst hx;subst hy;exact h2
  |2=>simp at hx hy;subst hx;subst hy;exact h3
  |3=>simp at hx hy;subst hx;subst hy;exact h4
  |i+4=>simp at hx
def q7v(r:ResultVar)(tm:Array Value):Sem Value:=
 match r with
 |.tmp t=>pure (tm.getD t undef)
 |.cell a t=>do loadVar t (<-asAddr (tm.getD a undef))
theorem qkv(fn:Func)(tm:Array Value):results fn tm=(do
  let vs <-fn.results.mapM λr=>q7v r tm
  pure (if h:vs.size=1 then vs[0]else .tuple vs)):=by
 unfold results;congr 1
theorem qda{E:Env}{S0:List AObj}{F:Nat->Prop}{C:Conf}{ρ t:Nat->AV}{S:List AObj}{N:Nat}(hR:SatR S0 F C ρ t S){r:ResultVar}{v:SV}(h:qfp E.P N C r=some v){B0:Nat}{w0:World}{G:Gh}{a:Act}{w:World}(hI:Inv B0 w0 N G ⟨t,S,[]⟩ a w):
  ∃u,(q7v r a.tmps).run E.P w=.ok u w∧Rel G (v.ev ρ) u:=by
 cases r with
 |tmp i=>
  simp only[qfp]at h;refine⟨a.tmps.getD i undef,rfl,?_⟩;have:=hI.rd i;rw[q7 hR.sl h]at this
  exact this
 |cell i T=>
  simp only[qfp]at h;split at h
  .rename_i b off sz agg hb ht
   split at h
   .rename_i T' cs hH
    obtain⟨o,ver,h1,h2,_⟩:=hR.hp.ok b _ hH;have he:=hI.rd i;rw[q7 hR.sl hb]at he;simp only[SV.ev,h1,bxAt]at he;generalize hv:a.tmps.getD i undef=y at he
    cases he with
    |bx _ _ _ bl hn dk cz=>
     obtain⟨_,g1,g2,g3,c,g4,g5,g6⟩:=hI.agree.ob o _ h2;have hb:=cz g1;rw[hb]at g4
     obtain⟨u,a8,hRel⟩:=qb2 (w:=w) (G:=G) (b:=bl) (off:=off) (off':=off) ht (λi x hx hi=>by
      obtain⟨y,hy⟩:=wz hx (Nat.le_of_eq g5);refine⟨y,?_,g6 i x y hx hy⟩
      simp[World.cell?,g4,show off+(i-off)=i by omega,hy]) (qva ρ h)
     refine⟨u,?_,hRel⟩;simp[q7v,hv,asAddr,a8]
   .simp at h
  .simp at h
theorem zbl{E:Env}{S0:List AObj}{F:Nat->Prop}{C:Conf}{ρ t:Nat->AV}{S:List AObj}{fn:Func}(hR:SatR S0 F C ρ t S){v:SV}(h:resV E.P fn.ntmps C fn.results.toList=some v):ARes E fn ⟨t,S,[]⟩ (v.ev ρ):=by
 refine⟨λB0 w0 G a w hL hI=>?_⟩
 cases hr:fn.results.toList with
 |nil=>
  rw[hr]at h;simp only[resV,Qa]at h;subst h;have hr':fn.results= #[]:=by simpa using hr
  exact(y3 hr').run B0 w0 G a w hL hI
 |cons r1 l1=>
  cases l1 with
  |nil=>
   rw[hr]at h;obtain⟨u,h1,h2⟩:=qda hR h hI;have hr':fn.results= #[r1]:=by rw[<-Qt];exact hr
   refine⟨u,?_,h2⟩;rw[qkv,hr']
   simp[h1]
  |cons r2 l2=>
   cases l2 with
   |nil=>
    rw[hr]at h;simp only[resV]at h;split at h
    .rename_i x y hx hy
     simp only[Qa]at h;subst h;obtain⟨u1,h1,h2⟩:=qda hR hx hI;obtain⟨u2,h3,h4⟩:=qda hR hy hI;have hr':fn.results= #[r1,r2]:=by rw[<-Qt];exact hr
     refine⟨.tuple #[u1,u2],?_,qfn h2 h4⟩;rw[qkv,hr'];simp[h1,h3]
    .simp at h
   |cons r3 l3=>
    cases l3 with
    |nil=>
     rw[hr]at h;simp only[resV]at h;split at h
     .rename_i x y z hx hy hz
      simp only[Qa]at h;subst h;obtain⟨u1,h1,h2⟩:=qda hR hx hI;obtain⟨u2,h3,h4⟩:=qda hR hy hI;obtain⟨u3,h5,h6⟩:=qda hR hz hI;have hr':fn.results= #[r1,r2,r3]:=by rw[<-Qt];exact hr
      refine⟨.tuple #[u1,u2,u3],?_,qz0 h2 h4 h6⟩;rw[qkv,hr'];simp[h1,h3,h5]
     .simp at h
    |cons r4 l4=>
     cases l4 with
     |nil=>
      rw[hr]at h;simp only[resV]at h;split at h
      .rename_i x y z p hx hy hz hp
       simp only[Qa]at h;subst h;obtain⟨u1,h1,h2⟩:=qda hR hx hI;obtain⟨u2,h3,h4⟩:=qda hR hy hI;obtain⟨u3,h5,h6⟩:=qda hR hz hI;obtain⟨u4,h7,h8⟩:=qda hR hp hI;have hr':fn.results= #[r1,r2,r3,r4]:=by rw[<-Qt];exact hr
       refine⟨.tuple #[u1,u2,u3,u4],?_,znm h2 h4 h6 h8⟩;rw[qkv,hr'];simp[h1,h3,h5,h7]
      .simp at h
     |cons r5 l5=>rw[hr]at h;simp[resV]at h
def zdh(P:Program)(ts:List TypeId)(x:AV)(k:AV->Prop):Prop:=
 match ts,x with
 | [t],x=>nrmK P t x k
 |ts,.tu xs=>zipK P ts xs λl=>k (.tu l)
 |_,x=>k x
theorem zj6{P:Program}{ts:List TypeId}{x:AV}{k:AV->Prop}(h:zdh P ts x k):∃y,Wk x y∧k y:=by
 unfold zdh at h;split at h
 .exact qzr h
 .obtain⟨m,h1,h2⟩:=zb2 h
  exact⟨_,zlu h1.1 h1.2,h2⟩
 .exact⟨_,xc _,h⟩
def ansW(P:Program)(fn:Func)(C:Conf)(k:AV->Prop):Prop:=
 match resV P fn.ntmps C fn.results.toList with
 |some v=>(match frz (hpF C.hp) v with
  |some x=>zdh P fn.resultTypes.toList x k
  |none=>False)
 |none=>False
theorem q95{E:Env}{S0:List AObj}{F:Nat->Prop}{C:Conf}{ρ t:Nat->AV}{S:List AObj}{fn:Func}{k:AV->Prop}(hR:SatR S0 F C ρ t S)(h:ansW E.P fn C k):∃y,ARes E fn ⟨t,S,[]⟩ y∧k y:=by
 unfold ansW at h;split at h
 .rename_i v hv
  split at h
  .rename_i x hx
   obtain⟨y,h1,h2⟩:=zj6 h;exact⟨y,ya (zbl hR hv) λG z hz=>h1 G z (qjs hR.hp v x hx G z hz),h2⟩
  .exact h.elim
 .exact h.elim
def retW(P:Program)(fn:Func)(r0:AV)(e:Exit)(C:Conf):Prop:=
 match e with
 |.normal=>ansW P fn C λy=>Tl y r0
 |.ret=>ansW P fn C λy=>Tl y r0
 |_=>False
theorem qe0{α:Type}:∀{l:List α}{i0 i:Nat}{v:α},lkS (j5 i0 l) i=some v->∃j,i=i0+j∧l[j]?=some v
 | [],_,_,_,h=>by simp[j5,lkS]at h
 |x::r,i0,i,v,h=>by
  simp only[j5,lkS]at h
  cases hb:Qc i0 i with
  |true=>
   rw[hb]at h;simp only[cond_true,Qa]at h;subst h
   exact⟨0,(Qb hb).symm,rfl⟩
  |false=>
   rw[hb]at h;obtain⟨j,h1,h2⟩:=qe0 h;exact⟨j+1,Om,by simpa using h2⟩
def numK{α:Type}:Nat->List α->(List (Nat×α)->Prop)->Prop
 |_,[],k=>k []
 |i,x::r,k=>numK (i+1) r λl=>k ((i,x)::l)
theorem qst{α:Type}:∀(l:List α)(i:Nat)(k:List (Nat×α)->Prop),numK i l k=k (j5 i l)
 | [],_,_=>rfl
 |x::r,i,k=>by rw[numK,qst r];rfl
theorem qkf{E:Env}{fn:Func}{R:AV->List AObj->Prop}{S0:List AObj}{F:Nat->Prop}{C:Conf}{ρ t:Nat->AV}:∀{df:List Nat}{S:List AObj},SatR S0 F C ρ t S->(∀d∈df,S[d]?=some .dfr∧S0.length<=d)->df.Nodup->(∀S',SatR S0 F C ρ t S'->ARet E fn R ⟨t,S',[]⟩)->ARet E fn R ⟨t,S,df⟩
 | [],S,hR,_,_,h=>h S hR
 |d::df,S,hR,hm,hn,h=>by
  have hd:=hm d Sx;have nw:=List.nodup_cons.1 hn;refine qqt rfl hd.1 (qkf (hR.dead hd.1 hd.2) (λx hx=>?_) nw.2 h);have b9:d≠x:=λe=>nw.1 (e▸hx);simp only;rw[Ql b9];exact hm x (Zf _ hx)
theorem ze{E:Env}{f:FuncId}{fn:Func}{c:Code}{args:List AV}{st:List AObj}{r0:AV}(vs:List SV)(hp:Pure r0)(hf:E.P.funcs[f]?=some fn)(hb:fn.body=some c)(hn:Qh args.length fn.ntmps=true)(hv:∀ρ,SV.evs ρ vs=args)(hc:okC ⟨j5 0 vs,[],0⟩=true)
  (h:∀S0,numK 0 vs λsl=>Sm E none fn.ntmps ⟨S0,λ_=>False,λ_=>zm,0,False⟩ c (retW E.P fn r0) ⟨sl,[],0⟩):qp E f args st λr st'=>r=r0∧st'=st:=by
 simp only[qst]at h;refine qz hp (qq hf hb (Qi hn) ?_)
 have e7:SatC ⟨st++[],λ_=>False,λ_=>zm,0,False⟩ ⟨j5 0 vs,[],0⟩ ⟨argT args,st++[],[]⟩:=by
  refine⟨λ_=>zm,⟨nofun,List.nodup_nil,λ_ _=>rfl,Qj _,nofun⟩,⟨λd v hd=>?_,⟨λk r hk=>?_,λk k' r r' _ hk=>?_⟩,λk r hk=>?_,λ_ _ _=>rfl,Qj _,λd v hd=>?_,λk r hk=>?_⟩⟩
  .obtain⟨j,h1,h2⟩:=qe0 hd
   have:args[j]?=some (v.ev λ_=>zm):=by rw[<-hv λ_=>zm,xp,Qn,h2];rfl
   rw[h1,Zb];simp only[argT,List.getD,this,Za]
  .simp[hpF,lkS]at hk
  .simp[hpF,lkS]at hk
  .simp[hpF,lkS]at hk
  .simp only[okC,Qd]at hc
   exact Qk.1 hc.1 _ (vn hd)
  .simp[hpF,lkS]at hk
 refine((h (st++[])).run _ e7).mono λe s' ⟨C',hq,mz⟩=>?_;obtain⟨t,S,df⟩:=s';obtain⟨ρ,m8,hR⟩:=mz;simp only at m8 hR;have hdm:=m8.dm;have dq:=m8.nd;have hl:=hR.len
 have fin:ansW E.P fn C' (λy=>Tl y r0)->ARet E fn (λr st2=>r=r0∧∃ext,st2=st++ext) ⟨t,S,df⟩:=λh=>by
  refine qkf hR (λx hx=>hdm x hx) dq λS' pz=>?_;obtain⟨y,h1,h2⟩:=q95 pz h;refine qn rfl (ya h1 h2.ok) ⟨rfl,?_⟩;have hl:=pz.len;rw[Zt]at hl
  exact qor hl λk hk=>by
   have:=pz.low k (by simpa using hk) (λh=>h);rw[Zt]at this;exact this
 cases e with
 |normal=>exact fin hq
 |ret=>exact fin hq
 |_=>exact hq.elim
end Go.Av
