/- Contracts and plain facts that the closing text leans on (part 4). No condition of their own beyond those that each states. -/
import Derived.Test.YthnbabbhpeebbaaGreatDoorK3
import Derived.Lib.AppendZerosOnto
import Derived.Lib.Overlaps
set_option maxRecDepth 100000
set_option linter.unusedVariables false
set_option linter.unusedSimpArgs false
open Array renaming getElem?_toList→Za,range→Ze,getD_eq_getD_getElem?→Zg,getD→Zh,getElem?_eq_none→Zl,all_eq_true'→Zr,replicate→Zz
open Bool renaming and_eq_true→Qe,false_or→Qz,or_false→Zo,or_true→Zu,not_eq_true'→Zx
open List renaming mem_singleton→Qb,getElem?_eq_getElem→Qf,getElem?_set_ne→Qi,eq_nil_of_length_eq_zero→Qj,all_eq_true→Qn,getElem?_append_left→Qo,getElem?_map→Qq,getElem?_cons_zero→Qr,map_cons→Qs,getElem?_take→Qv,getElem?_drop→Qw,length_map→Zc,length_append→Zf,getElem?_take_of_lt→Zi,mem_filter→Zj,getElem?_set_self→Zk,mem_of_getElem?→Zm,any_cons→Zn,length_pos_iff→Zp,mem_map→Zq,ext_getElem?→Zv,size_toArray→Zw,count_cons→Xb,mem_range→Xc,any_nil→Xe
open List.cons renaming injEq→Xf
open Nat renaming beq→Qc,eq_of_beq_eq_true→Qd,le_refl→Qg,blt→Qk,ble→Ql,le_of_ble_eq_true→Qm,zero_add→Qu,le_trans→Qx,zero_le→Qy,mul_le_mul_right→Zb,add_mul→Zd,lt_of_lt_of_le→Zs,succ_mul→Zt,blt_eq→Xa,add_zero→Xd
open Option renaming map_some→Qt,getD_some→Zy
open Option.some renaming injEq→Qa
open Prod renaming snd→Qp
open Prod.mk renaming injEq→Qh
namespace Go.Av
open Go Go.RowKit
theorem qr9{P:Program}{B0:Nat}{w0:World}{G:Gh}{st:List AObj}{w:World}(hA:zb B0 w0 G st w){tt u ty T:TypeId}{du:TypeDesc}(htt:P.underlying tt=some (.slice T))(hu:P.underlying u=some du)(hd:qi3 du)
  {sz bytes:Nat} (hT:yr P T sz bytes) {t n m:Nat} (ht:st[t]?=some (.tip n sz T)) {xs ys:List AV} {x:Value} (hn:xs.length=n) (hm:ys.length=m)
  {news:List Value} (hx:Src P w x m sz news) (hys:∀y∈ys,y.cells.length=sz) (m8:∀(i:Nat)(a:AV)(b:Value),(flat ys)[i]?=some a->news[i]?=some b->Rel G a b)
  (cj:n+m<=maxLen) (base:Option Addr) (c:Nat) (olds:List Value) (ho:(Builtin.firstCells sz n (.slice base n c)).run P w.drew=.ok olds.toArray w.drew) (hc:c<n+m) (sj:olds.length=n*sz) (nz:(flat xs).length=n*sz) (hwx:∀x∈xs,x.cells.length=sz)
  (hrx:∀(j:Nat)(a:AV)(b:Value),(flat xs)[j]?=some a->olds[j]?=some b->Rel G a b) (o7:Builtin.nextslicecap (n+m) c*bytes<=281474976710656) (dv:m≠0):
  ∃v' w' G',(Builtin.append_ #[tt,u] ty #[.slice base n c,x]).run P w=.ok v' w'∧G.le G'∧zb B0 w0 G' (st.set t (.tip (n+m) sz T)) w'∧Rel G' (.sl sz (xs++ys) (some t)) v':=by
 obtain⟨i,z,hi,hz,rfl,rfl,pf⟩:=hT.ex;obtain⟨hraw,dk,htip⟩:=hA.ob t _ ht;have htn:t<G.n:=by rw[hA.n];exact lt_of_getElem? ht
 have e8:G.n=st.length:=hA.n;have hk:=hA.kill t;have rm:(st.set t .dead)[t]?=some .dead:=yz ht
 have p9:∀o x,(st.set t .dead)[o]?=some x->x.live->o≠t∧st[o]?=some x:=λo x hx hl=>by
  rcases getElem?_set' _ _ _ _ _ hx with⟨_,e⟩|⟨h1,h2⟩
  .subst e;exact hl.elim
  .exact⟨h1,h2⟩
 have mj:(st.set t AObj.dead).set t (.tip (n+m) i.size T)=st.set t (.tip (n+m) i.size T):=by rw[List.set_set]
 have t7:st.set t (.tip n i.size T)=st:=by
  apply Zv;intro k;by_cases e:t=k
  .subst e;rw[Zk (lt_of_getElem? ht)];exact ht.symm
  .rw[Qi e]
 have a8:=qf8 (ty:=ty) htt hu hd hi hz hx base n c olds ho hc (by simp only[maxLen]at cj;omega) o7;have mz:=grownCap_ge w (n+m) c T;have d8:=grownCap_le_maxLen w (n+m) c T cj;generalize grownCap w (n+m) c T=cap at a8 mz d8
 have o9:(olds.toArray++news.toArray++Builtin.zeroCells z.cells (cap-(n+m))).size=cap*i.size:=by
  simp only[Array.size_append,Zw,size_zeroCells,pf,sj,hx.count,<-Zd];congr 1;omega
 generalize hcv:olds.toArray++news.toArray++Builtin.zeroCells z.cells (cap-(n+m))=c' at a8 o9;have cq:Below w.heap.size w w.drew:=⟨rfl,rfl,rfl,Qg _,λ_ _=>rfl⟩;have gq:=hk.fresh cq
 have pw:∀(j:Nat)(y:Value),(olds++news)[j]?=some y->c'[j]?=some y:=λj y hy=>by
  have hj:=lt_of_getElem? hy;rw[<-hcv,Array.getElem?_append_left (by simp at hj⊢;omega),List.append_toArray]
  simpa using hy
 obtain⟨bc,mq⟩:=gq.newPub T c' (0,0) (olds++news) pw
 have hnp:G.pub w.heap.size=none:=by
  cases hp:G.pub w.heap.size with
  |none=>rfl
  |some vs=>exact absurd (hA.pub_lt hp) (Nat.lt_irrefl _)
 obtain⟨br,hA3⟩:=mq.setTip (n':=n+m) (vs:=olds++news) (k:=w.heap.size) (cap:=cap*i.size) (sz:=i.size) (T:=T) rm (by simpa[Gh.publish]using hraw) (by simpa[Gh.publish]using dk) Om (ww w.drew _) (by simp[Gh.publish]) (by simp[sj,hx.count,Zd]) o9 hA.hB (λo x hx hl=>by
  obtain⟨_,g9⟩:=p9 o x hx hl
  exact Nat.ne_of_lt ((hA.ob o x g9).lt hl))
 rw[mj]at hA3;refine⟨_,_,_,a8,bc.trans br,hA3,?_⟩;have cr:∀{a b},Rel G a b->Rel ((G.publish w.drew.heap.size (olds++news)).setOb t ⟨n+m,w.heap.size,cap*i.size,false⟩) a b:=λh=>(h.mono bc).mono br;refine qvo (n:=n) (m:=m) (cap:=cap) (k:=w.heap.size) (vs:=olds) (news:=news) (by simp[Gh.setOb]) (by simp[Gh.setOb]) (by simp[Gh.setOb]) d8 mz (by simpa[Gh.setOb,Gh.publish]using htn) Om hn hm (by simp[Gh.setOb,Gh.publish]) (λy hy=>?_) sj hx.count nz (λj a b h1 h2=>cr (hrx j a b h1 h2)) (λj a b h1 h2=>cr (m8 j a b h1 h2));rcases List.mem_append.1 hy with h|h
 .exact hwx y h
 .exact hys y h
def TipO(b:Nat)(st:List AObj)(sz:Nat)(T:TypeId)(xs:List AV)(c:AV):Prop:=TipC b st sz T xs c∨(xs=[]∧∃o v f,c=.os o v f 0 0)
theorem qgx(b:Nat)(st:List AObj)(sz:Nat)(T:TypeId):TipO b st sz T [] zf:=.inl (zdr ..)
theorem qvm(b:Nat)(st:List AObj)(sz:Nat)(T:TypeId)(o v f:Nat):TipO b st sz T [] (.os o v f 0 0):=.inr ⟨rfl,_,_,_,rfl⟩
theorem zgd{G:Gh}{o v f:Nat}{sz:Nat}{x:Value}(h:Rel G (.os o v f 0 0) x):Rel G (.sl sz [] none) x:=by
 cases h with
 |os _ _ _ _ b _ hn hv h=>exact .sl0 sz none _ _ Sx
section
variable {E : Env} {rd : Option Nat} {N : Nat} {ops : Array Oper} {K : AS → Prop} {s : AS} {rest : List Oper} {d : Option Tmp} {T : TypeId} {p : String} {af : Array Edge}
theorem qfr{x y:Operand}{t u T':TypeId}{sz bytes b:Nat}{xs ys:List AV}{tip:Option Nat}{c:AV}{st:List AObj}(d9:s.st=st)(hx:qg N s x=c)(hy:qg N s y=.sl sz ys tip)
  (ht:E.P.underlying t=some (.slice T')) (hu:E.P.underlying u=some (.slice T')) (hT:yr E.P T' sz bytes) (hc:TipO b st sz T' xs c) (hb:b<=st.length) (p6:va (flat ys)=true) (cj:xs.length+ys.length<=maxLen) (hby:(xs.length+ys.length)*bytes<=140737488355328)
  (h:∀c' st' t1,TipO b st' sz T' (xs++ys) c'->Fr st st' t1->b<=t1->(c=.sl sz xs (some t1)∨st.length<=t1)->AOps E rd N ops rest K (AS.put ⟨s.t,st',s.df⟩ d c')):AOps E rd N ops (⟨d,.call ⟨.builtin .append,#[x,y],#[t,u]⟩,T,p,af,none⟩::rest) K s:=by
 rcases hc with hc|⟨rf,o,ver,f,hco⟩
 .refine qyc d9 hx hc hb hy ht hu hT p6 cj hby λt1 st' g1 g2 g3 g4=>h _ st' t1 (.inl (.inr ⟨t1,rfl,g1,g2⟩)) g3 g2 g4
 .subst d9
  subst rf;refine qv rfl (qu nofun λB0 w0 G a w _ hI=>?_);have he:=hI.eval_of (hx.trans hco);obtain⟨news,k1,k2,k3⟩:=y3 (P:=E.P) hI.agree (hI.eval_of hy) (by simpa[va]using p6);have hex:=hT.ex;obtain⟨i,z,hi,hz,o9,hbt,pf⟩:=hex;generalize hv:a.eval x=v at he
  cases he with
  |os _ _ _ _ blk _ hn hvv hbb=>
   by_cases dv:ys.length=0
   .have hy0:ys=[]:=Qj dv
    subst hy0
    have hk1':Src E.P w (a.eval y) 0 i.size []:=by
     have:news=[]:=Qj (by simpa using k1.count);rw[o9];rw[this]at k1;exact k1
    refine⟨_,w,G,_,s.st,?_,.refl G,hI.agree,.os o ver f 0 blk 0 hn hvv hbb,h _ s.st s.st.length (.inr ⟨rfl,o,ver,f,rfl⟩) ⟨Qg _,λ_ _ _=>rfl⟩ hb (.inr (Qg _))⟩;have:=qca (ty:=T) ht hu (.inr ⟨_,rfl⟩) hi hk1' (some ⟨blk,f,none⟩) 0 0 (Qg _);generalize a.eval=ρ at hv this;simp[execOp,resolve,invoke,builtin,hv,this]
   .have d8:=G.le_new 0 0 0 false
    have hA:=hI.agree.newTip sz T';have hz63:0+ys.length<=maxLen:=by simpa using cj
    obtain⟨v',w',G',e1,e2,e3,e4⟩:=qr9 (ty:=T) hA ht hu (.inr ⟨_,rfl⟩) hT (t:=s.st.length) (n:=0) (xs:=[]) Sx rfl rfl k1 k2 (λi a b h1 h2=>(k3 i a b h1 h2).mono d8) hz63 (some ⟨blk,f,none⟩) 0 []
     (run_firstCells_some w.drew sz 0 ⟨blk,f,none⟩ 0 0 [] Sx Sx) Om Sx (by simp[flat]) Sx (by simp[flat]) (by rw[Qu,nextslicecap_zero Om];have:=hby;simp at this;omega) dv
    refine⟨v',w',G',_,_,?_,d8.trans e2,e3,e4,h _ _ s.st.length (.inl (.inr ⟨s.st.length,rfl,?_,hb⟩)) ⟨Sx,λk hk e8=>?_⟩ hb (.inr (Qg _))⟩
    .generalize a.eval=ρ at e1 hv
     simp[execOp,resolve,invoke,builtin,hv,e1]
    .simp
    .rw[Qi (Ne.symm hk),Qo e8]
end
theorem qba{α:Type}{g:α->AV}{l:List α}(h:∀a,va (g a).cells=true):va (flat (l.map g))=true:=by
 induction l with
 |nil=>rfl
 |cons a r ih=>
  have h1:=h a;unfold va flat at *;rw[Qs,List.flatMap_cons,List.all_append,h1,ih];rfl
theorem qjs{b:Nat}{st:List AObj}{sz:Nat}{T:TypeId}{xs:List AV}{c:AV}(h:TipO b st sz T xs c):∀G v,Rel G c v->Rel G (.sl sz xs none) v:=by
 rcases h with(⟨rfl,rfl⟩|⟨t,rfl,_⟩)|⟨rfl,o,v,f,rfl⟩
 .exactλG v h=>qbo h
 .exactλG v h=>qov h
 .exactλG v h=>zgd h
end Go.Av
namespace Go.Av
open Go Go.RowKit
inductive SrcA (st:List AObj) (sz:Nat):AV->Nat->Nat->List AV->Prop
 |sl (ys:List AV) (tip:Option Nat) (p6:va (flat ys)=true):SrcA st sz (.sl sz ys tip) ys.length ys.length (flat ys)
 |os (o ver off L cap m:Nat) (T:TypeId) (cs:List AV) (ho:st[o]?=some (.cells ver T cs)) (o7:off+m*sz<=cs.length) (p6:va ((cs.drop off).take (m*sz))=true):SrcA st sz (.os o ver off L cap) L m ((cs.drop off).take (m*sz))
structure SrcP (P:Program) (w:World) (x:Value) (L m size:Nat) (news:List Value):Prop where
 len:∀w',(Builtin.lenOf x).run P w'=.ok L w'
 cells:∀w',Below w.heap.size w w'->(Builtin.firstCells size m x).run P w'=.ok news.toArray w'
 count:news.length=m*size
 one:∀u∈news,u.oneCell'=true
section
variable {B0 : Nat} {w0 : World} {G : Gh} {st : List AObj} {w : World}
theorem q38{P:Program}(hA:zb B0 w0 G st w){sz L m:Nat}{a:AV}{zs:List AV}{x:Value}(h:SrcA st sz a L m zs)(hr:Rel G a x):
  ∃news,SrcP P w x L m sz news∧zs.length=m*sz∧∀(i:Nat)(a:AV)(b:Value),zs[i]?=some a->news[i]?=some b->Rel G a b:=by
 cases h with
 |sl ys tip p6=>
  obtain⟨news,h1,h2,h3⟩:=y3 (P:=P) hA hr (by simpa[va]using p6)
  exact⟨news,⟨h1.len,h1.cells,h1.count,h1.one⟩,jh h2,h3⟩
 |os o ver off _ cap _ T cs ho o7 p6=>
  obtain⟨g0,g1,g2,g3,c,g4,g5,g6⟩:=hA.ob o _ ho
  cases hr with
  |os _ _ _ _ b _ hn hv hb=>
   have hb:=hb g1;subst hb
   have i8:∀(j:Nat)(y:Value),((c.toList.drop off).take (m*sz))[j]?=some y->j<m*sz∧c[off+j]?=some y:=λj y hy=>by
    rw[Qv]at hy;split at hy
    .rename_i hj
     rw[Qw]at hy;exact⟨hj,by simpa using hy⟩
    .simp at hy
   have hnl:((c.toList.drop off).take (m*sz)).length=m*sz:=by
    simp;omega
   refine⟨(c.toList.drop off).take (m*sz),⟨λw'=>by simp[Builtin.lenOf],λw' bp=>?_,hnl,λu hu=>?_⟩,So,λi a b h1 h2=>?_⟩
   .refine run_firstCells_some w' sz m ⟨(G.ob o).blk,off,none⟩ L cap _ hnl λj y hy=>?_
    obtain⟨hj,hy⟩:=i8 j y hy
    have e8:(G.ob o).blk<w.heap.size:=by
     rcases Nat.lt_or_ge (G.ob o).blk w.heap.size with h'|h'
     .exact h'
     .simp[Zl h']at g4
    have e1:w'.heap[(G.ob o).blk]?=some (.cells c T (0,0)):=by rw[bp.block _ e8];exact g4
    rw[Addr.add_lit];simp[World.cell?,e1,hy]
   .obtain⟨j,hj⟩:=List.getElem?_of_mem hu
    obtain⟨h1,h2⟩:=i8 j u hj;have hlc:off+j<cs.length:=Om
    have hx:cs[off+j]?=some cs[off+j]:=Qf hlc;have hz:((cs.drop off).take (m*sz))[j]?=some cs[off+j]:=by rw[Zi h1,Qw];exact hx
    exact(g6 _ _ u hx h2).one (Qn.1 p6 _ (Zm hz))
   .obtain⟨h3,h4⟩:=i8 i b h2
    rw[Zi h3,Qw]at h1;exact g6 _ a b h1 h4
theorem qi6(hA:zb B0 w0 G st w){o ver off:Nat}{T:TypeId}{cs zs:List AV}{news:List Value}{c:Array Value}(ho:st[o]?=some (.cells ver T cs))(g4:w.heap[(G.ob o).blk]?=some (.cells c T (0,0)))(o7:off+zs.length<=cs.length)(hl:zs.length=news.length)
  (hr:∀(i:Nat)(a:AV)(b:Value),zs[i]?=some a->news[i]?=some b->Rel G a b):zb B0 w0 G (st.set o (.cells ver T (z0 cs off zs))) (w.setRow (G.ob o).blk (c.toList.take off++news++c.toList.drop (off+news.length)).toArray):=by
 obtain⟨_,_,_,_,c',h4,g5,g6⟩:=hA.ob o _ ho;rw[g4]at h4;simp only[Qa,Obj.cells.injEq,and_true]at h4;subst h4;refine hA.setRow ho (by simp[z0];omega) ?_
 have e1:∀(j:Nat)(a:AV)(b:Value),(cs.take off)[j]?=some a->(c.toList.take off)[j]?=some b->Rel G a b:=λj a b h1 h2=>by
  rw[Qv]at h1 h2;split at h1
  .rename_i hj
   rw[if_pos hj]at h2;exact g6 j a b h1 (by simpa using h2)
  .simp at h1
 have e2:=qaq (G:=G) (cs:=cs.take off) (ds:=zs) (vs:=c.toList.take off) (us:=news) So e1 hr
 have e3:=qaq (G:=G) (cs:=cs.take off++zs) (ds:=cs.drop (off+zs.length)) (vs:=c.toList.take off++news) (us:=c.toList.drop (off+news.length)) So e2 (λj a b h1 h2=>by
  rw[Qw]at h1 h2;rw[hl]at h1
  exact g6 _ a b h1 (by simpa using h2))
 unfold z0;intro j a b h1 h2;exact e3 j a b h1 (by simpa using h2)
end
section
variable {E : Env} {rd : Option Nat} {N : Nat} {ops : Array Oper} {K : AS → Prop} {s : AS} {rest : List Oper} {d : Option Tmp} {T : TypeId} {p : String} {af : Array Edge}
theorem qng{x y:Operand}{t u T':TypeId}{sz bytes o ver n cap m:Nat}{cs zs:List AV}{a:AV}(hx:qg N s x=.os o ver 0 n cap)(hy:qg N s y=a)(ho:s.st[o]?=some (.cells ver T' cs))(cx:SrcA s.st sz a m m zs)
  (ht:E.P.underlying t=some (.slice T')) (hu:E.P.underlying u=some (.slice T')) (hT:yr E.P T' sz bytes) (i9:n+m<=cap) (hcs:cs.length=cap*sz)
  (h:AOps E rd N ops rest K (AS.put ⟨s.t,s.st.set o (.cells ver T' (z0 cs (n*sz) zs)),s.df⟩ d (.os o ver 0 (n+m) cap))):AOps E rd N ops (⟨d,.call ⟨.builtin .append,#[x,y],#[t,u]⟩,T,p,af,none⟩::rest) K s:=by
 refine qv rfl (qu nofun λB0 w0 G a0 w _ hI=>?_);obtain⟨i,z,hi,hz,rfl,rfl,pf⟩:=hT.ex;obtain⟨news,h1,h2,h3⟩:=q38 (P:=E.P) hI.agree cx (hI.eval_of hy);have hv:=hI.eval_of hx;generalize dx:a0.eval x=v at hv;obtain⟨g0,g1,g2,g3,c,g4,g5,g6⟩:=hI.agree.ob o _ ho;have hmul:n*i.size+m*i.size<=cap*i.size:=by rw[<-Zd];exact Zb _ i9
 cases hv with
 |os _ _ _ _ b _ hn hv hb=>
  have hb:=hb g1;subst hb;have a8:=qjt (ty:=T) ht hu (.inr ⟨_,rfl⟩) hi ⟨h1.len,h1.cells,h1.count,h1.one⟩ (G.ob o).blk n cap c g4 i9 (by rw[h1.count];omega);refine⟨_,_,G,_,_,?_,.refl G,qi6 hI.agree ho g4 Om (by rw[h1.count];exact h2) h3,.os o ver 0 (n+m) _ cap hn hv (λ_=>rfl),h⟩;generalize a0.eval=ρ at a8 dx⊢;simp[execOp,resolve,invoke,builtin,dx,a8]
theorem qap{x y:Operand}{t u T':TypeId}{sz bytes o ver off dl dc L m:Nat}{cs zs:List AV}{a:AV}(hx:qg N s x=.os o ver off dl dc)(hy:qg N s y=a)(ho:s.st[o]?=some (.cells ver T' cs))(cx:SrcA s.st sz a L m zs)(hm:Nat.min L dl=m)
  (ht:E.P.underlying t=some (.slice T')) (hT:yr E.P T' sz bytes) (o7:off+m*sz<=cs.length)
  (h:AOps E rd N ops rest K (AS.put ⟨s.t,s.st.set o (.cells ver T' (z0 cs off zs)),s.df⟩ d (Iv (m:Nat)))):AOps E rd N ops (⟨d,.call ⟨.builtin .copy,#[x,y],#[t,u]⟩,T,p,af,none⟩::rest) K s:=by
 refine qv rfl (qu nofun λB0 w0 G a0 w _ hI=>?_);obtain⟨i,z,hi,hz,rfl,rfl,pf⟩:=hT.ex;obtain⟨news,h1,h2,h3⟩:=q38 (P:=E.P) hI.agree cx (hI.eval_of hy);have hv:=hI.eval_of hx;generalize dx:a0.eval x=v at hv;obtain⟨g0,g1,g2,g3,c,g4,g5,g6⟩:=hI.agree.ob o _ ho
 cases hv with
 |os _ _ _ _ b _ hn hv hb=>
  have hb:=hb g1;subst hb;have d9:=run_storeCells_at E.P (G.ob o).blk off T' news 0 c w g4 (by rw[h1.count];omega) h1.one;simp only[Xd]at d9;have pg:=h1.cells w (Below.refl _ _);refine⟨_,_,G,_,_,?_,.refl G,qi6 hI.agree ho g4 Om (by rw[h1.count];exact h2) h3,.v _,h⟩;have hl:=h1.len w;generalize a0.eval=ρ at dx d9 pg hl⊢;simp[execOp,resolve,invoke,builtin,dx,Builtin.copy_,run_underlying ht,sizeOf,typeInfo,hi,hl,hm,pg,d9,goInt]
def q4g(P:Program)(T:TypeId):Bool:=
 match P.info? T with
 |some i=>(match i.zero with
  |some z=>z.cells.toList.all Value.oneCell'
  |none=>false)
 |none=>false
theorem qye{x:Operand}{t T':TypeId}{sz bytes o ver off n cap:Nat}{cs:List AV}(hx:qg N s x=.os o ver off n cap)(ho:s.st[o]?=some (.cells ver T' cs))
  (ht:E.P.underlying t=some (.slice T')) (hT:yr E.P T' sz bytes) (hz1:q4g E.P T'=true) (o7:off+n*sz<=cs.length)
  (h:∀zs:List AV,zs.length=n*sz->AOps E rd N ops rest K (AS.put ⟨s.t,s.st.set o (.cells ver T' (z0 cs off zs)),s.df⟩ d (.v undef))):AOps E rd N ops (⟨d,.call ⟨.builtin .clear,#[x],#[t]⟩,T,p,af,none⟩::rest) K s:=by
 refine qv rfl (qu nofun λB0 w0 G a0 w _ hI=>?_);obtain⟨i,z,hi,hz,rfl,rfl,pf⟩:=hT.ex;have hv:=hI.eval_of hx;generalize dx:a0.eval x=v at hv;obtain⟨g0,g1,g2,g3,c,g4,g5,g6⟩:=hI.agree.ob o _ ho
 cases hv with
 |os _ _ _ _ b _ hn hv hb=>
  have hb:=hb g1;subst hb;by_cases h0:n=0
  .subst h0
   have t7:s.st.set o (.cells ver T' (z0 cs off []))=s.st:=by
    have e:z0 cs off []=cs:=by simp[z0]
    rw[e];apply Zv;intro k;by_cases e:o=k
    .subst e;rw[Zk (lt_of_getElem? ho)];exact ho.symm
    .rw[Qi e]
   have hh:=h [] Sx;refine⟨_,_,G,_,_,?_,.refl G,hI.agree,.v _,by rw[t7]at hh;exact hh⟩;generalize a0.eval=ρ at dx⊢;simp[execOp,resolve,invoke,builtin,dx,Builtin.clear_,run_underlying ht,undef]
  .have hzl:(Builtin.zeroCells z.cells n).toList.length=n*i.size:=by simp[size_zeroCells,pf]
   have hz1:∀u∈(Builtin.zeroCells z.cells n).toList,u.oneCell'=true:=λu hu=>by
    unfold q4g at hz1;rw[hi]at hz1;simp only[hz]at hz1;refine Qn.1 hz1 u ?_;simp only[Builtin.zeroCells,Array.toList_map,Zq,Array.toList_range,Xc]at hu;obtain⟨q,hq,rfl⟩:=hu
    have hp:q%z.cells.size<z.cells.size:=Nat.mod_lt _ (by
     rcases Nat.eq_zero_or_pos z.cells.size with h|h
     .rw[h]at hq;omega
     .exact h)
    rw[getElem!_pos z.cells _ hp];simp
   have d9:=run_storeCells_at E.P (G.ob o).blk off T' (Builtin.zeroCells z.cells n).toList 0 c w g4 (by rw[hzl];omega) hz1;simp only[Xd]at d9;have hh:=h ((Builtin.zeroCells z.cells n).toList.map AV.v) (by simpa using hzl);refine⟨_,_,G,_,_,?_,.refl G,qi6 (news:=(Builtin.zeroCells z.cells n).toList) hI.agree ho g4 (by rw[Zc,hzl];exact o7) Sx (λj a b h1 h2=>?_),.v _,hh⟩
   .generalize a0.eval=ρ at dx d9⊢
    obtain⟨n',rfl⟩:∃n',n=n'+1:=⟨n-1,Om⟩;simp[execOp,resolve,invoke,builtin,dx,Builtin.clear_,run_underlying ht,zeroValue,typeInfo,hi,hz,d9,undef]
   .rw[Qq,h2]at h1
    simp at h1;subst h1;exact .v _
theorem qt7{P:Program}{t e:TypeId}{sz:Nat}{agg:Bool}(hu:P.underlying t=some (.slice e))(ht:tyOf P e=some (sz,agg))(a:Option Addr)(len cap:Nat)(lo hi mx:Option Value)(i j m:Nat)(w:World)
  (cz:match lo with|none=>i=0|some v=>∃k,v=.int k (i:Int)) (cg:match hi with|none=>j=len∧mx=none|some v=>∃k,v=.int k (j:Int)) (hmx:match mx with|none=>m=cap|some v=>∃k,v=.int k (m:Int)) (h1:i<=j) (h2:j<=m) (h3:m<=cap):
  (Instr.slice t (.slice a len cap) lo hi mx).run P w=.ok (.slice (if m=i then a else a.map (·.add (i*sz))) (j-i) (m-i)) w:=by
 have hs:=(vj ht w).1
 cases lo with
 |none=>
  simp only at cz;subst cz
  cases hi with
  |none=>
   obtain⟨rfl,rfl⟩:=cg;simp only at hmx;subst hmx
   simp[Instr.slice,run_underlying hu,Instr.sliceBounds,hs]
  |some v=>
   obtain⟨k,rfl⟩:=cg
   cases mx with
   |none=>
    simp only at hmx;subst hmx
    simp[Instr.slice,run_underlying hu,Instr.sliceBounds,Instr.sliceBound,asIntOf,hs,h2]
   |some u=>
    obtain⟨k',rfl⟩:=hmx
    simp[Instr.slice,run_underlying hu,Instr.sliceBounds,Instr.sliceBound,asIntOf,hs,h2,h3]
 |some u=>
  obtain⟨k',rfl⟩:=cz
  cases hi with
  |none=>
   obtain⟨rfl,rfl⟩:=cg;simp only at hmx;subst hmx
   simp[Instr.slice,run_underlying hu,Instr.sliceBounds,Instr.sliceBound,asIntOf,hs,h1]
  |some v=>
   obtain⟨k,rfl⟩:=cg
   cases mx with
   |none=>
    simp only at hmx;subst hmx
    simp[Instr.slice,run_underlying hu,Instr.sliceBounds,Instr.sliceBound,asIntOf,hs,h1,h2]
   |some u=>
    obtain⟨k'',rfl⟩:=hmx;simp[Instr.slice,run_underlying hu,Instr.sliceBounds,Instr.sliceBound,asIntOf,hs,h1,h2,h3]
theorem zz{x:Operand}{t e:TypeId}{lo hi mx:Option Operand}{sz:Nat}{agg:Bool}{o ver off len cap i j m:Nat}(hx:qg N s x=.os o ver off len cap)(hu:E.P.underlying t=some (.slice e))(ht:tyOf E.P e=some (sz,agg))
  (cz:match lo with|none=>i=0|some y=>∃k,qg N s y=.v (.int k (i:Int))) (cg:match hi with|none=>j=len∧mx=none|some y=>∃k,qg N s y=.v (.int k (j:Int))) (hmx:match mx with|none=>m=cap|some y=>∃k,qg N s y=.v (.int k (m:Int))) (h1:i<=j) (h2:j<=m) (h3:m<=cap)
  (h:AOps E rd N ops rest K (s.put d (.os o ver (if m=i then off else off+i*sz) (j-i) (m-i)))):AOps E rd N ops (⟨d,.slice t x lo hi mx,T,p,af,none⟩::rest) K s:=by
 refine qv rfl (qu nofun λB0 w0 G a w _ hI=>?_);have he:=hI.eval_of hx;generalize hv:a.eval x=v at he
 cases he with
 |os _ _ _ _ b _ hn hvr hb=>
  have a8:=qt7 hu ht (some ⟨b,off,none⟩) len cap (lo.map a.eval) (hi.map a.eval) (mx.map a.eval) i j m w (by
   cases lo with
   |none=>exact cz
   |some y=>obtain⟨k,hy⟩:=cz;exact⟨k,hI.evalv hy⟩) (by
   cases hi with
   |none=>obtain⟨q1,q2⟩:=cg;subst q2;exact⟨q1,rfl⟩
   |some y=>obtain⟨k,hy⟩:=cg;exact⟨k,hI.evalv hy⟩) (by
   cases mx with
   |none=>exact hmx
   |some y=>obtain⟨k,hy⟩:=hmx;exact⟨k,hI.evalv hy⟩) h1 h2 h3
  refine⟨.slice (if m=i then some ⟨b,off,none⟩else(some ⟨b,off,none⟩:Option Addr).map (·.add (i*sz))) (j-i) (m-i),w,G,_,s.st,?_,.refl G,hI.agree,?_,h⟩
  .generalize a.eval=ρ at hv a8⊢
   simp only[execOp,hv];simp[Instr.sliceAt,run_underlying hu,a8]
  .have lw:Addr.add ⟨b,off,none⟩ (i*sz)=⟨b,off+i*sz,none⟩:=Addr.add_lit ..
   by_cases hmi:m=i
   .rw[if_pos hmi,if_pos hmi]
    exact .os o ver off (j-i) b (m-i) hn hvr hb
   .rw[if_neg hmi,if_neg hmi,Qt,lw]
    exact .os o ver (off+i*sz) (j-i) b (m-i) hn hvr hb
theorem qi8{x y:Operand}{t u T':TypeId}{sz bytes:Nat}{ys:List AV}(hx:∀(G:Gh)(v:Value),Rel G (qg N s x) v->∃base,v=.slice base 0 0)(hy:∀(G:Gh)(v:Value),Rel G (qg N s y) v->Rel G (.sl sz ys none) v)
  (ht:E.P.underlying t=some (.slice T')) (hu:E.P.underlying u=some (.slice T')) (hT:yr E.P T' sz bytes) (p6:va (flat ys)=true) (h0:ys≠[]) (cj:ys.length<=maxLen) (hb:ys.length*bytes<=140737488355328)
  (h:∀cap pad,(flat ys++pad).length=(cap+1)*sz->(∀y∈ys,y.cells.length=sz)->ys.length<=cap+1->cap+1<=maxLen->AOps E rd N ops rest K (AS.put ⟨s.t,s.st++[.cells 0 T' (flat ys++pad)],s.df⟩ d (.os s.st.length 0 0 ys.length (cap+1)))):AOps E rd N ops (⟨d,.call ⟨.builtin .append,#[x,y],#[t,u]⟩,T,p,af,none⟩::rest) K s:=by
 refine qv rfl (qu nofun λB0 w0 G a0 w _ hI=>?_);obtain⟨i,z,hi,hz,rfl,rfl,pf⟩:=hT.ex;obtain⟨news,h1,h2,h3⟩:=y3 (P:=E.P) hI.agree (hy _ _ (hI.eval y)) (by simpa[va]using p6);obtain⟨base,hv⟩:=hx _ _ (hI.eval x);have b9:0<ys.length:=Zp.2 h0
 have e9:(Builtin.firstCells i.size 0 (.slice base 0 0)).run E.P w.drew=.ok ([]:List Value).toArray w.drew:=by
  cases base with
  |none=>simp[run_firstCells_none]
  |some a=>exact run_firstCells_some w.drew i.size 0 a 0 0 [] Sx Sx
 have a8:=qf8 (ty:=T) ht hu (.inr ⟨_,rfl⟩) hi hz h1 base 0 0 [] e9 Om (by simp only[maxLen]at cj;omega) (by simp only[Qu];rw[nextslicecap_zero Om];omega);simp only[Qu]at a8;have mz:=grownCap_ge w ys.length 0 T';have d8:=grownCap_le_maxLen w ys.length 0 T' cj;generalize grownCap w ys.length 0 T'=cap at a8 mz d8;obtain⟨cap,rfl⟩:∃c,cap=c+1:=⟨cap-1,Om⟩;generalize hzc:Builtin.zeroCells z.cells (cap+1-ys.length)=zc at a8;have hzl:zc.size=(cap+1-ys.length)*i.size:=by rw[<-hzc,size_zeroCells,pf]
 have hfy:(flat ys).length=ys.length*i.size:=jh h2;have cq:Below w.heap.size w w.drew:=⟨rfl,rfl,rfl,Qg _,λ_ _=>rfl⟩
 have hr:=qaq (G:=G) (cs:=flat ys) (ds:=zc.toList.map AV.v) (vs:=news) (us:=zc.toList) (by rw[hfy,h1.count]) h3 (λj a b h1 h2=>by
  rw[Qq,h2]at h1;simp at h1;subst h1
  exact .v _)
 have hA:=(hI.agree.fresh cq).newCells T' (([]:List Value).toArray++news.toArray++zc) (flat ys++zc.toList.map AV.v) (by simp[hfy,h1.count]) (λj a b q1 q2=>hr j a b q1 (by rw[<-q2];simp[<-Za]));have hn:=hI.agree.n;refine⟨_,_,_,_,_,?_,G.le_new _ _ _ _,hA,.os _ _ _ _ _ _ (by simp[Gh.new,hn]) (Qy _) (λ_=>by simp[Gh.new,hn];rfl),h cap (zc.toList.map AV.v) ?_ h2 mz d8⟩
 .generalize a0.eval=ρ at a8 hv⊢
  simp[execOp,resolve,invoke,builtin,hv,a8]
 .have h1:zc.toList.length=(cap+1-ys.length)*i.size:=by rw[<-hzl];simp
  rw[Zf,hfy,Zc,h1,<-Zd];congr 1;omega
theorem qxg{x y:Operand}{t u T':TypeId}{sz bytes o:Nat}{xs ys:List AV}{a:AV}{ob:AObj}(hx:qg N s x=a)(hy:∀(G:Gh)(v:Value),Rel G (qg N s y) v->Rel G (.sl sz ys none) v)(hV:Vec sz T' o xs a ob)(ho:s.st[o]?=some ob)
  (ht:E.P.underlying t=some (.slice T')) (hu:E.P.underlying u=some (.slice T')) (hT:yr E.P T' sz bytes) (p6:va (flat ys)=true) (cj:xs.length+ys.length<=maxLen) (hb:(xs.length+ys.length)*bytes<=140737488355328)
  (h:∀a' ob',Vec sz T' o (xs++ys) a' ob'->AOps E rd N ops rest K (AS.put ⟨s.t,s.st.set o ob',s.df⟩ d a')):AOps E rd N ops (⟨d,.call ⟨.builtin .append,#[x,y],#[t,u]⟩,T,p,af,none⟩::rest) K s:=by
 refine qv rfl (qu nofun λB0 w0 G a0 w _ hI=>?_);obtain⟨news,h1,h2,h3⟩:=y3 (P:=E.P) hI.agree (hy _ _ (hI.eval y)) (by simpa[va]using p6);obtain⟨v',w',G',a',ob',e1,e2,e3,e4,e5⟩:=qxf (ty:=T) hI.agree ht hu (.inr ⟨_,rfl⟩) hT hV ho (hI.eval_of hx) h1 h2 h3 cj hb;refine⟨v',w',G',_,_,?_,e2,e3,e4,h a' ob' e5⟩;generalize a0.eval=ρ at e1;simp[execOp,resolve,invoke,builtin,e1]
theorem qya{x y:Operand}{t u T':TypeId}{sz bytes:Nat}{c:AV}(hx:qg N s x=c)(hc:∀G v,Rel G c v->∃b n cp,v=.slice b n cp∧n<=cp)(hy:∀(G:Gh)(v:Value),Rel G (qg N s y) v->Rel G (.sl sz [] none) v)
  (ht:E.P.underlying t=some (.slice T')) (hu:E.P.underlying u=some (.slice T')) (hT:yr E.P T' sz bytes) (h:AOps E rd N ops rest K (s.put d c)):AOps E rd N ops (⟨d,.call ⟨.builtin .append,#[x,y],#[t,u]⟩,T,p,af,none⟩::rest) K s:=by
 refine qv rfl (qu nofun λB0 w0 G a0 w _ hI=>?_);obtain⟨i,z,hi,hz,rfl,rfl,pf⟩:=hT.ex;obtain⟨news,h1,h2,h3⟩:=y3 (P:=E.P) hI.agree (hy _ _ (hI.eval y)) (by simp[flat]);have sg:news=[]:=Qj (by simpa using h1.count);subst sg;have hv:=hI.eval_of hx;obtain⟨b,n,cp,hv2,d8⟩:=hc _ _ hv;have a8:=qca (ty:=T) ht hu (.inr ⟨_,rfl⟩) hi h1 b n cp d8;refine⟨_,w,G,c,s.st,?_,.refl G,hI.agree,hv,h⟩;rw[hv2];generalize a0.eval=ρ at a8 hv2;simp[execOp,resolve,invoke,builtin,hv2,a8]
end
end Go.Av
namespace Go.Av
open Go Go.RowKit
theorem qrt{P:Program}(w:World)(tS tR e:TypeId)(ht:P.underlying tS=some (.slice e))(size:Nat)(hz:∀w,(Go.sizeOf e).run P w=.ok size w)
  (a b:Addr) (la ca lb cb:Nat) (d7:a.block≠b.block) (tA tB:TypeId) (kA kB:Nat)
  (hsa:w.shape? a.block=some (tA,kA)) (hsb:w.shape? b.block=some (tB,kB)) (hkA:kA≠0)
  (dt:w.frozen? b=false) (hfe:w.frozen? {block:=b.block,off:=kB}=false):
  (Extern.SlicesOverlaps.overlaps #[tS,tS] #[tR] #[.slice (some a) la ca,.slice (some b) lb cb]).run P w=.ok (.bool false) w:=by
 have hnb:(a.block != b.block)=true:=by simpa using d7
 have hnb':(a.block==b.block)=false:=by simpa using d7
 change Sem.run P (α:=Value) (do
  let some t:=(#[tS,tS]:Array TypeId)[0]?|stuck "slices.overlaps: no parameter types"
  let .slice elem <-underlying t|stuck "slices.overlaps: slice type expected"
  let size <-sizeOf elem
  match(some a:Option Addr),(some b:Option Addr)with
  |some a,some b=>
   if la=0∨lb=0∨size=0 then pure (Value.bool false)
   else if a.block != b.block&&(<-frozen a)&&(<-frozen b)then unsupported .addressObserved
   else do
    if a.block != b.block then do
     noView a;noView b
     if <-mayBeOne a b then return Value.bool ((<-choose (.extern "sameAddr.stringBytes" 2))==1)
    pure (Value.bool (a.block==b.block&&a.off<b.off+lb*size&&b.off<a.off+la*size))
  |_,_=>pure (Value.bool false)) w=_
 by_cases h0:la=0∨lb=0∨size=0
 .simp[run_underlying ht,hz,h0]
 .cases kA with
  |zero=>exact absurd rfl hkA
  |succ kA=>
   cases hA:w.frozen? a<;>cases mq:w.frozen? {block:=a.block,off:=kA+1}<;>
    simp[run_underlying ht,hz,h0,hnb,hnb',frozen,noView,viewAt,mayBeOne,stringish,shape,Sem.run,hsa,hsb,dt,hfe,hA,mq]
section
variable {E : Env} {rd : Option Nat} {N : Nat} {ops : Array Oper} {K : AS → Prop} {s : AS} {rest : List Oper} {d : Option Tmp} {T : TypeId} {p : String} {af : Array Edge}
theorem qse{x:Operand}{t0 e:TypeId}{ts:Array TypeId}{o ver off len cap:Nat}(hx:qg N s x=.os o ver off len cap)(ht:ts[0]?=some t0)(hu:E.P.underlying t0=some (.slice e))
  (h:AOps E rd N ops rest K (s.put d (Iv cap))):AOps E rd N ops (⟨d,.call ⟨.builtin .cap,#[x],ts⟩,T,p,af,none⟩::rest) K s:=by
 refine qv rfl (qu nofun λB0 w0 G a w _ hI=>?_);have he:=hI.eval_of hx;generalize hv:a.eval x=v at he
 cases he with
 |os _ _ _ _ b _ hn hvr hb=>
  refine⟨_,w,G,_,s.st,?_,.refl G,hI.agree,.v _,h⟩;generalize a.eval=ρ at hv⊢;simp[execOp,resolve,invoke,builtin,hv,Builtin.cap_,ht,run_underlying hu,goInt]
theorem qqr{x y:Operand}{t u T':TypeId}{kn:IntKind}{sz bytes o ver n cap k:Nat}{cs:List AV}(hx:qg N s x=.os o ver 0 n cap)(hy:qg N s y=Iv (k:Nat))(ho:s.st[o]?=some (.cells ver T' cs))
  (ht:E.P.underlying t=some (.slice T')) (hu:E.P.underlying u=some (.int kn)) (hT:yr E.P T' sz bytes) (s4:cap<n+k) (hk:0<k) (o9:0<sz) (o7:n*sz<=cs.length) (cj:n+k<=maxLen) (hb:(n+k)*bytes<=140737488355328)
  (h:∀cap'(zs:List AV),zs.length=(cap'-n)*sz->n+k<=cap'->cap'<=maxLen->AOps E rd N ops rest K (AS.put ⟨s.t,s.st++[.cells 0 T' (cs.take (n*sz)++zs)],s.df⟩ d (.os s.st.length 0 0 (n+k) cap'))):AOps E rd N ops (⟨d,.call ⟨.builtin .append,#[x,y],#[t,u]⟩,T,p,af,none⟩::rest) K s:=by
 refine qv rfl (qu nofun λB0 w0 G a0 w _ hI=>?_);obtain⟨i,z,hi,hz,rfl,rfl,pf⟩:=hT.ex;have hyv:=hI.evalv hy;have hv:=hI.eval_of hx;generalize dx:a0.eval x=v at hv;obtain⟨g0,g1,g2,g3,c,g4,g5,g6⟩:=hI.agree.ob o _ ho
 cases hv with
 |os _ _ _ _ b _ hn hv rk=>
  have rk:=rk g1;subst rk
  have e9:(Builtin.firstCells i.size n (.slice (some ⟨(G.ob o).blk,0,none⟩) n cap)).run E.P w.drew=.ok (c.toList.take (n*i.size)).toArray w.drew:=by
   refine run_firstCells_some w.drew i.size n ⟨(G.ob o).blk,0,none⟩ n cap _ So λj y hy=>?_;have e1':w.drew.heap[(G.ob o).blk]?=some (.cells c T' (0,0)):=g4;rw[Addr.add_lit];rw[Qv]at hy;split at hy
   .simp only[Za]at hy
    simp[World.cell?,e1',hy]
   .simp at hy
  have hkb:k*i.bytes<=(n+k)*i.bytes:=Zb _ Om;have a8:=Lib.run_append_grow_zeros w t u T T' i z .i64 kn ht hu hi hz (some ⟨(G.ob o).blk,0,none⟩) n cap _ e9 k hk o9 s4 (by simp only[maxLen]at cj;omega) Om (growslice_fits Om hb);have mz:=grownCap_ge w (n+k) cap T';have d8:=grownCap_le_maxLen w (n+k) cap T' cj;generalize grownCap w (n+k) cap T'=cap' at a8 mz d8;have hzl:(Builtin.zeroCells z.cells k).size=k*i.size:=by rw[size_zeroCells,pf]
  have hzl2:(Builtin.zeroCells z.cells (cap'-(n+k))).size=(cap'-(n+k))*i.size:=by rw[size_zeroCells,pf]
  generalize Builtin.zeroCells z.cells k=zc at a8 hzl;generalize Builtin.zeroCells z.cells (cap'-(n+k))=zd at a8 hzl2;have cq:Below w.heap.size w w.drew:=⟨rfl,rfl,rfl,Qg _,λ_ _=>rfl⟩
  have e1:∀(j:Nat)(a:AV)(b:Value),(cs.take (n*i.size))[j]?=some a->(c.toList.take (n*i.size))[j]?=some b->Rel G a b:=λj a b h1 h2=>by
   rw[Qv]at h1 h2;split at h1
   .rename_i hj
    rw[if_pos hj]at h2;exact g6 j a b h1 (by simpa using h2)
   .simp at h1
  have hr:=qaq (G:=G) (cs:=cs.take (n*i.size)) (ds:=(zc.toList++zd.toList).map AV.v) (vs:=c.toList.take (n*i.size)) (us:=zc.toList++zd.toList) So e1 (λj a b h1 h2=>by
   rw[Qq,h2]at h1;simp at h1;subst h1
   exact .v _)
  have hA:=(hI.agree.fresh cq).newCells T' ((c.toList.take (n*i.size)).toArray++zc++zd) (cs.take (n*i.size)++(zc.toList++zd.toList).map AV.v) So (λj a b q1 q2=>hr j a b q1 (by rw[<-q2];simp[<-Za]));have hn:=hI.agree.n;refine⟨_,_,_,_,_,?_,G.le_new _ _ _ _,hA,.os _ _ _ _ _ _ (by simp[Gh.new,hn]) (Qy _) (λ_=>by simp[Gh.new,hn];rfl),h cap' _ ?_ mz d8⟩
  .generalize a0.eval=ρ at a8 dx hyv⊢
   simp[execOp,resolve,invoke,builtin,dx,hyv,a8]
  .have h1:zc.toList.length=k*i.size:=by rw[<-hzl];simp
   have h2:zd.toList.length=(cap'-(n+k))*i.size:=by rw[<-hzl2];simp
   rw[Zc,Zf,h1,h2,<-Zd];congr 1;omega
theorem qxi{f:FuncId}{x y:Operand}{ts:Array TypeId}{T':TypeId}{sz o ver off n c:Nat}{xs cs:List AV}{tip:Option Nat}(hx:qg N s x=.sl sz xs tip)(hy:qg N s y=.os o ver off n c)(ho:s.st[o]?=some (.cells ver T' cs))(rf:flat xs≠[])
  (a8:∀(w:World)(a b:Addr)(la ca lb cb:Nat)(tA tB:TypeId)(kA kB:Nat),a.block≠b.block->w.shape? a.block=some (tA,kA)->w.shape? b.block=some (tB,kB)->kA≠0->w.frozen? b=false->w.frozen? {block:=b.block,off:=kB}=false->(callFunc f #[.slice (some a) la ca,.slice (some b) lb cb]).run E.P w=.ok (.value (.bool false)) w)
  (h:AOps E rd N ops rest K (s.put d (Bv false))):AOps E rd N ops (⟨d,.call ⟨.value (.func f),#[x,y],ts⟩,T,p,af,none⟩::rest) K s:=by
 refine qv rfl (qu nofun λB0 w0 G a w _ hI=>?_);have h1:=hI.eval_of hx;have h2:=hI.eval_of hy;generalize sq:a.eval x=v at h1;generalize hvy:a.eval y=u at h2;obtain⟨g0,g1,g2,g3,cc,g4,g5,g6⟩:=hI.agree.ob o _ ho
 cases h1 with
 |sl0=>exact absurd rfl rf
 |sl _ _ _ b off2 cap pub hp hw b9 hr hto hcap0=>
  cases h2 with
  |os _ _ _ _ b2 _ hn hv hb=>
   have hb:=hb g1;subst hb;obtain⟨c2,T2,fz,q1,q2⟩:=hI.agree.pub b pub hp;have d7:b≠(G.ob o).blk:=λe=>by rw[e,g3]at hp;simp at hp
   have hc2:c2.size≠0:=λe=>by
    have h0:0<(flat xs).length:=Zp.2 rf;have h3:pub[off2]?=some pub[off2]:=Qf Om;have:=q2 off2 _ h3;rw[Zl Om]at this;simp at this
   have hq:=a8 w ⟨b,off2,none⟩ ⟨(G.ob o).blk,off,none⟩ xs.length cap n c T2 T' c2.size cc.size d7 (by simp[World.shape?,q1]) (by simp[World.shape?,g4]) hc2 (by simp[World.frozen?,g4]) (by simp[World.frozen?,g4]);refine⟨_,w,G,_,s.st,?_,.refl G,hI.agree,.v _,h⟩;have he:a.eval (.func f)=.func (.func f) #[] #[]:=rfl;generalize a.eval=ρ at he sq hvy⊢;simp[execOp,resolve,Deferred.ofValue,he,invoke,sq,hvy,hq]
theorem qyi{x y:Operand}{t e:TypeId}{sz:Nat}{agg:Bool}{c:AV}(hx:qg N s x=c)(hc:∀(G:Gh)(v:Value),Rel G c v->∃base,v=.slice base 0 0)(hu:E.P.underlying t=some (.slice e))(ht:tyOf E.P e=some (sz,agg))(hy:∃k,qg N s y=.v (.int k 0))
  (h:AOps E rd N ops rest K (s.put d c)):AOps E rd N ops (⟨d,.slice t x (some y) none none,T,p,af,none⟩::rest) K s:=by
 refine qv rfl (qu nofun λB0 w0 G a w _ hI=>?_);have he:=hI.eval_of hx;obtain⟨base,hv⟩:=hc _ _ he;have a8:=qt7 hu ht base 0 0 (some (a.eval y)) none none 0 0 0 w (by obtain⟨k,hy⟩:=hy;exact⟨k,hI.evalv hy⟩) ⟨rfl,rfl⟩ rfl (Qg _) (Qg _) (Qg _);refine⟨.slice base 0 0,w,G,c,s.st,?_,.refl G,hI.agree,by rw[<-hv];exact he,h⟩;generalize a.eval=ρ at hv a8⊢;simp only[execOp,hv];simp[Instr.sliceAt,run_underlying hu,a8]
theorem qsi{l:List Oper}(L:List (Nat×AV))(st':List AObj)(df':List Nat)(h:HasL s.t L)(d9:s.st=st')(i5:s.df=df')(k:∀t,AOps E rd N ops l K ⟨puts t L,st',df'⟩):AOps E rd N ops l K s:=by
 have:=k s.t;rw[qi2 h,<-d9,<-i5]at this;exact this
end
end Go.Av
namespace Go.Av
open Go Go.RowKit
def qfj(o:Oper):Bool:=match o.op with
 |.defer _=>false
 |_=>true
theorem qtq{o:Oper}(h:qfj o=true):∀c,o.op≠.defer c:=λc e=>by
 unfold qfj at h;rw[e]at h;simp at h
theorem zat{P:Program}{ops:Array Oper}{Q:Exit->Act->World->Prop}{l i:Nat}{K:Act->World->Prop}{a:Act}{w:World}(bv:∀o,ops[i]?=some o->qfj o=true)(h:wpOpIn (fw none) 0 P ops Q i K a w):wpOpIn (fw (some l)) 0 P ops Q i K a w:=by
 unfold wpOpIn at *
 cases ho:ops[i]?with
 |none=>simp only[ho]at h⊢;exact h
 |some o=>
  simp only[ho]at h⊢;split
  .rename_i hw
   rw[if_pos hw]at h;unfold Oper.wpIn at *;rw[qfb (rd:=none) (qtq (bv o ho))]at h;rw[qfb (rd:=some l) (qtq (bv o ho))];exact h
  .rename_i hw
   rw[if_neg hw]at h;exact h
theorem quj{P:Program}{ops:Array Oper}{Q:Exit->Act->World->Prop}{l:Nat}{md:Region.Mode}(bv:ops.all qfj=true):∀(fuel:Nat)(listed:Array Bool)(a:Act)(w:World),wpAnyIn (fw none) 0 P md ops Q fuel listed a w->wpAnyIn (fw (some l)) 0 P md ops Q fuel listed a w
 |0,_,_,_,h=>h
 |fuel+1,listed,a,w,h=>⟨h.1,λi hi=>zat (λo ho=>by
   rw[Array.all_eq_true]at bv;obtain⟨h1,h2⟩:=Array.getElem?_eq_some_iff.1 ho;rw[<-h2]
   exact bv i h1) (wpOpIn_mono (λa w=>quj bv fuel _ a w) (h.2 i hi))⟩
theorem q4x{E:Env}{rd:Option Nat}{N:Nat}{ops:Array Oper}{s:AS}{id:Nat}{Q:Exit->AS->Prop}{n:Nat}(hm:E.P.follows .mixedOrders=true)(hd:ops.all qfj=true)(hn:ops.size=n)(h:AZ E N ops n (Zz n false) (Q .normal) s):AWp E rd N (.region id ops true) Q s:=by
 cases rd with
 |none=>exact qj8 hm hn h
 |some l=>
  subst hn;refine⟨λB0 w0 G a w hL hI=>?_⟩;have hBl:Below w.heap.size w {w with drawn:=w.drawn+1}:=⟨rfl,rfl,rfl,Qg _,λ_ _=>rfl⟩;have rv:Inv B0 w0 N G s a {w with drawn:=w.drawn+1}:=⟨hI.agree.fresh hBl,hI.defers,hI.size,hI.tmps⟩;have:=h.run B0 w0 G a _ hL rv (λa' w'=>∃(G':Gh)(s':AS),G.le G'∧Inv B0 w0 N G' s' a' w'∧Q .normal s') λG' s' a' w' hG u6 hk=>⟨G',s',hG,u6,hk⟩;refine wpIn_mono (wpIn_region_any hm (quj hd _ _ _ _ this)) λe a' w' hq=>?_
  cases e with
  |normal=>exact hq
  |_=>exact hq.elim
def qdc(o:Oper):List Nat:=(o.after.toList.filter λe=>Region.binds .any e).map (·.on)
def addL(L:Nat->Bool)(i:Nat):Nat->Bool:=λk=>Qc k i||L k
def qhi:Nat->List Oper->Bool
 |_,[]=>true
 |i,o::r=>(qdc o).all (λj=>Qk j i)&&qhi (i+1) r
def qno(E:Env)(N:Nat)(ops:Array Oper)(J:(Nat->Bool)->AS->Prop):Nat->List Oper->Prop
 |_,[]=>True
 |i,o::r=>(∀L s,L i=false->(∀j,(qdc o).contains j=true->L j=true)->J L s->AOps E none N ops [o] (J (addL L i)) s)∧qno E N ops J (i+1) r
theorem quc{E:Env}{N:Nat}{ops:Array Oper}{J:(Nat->Bool)->AS->Prop}:∀{l:List Oper}{i0 k:Nat}{o:Oper},qno E N ops J i0 l->l[k]?=some o->
  ∀L s,L (i0+k)=false->(∀j,(qdc o).contains j=true->L j=true)->J L s->AOps E none N ops [o] (J (addL L (i0+k))) s
 | [],_,_,_,_,h=>by simp at h
 |o'::r,i0,0,o,hs,h=>by
  simp only[Qr,Qa]at h;subst h
  exact hs.1
 |o'::r,i0,k+1,o,hs,h=>by
  have:=quc hs.2 (by simpa using h);rw[show i0+1+k=i0+(k+1)by omega]at this;exact this
theorem qs5:∀{l:List Oper}{i0 k:Nat}{o:Oper},qhi i0 l=true->l[k]?=some o->∀j∈qdc o,j<i0+k
 | [],_,_,_,_,h=>by simp at h
 |o'::r,i0,0,o,hs,h=>by
  simp only[Qr,Qa]at h;subst h;simp only[qhi,Qe]at hs;intro j hj;have:=Qn.1 hs.1 j hj
  simpa[Xa]using this
 |o'::r,i0,k+1,o,hs,h=>by
  simp only[qhi,Qe]at hs;have:=qs5 hs.2 (show r[k]?=some o by simpa using h);intro j hj;have:=this j hj;omega
def lof(listed:Array Bool):Nat->Bool:=λk=>listed.getD k false
theorem zfs{listed:Array Bool}{i:Nat}(hi:i<listed.size):lof (listed.setIfInBounds i true)=addL (lof listed) i:=by
 funext k;unfold lof addL;by_cases h:k=i
 .subst h
  simp[Zh,hi]
 .have hb:Qc k i=false:=zq h
  rw[hb,Qz];simp only[Zg,Array.getElem?_setIfInBounds];rw[if_neg (λe=>h e.symm)]
theorem qvz:∀{l:List Bool}{i:Nat},l[i]?=some false->(l.set i true).count false+1=l.count false
 | [],_,h=>by simp at h
 |b::l,0,h=>by
  simp only[Qr,Qa]at h;subst h
  simp
 |b::l,i+1,h=>by
  have:=qvz (l:=l) (i:=i) (by simpa using h);rw[List.set_cons_succ,Xb,Xb];omega
theorem qou{l:List Oper}{listed:Array Bool}{i:Nat}:i∈Region.ready .any l.toArray listed↔listed.getD i true=false∧∃o,l[i]?=some o∧∀j∈qdc o,lof listed j=true:=by
 unfold Region.ready;simp only[Zj,Xc,Qe,Zx,Zw,List.getElem?_toArray];constructor
 .rintro⟨h1,h2,h3⟩
  refine⟨h2,l[i],Qf h1,λj hj=>?_⟩;rw[Qf h1]at h3;simp only[Qt,Zy]at h3;unfold qdc at hj;obtain⟨e,he,rfl⟩:=Zq.1 hj;obtain⟨he1,he2⟩:=Zj.1 he;have:=Zr.1 h3 e (by simpa using he1);rw[he2]at this
  simpa[lof]using this
 .rintro⟨h2,o,ho,h3⟩
  refine⟨lt_of_getElem? ho,h2,?_⟩;rw[ho];simp only[Qt,Zy];rw[Zr];intro e he
  cases hb:Region.binds .any e with
  |false=>rfl
  |true=>
   have:=h3 e.on (by
    unfold qdc
    exact Zq.2 ⟨e,Zj.2 ⟨by simpa using he,hb⟩,rfl⟩)
   simpa[lof]using this
theorem qx6{P:Nat->Prop}:∀{l:List Nat},(∀i∈l,P i)->qxv P l
 | [],_=>trivial
 |i::r,h=>⟨h i Sx,qx6 λj hj=>h j (by simp[hj])⟩
theorem AOps.mono'{E:Env}{rd:Option Nat}{N:Nat}{ops:Array Oper}{K K':AS->Prop}{s:AS}{l:List Oper}(h:AOps E rd N ops l K' s)(hk:∀s,K' s->K s):AOps E rd N ops l K s:=
 ⟨λB0 w0 G a w hL hI Q hQ=>h.run B0 w0 G a w hL hI Q λG' s' a' w' hG u6 hK=>hQ G' s' a' w' hG u6 (hk _ hK)⟩
theorem az_J{E:Env}{N:Nat}{l:List Oper}{J:(Nat->Bool)->AS->Prop}{K:AS->Prop}(hd:qhi 0 l=true)(hs:qno E N l.toArray J 0 l)(pj:∀L s,(∀i,i<l.length->L i=true)->J L s->K s):
  ∀(fuel:Nat)(listed:Array Bool)(s:AS),listed.size=l.length->listed.toList.count false<=fuel->J (lof listed) s->AZ E N l.toArray fuel listed K s:=by
 intro fuel
 induction fuel with
 |zero=>
  intro listed s o9 hc hJ
  have i6:∀i,i<l.length->lof listed i=true:=λi hi=>by
   have h0:listed.toList.count false=0:=Om
   have sc:i<listed.size:=Om
   have cz:lof listed i=listed[i]:=by simp[lof,sc]
   rw[cz]
   cases hb:listed[i]with
   |true=>rfl
   |false=>exact absurd (by rw[<-hb];simp) (List.count_eq_zero.1 h0)
  have hr:Region.ready .any l.toArray listed=[]:=by
   rw[List.eq_nil_iff_forall_not_mem];intro i hi;obtain⟨h1,o,ho,_⟩:=qou.1 hi;have sc:=lt_of_getElem? ho;have:=i6 i sc;unfold lof at this;have mc:i<listed.size:=Om
   simp only[Zh,mc,dite_true]at this h1;rw[this]at h1;simp at h1
  exact qc4 hr (pj _ s i6 hJ)
 |succ fuel ih=>
  intro listed s o9 hc hJ;by_cases hr:Region.ready .any l.toArray listed=[]
  .refine qc4 hr (pj _ s (λi=>?_) hJ)
   induction i using Nat.strongRecOn with
   |_ i ihi=>
    intro hi
    cases hb:lof listed i with
    |true=>rfl
    |false=>
     exfalso
     have hm:i∈Region.ready .any l.toArray listed:=by
      refine qou.2 ⟨?_,l[i],Qf hi,λj hj=>?_⟩
      .have mc:i<listed.size:=by omega
       unfold lof at hb;simp only[Zh,mc,dite_true]at hb⊢;exact hb
      .have:=qs5 hd (Qf hi) j hj
       exact ihi j Om Om
     rw[hr]at hm;simp at hm
  .refine w8 _ rfl ?_ (qx6 λi hi=>?_)
   .cases h:Region.ready .any l.toArray listed with
    |nil=>exact absurd h hr
    |cons a r=>rfl
   .obtain⟨h1,o,ho,h3⟩:=qou.1 hi
    have hil:=lt_of_getElem? ho;have mc:i<listed.size:=Om
    refine⟨o,by simpa using ho,?_⟩
    have hl:lof listed i=false:=by
     unfold lof;simp only[Zh,mc,dite_true]at h1⊢;exact h1
    have:=quc hs ho (lof listed) s (by rw[Qu];exact hl) (λj hj=>h3 j (by simpa using hj)) hJ;rw[Qu]at this;refine this.mono' λs' hJ'=>ih _ s' (by simpa using o9) ?_ (by rw[zfs mc];exact hJ')
    have hg:listed.toList[i]?=some false:=by
     have:listed[i]=false:=by
      simp only[Zh,mc,dite_true]at h1;exact h1
     simp[mc,this]
    have:=qvz hg;rw[Array.toList_setIfInBounds];omega
theorem q7d{E:Env}{rd:Option Nat}{N:Nat}{s:AS}{id:Nat}{l:List Oper}{Q:Exit->AS->Prop}(hm:E.P.follows .mixedOrders=true)(bv:l.toArray.all qfj=true)(hd:qhi 0 l=true)(J:(Nat->Bool)->AS->Prop)
  (h0:J (λ_=>false) s) (pj:∀L s,(∀i,i<l.length->L i=true)->J L s->Q .normal s) (hs:qno E N l.toArray J 0 l):AWp E rd N (.region id l.toArray true) Q s:=by
 refine q4x hm bv (n:=l.length) Sx (az_J hd hs pj _ _ _ Sx ?_ ?_)
 .simp only[Array.toList_replicate,List.count_replicate]
  split <;>omega
 .have:lof (Zz l.length false)=λ_=>false:=by
   funext k;unfold lof;simp only[Zg,Array.getElem?_replicate];split <;>rfl
  rw[this];exact h0
inductive SV where
 |a (x:AV)
 |i (n:Int)
 |s (l:List UInt8)
 |tt
 |ff
 |b (c:Bool)
 |p (q:Prop) (h:Decidable q)
 |bx (k off:Nat)
 |tp (k:Nat)
 |ag (cs:List SV)
 |tu (cs:List SV)
 |fn (f:Fn) (xs ys:List SV)
 |ifc (t:TypeId) (x:SV)
def bxAt:AV->Nat->AV
 |.bx o v _,off=>.bx o v off
 |.os o v _ _ _,off=>.bx o v off
 |_,off=>.bx 0 0 off
def tpAt(x:AV):AV:=bif x.one then x else Bv false
mutual
def SV.ev(ρ:Nat->AV):SV->AV
 |.a x=>x
 |.i n=>Iv n
 |.s l=>Sv l
 |.tt=>Bv true
 |.ff=>Bv false
 |.b c=>Bv c
 |.p q h=>Bv (@decide q h)
 |.bx k off=>bxAt (ρ k) off
 |.tp k=>tpAt (ρ k)
 |.ag cs=>.ag (SV.evs ρ cs)
 |.tu cs=>.tu (SV.evs ρ cs)
 |.fn f xs ys=>.fn f (SV.evs ρ xs) (SV.evs ρ ys)
 |.ifc t x=>.ifc t (SV.ev ρ x)
def SV.evs(ρ:Nat->AV):List SV->List AV
 | []=>[]
 |x::r=>SV.ev ρ x::SV.evs ρ r
end
mutual
def SV.all(f:Nat->Bool):SV->Bool
 |.bx k _=>f k
 |.tp k=>f k
 |.ag cs=>SV.alls f cs
 |.tu cs=>SV.alls f cs
 |.fn _ xs ys=>SV.alls f xs&&SV.alls f ys
 |.ifc _ x=>SV.all f x
 |_=>true
def SV.alls(f:Nat->Bool):List SV->Bool
 | []=>true
 |x::r=>SV.all f x&&SV.alls f r
end
theorem zw(ρ:Nat->AV):∀l:List SV,SV.evs ρ l=l.map (SV.ev ρ)
 | []=>rfl
 |x::r=>by rw[SV.evs,zw ρ r];rfl
mutual
theorem xe{f:Nat->Bool}{ρ ρ':Nat->AV}(h:∀k,f k=true->ρ' k=ρ k):∀v:SV,v.all f=true->v.ev ρ'=v.ev ρ
 |.a _,_=>rfl
 |.i _,_=>rfl
 |.s _,_=>rfl
 |.tt,_=>rfl
 |.ff,_=>rfl
 |.b _,_=>rfl
 |.p _ _,_=>rfl
 |.bx k off,hv=>by simp only[SV.all]at hv;simp only[SV.ev,h k hv]
 |.tp k,hv=>by simp only[SV.all]at hv;simp only[SV.ev,h k hv]
 |.ag cs,hv=>by simp only[SV.all]at hv;simp only[SV.ev,wy h cs hv]
 |.tu cs,hv=>by simp only[SV.all]at hv;simp only[SV.ev,wy h cs hv]
 |.fn f xs ys,hv=>by simp only[SV.all,Qe]at hv;simp only[SV.ev,wy h xs hv.1,wy h ys hv.2]
 |.ifc t x,hv=>by simp only[SV.all]at hv;simp only[SV.ev,xe h x hv]
theorem wy{f:Nat->Bool}{ρ ρ':Nat->AV}(h:∀k,f k=true->ρ' k=ρ k):∀l:List SV,SV.alls f l=true->SV.evs ρ' l=SV.evs ρ l
 | [],_=>rfl
 |x::r,hv=>by simp only[SV.alls,Qe]at hv;simp only[SV.evs,xe h x hv.1,wy h r hv.2]
end
mutual
theorem all_mono{f g:Nat->Bool}(h:∀k,f k=true->g k=true):∀v:SV,v.all f=true->v.all g=true
 |.a _,_=>rfl
 |.i _,_=>rfl
 |.s _,_=>rfl
 |.tt,_=>rfl
 |.ff,_=>rfl
 |.b _,_=>rfl
 |.p _ _,_=>rfl
 |.bx k off,hv=>h k hv
 |.tp k,hv=>h k hv
 |.ag cs,hv=>qcd h cs hv
 |.tu cs,hv=>qcd h cs hv
 |.fn f xs ys,hv=>by simp only[SV.all,Qe]at hv⊢;exact⟨qcd h xs hv.1,qcd h ys hv.2⟩
 |.ifc t x,hv=>all_mono h x hv
theorem qcd{f g:Nat->Bool}(h:∀k,f k=true->g k=true):∀l:List SV,SV.alls f l=true->SV.alls g l=true
 | [],_=>rfl
 |x::r,hv=>by simp only[SV.alls,Qe]at hv⊢;exact⟨all_mono h x hv.1,qcd h r hv.2⟩
end
mutual
def qr:AV->List Nat
 |.bx o _ _=>[o]
 |.sl _ _ (some t)=>[t]
 |.os o _ _ _ (_+1)=>[o]
 |.mp o=>[o]
 |.ag cs=>jn cs
 |_=>[]
def jn:List AV->List Nat
 | []=>[]
 |c::r=>qr c++jn r
end
structure Clu where
 ok:List AObj->AV->List AV->Prop
 lt:∀S c l,ok S c l->∀o,o∈qr c->o<S.length
 nd:∀S c l,ok S c l->∀o,o∈qr c->S[o]?≠some .dfr
 st:∀S S' c l,ok S c l->(∀o,o∈qr c->S'[o]?=S[o]?)->ok S' c l
inductive SR where
 |cells (T:TypeId) (cs:List SV)
 |tip (sz:Nat) (T:TypeId) (xs:List AV)
 |own (sz:Nat) (T:TypeId) (xs:List AV)
 |obj (P:AObj->AV->Prop)
  |rows (T:TypeId) (ys:List AV) (cs:List SV)
 |clu (P:Clu) (vs:List SV)
def SR.all(f:Nat->Bool):SR->Bool
 |.cells _ cs=>SV.alls f cs
 |.tip _ _ _=>true
 |.own _ _ _=>true
 |.obj _=>true
 |.rows _ _ cs=>SV.alls f cs
 |.clu _ vs=>SV.alls f vs
structure qcv (c:AV):Prop where
 val:∀(G:Gh)(v:Value),Rel G c v->∃base,v=.slice base 0 0
 one:c.one=true
 len:lenA c=some 0
 bx:∀(o ver off len cap:Nat),c≠.os o ver off len (cap+1)
 nb:∀(o ver off:Nat),c≠.bx o ver off
 ns:∀(sz:Nat)(xs:List AV)(t:Nat),c≠.sl sz xs (some t)
 na:∀cs:List AV,c≠.ag cs
theorem qrh(base:Option Addr):qcv (.v (.slice base 0 0)):=⟨λG v h=>by cases h;exact⟨base,rfl⟩,rfl,rfl,Sx,Sx,Sx,Sx⟩
theorem qon(o v f:Nat):qcv (.os o v f 0 0):=⟨λG v h=>by cases h;exact⟨_,rfl⟩,rfl,rfl,Sx,Sx,Sx,Sx⟩
def OwnS(S:List AObj)(sz:Nat)(T:TypeId)(xs:List AV)(c:AV):Prop:=
 (xs=[]∧qcv c)∨∃o ver cap pad,c=.os o ver 0 xs.length (cap+1)∧S[o]?=some (.cells ver T (flat xs++pad))∧(flat xs++pad).length=(cap+1)*sz∧(∀x∈xs,x.cells.length=sz)∧xs.length<=cap+1∧cap+1<=maxLen
def SR.ok(ρ:Nat->AV)(S:List AObj)(c:AV):SR->Prop
 |.cells T cs=>∃o v,c=.bx o v 0∧S[o]?=some (.cells v T (SV.evs ρ cs))∧v=0
 |.tip sz T xs=>TipO 0 S sz T xs c
 |.own sz T xs=>OwnS S sz T xs c
 |.obj P=>∃o x,qr c=[o]∧S[o]?=some x∧x≠.dfr∧P x c
 |.rows T ys cs=>OwnS S 1 T (ys++SV.evs ρ cs) c
 |.clu P vs=>P.ok S c (SV.evs ρ vs)
theorem SR.all_mono{f g:Nat->Bool}(h:∀k,f k=true->g k=true):∀r:SR,r.all f=true->r.all g=true
 |.cells _ cs,hr=>qcd h cs hr
 |.tip _ _ _,_=>rfl
 |.own _ _ _,_=>rfl
 |.obj _,_=>rfl
 |.rows _ _ cs,hr=>qcd h cs hr
 |.clu _ vs,hr=>qcd h vs hr
theorem qcv.nm{o:Nat}(h:qcv (.mp o)):False:=by
 obtain⟨_,e⟩:=h.val ⟨λ_=>none,λ_=>⟨0,0,0,true⟩,o+1⟩ (.map (some 0)) (.mp _ _ (Nat.lt_succ_self _) rfl rfl)
 cases e
theorem OwnS.loc{S:List AObj}{sz:Nat}{T:TypeId}{xs:List AV}{c:AV}(h:OwnS S sz T xs c){o:Nat}(ho:o∈qr c):∃ver cap pad,c=.os o ver 0 xs.length (cap+1)∧S[o]?=some (.cells ver T (flat xs++pad))∧(flat xs++pad).length=(cap+1)*sz∧(∀x∈xs,x.cells.length=sz)∧xs.length<=cap+1∧cap+1<=maxLen:=by
 rcases h with⟨_,h⟩|⟨o',ver,cap,pad,rfl,h⟩
 .unfold qr at ho
  split at ho
  .exact absurd rfl (h.nb _ _ _)
  .exact absurd rfl (h.ns _ _ _)
  .exact absurd rfl (h.bx _ _ _ _ _)
  .exact h.nm.elim
  .exact absurd rfl (h.na _)
  .simp at ho
 .simp only[qr,Qb]at ho
  subst ho;exact⟨ver,cap,pad,rfl,h⟩
theorem qcv.loc{c:AV}(h:qcv c):qr c=[]:=by
 unfold qr;split
 .exact absurd rfl (h.nb _ _ _)
 .exact absurd rfl (h.ns _ _ _)
 .exact absurd rfl (h.bx _ _ _ _ _)
 .exact h.nm.elim
 .exact absurd rfl (h.na _)
 .rfl
theorem qcv.wk{c:AV}(h:qcv c)(sz:Nat):∀(G:Gh)(v:Value),Rel G c v->Rel G (.sl sz [] none) v:=λG v hv=>by
 obtain⟨base,rfl⟩:=h.val G v hv;exact .sl0 sz none _ _ Sx
theorem OwnS.of{S S':List AObj}{sz:Nat}{T:TypeId}{xs:List AV}{c:AV}(h:OwnS S sz T xs c)(hs:∀o,o∈qr c->S'[o]?=S[o]?):OwnS S' sz T xs c:=by
 rcases h with h|⟨o,ver,cap,pad,rfl,h1,h2⟩
 .exact .inl h
 .exact .inr ⟨o,ver,cap,pad,rfl,(hs o (Qb.2 rfl)).trans h1,h2⟩
theorem SR.ok_lt{ρ:Nat->AV}{S:List AObj}{c:AV}{r:SR}(h:r.ok ρ S c){o:Nat}(ho:o∈qr c):o<S.length:=by
 cases r with
 |cells T cs=>
  obtain⟨o',v,rfl,h,_⟩:=h;simp only[qr,Qb]at ho;subst ho
  exact lt_of_getElem? h
 |tip sz T xs=>
  rcases h with(⟨_,rfl⟩|⟨t,rfl,ht,_⟩)|⟨_,o',v,f,rfl⟩
  .simp[qr]at ho
  .simp only[qr,Qb]at ho
   subst ho;exact lt_of_getElem? ht
  .simp[qr]at ho
 |own sz T xs=>
  obtain⟨_,_,_,_,h,_⟩:=OwnS.loc h ho
  exact lt_of_getElem? h
 |obj P=>
  obtain⟨o',x,h1,h2,_⟩:=h;rw[h1,Qb]at ho;subst ho
  exact lt_of_getElem? h2
 |rows T ys cs=>
  obtain⟨_,_,_,_,h,_⟩:=OwnS.loc h ho
  exact lt_of_getElem? h
 |clu P vs=>exact P.lt S c _ h o ho
theorem SR.ok_of{ρ ρ':Nat->AV}{S S':List AObj}{c:AV}{r:SR}{f:Nat->Bool}(hf:r.all f=true)(hr:∀k,f k=true->ρ' k=ρ k)(h:r.ok ρ S c)(hs:∀o,o∈qr c->S'[o]?=S[o]?):r.ok ρ' S' c:=by
 cases r with
 |cells T cs=>
  obtain⟨o,v,rfl,h,h0⟩:=h;refine⟨o,v,rfl,?_,h0⟩;rw[hs o (Qb.2 rfl),wy hr cs hf]
  exact h
 |tip sz T xs=>
  rcases h with(⟨h1,h2⟩|⟨t,rfl,ht,h0⟩)|h
  .exact .inl (.inl ⟨h1,h2⟩)
  .exact .inl (.inr ⟨t,rfl,(hs t (Qb.2 rfl)).trans ht,h0⟩)
  .exact .inr h
 |own sz T xs=>exact OwnS.of h hs
 |obj P=>
  obtain⟨o,x,h1,h2,h3⟩:=h
  exact⟨o,x,h1,(hs o (by rw[h1];simp)).trans h2,h3⟩
 |rows T ys cs=>
  have h2:=OwnS.of (S':=S') (show OwnS S 1 T (ys++SV.evs ρ cs) c from h) hs
  show OwnS S' 1 T (ys++SV.evs ρ' cs) c
  rw[wy hr cs hf]
  exact h2
 |clu P vs=>
  have h2:=P.st S S' c _ h hs
  show P.ok S' c (SV.evs ρ' vs)
  rw[wy hr vs hf];exact h2
structure SatF (S:List AObj) (ρ:Nat->AV) (H:Nat->Option SR):Prop where
 ok:∀k r,H k=some r->r.ok ρ S (ρ k)
 sep:∀k k' r r',k≠k'->H k=some r->H k'=some r'->∀o,o∈qr (ρ k)->o∉qr (ρ k')
def lkS{α:Type}:List (Nat×α)->Nat->Option α
 | [],_=>none
 |(i,v)::r,k=>bif Qc i k then some v else lkS r k
theorem qbu{α:Type}:∀(l r:List (Nat×α))(k:Nat),lkS (l++r) k=match lkS l k with|some v=>some v|none=>lkS r k
 | [],_,_=>rfl
 |(i,v)::l,r,k=>by
  simp only[List.cons_append,lkS]
  cases Qc i k
  .simp only[cond_false];exact qbu l r k
  .rfl
def hpF(hp:List (Nat×Option SR))(k:Nat):Option SR:=match lkS hp k with|some r=>r|none=>none
def chF(ch:List (Nat×Option SR))(H:Nat->Option SR)(k:Nat):Option SR:=match lkS ch k with|some r=>r|none=>H k
theorem qpk(ch hp:List (Nat×Option SR)):hpF (ch++hp)=chF ch (hpF hp):=by
 funext k;unfold hpF chF;rw[qbu]
 cases lkS ch k<;>rfl
def memN(ks:List Nat)(k:Nat):Bool:=ks.any (Qc k)
def resF(ks:List Nat)(H:Nat->Option SR)(k:Nat):Option SR:=bif memN ks k then H k else none
theorem jv{ks:List Nat}{H:Nat->Option SR}{k:Nat}{r:SR}(h:resF ks H k=some r):memN ks k=true∧H k=some r:=by
 unfold resF at h
 cases hm:memN ks k with
 |true=>rw[hm]at h;exact⟨rfl,h⟩
 |false=>rw[hm]at h;simp at h
theorem SatF.res{S:List AObj}{ρ:Nat->AV}{H:Nat->Option SR}(h:SatF S ρ H)(ks:List Nat):SatF S ρ (resF ks H):=
 ⟨λk r hk=>h.ok k r (jv hk).2,λk k' r r' d7 h1 h2=>h.sep k k' r r' d7 (jv h1).2 (jv h2).2⟩
structure Ef where
 val:SV
 ks:List Nat
 ch:List (Nat×Option SR)
 nx:Nat
def Ef.wf(e:Ef)(nx:Nat):Bool:=Ql nx e.nx&&e.val.all (λk=>Qk k e.nx)&&e.ch.all (λp=>Qk p.1 e.nx&&(memN e.ks p.1||Ql nx p.1)&&match p.2 with|some r=>r.all (λk=>Qk k e.nx)|none=>true)
def SlOk(ρ:Nat->AV)(t:Nat->AV)(sl:List (Nat×SV)):Prop:=∀d v,lkS sl d=some v->t d=v.ev ρ
structure qa9 (ρ:Nat->AV) (S:List AObj) (nx:Nat) (H:Nat->Option SR) (e:Ef) (ρ':Nat->AV) (S':List AObj):Prop where
 old:∀k,(k<nx∨e.nx<=k)->ρ' k=ρ k
 sat:SatF S' ρ' (chF e.ch (resF e.ks H))
 len:S.length<=S'.length
 fr:∀j,j<S.length->(∀k r,resF e.ks H k=some r->j∉qr (ρ k))->S'[j]?=S[j]?
 loc:∀k r,chF e.ch (resF e.ks H) k=some r->∀o,o∈qr (ρ' k)->S.length<=o∨∃k' r',resF e.ks H k'=some r'∧o∈qr (ρ k')
def Loc(E:Env)(N:Nat)(ops:Array Oper)(o:Oper)(nx:Nat)(sl:List (Nat×SV))(H:Nat->Option SR)(e:Ef):Prop:=
 ∀(df:List Nat)(rd:Option Nat)(K:AS->Prop)(rest:List Oper)(ρ:Nat->AV)(t:Nat->AV)(S:List AObj),SlOk ρ t sl->SatF S ρ (resF e.ks H)->
  (∀ρ' S',qa9 ρ S nx H e ρ' S'->AOps E rd N ops rest K (AS.put ⟨t,S',df⟩ o.dst (e.val.ev ρ')))->AOps E rd N ops (o::rest) K ⟨t,S,df⟩
structure Conf where
 sl:List (Nat×SV)
 hp:List (Nat×Option SR)
 nx:Nat
def Conf.app(C:Conf)(d:Option Tmp)(e:Ef):Conf:=⟨match d with|some d=>(d,e.val)::C.sl|none=>C.sl,e.ch++C.hp,e.nx⟩
structure SatR (S0:List AObj) (F:Nat->Prop) (C:Conf) (ρ:Nat->AV) (t:Nat->AV) (S:List AObj):Prop where
 sl:SlOk ρ t C.sl
 hp:SatF S ρ (hpF C.hp)
 own:∀k r,hpF C.hp k=some r->∀o,o∈qr (ρ k)->S0.length<=o∨F o
 low:∀j,j<S0.length->¬F j->S[j]?=S0[j]?
 len:S0.length<=S.length
 wsl:∀d v,lkS C.sl d=some v->v.all (λk=>Qk k C.nx)=true
 whp:∀k r,hpF C.hp k=some r->k<C.nx∧r.all (λk=>Qk k C.nx)=true
structure Bs where
 S0:List AObj
 F:Nat->Prop
 ρ0:Nat->AV
 n0:Nat
 dz:Prop
structure Frm (B:Bs) (C:Conf) (ρ:Nat->AV) (df:List Nat) (S:List AObj):Prop where
 dm:∀d∈df,S[d]?=some .dfr∧B.S0.length<=d
 nd:df.Nodup
 rig:∀k,k<B.n0->ρ k=B.ρ0 k
 le:B.n0<=C.nx
 dz:B.dz->df=[]
def SatC(B:Bs)(C:Conf)(s:AS):Prop:=∃ρ,Frm B C ρ s.df s.st∧SatR B.S0 B.F C ρ s.t s.st
theorem SR.ok_dfr{ρ:Nat->AV}{S:List AObj}{c:AV}{r:SR}(h:r.ok ρ S c){o:Nat}(ho:o∈qr c):S[o]?≠some .dfr:=by
 cases r with
 |cells T cs=>
  obtain⟨o',v,rfl,h,_⟩:=h;simp only[qr,Qb]at ho;subst ho;rw[h]
  simp
 |tip sz T xs=>
  rcases h with(⟨_,rfl⟩|⟨t,rfl,ht,_⟩)|⟨_,o',v,f,rfl⟩
  .simp[qr]at ho
  .simp only[qr,Qb]at ho
   subst ho;rw[ht];simp
  .simp[qr]at ho
 |own sz T xs=>
  obtain⟨_,_,_,_,h,_⟩:=OwnS.loc h ho;rw[h]
  simp
 |obj P=>
  obtain⟨o',x,h1,h2,h3,_⟩:=h;rw[h1,Qb]at ho;subst ho;rw[h2]
  simpa using h3
 |rows T ys cs=>
  obtain⟨_,_,_,_,h,_⟩:=OwnS.loc h ho;rw[h]
  simp
 |clu P vs=>exact P.nd S c _ h o ho
theorem jj{a b:Nat}(h:Qk a b=true):a<b:=by simpa[Xa]using h
theorem xd{a b:Nat}(h:a<b):Qk a b=true:=by simpa[Xa]using h
theorem qg0{e:Ef}{nx:Nat}(h:e.wf nx=true):nx<=e.nx∧e.val.all (λk=>Qk k e.nx)=true∧∀p∈e.ch,p.1<e.nx∧(memN e.ks p.1=true∨nx<=p.1)∧∀r,p.2=some r->r.all (λk=>Qk k e.nx)=true:=by
 simp only[Ef.wf,Qe]at h;refine⟨Qm h.1.1,h.1.2,λp hp=>?_⟩;have:=Qn.1 h.2 p hp;simp only[Qe,Bool.or_eq_true]at this;refine⟨jj this.1.1,this.1.2.imp_right Qm,λr hr=>?_⟩;have h3:=this.2;rw[hr]at h3;exact h3
theorem ji{α:Type}:∀{l:List (Nat×α)}{k:Nat}{v:α},lkS l k=some v->(k,v)∈l
 | [],_,_,h=>by simp[lkS]at h
 |(i,x)::r,k,v,h=>by
  unfold lkS at h
  cases hb:Qc i k with
  |true=>
   rw[hb]at h;simp only[cond_true,Qa]at h;have:=Qd hb;subst this;subst h
   simp
  |false=>
   rw[hb]at h;exact List.mem_cons_of_mem _ (ji h)
theorem SatR.stepG{S0:List AObj}{F:Nat->Prop}{C:Conf}{ρ ρ' t:Nat->AV}{S S':List AObj}{e:Ef}{d:Option Tmp}{nx NX:Nat}(h:SatR S0 F C ρ t S)(hN:C.nx<=NX)(w2:e.val.all (λk=>Qk k NX)=true)(w3:∀p∈e.ch,p.1<NX∧∀r,p.2=some r->r.all (λk=>Qk k NX)=true)
  (a1:∀d v,lkS C.sl d=some v->v.all (λk=>Qk k nx||Ql e.nx k)=true) (a2:∀k r,hpF C.hp k=some r->(k<nx∨e.nx<=k)∧r.all (λk=>Qk k nx||Ql e.nx k)=true) (hp:qa9 ρ S nx (hpF C.hp) e ρ' S'):
  SatR S0 F ⟨match d with|some d=>(d,e.val)::C.sl|none=>C.sl,e.ch++C.hp,NX⟩ ρ' (AS.put ⟨t,S',[]⟩ d (e.val.ev ρ')).t S':=by
 have hav:∀k,(Qk k nx||Ql e.nx k)=true->ρ' k=ρ k:=λk hk=>by
  rcases Bool.or_eq_true_iff.1 hk with hk|hk
  .exact hp.old k (.inl (jj hk))
  .exact hp.old k (.inr (Qm hk))
 have fx:∀d v,lkS C.sl d=some v->v.ev ρ'=v.ev ρ:=λd v hd=>xe hav v (a1 d v hd);have hres:∀k r,hpF C.hp k=some r->memN e.ks k=true->resF e.ks (hpF C.hp) k=some r:=λk r h1 h2=>by unfold resF;rw[h2];exact h1
 -- what lies at a name behind the operation
 have key:∀k r,hpF (e.ch++C.hp) k=some r->chF e.ch (resF e.ks (hpF C.hp)) k=some r∨(memN e.ks k=false∧lkS e.ch k=none∧hpF C.hp k=some r):=λk r hk=>by
  rw[qpk]at hk;unfold chF at hk⊢
  cases hl:lkS e.ch k with
  |some x=>rw[hl]at hk;exact .inl hk
  |none=>
   rw[hl]at hk;simp only at hk⊢
   cases hm:memN e.ks k with
   |true=>exact .inl (hres k r hk hm)
   |false=>exact .inr ⟨rfl,trivial,hk⟩
 have d9:∀k r,memN e.ks k=false->hpF C.hp k=some r->∀o,o∈qr (ρ k)->S'[o]?=S[o]?∧o<S.length:=λk r hm hk o ho=>by
  have e8:=SR.ok_lt (h.hp.ok k r hk) ho;refine⟨hp.fr o e8 λk' r' bn=>?_,e8⟩;obtain⟨hm',bn⟩:=jv bn;have d7:k≠k':=λe=>by subst e;rw[hm]at hm';simp at hm'
  exact h.hp.sep k k' r r' d7 hk bn o ho
 have hρ:∀k r,hpF C.hp k=some r->ρ' k=ρ k:=λk r hk=>hp.old k (a2 k r hk).1
 have sepx:∀k k' r r',memN e.ks k=false->hpF C.hp k=some r->chF e.ch (resF e.ks (hpF C.hp)) k'=some r'->∀o,o∈qr (ρ' k)->o∉qr (ρ' k'):=λk k' r r' hm hk bn o ho e7=>by
  rw[hρ k r hk]at ho;obtain⟨_,e8⟩:=d9 k r hm hk o ho;rcases hp.loc k' r' bn o e7 with h1|⟨k2,r2,h2,h3⟩
  .omega
  .obtain⟨rp,gv⟩:=jv h2
   have d7:k≠k2:=λe=>by subst e;rw[hm]at rp;simp at rp
   exact h.hp.sep k k2 r r2 d7 hk gv o ho h3
 refine⟨?_,⟨?_,?_⟩,?_,?_,Qx h.len hp.len,?_,?_⟩
 .cases d with
  |none=>exactλx v hx=>(h.sl x v hx).trans (fx x v hx).symm
  |some d=>
   intro x v hx;simp only[lkS]at hx;by_cases hd:x=d
   .subst hd
    have hb:Qc x x=true:=Sx
    rw[hb]at hx;simp only[cond_true,Qa]at hx;subst hx;exact xh _ _ _
   .rw[zq (λe=>hd e.symm)]at hx
    simp only[cond_false]at hx;exact(qai _ _ _ _ hd).trans ((h.sl x v hx).trans (fx x v hx).symm)
 .intro k r hk
  rcases key k r hk with h1|⟨hm,_,h1⟩
  .exact hp.sat.ok k r h1
  .rw[hρ k r h1]
   exact SR.ok_of (a2 k r h1).2 hav (h.hp.ok k r h1) λo ho=>(d9 k r hm h1 o ho).1
 .intro k k' r r' d7 hk bn o ho
  rcases key k r hk with h1|⟨hm,_,h1⟩
  .rcases key k' r' bn with h2|⟨rp,_,h2⟩
   .exact hp.sat.sep k k' r r' d7 h1 h2 o ho
   .exactλe7=>sepx k' k r' r rp h2 h1 o e7 ho
  .rcases key k' r' bn with h2|⟨rp,_,h2⟩
   .exact sepx k k' r r' hm h1 h2 o ho
   .rw[hρ k r h1]at ho
    rw[hρ k' r' h2];exact h.hp.sep k k' r r' d7 h1 h2 o ho
 .intro k r hk o ho
  rcases key k r hk with h1|⟨hm,_,h1⟩
  .rcases hp.loc k r h1 o ho with h2|⟨k',r',h2,h3⟩
   .exact .inl (Qx h.len h2)
   .exact h.own k' r' (jv h2).2 o h3
  .rw[hρ k r h1]at ho
   exact h.own k r h1 o ho
 .intro j hj hF
  refine(hp.fr j (Zs hj h.len) λk r hk ho=>?_).trans (h.low j hj hF);rcases h.own k r (jv hk).2 j ho with h1|h1
  .omega
  .exact hF h1
 .intro x v hx
  have e9:lkS C.sl x=some v->v.all (λk=>Qk k NX)=true:=λhx=>all_mono (λk hk=>xd (by have:=jj hk;omega)) v (h.wsl x v hx)
  cases d with
  |none=>exact e9 hx
  |some d=>
   simp only[lkS]at hx
   cases hb:Qc d x with
   |true=>
    rw[hb]at hx;simp only[cond_true,Qa]at hx;subst hx
    exact w2
   |false=>
    rw[hb]at hx;exact e9 hx
 .intro k r hk
  have e9:hpF C.hp k=some r->k<NX∧r.all (λk=>Qk k NX)=true:=λhk=>⟨by have:=(h.whp k r hk).1;omega,SR.all_mono (λk hk=>xd (by have:=jj hk;omega)) r (h.whp k r hk).2⟩;rcases key k r hk with h1|⟨_,_,h1⟩
  .unfold chF at h1
   cases hl:lkS e.ch k with
   |some x=>
    rw[hl]at h1;simp only at h1;obtain⟨h2,h3⟩:=w3 _ (ji hl)
    exact⟨h2,h3 r h1⟩
   |none=>
    rw[hl]at h1;exact e9 (jv h1).2
  .exact e9 h1
theorem SatR.step{S0:List AObj}{F:Nat->Prop}{C:Conf}{ρ ρ' t:Nat->AV}{S S':List AObj}{e:Ef}{d:Option Tmp}(h:SatR S0 F C ρ t S)(hw:e.wf C.nx=true)(hp:qa9 ρ S C.nx (hpF C.hp) e ρ' S'):
  SatR S0 F (C.app d e) ρ' (AS.put ⟨t,S',[]⟩ d (e.val.ev ρ')).t S':=by
 obtain⟨w1,w2,w3⟩:=qg0 hw;exact h.stepG w1 w2 (λp hp=>⟨(w3 p hp).1,(w3 p hp).2.2⟩) (λd v hd=>all_mono (λk hk=>by rw[hk];rfl) v (h.wsl d v hd)) (λk r hk=>⟨.inl (h.whp k r hk).1,SR.all_mono (λk hk=>by rw[hk];rfl) r (h.whp k r hk).2⟩) hp
theorem Frm.nx{B:Bs}{C C':Conf}{ρ:Nat->AV}{S:List AObj}{df:List Nat}(h:Frm B C ρ df S)(hn:B.n0<=C'.nx):Frm B C' ρ df S:=⟨h.dm,h.nd,h.rig,hn,h.dz⟩
theorem Frm.stepG{B:Bs}{C C':Conf}{ρ ρ':Nat->AV}{S S':List AObj}{df:List Nat}{e:Ef}{nx:Nat}{H:Nat->Option SR}(h:Frm B C ρ df S)(hS:SatF S ρ H)(hp:qa9 ρ S nx H e ρ' S')(hn:B.n0<=nx)(sf:B.n0<=C'.nx):Frm B C' ρ' df S':=by
 refine⟨λx hx=>?_,h.nd,λk hk=>?_,sf,h.dz⟩
 .have hm:=h.dm x hx
  refine⟨?_,hm.2⟩;rw[hp.fr x (lt_of_getElem? hm.1) λk r hk hl=>?_]
  .exact hm.1
  .exact SR.ok_dfr (hS.ok k r (jv hk).2) hl hm.1
 .rw[hp.old k (.inl (Zs hk hn))]
  exact h.rig k hk
theorem Frm.step{B:Bs}{C:Conf}{ρ ρ':Nat->AV}{S S':List AObj}{df:List Nat}{e:Ef}{d:Option Tmp}(h:Frm B C ρ df S)(hS:SatF S ρ (hpF C.hp))(hw:e.wf C.nx=true)(hp:qa9 ρ S C.nx (hpF C.hp) e ρ' S'):Frm B (C.app d e) ρ' df S':=
 h.stepG hS hp h.le (Qx h.le (qg0 hw).1)
theorem SatR.dead{S0:List AObj}{F:Nat->Prop}{C:Conf}{ρ t:Nat->AV}{S:List AObj}{d:Nat}(h:SatR S0 F C ρ t S)(hd:S[d]?=some .dfr)(hl:S0.length<=d):SatR S0 F C ρ t (S.set d .dead):=by
 refine⟨h.sl,⟨λk r hk=>?_,h.hp.sep⟩,h.own,λj hj hF=>?_,by simpa using h.len,h.wsl,h.whp⟩
 .refine SR.ok_of (f:=λ_=>true) (SR.all_mono (λ_ _=>rfl) r (h.whp k r hk).2) (λ_ _=>rfl) (h.hp.ok k r hk) λo ho=>?_
  have d7:d≠o:=λe=>SR.ok_dfr (h.hp.ok k r hk) ho (e▸hd);rw[Qi d7]
 .rw[Qi Om]
  exact h.low j hj hF
theorem SR.ok_ct{ρ:Nat->AV}{S:List AObj}{c:AV}{r:SR}(h:r.ok ρ S c){o:Nat}(ho:o∈qr c):(∃T cs v,S[o]?=some (.cells v T cs)∧∃T' cs',r=.cells T' cs')∨(∃m sz T,S[o]?=some (.tip m sz T))∨(∃sz T xs,r=.own sz T xs)∨(∃P,r=.obj P)∨(∃T ys cs,r=.rows T ys cs)∨∃P vs,r=.clu P vs:=by
 cases r with
 |cells T cs=>
  obtain⟨o',v,rfl,h,_⟩:=h;simp only[qr,Qb]at ho;subst ho
  exact .inl ⟨_,_,_,h,_,_,rfl⟩
 |tip sz T xs=>
  rcases h with(⟨_,rfl⟩|⟨t,rfl,ht,_⟩)|⟨_,o',v,f,rfl⟩
  .simp[qr]at ho
  .simp only[qr,Qb]at ho
   subst ho;exact .inr (.inl ⟨_,_,_,ht⟩)
  .simp[qr]at ho
 |own sz T xs=>exact .inr (.inr (.inl ⟨_,_,_,rfl⟩))
 |obj P=>exact .inr (.inr (.inr (.inl ⟨_,rfl⟩)))
 |rows T ys cs=>exact .inr (.inr (.inr (.inr (.inl ⟨_,_,_,rfl⟩))))
 |clu P vs=>exact .inr (.inr (.inr (.inr (.inr ⟨_,_,rfl⟩))))
def yh(hp:List (Nat×Option SR))(ρ:Nat->AV)(o:Nat):Prop:=∃k r,hpF hp k=some r∧o∈qr (ρ k)
theorem SatR.rebase{S0:List AObj}{F:Nat->Prop}{C:Conf}{ρ t:Nat->AV}{S S':List AObj}(h:SatR S0 F C ρ t S)(hs:∀o,yh C.hp ρ o->S'[o]?=S[o]?):SatR S' (yh C.hp ρ) C ρ t S':=
 ⟨h.sl,⟨λk r hk=>SR.ok_of (f:=λ_=>true) (SR.all_mono (λ_ _=>rfl) r (h.whp k r hk).2) (λ_ _=>rfl) (h.hp.ok k r hk) λo ho=>hs o ⟨k,r,hk,ho⟩,h.hp.sep⟩,
  λk r hk o ho=>.inr ⟨k,r,hk,ho⟩,λ_ _ _=>rfl,Qg _,h.wsl,h.whp⟩
def Wk(x r:AV):Prop:=∀(G:Gh)(v:Value),Rel G x v->Rel G r v
theorem wx(x:AV):Wk x x:=λ_ _ h=>h
theorem zjc{x y:AV}(h:x=y):Wk x y:=h▸wx x
theorem zdu(sz:Nat)(xs:List AV)(tip:Option Nat):Wk (.sl sz xs tip) (.sl sz xs none):=λ_ _ h=>qov h
theorem q60{xs ys:List AV}(hl:xs.length=ys.length)(h:∀(i:Nat)(x y:AV),xs[i]?=some x->ys[i]?=some y->Wk x y):Wk (.ag xs) (.ag ys):=λG v hr=>by
 cases hr with
 |ag _ vs bq hr=>
  refine .ag _ vs Om λi y b hy hb=>?_;have hi:=lt_of_getElem? hy;have hx:xs[i]?=some (xs[i]'(by omega)):=Qf Om;exact h i _ y hx hy G b (hr i _ b hx hb)
theorem zed{xs ys:List AV}(hl:xs.length=ys.length)(h:∀(i:Nat)(x y:AV),xs[i]?=some x->ys[i]?=some y->Wk x y):Wk (.tu xs) (.tu ys):=λG v hr=>by
 cases hr with
 |tu _ vs bq hr=>
  refine .tu _ vs Om λi y b hy hb=>?_;have hi:=lt_of_getElem? hy;have hx:xs[i]?=some (xs[i]'(by omega)):=Qf Om;exact h i _ y hx hy G b (hr i _ b hx hb)
theorem ziu{t:TypeId}{x y:AV}(h:Wk x y):Wk (.ifc t x) (.ifc t y):=λG v hr=>by
 cases hr with
 |ifc _ _ z hz=>exact .ifc t y z (h G z hz)
theorem zjd{f:Fn}{a b c d:List AV}(h1:a.length=c.length)(h2:∀(i:Nat)(x y:AV),a[i]?=some x->c[i]?=some y->Wk x y)(h3:b.length=d.length)(h4:∀(i:Nat)(x y:AV),b[i]?=some x->d[i]?=some y->Wk x y):Wk (.fn f a b) (.fn f c d):=λG v hr=>by
 cases hr with
 |fn _ _ _ a' b' g1 g2 g3 g4=>
  refine .fn f c d a' b' Om Om (λi x y hx hy=>?_) (λi x y hx hy=>?_)
  .have hi:i<a.length:=by have:=lt_of_getElem? hx;omega
   have hz:a[i]?=some a[i]:=Qf hi;exact h2 i _ x hz hx G y (g3 i _ y hz hy)
  .have hi:i<b.length:=by have:=lt_of_getElem? hx;omega
   have hz:b[i]?=some b[i]:=Qf hi;exact h4 i _ x hz hx G y (g4 i _ y hz hy)
mutual
def frz(H:Nat->Option SR):SV->Option AV
 |.a x=>some x
 |.i n=>some (Iv n)
 |.s l=>some (Sv l)
 |.tt=>some (Bv true)
 |.ff=>some (Bv false)
 |.b c=>some (Bv c)
 |.p q h=>some (Bv (@decide q h))
 |.bx _ _=>none
 |.tp k=>match H k with
  |some (.tip sz _ xs)=>some (.sl sz xs none)
  |_=>none
 |.ag cs=>match frzs H cs with
  |some l=>some (.ag l)
  |none=>none
 |.tu cs=>match frzs H cs with
  |some l=>some (.tu l)
  |none=>none
 |.fn f xs ys=>match frzs H xs,frzs H ys with
  |some a,some b=>some (.fn f a b)
  |_,_=>none
 |.ifc t x=>match frz H x with
  |some y=>some (.ifc t y)
  |none=>none
def frzs(H:Nat->Option SR):List SV->Option (List AV)
 | []=>some []
 |x::r=>match frz H x,frzs H r with
  |some y,some l=>some (y::l)
  |_,_=>none
end
theorem qor{x:AV}(h:x.one=true):x.cells=[x]:=by
 cases x<;>first|rfl|simp[AV.one]at h
theorem qvn{b:Nat}{S:List AObj}{sz:Nat}{T:TypeId}{xs:List AV}{c:AV}(h:TipO b S sz T xs c):Wk (tpAt c) (.sl sz xs none)∧c.one=true:=by
 have h1:c.one=true:=by rcases h with(⟨_,rfl⟩|⟨t,rfl,_⟩)|⟨_,o,v,f,rfl⟩<;>rfl
 refine⟨?_,h1⟩;unfold tpAt;rw[h1];exact qjs h
mutual
theorem qjh{S:List AObj}{ρ:Nat->AV}{H:Nat->Option SR}(hS:SatF S ρ H):∀(v:SV)(x:AV),frz H v=some x->Wk (v.ev ρ) x
 |.a y,x,h=>by simp only[frz,Qa]at h;subst h;exact wx _
 |.i y,x,h=>by simp only[frz,Qa]at h;subst h;exact wx _
 |.s y,x,h=>by simp only[frz,Qa]at h;subst h;exact wx _
 |.tt,x,h=>by simp only[frz,Qa]at h;subst h;exact wx _
 |.ff,x,h=>by simp only[frz,Qa]at h;subst h;exact wx _
 |.b y,x,h=>by simp only[frz,Qa]at h;subst h;exact wx _
 |.p q d,x,h=>by simp only[frz,Qa]at h;subst h;exact wx _
 |.bx _ _,x,h=>by simp[frz]at h
 |.tp k,x,h=>by
  simp only[frz]at h;split at h
  .rename_i sz T xs hk
   simp only[Qa]at h;subst h;exact(qvn (hS.ok k _ hk)).1
  .simp at h
 |.ag cs,x,h=>by
  simp only[frz]at h;split at h
  .rename_i l hl
   simp only[Qa]at h;subst h;obtain⟨h1,h2⟩:=qfh hS cs l hl;exact q60 h1 h2
  .simp at h
 |.tu cs,x,h=>by
  simp only[frz]at h;split at h
  .rename_i l hl
   simp only[Qa]at h;subst h;obtain⟨h1,h2⟩:=qfh hS cs l hl;exact zed h1 h2
  .simp at h
 |.fn f xs ys,x,h=>by
  simp only[frz]at h;split at h
  .rename_i a b ha hb
   simp only[Qa]at h;subst h;obtain⟨h1,h2⟩:=qfh hS xs a ha;obtain⟨h3,h4⟩:=qfh hS ys b hb;exact zjd h1 h2 h3 h4
  .simp at h
 |.ifc t y,x,h=>by
  simp only[frz]at h;split at h
  .rename_i z hz
   simp only[Qa]at h;subst h;exact ziu (qjh hS y z hz)
  .simp at h
theorem qfh{S:List AObj}{ρ:Nat->AV}{H:Nat->Option SR}(hS:SatF S ρ H):∀(l:List SV)(ys:List AV),frzs H l=some ys->(SV.evs ρ l).length=ys.length∧∀(i:Nat)(x y:AV),(SV.evs ρ l)[i]?=some x->ys[i]?=some y->Wk x y
 | [],ys,h=>by simp only[frzs,Qa]at h;subst h;exact⟨rfl,by simp[SV.evs]⟩
 |v::r,ys,h=>by
  simp only[frzs]at h;split at h
  .rename_i y l hy hl
   simp only[Qa]at h;subst h;obtain⟨h1,h2⟩:=qfh hS r l hl;have h3:=qjh hS v y hy;refine⟨by simp[SV.evs,h1],λi a b ha hb=>?_⟩
   cases i with
   |zero=>simp[SV.evs]at ha hb;subst ha;subst hb;exact h3
   |succ i=>exact h2 i a b (by simpa[SV.evs]using ha) (by simpa using hb)
  .simp at h
end
mutual
def SV.ks:SV->List Nat
 |.bx k _=>[k]
 |.tp k=>[k]
 |.ag cs=>SV.kss cs
 |.tu cs=>SV.kss cs
 |.fn _ xs ys=>SV.kss xs++SV.kss ys
 |.ifc _ x=>SV.ks x
 |_=>[]
def SV.kss:List SV->List Nat
 | []=>[]
 |x::r=>SV.ks x++SV.kss r
end
mutual
def nf:AV->SV
 |.v (.int .i64 n)=>.i n
 |.v (.string ⟨⟨l⟩⟩)=>.s l
 |.v (.bool c)=>.b c
 |.ag cs=>.ag (nfs cs)
 |.tu cs=>.tu (nfs cs)
 |x=>.a x
def nfs:List AV->List SV
 | []=>[]
 |x::r=>nf x::nfs r
end
mutual
theorem qmt(ρ:Nat->AV):∀x:AV,(nf x).ev ρ=x
 |.v x=>by
  unfold nf
  split <;>first|rfl|(rename_i h;cases h;done)|(rename_i h;cases h;rfl)
 |.ag cs=>by simp only[nf,SV.ev,qhq ρ cs]
 |.tu cs=>by simp only[nf,SV.ev,qhq ρ cs]
 |.ifc _ _=>rfl
 |.fn _ _ _=>rfl
 |.sl _ _ _=>rfl
 |.pp _=>rfl
 |.bx _ _ _=>rfl
 |.os _ _ _ _ _=>rfl
 |.mp _=>rfl
 |.yd _=>rfl
theorem qhq(ρ:Nat->AV):∀l:List AV,SV.evs ρ (nfs l)=l
 | []=>rfl
 |x::r=>by simp only[nfs,SV.evs,qmt ρ x,qhq ρ r]
end
mutual
theorem zh2{f:Nat->Bool}:∀x:AV,(nf x).all f=true
 |.v x=>by unfold nf;split <;>first|rfl|(rename_i h;cases h)
 |.ag cs=>by simp only[nf,SV.all];exact qpn cs
 |.tu cs=>by simp only[nf,SV.all];exact qpn cs
 |.ifc _ _=>rfl
 |.fn _ _ _=>rfl
 |.sl _ _ _=>rfl
 |.pp _=>rfl
 |.bx _ _ _=>rfl
 |.os _ _ _ _ _=>rfl
 |.mp _=>rfl
 |.yd _=>rfl
theorem qpn{f:Nat->Bool}:∀l:List AV,SV.alls f (nfs l)=true
 | []=>rfl
 |x::r=>by simp only[nfs,SV.alls,zh2 x,qpn r];rfl
end
def cst:Value->SV
 |.bool true=>.tt
 |.bool false=>.ff
 |x=>nf (.v x)
theorem zhc(ρ:Nat->AV)(x:Value):(cst x).ev ρ=.v x:=by
 unfold cst;split
 .rfl
 .rfl
 .exact qmt ρ _
def SV.cells:SV->List SV
 |.ag cs=>cs
 |.a x=>nfs x.cells
 |v=>[v]
theorem qq2(ρ:Nat->AV)(v:SV):SV.evs ρ v.cells=(v.ev ρ).cells:=by
 cases v with
 |a x=>exact qhq ρ _
 |bx k off=>simp only[SV.cells,SV.evs,SV.ev];cases ρ k<;>rfl
 |tp k=>simp only[SV.cells,SV.evs,SV.ev,tpAt];cases h:(ρ k).one<;>first|rfl|(simp only[cond_true];exact(qor h).symm)
 |_=>rfl
def SV.okc:SV->Bool
 |.a x=>x.okc
 |_=>true
theorem qtt(ρ:Nat->AV)(v:SV)(h:v.okc=true):(v.ev ρ).okc=true:=by
 cases v with
 |a x=>exact h
 |bx k off=>simp only[SV.ev];cases ρ k<;>rfl
 |tp k=>
  simp only[SV.ev,tpAt]
  cases h:(ρ k).one
  .rfl
  .simp only[cond_true]
   cases hk:ρ k with
   |v x=>rw[hk]at h;cases x<;>first|rfl|simp[AV.one]at h
   |_=>rfl
 |_=>rfl
def SV.one:SV->Bool
 |.a x=>x.one
 |.ag _=>false
 |.tu _=>false
 |_=>true
theorem qvg(ρ:Nat->AV)(v:SV)(h:v.one=true):(v.ev ρ).one=true:=by
 cases v with
 |a x=>exact h
 |bx k off=>simp only[SV.ev];cases ρ k<;>rfl
 |tp k=>simp only[SV.ev,tpAt];cases h:(ρ k).one<;>first|rfl|exact h
 |ag _=>simp[SV.one]at h
 |tu _=>simp[SV.one]at h
 |_=>rfl
def ones(l:List SV):Bool:=l.all SV.one
theorem q3z(ρ:Nat->AV):∀l:List SV,ones l=true->∀z∈SV.evs ρ l,z.one=true
 | [],_,z,hz=>by simp[SV.evs]at hz
 |x::r,h,z,hz=>by
  simp only[ones,List.all_cons,Qe]at h;simp only[SV.evs,List.mem_cons]at hz;rcases hz with rfl|hz
  .exact qvg ρ x h.1
  .exact q3z ρ r h.2 z hz
def sval(N:Nat)(sl:List (Nat×SV)):Operand->Option SV
 |.tmp i=>bif Qk i N then lkS sl i else none
 |.const x=>some (cst x)
 |.global g=>some (.a (.v (.pointer (some ⟨g,0,none⟩))))
 |.func f=>some (.a (.fn (.func f) [] []))
theorem qs{N:Nat}{sl:List (Nat×SV)}{ρ t:Nat->AV}{S:List AObj}{df:List Nat}(h:SlOk ρ t sl){x:Operand}{v:SV}(hx:sval N sl x=some v):qg N ⟨t,S,df⟩ x=v.ev ρ:=by
 cases x with
 |tmp i=>
  simp only[sval]at hx;simp only[qg]
  cases hb:Qk i N with
  |true=>rw[hb]at hx;exact h i v hx
  |false=>rw[hb]at hx;simp at hx
 |const x=>simp only[sval,Qa]at hx;subst hx;exact(zhc ρ x).symm
 |global g=>simp only[sval,Qa]at hx;subst hx;rfl
 |func f=>simp only[sval,Qa]at hx;subst hx;rfl
def qkr(N:Nat)(sl:List (Nat×SV)):List Operand->Option (List SV)
 | []=>some []
 |x::r=>match sval N sl x,qkr N sl r with
  |some v,some l=>some (v::l)
  |_,_=>none
theorem qjy{N:Nat}{sl:List (Nat×SV)}{ρ t:Nat->AV}{S:List AObj}{df:List Nat}(h:SlOk ρ t sl):∀{xs:List Operand}{l:List SV},qkr N sl xs=some l->xs.map (qg N ⟨t,S,df⟩)=SV.evs ρ l
 | [],l,hx=>by simp only[qkr,Qa]at hx;subst hx;rfl
 |x::r,l,hx=>by
  simp only[qkr]at hx;split at hx
  .rename_i v l' h1 h2
   simp only[Qa]at hx;subst hx;simp only[Qs,SV.evs,qs h h1,qjy h h2]
  .simp at hx
section
variable {E : Env} {N : Nat} {ops : Array Oper} {o : Oper} {nx : Nat} {sl : List (Nat × SV)} {H : Nat → Option SR}
theorem w6{v:SV}{ks:List Nat}(h:∀(df:List Nat)(rd:Option Nat)(K:AS->Prop)(rest:List Oper)(ρ t:Nat->AV)(S:List AObj),SlOk ρ t sl->SatF S ρ (resF ks H)->AOps E rd N ops rest K (AS.put ⟨t,S,df⟩ o.dst (v.ev ρ))->AOps E rd N ops (o::rest) K ⟨t,S,df⟩):
  Loc E N ops o nx sl H ⟨v,ks,[],nx⟩:=λdf rd K rest ρ t S hs hS hk=>
 h df rd K rest ρ t S hs hS (hk ρ S ⟨λ_ _=>rfl,⟨λk r hk=>hS.ok k r hk,λk k' r r' d7 h1 h2=>hS.sep k k' r r' d7 h1 h2⟩,Qg _,λ_ _ _=>rfl,λk r hk o ho=>.inr ⟨k,r,hk,ho⟩⟩)
theorem jd{v:SV}(h:∀(df:List Nat)(rd:Option Nat)(K:AS->Prop)(rest:List Oper)(ρ t:Nat->AV)(S:List AObj),SlOk ρ t sl->AOps E rd N ops rest K (AS.put ⟨t,S,df⟩ o.dst (v.ev ρ))->AOps E rd N ops (o::rest) K ⟨t,S,df⟩):
  Loc E N ops o nx sl H ⟨v,[],[],nx⟩:=w6 λdf rd K rest ρ t S hs _ hk=>h df rd K rest ρ t S hs hk
def upd(ρ:Nat->AV)(n:Nat)(c:AV):Nat->AV:=λk=>bif Qc k n then c else ρ k
theorem zi(ρ:Nat->AV)(n:Nat)(c:AV):upd ρ n c n=c:=by simp[upd]
theorem jq(ρ:Nat->AV){n k:Nat}(c:AV)(h:k≠n):upd ρ n c k=ρ k:=by simp[upd,zq h]
theorem qi1{v:SV}{r:SR}{ks:List Nat}(sd:∀k r,resF ks H k=some r->k≠nx∧r.all (λk=> !Nat.beq k nx)=true)(h:∀(df:List Nat)(rd:Option Nat)(K:AS->Prop)(rest:List Oper)(ρ t:Nat->AV)(S:List AObj),SlOk ρ t sl->SatF S ρ (resF ks H)->
   (∀c l,r.ok (upd ρ nx c) (S++l) c->(∀o,o∈qr c->S.length<=o)->AOps E rd N ops rest K (AS.put ⟨t,S++l,df⟩ o.dst (v.ev (upd ρ nx c))))->AOps E rd N ops (o::rest) K ⟨t,S,df⟩):
  Loc E N ops o nx sl H ⟨v,ks,[(nx,some r)],nx+1⟩:=λdf rd K rest ρ t S hs hS hk=>by
 refine h df rd K rest ρ t S hs hS λc l hc hl=>hk _ _ ⟨λk hk=>jq _ _ (by simp only at hk;omega),?_,Sx,λj hj _=>Qo hj,?_⟩
 .have key:∀k r',chF [(nx,some r)] (resF ks H) k=some r'->(k=nx∧r'=r)∨(k≠nx∧resF ks H k=some r'):=λk r' hk=>by
   simp only[chF,lkS]at hk;by_cases e:nx=k
   .subst e
    have:Qc nx nx=true:=Sx
    rw[this]at hk;simp only[cond_true,Qa]at hk;exact .inl ⟨rfl,hk.symm⟩
   .rw[zq e]at hk
    exact .inr ⟨λh=>e h.symm,hk⟩
  refine⟨λk r' hk=>?_,λk k' r1 r2 d7 h1 h2 o ho=>?_⟩
  .rcases key k r' hk with⟨rfl,rfl⟩|⟨h1,h2⟩
   .rw[zi];exact hc
   .rw[jq _ _ h1]
    have h3:=hS.ok k r' h2;exact SR.ok_of (sd k r' h2).2 (λk hk=>jq _ _ (λe=>by subst e;simp at hk)) h3 λo ho=>Qo (SR.ok_lt h3 ho)
  .rcases key k r1 h1 with⟨rfl,rfl⟩|⟨g1,g2⟩
   .rcases key k' r2 h2 with⟨rfl,rfl⟩|⟨f1,f2⟩
    .exact absurd rfl d7
    .rw[zi]at ho
     rw[jq _ _ f1];intro e7;have:=SR.ok_lt (hS.ok k' r2 f2) e7;have:=hl o ho;omega
   .rcases key k' r2 h2 with⟨rfl,rfl⟩|⟨f1,f2⟩
    .rw[jq _ _ g1]at ho
     rw[zi];intro e7;have:=SR.ok_lt (hS.ok k r1 g2) ho;have:=hl o e7;omega
    .rw[jq _ _ g1]at ho
     rw[jq _ _ f1];exact hS.sep k k' r1 r2 d7 g2 f2 o ho
 .intro k r' hk o ho
  simp only[chF,lkS]at hk;by_cases e:nx=k
  .subst e
   rw[zi]at ho;exact .inl (hl o ho)
  .rw[zq e]at hk
   rw[jq _ _ (λh=>e h.symm)]at ho;exact .inr ⟨k,r',hk,ho⟩
end
end Go.Av
namespace Go.Av
open Go Go.RowKit
section
variable {E : Env} {N : Nat} {ops : Array Oper} {nx : Nat} {sl : List (Nat × SV)} {H : Nat → Option SR} {k : Ef → Prop} {d : Option Tmp} {T : TypeId} {p : String} {af : Array Edge}
def wj(nx:Nat)(v:SV):Ef:=⟨v,[],[],nx⟩
def mvW(nx:Nat)(k:Ef->Prop):Option SV->Prop
 |some v=>k (wj nx v)
 |none=>False
theorem zfw{x:Operand}(h:mvW nx k (sval N sl x)):∃e,Loc E N ops ⟨d,.move x,T,p,af,none⟩ nx sl H e∧k e:=by
 cases hv:sval N sl x with
 |none=>rw[hv]at h;exact h.elim
 |some v=>rw[hv]at h;exact⟨_,jd λdf rd K rest ρ t S hs hk=>ql (by rw[qs hs hv];exact hk),h⟩
theorem q7b{x:Operand}(h:mvW nx k (sval N sl x)):∃e,Loc E N ops ⟨d,.assign x,T,p,af,none⟩ nx sl H e∧k e:=by
 cases hv:sval N sl x with
 |none=>rw[hv]at h;exact h.elim
 |some v=>rw[hv]at h;exact⟨_,jd λdf rd K rest ρ t S hs hk=>qj (by rw[qs hs hv];exact hk),h⟩
def wayW(x y:Prop):SV->Prop
 |.tt=>x
 |.ff=>y
 |.p q _=>(q->x)∧(¬q->y)
 |.b c=>(c=true->x)∧(c=false->y)
 |_=>False
theorem zap{x y:Prop}{v:SV}(h:wayW x y v):∃c:Bool,(∀ρ,v.ev ρ=Bv c)∧((c=true∧x)∨(c=false∧y)):=by
 cases v with
 |tt=>exact⟨true,λ_=>rfl,.inl ⟨rfl,h⟩⟩
 |ff=>exact⟨false,λ_=>rfl,.inr ⟨rfl,h⟩⟩
 |p q i=>
  by_cases hq:q
  .exact⟨_,λ_=>rfl,.inl ⟨by simp[hq],h.1 hq⟩⟩
  .exact⟨_,λ_=>rfl,.inr ⟨by simp[hq],h.2 hq⟩⟩
 |b c=>
  cases c with
  |true=>exact⟨true,λ_=>rfl,.inl ⟨rfl,h.1 rfl⟩⟩
  |false=>exact⟨false,λ_=>rfl,.inr ⟨rfl,h.2 rfl⟩⟩
 |_=>exact h.elim
def q6a(N:Nat)(sl:List (Nat×SV))(nx:Nat)(k:Ef->Prop)(c x y:Operand):Prop:=
 match sval N sl c with
 |some v=>wayW (mvW nx k (sval N sl x)) (mvW nx k (sval N sl y)) v
 |none=>False
theorem zf8{c x y:Operand}(h:q6a N sl nx k c x y):∃e,Loc E N ops ⟨d,.pick c x y,T,p,af,none⟩ nx sl H e∧k e:=by
 unfold q6a at h;split at h
 .rename_i v hv
  obtain⟨b,hb,h⟩:=zap h;rcases h with⟨hc,h⟩|⟨hc,h⟩
  .cases hx:sval N sl x with
   |none=>rw[hx]at h;exact h.elim
   |some u=>rw[hx]at h;exact⟨_,jd λdf rd K rest ρ t S hs hk=>qpx ((qs hs hv).trans (hb ρ)) hc (by rw[qs hs hx];exact hk),h⟩
  .cases hx:sval N sl y with
   |none=>rw[hx]at h;exact h.elim
   |some u=>rw[hx]at h;exact⟨_,jd λdf rd K rest ρ t S hs hk=>qpw ((qs hs hv).trans (hb ρ)) hc (by rw[qs hs hx];exact hk),h⟩
 .exact h.elim
def qx8(P:Program)(nx:Nat)(k:Ef->Prop)(t:TypeId):Prop:=
 match qi0 P t with
 |some cs=>k ⟨.bx nx 0,[],[(nx,some (.cells t (nfs cs)))],nx+1⟩
 |none=>False
theorem qdv(k:Nat):resF [] H k=none:=rfl
theorem z8(k:Nat):resF [k] H k=H k:=by simp[resF,memN]
theorem zau{t:TypeId}(h:qx8 E.P nx k t):∃e,Loc E N ops ⟨d,.alloc t,T,p,af,none⟩ nx sl H e∧k e:=by
 unfold qx8 at h;split at h
 .rename_i cs hz
  refine⟨_,qi1 (λk r hk=>by rw[qdv]at hk;simp at hk) λdf rd K rest ρ t' S hs _ hk=>qkv rfl hz ?_,h⟩;have:=hk (.bx S.length 0 0) [.cells 0 t cs] ⟨S.length,0,rfl,by rw[qhq];exact we,rfl⟩ (λo ho=>by simp only[qr,Qb]at ho;omega)
  simpa only[SV.ev,zi,bxAt]using this
 .exact h.elim
theorem q4n{rd:Option Nat}{K:AS->Prop}{rest:List Oper}{s:AS}{t:TypeId}{x:Operand}{r:AV}{cs:List AV}(hx:Wk (qg N s x) r)(hok:r.okc=true)(hc:r.cells=cs)
  (h:AOps E rd N ops rest K (s.put d (.pp cs))):AOps E rd N ops (⟨d,.box t x,T,p,af,none⟩::rest) K s:=by
 refine qv rfl (qu nofun λB0 w0 G a w _ hI=>?_);have hr:=(hx _ _ (hI.eval x)).cells hok;rw[hc]at hr;obtain⟨d8,hA⟩:=hI.agree.newPub t (a.eval x).cells (0,0) (a.eval x).cells.toList (λi y hy=>by simpa using hy)
 have a8:(execOp a.eval ⟨d,.box t x,T,p,af,none⟩).run E.P w=.ok (.value (.pointer (some ⟨w.heap.size,0,none⟩))) (w.alloc (.cells (a.eval x).cells t)):=by
  generalize a.eval=ρ;simp[execOp,Instr.box,newVar,newRow,newObj,Sem.run]
 refine⟨_,_,_,.pp cs,s.st,a8,d8,hA,.pp cs w.heap.size 0 (a.eval x).cells.toList (by simp[Gh.publish]) (by rw[hr.1];simp) λi x y hx hy=>(hr.2 i x y hx (by simpa using hy)).mono d8,h⟩
def qtk(bxs:List Nat):Option Tmp->Bool
 |some d=>memN bxs d
 |none=>false
def boxW(bxs:List Nat)(H:Nat->Option SR)(nx:Nat)(k:Ef->Prop)(d:Option Tmp)(t:TypeId):Option SV->Prop
 |some v=>bif qtk bxs d then(bif v.okc&&v.all (λk=> !Nat.beq k nx)then k ⟨.bx nx 0,[],[(nx,some (.cells t v.cells))],nx+1⟩else False)
  else match frz (resF v.ks H) v with
   |some y=>bif y.okc then k ⟨.a (.pp y.cells),v.ks,[],nx⟩else False
   |none=>False
 |none=>False
theorem q7r{f:Nat->Bool}:∀v:SV,v.all f=true->SV.alls f v.cells=true
 |.ag cs,h=>h
 |.a x,_=>qpn _
 |.i _,_=>rfl
 |.s _,_=>rfl
 |.tt,_=>rfl
 |.ff,_=>rfl
 |.b _,_=>rfl
 |.p _ _,_=>rfl
 |.bx k _,h=>by simpa[SV.cells,SV.alls]using h
 |.tp k,h=>by simpa[SV.cells,SV.alls]using h
 |.tu cs,h=>by simpa[SV.cells,SV.alls]using h
 |.fn _ _ _,h=>by simpa[SV.cells,SV.alls]using h
 |.ifc _ _,h=>by simpa[SV.cells,SV.alls]using h
theorem zg9{bxs:List Nat}{t:TypeId}{x:Operand}(h:boxW bxs H nx k d t (sval N sl x)):∃e,Loc E N ops ⟨d,.box t x,T,p,af,none⟩ nx sl H e∧k e:=by
 cases hv:sval N sl x with
 |none=>rw[hv]at h;exact h.elim
 |some v=>
  rw[hv]at h;unfold boxW at h
  cases hb:qtk bxs d with
  |true=>
   rw[hb]at h;simp only[cond_true]at h
   cases hc:(v.okc&&v.all (λk=> !Nat.beq k nx))with
   |false=>rw[hc]at h;exact h.elim
   |true=>
    rw[hc]at h;simp only[Qe]at hc;refine⟨_,qi1 (λk r hk=>by rw[qdv]at hk;simp at hk) λdf rd K rest ρ t' S hs _ hk=>qvr rfl (qs hs hv) (qtt ρ v hc.1) (qq2 ρ v).symm ?_,h⟩;have he:SV.evs (upd ρ nx (.bx S.length 0 0)) v.cells=SV.evs ρ v.cells:=wy (f:=λk=> !Nat.beq k nx) (λk hk=>jq _ _ (λe=>by subst e;simp at hk)) _ (q7r v hc.2);have:=hk (.bx S.length 0 0) [.cells 0 t (SV.evs ρ v.cells)] ⟨S.length,0,rfl,by rw[he];exact we,rfl⟩ (λo ho=>by simp only[qr,Qb]at ho;omega)
    simpa only[SV.ev,zi,bxAt]using this
  |false=>
   rw[hb]at h;simp only[cond_false]at h;split at h
   .rename_i y hy
    cases hc:y.okc with
    |false=>rw[hc]at h;exact h.elim
    |true=>
     rw[hc]at h;exact⟨_,w6 (v:=.a (.pp y.cells)) λdf rd K rest ρ t' S hs hS hk=>q4n (by rw[qs hs hv];exact qjh hS v y hy) hc rfl hk,h⟩
   .exact h.elim
def spl{α:Type}(cs:List α)(off:Nat)(xs:List α):List α:=cs.take off++xs++cs.drop (off+xs.length)
theorem q97(ρ:Nat->AV)(cs xs:List SV)(off:Nat):SV.evs ρ (spl cs off xs)=z0 (SV.evs ρ cs) off (SV.evs ρ xs):=by
 simp[spl,z0,zw]
def qtb(place:Nat->Option (Nat×Nat))(cells:List SV):List (Nat×SV)->Option (List SV)
 | []=>some cells
 |(i,x)::rest=>
  match place i with
  |none=>none
  |some (off,size)=>bif x.okc&&Qc x.cells.length size&&Ql (off+size) cells.length then qtb place (spl cells off x.cells) rest else none
theorem qzl(ρ:Nat->AV)(place:Nat->Option (Nat×Nat)):∀(ps:List (Nat×SV))(cells cs:List SV),qtb place cells ps=some cs->qcp place (SV.evs ρ cells) (ps.map λq=>(q.1,q.2.ev ρ))=some (SV.evs ρ cs)
 | [],cells,cs,h=>by simp only[qtb,Qa]at h;subst h;rfl
 |(i,x)::rest,cells,cs,h=>by
  simp only[qtb]at h;simp only[Qs,qcp]
  cases hp:place i with
  |none=>rw[hp]at h;simp at h
  |some q=>
   obtain⟨off,size⟩:=q;rw[hp]at h;simp only at h⊢
   cases hb:(x.okc&&Qc x.cells.length size&&Ql (off+size) cells.length)with
   |false=>rw[hb]at h;simp at h
   |true=>
    rw[hb]at h;simp only[Qe]at hb;have hl:∀l:List SV,(SV.evs ρ l).length=l.length:=λl=>by simp[zw]
    rw[qtt ρ x hb.1.1,<-qq2,hl,hl,hb.1.2,hb.2,<-q97];exact qzl ρ place rest _ cs h
def qm6(N:Nat)(sl:List (Nat×SV)):List (Nat×Operand)->Option (List (Nat×SV))
 | []=>some []
 |(i,x)::r=>match sval N sl x,qm6 N sl r with
  |some v,some l=>some ((i,v)::l)
  |_,_=>none
theorem qgu{ρ t:Nat->AV}{S:List AObj}{df:List Nat}(h:SlOk ρ t sl):∀{xs:List (Nat×Operand)}{l:List (Nat×SV)},qm6 N sl xs=some l->(xs.map λx=>(x.1,qg N ⟨t,S,df⟩ x.2))=l.map λq=>(q.1,q.2.ev ρ)
 | [],l,hx=>by simp only[qm6,Qa]at hx;subst hx;rfl
 |(i,x)::r,l,hx=>by
  simp only[qm6]at hx;split at hx
  .rename_i v l' h1 h2
   simp only[Qa]at hx;subst hx;simp only[Qs,qs h h1,qgu h h2]
  .simp at hx
def qyv(P:Program)(N:Nat)(sl:List (Nat×SV))(nx:Nat)(k:Ef->Prop)(t:TypeId)(parts:Array (Nat×Operand)):Prop:=
 match qi0 P t,qvc P t,qm6 N sl parts.toList with
 |some zs,some pl,some ps=>(match qtb (pl[·]?) (nfs zs) ps with
  |some cs=>k (wj nx (.ag cs))
  |none=>False)
 |_,_,_=>False
theorem zbc{t:TypeId}{parts:Array (Nat×Operand)}(h:qyv E.P N sl nx k t parts):∃e,Loc E N ops ⟨d,.build t parts,T,p,af,none⟩ nx sl H e∧k e:=by
 unfold qyv at h;split at h
 .rename_i zs pl ps hz hp hs
  split at h
  .rename_i cs hf
   refine⟨_,jd (v:=.ag cs) λdf rd K rest ρ t' S ho hk=>yc hz hp (cs:=SV.evs ρ cs) ?_ hk,h⟩;have:=qzl ρ _ _ _ _ hf;rw[qhq]at this;unfold vk;rw[qgu ho hs];exact this
  .exact h.elim
 .exact h.elim
def qmq(sz:Nat)(agg:Bool)(off:Nat)(cs:List SV):Option SV:=
 bif agg then(bif Ql (off+sz) cs.length then some (.ag ((cs.drop off).take sz))else none)else cs[off]?
theorem qrd(ρ:Nat->AV){sz:Nat}{agg:Bool}{off:Nat}{cs:List SV}{v:SV}(h:qmq sz agg off cs=some v):jy sz agg off (SV.evs ρ cs)=some (v.ev ρ):=by
 unfold qmq at h;unfold jy
 cases agg with
 |true=>
  simp only[cond_true]at h⊢;rw[zw,Zc]
  cases hb:Ql (off+sz) cs.length with
  |false=>rw[hb]at h;simp at h
  |true=>
   rw[hb]at h;simp only[cond_true,Qa]at h⊢;subst h
   simp[SV.ev,zw]
 |false=>
  simp only[cond_false]at h⊢;rw[zw,Qq,h];rfl
def optW(nx:Nat)(ks:List Nat)(k:Ef->Prop):Option SV->Prop
 |some v=>k ⟨v,ks,[],nx⟩
 |none=>False
def q5v(P:Program)(H:Nat->Option SR)(nx:Nat)(k:Ef->Prop)(t:TypeId):Option SV->Prop
 |some (.bx b off)=>(match H b,tyOf P t with
  |some (.cells _ cs),some (sz,agg)=>optW nx [b] k (qmq sz agg off cs)
  |_,_=>False)
 |some (.a (.pp cs))=>(match tyOf P t with
  |some (sz,agg)=>(match jy sz agg 0 cs with
   |some r=>k (wj nx (nf r))
   |none=>False)
  |none=>False)
 |_=>False
theorem zfr{t:TypeId}{x:Operand}(h:q5v E.P H nx k t (sval N sl x)):∃e,Loc E N ops ⟨d,.load t x,T,p,af,none⟩ nx sl H e∧k e:=by
 unfold q5v at h;split at h
 .rename_i b off hv
  split at h
  .rename_i T' cs sz agg hH ht
   cases hl:qmq sz agg off cs with
   |none=>rw[hl]at h;exact h.elim
   |some v=>
    rw[hl]at h;refine⟨_,w6 λdf rd K rest ρ t' S hs hS hk=>?_,h⟩;obtain⟨o,ver,h1,h2,h0⟩:=hS.ok b _ ((z8 b).trans hH);exact kh (o:=o) (ver:=ver) (off:=off) ((qs hs hv).trans (by simp only[SV.ev,h1,bxAt])) h2 ht (qrd ρ hl) hk
  .exact h.elim
 .rename_i cs hv
  split at h
  .rename_i sz agg ht
   split at h
   .rename_i r hr
    exact⟨_,jd λdf rd K rest ρ t' S hs hk=>vr (qs hs hv) ht hr (by rw[<-qmt ρ r];exact hk),h⟩
   .exact h.elim
  .exact h.elim
 .exact h.elim
def q1c(P:Program)(H:Nat->Option SR)(nx:Nat)(k:Ef->Prop)(t:TypeId):Option SV->Option SV->Prop
 |some (.bx b off),some v=>(match H b,tyOf P t with
  |some (.cells T cs),some (sz,agg)=>bif v.okc&&Qc v.cells.length sz&&ones v.cells&&Ql (off+sz) cs.length then k ⟨.a (.v undef),[b],[(b,some (.cells T (spl cs off v.cells)))],nx⟩else False
  |_,_=>False)
 |_,_=>False
theorem zdk{t:TypeId}{x y:Operand}(h:q1c E.P H nx k t (sval N sl x) (sval N sl y)):∃e,Loc E N ops ⟨d,.store t x y,T,p,af,none⟩ nx sl H e∧k e:=by
 unfold q1c at h;split at h
 .rename_i b off v hv hy
  split at h
  .rename_i T' cs sz agg hH ht
   cases hb:(v.okc&&Qc v.cells.length sz&&ones v.cells&&Ql (off+sz) cs.length)with
   |false=>rw[hb]at h;exact h.elim
   |true=>
    rw[hb]at h;simp only[Qe]at hb;refine⟨_,λdf rd K rest ρ t' S hs hS hk=>?_,h⟩;obtain⟨o,ver,h1,h2,h0⟩:=hS.ok b _ ((z8 b).trans hH);have hl:∀l:List SV,(SV.evs ρ l).length=l.length:=λl=>by simp[zw]
    refine qif (o:=o) (ver:=ver) (off:=off) (xs:=SV.evs ρ v.cells) ((qs hs hv).trans (by simp only[SV.ev,h1,bxAt])) (qs hs hy) h2 ht (qtt ρ v hb.1.1.1) (qq2 ρ v).symm (by rw[hl];exact Qd hb.1.1.2) (q3z ρ _ hb.1.2) (by rw[hl];exact Qm hb.2) ?_;rw[<-q97]
    have key:∀k r,chF [(b,some (.cells T' (spl cs off v.cells)))] (resF [b] H) k=some r->k=b∧r=.cells T' (spl cs off v.cells):=λk r hk=>by
     simp only[chF,lkS]at hk;by_cases e:b=k
     .subst e
      have:Qc b b=true:=Sx
      rw[this]at hk;simp only[cond_true,Qa]at hk;exact⟨rfl,hk.symm⟩
     .rw[zq e]at hk
      have:=(jv hk).1;simp only[memN,Zn,Xe,Zo]at this;exact absurd (Qd this).symm e
    refine hk ρ _ ⟨λ_ _=>rfl,⟨λk r hk=>?_,λk k' r r' d7 g1 g2=>?_⟩,Sx,λj hj d7=>?_,λk r hk o' e7=>?_⟩
    .obtain⟨rfl,rfl⟩:=key k r hk
     exact⟨o,ver,h1,yz h2,h0⟩
    .exact absurd ((key k r g1).1.trans (key k' r' g2).1.symm) d7
    .have:=d7 b _ ((z8 b).trans hH)
     rw[h1]at this;exact Qi (λe=>this (by rw[e];exact Qb.2 rfl))
    .obtain⟨rfl,rfl⟩:=key k r hk
     exact .inr ⟨k,_,(z8 k).trans hH,e7⟩
  .exact h.elim
 .exact h.elim
def q0a(nx:Nat)(k:Ef->Prop):Option SV->Prop
 |some (.bx b off)=>k (wj nx (.bx b off))
 |some (.a (.pp cs))=>k (wj nx (.a (.pp cs)))
 |_=>False
theorem zcn{x:Operand}(h:q0a nx k (sval N sl x)):∃e,Loc E N ops ⟨d,.nilCheck x,T,p,af,none⟩ nx sl H e∧k e:=by
 unfold q0a at h;split at h
 .rename_i b off hv
  exact⟨_,jd λdf rd K rest ρ t' S hs hk=>xu (qs hs hv) (by simp only[SV.ev];cases ρ b<;>rfl) hk,h⟩
 .rename_i cs hv
  exact⟨_,jd λdf rd K rest ρ t' S hs hk=>xu (qs hs hv) rfl hk,h⟩
 .exact h.elim
end
end Go.Av
namespace Go.Av
open Go Go.RowKit
def qez:SV->Option (IntKind×Int)
 |.i n=>some (.i64,n)
 |.a (.v (.int k n))=>some (k,n)
 |_=>none
theorem qbt{v:SV}{k:IntKind}{n:Int}(h:qez v=some (k,n))(ρ:Nat->AV):v.ev ρ=.v (.int k n):=by
 unfold qez at h;split at h
 .simp only[Qa,Qh]at h;obtain⟨rfl,rfl⟩:=h;rfl
 .simp only[Qa,Qh]at h;obtain⟨rfl,rfl⟩:=h;rfl
 .simp at h
def cmpW(op:BinOp)(m n:Int)(k:SV->Prop):Prop:=
 match op with
 |.eql=>k (.p (m=n) inferInstance)
 |.neq=>k (.p (¬m=n) inferInstance)
 |.lss=>k (.p (m<n) inferInstance)
 |.leq=>k (.p (m<=n) inferInstance)
 |.gtr=>k (.p (n<m) inferInstance)
 |.geq=>k (.p (n<=m) inferInstance)
 |_=>False
theorem zev{op:BinOp}{m n:Int}{k:SV->Prop}(h:cmpW op m n k):∃v b,cmpI op m n=some b∧(∀ρ,SV.ev ρ v=Bv b)∧k v:=by
 cases op<;>first|exact h.elim|exact⟨_,_,rfl,λ_=>rfl,h⟩
def rngW(r:Int)(k:SV->Prop):Prop:=(-9223372036854775808<=r∧r<=9223372036854775807)∧k (.i r)
def arW(kd:IntKind)(r:Int)(k:SV->Prop):Prop:=
 match kd with
 |.i64=>rngW r k
 |kd=>k (.a (.v (.int kd (kd.wrap r))))
theorem qsm{kd:IntKind}{r:Int}{k:SV->Prop}(h:arW kd r k):∃v,(∀ρ,SV.ev ρ v=.v (.int kd (kd.wrap r)))∧k v:=by
 cases kd<;>first|exact⟨.i r,λρ=>by rw[zu h.1.1 h.1.2];rfl,h.2⟩|exact⟨_,λ_=>rfl,h⟩
def remW(kd:IntKind)(r:Int)(k:SV->Prop):Prop:=
 match kd with
 |.i64=>k (.i r)
 |kd=>k (.a (.v (.int kd r)))
theorem zgg{kd:IntKind}{r:Int}{k:SV->Prop}(h:remW kd r k):∃v,(∀ρ,SV.ev ρ v=.v (.int kd r))∧k v:=by
 cases kd<;>exact⟨_,λ_=>rfl,h⟩
def intW(op:BinOp)(kd:IntKind)(m n:Int)(k:SV->Prop):Prop:=
 match op with
 |.add=>arW kd (m+n) k
 |.sub=>arW kd (m-n) k
 |.mul=>arW kd (m*n) k
 |.quo=>n≠0∧arW kd (m.tdiv n) k
 |.rem=>n≠0∧remW kd (m.tmod n) k
 |op=>cmpW op m n k
def strW(op:BinOp)(m n:List UInt8)(k:SV->Prop):Prop:=
 match op with
 |.add=>m.length+n.length<9223372036854775808∧k (.s (m++n))
 |.eql=>k (.p (m=n) inferInstance)
 |.neq=>k (.p (¬m=n) inferInstance)
 |op=>match cmpS op m n with
  |some b=>k (.b b)
  |none=>False
def qsq:SV->Option Bool
 |.tt=>some true
 |.ff=>some false
 |.b c=>some c
 |.p q h=>some (@decide q h)
 |_=>none
theorem qka{v:SV}{b:Bool}(h:qsq v=some b)(ρ:Nat->AV):v.ev ρ=Bv b:=by
 unfold qsq at h;split at h<;>first|(simp only[Qa]at h;subst h;rfl)|simp at h
def nilQ:SV->Option Bool
 |.ifc _ _=>some false
 |.a (.ifc _ _)=>some false
 |.a (.v .nilIface)=>some true
 |_=>none
def nilP:SV->Option Bool
 |.bx _ _=>some false
 |.a (.pp _)=>some false
 |.a (.bx _ _ _)=>some false
 |.a (.v (.pointer none))=>some true
 |_=>none
def tf:Bool->SV
 |true=>.tt
 |false=>.ff
def eqW(op:BinOp)(b:Bool)(k:SV->Prop):Prop:=
 match op with
 |.eql=>k (tf b)
 |.neq=>k (tf (!b))
 |_=>False
def qzz:Option TypeDesc->Bool
 |some (.interface _)=>true
 |_=>false
def qz0:Option TypeDesc->Bool
 |some (.pointer _)=>true
 |_=>false
def binW(P:Program)(op:BinOp)(t:TypeId)(y:Operand)(k:SV->Prop)(vx vy:SV):Prop:=
 match y with
 |.const .nilIface=>(match nilQ vx with
  |some b=>bif qzz (P.underlying t)then eqW op b k else False
  |none=>False)
 |.const (.pointer none)=>(match nilP vx with
  |some b=>bif qz0 (P.underlying t)then eqW op b k else False
  |none=>False)
 |_=>match qez vx,qez vy with
  |some (kd,m),some (kd',n)=>bif decide (kd=kd')then intW op kd m n k else False
  |_,_=>match vx,vy with
   |.s m,.s n=>strW op m n k
   |vx,vy=>match qsq vx,qsq vy,P.underlying t,op with
    |some a,some b,some .bool,.eql=>k (.b (a==b))
    |some a,some b,some .bool,.neq=>k (.b (!(a==b)))
    |_,_,_,_=>False
section
variable {E : Env} {N : Nat} {ops : Array Oper} {nx : Nat} {sl : List (Nat × SV)} {H : Nat → Option SR} {k : Ef → Prop} {d : Option Tmp} {T : TypeId} {p : String} {af : Array Edge}
def Rule(E:Env)(N:Nat)(ops:Array Oper)(o:Oper)(sl:List (Nat×SV))(v:SV):Prop:=∀(df:List Nat)(rd:Option Nat)(K:AS->Prop)(rest:List Oper)(ρ t:Nat->AV)(S:List AObj),SlOk ρ t sl->AOps E rd N ops rest K (AS.put ⟨t,S,df⟩ o.dst (v.ev ρ))->AOps E rd N ops (o::rest) K ⟨t,S,df⟩
theorem zht{op:BinOp}{t t':TypeId}{x y:Operand}{vx vy:SV}{kd:IntKind}{m n:Int}{q:SV->Prop}(hx:sval N sl x=some vx)(hy:sval N sl y=some vy)(h1:qez vx=some (kd,m))(h2:qez vy=some (kd,n))(h:intW op kd m n q):
  ∃v,Rule E N ops ⟨d,.binOp op t x y t',T,p,af,none⟩ sl v∧q v:=by
 have e1:∀{ρ t:Nat->AV}{S:List AObj}{df:List Nat},SlOk ρ t sl->qg N ⟨t,S,df⟩ x=.v (.int kd m):=λhs=>(qs hs hx).trans (qbt h1 _);have e2:∀{ρ t:Nat->AV}{S:List AObj}{df:List Nat},SlOk ρ t sl->qg N ⟨t,S,df⟩ y=.v (.int kd n):=λhs=>(qs hs hy).trans (qbt h2 _)
 have cmp:cmpW op m n q->∃v,Rule E N ops ⟨d,.binOp op t x y t',T,p,af,none⟩ sl v∧q v:=λh=>by
  obtain⟨v,b,hb,hv,hq⟩:=zev h;exact⟨v,λdf rd K rest ρ t S hs hk=>zh (e1 hs) (e2 hs) hb (by rw[<-hv ρ];exact hk),hq⟩
 cases op with
 |add=>
  obtain⟨v,hv,hq⟩:=qsm h
  exact⟨v,λdf rd K rest ρ t S hs hk=>jw (e1 hs) (e2 hs) rfl (by rw[<-hv ρ];exact hk),hq⟩
 |sub=>
  obtain⟨v,hv,hq⟩:=qsm h
  exact⟨v,λdf rd K rest ρ t S hs hk=>qcj (e1 hs) (e2 hs) rfl (by rw[<-hv ρ];exact hk),hq⟩
 |mul=>
  obtain⟨v,hv,hq⟩:=qsm h
  exact⟨v,λdf rd K rest ρ t S hs hk=>qyh (e1 hs) (e2 hs) rfl (by rw[<-hv ρ];exact hk),hq⟩
 |quo=>
  obtain⟨hn,h⟩:=h;obtain⟨v,hv,hq⟩:=qsm h
  exact⟨v,λdf rd K rest ρ t S hs hk=>zay (e1 hs) (e2 hs) hn rfl (by rw[<-hv ρ];exact hk),hq⟩
 |rem=>
  obtain⟨hn,h⟩:=h;obtain⟨v,hv,hq⟩:=zgg h
  exact⟨v,λdf rd K rest ρ t S hs hk=>zaz (e1 hs) (e2 hs) hn (by rw[<-hv ρ];exact hk),hq⟩
 |_=>exact cmp h
theorem zil{op:BinOp}{t t':TypeId}{x y:Operand}{m n:List UInt8}{q:SV->Prop}(hx:sval N sl x=some (.s m))(hy:sval N sl y=some (.s n))(h:strW op m n q):∃v,Rule E N ops ⟨d,.binOp op t x y t',T,p,af,none⟩ sl v∧q v:=by
 have cmp:(match cmpS op m n with|some b=>q (.b b)|none=>False)->∃v,Rule E N ops ⟨d,.binOp op t x y t',T,p,af,none⟩ sl v∧q v:=λh=>by
  cases hc:cmpS op m n with
  |none=>rw[hc]at h;exact h.elim
  |some b=>rw[hc]at h;exact⟨.b b,λdf rd K rest ρ t S hs hk=>j5 (qs hs hx) (qs hs hy) hc hk,h⟩
 cases op with
 |add=>exact⟨.s (m++n),λdf rd K rest ρ t S hs hk=>vb (qs hs hx) (qs hs hy) h.1 hk,h.2⟩
 |eql=>exact⟨.p (m=n) inferInstance,λdf rd K rest ρ t S hs hk=>j5 (b:=decide (m=n)) (qs hs hx) (qs hs hy) rfl hk,h⟩
 |neq=>exact⟨.p (¬m=n) inferInstance,λdf rd K rest ρ t S hs hk=>j5 (b:=decide (¬m=n)) (qs hs hx) (qs hs hy) rfl hk,h⟩
 |_=>exact cmp h
theorem zea(ρ:Nat->AV)(b:Bool):(tf b).ev ρ=Bv b:=by cases b<;>rfl
theorem zg8{op:BinOp}{t t':TypeId}{x y:Operand}{vx vy:SV}{q:SV->Prop}(hx:sval N sl x=some vx)(hy:sval N sl y=some vy)(h:binW E.P op t y q vx vy):∃v,Rule E N ops ⟨d,.binOp op t x y t',T,p,af,none⟩ sl v∧q v:=by
 unfold binW at h;split at h
 .split at h
  .rename_i b hb
   cases hu:qzz (E.P.underlying t)with
   |false=>rw[hu]at h;exact h.elim
   |true=>
    rw[hu]at h
    have hu':∃ms,E.P.underlying t=some (.interface ms):=by
     unfold qzz at hu;split at hu
     .rename_i ms he;exact⟨ms,he⟩
     .simp at hu
    obtain⟨ms,hu'⟩:=hu';simp only[cond_true]at h
    have hcase:(∃(u:TypeId)(z:(Nat->AV)->AV),∀ρ,vx.ev ρ=.ifc u (z ρ))∧b=false∨(∀ρ,vx.ev ρ=.v .nilIface)∧b=true:=by
     unfold nilQ at hb;split at hb<;>simp only[Qa,reduceCtorEq]at hb<;>subst hb
     .rename_i u z;exact .inl ⟨⟨u,λρ=>z.ev ρ,λ_=>rfl⟩,rfl⟩
     .rename_i u z;exact .inl ⟨⟨u,λ_=>z,λ_=>rfl⟩,rfl⟩
     .exact .inr ⟨λ_=>rfl,rfl⟩
    rcases hcase with⟨⟨u,z,hz⟩,rfl⟩|⟨hz,rfl⟩
    .cases op with
     |eql=>exact⟨.ff,λdf rd K rest ρ t S hs hk=>qeu ((qs hs hx).trans (hz ρ)) hu' hk,h⟩
     |neq=>exact⟨.tt,λdf rd K rest ρ t S hs hk=>wq ((qs hs hx).trans (hz ρ)) hu' hk,h⟩
     |_=>exact h.elim
    .cases op with
     |eql=>exact⟨.tt,λdf rd K rest ρ t S hs hk=>qew ((qs hs hx).trans (hz ρ)) hu' hk,h⟩
     |neq=>exact⟨.ff,λdf rd K rest ρ t S hs hk=>vp ((qs hs hx).trans (hz ρ)) hu' hk,h⟩
     |_=>exact h.elim
  .exact h.elim
 .split at h
  .rename_i b hb
   cases hu:qz0 (E.P.underlying t)with
   |false=>rw[hu]at h;exact h.elim
   |true=>
    rw[hu]at h
    have hu':∃ms,E.P.underlying t=some (.pointer ms):=by
     unfold qz0 at hu;split at hu
     .rename_i ms he;exact⟨ms,he⟩
     .simp at hu
    obtain⟨ms,hu'⟩:=hu';simp only[cond_true]at h
    have hcase:∀ρ,qb8 (vx.ev ρ)=some b:=λρ=>by
     unfold nilP at hb;split at hb<;>simp only[Qa,reduceCtorEq]at hb<;>subst hb
     .rename_i kk off;simp only[SV.ev];cases ρ kk<;>rfl
     .rfl
     .rfl
     .rfl
    cases op with
    |eql=>exact⟨tf b,λdf rd K rest ρ t S hs hk=>qcx (b:=b) rfl (by rw[qs hs hx];exact hcase ρ) hu' (by rw[<-zea ρ];exact hk),h⟩
    |neq=>exact⟨tf (!b),λdf rd K rest ρ t S hs hk=>qh2 (b:=b) rfl (by rw[qs hs hx];exact hcase ρ) hu' (by rw[<-zea ρ];exact hk),h⟩
    |_=>exact h.elim
  .exact h.elim
 .split at h
  .rename_i kd m kd' n h1 h2
   cases hd:decide (kd=kd')with
   |false=>rw[hd]at h;exact h.elim
   |true=>
    rw[hd]at h;have:kd=kd':=of_decide_eq_true hd;subst this;exact zht hx hy h1 h2 h
  .split at h
   .exact zil hx hy h
   .split at h
    .rename_i a b h1 h2 h3
     exact⟨.b (a==b),λdf rd K rest ρ t S hs hk=>zaw ((qs hs hx).trans (qka h1 ρ)) ((qs hs hy).trans (qka h2 ρ)) h3 hk,h⟩
    .rename_i a b h1 h2 h3
     exact⟨.b (!(a==b)),λdf rd K rest ρ t S hs hk=>zax ((qs hs hx).trans (qka h1 ρ)) ((qs hs hy).trans (qka h2 ρ)) h3 hk,h⟩
    .exact h.elim
def notW(nx:Nat)(k:Ef->Prop):Option SV->Prop
 |some .tt=>k (wj nx .ff)
 |some .ff=>k (wj nx .tt)
 |some (.b c)=>k (wj nx (.b (!c)))
 |some (.p q h)=>k (wj nx (.p (¬q) (@instDecidableNot q h)))
 |_=>False
theorem zh5{t:TypeId}{x:Operand}(h:notW nx k (sval N sl x)):∃e,Loc E N ops ⟨d,.unOp .not t x,T,p,af,none⟩ nx sl H e∧k e:=by
 unfold notW at h;split at h
 .rename_i hv;exact⟨_,jd (v:=.ff) λdf rd K rest ρ t' S hs hk=>j6 (m:=true) (qs hs hv) hk,h⟩
 .rename_i hv;exact⟨_,jd (v:=.tt) λdf rd K rest ρ t' S hs hk=>j6 (m:=false) (qs hs hv) hk,h⟩
 .rename_i c hv;exact⟨_,jd (v:=.b (!c)) λdf rd K rest ρ t' S hs hk=>j6 (qs hs hv) hk,h⟩
 .rename_i q i hv;exact⟨_,jd (v:=.p (¬q) (@instDecidableNot q i)) λdf rd K rest ρ t' S hs hk=>qly (q:=q) (qs hs hv) hk,h⟩
 .exact h.elim
def q47(P:Program)(t t':TypeId)(nx:Nat)(k:Ef->Prop):Option SV->Prop
 |some v=>(match qez v,P.underlying t,P.underlying t' with
  |some (_,m),some _,some (.int kd)=>(match kd with
   |.i64=>(-9223372036854775808<=m∧m<=9223372036854775807)∧k (wj nx (.i m))
   |kd=>k (wj nx (.a (.v (.int kd (kd.wrap m))))))
  |_,_,_=>False)
 |none=>False
theorem zex{t t':TypeId}{x:Operand}(h:q47 E.P t t' nx k (sval N sl x)):∃e,Loc E N ops ⟨d,.convert t t' x,T,p,af,none⟩ nx sl H e∧k e:=by
 unfold q47 at h;split at h
 .rename_i v hv
  split at h
  .rename_i kk m e kd h1 h2 h3
   have:∃v,(∀ρ,SV.ev ρ v=.v (.int kd (kd.wrap m)))∧k (wj nx v):=by
    cases kd<;>first|exact⟨.i m,λρ=>by rw[zu h.1.1 h.1.2];rfl,h.2⟩|exact⟨_,λ_=>rfl,h⟩
   obtain⟨u,hu,hk⟩:=this;exact⟨_,jd λdf rd K rest ρ t' S hs hk=>qsf ((qs hs hv).trans (qbt h1 ρ)) h2 h3 rfl (by rw[<-hu ρ];exact hk),hk⟩
  .exact h.elim
 .exact h.elim
def qz6(P:Program)(t:TypeId)(nx:Nat)(k:Ef->Prop):Option SV->Prop
 |some v=>(match P.underlying t with
  |some dsc=>bif qpl dsc then False else k (wj nx (.ifc t v))
  |none=>False)
 |none=>False
theorem zcj{t:TypeId}{x:Operand}(h:qz6 E.P t nx k (sval N sl x)):∃e,Loc E N ops ⟨d,.makeInterface t x,T,p,af,none⟩ nx sl H e∧k e:=by
 unfold qz6 at h;split at h
 .rename_i v hv
  split at h
  .rename_i dsc hd
   cases hi:qpl dsc with
   |true=>rw[hi]at h;exact h.elim
   |false=>rw[hi]at h;exact⟨_,jd λdf rd K rest ρ t' S hs hk=>vc hd hi (by rw[qs hs hv];exact hk),h⟩
  .exact h.elim
 .exact h.elim
def q5x(N:Nat)(sl:List (Nat×SV))(fn:Fn)(xs ys:Array Operand)(nx:Nat)(k:Ef->Prop):Prop:=
 match qkr N sl xs.toList,qkr N sl ys.toList with
 |some a,some b=>k (wj nx (.fn fn a b))
 |_,_=>False
theorem zfu{fn:Fn}{xs ys:Array Operand}(h:q5x N sl fn xs ys nx k):∃e,Loc E N ops ⟨d,.makeFunc fn xs ys,T,p,af,none⟩ nx sl H e∧k e:=by
 unfold q5x at h;split at h
 .rename_i a b ha hb
  exact⟨_,jd λdf rd K rest ρ t' S hs hk=>qev (by rw[qjy hs ha,qjy hs hb];exact hk),h⟩
 .exact h.elim
def qmf(P:Program)(t:TypeId)(f:Nat)(nx:Nat)(k:Ef->Prop):Option SV->Prop
 |some (.bx b off)=>(match qa7 P t f with
  |some (o,sz,_)=>bif Qc sz 0 then False else k (wj nx (.bx b (off+o)))
  |none=>False)
 |some (.a (.pp cs))=>(match qa7 P t f with
  |some (o,sz,_)=>bif !Nat.beq sz 0&&Ql o cs.length then k (wj nx (.a (.pp (cs.drop o))))else False
  |none=>False)
 |_=>False
theorem zbd(x:AV)(off o:Nat):∃a b,bxAt x off=.bx a b off∧bxAt x (off+o)=.bx a b (off+o):=by
 cases x<;>exact⟨_,_,rfl,rfl⟩
theorem qzi{t:TypeId}{f:Nat}{x:Operand}(h:qmf E.P t f nx k (sval N sl x)):∃e,Loc E N ops ⟨d,.fieldAddr t x f,T,p,af,none⟩ nx sl H e∧k e:=by
 unfold qmf at h;split at h
 .rename_i b off hv
  split at h
  .rename_i o sz agg hf
   cases hz:Qc sz 0 with
   |true=>rw[hz]at h;exact h.elim
   |false=>
    rw[hz]at h;refine⟨_,jd λdf rd K rest ρ t' S hs hk=>?_,h⟩;obtain⟨a1,b1,g1,g2⟩:=zbd (ρ b) off o;exact zr ((qs hs hv).trans g1) hf hz (by rw[<-g2];exact hk)
  .exact h.elim
 .rename_i cs hv
  split at h
  .rename_i o sz agg hf
   cases hz:(!Nat.beq sz 0&&Ql o cs.length)with
   |false=>rw[hz]at h;exact h.elim
   |true=>
    rw[hz]at h;simp only[Qe,Zx]at hz;exact⟨_,jd (v:=.a (.pp (cs.drop o))) λdf rd K rest ρ t' S hs hk=>qb0 (qs hs hv) hf hz.1 hz.2 hk,h⟩
  .exact h.elim
 .exact h.elim
def qzj(P:Program)(t:TypeId)(f:Nat)(nx:Nat)(k:Ef->Prop):Option SV->Prop
 |some (.ag cs)=>(match qa7 P t f with
  |some (o,sz,agg)=>optW nx [] k (qmq sz agg o cs)
  |none=>False)
 |some (.a (.ag cs))=>(match qa7 P t f with
  |some (o,sz,agg)=>(match jy sz agg o cs with
   |some r=>k (wj nx (nf r))
   |none=>False)
  |none=>False)
 |_=>False
theorem zbu{t:TypeId}{f:Nat}{x:Operand}(h:qzj E.P t f nx k (sval N sl x)):∃e,Loc E N ops ⟨d,.field t x f,T,p,af,none⟩ nx sl H e∧k e:=by
 unfold qzj at h;split at h
 .rename_i cs hv
  split at h
  .rename_i o sz agg hf
   cases hl:qmq sz agg o cs with
   |none=>rw[hl]at h;exact h.elim
   |some v=>
    rw[hl]at h;exact⟨_,jd λdf rd K rest ρ t' S hs hk=>qie (qs hs hv) hf (qrd ρ hl) hk,h⟩
  .exact h.elim
 .rename_i cs hv
  split at h
  .rename_i o sz agg hf
   split at h
   .rename_i r hr
    exact⟨_,jd λdf rd K rest ρ t' S hs hk=>qie (qs hs hv) hf hr (by rw[<-qmt ρ r];exact hk),h⟩
   .exact h.elim
  .exact h.elim
 .exact h.elim
def qq6(i:Nat)(nx:Nat)(k:Ef->Prop):Option SV->Prop
 |some (.tu vs)=>optW nx [] k vs[i]?
 |some (.a (.tu vs))=>(match vs[i]?with
  |some r=>k (wj nx (nf r))
  |none=>False)
 |_=>False
theorem q5i{i:Nat}{x:Operand}(h:qq6 i nx k (sval N sl x)):∃e,Loc E N ops ⟨d,.extract x i,T,p,af,none⟩ nx sl H e∧k e:=by
 unfold qq6 at h;split at h
 .rename_i vs hv
  cases hl:vs[i]?with
  |none=>rw[hl]at h;exact h.elim
  |some v=>
   rw[hl]at h;exact⟨_,jd λdf rd K rest ρ t' S hs hk=>zk (xs:=SV.evs ρ vs) (qs hs hv) (by rw[zw,Qq,hl];rfl) hk,h⟩
 .rename_i vs hv
  split at h
  .rename_i r hr
   exact⟨_,jd λdf rd K rest ρ t' S hs hk=>zk (qs hs hv) hr (by rw[<-qmt ρ r];exact hk),h⟩
  .exact h.elim
 .exact h.elim
def qmd(H:Nat->Option SR)(sz:Nat):SV->Option (List AV×List Nat)
 |.a (.sl z xs _)=>bif Qc z sz then some (xs,[])else none
 |.a (.v (.slice none 0 0))=>some ([],[])
 |.tp b=>(match H b with
  |some (.tip z _ xs)=>bif Qc z sz then some (xs,[b])else none
  |_=>none)
 |_=>none
theorem qgg{S:List AObj}{ρ:Nat->AV}{v:SV}{sz:Nat}{xs:List AV}{ks:List Nat}(h:qmd H sz v=some (xs,ks))(hS:SatF S ρ (resF ks H)):Wk (v.ev ρ) (.sl sz xs none):=by
 unfold qmd at h;split at h
 .rename_i z ys tip
  cases hz:Qc z sz with
  |false=>rw[hz]at h;simp at h
  |true=>
   rw[hz]at h;simp only[cond_true,Qa,Qh]at h;obtain⟨rfl,rfl⟩:=h;rw[<-Qd hz];exact zdu _ _ _
 .simp only[Qa,Qh]at h
  obtain⟨rfl,rfl⟩:=h;exactλ_ _ h=>qbo h
 .rename_i b
  split at h
  .rename_i z T' ys hb
   cases hz:Qc z sz with
   |false=>rw[hz]at h;simp at h
   |true=>
    rw[hz]at h;simp only[cond_true,Qa,Qh]at h;obtain⟨rfl,rfl⟩:=h;rw[<-Qd hz];exact(qvn (hS.ok b _ ((z8 b).trans hb))).1
  .simp at h
 .simp at h
end
end Go.Av
namespace Go.Av
open Go Go.RowKit
section
variable {E : Env} {rd : Option Nat} {N : Nat} {ops : Array Oper} {K : AS → Prop} {s : AS} {rest : List Oper} {d : Option Tmp} {T : TypeId} {p : String} {af : Array Edge}
theorem qfu{x:Operand}{t e:TypeId}{lo hi:Option Operand}{sz:Nat}{agg:Bool}{xs:List AV}{i j:Nat}(hx:Wk (qg N s x) (.sl sz xs none))(hu:E.P.underlying t=some (.slice e))(ht:tyOf E.P e=some (sz,agg))
  (cz:match lo with|none=>i=0|some y=>∃k,qg N s y=.v (.int k (i:Int))) (cg:match hi with|none=>j=xs.length|some y=>∃k,qg N s y=.v (.int k (j:Int))) (h1:i<=j) (h2:j<=xs.length)
  (h:AOps E rd N ops rest K (s.put d (.sl sz ((xs.take j).drop i) none))):AOps E rd N ops (⟨d,.slice t x lo hi none,T,p,af,none⟩::rest) K s:=by
 refine qv rfl (qu nofun λB0 w0 G a w _ hI=>?_);have he:=hx _ _ (hI.eval x);generalize hv:a.eval x=v at he;have px:∃b len cap,v=.slice b len cap:=by cases he<;>exact⟨_,_,_,rfl⟩
 obtain⟨b,len,cap,rfl⟩:=px;obtain⟨hl,hlc,hr⟩:=qt4 he h1 h2;refine⟨_,w,G,_,s.st,?_,.refl G,hI.agree,hr,h⟩
 have a8:=qt8 hu ht b len cap (lo.map a.eval) (hi.map a.eval) i j w (by
  cases lo with
  |none=>exact cz
  |some y=>obtain⟨k,hy⟩:=cz;exact⟨k,hI.evalv hy⟩) (by
  cases hi with
  |none=>simp only at cg;simp only[Option.map_none];omega
  |some y=>obtain⟨k,hy⟩:=cg;exact⟨⟨k,hI.evalv hy⟩,Om⟩) h1
 generalize a.eval=ρ at hv a8;simp only[execOp,hv];simp[Instr.sliceAt,run_underlying hu,a8]
theorem qsh{x y:Operand}{t e:TypeId}{sz:Nat}{agg:Bool}{xs:List AV}{k:IntKind}{i:Int}{n:Nat}{z:AV}(hx:Wk (qg N s x) (.sl sz xs none))(hy:qg N s y=.v (.int k i))(hu:E.P.underlying t=some (.slice e))(ht:tyOf E.P e=some (sz,agg))(hi:i=n)(hz:xs[n]?=some z)
  (h:AOps E rd N ops rest K (s.put d (.pp z.cells))):AOps E rd N ops (⟨d,.indexAddr t x y,T,p,af,none⟩::rest) K s:=by
 refine qv rfl (qu nofun λB0 w0 G a w _ hI=>?_);subst hi;have he:=hx _ _ (hI.eval x);have gr:=hI.evalv hy;generalize hv:a.eval x=v at he;have e8:=lt_of_getElem? hz
 cases he with
 |sl0=>simp at hz
 |sl _ _ _ b off cap pub hp hw b9 m8 htip s4=>
  have pf:z.cells.length=sz:=hw z (Zm hz);have r6:=jh hw;have d8:(n+1)*sz<=xs.length*sz:=Zb _ e8;rw[Zt]at d8;refine⟨.pointer (some ⟨b,off+n*sz,none⟩),w,G,.pp z.cells,s.st,?_,.refl G,hI.agree,?_,h⟩
  .generalize a.eval=ρ at hv gr
   simp only[execOp,hv,gr];simp[Instr.indexAt,asIntOf,run_underlying hu,e8,(vj ht w).1,Addr.add_lit]
  .refine .pp _ b _ pub hp Om λj q r h1 h2=>?_
   have hj:j<sz:=by have:=lt_of_getElem? h1;omega
   have hf:=qjd hw hz j hj;exact m8 (n*sz+j) q r (by rw[hf];exact h1) (by rw[<-h2];congr 1;omega)
theorem qyd{x y:Operand}{t u T':TypeId}{sz bytes:Nat}{xs ys:List AV}{c:AV}(hx:qg N s x=c)(hy:Wk (qg N s y) (.sl sz ys none))
  (ht:E.P.underlying t=some (.slice T')) (hu:E.P.underlying u=some (.slice T')) (hT:yr E.P T' sz bytes) (hc:TipO 0 s.st sz T' xs c) (p6:va (flat ys)=true) (cj:xs.length+ys.length<=maxLen) (hby:(xs.length+ys.length)*bytes<=140737488355328)
  (h:∀c' st' t1,TipO 0 st' sz T' (xs++ys) c'->Fr s.st st' t1->(c=.sl sz xs (some t1)∨s.st.length<=t1)->(∀o,o∈qr c'->o=t1)->AOps E rd N ops rest K (AS.put ⟨s.t,st',s.df⟩ d c')):AOps E rd N ops (⟨d,.call ⟨.builtin .append,#[x,y],#[t,u]⟩,T,p,af,none⟩::rest) K s:=by
 refine qv rfl (qu nofun λB0 w0 G a w _ hI=>?_);have hyr:Rel G (.sl sz ys none) (a.eval y):=hy _ _ (hI.eval y);rcases hc with(⟨rf,hcn⟩|⟨t1,h1,h2,h3⟩)|⟨rf,o,ver,f,hco⟩
 .subst rf
  have d8:=G.le_new 0 0 0 false;have hA:=hI.agree.newTip sz T';have hv:a.eval x=.slice none 0 0:=hI.evalv (hx.trans hcn);have hn:=hI.agree.n;obtain⟨news,k1,k2,k3⟩:=y3 (P:=E.P) hA (hyr.mono d8) (by simpa[va]using p6)
  have hr:Rel (G.new 0 0 0 false) (.sl sz [] (some s.st.length)) (a.eval x):=by
   rw[hv];exact .sl0 sz _ none 0 λt ht=>by simp only[Qa]at ht;subst ht;exact⟨by simp[Gh.new,hn],rfl,rfl⟩
  obtain⟨v',w',G',e1,e2,e3,e4⟩:=qb5 (ty:=T) hA ht hu (.inr ⟨_,rfl⟩) hT (t:=s.st.length) (n:=0) Sx hr rfl rfl k1 k2 k3 (by simpa using cj) (by simpa using hby);refine⟨v',w',G',_,_,?_,d8.trans e2,e3,e4,h _ _ s.st.length (.inl (.inr ⟨s.st.length,rfl,?_,Qy _⟩)) ⟨Sx,λk hk e8=>?_⟩ (.inr (Qg _)) (λo ho=>by simp only[qr,Qb]at ho;exact ho)⟩
  .generalize a.eval=ρ at e1
   simp[execOp,resolve,invoke,builtin,e1]
  .simp
  .rw[Qi (Ne.symm hk),Qo e8]
 .obtain⟨news,k1,k2,k3⟩:=y3 (P:=E.P) hI.agree hyr (by simpa[va]using p6)
  obtain⟨v',w',G',e1,e2,e3,e4⟩:=qb5 (ty:=T) hI.agree ht hu (.inr ⟨_,rfl⟩) hT h2 (hI.eval_of (hx.trans h1)) rfl rfl k1 k2 k3 cj hby;refine⟨v',w',G',_,_,?_,e2,e3,e4,h _ _ t1 (.inl (.inr ⟨t1,rfl,?_,Qy _⟩)) ⟨Sx,λk hk e8=>?_⟩ (.inl h1) (λo ho=>by simp only[qr,Qb]at ho;exact ho)⟩
  .generalize a.eval=ρ at e1
   simp[execOp,resolve,invoke,builtin,e1]
  .rw[Zf]
   exact ke h2
  .rw[Qi (Ne.symm hk)]
 .subst rf
  have he:=hI.eval_of (hx.trans hco);obtain⟨news,k1,k2,k3⟩:=y3 (P:=E.P) hI.agree hyr (by simpa[va]using p6);have hex:=hT.ex;obtain⟨i,z,hi,hz,o9,hbt,pf⟩:=hex;generalize hv:a.eval x=v at he
  cases he with
  |os _ _ _ _ blk _ hn hvv hbb=>
   by_cases dv:ys.length=0
   .have hy0:ys=[]:=Qj dv
    subst hy0
    have hk1':Src E.P w (a.eval y) 0 i.size []:=by
     have:news=[]:=Qj (by simpa using k1.count);rw[o9];rw[this]at k1;exact k1
    refine⟨_,w,G,_,s.st,?_,.refl G,hI.agree,.os o ver f 0 blk 0 hn hvv hbb,h _ s.st s.st.length (.inr ⟨rfl,o,ver,f,rfl⟩) ⟨Qg _,λ_ _ _=>rfl⟩ (.inr (Qg _)) (λo ho=>by simp[qr]at ho)⟩;have:=qca (ty:=T) ht hu (.inr ⟨_,rfl⟩) hi hk1' (some ⟨blk,f,none⟩) 0 0 (Qg _);generalize a.eval=ρ at hv this;simp[execOp,resolve,invoke,builtin,hv,this]
   .have d8:=G.le_new 0 0 0 false
    have hA:=hI.agree.newTip sz T';have hz63:0+ys.length<=maxLen:=by simpa using cj
    obtain⟨v',w',G',e1,e2,e3,e4⟩:=qr9 (ty:=T) hA ht hu (.inr ⟨_,rfl⟩) hT (t:=s.st.length) (n:=0) (xs:=[]) Sx rfl rfl k1 k2 (λi a b h1 h2=>(k3 i a b h1 h2).mono d8) hz63 (some ⟨blk,f,none⟩) 0 []
     (run_firstCells_some w.drew sz 0 ⟨blk,f,none⟩ 0 0 [] Sx Sx) Om Sx (by simp[flat]) Sx (by simp[flat]) (by rw[Qu,nextslicecap_zero Om];have:=hby;simp at this;omega) dv
    refine⟨v',w',G',_,_,?_,d8.trans e2,e3,e4,h _ _ s.st.length (.inl (.inr ⟨s.st.length,rfl,?_,Qy _⟩)) ⟨Sx,λk hk e8=>?_⟩ (.inr (Qg _)) (λo ho=>by simp only[qr,Qb]at ho;exact ho)⟩
    .generalize a.eval=ρ at e1 hv
     simp[execOp,resolve,invoke,builtin,hv,e1]
    .simp
    .rw[Qi (Ne.symm hk),Qo e8]
theorem qqs{t e:TypeId}{len sz:Nat}{agg:Bool}{parts:Array (Nat×Operand)}{zs cs xs:List AV}(ps:List (Nat×AV))(gm:(vk N s parts).length=ps.length)(hps:∀(i:Nat)(q p:Nat×AV),(vk N s parts)[i]?=some q->ps[i]?=some p->q.1=p.1∧Wk q.2 p.2)
  (hu:E.P.underlying t=some (.slice e)) (ht:tyOf E.P e=some (sz,agg)) (hz:qes E.P e len=some zs)
  (hf:qcp (λi=>some (i*sz,sz)) zs ps=some cs) (b9:xs.length=len) (r6:flat xs=cs) (hw:∀x∈xs,x.cells.length=sz) (o9:Ql (len*sz) 16777216=true)
  (h:AOps E rd N ops rest K (s.put d (.sl sz xs none))):AOps E rd N ops (⟨d,.buildSlice t len parts,T,p,af,none⟩::rest) K s:=by
 refine qv rfl (qu nofun λB0 w0 G a w _ hI=>?_)
 have hparts:∀(i:Nat)(p:Nat×AV)(v:Nat×Value),ps[i]?=some p->(parts.toList.map λx=>(x.1,a.eval x.2))[i]?=some v->p.1=v.1∧Rel G p.2 v.2:=λi p v hp hv=>by
  have hi:i<(vk N s parts).length:=by rw[gm];exact lt_of_getElem? hp
  have hq:(vk N s parts)[i]?=some (vk N s parts)[i]:=Qf hi;obtain⟨h1,h2⟩:=hps i _ p hq hp;obtain⟨h3,h4⟩:=qkn hI parts i _ v hq hv;exact⟨h1.symm.trans h3,h2 _ _ h4⟩
 have fp:=(vj ht w).1;have o9:=Qm o9
 have hrunE:∃c':Array Value,(execOp a.eval ⟨d,.buildSlice t len parts,T,p,af,none⟩).run E.P w=.ok (.value (.slice (some ⟨w.heap.size,0,none⟩) len len)) (w.alloc (.cells c' e))∧RelC G cs c':=by
  unfold qes at hz
  cases hi:E.P.info? e with
  |none=>rw[hi]at hz;simp at hz
  |some i=>
   rw[hi]at hz;simp only at hz;have hs:i.size=sz:=by simpa[sizeOf,typeInfo,hi]using fp
   rw[hs]at hz
   have key:∃c0:Array Value,RelC G zs c0∧∀(Q:Array Value->Sem Value),((do
     let zero <-if len*sz=0 then pure #[]else do pure (<-zeroValue e).cells
     Q ((Ze (len*sz)).map (zero[· %zero.size]!)):Sem Value)).run E.P w=(Q c0).run E.P w:=by
    by_cases h0:len*sz=0
    .rw[h0]at hz
     simp at hz;subst hz;exact⟨#[],⟨rfl,Sx⟩,λQ=>by have e:Ze 0= #[]:=(by simp[Ze]);simp[h0,e]⟩
    .have:Qc (len*sz) 0=false:=zq h0
     rw[this]at hz;simp only[cond_false]at hz
     cases hzr:i.zero with
     |none=>rw[hzr]at hz;simp at hz
     |some z=>
      rw[hzr]at hz;simp only[Qt,Qa]at hz;subst hz;refine⟨(Ze (len*sz)).map (z.cells[· %z.cells.size]!),⟨Sx,λk x y h1 h2=>?_⟩,λQ=>by simp[h0,zeroValue,typeInfo,hi,hzr]⟩;have hk:k<len*sz:=by have:=lt_of_getElem? h1;simpa using this
      simp[hk]at h1 h2;subst h1;subst h2;exact .v _
   obtain⟨c0,hc0,hrun0⟩:=key;obtain⟨c',h1,h2⟩:=qjc (λi=>some (i*sz,sz)) ps (parts.toList.map λx=>(x.1,a.eval x.2)) zs c0 cs (by rw[<-gm];simp[vk]) hparts hc0 hf;refine⟨c',?_,h2⟩;generalize a.eval=ρ at h1;have hb:¬16777216<len*sz:=Om
   have hg:∃m:String,(execOp ρ ⟨d,.buildSlice t len parts,T,p,af,none⟩).run E.P w=(((do
    let zero <-if len*sz=0 then pure #[]else do pure (<-zeroValue e).cells
    (λc=>(do
    let some cells:=Instr.fill (λi=>some (i*sz,sz)) c (parts.map λx=>(x.1,ρ x.2)).toList|stuck m
    pure (Value.slice (some (<-newRow e cells)) len len):Sem Value)) ((Ze (len*sz)).map (zero[· %zero.size]!)):Sem Value)).run E.P w).andThen λv w'=>.ok (.value v) w':=by
    apply Exists.intro;simp only[execOp,Instr.buildSlice];simp[run_underlying hu,fp,hb];rfl
   obtain⟨m,hg⟩:=hg
   have hQ:=hrun0 (λc=>do
    let some cells:=Instr.fill (λi=>some (i*sz,sz)) c (parts.map λx=>(x.1,ρ x.2)).toList|stuck m
    pure (.slice (some (<-newRow e cells)) len len))
   rw[hg,hQ];simp[h1,newRow,newObj,Sem.run]
 obtain⟨c',a8,h2⟩:=hrunE;obtain⟨d8,hA⟩:=hI.agree.newPub e c' (0,0) c'.toList (λi y hy=>by simpa using hy);refine⟨.slice (some ⟨w.heap.size,0,none⟩) len len,w.alloc (.cells c' e),_,.sl sz xs none,s.st,a8,d8,hA,?_,h⟩;rw[<-b9]
 cases xs with
 |nil=>exact .sl0 sz none _ _ Sx
 |cons x0 xr=>
  refine .sl sz _ none w.heap.size 0 _ c'.toList (by simp[Gh.publish]) hw (by rw[r6,h2.1];simp) (λk x y g1 g2=>?_) (λt ht=>by simp at ht) (Qg _);rw[r6]at g1;exact(h2.2 k x y g1 (by simpa using g2)).mono d8
end
def zl{α:Type}:Nat->List α->List (Nat×α)
 |_,[]=>[]
 |i,x::r=>(i,x)::zl (i+1) r
theorem qmg{sz:Nat}:∀(ys:List AV)(k:Nat)(done zs:List AV),(∀y∈ys,y.okc=true∧y.cells.length=sz)->done.length=k*sz->zs.length=ys.length*sz->
  qcp (λi=>some (i*sz,sz)) (done++zs) (zl k ys)=some (done++flat ys)
 | [],k,done,zs,_,_,hz=>by
  have:zs=[]:=Qj (by simpa using hz);subst this
  rfl
 |y::r,k,done,zs,hy,hd,hz=>by
  obtain⟨h1,h2⟩:=hy y Sx;simp only[List.length_cons,Zt]at hz;simp only[zl,qcp,h1,h2];have hb:Qc sz sz=true:=Sx
  have hl:Ql (k*sz+sz) (done++zs).length=true:=Nat.ble_eq_true_of_le So;rw[hb,hl]
  have e:z0 (done++zs) (k*sz) y.cells=(done++y.cells)++zs.drop sz:=by
   unfold z0;rw[<-hd,List.take_left,h2,List.drop_append];simp
  simp only[Bool.and_self,cond_true];rw[e,qmg r (k+1) (done++y.cells) (zs.drop sz) (λy' hy'=>hy y' (by simp[hy'])) (by simp[hd,h2,Zt]) So];simp[flat]
def qlf(P:Program):Nat->TypeId->List (Option Nat)
 |0,_=>[none]
 |n+1,t=>match P.underlying t with
  |some (.struct fs)=>fs.toList.flatMap λf=>qlf P n f.type
  |some (.slice e)=>(match tyOf P e with
   |some (sz,_)=>[some sz]
   |none=>[none])
  |_=>[none]
def nrm1:Option Nat->AV->AV
 |some sz,.v (.slice none 0 0)=>.sl sz [] none
 |_,x=>x
def nrmL:List (Option Nat)->List AV->List AV
 |k::r,x::s=>nrm1 k x::nrmL r s
 |_,l=>l
def nrmT(P:Program)(t:TypeId)(x:AV):AV:=
 match x with
 |.ag cs=>.ag (nrmL (qlf P 4 t) cs)
 |.v (.slice none 0 0)=>(match qlf P 1 t with
  | [k]=>nrm1 k (.v (.slice none 0 0))
  |_=>.v (.slice none 0 0))
 |x=>x
def zipT(P:Program):List TypeId->List AV->List AV
 |t::r,x::s=>nrmT P t x::zipT P r s
 |_,l=>l
theorem q4d(k:Option Nat)(x:AV):Wk x (nrm1 k x):=by
 unfold nrm1;split
 .exactλ_ _ h=>qbo h
 .exact wx _
theorem q3x:∀(ks:List (Option Nat))(l:List AV),l.length=(nrmL ks l).length∧∀(i:Nat)(x y:AV),l[i]?=some x->(nrmL ks l)[i]?=some y->Wk x y
 | [],l=>⟨by simp[nrmL],λi x y hx hy=>by simp only[nrmL]at hy;rw[hx]at hy;simp only[Qa]at hy;subst hy;exact wx _⟩
 |k::r,[]=>⟨by simp[nrmL],λi x y hx=>by simp at hx⟩
 |k::r,z::s=>by
  obtain⟨h1,h2⟩:=q3x r s;refine⟨by simp[nrmL,h1],λi x y hx hy=>?_⟩;simp only[nrmL]at hy
  cases i with
  |zero=>simp at hx hy;subst hx;subst hy;exact q4d k _
  |succ i=>exact h2 i x y (by simpa using hx) (by simpa using hy)
theorem zgx(P:Program)(t:TypeId)(x:AV):Wk x (nrmT P t x):=by
 unfold nrmT;split
 .obtain⟨h1,h2⟩:=q3x (qlf P 4 t) (by assumption)
  exact q60 h1 h2
 .split
  .exact q4d _ _
  .exact wx _
 .exact wx _
theorem q4i(P:Program):∀(ts:List TypeId)(l:List AV),l.length=(zipT P ts l).length∧∀(i:Nat)(x y:AV),l[i]?=some x->(zipT P ts l)[i]?=some y->Wk x y
 | [],l=>⟨by simp[zipT],λi x y hx hy=>by simp only[zipT]at hy;rw[hx]at hy;simp only[Qa]at hy;subst hy;exact wx _⟩
 |t::r,[]=>⟨by simp[zipT],λi x y hx=>by simp at hx⟩
 |t::r,z::s=>by
  obtain⟨h1,h2⟩:=q4i P r s;refine⟨by simp[zipT,h1],λi x y hx hy=>?_⟩;simp only[zipT]at hy
  cases i with
  |zero=>simp at hx hy;subst hx;subst hy;exact zgx P t _
  |succ i=>exact h2 i x y (by simpa using hx) (by simpa using hy)
def qtl:AV->Bool
 |.v (.slice none 0 0)=>true
 |_=>false
theorem qwi{x:AV}(h:qtl x=true):x=zf:=by
 unfold qtl at h;split at h
 .rfl
 .simp at h
def fcN(n:Nat)(k:Nat->Prop):Prop:=
 bif Qc n 1 then k 1 else bif Qc n 2 then k 2 else bif Qc n 3 then k 3 else bif Qc n 4 then k 4 else bif Qc n 5 then k 5 else k n
theorem qn9(n:Nat)(k:Nat->Prop):fcN n k=k n:=by
 unfold fcN;by_cases h1:n=1
 .subst h1;rfl
 rw[zq h1];by_cases h2:n=2
 .subst h2;rfl
 rw[zq h2];by_cases h3:n=3
 .subst h3;rfl
 rw[zq h3];by_cases h4:n=4
 .subst h4;rfl
 rw[zq h4];by_cases h5:n=5
 .subst h5;rfl
 rw[zq h5];rfl
def qtr:List (Option Nat)->List AV->(List AV->Prop)->Prop
 |c::r,x::s,k=>(match qtl x,c with
  |true,some sz=>fcN sz λsz=>qtr r s λl=>k (.sl sz [] none::l)
  |_,_=>qtr r s λl=>k (x::l))
 |_,l,k=>k l
def q50:List AV->Bool
 | []=>false
 |x::r=>qtl x||q50 r
def nrmK(P:Program)(t:TypeId)(x:AV)(k:AV->Prop):Prop:=
 match q50 x.cells with
 |false=>k x
 |true=>(match x with
  |.ag cs=>qtr (qlf P 4 t) cs λl=>k (.ag l)
  |x=>(match qlf P 1 t with
   | [some sz]=>fcN sz λsz=>k (.sl sz [] none)
   |_=>k x))
def WkL(l m:List AV):Prop:=l.length=m.length∧∀(i:Nat)(x y:AV),l[i]?=some x->m[i]?=some y->Wk x y
theorem qps:WkL [] []:=⟨rfl,λi x y h=>by simp at h⟩
theorem qj1{x y:AV}{l m:List AV}(h:Wk x y)(hl:WkL l m):WkL (x::l) (y::m):=⟨by simp[hl.1],λi a b ha hb=>by
 cases i with
 |zero=>simp at ha hb;subst ha;subst hb;exact h
 |succ i=>exact hl.2 i a b (by simpa using ha) (by simpa using hb)⟩
theorem qr2:∀l:List AV,WkL l l
 | []=>qps
 |x::r=>qj1 (wx x) (qr2 r)
theorem qri:∀(cs:List (Option Nat))(l:List AV)(k:List AV->Prop),qtr cs l k->∃m,WkL l m∧k m
 | [],l,k,h=>⟨l,qr2 l,by cases l<;>exact h⟩
 |c::r,[],k,h=>⟨[],qps,h⟩
 |c::r,x::s,k,h=>by
  simp only[qtr]at h;split at h
  .rename_i sz hx
   rw[qn9]at h;obtain⟨m,h1,h2⟩:=qri r s _ h;exact⟨_,qj1 (by rw[qwi hx];exactλ_ _ h=>qbo h) h1,h2⟩
  .obtain⟨m,h1,h2⟩:=qri r s _ h
   exact⟨_,qj1 (wx x) h1,h2⟩
theorem qu7{P:Program}{t:TypeId}{x:AV}{k:AV->Prop}(h:nrmK P t x k):∃y,Wk x y∧k y:=by
 unfold nrmK at h;split at h
 .exact⟨x,wx x,h⟩
 .rename_i hn
  split at h
  .rename_i cs
   obtain⟨m,h1,h2⟩:=qri _ _ _ h;exact⟨_,q60 h1.1 h1.2,h2⟩
  .rename_i hx
   split at h
   .rename_i sz _
    rw[qn9]at h
    have:x=zf:=by
     have hc:x.cells=[x]:=by cases x<;>first|rfl|exact absurd rfl (hx _)
     rw[hc]at hn;simp only[q50,Zo]at hn;exact qwi hn
    exact⟨_,by rw[this];exactλ_ _ h=>qbo h,h⟩
   .exact⟨x,wx x,h⟩
def q52(P:Program)(t:TypeId):List AV->(List AV->Prop)->Prop
 | [],k=>k []
 |x::r,k=>nrmK P t x λx=>q52 P t r λr=>k (x::r)
theorem q0d{P:Program}{t:TypeId}:∀{l:List AV}{k:List AV->Prop},q52 P t l k->∃m,WkL l m∧k m
 | [],k,h=>⟨[],qps,h⟩
 |x::r,k,h=>by
  obtain⟨y,h1,h2⟩:=qu7 h;obtain⟨m,h3,h4⟩:=q0d h2;exact⟨_,qj1 h1 h3,h4⟩
def zipK(P:Program):List TypeId->List AV->(List AV->Prop)->Prop
 |t::r,x::s,k=>nrmK P t x λx=>zipK P r s λl=>k (x::l)
 |_,l,k=>k l
theorem q4h{P:Program}:∀{ts:List TypeId}{l:List AV}{k:List AV->Prop},zipK P ts l k->∃m,WkL l m∧k m
 | [],l,k,h=>⟨l,qr2 l,by cases l<;>exact h⟩
 |t::r,[],k,h=>⟨[],qps,h⟩
 |t::r,x::s,k,h=>by
  obtain⟨y,h1,h2⟩:=qu7 h;obtain⟨m,h3,h4⟩:=q4h h2;exact⟨_,qj1 h1 h3,h4⟩
def q5d(P:Program)(T:TypeId):Option (Nat×Nat):=
 match P.info? T with
 |some i=>(match i.zero with
  |some z=>bif Qc z.cells.size i.size then some (i.size,i.bytes)else none
  |none=>none)
 |none=>none
theorem zbr{P:Program}{T:TypeId}{sz bytes:Nat}(h:q5d P T=some (sz,bytes)):yr P T sz bytes:=by
 unfold q5d at h;split at h
 .rename_i i hi
  split at h
  .rename_i z hz
   cases hb:Qc z.cells.size i.size with
   |false=>rw[hb]at h;simp at h
   |true=>
    rw[hb]at h;simp only[cond_true,Qa,Qh]at h;exact⟨i,z,hi,hz,h.1,h.2,(Qd hb).trans h.1⟩
  .simp at h
 .simp at h
end Go.Av
namespace Go.Av
open Go Go.RowKit
section
variable {E : Env} {N : Nat} {ops : Array Oper} {nx : Nat} {sl : List (Nat × SV)} {H : Nat → Option SR} {k : Ef → Prop} {d : Option Tmp} {T : TypeId} {p : String} {af : Array Edge}
def bndW(v:Option SV)(q:Nat->Prop):Prop:=
 match v with
 |some v=>(match qez v with
  |some (_,n)=>∃i:Nat,n=(i:Int)∧q i
  |none=>False)
 |none=>False
theorem qc5{x:Operand}{q:Nat->Prop}(h:bndW (sval N sl x) q):∃(i:Nat)(kd:IntKind),(∀{ρ t:Nat->AV}{S:List AObj}{df:List Nat},SlOk ρ t sl->qg N ⟨t,S,df⟩ x=.v (.int kd (i:Int)))∧q i:=by
 unfold bndW at h;split at h
 .rename_i v hv
  split at h
  .rename_i kd n hn
   obtain⟨i,rfl,h⟩:=h;exact⟨i,kd,λhs=>(qs hs hv).trans (qbt hn _),h⟩
  .exact h.elim
 .exact h.elim
def qkj:Option TypeDesc->Bool
 |some .string=>true
 |_=>false
theorem qrc{u:Option TypeDesc}(h:qkj u=true):u=some .string:=by
 unfold qkj at h;split at h
 .rfl
 .simp at h
def elT:Option TypeDesc->Option TypeId
 |some (.slice e)=>some e
 |_=>none
theorem qbg{u:Option TypeDesc}{e:TypeId}(h:elT u=some e):u=some (.slice e):=by
 unfold elT at h;split at h
 .simp only[Qa]at h;subst h;rfl
 .simp at h
def q08(P:Program)(N:Nat)(sl:List (Nat×SV))(H:Nat->Option SR)(nx:Nat)(k:Ef->Prop)(t:TypeId)(x:Operand)(lo hi:Option Operand):Prop:=
 match sval N sl x with
 |some (.s l)=>bif qkj (P.underlying t)then(match lo,hi with
  |none,none=>k (wj nx (.s l))
  |some y,none=>bndW (sval N sl y) λi=>i<=l.length∧k (wj nx (.s (l.drop i)))
  |none,some z=>bndW (sval N sl z) λj=>j<=l.length∧k (wj nx (.s (l.take j)))
  |some y,some z=>bndW (sval N sl y) λi=>bndW (sval N sl z) λj=>i<=j∧j<=l.length∧k (wj nx (.s ((l.take j).drop i))))else False
 |some v=>(match elT (P.underlying t)with
  |some e=>(match tyOf P e with
   |some (sz,_)=>(match qmd H sz v with
    |some (xs,ks)=>(match lo,hi with
     |none,none=>k ⟨.a (.sl sz xs none),ks,[],nx⟩
     |some y,none=>bndW (sval N sl y) λi=>i<=xs.length∧k ⟨.a (.sl sz (xs.drop i) none),ks,[],nx⟩
     |none,some z=>bndW (sval N sl z) λj=>j<=xs.length∧k ⟨.a (.sl sz (xs.take j) none),ks,[],nx⟩
     |some y,some z=>bndW (sval N sl y) λi=>bndW (sval N sl z) λj=>i<=j∧j<=xs.length∧k ⟨.a (.sl sz ((xs.take j).drop i) none),ks,[],nx⟩)
    |none=>False)
   |none=>False)
  |none=>False)
 |none=>False
theorem zdh{t:TypeId}{x:Operand}{lo hi:Option Operand}(h:q08 E.P N sl H nx k t x lo hi):∃e,Loc E N ops ⟨d,.slice t x lo hi none,T,p,af,none⟩ nx sl H e∧k e:=by
 unfold q08 at h;split at h
 .rename_i l hv
  cases hu:qkj (E.P.underlying t)with
  |false=>rw[hu]at h;exact h.elim
  |true=>
   rw[hu]at h;simp only[cond_true]at h;have hu:=qrc hu;split at h
   .exact⟨_,jd (v:=.s l) λdf rd K rest ρ t' S hs hk=>qek (i:=0) (j:=l.length) (qs hs hv) hu rfl rfl Om Om Om (by simpa[SV.ev]using hk),h⟩
   .obtain⟨i,kd,hi,h1,h⟩:=qc5 h
    exact⟨_,jd (v:=.s (l.drop i)) λdf rd K rest ρ t' S hs hk=>qnq (qs hs hv) (hi hs) hu h1 hk,h⟩
   .obtain⟨j,kd,hj,h1,h⟩:=qc5 h
    exact⟨_,jd (v:=.s (l.take j)) λdf rd K rest ρ t' S hs hk=>qj5 (qs hs hv) (hj hs) hu h1 hk,h⟩
   .obtain⟨i,kd,hi,h⟩:=qc5 h
    obtain⟨j,kd',hj,h1,h2,h⟩:=qc5 h;exact⟨_,jd (v:=.s ((l.take j).drop i)) λdf rd K rest ρ t' S hs hk=>qnr (qs hs hv) (hi hs) (hj hs) hu h1 h2 hk,h⟩
 .rename_i v hns hv
  split at h
  .rename_i e he
   have hu:=qbg he;split at h
   .rename_i sz agg ht
    split at h
    .rename_i xs ks mw
     split at h
     .exact⟨_,w6 (v:=.a (.sl sz xs none)) λdf rd K rest ρ t' S hs hS hk=>qfu (i:=0) (j:=xs.length) (by rw[qs hs hv];exact qgg mw hS) hu ht rfl rfl Om Om (by simpa[SV.ev]using hk),h⟩
     .obtain⟨i,kd,hi,h1,h⟩:=qc5 h
      exact⟨_,w6 (v:=.a (.sl sz (xs.drop i) none)) λdf rd K rest ρ t' S hs hS hk=>qfu (i:=i) (j:=xs.length) (by rw[qs hs hv];exact qgg mw hS) hu ht ⟨kd,hi hs⟩ rfl h1 Om (by simpa[SV.ev]using hk),h⟩
     .obtain⟨j,kd,hj,h1,h⟩:=qc5 h
      exact⟨_,w6 (v:=.a (.sl sz (xs.take j) none)) λdf rd K rest ρ t' S hs hS hk=>qfu (i:=0) (j:=j) (by rw[qs hs hv];exact qgg mw hS) hu ht rfl ⟨kd,hj hs⟩ Om h1 (by simpa[SV.ev]using hk),h⟩
     .obtain⟨i,kd,hi,h⟩:=qc5 h
      obtain⟨j,kd',hj,h1,h2,h⟩:=qc5 h;exact⟨_,w6 (v:=.a (.sl sz ((xs.take j).drop i) none)) λdf rd K rest ρ t' S hs hS hk=>qfu (i:=i) (j:=j) (by rw[qs hs hv];exact qgg mw hS) hu ht ⟨kd,hi hs⟩ ⟨kd',hj hs⟩ h1 h2 (by simpa[SV.ev]using hk),h⟩
    .exact h.elim
   .exact h.elim
  .exact h.elim
 .exact h.elim
def qzx(P:Program)(N:Nat)(sl:List (Nat×SV))(nx:Nat)(k:Ef->Prop)(t:TypeId)(x y:Operand):Prop:=
 match sval N sl x with
 |some (.s l)=>bif qkj (P.underlying t)then bndW (sval N sl y) λi=>i<l.length∧k (wj nx (.a (Uv (l.getD i 0))))else False
 |_=>False
theorem zb9{t:TypeId}{x y:Operand}(h:qzx E.P N sl nx k t x y):∃e,Loc E N ops ⟨d,.index t x y,T,p,af,none⟩ nx sl H e∧k e:=by
 unfold qzx at h;split at h
 .rename_i l hv
  cases hu:qkj (E.P.underlying t)with
  |false=>rw[hu]at h;exact h.elim
  |true=>
   rw[hu]at h;simp only[cond_true]at h;obtain⟨i,kd,hi,h1,h⟩:=qc5 h;exact⟨_,jd (v:=.a (Uv (l.getD i 0))) λdf rd K rest ρ t' S hs hk=>qlx (qs hs hv) (hi hs) (qrc hu) h1 hk,h⟩
 .exact h.elim
def qmk(P:Program)(N:Nat)(sl:List (Nat×SV))(H:Nat->Option SR)(nx:Nat)(k:Ef->Prop)(t:TypeId)(x y:Operand):Prop:=
 match sval N sl x,elT (P.underlying t)with
 |some v,some e=>(match tyOf P e with
  |some (sz,_)=>(match qmd H sz v with
   |some (xs,ks)=>bndW (sval N sl y) λi=>∃z,xs[i]?=some z∧k ⟨.a (.pp z.cells),ks,[],nx⟩
   |none=>False)
  |none=>False)
 |_,_=>False
theorem qzw{t:TypeId}{x y:Operand}(h:qmk E.P N sl H nx k t x y):∃e,Loc E N ops ⟨d,.indexAddr t x y,T,p,af,none⟩ nx sl H e∧k e:=by
 unfold qmk at h;split at h
 .rename_i v e hv he
  split at h
  .rename_i sz agg ht
   split at h
   .rename_i xs ks mw
    obtain⟨i,kd,hi,z,hz,h⟩:=qc5 h;exact⟨_,w6 (v:=.a (.pp z.cells)) λdf rd K rest ρ t' S hs hS hk=>qsh (by rw[qs hs hv];exact qgg mw hS) (hi hs) (qbg he) ht rfl hz hk,h⟩
   .exact h.elim
  .exact h.elim
 .exact h.elim
def lenW(P:Program)(H:Nat->Option SR)(nx:Nat)(k:Ef->Prop)(t:TypeId):Option SV->Prop
 |some (.s l)=>bif qkj (P.underlying t)then k (wj nx (.i l.length))else False
 |some (.tp b)=>(match H b,elT (P.underlying t)with
  |some (.tip _ _ xs),some _=>k ⟨.i xs.length,[b],[],nx⟩
  |some (.own _ _ xs),some _=>k ⟨.i xs.length,[b],[],nx⟩
  |_,_=>False)
 |some (.a x)=>(match lenA x,elT (P.underlying t)with
  |some n,some _=>k (wj nx (.i n))
  |_,_=>False)
 |_=>False
theorem zak{b sz:Nat}{T:TypeId}{xs:List AV}{c:AV}{S:List AObj}(h:TipO b S sz T xs c):lenA c=some xs.length:=by
 rcases h with(⟨rfl,rfl⟩|⟨t,rfl,_⟩)|⟨rfl,o,v,f,rfl⟩<;>rfl
theorem qgy{b sz:Nat}{T:TypeId}{xs:List AV}{c:AV}{S:List AObj}(h:TipO b S sz T xs c):tpAt c=c:=by
 unfold tpAt;rw[(qvn h).2];rfl
theorem q0r{sz:Nat}{T:TypeId}{xs:List AV}{c:AV}{S:List AObj}(h:OwnS S sz T xs c):lenA c=some xs.length:=by
 rcases h with⟨rfl,h⟩|⟨_,_,_,_,rfl,_⟩
 .exact h.len
 .rfl
theorem qnc{sz:Nat}{T:TypeId}{xs:List AV}{c:AV}{S:List AObj}(h:OwnS S sz T xs c):tpAt c=c:=by
 rcases h with⟨_,h⟩|⟨_,_,_,_,rfl,_⟩
 .unfold tpAt
  rw[h.one];rfl
 .rfl
theorem zhw{t:TypeId}{ts:Array TypeId}{x:Operand}(ht:ts[0]?=some t)(h:lenW E.P H nx k t (sval N sl x)):∃e,Loc E N ops ⟨d,.call ⟨.builtin .len,#[x],ts⟩,T,p,af,none⟩ nx sl H e∧k e:=by
 unfold lenW at h;split at h
 .rename_i l hv
  cases hu:qkj (E.P.underlying t)with
  |false=>rw[hu]at h;exact h.elim
  |true=>rw[hu]at h;exact⟨_,jd (v:=.i l.length) λdf rd K rest ρ t' S hs hk=>wm (qs hs hv) ht (qrc hu) hk,h⟩
 .rename_i b hv
  split at h
  .rename_i sz T' xs e hb he
   refine⟨_,w6 (v:=.i xs.length) λdf rd K rest ρ t' S hs hS hk=>?_,h⟩;have:=hS.ok b _ ((z8 b).trans hb);exact kc (v:=ρ b) ((qs hs hv).trans (qgy this)) (zak this) ht (qbg he) hk
  .rename_i sz T' xs e hb he
   refine⟨_,w6 (v:=.i xs.length) λdf rd K rest ρ t' S hs hS hk=>?_,h⟩;have:=hS.ok b _ ((z8 b).trans hb);exact kc (v:=ρ b) ((qs hs hv).trans (qnc this)) (q0r this) ht (qbg he) hk
  .exact h.elim
 .rename_i y hv
  split at h
  .rename_i n e hn he
   exact⟨_,jd (v:=.i n) λdf rd K rest ρ t' S hs hk=>kc (qs hs hv) hn ht (qbg he) hk,h⟩
  .exact h.elim
 .exact h.elim
def qod(H:Nat->Option SR)(sz:Nat)(T:TypeId):SV->Option (List AV×List Nat)
 |.tp b=>(match H b with
  |some (.tip z T' xs)=>bif Qc z sz&&Qc T' T then some (xs,[b])else none
  |_=>none)
 |.a (.v (.slice none 0 0))=>some ([],[])
 |_=>none
theorem q8m{S:List AObj}{ρ:Nat->AV}{v:SV}{sz:Nat}{T:TypeId}{xs:List AV}{ks ks':List Nat}(h:qod H sz T v=some (xs,ks))(hS:SatF S ρ (resF (ks++ks') H)):TipO 0 S sz T xs (v.ev ρ)∧∀o,o∈qr (v.ev ρ)->∃b,ks=[b]∧o∈qr (ρ b):=by
 unfold qod at h;split at h
 .rename_i b
  split at h
  .rename_i z T' ys hb
   cases hz:(Qc z sz&&Qc T' T)with
   |false=>rw[hz]at h;simp at h
   |true=>
    rw[hz]at h;simp only[cond_true,Qa,Qh]at h;obtain⟨rfl,rfl⟩:=h;simp only[Qe]at hz;have e1:=Qd hz.1;have e2:=Qd hz.2;subst e1;subst e2;have:=hS.ok b _ (by unfold resF;simp[memN];exact hb);have e:(SV.tp b).ev ρ=ρ b:=qgy this;rw[e];exact⟨this,λo ho=>⟨b,rfl,ho⟩⟩
  .simp at h
 .simp only[Qa,Qh]at h
  obtain⟨rfl,rfl⟩:=h;exact⟨.inl (.inl ⟨rfl,rfl⟩),λo ho=>by simp[SV.ev,qr]at ho⟩
 .simp at h
theorem q5q{v:SV}{sz:Nat}{T:TypeId}{xs:List AV}{ks:List Nat}(h:qod H sz T v=some (xs,ks)):∀b,ks=[b]->∃z T ys,H b=some (.tip z T ys):=λb hb=>by
 unfold qod at h;split at h
 .split at h
  .rename_i b' z T' ys hk
   cases hz:(Qc z sz&&Qc T' T)with
   |false=>rw[hz]at h;simp at h
   |true=>
    rw[hz]at h;simp only[cond_true,Qa,Qh]at h;rw[hb]at h;simp only[Xf,and_true]at h;exact⟨z,T',ys,by rw[<-h.2];exact hk⟩
  .simp at h
 .simp only[Qa,Qh]at h
  rw[hb]at h;simp at h
 .simp at h
theorem qn6{v:SV}{sz:Nat}{xs:List AV}{ks:List Nat}(h:qmd H sz v=some (xs,ks)):∀b,memN ks b=true->∃z T ys,H b=some (.tip z T ys):=λb hb=>by
 unfold qmd at h;split at h
 .rename_i z ys tip
  cases hz:Qc z sz with
  |false=>rw[hz]at h;simp at h
  |true=>
   rw[hz]at h;simp only[cond_true,Qa,Qh]at h;rw[<-h.2]at hb;simp[memN]at hb
 .simp only[Qa,Qh]at h
  rw[<-h.2]at hb;simp[memN]at hb
 .rename_i b'
  split at h
  .rename_i z T' ys hk
   cases hz:Qc z sz with
   |false=>rw[hz]at h;simp at h
   |true=>
    rw[hz]at h;simp only[cond_true,Qa,Qh]at h;rw[<-h.2]at hb;simp only[memN,Zn,Xe,Zo]at hb;rw[Qd hb];exact⟨z,T',ys,hk⟩
  .simp at h
 .simp at h
def appW(P:Program)(H:Nat->Option SR)(nx:Nat)(k:Ef->Prop)(t u:TypeId):Option SV->Option SV->Prop
 |some vx,some vy=>(match elT (P.underlying t),elT (P.underlying u)with
  |some e,some e'=>(match q5d P e with
   |some (sz,bytes)=>(match qod H sz e vx,qmd H sz vy with
    |some (xs,kx),some (ys,ky)=>bif Qc e e'&&Qk 0 bytes&&Ql bytes 140737&&(kx++ky).all (λb=> !Nat.beq b nx)then((xs.length+ys.length<=1000000000∨(xs.length+ys.length)*bytes<=140737488355328)∧va (flat ys)=true)∧k ⟨.tp nx,kx++ky,kx.map (λb=>(b,none))++[(nx,some (.tip sz e (xs++ys)))],nx+1⟩else False
    |_,_=>False)
   |none=>False)
  |_,_=>False)
 |_,_=>False
theorem q8v(l:List Nat)(k:Nat):lkS (l.map λb=>(b,(none:Option SR))) k=bif memN l k then some none else none:=by
 induction l with
 |nil=>rfl
 |cons b r ih=>
  simp only[Qs,lkS,memN,Zn]at ih⊢;by_cases h:b=k
  .subst h
   have:Qc b b=true:=Sx
   simp only[this,cond_true,Bool.true_or]
  .rw[zq h,zq (λe=>h e.symm),Qz]
   simp only[cond_false];exact ih
theorem qgq(a b:List Nat)(k:Nat):memN (a++b) k=(memN a k||memN b k):=by simp[memN]
theorem zg1{t u:TypeId}{x y:Operand}(h:appW E.P H nx k t u (sval N sl x) (sval N sl y)):∃e,Loc E N ops ⟨d,.call ⟨.builtin .append,#[x,y],#[t,u]⟩,T,p,af,none⟩ nx sl H e∧k e:=by
 unfold appW at h;split at h
 .rename_i vx vy sq hvy
  split at h
  .rename_i e e' he mv
   split at h
   .rename_i sz bytes hb
    split at h
    .rename_i xs kx ys ky hg mw
     cases hc:(Qc e e'&&Qk 0 bytes&&Ql bytes 140737&&(kx++ky).all (λb=> !Nat.beq b nx))with
     |false=>rw[hc]at h;exact h.elim
     |true=>
      rw[hc]at h;simp only[Qe]at hc;have ee:=Qd hc.1.1.1;subst ee;have hbp:=jj hc.1.1.2;have tg:=Qm hc.1.2
      have hnx:∀b∈kx++ky,b≠nx:=λb hb e=>by
       have:=Qn.1 hc.2 b hb;subst e;simp at this
      obtain⟨⟨h1,h2⟩,h⟩:=h;refine⟨_,λdf rd K rest ρ t' S hs hS hk=>?_,h⟩;simp only at hS hk;obtain⟨hT,hl⟩:=q8m hg hS;have hSy:SatF S ρ (resF ky H):=⟨λk r hk=>hS.ok k r (by have:=jv hk;unfold resF;rw[qgq,this.1,Zu];exact this.2),λk k' r r' d7 g1 g2=>hS.sep k k' r r' d7 (by have:=jv g1;unfold resF;rw[qgq,this.1,Zu];exact this.2) (by have:=jv g2;unfold resF;rw[qgq,this.1,Zu];exact this.2)⟩;have h47:(xs.length+ys.length)*bytes<=140737488355328:=h1.elim (λh=>Qx (Nat.mul_le_mul h tg) Om) id;have cj:xs.length+ys.length<=maxLen:=Qx (Qx (Nat.le_mul_of_pos_right _ hbp) h47) (by decide);refine qyd (qs hs sq) (by rw[qs hs hvy];exact qgg mw hSy) (qbg he) (qbg mv) (zbr hb) hT h2 cj h47 λc' S' t1 g1 g2 g3 g4=>?_;simp only at g2 g3
      have hresE:∀b,kx=[b]->∃r,resF (kx++ky) H b=some r:=λb db=>by
       obtain⟨z,T2,ys2,q⟩:=q5q hg b db;refine⟨.tip z T2 ys2,?_⟩;unfold resF;rw[db];simp[memN];exact q
      have key:∀k r,chF (kx.map (λb=>(b,none))++[(nx,some (.tip sz e (xs++ys)))]) (resF (kx++ky) H) k=some r->(k=nx∧r=.tip sz e (xs++ys))∨(k≠nx∧memN kx k=false∧resF (kx++ky) H k=some r):=λk r hk=>by
       unfold chF at hk;rw[qbu]at hk;rw[q8v]at hk
       cases hm:memN kx k with
       |true=>rw[hm]at hk;simp at hk
       |false=>
        rw[hm]at hk;simp only[cond_false,lkS]at hk;by_cases hn:nx=k
        .subst hn
         have:Qc nx nx=true:=Sx
         rw[this]at hk;simp only[cond_true,Qa]at hk;exact .inl ⟨rfl,hk.symm⟩
        .rw[zq hn]at hk
         exact .inr ⟨λe=>hn e.symm,rfl,hk⟩
      have e9:∀k r,k≠nx->memN kx k=false->resF (kx++ky) H k=some r->∀o,o∈qr (ρ k)->o≠t1∧o<S.length:=λk r d7 hm hk o ho=>by
       have e8:=SR.ok_lt (hS.ok k r hk) ho;refine⟨λe=>?_,e8⟩;subst e;rcases g3 with g3|g3
       .obtain⟨b,db,gp⟩:=hl o (by rw[g3];exact Qb.2 rfl)
        have rk:b≠k:=λe=>by subst e;rw[db]at hm;simp[memN]at hm
        have gj:=hresE b db;obtain⟨r',gj⟩:=gj;exact hS.sep b k r' r rk gj hk o gp ho
       .omega
      have:=hk (upd ρ nx c') S' ⟨λk hk=>jq _ _ (by simp only at hk;omega),⟨λk r hk=>?_,λk k' r1 r2 d7 q1 q2 o ho e7=>?_⟩,g2.len,λj hj d7=>?_,λk r hk o ho=>?_⟩
      .simpa only[SV.ev,zi,qgy g1]using this
      .rcases key k r hk with⟨rfl,rfl⟩|⟨q1,q2,q3⟩
       .rw[zi];exact g1
       .rw[jq _ _ q1]
        have h3:=hS.ok k r q3
        cases r with
        |cells T1 cs=>
         exfalso;have:=(jv q3)
         have hmy:memN ky k=true:=by
          have h5:=this.1;rw[qgq,q2,Qz]at h5;exact h5
         obtain⟨z,T2,ys2,q⟩:=qn6 mw k hmy;rw[this.2]at q
         simp at q
        |tip z T1 zs=>exact SR.ok_of (f:=λ_=>false) (r:=.tip z T1 zs) (ρ:=ρ) rfl (λk hk=>by simp at hk) h3 λo ho=>g2.same o (e9 k _ q1 q2 q3 o ho).1 (e9 k _ q1 q2 q3 o ho).2
        |own z T1 zs=>exact SR.ok_of (f:=λ_=>false) (r:=.own z T1 zs) (ρ:=ρ) rfl (λk hk=>by simp at hk) h3 λo ho=>g2.same o (e9 k _ q1 q2 q3 o ho).1 (e9 k _ q1 q2 q3 o ho).2
        |obj P1=>exact SR.ok_of (f:=λ_=>false) (r:=.obj P1) (ρ:=ρ) rfl (λk hk=>by simp at hk) h3 λo ho=>g2.same o (e9 k _ q1 q2 q3 o ho).1 (e9 k _ q1 q2 q3 o ho).2
        |rows T1 ys cs=>
         exfalso;have:=(jv q3)
         have hmy:memN ky k=true:=by
          have h5:=this.1;rw[qgq,q2,Qz]at h5;exact h5
         obtain⟨z,T2,ys2,q⟩:=qn6 mw k hmy;rw[this.2]at q
         simp at q
        |clu P1 vs1=>
         exfalso;have:=(jv q3)
         have hmy:memN ky k=true:=by
          have h5:=this.1;rw[qgq,q2,Qz]at h5;exact h5
         obtain⟨z,T2,ys2,q⟩:=qn6 mw k hmy;rw[this.2]at q;simp at q
      .rcases key k r1 q1 with⟨rfl,rfl⟩|⟨f1,f2,f3⟩
       .rcases key k' r2 q2 with⟨rfl,rfl⟩|⟨e1,e2,e3⟩
        .exact d7 rfl
        .rw[zi]at ho
         rw[jq _ _ e1]at e7;exact(e9 k' r2 e1 e2 e3 o e7).1 (g4 o ho)
       .rw[jq _ _ f1]at ho
        rcases key k' r2 q2 with⟨rfl,rfl⟩|⟨e1,e2,e3⟩
        .rw[zi]at e7
         exact(e9 k r1 f1 f2 f3 o ho).1 (g4 o e7)
        .rw[jq _ _ e1]at e7
         exact hS.sep k k' r1 r2 d7 f3 e3 o ho e7
      .refine g2.same j (λe=>?_) hj
       subst e;rcases g3 with g3|g3
       .obtain⟨b,db,gp⟩:=hl j (by rw[g3];exact Qb.2 rfl)
        obtain⟨r2,hr2⟩:=hresE b db;exact d7 b r2 hr2 gp
       .omega
      .rcases key k r hk with⟨rfl,rfl⟩|⟨q1,q2,q3⟩
       .rw[zi]at ho
        have:=g4 o ho;subst this;rcases g3 with g3|g3
        .obtain⟨b,db,gp⟩:=hl o (by rw[g3];exact Qb.2 rfl)
         obtain⟨r2,hr2⟩:=hresE b db;exact .inr ⟨b,r2,hr2,gp⟩
        .exact .inl g3
       .rw[jq _ _ q1]at ho
        exact .inr ⟨k,r,q3,ho⟩
    .exact h.elim
   .exact h.elim
  .exact h.elim
 .exact h.elim
end
end Go.Av
namespace Go.Av
open Go Go.RowKit
structure qpa (E:Env) (f:FuncId):Prop where
 run:∀vs w,(callFunc f vs).run E.P w=.ok (.enter f vs) w
def qz(E:Env)(f:FuncId)(vs:List SV)(nx:Nat)(H:Nat->Option SR)(e:Ef):Prop:=
 ∀(ρ:Nat->AV)(S:List AObj),SatF S ρ (resF e.ks H)->qm E f (SV.evs ρ vs) S λr S'=>∃ρ',r=e.val.ev ρ'∧qa9 ρ S nx H e ρ' S'
def nums:Nat->List (Nat×SV)->Bool
 |_,[]=>true
 |i,(j,_)::r=>Qc j i&&nums (i+1) r
section
variable {E : Env} {N : Nat} {ops : Array Oper} {nx : Nat} {sl : List (Nat × SV)} {H : Nat → Option SR} {k : Ef → Prop} {d : Option Tmp} {T : TypeId} {p : String} {af : Array Edge}
theorem qx3{f:FuncId}{xs ys:List AV}{st:List AObj}{R:AV->List AObj->Prop}(hl:xs.length=ys.length)(hw:∀(i:Nat)(x y:AV),xs[i]?=some x->ys[i]?=some y->Wk x y)(h:qm E f ys st R):qm E f xs st R:=
 ⟨λB0 w0 G vals w hL hA hR=>h.run B0 w0 G vals w hL hA ⟨by rw[<-hl];exact hR.1,λi a b ha hb=>by
  have hi:=lt_of_getElem? ha;have hx:xs[i]?=some (xs[i]'(by omega)):=Qf Om
  exact hw i _ a hx ha G b (hR.2 i _ b hx hb)⟩⟩
def parT(P:Program)(f:FuncId):List TypeId:=match P.funcs[f]?with
 |some fn=>fn.params.toList
 |none=>[]
def qxy(P:Program)(f:FuncId):Option (List AV)->Option (List AV)
 |some xs=>some (zipT P (parT P f) xs)
 |none=>none
theorem ze0{f:FuncId}{vs:List SV}{args:List AV}{r0:AV}(hc:∀S,qm E f args S λr S'=>r=r0∧S'=S)(ha:qxy E.P f (frzs (resF (SV.kss vs) H) vs)=some args):qz E f vs nx H ⟨nf r0,SV.kss vs,[],nx⟩:=λρ S hS=>by
 cases hf:frzs (resF (SV.kss vs) H) vs with
 |none=>rw[hf]at ha;simp[qxy]at ha
 |some xs=>
 rw[hf]at ha;simp only[qxy,Qa]at ha;obtain⟨h1,h2⟩:=qfh hS vs xs hf;obtain⟨h3,h4⟩:=q4i E.P (parT E.P f) xs;rw[ha]at h3 h4;refine qx3 (h1.trans h3) (λi x y hx hy=>?_) ((hc S).mono ?_)
 .have hi:i<xs.length:=by rw[<-h1];exact lt_of_getElem? hx
  have hz:xs[i]?=some xs[i]:=Qf hi;exactλG v hv=>h4 i _ y hz hy G v (h2 i x _ hx hz G v hv)
 rintro r S' ⟨rfl,rfl⟩;exact⟨ρ,(qmt ρ _).symm,λ_ _=>rfl,⟨λk r hk=>hS.ok k r hk,λk k' r r' d7 h1 h2=>hS.sep k k' r r' d7 h1 h2⟩,Qg _,λ_ _ _=>rfl,λk r hk o ho=>.inr ⟨k,r,hk,ho⟩⟩
def fnOf:SV->Option (FuncId×List SV×List SV)
 |.fn (.func f) a b=>some (f,a,b)
 |.a (.fn (.func f) a b)=>some (f,nfs a,nfs b)
 |_=>none
theorem q3o{v:SV}{f:FuncId}{a b:List SV}(h:fnOf v=some (f,a,b))(ρ:Nat->AV):v.ev ρ=.fn (.func f) (SV.evs ρ a) (SV.evs ρ b):=by
 unfold fnOf at h;split at h
 .simp only[Qa,Qh]at h;obtain⟨rfl,rfl,rfl⟩:=h;rfl
 .simp only[Qa,Qh]at h;obtain⟨rfl,rfl,rfl⟩:=h;simp only[SV.ev,qhq]
 .simp at h
def q42(E:Env)(N:Nat)(sl:List (Nat×SV))(H:Nat->Option SR)(nx:Nat)(k:Ef->Prop)(x:Operand)(xs:Array Operand):Prop:=
 match sval N sl x,qkr N sl xs.toList with
 |some v,some vs=>(match fnOf v with
  |some (f,a,b)=>qpa E f∧∃e,qz E f (a++(vs++b)) nx H e∧k e
  |none=>False)
 |_,_=>False
theorem zeu{x:Operand}{xs:Array Operand}{ts:Array TypeId}(h:q42 E N sl H nx k x xs):∃e,Loc E N ops ⟨d,.call ⟨.value x,xs,ts⟩,T,p,af,none⟩ nx sl H e∧k e:=by
 unfold q42 at h;split at h
 .rename_i v vs hv hvs
  split at h
  .rename_i f a b hf
   obtain⟨hE,e,hc,h⟩:=h;refine⟨e,λdf rd K rest ρ t S hs hS hk=>qsd ((qs hs hv).trans (q3o hf ρ)) hE.run ?_,h⟩;have:=hc ρ S hS;rw[qjy hs hvs];have he:SV.evs ρ (a++(vs++b))=SV.evs ρ a++SV.evs ρ vs++SV.evs ρ b:=by simp[zw]
   rw[he]at this;refine this.mono ?_;rintro r S' ⟨ρ',rfl,hp⟩;exact hk ρ' S' hp
  .exact h.elim
 .exact h.elim
def bslW(P:Program)(N:Nat)(bxs:List Nat)(d:Option Tmp)(sl:List (Nat×SV))(H:Nat->Option SR)(nx:Nat)(k:Ef->Prop)(t:TypeId)(len:Nat)(parts:Array (Nat×Operand)):Prop:=
 match elT (P.underlying t)with
 |some e=>(match tyOf P e,qes P e len,qm6 N sl parts.toList with
  |some (sz,_),some zs,some ps=>(match len with
   |0=>(match ps with
    | []=>k ⟨.tp nx,[],[(nx,some (.tip sz e []))],nx+1⟩
    |_=>False)
   |len=>bif qtk bxs d then(bif ps.all (λq=>q.2.all λ_=>false)&&nums 0 ps&&Qc ps.length len&&(SV.evs (λ_=>zf) (ps.map Qp)).all (λy=>y.okc&&Qc y.cells.length sz)&&Qc zs.length (len*sz)&&Ql (len*sz) 16777216&&Qk 0 len&&Ql len 16777216 then
     k ⟨.tp nx,[],[(nx,some (.tip sz e (SV.evs (λ_=>zf) (ps.map Qp))))],nx+1⟩else False)else(match frzs (resF (SV.kss (ps.map Qp)) H) (ps.map Qp)with
    |some ys=>q52 P e ys λys=>fcN sz λsz=>bif nums 0 ps&&Qc ys.length len&&ys.all (λy=>y.okc&&Qc y.cells.length sz)&&Qc zs.length (len*sz)&&Ql (len*sz) 16777216 then k ⟨.a (.sl sz ys none),SV.kss (ps.map Qp),[],nx⟩else False
    |none=>False))
  |_,_,_=>False)
 |none=>False
theorem q0i:∀{ps:List (Nat×SV)}{i0:Nat}{ys:List AV},nums i0 ps=true->ps.length=ys.length->∀(i:Nat)(q:Nat×SV)(r:Nat×AV),ps[i]?=some q->(zl i0 ys)[i]?=some r->q.1=r.1∧(ps.map Qp)[i]?=some q.2∧ys[i]?=some r.2
 | [],_,_,_,_,i,_,_,h,_=>by simp at h
 |(j,v)::ps,i0,[],_,hl,_,_,_,_,_=>by simp at hl
 |(j,v)::ps,i0,y::ys,h,hl,i,q,r,hq,hr=>by
  simp only[nums,Qe]at h;simp only[zl]at hr
  cases i with
  |zero=>
   simp only[Qr,Qa]at hq hr;subst hq;subst hr
   exact⟨Qd h.1,rfl,rfl⟩
  |succ i=>
   have:=q0i h.2 (by simpa using hl) i q r (by simpa using hq) (by simpa using hr)
   simpa using this
theorem qop{α:Type}:∀(l:List α)(i:Nat),(zl i l).length=l.length
 | [],_=>rfl
 |x::r,i=>by simp[zl,qop r]
theorem q9s(t:Nat->AV)(i:Nat)(a b:AV):put (put t i a) i b=put t i b:=by
 funext j;by_cases h:j=i
 .subst h;rw[xh,xh]
 .rw[qai _ _ _ _ h,qai _ _ _ _ h,qai _ _ _ _ h]
theorem qoq:∀(ps:List (Nat×SV))(i:Nat),nums i ps=true->(ps.map λq=>(q.1,q.2.ev λ_=>zf))=zl i (SV.evs (λ_=>zf) (ps.map Qp))
 | [],_,_=>rfl
 |(j,v)::r,i,h=>by
  simp only[nums,Qe]at h;simp only[Qs,SV.evs,zl,qoq r (i+1) h.2];rw[Qd h.1]
theorem zha{bxs:List Nat}{t:TypeId}{len:Nat}{parts:Array (Nat×Operand)}(h:bslW E.P N bxs d sl H nx k t len parts):∃e,Loc E N ops ⟨d,.buildSlice t len parts,T,p,af,none⟩ nx sl H e∧k e:=by
 unfold bslW at h;split at h
 .rename_i e he
  split at h
  .rename_i sz agg zs ps ht hz hp
   split at h
   .split at h
    .refine⟨_,qi1 (λk r hk=>by rw[qdv]at hk;simp at hk) λdf rd K rest ρ t' S hs _ hk=>?_,h⟩
     have pq:vk N ⟨t',S,df⟩ parts=[]:=by unfold vk;rw[qgu hs hp];rfl
     have r6:zs=[]:=by
      unfold qes at hz;split at hz
      .simp at hz;exact hz
      .simp at hz
     subst r6;refine qaw (loc:=[]) (st:=S) Sx (qbg he) ht hz (by rw[pq];rfl) Sx ?_;have:=hk (.os S.length 0 0 0 0) [.cells 0 e []] (.inr ⟨rfl,_,_,_,rfl⟩) (λo ho=>by simp[qr]at ho)
     simpa[SV.ev,zi,tpAt,AV.one]using this
    .exact h.elim
   .rename_i d7
    cases r9:qtk bxs d with
    |true=>
     rw[r9]at h;simp only[cond_true]at h
     cases hc:(ps.all (λq=>q.2.all λ_=>false)&&nums 0 ps&&Qc ps.length len&&(SV.evs (λ_=>zf) (ps.map Qp)).all (λy=>y.okc&&Qc y.cells.length sz)&&Qc zs.length (len*sz)&&Ql (len*sz) 16777216&&Qk 0 len&&Ql len 16777216)with
     |false=>rw[hc]at h;exact h.elim
     |true=>
      rw[hc]at h;simp only[Qe]at hc;obtain⟨⟨⟨⟨⟨⟨⟨c0,c1⟩,c2⟩,c3⟩,c4⟩,c5⟩,c6⟩,c7⟩:=hc;have c2:=Qd c2;have c4:=Qd c4;have hyl:(SV.evs (λ_=>zf) (ps.map Qp)).length=len:=by rw[zw];simpa using c2
      have c3:∀y∈SV.evs (λ_=>zf) (ps.map Qp),y.okc=true∧y.cells.length=sz:=λy hy=>by
       have:=Qn.1 c3 y hy;simp only[Qe]at this;exact⟨this.1,Qd this.2⟩
      refine⟨_,qi1 (λk r hk=>by rw[qdv]at hk;simp at hk) λdf rd K rest ρ t' S hs _ hk=>?_,h⟩
      have fx:(ps.map λq=>(q.1,q.2.ev ρ))=zl 0 (SV.evs (λ_=>zf) (ps.map Qp)):=by
       rw[<-qoq ps 0 c1];refine List.map_congr_left λq hq=>?_;rw[xe (f:=λ_=>false) (ρ:=λ_=>zf) (ρ':=ρ) (λk hk=>by simp at hk) q.2 (Qn.1 c0 q hq)]
      have pq:vk N ⟨t',S,df⟩ parts=zl 0 (SV.evs (λ_=>zf) (ps.map Qp)):=by rw[<-fx];unfold vk;exact qgu hs hp
      have nw:=qmg (sz:=sz) _ 0 [] zs c3 Sx (by rw[c4,hyl]);have r6:(flat (SV.evs (λ_=>zf) (ps.map Qp))).length=len*sz:=by rw[jh λx hx=>(c3 x hx).2,hyl]
      refine qaw (loc:=[]) (st:=S) Sx (qbg he) ht hz (by rw[pq];simpa using nw) c5 ?_
      cases d with
      |none=>simp[qtk]at r9
      |some x=>
       refine q4s x (o:=S.length) (sz:=sz) (len:=len) (cap:=len) (T':=e) (xs:=SV.evs (λ_=>zf) (ps.map Qp)) (by simp[AS.put,xh]) (by simp[AS.put]) r6 hyl (jj c6) (Qg _) (by have:=Qm c7;simp only[maxLen];omega) (λx hx=>(c3 x hx).2) (by rw[<-r6,List.take_length]) ?_;have:=hk (.sl sz (SV.evs (λ_=>zf) (ps.map Qp)) (some S.length)) [.tip len sz e] (.inl (.inr ⟨S.length,rfl,by rw[hyl];exact we,Qy _⟩)) (λo ho=>by simp only[qr,Qb]at ho;omega);simp only[SV.ev,zi,tpAt,AV.one,cond_true,AS.put]at this
       simpa[AS.put,q9s]using this
    |false=>
    rw[r9]at h;simp only[cond_false]at h;split at h
    .rename_i ys0 hys
     obtain⟨ys,hyn,h⟩:=q0d h;rw[qn9]at h
     cases hc:(nums 0 ps&&Qc ys.length len&&ys.all (λy=>y.okc&&Qc y.cells.length sz)&&Qc zs.length (len*sz)&&Ql (len*sz) 16777216)with
     |false=>rw[hc]at h;exact h.elim
     |true=>
      rw[hc]at h;simp only[Qe]at hc;obtain⟨⟨⟨⟨c1,c2⟩,c3⟩,c4⟩,c5⟩:=hc;have c2:=Qd c2;have c4:=Qd c4
      have c3:∀y∈ys,y.okc=true∧y.cells.length=sz:=λy hy=>by
       have:=Qn.1 c3 y hy;simp only[Qe]at this;exact⟨this.1,Qd this.2⟩
      refine⟨_,w6 (v:=.a (.sl sz ys none)) λdf rd K rest ρ t' S hs hS hk=>?_,h⟩;obtain⟨w1,w2⟩:=qfh hS _ _ hys;have hlp:ps.length=ys.length:=by rw[<-hyn.1,<-w1];simp[zw]
      have pq:vk N ⟨t',S,df⟩ parts=ps.map λq=>(q.1,q.2.ev ρ):=by unfold vk;exact qgu hs hp
      have nw:=qmg (sz:=sz) ys 0 [] zs c3 Sx (by rw[c4,c2]);refine qqs (zl 0 ys) (by rw[pq,qop];simpa using hlp) (λi q r hq hr=>?_) (qbg he) ht hz (by simpa using nw) c2 Sx (λx hx=>(c3 x hx).2) c5 hk;rw[pq,Qq]at hq
      cases hpi:ps[i]?with
      |none=>rw[hpi]at hq;simp at hq
      |some q'=>
       rw[hpi]at hq;simp only[Qt,Qa]at hq;subst hq;obtain⟨g1,g2,g3⟩:=q0i c1 hlp i q' r hpi hr;have hi:i<ys0.length:=by rw[hyn.1];exact lt_of_getElem? g3
       have hy0:ys0[i]?=some ys0[i]:=Qf hi;exact⟨g1,λG v hv=>hyn.2 i _ _ hy0 g3 G v (w2 i _ _ (by rw[zw,Qq,g2];rfl) hy0 G v hv)⟩
    .exact h.elim
  .exact h.elim
 .exact h.elim
def mmW(nx:Nat)(k:Ef->Prop)(f:Int->Int->Int):Option SV->Option SV->Prop
 |some a,some b=>(match qez a,qez b with
  |some (.i64,m),some (.i64,n)=>k (wj nx (.i (f m n)))
  |_,_=>False)
 |_,_=>False
theorem zh0{ts:Array TypeId}{x y:Operand}(h:mmW nx k min (sval N sl x) (sval N sl y)):∃e,Loc E N ops ⟨d,.call ⟨.builtin .min,#[x,y],ts⟩,T,p,af,none⟩ nx sl H e∧k e:=by
 unfold mmW at h;split at h
 .rename_i a b ha hb
  split at h
  .rename_i m n hm hn
   exact⟨_,jd (v:=.i (min m n)) λdf rd K rest ρ t' S hs hk=>jg (.int .i64 (min m n)) rfl nofun (λa w he=>by
    have e1:=he _ _ ((qs hs ha).trans (qbt hm ρ));have e2:=he _ _ ((qs hs hb).trans (qbt hn ρ));have e:min m n=if n<m then n else m:=by simp only[Int.min_def];split <;>split <;>omega
    simp[execOp,resolve,invoke,builtin,Builtin.min_,Builtin.min2,e1,e2,e]) hk,h⟩
  .exact h.elim
 .exact h.elim
theorem zhz{ts:Array TypeId}{x y:Operand}(h:mmW nx k max (sval N sl x) (sval N sl y)):∃e,Loc E N ops ⟨d,.call ⟨.builtin .max,#[x,y],ts⟩,T,p,af,none⟩ nx sl H e∧k e:=by
 unfold mmW at h;split at h
 .rename_i a b ha hb
  split at h
  .rename_i m n hm hn
   exact⟨_,jd (v:=.i (max m n)) λdf rd K rest ρ t' S hs hk=>jg (.int .i64 (max m n)) rfl nofun (λa w he=>by
    have e1:=he _ _ ((qs hs ha).trans (qbt hm ρ));have e2:=he _ _ ((qs hs hb).trans (qbt hn ρ));have e:max m n=if n>m then n else m:=by simp only[Int.max_def];split <;>split <;>omega
    simp[execOp,resolve,invoke,builtin,Builtin.max_,Builtin.max2,e1,e2,e]) hk,h⟩
  .exact h.elim
 .exact h.elim
def qx0(H:Nat->Option SR):Option SV->Bool
 |some (.tp b)=>(match H b with
  |some (.own _ _ _)=>true
  |some (.obj _)=>true
  |some (.rows _ _ _)=>true
  |_=>false)
 |some (.bx b _)=>(match H b with
  |some (.own _ _ _)=>true
  |some (.obj _)=>true
  |some (.rows _ _ _)=>true
  |_=>false)
 |_=>false
def zi4(H:Nat->Option SR):Option SV->Bool
 |some (.tp b)=>(match H b with
  |some (.obj _)=>true
  |_=>false)
 |_=>false
def orW(c:Bool)(x y:Prop):Prop:=
 match c with
 |true=>x
 |false=>y
theorem qjr{c:Bool}{x y:Prop}(h:orW c x y)(hy:y->x):x:=by
 cases c with
 |true=>exact h
 |false=>exact hy h
def oddT(u:Option TypeDesc)(y:Operand):Bool:=
 match u with
 |some (.struct _)=>true
 |some (.array _ _)=>true
 |some (.interface _)=>(match y with
  |.const .nilIface=>false
  |_=>true)
 |_=>false
def oddB(P:Program)(op:BinOp)(t:TypeId)(y:Operand):Bool:=
 match op with
 |.and=>true
 |.or=>true
 |.xor=>true
 |.shl=>true
 |.shr=>true
 |.andNot=>true
 |.eql=>oddT (P.underlying t) y
 |.neq=>oddT (P.underlying t) y
 |_=>false
def slT:Option TypeDesc->Bool
 |some (.slice _)=>true
 |_=>false
def opW(E:Env)(N:Nat)(ops:Array Oper)(bxs:List Nat)(nx:Nat)(sl:List (Nat×SV))(H:Nat->Option SR)(k:Ef->Prop)(o:Oper):Prop:=
 match o.op with
 |.move x=>mvW nx k (sval N sl x)
 |.assign x=>mvW nx k (sval N sl x)
 |.pick c x y=>q6a N sl nx k c x y
 |.alloc t=>qx8 E.P nx k t
 |.box t x=>boxW bxs H nx k o.dst t (sval N sl x)
 |.build t ps=>qyv E.P N sl nx k t ps
 |.buildSlice t len ps=>bslW E.P N bxs o.dst sl H nx k t len ps
 |.load t x=>orW (qx0 H (sval N sl x)) (∃e,Loc E N ops o nx sl H e∧k e) (q5v E.P H nx k t (sval N sl x))
 |.store t x y=>orW (qx0 H (sval N sl x)) (∃e,Loc E N ops o nx sl H e∧k e) (q1c E.P H nx k t (sval N sl x) (sval N sl y))
 |.nilCheck x=>q0a nx k (sval N sl x)
 |.binOp op t x y _=>orW (oddB E.P op t y) (∃e,Loc E N ops o nx sl H e∧k e) (match sval N sl x,sval N sl y with
  |some vx,some vy=>binW E.P op t y (λv=>k (wj nx v)) vx vy
  |_,_=>False)
 |.unOp .not _ x=>notW nx k (sval N sl x)
 |.convert t t' x=>orW (slT (E.P.underlying t)||slT (E.P.underlying t')) (∃e,Loc E N ops o nx sl H e∧k e) (q47 E.P t t' nx k (sval N sl x))
 |.makeInterface t x=>qz6 E.P t nx k (sval N sl x)
 |.makeFunc fn xs ys=>q5x N sl fn xs ys nx k
 |.slice t x lo hi none=>q08 E.P N sl H nx k t x lo hi
 |.fieldAddr t x f=>qmf E.P t f nx k (sval N sl x)
 |.field t x f=>qzj E.P t f nx k (sval N sl x)
 |.indexAddr t x y=>orW (qx0 H (sval N sl x)) (∃e,Loc E N ops o nx sl H e∧k e) (qmk E.P N sl H nx k t x y)
 |.index t x y=>qzx E.P N sl nx k t x y
 |.extract x i=>qq6 i nx k (sval N sl x)
 |.call c=>(match c.callee,c.args,c.argTypes with
  |.value x,xs,_=>q42 E N sl H nx k x xs
  |.builtin .len,⟨[x]⟩,⟨t::_⟩=>orW (zi4 H (sval N sl x)) (∃e,Loc E N ops o nx sl H e∧k e) (lenW E.P H nx k t (sval N sl x))
  |.builtin .append,⟨[x,y]⟩,⟨[t,u]⟩=>orW (qx0 H (sval N sl x)) (∃e,Loc E N ops o nx sl H e∧k e) (appW E.P H nx k t u (sval N sl x) (sval N sl y))
  |.builtin .min,⟨[x,y]⟩,_=>mmW nx k min (sval N sl x) (sval N sl y)
  |.builtin .max,⟨[x,y]⟩,_=>mmW nx k max (sval N sl x) (sval N sl y)
  |_,_,_=>∃e,Loc E N ops o nx sl H e∧k e)
 |_=>∃e,Loc E N ops o nx sl H e∧k e
theorem q9f{bxs:List Nat}{o:Oper}(hg:o.guard=none)(h:opW E N ops bxs nx sl H k o):∃e,Loc E N ops o nx sl H e∧k e:=by
 obtain⟨d,op,T,p,af,g⟩:=o;subst hg;unfold opW at h;split at h
 .rename_i he;simp only at he;subst he;exact zfw h
 .rename_i he;simp only at he;subst he;exact q7b h
 .rename_i he;simp only at he;subst he;exact zf8 h
 .rename_i he;simp only at he;subst he;exact zau h
 .rename_i he;simp only at he;subst he;exact zg9 h
 .rename_i he;simp only at he;subst he;exact zbc h
 .rename_i he;simp only at he;subst he;exact zha h
 .rename_i he;simp only at he;subst he;exact qjr h zfr
 .rename_i he;simp only at he;subst he;exact qjr h zdk
 .rename_i he;simp only at he;subst he;exact zcn h
 .rename_i he
  simp only at he;subst he;refine qjr h λh=>?_;split at h
  .rename_i hx hy
   obtain⟨v,hv,hk⟩:=zg8 hx hy h;exact⟨_,jd hv,hk⟩
  .exact h.elim
 .rename_i he;simp only at he;subst he;exact zh5 h
 .rename_i he;simp only at he;subst he;exact qjr h zex
 .rename_i he;simp only at he;subst he;exact zcj h
 .rename_i he;simp only at he;subst he;exact zfu h
 .rename_i he;simp only at he;subst he;exact zdh h
 .rename_i he;simp only at he;subst he;exact qzi h
 .rename_i he;simp only at he;subst he;exact zbu h
 .rename_i he;simp only at he;subst he;exact qjr h qzw
 .rename_i he;simp only at he;subst he;exact zb9 h
 .rename_i he;simp only at he;subst he;exact q5i h
 .rename_i c he
  simp only at he;subst he;obtain⟨cl,xs,ts⟩:=c;split at h
  .rename_i e1;simp only at e1;subst e1;exact zeu h
  .rename_i e1 e2 e3;simp only at e1 e2 e3;subst e1;subst e2;subst e3;exact qjr h (zhw rfl)
  .rename_i e1 e2 e3;simp only at e1 e2 e3;subst e1;subst e2;subst e3;exact qjr h zg1
  .rename_i e1 e2;simp only at e1 e2;subst e1;subst e2;exact zh0 h
  .rename_i e1 e2;simp only at e1 e2;subst e1;subst e2;exact zhz h
  .exact h
 .exact h
end
end Go.Av
