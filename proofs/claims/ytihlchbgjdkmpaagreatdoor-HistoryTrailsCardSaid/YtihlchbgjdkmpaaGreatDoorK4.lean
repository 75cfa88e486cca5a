/- Contracts and plain facts that the closing text leans on (part 4). No condition of their own beyond those that each states. -/
import Derived.Test.YtihlchbgjdkmpaaGreatDoorK3
set_option maxRecDepth 100000
set_option linter.unusedVariables false
set_option linter.unusedSimpArgs false
open Array renaming getElem?_toList→Zc
open List renaming length_append→Qa,getElem?_append_left→Qb,append_assoc→Qe,length_cons→Qf,eq_nil_of_length_eq_zero→Qg,length_map→Qh,getElem?_set_ne→Qi,getElem?_append_right→Qj,getElem?_drop→Qk,length_nil→Qm,getElem?_take→Qn,length_pos_iff→Qo,map_cons→Qp,getElem?_map→Qq,getElem?_take_of_lt→Qs,getElem?_eq_getElem→Qt,not_mem_nil→Qu,mem_cons→Qv,ext_getElem?→Qx,flatMap_cons→Qy,mem_append→Qz,getElem?_set_self→Zb,append_nil→Zd,map_append→Ze,length_eq_zero_iff→Zf,length→Zi,take_append_drop→Zj,mem_of_mem_take→Zk,mem_of_getElem?→Zl,set_set→Zm,set_cons_succ→Zn,map_map→Zo,cons_append→Zp,all_eq_true→Zq,length_set→Zs,take_left'→Zt,drop_left'→Zu,sum_cons→Zx,mem_map→Zz,getD→Xb
open Nat renaming le_refl→Qc,le_of_ble_eq_true→Qd,mul_le_mul_right→Ql,zero_add→Qr,add_mul→Qw,min_eq_left→Zg,zero_le→Zh,mul_le_mul→Zv,lt_irrefl→Zw,ne_of_lt→Zy,add_zero→Xa
open Option renaming map_some→Zr
open Option.some renaming injEq→Za
namespace Go.Av
open Go Go.RowKit
section
variable {E : Env} {rd : Option Nat} {N : Nat} {ops : Array Oper} {K : AS → Prop} {s : AS} {rest : List Oper} {d : Option Tmp} {T : TypeId} {p : String} {af : Array Edge}
theorem qb2{t e:TypeId}{len sz:Nat}{agg:Bool}{parts:Array (Nat×Operand)}{zs cs:List AV}{st loc:List AObj}(e8:s.st=st++loc)(hu:E.P.underlying t=some (.slice e))(ht:tyOf E.P e=some (sz,agg))(hz:qh5 E.P e len=some zs)
  (hf:qd0 (λi=>some (i*sz,sz)) zs (wp N s parts)=some cs) (m8:Nat.ble (len*sz) 16777216=true)
  (h:AOps E rd N ops rest K (AS.put ⟨s.t,st++(loc++[.cells 0 e cs]),s.df⟩ d (.os (st.length+loc.length) 0 0 len len))):AOps E rd N ops (⟨d,.buildSlice t len parts,T,p,af,none⟩::rest) K s:=by
 refine ze rfl (za nofun λB0 w0 G a w _ hI=>?_);obtain⟨c',a8,h2⟩:=qni (d:=d) (T:=T) (p:=p) (af:=af) hI hu ht hz hf m8;have hA:=hI.agree.newCells e c' cs h2.1 h2.2;have hn:=hI.agree.n;rw[e8]at hA hn;simp only[Qe,Qa]at hA hn;exact⟨_,_,_,_,_,a8,G.le_new _ _ _ _,hA,.os _ _ _ _ _ _ (by simp[Gh.new,hn]) (Zh _) (λ_=>by simp[Gh.new,hn]),h⟩
theorem zm.ownTip{B0:Nat}{w0:World}{G:Gh}{st:List AObj}{w:World}(h:zm B0 w0 G st w){o sz len cap:Nat}{T:TypeId}{cs:List AV}{xs:List AV}(ho:st[o]?=some (.cells 0 T cs))(hc:cs.length=cap*sz)(d5:xs.length=len)(h0:0<len)(d7:len<=cap)(pw:cap<=maxLen)(hw:∀x∈xs,x.cells.length=sz)(o7:flat xs=cs.take (len*sz)):
  ∃G',G.le G'∧zm B0 w0 G' (st.set o (.tip len sz T)) w∧Rel G' (.sl sz xs (some o)) (.slice (some ⟨(G.ob o).blk,0,none⟩) len cap):=by
 subst d5;have mz:=lt_of_getElem? ho;obtain⟨g0,g1,g2,g3,c,g4,g5,g6⟩:=h.ob o _ ho;have s9:G.le (G.publish (G.ob o).blk (c.toList.take (xs.length*sz))):=G.le_publish _ _ [] [] (.inl g3)
 -- dead, published
 have key:∀(k:Nat)(x:AObj),(st.set o .dead)[k]?=some x->x=.dead∨(k≠o∧st[k]?=some x):=λk x hx=>by
  rcases getElem?_set' _ _ _ _ _ hx with⟨_,e⟩|e
  .exact .inl e
  .exact .inr e
 have gw:zm B0 w0 (G.publish (G.ob o).blk (c.toList.take (xs.length*sz))) (st.set o .dead) w:=by
  refine⟨h.below,h.hB,by simp[h.n,Gh.publish],λb vs hb=>?_,λk x hx=>?_,λk k' x x' b9 hx i4 hl bj=>?_⟩
  .simp only[Gh.publish]at hb
   by_cases e:b=(G.ob o).blk
   .rw[if_pos e]at hb
    cases hb
    subst e;refine⟨c,T,(0,0),g4,λi y hy=>?_⟩;rw[Qn]at hy;split at hy
    .simpa using hy
    .simp at hy
   .rw[if_neg e]at hb
    exact h.pub b vs hb
  .rcases key k x hx with rfl |⟨hk,hx⟩
   .trivial
   .refine(h.ob k x hx).mono s9 rfl (λhl=>?_) (λ_=>rfl)
    have:=h.sep k o x _ hk hx ho hl trivial;simp[Gh.publish,this]
  .rcases key k x hx with rfl |⟨hk,hx⟩
   .exact hl.elim
   .rcases key k' x' i4 with rfl |⟨u6,i4⟩
    .exact bj.elim
    .exact h.sep k k' x x' b9 hx i4 hl bj
 have hvl:(c.toList.take (xs.length*sz)).length=xs.length*sz:=by
  have:xs.length*sz<=cap*sz:=Ql _ d7;simp;omega
 obtain⟨bp,lx⟩:=gw.setTip (t:=o) (n:=0) (n':=xs.length) (k:=(G.ob o).blk) (cap:=c.size) (sz:=sz) (T:=T) (c:=c) (vs:=c.toList.take (xs.length*sz)) (by simp[mz]) g0 g1 h0 g4 (by simp[Gh.publish]) hvl rfl g2 (λk x hx hl=>by
  rcases key k x hx with rfl |⟨hk,hx⟩
  .exact hl.elim
  .exact h.sep k o x _ hk hx ho hl trivial)
 rw[Zm]at lx;refine⟨_,s9.trans bp,lx,?_⟩;have hgn:o<G.n:=by rw[h.n];exact mz
 refine .sl sz xs (some o) (G.ob o).blk 0 cap (c.toList.take (xs.length*sz)) (by simp[Gh.setOb,Gh.publish]) hw (by rw[o7,hvl];simp;omega) (λi x y h1 h2=>?_) (λt ht=>?_) Om
 .rw[o7]at h1
  rw[Qr]at h2;rw[Qn]at h1 h2;split at h1
  .rename_i hi
   rw[if_pos hi]at h2;exact((g6 i x y h1 (by simpa using h2)).mono s9).mono bp
  .simp at h1
 .simp only[Za]at ht
  subst ht;refine⟨by simpa[Gh.setOb,Gh.publish]using hgn,Om,by simp[Gh.setOb],λ_=>⟨by simp[Gh.setOb],rfl,by simp[Gh.setOb,<-g5,hc],pw,Om⟩⟩
theorem Inv.osTip{B0:Nat}{w0:World}{G:Gh}{a:Act}{w:World}(h:Inv B0 w0 N G s a w){i o sz len cap:Nat}{T':TypeId}{cs xs:List AV}(hi:s.t i=.os o 0 0 len cap)(ho:s.st[o]?=some (.cells 0 T' cs))(hc:cs.length=cap*sz)(d5:xs.length=len)(h0:0<len)(d7:len<=cap)(pw:cap<=maxLen)(hw:∀x∈xs,x.cells.length=sz)(o7:flat xs=cs.take (len*sz)):
  ∃G',G.le G'∧Inv B0 w0 N G' ⟨Av.put s.t i (.sl sz xs (some o)),s.st.set o (.tip len sz T'),s.df⟩ a w:=by
 obtain⟨G',hG,hA,hR⟩:=h.agree.ownTip ho hc d5 h0 d7 pw hw o7;obtain⟨_,g1,_⟩:=h.agree.ob o _ ho;refine⟨G',hG,hA,h.defers_mono hG,h.size,λj y hy=>?_⟩;have hj:=h.tmps j y hy;by_cases e:j=i
 .subst e
  simp only[xw];rw[hi]at hj
  cases hj with
  |os _ _ _ _ b _ hn hv hb=>
   have hb:=hb g1;subst hb;exact hR
 .simp only
  rw[qat _ _ _ _ e];exact hj.mono hG
theorem zd4{c:Code}{Q:Exit->AS->Prop}(i:Nat){o sz len cap:Nat}{T':TypeId}{cs xs:List AV}(hi:s.t i=.os o 0 0 len cap)(ho:s.st[o]?=some (.cells 0 T' cs))(hc:cs.length=cap*sz)(d5:xs.length=len)(h0:0<len)(d7:len<=cap)(pw:cap<=maxLen)(hw:∀x∈xs,x.cells.length=sz)(o7:flat xs=cs.take (len*sz))
  (h:AWp E rd N c Q ⟨Av.put s.t i (.sl sz xs (some o)),s.st.set o (.tip len sz T'),s.df⟩):AWp E rd N c Q s:=
 ⟨λB0 w0 G a w hL hI=>let ⟨G1,h1,h2⟩:=hI.osTip hi ho hc d5 h0 d7 pw hw o7;wpIn_mono (h.run B0 w0 _ a w hL h2) λ_ _ _ ⟨G',s',hG,k1,k2⟩=>⟨G',s',h1.trans hG,k1,k2⟩⟩
theorem zbf{l:List Oper}(i:Nat){o sz len cap:Nat}{T':TypeId}{cs xs:List AV}(hi:s.t i=.os o 0 0 len cap)(ho:s.st[o]?=some (.cells 0 T' cs))(hc:cs.length=cap*sz)(d5:xs.length=len)(h0:0<len)(d7:len<=cap)(pw:cap<=maxLen)(hw:∀x∈xs,x.cells.length=sz)(o7:flat xs=cs.take (len*sz))
  (h:AOps E rd N ops l K ⟨Av.put s.t i (.sl sz xs (some o)),s.st.set o (.tip len sz T'),s.df⟩):AOps E rd N ops l K s:=
 ⟨λB0 w0 G a w hL hI Q hQ=>let ⟨G1,h1,h2⟩:=hI.osTip hi ho hc d5 h0 d7 pw hw o7;h.run B0 w0 _ a w hL h2 Q λG' s' a' w' hG k1 k2=>hQ G' s' a' w' (h1.trans hG) k1 k2⟩
theorem Inv.osPub{B0:Nat}{w0:World}{G:Gh}{a:Act}{w:World}(h:Inv B0 w0 N G s a w){i o ver off sz len cap:Nat}{T':TypeId}{cs xs:List AV}(hi:s.t i=.os o ver off len cap)(ho:s.st[o]?=some (.cells ver T' cs))(d5:xs.length=len)(d7:len<=cap)(hw:∀x∈xs,x.cells.length=sz)(hin:off+len*sz<=cs.length)(o7:flat xs=(cs.drop off).take (len*sz)):
  ∃G',G.le G'∧Inv B0 w0 N G' ⟨Av.put s.t i (.sl sz xs none),s.st.set o .dead,s.df⟩ a w:=by
 obtain⟨vs,s9,hA,hv,hp,hl,hr⟩:=h.agree.pubOb ho;refine⟨_,s9,hA,h.defers_mono s9,h.size,λj y hy=>?_⟩;have hj:=h.tmps j y hy;by_cases e:j=i
 .subst e
  simp only[xw];rw[hi]at hj
  cases hj with
  |os _ _ _ _ b _ hn dk hb=>
   have hb:=hb hv;subst hb;rw[<-d5];refine .sl sz xs none _ off cap vs hp hw (by rw[o7];simp;omega) (λk x y hx hy=>?_) (λt ht=>by simp at ht) Om;rw[o7,Qn]at hx;split at hx
   .rw[Qk]at hx
    exact hr _ x y hx hy
   .simp at hx
 .simp only
  rw[qat _ _ _ _ e];exact hj.mono s9
theorem zdy{l:List Oper}(i:Nat){x r:AV}(hi:s.t i=x)(hw:∀G v,Rel G x v->Rel G r v)(h:AOps E rd N ops l K ⟨Av.put s.t i r,s.st,s.df⟩):AOps E rd N ops l K s:=
 ⟨λB0 w0 G a w hL hI Q hQ=>h.run B0 w0 G a w hL ⟨hI.agree,hI.defers,hI.size,λj y hy=>by
  have hj:=hI.tmps j y hy;by_cases e:j=i
  .subst e;simp only[xw];rw[hi]at hj;exact hw G y hj
  .simp only;rw[qat _ _ _ _ e];exact hj⟩ Q hQ⟩
theorem qxx{P:Program}{t e:TypeId}{sz:Nat}{agg:Bool}(hu:P.underlying t=some (.slice e))(ht:tyOf P e=some (sz,agg))(a:Option Addr)(len cap:Nat)(lo hi:Option Value)(i j:Nat)(w:World)
  (fc:match lo with|none=>i=0|some v=>∃k,v=.int k (i:Int)) (cq:match hi with|none=>j=len|some v=>(∃k,v=.int k (j:Int))∧j<=cap) (h1:i<=j):
  (Instr.slice t (.slice a len cap) lo hi none).run P w=.ok (.slice (if cap=i then a else a.map (·.add (i*sz))) (j-i) (cap-i)) w:=by
 have hs:=(vw ht w).1
 cases lo with
 |none=>
  simp only at fc;subst fc
  cases hi with
  |none=>
   simp only at cq;subst cq
   simp[Instr.slice,run_underlying hu,Instr.sliceBounds,hs]
  |some v=>
   obtain⟨⟨k,rfl⟩,h2⟩:=cq
   simp[Instr.slice,run_underlying hu,Instr.sliceBounds,Instr.sliceBound,asIntOf,hs,h2]
 |some u=>
  obtain⟨k',rfl⟩:=fc
  cases hi with
  |none=>
   simp only at cq;subst cq
   simp[Instr.slice,run_underlying hu,Instr.sliceBounds,Instr.sliceBound,asIntOf,hs,h1]
  |some v=>
   obtain⟨⟨k,rfl⟩,h2⟩:=cq;simp[Instr.slice,run_underlying hu,Instr.sliceBounds,Instr.sliceBound,asIntOf,hs,h1,h2]
theorem qxt{G:Gh}{sz:Nat}{xs:List AV}{tip:Option Nat}{a:Option Addr}{len cap:Nat}(h:Rel G (.sl sz xs tip) (.slice a len cap)){i j:Nat}(h1:i<=j)(h2:j<=xs.length):
  len=xs.length∧len<=cap∧Rel G (.sl sz ((xs.take j).drop i) none) (.slice (if cap=i then a else a.map (·.add (i*sz))) (j-i) (cap-i)):=by
 cases h with
 |sl0=>
  simp at h2;subst h2;have:i=0:=Om
  subst this;refine⟨rfl,Zh _,?_⟩;simp
  exact .sl0 sz none _ _ Sx
 |sl _ _ _ b off cap pub hp hw d5 hr ht p9=>
  refine⟨rfl,p9,?_⟩;have hl:((xs.take j).drop i).length=j-i:=So
  by_cases dv:j=i
  .subst dv
   have e:(xs.take j).drop j=[]:=Zf.1 (by rw[hl];omega);rw[e,Nat.sub_self];exact .sl0 sz none _ _ Sx
  .have b9:cap≠i:=by omega
   rw[if_neg b9];simp only[Zr];have t8:Addr.add ⟨b,off,none⟩ (i*sz)=⟨b,off+i*sz,none⟩:=Addr.add_lit ..;rw[t8,<-hl];have p8:∀x∈(xs.take j).drop i,x.cells.length=sz:=λx hx=>hw x (Zk (List.mem_of_mem_drop hx));have nt:(flat xs).length=xs.length*sz:=zw hw
   have cj:flat xs=flat (xs.take i)++flat ((xs.take j).drop i)++flat (xs.drop j):=by
    have e:xs.take i++(xs.take j).drop i=xs.take j:=by
     conv=>rhs;rw[<-Zj i (xs.take j),List.take_take,Zg h1]
    rw[<-ym,<-ym,e,Zj]
   have hti:(flat (xs.take i)).length=i*sz:=by
    rw[zw (λx hx=>hw x (Zk hx)),List.length_take,Zg Om]
   have hmid:(flat ((xs.take j).drop i)).length=(j-i)*sz:=by rw[zw p8,hl]
   refine .sl sz _ none b (off+i*sz) (cap-i) pub hp p8 ?_ (λk x y hx hy=>?_) (λt ht=>by simp at ht) (by rw[hl];omega)
   .have:=congrArg Zi cj
    simp only[Qa]at this;omega
   .refine hr (i*sz+k) x y ?_ (by rw[<-hy];congr 1;omega)
    have hk:=lt_of_getElem? hx;rw[cj,Qe,Qj Om,hti,Nat.add_sub_cancel_left,Qb hk];exact hx
theorem q7q{x:Operand}{t e:TypeId}{lo hi:Option Operand}{sz:Nat}{agg:Bool}{xs ys:List AV}{tip:Option Nat}{i j:Nat}(hx:qn N s x=.sl sz xs tip)(hu:E.P.underlying t=some (.slice e))(ht:tyOf E.P e=some (sz,agg))
  (fc:match lo with|none=>i=0|some y=>∃k,qn N s y=.v (.int k (i:Int))) (cq:match hi with|none=>j=xs.length|some y=>∃k,qn N s y=.v (.int k (j:Int))) (h1:i<=j) (h2:j<=xs.length) (hy:(xs.take j).drop i=ys)
  (h:AOps E rd N ops rest K (s.put d (.sl sz ys none))):AOps E rd N ops (⟨d,.slice t x lo hi none,T,p,af,none⟩::rest) K s:=by
 subst hy;refine ze rfl (za nofun λB0 w0 G a w _ hI=>?_);have he:=hI.eval_of hx;generalize hv:a.eval x=v at he;have gp:∃b len cap,v=.slice b len cap:=by cases he<;>exact⟨_,_,_,rfl⟩
 obtain⟨b,len,cap,rfl⟩:=gp;obtain⟨hl,hlc,hr⟩:=qxt he h1 h2;refine⟨_,w,G,_,s.st,?_,.refl G,hI.agree,hr,h⟩
 have a8:=qxx hu ht b len cap (lo.map a.eval) (hi.map a.eval) i j w (by
  cases lo with
  |none=>exact fc
  |some y=>obtain⟨k,hy⟩:=fc;exact⟨k,hI.evalv hy⟩) (by
  cases hi with
  |none=>simp only at cq;simp only[Option.map_none];omega
  |some y=>obtain⟨k,hy⟩:=cq;exact⟨⟨k,hI.evalv hy⟩,Om⟩) h1
 generalize a.eval=ρ at hv a8;simp only[execOp,hv];simp[Instr.sliceAt,run_underlying hu,a8]
theorem qh8{x y:Operand}{t e:TypeId}{sz:Nat}{agg:Bool}{xs ys:List AV}{tip:Option Nat}{k:IntKind}{i:Nat}(hx:qn N s x=.sl sz xs tip)(hy:qn N s y=.v (.int k (i:Int)))(hu:E.P.underlying t=some (.slice e))(ht:tyOf E.P e=some (sz,agg))(h1:i<=xs.length)(hz:xs.drop i=ys)
  (h:AOps E rd N ops rest K (s.put d (.sl sz ys none))):AOps E rd N ops (⟨d,.slice t x (some y) none none,T,p,af,none⟩::rest) K s:=
 q7q (i:=i) (j:=xs.length) hx hu ht ⟨k,hy⟩ rfl h1 (Qc _) (by rw[List.take_length];exact hz) h
end
end Go.Av
namespace Go.Av
open Go Go.RowKit
inductive Vec (sz:Nat) (T:TypeId) (o:Nat) (xs:List AV):AV->AObj->Prop
 |nil (h:xs=[]):Vec sz T o xs zn (.tip 0 sz T)
 |os (ver cap:Nat) (pad:List AV) (hl:(flat xs++pad).length=cap*sz) (hw:∀x∈xs,x.cells.length=sz) (d7:xs.length<=cap) (pw:cap<=maxLen):Vec sz T o xs (.os o ver 0 xs.length cap) (.cells ver T (flat xs++pad))
section
variable {B0 : Nat} {w0 : World} {G : Gh} {st : List AObj} {w : World}
theorem zm.setCells(h:zm B0 w0 G st w){t k cap v':Nat}{T:TypeId}{cs:List AV}(ht:st[t]?=some .dead)(hraw:(G.ob t).raw=false)(cn:(G.ob t).ver<v')
  {c:Array Value} (hc:w.heap[k]?=some (.cells c T (0,0))) (hp:G.pub k=none) (hl:cs.length=c.size) (hr:∀(i:Nat)(x:AV)(y:Value),cs[i]?=some x->c[i]?=some y->Rel G x y) (hk:B0<=k) (hs:∀o x,st[o]?=some x->x.live->(G.ob o).blk≠k):
  G.le (G.setOb t ⟨v',k,cap,false⟩)∧zm B0 w0 (G.setOb t ⟨v',k,cap,false⟩) (st.set t (.cells v' T cs)) w:=by
 have d7:=G.le_setOb t ⟨v',k,cap,false⟩ cn hraw;have ft:∀o,o≠t->(G.setOb t ⟨v',k,cap,false⟩).ob o=G.ob o:=λo ho=>by simp[Gh.setOb,ho]
 have cx:(G.setOb t ⟨v',k,cap,false⟩).ob t=⟨v',k,cap,false⟩:=by simp[Gh.setOb]
 refine⟨d7,h.below,h.hB,by simp[h.n,Gh.setOb],h.pub,λo x hx=>?_,λo o' x x' b9 hx i4 bt mt=>?_⟩
 .rcases getElem?_set' _ _ _ _ _ hx with⟨rfl,rfl⟩|⟨ho,hx⟩
  .exact⟨by rw[cx],by rw[cx],by rw[cx];exact hk,by rw[cx];exact hp,c,by rw[cx];exact hc,hl,λi x y h1 h2=>(hr i x y h1 h2).mono d7⟩
  .exact(h.ob o x hx).mono d7 (ft o ho) (λ_=>rfl) (λ_=>rfl)
 .rcases getElem?_set' _ _ _ _ _ hx with⟨e1,e2⟩|⟨ho,hx⟩
  .rcases getElem?_set' _ _ _ _ _ i4 with⟨e3,_⟩|⟨e7,i4⟩
   .exact absurd (e1.trans e3.symm) b9
   .rw[e1,cx,ft o' e7]
    exact(hs o' x' i4 mt).symm
  .rcases getElem?_set' _ _ _ _ _ i4 with⟨e3,_⟩|⟨e7,i4⟩
   .rw[e3,cx,ft o ho]
    exact hs o x hx bt
   .rw[ft o ho,ft o' e7]
    exact h.sep o o' x x' b9 hx i4 bt mt
theorem qbv{G:Gh}{cs ds:List AV}{vs us:List Value}(hl:cs.length=vs.length)(h1:∀(i:Nat)(x:AV)(y:Value),cs[i]?=some x->vs[i]?=some y->Rel G x y)(h2:∀(i:Nat)(x:AV)(y:Value),ds[i]?=some x->us[i]?=some y->Rel G x y):
  ∀(i:Nat)(x:AV)(y:Value),(cs++ds)[i]?=some x->(vs++us)[i]?=some y->Rel G x y:=λi x y hx hy=>by
 by_cases hi:i<cs.length
 .rw[Qb hi]at hx
  rw[Qb Om]at hy;exact h1 i x y hx hy
 .rw[Qj Om]at hx
  rw[Qj Om,<-hl]at hy;exact h2 _ x y hx hy
theorem qps{P:Program}(hA:zm B0 w0 G st w){tt u ty T:TypeId}{du:TypeDesc}(htt:P.underlying tt=some (.slice T))(hu:P.underlying u=some du)(hd:qkv du)
  {sz bytes:Nat} (hT:yw P T sz bytes) {o:Nat} {xs ys:List AV} {a:AV} {ob:AObj} {v x:Value} (hV:Vec sz T o xs a ob) (ho:st[o]?=some ob) (hv:Rel G a v)
  {news:List Value} (hx:Src P w x ys.length sz news) (hys:∀y∈ys,y.cells.length=sz) (i7:∀(i:Nat)(a:AV)(b:Value),(flat ys)[i]?=some a->news[i]?=some b->Rel G a b)
  (t7:xs.length+ys.length<=maxLen) (gx:(xs.length+ys.length)*bytes<=140737488355328):
  ∃v' w' G' a' ob',(Builtin.append_ #[tt,u] ty #[v,x]).run P w=.ok v' w'∧G.le G'∧zm B0 w0 G' (st.set o ob') w'∧Rel G' a' v'∧Vec sz T o (xs++ys) a' ob':=by
 obtain⟨i,z,hi,hz,rfl,rfl,pf⟩:=hT.ex;have mz:=lt_of_getElem? ho;have htn:o<G.n:=by rw[hA.n];exact mz
 have hraw:(G.ob o).raw=false:=by
  have:=hA.ob o _ ho
  cases hV with
  |nil h=>exact this.1
  |os=>exact this.1
 have hk:=hA.kill o;have pz:(st.set o .dead)[o]?=some .dead:=qa9 ho
 have o8:∀k x,(st.set o .dead)[k]?=some x->x.live->k≠o∧st[k]?=some x:=λk x hx hl=>by
  rcases getElem?_set' _ _ _ _ _ hx with⟨_,e⟩|⟨h1,h2⟩
  .subst e;exact hl.elim
  .exact⟨h1,h2⟩
 have o6:st.set o ob=st:=by
  apply Qx;intro k;by_cases e:o=k
  .subst e;rw[Zb mz];exact ho.symm
  .rw[Qi e]
 have hfy:(flat ys).length=ys.length*i.size:=zw hys
 have grow:∀(base:Option Addr)(c:Nat)(olds:List Value),(Builtin.firstCells i.size xs.length (.slice base xs.length c)).run P w.drew=.ok olds.toArray w.drew->c<xs.length+ys.length->olds.length=xs.length*i.size->(∀x∈xs,x.cells.length=i.size)->
   (∀(j:Nat)(a:AV)(b:Value),(flat xs)[j]?=some a->olds[j]?=some b->Rel G a b)->Builtin.nextslicecap (xs.length+ys.length) c*i.bytes<=281474976710656->
   ∃v' w' G' a' ob',(Builtin.append_ #[tt,u] ty #[.slice base xs.length c,x]).run P w=.ok v' w'∧G.le G'∧zm B0 w0 G' (st.set o ob') w'∧Rel G' a' v'∧Vec i.size T o (xs++ys) a' ob':=by
  intro base c olds i5 hc mw hwx hrx i8;have nt:(flat xs).length=xs.length*i.size:=zw hwx;have a8:=qh1 (ty:=ty) htt hu hd hi hz hx base xs.length c olds i5 hc (by simp only[maxLen]at t7;omega) i8;have fp:=grownCap_ge w (xs.length+ys.length) c T;have d7:=grownCap_le_maxLen w (xs.length+ys.length) c T t7;generalize grownCap w (xs.length+ys.length) c T=cap at a8 fp d7;generalize hzc:(Builtin.zeroCells z.cells (cap-(xs.length+ys.length)))=zc at a8;have hzl:zc.size=(cap-(xs.length+ys.length))*i.size:=by rw[<-hzc,size_zeroCells,pf]
  have bz:Below w.heap.size w w.drew:=⟨rfl,rfl,rfl,Qc _,λ_ _=>rfl⟩
  have gr:(flat (xs++ys)++zc.toList.map AV.v).length=(olds.toArray++news.toArray++zc).size:=by
   rw[ym];simp[nt,hfy,mw,hx.count];omega
  have gw:=(hk.fresh bz).fresh (w':=w.drew.alloc (.cells (olds.toArray++news.toArray++zc) T)) ⟨rfl,rfl,rfl,by simp[World.alloc],λb hb=>qax _ _ _ hb⟩
  have hnp:G.pub w.heap.size=none:=by
   cases hp:G.pub w.heap.size with
   |none=>rfl
   |some vs=>exact absurd (hA.pub_lt hp) (Zw _)
  obtain⟨bp,lx⟩:=gw.setCells (t:=o) (k:=w.heap.size) (cap:=0) (v':=(G.ob o).ver+1) (T:=T) (cs:=flat (xs++ys)++zc.toList.map AV.v) pz hraw (Nat.lt_succ_self _) (y0 w.drew _) hnp gr (by
   have h1:=qbv (G:=G) (cs:=flat xs) (ds:=flat ys) (vs:=olds) (us:=news) Om hrx i7
   have h2:=qbv (G:=G) (cs:=flat xs++flat ys) (ds:=zc.toList.map AV.v) (vs:=olds++news) (us:=zc.toList) (by simp[nt,hfy,mw,hx.count]) h1 (λj a b h1 h2=>by
    rw[Qq,h2]at h1;simp at h1;subst h1
    exact .v _)
   rw[ym];intro j a b g1 g2
   exact h2 j a b g1 (by rw[<-g2];simp[<-Zc])) hA.hB (λk x hx hl=>by
   obtain⟨_,i4⟩:=o8 k x hx hl
   exact Zy ((hA.ob k x i4).lt hl))
  rw[Zm]at lx;refine⟨_,_,_,_,_,a8,bp,lx,.os o ((G.ob o).ver+1) 0 (xs.length+ys.length) w.heap.size cap (by simpa[Gh.setOb]using htn) (by simp[Gh.setOb]) (λ_=>by simp[Gh.setOb]),?_⟩
  have:=Vec.os (o:=o) (T:=T) (xs:=xs++ys) ((G.ob o).ver+1) cap (zc.toList.map AV.v) (sz:=i.size) (by
   have h1:zc.toList.length=(cap-(xs.length+ys.length))*i.size:=by rw[<-hzl];simp
   rw[Qa,ym,Qa,nt,hfy,Qh,h1,<-Qw,<-Qw];congr 1
   omega) (λy hy=>by
   rcases Qz.1 hy with h|h
   .exact hwx y h
   .exact hys y h) (by simpa using fp) d7
  rw[Qa]at this;exact this
 cases hV with
 |nil h=>
  subst h
  cases hv with
  |v _=>
  by_cases lk:ys.length=0
  .have rv:ys=[]:=Qg lk
   subst rv;have gv:news=[]:=Qg (by simpa using hx.count);subst gv;exact⟨_,_,G,_,_,qdq htt hu hd hi hx none 0 0 (Qc _),.refl G,by rw[o6];exact hA,.v _,.nil Sx⟩
  .exact grow none 0 [] (by simp[run_firstCells_none]) So Sx Sx (by simp[flat]) (by
    simp only[Qm,Qr]at gx⊢;rw[nextslicecap_zero Om]
    omega)
 |os ver cap pad hl hw d7 pw=>
  obtain⟨g0,g1,g2,g3,c,g4,g5,g6⟩:=hA.ob o _ ho;have nt:(flat xs).length=xs.length*i.size:=zw hw
  cases hv with
  |os _ _ _ _ b _ hn dk hb=>
  have hb:=hb g1;subst hb;have sj:c.size=cap*i.size:=by rw[<-g5,hl]
  by_cases lk:ys.length=0
  .have rv:ys=[]:=Qg lk
   subst rv;have gv:news=[]:=Qg (by simpa using hx.count);subst gv;exact⟨_,_,G,_,_,qdq htt hu hd hi hx _ xs.length cap d7,.refl G,by rw[o6];exact hA,.os _ _ _ _ _ _ hn dk (λ_=>rfl),by rw[Zd];exact .os ver cap pad hl hw d7 pw⟩
  .by_cases p6:xs.length+ys.length<=cap
   .have hmul:(xs.length+ys.length)*i.size<=cap*i.size:=Ql _ p6
    rw[Qw]at hmul;have i8:xs.length*i.size+news.length<=c.size:=by rw[hx.count,sj];omega
    have a8:=qll (ty:=ty) htt hu hd hi hx (G.ob o).blk xs.length cap c g4 p6 i8
    have fj:pad.length=cap*i.size-xs.length*i.size:=by
     have:=hl;rw[Qa,nt]at this;omega
    have lx:=hA.setRow (cs':=flat (xs++ys)++pad.drop (ys.length*i.size)) (c':=(c.toList.take (xs.length*i.size)++news++c.toList.drop (xs.length*i.size+news.length)).toArray) ho (by
     rw[ym];simp[nt,hfy,hx.count,fj,sj,Zg d7]
     omega) (by
     have e1:∀(j:Nat)(a:AV)(b:Value),(flat xs)[j]?=some a->(c.toList.take (xs.length*i.size))[j]?=some b->Rel G a b:=λj a b h1 h2=>by
      have hj:=lt_of_getElem? h1;rw[Qs Om]at h2;exact g6 j a b (by rw[Qb hj];exact h1) (by simpa using h2)
     have e2:=qbv (G:=G) (cs:=flat xs) (ds:=flat ys) (vs:=c.toList.take (xs.length*i.size)) (us:=news) So e1 i7
     have e3:=qbv (G:=G) (cs:=flat xs++flat ys) (ds:=pad.drop (ys.length*i.size)) (vs:=c.toList.take (xs.length*i.size)++news) (us:=c.toList.drop (xs.length*i.size+news.length)) (by
      simp[nt,hfy,hx.count]
      omega) e2 (λj a b h1 h2=>by
      rw[Qk]at h1 h2;refine g6 (xs.length*i.size+news.length+j) a b ?_ (by simpa using h2);rw[Qj (by rw[nt];omega),nt,<-h1,hx.count];congr 1
      omega)
     rw[ym];intro j a b h1 h2
     exact e3 j a b h1 (by simpa using h2))
    refine⟨_,_,G,_,_,a8,.refl G,lx,.os o ver 0 (xs.length+ys.length) _ cap hn dk (λ_=>rfl),?_⟩
    have:=Vec.os (o:=o) (T:=T) (xs:=xs++ys) ver cap (pad.drop (ys.length*i.size)) (sz:=i.size) (by
     rw[Qa,ym,Qa,nt,hfy,List.length_drop,fj]
     omega) (λy hy=>by
     rcases Qz.1 hy with h|h
     .exact hw y h
     .exact hys y h) (by simpa using p6) pw
    rw[Qa]at this;exact this
   .refine grow (some ⟨(G.ob o).blk,0,none⟩) cap (c.toList.take (xs.length*i.size)) ?_ Om (by
     have:xs.length*i.size<=cap*i.size:=Ql _ d7;simp
     omega) hw (λj a b h1 h2=>?_) (growslice_fits Om gx)
    .refine run_firstCells_some w.drew i.size xs.length ⟨(G.ob o).blk,0,none⟩ xs.length cap _ (by
      have:xs.length*i.size<=cap*i.size:=Ql _ d7;simp
      omega) λj y hy=>?_
     have e1':w.drew.heap[(G.ob o).blk]?=some (.cells c T (0,0)):=g4;rw[Addr.add_lit];rw[Qn]at hy;split at hy
     .simp only[Zc]at hy
      simp[World.cell?,e1',hy]
     .simp at hy
    .have hj:=lt_of_getElem? h1
     rw[Qs Om]at h2;exact g6 j a b (by rw[Qb hj];exact h1) (by simpa using h2)
end
section
variable {E : Env} {rd : Option Nat} {N : Nat} {ops : Array Oper} {K : AS → Prop} {s : AS} {rest : List Oper} {d : Option Tmp} {T : TypeId} {p : String} {af : Array Edge}
theorem q3g{x y:Operand}{t u T':TypeId}{sz bytes o:Nat}{xs ys:List AV}{tip:Option Nat}{a:AV}{ob:AObj}(hx:qn N s x=a)(hy:qn N s y=.sl sz ys tip)(hV:Vec sz T' o xs a ob)(ho:s.st[o]?=some ob)
  (ht:E.P.underlying t=some (.slice T')) (hu:E.P.underlying u=some (.slice T')) (hT:yw E.P T' sz bytes) (i9:ke (flat ys)=true) (t7:xs.length+ys.length<=maxLen) (hb:(xs.length+ys.length)*bytes<=140737488355328)
  (h:∀a' ob',Vec sz T' o (xs++ys) a' ob'->AOps E rd N ops rest K (AS.put ⟨s.t,s.st.set o ob',s.df⟩ d a')):AOps E rd N ops (⟨d,.call ⟨.builtin .append,#[x,y],#[t,u]⟩,T,p,af,none⟩::rest) K s:=by
 refine ze rfl (za nofun λB0 w0 G a0 w _ hI=>?_);obtain⟨news,h1,h2,h3⟩:=qam (P:=E.P) hI.agree (hI.eval_of hy) (by simpa[ke]using i9);obtain⟨v',w',G',a',ob',e1,e2,e3,e4,e5⟩:=qps (ty:=T) hI.agree ht hu (.inr ⟨_,rfl⟩) hT hV ho (hI.eval_of hx) h1 h2 h3 t7 hb;refine⟨v',w',G',_,_,?_,e2,e3,e4,h a' ob' e5⟩;generalize a0.eval=ρ at e1;simp[execOp,resolve,invoke,builtin,e1]
theorem q7i{sz:Nat}{T:TypeId}{o:Nat}{xs:List AV}{a:AV}{ob:AObj}(h:Vec sz T o xs a ob):(xs=[]∧a=zn∧ob=.tip 0 sz T)∨∃ver cap pad,a=.os o ver 0 xs.length cap∧ob=.cells ver T (flat xs++pad)∧(flat xs++pad).length=cap*sz∧(∀x∈xs,x.cells.length=sz)∧xs.length<=cap∧cap<=maxLen:=by
 cases h with
 |nil h=>exact .inl ⟨h,rfl,rfl⟩
 |os ver cap pad h1 h2 h3 h4=>exact .inr ⟨ver,cap,pad,rfl,rfl,h1,h2,h3,h4⟩
theorem qui{sz:Nat}:∀{xs:List AV}{i:Nat}{x:AV},(∀x∈xs,x.cells.length=sz)->x.cells.length=sz->i<xs.length->∀pad,z6 (flat xs++pad) (0+i*sz) x.cells=flat (xs.set i x)++pad
 | [],_,_,_,_,h,_=>by simp at h
 |y::xs,0,x,hw,hx,_,pad=>by
  have hy:=hw y Sx;simp only[List.set_cons_zero,qcp,z6,Nat.zero_mul,Qr,List.take_zero,List.nil_append,hx];rw[Qe,List.drop_append_of_le_length Om,<-hy,List.drop_length]
  simp
 |y::xs,i+1,x,hw,hx,h,pad=>by
  have hy:=hw y Sx;have ih:=qui (xs:=xs) (i:=i) (x:=x) (λz hz=>hw z (by simp[hz])) hx (by simpa using h) pad;simp only[Zn,qcp,z6,Qr]at ih⊢;have e:(i+1)*sz=y.cells.length+i*sz:=by rw[Qw,hy];omega
  simp only[Qe]at ih⊢;rw[e,List.take_length_add_append,show y.cells.length+i*sz+x.cells.length=y.cells.length+(i*sz+x.cells.length)by omega,List.drop_length_add_append];simp only[Qe];rw[ih]
theorem znd{sz:Nat}{T:TypeId}{o ver cap:Nat}{xs pad:List AV}(hl:(flat xs++pad).length=cap*sz)(hw:∀x∈xs,x.cells.length=sz)(d7:xs.length<=cap)(pw:cap<=maxLen){i:Nat}{x:AV}(hx:x.cells.length=sz)(hi:i<xs.length):
  Vec sz T o (xs.set i x) (.os o ver 0 xs.length cap) (.cells ver T (z6 (flat xs++pad) (0+i*sz) x.cells)):=by
 rw[qui hw hx hi]
 have p8:∀y∈xs.set i x,y.cells.length=sz:=λy hy=>by
  rcases List.mem_or_eq_of_mem_set hy with h|rfl
  .exact hw y h
  .exact hx
 have:=Vec.os (o:=o) (T:=T) (xs:=xs.set i x) ver cap pad (sz:=sz) (by
  rw[Qa]at hl⊢;rw[zw p8,Zs,<-zw hw]
  exact hl) p8 (by simpa using d7) pw
 rw[Zs]at this;exact this
theorem za1{sz:Nat}{xs pad:List AV}(hw:∀x∈xs,x.cells.length=sz){i:Nat}{x:AV}(hi:xs[i]?=some x):((flat xs++pad).drop (i*sz)).take sz=x.cells:=by
 have d8:=lt_of_getElem? hi;have hx:=hw x (Zl hi);apply Qx;intro j;rw[Qn];by_cases hj:j<sz
 .rw[if_pos hj,Qk,<-qol hw hi j hj]
  have d7:(i+1)*sz<=xs.length*sz:=Ql _ d8;rw[Nat.succ_mul]at d7;rw[Qb (by rw[zw hw];omega)]
 .rw[if_neg hj,List.getElem?_eq_none Om]
end
structure Chg (N:Nat) (s s':AS):Prop where
 run:∀(B0:Nat)(w0:World)(G:Gh)(a:Act)(w:World),Inv B0 w0 N G s a w->∃G',G.le G'∧Inv B0 w0 N G' s' a w
theorem Chg.trans{N:Nat}{s s' s'':AS}(h:Chg N s s')(k:Chg N s' s''):Chg N s s'':=⟨λB0 w0 G a w hI=>let ⟨G1,h1,h2⟩:=h.run B0 w0 G a w hI;let ⟨G2,k1,k2⟩:=k.run B0 w0 G1 a w h2;⟨G2,h1.trans k1,k2⟩⟩
section
variable {E : Env} {rd : Option Nat} {N : Nat} {ops : Array Oper} {K : AS → Prop} {s s' : AS}
theorem zht{fn:Func}{R:AV->List AObj->Prop}(hc:Chg fn.ntmps s s')(h:ARet E fn R s'):ARet E fn R s:=
 ⟨λB0 w0 G a w hL hI R2 ml=>let ⟨G1,h1,h2⟩:=hc.run B0 w0 G a w hI;h.run B0 w0 G1 a w hL h2 R2 λv G' r st' w' hG k1 k2 k3=>ml v G' r st' w' (h1.trans hG) k1 k2 k3⟩
theorem zh5(i:Nat){x r:AV}(hi:s.t i=x)(hw:∀G v,Rel G x v->Rel G r v):Chg N s ⟨Av.put s.t i r,s.st,s.df⟩:=
 ⟨λB0 w0 G a w hI=>⟨G,.refl G,hI.agree,hI.defers,hI.size,λj y hy=>by
  have hj:=hI.tmps j y hy;by_cases e:j=i
  .subst e;simp only[xw];rw[hi]at hj;exact hw G y hj
  .simp only;rw[qat _ _ _ _ e];exact hj⟩⟩
theorem zh4(o:Nat):Chg N s ⟨s.t,s.st.set o .dead,s.df⟩:=⟨λB0 w0 G a w hI=>⟨G,.refl G,hI.agree.kill o,hI.defers,hI.size,hI.tmps⟩⟩
theorem zbu(i:Nat){sz o:Nat}{T':TypeId}{xs:List AV}{v:AV}{ob:AObj}(hi:s.t i=v)(hV:Vec sz T' o xs v ob)(ho:s.st[o]?=some ob):Chg N s ⟨Av.put s.t i (.sl sz xs none),s.st.set o .dead,s.df⟩:=by
 cases hV with
 |nil hx=>
  subst hx
  exact(zh5 i hi (λ_ _ h=>qcx h)).trans (zh4 o)
 |os ver cap pad hl hw d7 pw=>
  have hm:xs.length*sz<=cap*sz:=Ql _ d7;refine⟨λ_ _ _ _ _ hI=>hI.osPub hi ho rfl d7 hw Om ?_⟩;rw[List.drop_zero,List.take_append_of_le_length (by rw[zw hw];exact Qc _),List.take_of_length_le (by rw[zw hw];exact Qc _)]
theorem q73(i:Nat){sz k:Nat}{T':TypeId}{xs:List AV}{v:AV}{ob:AObj}{st loc ext new:List AObj}(hs:s.st=((st++loc)++ext)++new)(hi:s.t i=v)(hV:Vec sz T' (st.length+k) xs v ob)(ho:loc[k]?=some ob):Chg N s ⟨Av.put s.t i (.sl sz xs none),((st++loc.set k .dead)++ext)++new,s.df⟩:=by
 have:=zbu (N:=N) i hi hV (by rw[hs];exact qby ho);rw[hs,qfo _ (lt_of_getElem? ho)]at this;exact this
theorem q15{rest:List Oper}{d:Option Tmp}{T:TypeId}{p:String}{af:Array Edge}{x y:Operand}{t u T':TypeId}{sz bytes k:Nat}{xs ys:List AV}{tip:Option Nat}{a:AV}{ob:AObj}{st loc ext new:List AObj}(hs:s.st=((st++loc)++ext)++new)(hx:qn N s x=a)(hy:qn N s y=.sl sz ys tip)(hV:Vec sz T' (st.length+k) xs a ob)(ho:loc[k]?=some ob)
  (ht:E.P.underlying t=some (.slice T')) (hu:E.P.underlying u=some (.slice T')) (hT:yw E.P T' sz bytes) (i9:ke (flat ys)=true) (t7:xs.length+ys.length<=maxLen) (hb:(xs.length+ys.length)*bytes<=140737488355328)
  (h:∀a' ob',Vec sz T' (st.length+k) (xs++ys) a' ob'->AOps E rd N ops rest K (AS.put ⟨s.t,((st++loc.set k ob')++ext)++new,s.df⟩ d a')):AOps E rd N ops (⟨d,.call ⟨.builtin .append,#[x,y],#[t,u]⟩,T,p,af,none⟩::rest) K s:=
 q3g hx hy hV (by rw[hs];exact qby ho) ht hu hT i9 t7 hb λa' ob' hV'=>by rw[hs,qfo _ (lt_of_getElem? ho)];exact h a' ob' hV'
end
end Go.Av
namespace Go.Proofs.YtihlchbgjdkmpaaGreatDoor
open Go Go.Av Go.RowKit Go.Proofs Go.Pl
theorem zgt(text:List UInt8)(o kb ver n:Nat)(I:Nat->List UInt8->List AObj->Prop)(D:List AObj->Prop)(st l0:List AObj)(ht:text.length<4294967281)(h0:I 0 text l0)
  (hI:∀k rest l,I k rest l->l.length=n∧(st++l)[kb]?=some (.cells ver 9 [Sv text]))
  (hY:∀k rest l own ext,I k rest l->rest≠[]->rest.length<=text.length->yv E o [qfc k text rest] (st++(l++own::ext)) λb st2=>∃l' ext',st2=st++(l'++own::ext')∧(b=true->I (k+1) (past 10 rest) l')∧(b=false->D l'∧l'.length=n)):
  qr E 154 [.yd o,.bx kb ver 0] (st++l0) λr st'=>∃l own ext',st'=st++(l++own::ext')∧((∃k,I k [] l)∨D l):=by
 refine qs Tryz.func154 rfl (Qd rfl) ?_;obtain⟨hn,hb⟩:=hI 0 text l0 h0;repeat' (first|apply qq|apply q6|apply qh|apply qj|apply qi|(apply j7;exact rfl;exact rfl)|(apply jc;(iterate 11 exact rfl))|(apply yb;(iterate 3 exact rfl))|(apply qbh;exact rfl;exact rfl;exact hb;exact rfl;exact rfl))
 refine jt (λ(x:Nat×List UInt8)s=>match x with|(k,rest)=>∃l at' ta eb ext,I k rest l∧k+rest.length<=text.length∧at'=(text.length:Int)-rest.length∧StA [(0,.yd o),(1,.bx kb ver 0),(3,.bx ((st++l0).length+0) 0 0),(4,Sv rest)] ((st++l)++(.cells 0 206 [Iv k,Iv at',Sv ta,Bv eb]::ext)) [] s) (λx=>x.2.length) (0,text)
  ⟨l0,0,[],false,[],h0,Sx,Sx,?_⟩ ?_
 .exact z7 ⟨rfl,rfl,rfl,rfl,trivial⟩
 rintro⟨k,rest⟩ _ ⟨l,_,ta,eb,ext,hi,d7,rfl,t,rfl⟩;obtain⟨nw,fx⟩:=hI k rest l hi;have hq:(st++l).length=(st++l0).length:=by simp[hn,nw]
 repeat' (first|apply qq|apply q6|apply qh|apply qj|apply ql|apply qi|(apply zg;exact rfl;exact rfl)|(apply jo;(iterate 3 exact rfl))|(apply qe;exact rfl;apply cd_d<;>intro h)|(apply zl;(iterate 3 exact rfl))|apply qz|apply jd|(apply qm;exact Tryz.call110;exact qk1 _ _ _ Om)|(apply qci;exact rfl;exact hq;(iterate 10 exact rfl))|(apply qdi;exact rfl;exact hq;(iterate 4 exact rfl)))
 .refine qdh rfl (q7u (Qe st l (_::ext)).symm ((hY k rest l _ ext hi h Om).mono ?_))
  rintro b _ ⟨l',ext',rfl,h1,h2⟩
  cases b
  .skip
   rw[<-Qe];repeat' (first|apply qj|(apply ja;exact rfl)|(apply qe;exact rfl;apply qit;exact cRa)|apply qw)
   refine qo rfl (yx rfl) ⟨l',_,ext',Qe _ _ _,.inr (h2 rfl).1⟩
  .have hi3:=h1 rfl
   obtain⟨hn3,gb⟩:=hI _ _ _ hi3;have hp:=vl 10 rest;have hr0:0<rest.length:=Qo.2 h;have hq3:(st++l').length=(st++l0).length:=by simp[hn,hn3]
   rw[<-Qe];repeat' (first|apply qq|apply qh|apply qj|apply ql|(apply ja;exact rfl)|(apply qe;exact rfl;apply qis;exact cRa)|(apply zu;(iterate 3 exact rfl))|(apply zo;exact rfl;exact rfl;exact q8 Om Om)|(apply ww;exact rfl;exact rfl;exact q8 Om Om)|(apply zl;(iterate 3 exact rfl))|apply qz|(apply qbh;exact rfl;exact rfl;exact gb;exact rfl;exact rfl)|(apply qci;exact rfl;exact hq3;(iterate 10 exact rfl))|(apply qdi;exact rfl;exact hq3;(iterate 4 exact rfl)))
   exact⟨(k+1,past 10 rest),⟨l',_,_,_,_,hi3,Om,rfl,z7 ⟨rfl,rfl,rfl,rfl,trivial⟩⟩,by simp only;omega⟩
 .have hr:rest=[]:=Classical.not_not.1 h
  subst hr;exact qo rfl (yx rfl) ⟨l,_,ext,Qe _ _ _,.inl ⟨k,hi⟩⟩
theorem qym{N:Nat}{Q:Exit->AS->Prop}{s:AS}{f:Operand}{p:Tmp}{asg body:Code}{st loc:List AObj}{kb ver:Nat}(text:List UInt8)(e8:s.st=st++loc)(hx:qn N s f=.fn (.func 154) [] [.bx (st.length+kb) ver 0])(ht:text.length<4294967281)
  (I:Nat->List UInt8->List AObj->Prop) (D:Code->List AObj->Prop) (h0:I 0 text loc)
  (hI:∀k rest l,I k rest l->l.length=loc.length∧l[kb]?=some (.cells ver 9 [Sv text])) (hD:∀c l,D c l->l.length=loc.length)
  (hb:∀F own rd k rest l ext m,qls F N s.t #[p] asg body->I k rest l->rest≠[]->rest.length<=text.length->((st++(l++[.dfr,F .ready none,own]))++ext).length=m->((st++(l++[.dfr,F .busy none,own]))++ext).length=m->
   AWp E (some rd) N asg (only λs1=>∃new,s1.st=((st++(l++[.dfr,F .ready none,own]))++ext)++new∧s1.df=[]∧AWp E (some rd) N body (zgi F st own (I (k+1) (past 10 rest)) D) ⟨s1.t,((st++(l++[.dfr,F .busy none,own]))++ext)++new,[]⟩) ⟨put s.t p (qfc k text rest),((st++(l++[.dfr,F .ready none,own]))++ext)++[],[]⟩)
  (hn:∀k l ext,I k [] l->Q .normal ⟨s.t,((st++(l++[.dfr,.dead]))++ext)++[],(st.length+loc.length)::s.df⟩)
  (hd:∀c l ext,D c l->AWp E none N c Q ⟨s.t,((st++(l++[.dfr,.dead]))++ext)++[],(st.length+loc.length)::s.df⟩):AWp E none N (.rangeFunc f #[p] asg body) Q s:=by
 refine qj7 e8 hx Tryz.call154 λF hF=>?_;refine qr.mono (zgt text (st.length+(loc.length+1)) (st.length+kb) ver (loc.length+2) (λk rest l=>∃l1,l=l1++[.dfr,F .ready none]∧I k rest l1) (λl=>∃l1 c,l=l1++[.dfr,F .done (some c)]∧D c l1) st (loc++[.dfr,F .ready none]) ht ⟨loc,rfl,h0⟩ ?_ ?_) ?_
 .rintro k rest _ ⟨l,rfl,hi⟩
  obtain⟨h1,h2⟩:=hI k rest l hi;exact⟨by simp[h1],j9 (by rw[Qb (lt_of_getElem? h2)];exact h2)⟩
 .rintro k rest _ own ext ⟨l,rfl,hi⟩ b9 d7
  obtain⟨h1,h2⟩:=hI k rest l hi;have hy:=zhv (E:=E) (st:=st) (l:=l) (ext:=ext) (own:=own) (n:=loc.length) (xs:=[qfc k text rest]) (I:=I (k+1) (past 10 rest)) (D:=D) hF h1 rfl (λl hl=>(hI _ _ l hl).1) hD (λrd=>hb F own rd k rest l ext _ hF hi b9 d7 rfl Sx);have e:(st++(l++[.dfr,F .ready none,own]))++ext=st++((l++[.dfr,F .ready none])++own::ext):=Sx
  rw[e]at hy;refine hy.mono ?_;rintro b st2 ⟨l',ext',g1,g2⟩
  cases b with
  |true=>
   obtain⟨rfl,g⟩:=g1 rfl
   exact⟨l'++[.dfr,F .ready none],ext',Sx,λ_=>⟨l',rfl,g⟩,nofun⟩
  |false=>
   obtain⟨c,rfl,g⟩:=g2 rfl;exact⟨l'++[.dfr,F .done (some c)],ext',Sx,nofun,λ_=>⟨⟨l',c,rfl,g⟩,by simp[hD c l' g]⟩⟩
 .rintro r _ ⟨_,own,ext,rfl,⟨k,l,rfl,hi⟩|⟨l,c,rfl,hdl⟩⟩
  .have h1:=(hI _ _ _ hi).1
   have e:st++((l++[.dfr,F .ready none])++own::ext)=(st++(l++[.dfr,F .ready none,own]))++ext:=Sx
   rw[e];refine⟨.ready,none,nofun,qeu h1,?_⟩;rw[qg7 h1];have:=hn k l (own::ext) hi
   simpa using this
  .have h1:=hD _ _ hdl
   have e:st++((l++[.dfr,F .done (some c)])++own::ext)=(st++(l++[.dfr,F .done (some c),own]))++ext:=Sx
   rw[e];refine⟨.done,some c,nofun,qeu h1,?_⟩;rw[qg7 h1];have:=hd c l (own::ext) hdl
   simpa using this
abbrev Ss(xs:List qc):AV:=.sl 1 (xs.map λx=>Sv x) none
theorem qlq(l m:List UInt8)(st:List AObj):qr E 112 [Sv l,Sv m] st λr st'=>r=Sv (Lib.trimPrefix l m)∧st'=st:=
 qav (vals:= #[.string ⟨l.toArray⟩,.string ⟨m.toArray⟩]) rfl λ_ _ w _ _=>(Tryz.strings_TrimPrefix ⟨l.toArray⟩ ⟨m.toArray⟩ w).mono λ_ _ ⟨h1,h2⟩=>⟨h1,qfv h2⟩
theorem za0(l:List UInt8)(c:UInt8)(st:List AObj):qr E 112 [Sv l,Sv [c]] st λr st'=>r=Sv (w9 c l)∧st'=st:=by
 rw[<-qzm];exact qlq _ _ _
theorem zdj{B0:Nat}{w0:World}{G:Gh}{st:List AObj}{w:World}(hA:zm B0 w0 G st w){xs:List qc}{tip:Option Nat}{v:Value}(h:Rel G (.sl 1 (xs.map λx=>Sv x) tip) v):
  (xs=[]∧∃a c,v=.slice a 0 c)∨∃b off cap,v=.slice (some ⟨b,off,none⟩) xs.length cap∧b<w.heap.size∧xs.length<=cap∧∀(j:Nat)(x:qc),xs[j]?=some x->w.cell? ⟨b,off+j,none⟩=some (.string ⟨x.toArray⟩):=by
 generalize hq:xs.map (λx=>Sv x)=q at h
 cases h with
 |sl0 sz tip base cap ht=>exact .inl ⟨by simpa using hq,base,cap,rfl⟩
 |sl _ _ _ b off cap pub hp hw d5 hr ht p9=>
  subst hq;obtain⟨c,T,fz,hc,sf⟩:=hA.pub b pub hp;refine .inr ⟨b,off,cap,Sx,hA.pub_lt hp,by simpa using p9,λj x hx=>?_⟩
  have o7:flat (xs.map λx=>Sv x)=xs.map λx=>Sv x:=by
   clear hx hr d5 hw ht p9
   induction xs with
   |nil=>rfl
   |cons a xs ih=>rw[Qp,qcp,ih];rfl
  have hj:=lt_of_getElem? hx;rw[o7]at d5;simp only[Qh]at d5;have hy:pub[off+j]?=some (pub[off+j]'(by omega)):=Qt Om;have hrj:=hr j (Sv x) _ (by rw[o7,Qq,hx];rfl) hy;generalize hz:pub[off+j]'(by omega)=z at hrj hy;generalize hSx:Sv x=sx at hrj
  cases hrj<;>simp_all
  subst_vars
  simp[World.cell?,hc,sf _ _ hy]
theorem q48(xs:List qc)(tip:Option Nat)(sep:qc)(st:List AObj)(hN:xs.length<=140737488355328)(hl:(Lib.join xs sep).length<=140737488355328):qr E 97 [.sl 1 (xs.map λx=>Sv x) tip,Sv sep] st λr st'=>r=Sv (Lib.join xs sep)∧st'=st:=by
 refine⟨λB0 w0 G vs w hL hA hR=>?_⟩;have hs:vs.size=2:=by have:=hR.1;simpa using this.symm
 have e0:vs[0]?=some vs[0]:=by simp[hs]
 have e1:vs[1]?=some vs[1]:=by simp[hs]
 have h0:=hR.2 0 _ _ rfl e0;have h1:=hR.2 1 _ _ rfl e1;have hv1:vs[1]=.string ⟨sep.toArray⟩:=by generalize vs[1]=y at h1;cases h1;rfl
 have hvs:vs= #[vs[0],.string ⟨sep.toArray⟩]:=by
  apply Array.ext (by simp[hs]);intro i g1 g2
  match i with
  |0=>rfl
  |1=>exact hv1
  |i+2=>simp[hs]at g1;omega
 rw[hvs];rcases zdj hA h0 with⟨hx,a,c,hv⟩|⟨b,off,cap,hv,hb,p9,db⟩
 .rw[hv]
  subst hx;refine(Tryz.strings_Join_none a c ⟨sep.toArray⟩ w).mono ?_;rintro e w' ⟨rfl,rfl⟩;exact⟨_,G,Sv [],st,rfl,.refl G,hA,.v _,rfl,rfl⟩
 .rw[hv]
  have hm:(xs.map λl:qc=>(⟨l.toArray⟩:ByteArray)).map (·.data.toList)=xs:=by simp[Zo,Function.comp_def]
  have hc:=Tryz.strings_Join b off cap (xs.map λl=>⟨l.toArray⟩) ⟨sep.toArray⟩ w (λj x hx=>by
   rw[Qq]at hx
   cases hq:xs[j]?with
   |none=>rw[hq]at hx;simp at hx
   |some y=>rw[hq]at hx;simp at hx;subst hx;exact db j y hq) hb (by simpa using hN) (by simpa using p9) (by rw[hm];simpa using hl)
  rw[hm]at hc;simp only[Qh]at hc;refine hc.mono ?_;rintro e w' ⟨rfl,hbw⟩;exact⟨_,G,Sv _,st,rfl,.refl G,hA.fresh hbw,.v _,rfl,rfl⟩
def Weak(x r:AV):Prop:=∀(G:Gh)(v:Value),Rel G x v->Rel G r v
theorem qc1(x:AV):Weak x x:=λ_ _ h=>h
theorem qpq(sz:Nat)(xs:List AV)(tip:Option Nat):Weak (.sl sz xs tip) (.sl sz xs none):=λ_ _ h=>qmr h
theorem qh3(sz:Nat):Weak zn (.sl sz [] none):=λ_ _ h=>qcx h
theorem qgl{x y x' y':AV}(h1:Weak x x')(h2:Weak y y'):Weak (.tu [x,y]) (.tu [x',y']):=λG v h=>by
 cases h with
 |tu _ vs hl hr=>
  refine .tu _ vs hl λi a b ha hb=>?_
  match i with
  |0=>simp at ha;subst ha;exact h1 G b (hr 0 x b rfl hb)
  |1=>simp at ha;subst ha;exact h2 G b (hr 1 y b rfl hb)
  |i+2=>simp at ha
theorem zne{xs ys:List AV}(hl:xs.length=ys.length)(h:∀(i:Nat)(x y:AV),xs[i]?=some x->ys[i]?=some y->Weak x y):Weak (.ag xs) (.ag ys):=λG v hr=>by
 cases hr with
 |ag _ vs bj hr=>
  refine .ag _ vs Om λi a b ha hb=>?_;have hi:=lt_of_getElem? ha;exact h i _ a (Qt Om) ha G b (hr i _ b (Qt Om) hb)
theorem zbh{fn:Func}{s:AS}{t u:Tmp}{x y x' y':AV}(hr:fn.results= #[.tmp t,.tmp u])(hx:qn fn.ntmps s (.tmp t)=x)(hy:qn fn.ntmps s (.tmp u)=y)(h1:Weak x x')(h2:Weak y y'):ARes E fn s (.tu [x',y']):=
 x8 (kw hr) (by rw[hx,hy];exact qgl h1 h2)
def errN(n:Int):AV:=if n=0 then .v .nilIface else .ifc 37 (Iv n)
theorem ql8(n:Int):Pure (errN n):=by
 unfold errN;split
 .exact qt _
 .exact qd4 (qt _)
theorem qno{n:Int}(h:n≠0):errN n=.ifc 37 (Iv n):=if_neg h
theorem qtd(f:FldV)(st:List AObj)(hl:f.1.length<4294967281):qr E 201 [fldA f] st λr st'=>r=errN (vh f)∧st'=st:=by
 refine q5 (ql8 _) (qs Tryz.func201 rfl (Qd rfl) ?_);repeat' (first|apply qq|apply q6|apply qh|apply qj|apply qi|(apply qv;(iterate 3 exact rfl))|(apply ja;exact rfl)|(apply qe;exact rfl;apply cd_n<;>intro h)|(apply qe;exact rfl;apply cd_d<;>intro h)|(apply zu;(iterate 3 exact rfl))|(apply vq;exact rfl;exact rfl)|(apply qb1;(iterate 4 exact rfl))|(apply zl;(iterate 3 exact rfl))|(apply jr;(iterate 5 exact rfl))|apply qz|apply qw|(apply qm;exact Tryz.call217;exact zky _ _ hl))
 all_goals refine qo rfl (q7 rfl) ⟨(?_:_=_),_,rfl⟩
 .have e:vh f=5:=if_pos (by simp_all)
  rw[e];rfl
 .have e:vh f=6:=(if_neg (by simp_all)).trans (if_pos Om)
  rw[e];rfl
 .have e:vh f=0:=(if_neg (by simp_all)).trans (if_neg Om)
  rw[e];rfl
theorem qk8(f:FldV)(st:List AObj)(hl:f.1.length<4294967281)(h:vh f=0):qr E 201 [fldA f] st λr st'=>r=.v .nilIface∧st'=st:=by
 have:=qtd f st hl;rw[h]at this;exact this
theorem qk9(f:FldV)(st:List AObj)(hl:f.1.length<4294967281)(h:vh f≠0):qr E 201 [fldA f] st λr st'=>r=.ifc 37 (Iv (vh f))∧st'=st:=by
 have:=qtd f st hl;rw[qno h]at this;exact this
theorem zg1(s:List UInt8)(st:List AObj)(hl:s.length<4294967281):qr E 202 [Sv s] st λr st'=>r=Sv (wj s)∧st'=st:=by
 refine q5 (qt _) (qs Tryz.func202 rfl (Qd rfl) ?_);have hb:Lib.trimS s [32,9]=[]↔qc4 s:=by rw[qr1];simp[wy,qc4]
 repeat' (first|apply qq|apply qh|apply qj|apply ql|apply qi|(apply jo;(iterate 3 exact rfl))|(apply qx;(iterate 4 exact rfl))|(apply wc;exact cAo)|(apply wg;exact cAo)|(apply jn<;>intro h)|(apply qk;exact rfl;apply w7;exact cAo)|(apply qk;exact rfl;apply wt;exact cAo)|(apply qe;exact rfl;apply cd_t;exact cRa)|(apply qe;exact rfl;apply cd_d<;>intro h)|(apply jy;exact rfl;exact rfl;exact cOs)|apply qz|apply qw|(apply qm;exact Tryz.call215;exact qzl _ _ _ Om rfl rfl)|(apply qm;exact Tryz.call155;exact qhs _ _ _))
 all_goals refine qo rfl (q7 rfl) ⟨congrArg (λl:qc=>Sv l) (?_:_=wj s),_,rfl⟩
 all_goals unfold wj
 all_goals simp_all
theorem qnv(xs:List qc):Pure (Ss xs):=zf3 xs
theorem zde(l p:qc)(r:List qc)(st:List AObj)(hl:l.length<4294967281)(h:zb l=p::r):qr E 96 [Sv l,Sv [10]] st λx st'=>x=.sl 1 (Sv p::r.map λx=>Sv x) none∧st'=st:=by
 have:=zgs l st hl;rw[h]at this;exact this
def qlc(f:FldV):AV:=.tu [Ss (if vh f=0 then zq f else []),errN (vh f)]
theorem q8f(f:FldV):Pure (qlc f):=qeh λx hx=>by
 simp only[Qv,Qu,or_false]at hx;rcases hx with rfl|rfl
 .exact qnv _
 .exact ql8 _
set_option maxHeartbeats 2000000 in
theorem qte(f:FldV)(st:List AObj)(hl:f.1.length<4294967281)(hv:f.2.length<1000000):qr E 143 [fldA f] st λr st'=>r=qlc f∧st'=st:=by
 refine q5 (q8f _) (qs Tryz.func143 rfl (Qd rfl) ?_);by_cases hc:vh f=0
 .obtain⟨p,r,hp⟩:∃p r,zb f.2=p::r:=⟨_,_,qo9 f.2⟩
  have fj:p.length<=f.2.length:=qf1 f.2 p (by rw[hp];simp);have dj:∀x∈r,x.length<=f.2.length:=λx hx=>qf1 f.2 x (by rw[hp];simp[hx]);have hrn:r.length<=f.2.length:=by have:=qdf _ f.2 (Qc _);rw[hp]at this;simpa using this
  repeat' (first|(apply qb2;(iterate 6 exact rfl))|(apply qzy;(iterate 5 exact rfl);kernel_rfl)|apply qq|apply q6|apply qh|apply qj|apply ql|apply qi|(apply jo;(iterate 3 exact rfl))|(apply qe;exact rfl;apply cd_f;exact cRa)|(apply qe;exact rfl;apply cd_d<;>intro h)|(apply jp;(iterate 4 exact rfl))|(apply jy;exact rfl;exact rfl;exact cOs)|(apply wd;exact rfl;exact rfl)|(apply qb1;(iterate 4 exact rfl))|(apply zl;(iterate 3 exact rfl))|(apply jq;(iterate 3 exact rfl))|(apply jr;(iterate 5 exact rfl))|(apply jc;(iterate 11 exact rfl))|(apply qh8;(iterate 4 exact rfl);(first|assumption|omega|exact Nat.succ_le_succ (Zh _)|(simp;omega));exact rfl)|apply qjf|(apply qje;exact rfl;exact rfl;exact cOs)|(apply qj5;(iterate 3 exact rfl))|(apply qmy;(iterate 5 exact rfl))|apply qgq|apply qz|(apply qm;exact Tryz.call201;exact qk8 _ _ hl hc)|(apply qm;exact Tryz.call96;exact zde _ _ _ _ Om hp)|(apply kp (n:=0);(iterate 6 exact rfl))|(apply qqf (n:=0);(iterate 6 exact rfl))|(apply qly (n:=0);(iterate 5 exact rfl);omega))
  all_goals refine zd4 6 (o:=st.length+1) (sz:=1) (len:=1) (cap:=1) (xs:=[Sv (kl f.1 p)]) (T':=9) rfl (j9 rfl) rfl rfl Om (Qc _) (by decide) (by simp[AV.cells]) ?_ ?_
  .exact congrArg (λl:qc=>[Sv l]) (by unfold kl;rw[if_neg h]:kl f.1 p=f.1++[58]++([32]++p))
  rotate_left
  .exact congrArg (λl:qc=>[Sv l]) (by unfold kl;rw[if_pos (Classical.not_not.1 h),Zd]:kl f.1 p=f.1++[58])
  all_goals
   have hre:qlc f=.tu [Ss (kl f.1 p::r.map λs=>[32]++wj s),.v .nilIface]:=by
    unfold qlc zq;rw[if_pos hc,hc,hp];rfl
   rw[hre];have e8:∀s,(wj s).length<=s.length+1:=q1x;refine qck r (λpre s=>StE [(6,.sl 1 (Sv (kl f.1 p)::pre.map (λs=>Sv ([32]++wj s))) (some (st.length+1))),(35,.sl 1 (r.map λx=>Sv x) none),(36,Iv r.length),(37,Iv pre.length)] st [.cells 0 77 [Sv f.1,Sv f.2],.tip (pre.length+1) 1 9] s) (qfq ⟨rfl,rfl,congrArg (λn:Nat=>Iv (n:Int)) (Qh ..),rfl,trivial⟩ (y4 st _ 1 _)) ?_ ?_
   .rintro _ ⟨t,ext,rfl⟩
    repeat' (first|apply qq|apply qh|apply qj|apply ql|apply qi|(apply qv;(iterate 3 exact rfl))|(apply qe;exact rfl;apply v8;exact cAo)|apply jd|apply qw)
    refine qo rfl (zbh rfl rfl rfl (qpq _ _ _) (qc1 _)) ⟨?_,qbx _ _ _ _⟩;simp only[Ss,Qp,Zo];rfl
   .rintro pre a rest _ hr ⟨t,ext,rfl⟩
    have d5:r.length=pre.length+(rest.length+1):=by rw[hr];simp
    have d9:(r.map λx=>Sv x)[pre.length]?=some (Sv a):=by rw[hr];simp
    have ha:a.length<=f.2.length:=dj a (by rw[hr];simp);have hsa:=e8 a;repeat' (first|apply qq|apply q6|apply qh|apply qj|apply ql|apply qi|(apply qv;(iterate 3 exact rfl))|(apply qe;exact rfl;apply vo;exact cAo)|(apply jy;exact rfl;exact rfl;exact cOs)|(apply zo;exact rfl;exact rfl;exact q8 Om Om)|(apply jq;(iterate 3 exact rfl))|(apply we;(iterate 9 exact rfl))|apply qz|(apply qm;exact Tryz.call202;exact zg1 _ _ Om)|(apply kp (n:=pre.length);(iterate 5 exact rfl);exact d9)|(apply qhf (n:=pre.length+1) (m:=1) (sz:=1) (bytes:=16);(iterate 4 exact rfl);simp;exact rfl;exact rfl;exact⟨⟨_,_,rfl,rfl,rfl,rfl,rfl⟩⟩;exact rfl;exact rfl;(unfold maxLen;omega);omega;exact rfl))
    refine qb7 ⟨?_,rfl,rfl,?_,trivial⟩ ?_
    .exact zkf _ (λs=>Sv ([32]++wj s)) pre a _ rfl
    .exact qid pre a
    .rw[qd6 pre a];rfl
 .skip
  repeat' (first|apply qq|apply qh|apply qj|apply ql|apply qi|(apply qe;exact rfl;apply cd_t;exact cRa)|(apply xj;exact rfl;exact rfl)|(apply qb1;(iterate 4 exact rfl))|(apply jr;(iterate 5 exact rfl))|apply qw|(apply qm;exact Tryz.call201;exact qk9 _ _ hl hc))
  refine qo rfl (x8 (r':=.tu [Ss [],.ifc 37 (Iv (vh f))]) (kw rfl) (qgl (qh3 _) (qc1 _))) ⟨?_,_,rfl⟩;unfold qlc;rw[if_neg hc,qno hc]
theorem qin{rd:Option Nat}{N:Nat}{ops:Array Oper}{K:AS->Prop}{s:AS}{rest:List Oper}{d:Option Tmp}{T:TypeId}{p:String}{af:Array Edge}{st loc:List AObj}(e8:s.st=st++loc)
  (h:AOps E rd N ops rest K (AS.put ⟨s.t,st++(loc++[bldO 0 (.v (.pointer none)) [] (st.length+(loc.length+1)),.tip 0 1 5]),s.df⟩ d (.bx (st.length+loc.length) 0 0))):AOps E rd N ops (⟨d,.alloc 194,T,p,af,none⟩::rest) K s:=by
 refine j7 e8 rfl ?_;have e:∀(t:Nat->AV)(st':List AObj)(df:List Nat)(x:AV),(AS.put ⟨t,st',df⟩ d x).st=st':=λt st' df x=>by cases d<;>rfl
 have e2:∀(t:Nat->AV)(st' st2:List AObj)(df:List Nat)(x:AV),(⟨(AS.put ⟨t,st',df⟩ d x).t,st2,(AS.put ⟨t,st',df⟩ d x).df⟩:AS)=AS.put ⟨t,st2,df⟩ d x:=λt st' st2 df x=>by cases d<;>rfl
 refine q3p (o:=st.length+loc.length) (j:=1) (sz:=1) (T':=5) (T1:=194) (ver:=0) (cs:=[.v (.pointer none),zn]) ?_ rfl ?_
 .rw[e,<-Qe,Qj Sx]
  simp;rfl
 .rw[e,e2]
  have hx:(st++(loc++[AObj.cells 0 194 [.v (.pointer none),zn]])).set (st.length+loc.length) (.cells 0 194 ([AV.v (.pointer none),zn].set 1 (.sl 1 [] (some (st++(loc++[AObj.cells 0 194 [.v (.pointer none),zn]])).length))))++[AObj.tip 0 1 5]
    =st++(loc++[bldO 0 (.v (.pointer none)) [] (st.length+(loc.length+1)),.tip 0 1 5]):=by
   rw[y4,Qe,List.set_append_right _ _ (Qc _)];simp
  have h':=h;rw[<-hx]at h';exact h'
theorem qj8(st loc ext new loc':List AObj)(k kt ver:Nat)(q:AV)(l m:List UInt8)(hk:loc[k]?=some (bldO ver q l (st.length+kt)))(pz:loc[kt]?=some (.tip l.length 1 5))(hq:q=.v (.pointer none)∨q=.bx (st.length+k) ver 0)
  (d5:l.length+m.length<=140737488355328) (hl:loc'=(loc.set k (bldO ver (.bx (st.length+k) ver 0) (l++m) (st.length+kt))).set kt (.tip (l++m).length 1 5)):
  qr E 101 [.bx (st.length+k) ver 0,Sv m] (((st++loc)++ext)++new) λr st'=>r=.tu [Iv m.length,.v .nilIface]∧st'=((st++loc')++ext)++new:=by
 refine(q3v (st.length+k) ver (st.length+kt) q l m _ (qby hk) (qby pz) hq d5).mono λr st' ⟨h1,h2⟩=>⟨h1,?_⟩;have br:=lt_of_getElem? hk;have s4:=lt_of_getElem? pz;rw[h2,qfo _ br,qfo _ (by simpa using s4),hl,Qa]
theorem qiq(st loc ext new loc':List AObj)(k kt ver:Nat)(q:AV)(l:List UInt8)(hk:loc[k]?=some (bldO ver q l (st.length+kt)))(pz:loc[kt]?=some (.tip l.length 1 5))(hl:loc'=loc.set kt .dead):
  qr E 104 [.bx (st.length+k) ver 0] (((st++loc)++ext)++new) λr st'=>r=Sv l∧st'=((st++loc')++ext)++new:=by
 refine(qz0 (st.length+k) ver (st.length+kt) q l _ (qby hk) (qby pz)).mono λr st' ⟨h1,h2⟩=>⟨h1,?_⟩;rw[h2,qfo _ (lt_of_getElem? pz),hl]
theorem qu6:∀(r:List qc),(zk (r.map λs=>[32]++wj s)).length<=3*(r.flatMap λs=>[10]++s).length
 | []=>by simp[zk]
 |a::r=>by
  have ih:=qu6 r;have:=q1x a;simp only[zk,Qp,Qy,Qa,Qf,Qm]at ih⊢;omega
theorem qan(a b:List qc):zk (a++b)=zk a++zk b:=by simp[zk]
theorem qjs(s:qc):zk [s]=s++[10]:=by simp[zk]
theorem qnd:∀(l:List qc),l.length<=(zk l).length
 | []=>by simp
 |a::r=>by
  have ih:=qnd r;simp only[zk,Qy,Qa,Qf,Qm]at ih⊢;omega
theorem q0t(a b:List Fld):zy (a++b)=zy a++zy b:=by simp[zy]
theorem q0u(f:Fld):zy [f]=zk (zq f):=by simp[zy]
theorem qw4{f:Fld}(h:ki f):(zk (zq f)).length<=5000:=by
 obtain⟨hk,hv⟩:=h;have h1:=qu6 (zb f.2).tail;have h2:=congrArg Zi (qki _ f.2 (Qc _))
 have h3:(kl f.1 ((zb f.2).headD [])).length<=32+2+((zb f.2).headD []).length:=by
  have:=hk.2.1;unfold kl;split <;>simp <;>omega
 have e:zq f=[kl f.1 ((zb f.2).headD [])]++(zb f.2).tail.map λs=>[32]++wj s:=rfl;rw[e,qan,qjs];simp only[Qa,Qf,Qm]at h2⊢;omega
theorem qgt:∀(xs:List Fld),(∀f∈xs,ki f)->(zy xs).length<=5000*xs.length
 | [],_=>by simp[zy]
 |f::r,h=>by
  have ih:=qgt r λx hx=>h x (by simp[hx]);have h1:=qw4 (h f Sx);have e:zy (f::r)=zk (zq f)++zy r:=by simp[zy]
  rw[e,Qa,Qf];omega
def errF:List Fld->Int
 | []=>0
 |f::r=>if vh f≠0 then vh f else errF r
theorem qqt:∀(xs:List Fld),errF xs=0↔∀f∈xs,ki f
 | []=>by simp[errF]
 |f::r=>by
  have ih:=qqt r;unfold errF;by_cases h:vh f≠0
  .rw[if_pos h]
   have hg:¬ki f:=λhg=>h ((qc5 f).2 hg);simp[h,hg]
  .have hg:=(qc5 f).1 (Classical.not_not.1 h)
   rw[if_neg h,ih];simp[hg]
theorem q9u:∀{pre:List Fld}{f:Fld}{r:List Fld},(∀x∈pre,ki x)->vh f≠0->errF (pre++f::r)=vh f
 | [],f,r,_,h=>by simp[errF,h]
 |x::pre,f,r,hp,h=>by
  have:=(qc5 x).2 (hp x Sx);simp only[Zp,errF,this];rw[if_neg Sx];exact q9u (λy hy=>hp y (by simp[hy])) h
theorem q4u(f:FldV)(st:List AObj)(hl:f.1.length<4294967281)(hv:f.2.length<1000000)(h:vh f=0):qr E 143 [fldA f] st λr st'=>r=.tu [Ss (zq f),.v .nilIface]∧st'=st:=by
 have:=qte f st hl hv;unfold qlc at this;rw[if_pos h,h]at this;exact this
theorem q4v(f:FldV)(st:List AObj)(hl:f.1.length<4294967281)(hv:f.2.length<1000000)(h:vh f≠0):qr E 143 [fldA f] st λr st'=>r=.tu [Ss [],.ifc 37 (Iv (vh f))]∧st'=st:=by
 have:=qte f st hl hv;unfold qlc at this;rw[if_neg h,qno h]at this;exact this
def qwr(xs:List Fld):AV:=.tu [Sv (if errF xs=0 then zy xs else []),errN (errF xs)]
theorem zca(xs:List Fld):Pure (qwr xs):=qeh λx hx=>by
 simp only[Qv,Qu,or_false]at hx;rcases hx with rfl|rfl
 .exact qt _
 .exact ql8 _
structure q2m (xs:List FldV):Prop where
 len:xs.length<1000000
 val:∀f∈xs,f.1.length<4294967281∧f.2.length<1000000
set_option maxHeartbeats 2000000 in
theorem znx(xs:List FldV)(st:List AObj)(hx:q2m xs):qr E 100 [jl xs] st λr st'=>r=qwr xs∧st'=st:=by
 refine q5 (zca _) (qs Tryz.func100 rfl (Qd rfl) ?_);have hxl:=hx.len;repeat' (first|(apply qin;exact rfl)|apply qq|apply q6|apply qh|apply qj|apply ql|apply qi|(apply jp;(iterate 4 exact rfl)))
 refine qck xs (λpre s=>(∀f∈pre,ki f)∧∃q,(q=.v (.pointer none)∨q=.bx (st.length+0) 0 0)∧StE [(4,.bx (st.length+0) 0 0),(11,jl xs),(12,Iv xs.length),(13,Iv pre.length)] st [bldO 0 q (zy pre) (st.length+1),.tip (zy pre).length 1 5] s) ⟨Sx,_,.inl rfl,qfq ⟨rfl,rfl,congrArg (λn:Nat=>Iv (n:Int)) (Qh ..),rfl,trivial⟩ rfl⟩ ?_ ?_
 .rintro _ ⟨hg,q,hq,t,ext,rfl⟩
  repeat' (first|apply qq|apply qh|apply qj|apply qi|(apply qv;(iterate 3 exact rfl))|(apply qe;exact rfl;apply v8;exact cAo)|apply jd|apply qw|(refine qm Tryz.call104 (qiq st _ _ _ _ 0 1 0 _ _ rfl rfl rfl) ?_))
  refine qo rfl (kw rfl) ⟨?_,qbx _ _ _ _⟩;unfold qwr;have h0:=(qqt xs).2 hg;rw[if_pos h0,h0];rfl
 .rintro pre f rest _ hr ⟨hg,q,hq,t,ext,rfl⟩
  have d5:xs.length=pre.length+(rest.length+1):=by rw[hr];simp
  have d9:(xs.map fldA)[pre.length]?=some (fldA f):=by rw[hr];simp
  obtain⟨mc,hf2⟩:=hx.val f (by rw[hr];simp);by_cases hc:vh f=0
  .have hgf:=(qc5 f).1 hc
   have r6:=qgt pre hg;have t6:=qw4 hgf;repeat' (first|apply qq|apply q6|apply qh|apply qj|apply ql|apply qi|(apply zg;exact rfl;exact rfl)|(apply qv;(iterate 3 exact rfl))|(apply qe;exact rfl;apply vo;exact cAo)|(apply qe;exact rfl;apply cd_f;exact cRa)|(apply jp;(iterate 4 exact rfl))|(apply wd;exact rfl;exact rfl)|(apply j7;exact rfl;exact rfl)|(apply jq;(iterate 3 exact rfl))|(apply jr;(iterate 5 exact rfl))|(apply jc;(iterate 11 exact rfl))|apply qz|(apply qm;exact Tryz.call143;exact q4u _ _ mc hf2 hc)|(apply kp (n:=pre.length);(iterate 5 exact rfl);exact d9))
   refine qck (zq f) (λlp s=>∃q,(q=.v (.pointer none)∨q=.bx (st.length+0) 0 0)∧StE [(4,.bx (st.length+0) 0 0),(11,jl xs),(12,Iv xs.length),(13,Iv pre.length),(25,Ss (zq f)),(26,Iv (zq f).length),(27,Iv lp.length)] st [bldO 0 q (zy pre++zk lp) (st.length+1),.tip (zy pre++zk lp).length 1 5] s) ⟨_,hq,qb7 ⟨rfl,rfl,rfl,rfl,rfl,congrArg (λn:Nat=>Iv (n:Int)) (Qh ..),rfl,trivial⟩ (by simp[zk])⟩ ?_ ?_
   .rintro _ ⟨q,hq,t,ext,rfl⟩
    repeat' (first|apply qq|apply qh|apply qj|apply ql|(apply qv;(iterate 3 exact rfl))|(apply qe;exact rfl;apply v8;exact cAo)|(apply zo;exact rfl;exact rfl;exact q8 Om Om)|apply jd)
    refine⟨λx hx=>?_,q,hq,qb7 ⟨rfl,rfl,rfl,?_,trivial⟩ ?_⟩
    .rcases Qz.1 hx with hx|hx
     .exact hg x hx
     .simp at hx;subst hx;exact hgf
    .rw[qd6 pre f];rfl
    .rw[q0t,q0u]
   .rintro lp a lr _ hlr ⟨q,hq,t,ext,rfl⟩
    have hlen2:(zq f).length=lp.length+(lr.length+1):=by rw[hlr];simp
    have hget2:((zq f).map λx=>Sv x)[lp.length]?=some (Sv a):=by rw[hlr];simp
    have gb:(zk lp).length+(a.length+1)<=5000:=by
     rw[hlr,qan]at t6;have:a::lr=[a]++lr:=rfl;rw[this,qan,qjs]at t6;simp only[Qa,Qf,Qm]at t6;omega
    have hct:=qnd lp;repeat' (first|apply qq|apply q6|apply qh|apply qj|apply ql|apply qi|(apply qv;(iterate 3 exact rfl))|(apply qe;exact rfl;apply vo;exact cAo)|(apply jy;exact rfl;exact rfl;exact cOs)|(apply jq;(iterate 3 exact rfl))|apply qz|(apply kp (n:=lp.length);(iterate 5 exact rfl);exact hget2))
    refine qm Tryz.call101 (qj8 st _ _ _ _ 0 1 0 _ _ _ rfl rfl ?_ ?_ rfl) ?_;(exact hq);(simp only[Qa,Qf,Qm];omega);repeat' (first|apply qh|apply qj|apply ql|(apply zo;exact rfl;exact rfl;exact q8 Om Om))
    refine⟨_,.inr rfl,qb7 ⟨rfl,rfl,rfl,rfl,rfl,rfl,?_,trivial⟩ ?_⟩
    .rw[qd6 lp a];rfl
    .have e:zy pre++zk (lp++[a])=(zy pre++zk lp)++(a++[10]):=by rw[qan,qjs,Qe]
     rw[e];rfl
  .skip
   repeat' (first|apply qq|apply q6|apply qh|apply qj|apply ql|apply qi|(apply zg;exact rfl;exact rfl)|(apply qv;(iterate 3 exact rfl))|(apply qe;exact rfl;apply vo;exact cAo)|(apply qe;exact rfl;apply cd_t;exact cRa)|(apply xj;exact rfl;exact rfl)|(apply j7;exact rfl;exact rfl)|(apply jq;(iterate 3 exact rfl))|(apply jr;(iterate 5 exact rfl))|(apply jc;(iterate 11 exact rfl))|apply qz|apply qw|(apply qm;exact Tryz.call143;exact q4v _ _ mc hf2 hc)|(apply kp (n:=pre.length);(iterate 5 exact rfl);exact d9))
   refine qo rfl (kw rfl) ⟨?_,qbx _ _ _ _⟩;unfold qwr;have h0:errF xs=vh f:=by rw[hr];exact q9u hg hc
   rw[h0,if_neg hc,qno hc];rfl
theorem q1f:∀(n:Nat)(l:qc),l.length<=n->zb (l++[10])=zb l++[[]]
 |n,l,hn=>by
  by_cases h:10∈l
  .have b9:l≠[]:=λe=>by subst e;simp at h
   have d8:=xp (c:=10) b9
   cases n with
   |zero=>omega
   |succ n=>
    have ih:=q1f n (past 10 l) Om;have e:=wl h;have e2:l++[10]=upto 10 l++10::(past 10 l++[10]):=(congrArg (· ++[10]) e).trans Sx;rw[y7 (by simp[h]),y7 h,e2,v7 _ (yu 10 l),xv _ (yu 10 l),ih];rfl
  .rw[y7 Sx,y8 h,v7 [] h,xv [] h]
   rw[y8 Sx];rfl
theorem qfg:∀(n:Nat)(l:qc)(c:UInt8),l.length<=n->c≠10->zb (l++[c])=(zb l).set ((zb l).length-1) ((zb l).getD ((zb l).length-1) []++[c])
 |n,l,c,hn,hc=>by
  by_cases h:10∈l
  .have b9:l≠[]:=λe=>by subst e;simp at h
   have d8:=xp (c:=10) b9
   cases n with
   |zero=>omega
   |succ n=>
    have ih:=qfg n (past 10 l) c Om hc;have e:=wl h;have e2:l++[c]=upto 10 l++10::(past 10 l++[c]):=(congrArg (· ++[c]) e).trans Sx;have hp:=qhw (past 10 l);have fj:0<(zb (past 10 l)).length:=Qo.2 hp;rw[y7 (by simp[h]),y7 h,e2,v7 _ (yu 10 l),xv _ (yu 10 l),ih];have e3:(upto 10 l::zb (past 10 l)).length-1=(zb (past 10 l)).length-1+1:=So
    rw[e3,Zn];simp
  .have h2:10∉l++[c]:=by simp[h,Ne.symm hc]
   rw[y8 h,y8 h2];simp
theorem q8o(l:qc):(zb l).length<=l.length+1:=qdf _ l (Qc _)
theorem zg0(xs:List qc):flat (xs.map λx=>Sv x)=xs.map λx=>Sv x:=by
 induction xs with
 |nil=>rfl
 |cons a xs ih=>rw[Qp,qcp,ih];rfl
set_option maxHeartbeats 2000000 in
theorem zc6(l:qc)(st:List AObj)(hl:l.length<1000000):qr E 191 [Sv l] st λr st'=>r=Ss (zb l)∧st'=st:=by
 refine q5 (qnv _) (qs Tryz.func191 rfl (Qd rfl) ?_)
 have h0:Vec 1 9 (st.length+0) ((zb []).map λx=>Sv x) (.os (st.length+0) 0 0 1 1) (.cells 0 9 [Sv []]):=by
  rw[y8 Sx];exact .os 0 1 [] rfl (by simp[AV.cells]) (Qc _) (by decide)
 repeat' (first|(apply qb2;(iterate 6 exact rfl))|apply qq|apply q6|apply qh|apply qj|apply qi)
 refine qck l (λpre s=>∃v ob,Vec 1 9 (st.length+0) ((zb pre).map λx=>Sv x) v ob∧StE [(0,Sv l),(3,v),(4,Iv pre.length)] st [ob] s) ⟨_,_,h0,qfq ⟨rfl,rfl,rfl,trivial⟩ rfl⟩ ?_ ?_
 .rintro _ ⟨v,ob,hV,t,ext,rfl⟩
  repeat' (first|apply qq|apply qh|apply qj|apply ql|apply qi|(apply qv;(iterate 3 exact rfl))|(apply qe;exact rfl;apply v8;exact cAo)|(apply zu;(iterate 3 exact rfl))|apply jd|apply qw)
  exact zht (q73 2 rfl rfl hV rfl) (qo rfl (q7 rfl) ⟨rfl,qbx _ _ _ _⟩)
 .rintro pre c rest _ hr ⟨v,ob,hV,t,ext,rfl⟩
  have d5:l.length=pre.length+(rest.length+1):=by rw[hr];simp
  have d9:l.getD pre.length 0=c:=by rw[hr];simp
  have r8:(l.take (pre.length+1)).drop pre.length=[c]:=by rw[hr,show pre++c::rest=(pre++[c])++rest by simp,Zt Sx,Zu rfl]
  have hpc:=q8o pre;rcases q7i hV with⟨h0,_⟩|⟨ver,cap,pad,rfl,rfl,hvl,hvw,hvle,hvm⟩
  .exact absurd (List.map_eq_nil_iff.1 h0) (qhw pre)
  simp only[Qh]at hvle;have cz:0<(zb pre).length:=Qo.2 (qhw pre);have o0:((zb pre).map λx=>Sv x).length=(zb pre).length:=Sx
  have fj:((zb pre).getD ((zb pre).length-1) []).length<=pre.length:=by
   have d8:(zb pre).length-1<(zb pre).length:=Om
   have e:(zb pre).getD ((zb pre).length-1) []=(zb pre)[(zb pre).length-1]:=by simp[Xb,d8]
   rw[e];exact qf1 pre _ (List.getElem_mem _)
  have hdl:((l.take (pre.length+1)).drop pre.length).length=1:=by rw[r8];rfl
  have hld:(flat ((zb pre).map λx=>Sv x)++pad)[0+((zb pre).length-1)*1]?=some (Sv ((zb pre).getD ((zb pre).length-1) [])):=by
   rw[zg0,Qr,Nat.mul_one,Qb So,Qq]
   have:(zb pre)[(zb pre).length-1]?=some ((zb pre).getD ((zb pre).length-1) []):=by
    have:(zb pre).length-1<(zb pre).length:=Om
    simp[Xb,this]
   rw[this];rfl
  repeat' (first|(apply qzy;(iterate 5 exact rfl);kernel_rfl)|apply qq|apply q6|apply qh|apply qj|apply ql|(apply qv;(iterate 3 exact rfl))|(apply qe;exact rfl;apply vo;exact cAo)|(apply qe;exact rfl;apply cd_d<;>intro h)|(apply zu;(iterate 3 exact rfl))|(apply wm;(iterate 3 exact rfl);exact cAs)|(apply we;(iterate 9 exact rfl))|apply qjf|(apply qyg;(iterate 4 exact rfl))|(apply q3s;exact rfl;exact rfl;exact q8 Om Om)|(apply qyi;(iterate 4 exact rfl);exact cAs;exact cAs)|(apply qje;exact rfl;exact rfl;exact cOs)|apply qgq|(apply qvw;exact rfl;exact rfl;exact q8 Om Om)|apply qz|(apply qly (n:=(zb pre).length-1);(iterate 4 exact rfl);(simp;omega);(simp;omega))|(apply qmz;(iterate 4 exact rfl);exact hld))
  .refine q15 (xs:=(zb pre).map λx=>Sv x) (ys:=[Sv []]) (sz:=1) (bytes:=16) rfl rfl rfl hV rfl rfl rfl ⟨⟨_,_,rfl,rfl,rfl,rfl,rfl⟩⟩ rfl ?_ ?_ ?_
   .simp[maxLen];omega
   .simp;omega
   intro a' ob' hV';repeat' (first|apply qh|apply qj|apply ql|apply qi|(apply zo;exact rfl;exact rfl;exact q8 Om Om))
   have hc:c=10:=by rw[d9]at h;exact(qcb c).1 h
   refine⟨a',ob',?_,qb7 ⟨rfl,rfl,?_,trivial⟩ rfl⟩
   .rw[hc,q1f _ pre (Qc _),Ze]
    exact hV'
   .rw[qd6 pre c];rfl
  .refine qvu (k:=0) (sz:=1) rfl rfl rfl rfl rfl rfl rfl rfl rfl (by show 0+((zb pre).length-1)*1+1<=_;rw[hvl];omega) ?_
   repeat' (first|apply qh|apply qj|apply ql|apply qi|(apply zo;exact rfl;exact rfl;exact q8 Om Om))
   have hc:c≠10:=λe=>by rw[d9]at h;exact h ((qcb c).2 e)
   refine⟨_,_,?_,qb7 ⟨rfl,rfl,?_,trivial⟩ rfl⟩
   .rw[qfg _ pre c (Qc _) hc,<-r8]
    have:=znd (o:=st.length+0) (T:=9) (ver:=ver) (sz:=1) hvl hvw (by simpa using hvle) hvm (i:=(zb pre).length-1) (x:=Sv ((zb pre).getD ((zb pre).length-1) []++(l.take (pre.length+1)).drop pre.length)) rfl So;rw[<-List.map_set]at this;exact this
   .rw[qd6 pre c];rfl
theorem q6j(f:FldV)(st:List AObj)(hl:f.1.length<4294967281):qr E 233 [fldA f] st λr st'=>r=Iv (vh f)∧st'=st:=by
 refine q5 (qt _) (qs Tryz.func233 rfl (Qd rfl) ?_);repeat' (first|apply qq|apply qh|apply qj|apply qi|(apply qv;(iterate 3 exact rfl))|(apply ja;exact rfl)|(apply qe;exact rfl;apply cd_n<;>intro h)|(apply qe;exact rfl;apply cd_d<;>intro h)|(apply zu;(iterate 3 exact rfl))|(apply qb1;(iterate 4 exact rfl))|(apply zl;(iterate 3 exact rfl))|(apply jr;(iterate 5 exact rfl))|apply qz|apply qw|(apply qm;exact Tryz.call269;exact q6o _ _ hl))
 all_goals refine qo rfl (q7 rfl) ⟨congrArg Iv (?_:_=vh f),_,rfl⟩
 .exact(if_pos (by simp_all):vh f=5).symm
 .exact((if_neg (by simp_all)).trans (if_pos Om):vh f=6).symm
 .exact((if_neg (by simp_all)).trans (if_neg Om):vh f=0).symm
theorem ziz{s:qc}(h:10∉s):qy s=1↔qc4 s:=by
 unfold qy qc4;rw[if_neg h];by_cases hb:∀c∈s,wy c
 .rw[if_pos hb]
  exact⟨λ_=>hb,λ_=>rfl⟩
 .rw[if_neg hb]
  refine⟨λh=>?_,λh=>absurd h hb⟩;exfalso;revert h;repeat' split
  all_goals decide
theorem zjn(l p:qc)(r:List qc)(st:List AObj)(hl:l.length<1000000)(h:zb l=p::r):qr E 191 [Sv l] st λx st'=>x=.sl 1 (Sv p::r.map λx=>Sv x) none∧st'=st:=by
 have:=zc6 l st hl;rw[h]at this;exact this
theorem q8h{f:Fld}{p:qc}{r:List qc}(h:zb f.2=p::r):zq f=kl f.1 p::r.map λs=>[32]++wj s:=by
 unfold zq;rw[h];rfl
theorem qtm(f:Fld):(zk (zq f)).length<=f.1.length+3*f.2.length+3:=by
 have h1:=qu6 (zb f.2).tail;have h2:=congrArg Zi (qki _ f.2 (Qc _))
 have h3:(kl f.1 ((zb f.2).headD [])).length<=f.1.length+2+((zb f.2).headD []).length:=by
  unfold kl;split <;>simp <;>omega
 have e:zq f=[kl f.1 ((zb f.2).headD [])]++(zb f.2).tail.map λs=>[32]++wj s:=rfl;rw[e,qan,qjs];simp only[Qa,Qf,Qm]at h2⊢;omega
theorem qws:∀(xs:List Fld),(∀f∈xs,f.1.length<4294967281∧f.2.length<1000000)->(zy xs).length<=5000000000*xs.length
 | [],_=>by simp[zy]
 |f::r,h=>by
  have ih:=qws r λx hx=>h x (by simp[hx]);have h1:=qtm f;have h2:=h f Sx;have e:zy (f::r)=zk (zq f)++zy r:=by simp[zy]
  rw[e,Qa,Qf];omega
end Go.Proofs.YtihlchbgjdkmpaaGreatDoor
namespace Go.Av
open Go Go.RowKit
@[reducible] def qxb (K : Act → World → Prop) : Exit → Act → World → Prop
 |.normal,a,w=>K a w
 |_,_,_=>False
structure AZ (E:Env) (N:Nat) (ops:Array Oper) (fuel:Nat) (listed:Array Bool) (K:AS->Prop) (s:AS):Prop where
 run:∀(B0:Nat)(w0:World)(G:Gh)(a:Act)(w:World),E.L B0 w0->Inv B0 w0 N G s a w->∀K':Act->World->Prop,(∀G' s' a' w',G.le G'->Inv B0 w0 N G' s' a' w'->K s'->K' a' w')->wpAnyIn (fw none) 0 E.P .any ops (qxb K') fuel listed a w
structure AY (E:Env) (N:Nat) (o:Oper) (s:AS) (r:AV):Prop where
 run:∀(B0:Nat)(w0:World)(G:Gh)(a:Act)(w:World),Inv B0 w0 N G s a w->∃v,(∀w',(execOp a.eval o).run E.P w'=.ok (.value v) w')∧(∀w',o.about E.P w' a.eval=none)∧Rel G r v
section
variable {E : Env} {N : Nat} {ops : Array Oper} {K : AS → Prop} {s : AS} {fuel : Nat} {listed : Array Bool}
theorem qlz{id:Nat}{Q:Exit->AS->Prop}{n:Nat}(hm:E.P.follows .mixedOrders=true)(hn:ops.size=n)(h:AZ E N ops n (Array.replicate n false) (Q .normal) s):AWp E none N (.region id ops true) Q s:=by
 subst hn;refine⟨λB0 w0 G a w hL hI=>?_⟩;have hBl:Below w.heap.size w {w with drawn:=w.drawn+1}:=⟨rfl,rfl,rfl,Qc _,λ_ _=>rfl⟩;have sn:Inv B0 w0 N G s a {w with drawn:=w.drawn+1}:=⟨hI.agree.fresh hBl,hI.defers,hI.size,hI.tmps⟩;have:=h.run B0 w0 G a _ hL sn (λa' w'=>∃(G':Gh)(s':AS),G.le G'∧Inv B0 w0 N G' s' a' w'∧Q .normal s') λG' s' a' w' hG s6 hk=>⟨G',s',hG,s6,hk⟩;refine wpIn_mono (wpIn_region_any hm this) λe a' w' hq=>?_
 cases e with
 |normal=>exact hq
 |_=>exact hq.elim
theorem qeb(hr:Region.ready .any ops listed=[])(h:K s):AZ E N ops fuel listed K s:=
 ⟨λB0 w0 G a w hL hI K' hK=>wpAnyIn_done hr (hK G s a w (.refl G) hI h) fuel⟩
theorem qah(i:Nat){oi:Oper}{r:AV}(hi:ops[i]?=some oi)(hs:Region.noSelect ops=true)(hf:Region.free .any ops listed i=true)(hr:(Region.ready .any ops listed).contains i=true)(hg:oi.guard=none)(hy:AY E N oi s r)
  (h:AZ E N ops fuel (listed.setIfInBounds i true) K (s.put oi.dst r)):AZ E N ops (fuel+1) listed K s:=by
 refine⟨λB0 w0 G a w hL hI K' hK=>?_⟩;obtain⟨v,h1,h2,h3⟩:=hy.run B0 w0 G a w hI;have hwn:Region.wanted oi (yielded ops a.tmps)=true:=by simp[Region.wanted,hg]
 refine wpAnyIn_take (v:=v) rfl hi hs hf hr (λc a w hq=>hq.elim) ⟨.inl ⟨hwn,h1⟩,h2⟩ (h.run B0 w0 G _ w hL (hI.put (.refl G) hI.agree oi.dst h3) K' λG' s' a' w' hG s6 hk=>hK G' s' a' w' hG s6 hk)
theorem q8j{F:Fence}{n:Nat}{P:Program}{o:Oper}{a:Act}{w:World}{next X Y:Act->World->Prop}(h:o.wpIn F n P a w next (qxb X)):o.wpIn F n P a w next (qxb Y):=by
 unfold Oper.wpIn at *;refine⟨h.1,?_⟩;have h:=h.2;generalize(o.semAt F.round a.eval).run P w=r at *
 cases r with
 |ok x w'=>
  cases x<;>simp only[Oper.uponIn]at h⊢
  case value u=>exact h
  case skip=>exact h
  case defer d=>exact h
  case enter f args=>
   refine⟨h.1,CallsIn.mono h.2 λe w'' he=>?_⟩
   cases e with
   |returned u=>exact he
   |panicked c=>exact he.elim
   |outgrown=>exact absurd he (by simp[LetsOut])
  case row row args=>exact h
  case round l f tmps assign body=>
   refine⟨h.1,RoundIn.mono h.2 λe w'' he=>?_⟩
   cases e with
   |returned u=>exact he
   |panicked c=>exact he.elim
   |outgrown=>exact absurd he (by simp[LetsOut])
 |halt x w'=>
  cases x<;>simp only[Oper.uponIn]at h⊢
  case panic u=>exact h.elim
def q2l(P:Nat->Prop):List Nat->Prop
 | []=>True
 |i::r=>P i∧q2l P r
theorem qzr{P:Nat->Prop}:∀{l:List Nat},q2l P l->∀i∈l,P i
 | [],_,_,h=>by simp at h
 |j::l,h,i,hi=>by
  rcases Qv.1 hi with rfl|hi
  .exact h.1
  .exact qzr h.2 i hi
theorem xz(rs:List Nat)(hr:Region.ready .any ops listed=rs)(b9:Nat.blt 0 rs.length=true)
  (h:q2l (λi=>∃o,ops[i]?=some o∧AOps E none N ops [o] (AZ E N ops fuel (listed.setIfInBounds i true) K) s) rs):AZ E N ops (fuel+1) listed K s:=by
 refine⟨λB0 w0 G a w hL hI K' hK=>wpAnyIn_all hr (λe=>by subst e;simp at b9) λi hi=>?_⟩;obtain⟨o,ho,h⟩:=qzr h i hi;have a8:=h.run B0 w0 G a w hL hI (qxb λa' w'=>wpAnyIn (fw none) 0 E.P .any ops (qxb K') fuel (listed.setIfInBounds i true) a' w') λG' s' a' w' hG s6 hk=>hk.run B0 w0 G' a' w' hL s6 K' λG2 s2 a2 w2 rx sn s4=>hK G2 s2 a2 w2 (hG.trans rx) sn s4;unfold wpOpIn;rw[ho];simp only[wpListIn]at a8⊢;split
 .rename_i hw
  rw[if_pos hw]at a8;exact q8j a8
 .rename_i hw
  rw[if_neg hw]at a8;exact a8
variable {d : Option Tmp} {T : TypeId} {p : String} {af : Array Edge}
theorem zku{op:Op}{r:AV}(hnc:∀c,op≠.call c)(h:∀(G:Gh)(ρ:Operand->Value),(∀x,Rel G (qn N s x) (ρ x))->∃v,(∀w',(execOp ρ ⟨d,op,T,p,af,none⟩).run E.P w'=.ok (.value v) w')∧Rel G r v):AY E N ⟨d,op,T,p,af,none⟩ s r:=
 ⟨λB0 w0 G a w hI=>let ⟨v,h1,h2⟩:=h G a.eval hI.eval;⟨v,h1,λw'=>by unfold Oper.about;cases op<;>first|rfl|exact absurd rfl (hnc _),h2⟩⟩
theorem qbc{x:Operand}:AY E N ⟨d,.move x,T,p,af,none⟩ s (qn N s x):=zku nofun λG ρ hρ=>⟨ρ x,λw'=>by simp[execOp],hρ x⟩
theorem qzz{x:Operand}:AY E N ⟨d,.assign x,T,p,af,none⟩ s (qn N s x):=zku nofun λG ρ hρ=>⟨ρ x,λw'=>by simp[execOp],hρ x⟩
end
theorem qyl{E:Env}{rd:Option Nat}{N:Nat}{c:Code}{Q:Exit->AS->Prop}{s:AS}(I:AS->Prop)(h:AWp E rd N c (only I) s)(hk:∀s',I s'->Q .normal s'):AWp E rd N c Q s:=h.mono λe s' h=>by
 cases e<;>first|exact hk _ h|exact h.elim
end Go.Av
namespace Go.Proofs.YtihlchbgjdkmpaaGreatDoor
open Go Go.Av Go.RowKit Go.Proofs Go.Pl
theorem qmh{l:qc}:qy l=4↔10∉l∧58∈l∧qa2 (jf l):=by
 unfold qy;by_cases g9:10∈l
 .simp[g9]
 .rw[if_neg g9]
  constructor
  .intro h
   split at h
   .simp at h
   .split at h
    .simp at h
    .split at h
     .simp at h
     .split at h
      .rename_i hk;exact⟨g9,hk.1,hk.2⟩
      .simp at h
  .rintro⟨_,h58,hk⟩
   obtain⟨c,hc,hb,h35⟩:=qmg hk
   have hh:l.head?=some c:=by
    cases l with
    |nil=>simp at h58
    |cons a r=>
     unfold jf at hc;rw[List.takeWhile_cons]at hc;split at hc
     .simpa using hc
     .simp at hc
   have td:c∈l:=List.mem_of_head? hh;rw[if_neg (λh'=>hb (h' c td)),if_neg (by rw[hh];simpa using h35),if_neg (λ⟨d,hd,dt⟩=>by rw[hh]at hd;cases hd;exact hb dt),if_pos ⟨h58,hk⟩]
theorem zci(l:qc)(st:List AObj)(hl:l.length<4294967281)(h:qy l=4):qr E 258 [Sv l] st λr st'=>r=.tu [Sv (jf l),Sv (vc l),Bv true]∧st'=st:=by
 refine q5 (qcu _ _ _) (qs Tryz.func258 rfl (Qd rfl) ?_);have hc:Lib.cut l [58]=(jf l,vc l,true):=by rw[q0b,if_pos (qmh.1 h).2.1]
 repeat' (first|apply qq|apply qh|apply qj|apply ql|apply qi|(apply zg;exact rfl;exact rfl)|(apply qv;(iterate 3 exact rfl))|(apply qe;exact rfl;apply v8;exact cAo)|apply qz|apply qw|(apply qm;exact Tryz.call156;exact qnq _ _ hl)|(apply qm;exact Tryz.call110;exact qv9 _ _ _ hl))
 refine qo rfl (yo rfl) ⟨q7f (?_:_=_),_,rfl⟩;rw[hc]
theorem q8g(l:qc)(st:List AObj)(hl:l.length<4294967281)(h:qy l≠4):qr E 258 [Sv l] st λr st'=>r=.tu [Sv [],Sv [],Bv false]∧st'=st:=by
 refine q5 (qcu _ _ _) (qs Tryz.func258 rfl (Qd rfl) ?_);repeat' (first|apply qq|apply qh|apply qj|apply ql|apply qi|(apply qv;(iterate 3 exact rfl))|(apply qe;exact rfl;apply vo;exact cAo)|apply qw|(apply qm;exact Tryz.call156;exact qnq _ _ hl))
 exact qo rfl (yo rfl) ⟨rfl,_,rfl⟩
theorem zk8{fn:Func}{s:AS}{t u:Tmp}{Ta:TypeId}{o1 v1 f1 sz1:Nat}{agg1:Bool}{T1:TypeId}{cs1:List AV}{r1:AV}(hr:fn.results= #[.cell t Ta,.tmp u])(hx1:qn fn.ntmps s (.tmp t)=.bx o1 v1 f1)(ho1:s.st[o1]?=some (.cells v1 T1 cs1))(tj:tyOf E.P Ta=some (sz1,agg1))(bt:kf sz1 agg1 f1 cs1=some r1):
  ARes E fn s (.tu [r1,qn fn.ntmps s (.tmp u)]):=by
 refine⟨λB0 w0 G a w hL hI=>?_⟩;obtain⟨b,v,h1,h2,h3⟩:=qi2 hI hx1 ho1 tj bt;have hu:=hI.rd u;refine⟨.tuple #[v,a.tmps.getD u undef],?_,qfj h3 hu⟩;simp only[Act.eval,Array.getD_eq_getD_getElem?]at h1;simp[results,hr,h1,asAddr,h2]
def qii(ls:List qc):AV:=.tu [fldA (zv ls).1,errN (zv ls).2]
theorem q7h(ls:List qc):Pure (qii ls):=qeh λx hx=>by
 simp only[Qv,Qu,or_false]at hx;rcases hx with rfl|rfl
 .exact qnw λx hx=>by
   simp only[Qv,Qu,or_false]at hx;rcases hx with rfl|rfl <;>exact qt _
 .exact ql8 _
theorem qs1{fn:Func}{s:AS}{t u:Tmp}{Ta:TypeId}{st loc ext new:List AObj}{k1 v1 f1 sz1:Nat}{agg1:Bool}{T1:TypeId}{cs1:List AV}{r1:AV}(hr:fn.results= #[.cell t Ta,.tmp u])(hs:s.st=((st++loc)++ext)++new)(hx1:qn fn.ntmps s (.tmp t)=.bx (st.length+k1) v1 f1)(ho1:loc[k1]?=some (.cells v1 T1 cs1))(tj:tyOf E.P Ta=some (sz1,agg1))(bt:kf sz1 agg1 f1 cs1=some r1):
  ARes E fn s (.tu [r1,qn fn.ntmps s (.tmp u)]):=zk8 hr hx1 (by rw[hs];exact qby ho1) tj bt
structure LsB (ls:List qc):Prop where
 len:ls.length<1000000
 val:∀s∈ls,s.length<1000000
theorem qu5:∀(r:List qc),(∀s∈r,s.length<1000000)->(r.flatMap λs=>[10]++w9 46 (s.drop 1)).length<=1000001*r.length
 | [],_=>by simp
 |a::r,h=>by
  have ih:=qu5 r λs hs=>h s (by simp[hs]);have ha:=h a Sx;have ht:(w9 46 (a.drop 1)).length<=a.length:=by unfold w9;split <;>simp <;>omega
  simp only[Qy,Qa,Qf,Qm];omega
theorem zfc(v:qc)(r:List qc):Lib.join (v::r.map λs=>w9 46 (s.drop 1)) [10]=v++r.flatMap λs=>[10]++w9 46 (s.drop 1):=by
 rw[Lib.join_cons];unfold Lib.joinTail;rw[Zo,List.flatMap_def];rfl
theorem q97(xs:List qc)(tip:Option Nat)(sep v:qc)(st:List AObj)(h:Lib.join xs sep=v)(hN:xs.length<=140737488355328)(hl:v.length<=140737488355328):qr E 97 [.sl 1 (xs.map λx=>Sv x) tip,Sv sep] st λr st'=>r=Sv v∧st'=st:=by
 subst h;exact q48 xs tip sep st hN hl
theorem zf8(l:qc)(st:List AObj)(hl:l.length<4294967281)(h:qy l=4):qr E 231 [Sv l] st λr st'=>r=.tu [Sv (jf l),Sv (vc l),Bv true]∧st'=st:=by
 have:=q6k l st hl;have e:qf5 l=(jf l,vc l,true):=if_pos (qmh.1 h);rw[e]at this;exact this
theorem qnr{s:qc}(h:qy s=3):2<=s.length∧10∉s:=by
 have g9:10∉s:=λh'=>by unfold qy at h;rw[if_pos h']at h;simp at h
 refine⟨?_,g9⟩;unfold qy at h;rw[if_neg g9]at h;split at h
 .simp at h
 .rename_i hb
  split at h
  .simp at h
  .split at h
   .rename_i dn
    obtain⟨c,hc,hcb⟩:=dn
    match s,hc with
    | [a],hc=>
     simp at hc;subst hc
     exact absurd (by simpa using hcb) hb
    |a::b::r,_=>simp
   .split at h<;>simp at h
def qcw(ls:List qc):AV:=.tu [fldA (zv ls).1,Iv (zv ls).2]
theorem qxr(ls:List qc):Pure (qcw ls):=qeh λx hx=>by
 simp only[Qv,Qu,or_false]at hx;rcases hx with rfl|rfl
 .exact qnw λx hx=>by
   simp only[Qv,Qu,or_false]at hx;rcases hx with rfl|rfl <;>exact qt _
 .exact qt _
def accU(l:qc)(pre:List qc):qc:=w9 32 (vc l)++pre.flatMap λs=>[10]++w9 46 (s.drop 1)
theorem zdt(l:qc)(pre:List qc)(a:qc):accU l (pre++[a])=(accU l pre++[10])++w9 46 (a.drop 1):=by
 unfold accU;rw[List.flatMap_append];simp
theorem zhl(l:qc)(pre:List qc)(h:∀s∈pre,s.length<1000000):(accU l pre).length<=l.length+1000001*pre.length:=by
 have tq:(w9 32 (vc l)).length<=l.length:=by unfold w9 vc;split <;>simp <;>omega
 have:=qu5 pre h;unfold accU;rw[Qa];omega
theorem q2z(c:UInt8):((c.toNat:Nat):Int)=46↔c=46:=u8i c 46 Om
theorem qo0{α:Type}{P:α->Prop}{pre:List α}{a:α}(h:∀x∈pre,P x)(ha:P a):∀x∈pre++[a],P x:=λx hx=>by
 rcases Qz.1 hx with hx|hx
 .exact h x hx
 .simp at hx;subst hx;exact ha
end Go.Proofs.YtihlchbgjdkmpaaGreatDoor
namespace Go.Pl
open Go Go.Proofs
structure LnV where
 no:Nat
 at':Nat
 text:qc
 ended : Bool
def vz(k a:Nat)(l:qc):List LnV:=if h:l=[]then []else⟨k,a,upto 10 l,decide (10∈l)⟩::vz (k+1) (a+(upto 10 l).length+1) (past 10 l)
 termination_by l.length
 decreasing_by exact xp h
def lns(l:qc):List LnV:=vz 0 0 l
theorem qbf(k a:Nat):vz k a []=[]:=by unfold vz;simp
theorem qbm{k a:Nat}{l:qc}(h:l≠[]):vz k a l=⟨k,a,upto 10 l,decide (10∈l)⟩::vz (k+1) (a+(upto 10 l).length+1) (past 10 l):=by
 conv=>lhs;unfold vz
 rw[dif_neg h]
def whole(l:qc):Prop:=l=[]∨l.getLast?=some 10
theorem zdo{l:qc}(h:whole l)(b9:l≠[]):10∈l∧whole (past 10 l):=by
 have hl:l.getLast?=some 10:=h.resolve_left b9;have g9:10∈l:=List.mem_of_getLast? hl;refine⟨g9,?_⟩;by_cases hp:past 10 l=[]
 .exact .inl hp
 .refine .inr ?_
  have e:=wl g9;rw[e]at hl;rw[List.getLast?_append,List.getLast?_cons]at hl
  cases hg:(past 10 l).getLast? with
  |none=>exact absurd (List.getLast?_eq_none_iff.1 hg) hp
  |some c=>rw[hg]at hl;simpa using hl
theorem qyx:∀(n:Nat)(d x:qc)(k a:Nat),d.length<=n->whole d->vz k a (d++x)=vz k a d++vz (k+(vz k a d).length) (a+d.length) x
 |n,d,x,k,a,hn,hw=>by
  by_cases hd:d=[]
  .subst hd
   simp[qbf]
  .obtain⟨g9,p8⟩:=zdo hw hd
   have e:=wl g9;have d8:=xp (c:=10) hd
   cases n with
   |zero=>omega
   |succ n=>
    have e2:d++x=upto 10 d++10::(past 10 d++x):=(congrArg (· ++x) e).trans Sx;have hu:upto 10 (d++x)=upto 10 d:=by rw[e2];exact v7 _ (yu 10 d)
    have hp:past 10 (d++x)=past 10 d++x:=by rw[e2];exact xv _ (yu 10 d)
    have hdl:d.length=(upto 10 d).length+1+(past 10 d).length:=by
     have:=congrArg Zi e;simp at this;omega
    rw[qbm (l:=d++x) (by simp[hd]),qbm hd,hu,hp,qyx n (past 10 d) x _ _ Om p8];have h1:10∈d++x:=by simp[g9]
    simp only[h1,g9,Zp,Qf];congr 2;have e3:∀m:Nat,k+1+m=k+(m+1):=λm=>by omega
    rw[e3];congr 1;omega
theorem zmd{c:qc}(k a:Nat)(h:10∉c):vz k a (c++[10])=[⟨k,a,c,true⟩]:=by
 rw[qbm Sx,v7 [] h,xv [] h,qbf];simp
theorem zi6{c:qc}(k a:Nat)(h:10∉c)(b9:c≠[]):vz k a c=[⟨k,a,c,false⟩]:=by
 rw[qbm b9,xx h]
 have:past 10 c=[]:=by
  unfold past;rw[xx h];simp
 rw[this,qbf];simp[h]
theorem qdu:∀(n:Nat)(l:qc)(k a:Nat),l.length<=n->(vz k a l).length<=l.length
 |n,l,k,a,hn=>by
  by_cases h:l=[]
  .subst h;simp[qbf]
  .have d8:=xp (c:=10) h
   cases n with
   |zero=>omega
   |succ n=>
    rw[qbm h,Qf];have:=qdu n (past 10 l) (k+1) (a+(upto 10 l).length+1) Om;omega
theorem q04:∀(n:Nat)(l:qc)(k a:Nat),l.length<=n->(vz k a l).map (λx=>(x.text,x.ended))=zp l
 |n,l,k,a,hn=>by
  by_cases h:l=[]
  .subst h;simp[qbf,vu]
  .have d8:=xp (c:=10) h
   cases n with
   |zero=>omega
   |succ n=>rw[qbm h,wh h,Qp,q04 n _ _ _ Om]
end Go.Pl
namespace Go.Proofs.YtihlchbgjdkmpaaGreatDoor
open Go Go.Av Go.RowKit Go.Proofs Go.Pl
@[reducible] def lnA (x : LnV) : AV := .ag [Iv x.no, Iv x.at', Sv x.text, Bv x.ended]
@[reducible] def lnsA (xs : List LnV) : AV := .sl 4 (xs.map lnA) none
theorem zjt(xs:List LnV):Pure (lnsA xs):=qaz λx hx=>by
 simp only[Zz]at hx;obtain⟨f,_,rfl⟩:=hx;intro y hy;simp[AV.cells]at hy;rcases hy with rfl|rfl|rfl|rfl <;>exact qt _
set_option maxHeartbeats 4000000 in
theorem qkk(l:qc)(st:List AObj)(hl:l.length<100000000):qr E 126 [Sv l] st λr st'=>r=lnsA (lns l)∧st'=st:=by
 refine q5 (zjt _) (qs Tryz.func126 rfl (Qd rfl) ?_);repeat' (first|apply qq|apply q6|apply qh|apply qj|apply qi)
 refine zbl (i:=3) (sz:=4) (T':=226) rfl ?_;refine qck l (λpre s=>∃d c,pre=d++c∧whole d∧10∉c∧StE [(0,Sv l),(3,.sl 4 ((lns d).map lnA) (some (st.length+0))),(4,Iv d.length),(5,Iv pre.length)] st [.tip (lns d).length 4 226] s) ⟨[],[],rfl,.inl rfl,Sx,qfq ⟨rfl,?_,rfl,rfl,trivial⟩ ?_⟩ ?_ ?_
 .rw[show lns []=[] from qbf 0 0];simp;rfl
 .rw[show lns []=[] from qbf 0 0];show(st++[])++[AObj.tip 0 4 _]=_;simp
 .rintro _ ⟨d,c,hdc,hw,hc,t,ext,rfl⟩
  have lj:l.length=d.length+c.length:=by rw[hdc];simp
  have pg:=qdu _ d 0 0 (Qc _);have hcnt':(lns d).length<=d.length:=pg;have o0:((lns d).map lnA).length=(lns d).length:=Sx
  have happ:lns l=lns d++vz (lns d).length d.length c:=by
   unfold lns;rw[hdc,qyx _ d c 0 0 (Qc _) hw];simp
  have hfrom:l.drop d.length=c:=by rw[hdc];simp
  repeat' (first|apply qq|apply qh|apply qj|apply ql|apply qi|(apply qv;(iterate 3 exact rfl))|(apply qe;exact rfl;apply v8;exact cAo)|(apply qe;exact rfl;apply cd_d<;>intro h)|(apply zu;(iterate 3 exact rfl))|(apply jp;(iterate 4 exact rfl))|(apply qgn;(iterate 3 exact rfl);exact cAs)|(apply yb;(iterate 3 exact rfl))|(apply we;(iterate 9 exact rfl))|apply qz|apply jd|apply qw|(apply qhf (n:=(lns d).length) (m:=1) (sz:=4) (bytes:=40);(iterate 4 exact rfl);exact o0;exact rfl;exact rfl;exact⟨⟨_,_,rfl,rfl,rfl,rfl,rfl⟩⟩;exact rfl;exact rfl;(unfold maxLen;omega);omega;exact rfl))
  .have b9:c≠[]:=λe=>by subst e;simp at lj;omega
   have e:AV.sl 4 ((lns d).map lnA++[AV.ag [Iv ((lns d).map lnA).length,Iv d.length,Sv (l.drop d.length),Bv false]]) none=AV.sl 4 ((lns l).map lnA) none:=by
    rw[happ,zi6 _ _ hc b9,o0,hfrom,Ze];rfl
   exact qo rfl (qvz rfl rfl) ⟨e,qbx _ _ _ _⟩
  .have hce:c=[]:=Zf.1 Om
   refine qo rfl (qvz rfl rfl) ⟨?_,qbx _ _ _ _⟩;rw[happ,hce,qbf,Zd]
 .rintro pre a rest _ hr ⟨d,c,hdc,hw,hc,t,ext,rfl⟩
  have d5:l.length=pre.length+(rest.length+1):=by rw[hr];simp
  have fj:pre.length=d.length+c.length:=by rw[hdc];simp
  have d9:l.getD pre.length 0=a:=by rw[hr];simp
  have pg:=qdu _ d 0 0 (Qc _);have hcnt':(lns d).length<=d.length:=pg;have o0:((lns d).map lnA).length=(lns d).length:=Sx
  have r8:(l.take pre.length).drop d.length=c:=by rw[hr,Zt rfl,hdc,Zu rfl]
  repeat' (first|apply qq|apply q6|apply qh|apply qj|apply ql|apply qi|(apply qv;(iterate 3 exact rfl))|(apply qe;exact rfl;apply vo;exact cAo)|(apply qe;exact rfl;apply cd_d<;>intro h)|(apply zu;(iterate 3 exact rfl))|(apply jp;(iterate 4 exact rfl))|(apply zo;exact rfl;exact rfl;exact q8 Om Om)|(apply wm;(iterate 3 exact rfl);exact cAs)|(apply qgo;(iterate 4 exact rfl);exact cAs;exact cAs)|(apply yb;(iterate 3 exact rfl))|(apply we;(iterate 9 exact rfl))|apply qz|(apply qhf (n:=(lns d).length) (m:=1) (sz:=4) (bytes:=40);(iterate 4 exact rfl);exact o0;exact rfl;exact rfl;exact⟨⟨_,_,rfl,rfl,rfl,rfl,rfl⟩⟩;exact rfl;exact rfl;(unfold maxLen;omega);omega;exact rfl))
  .have ha:a=10:=by have h:=(qcb _).1 (by assumption:((l.getD pre.length 0).toNat:Int)=10);rw[d9]at h;exact h
   have happ:lns (d++(c++[10]))=lns d++[⟨(lns d).length,d.length,c,true⟩]:=by
    unfold lns;rw[qyx _ d (c++[10]) 0 0 (Qc _) hw,zmd _ _ hc];simp
   refine⟨d++(c++[10]),[],by rw[ha,hdc];simp,.inr Sx,Sx,qb7 ⟨rfl,?_,?_,qid pre a,trivial⟩ ?_⟩
   .have e:AV.sl 4 ((lns d).map lnA++[AV.ag [Iv ((lns d).map lnA).length,Iv d.length,Sv ((l.take pre.length).drop d.length),Bv true]]) (some (st.length+0))=AV.sl 4 ((lns (d++(c++[10]))).map lnA) (some (st.length+0)):=by
     rw[happ,o0,r8,Ze];rfl
    exact e
   .have e:Iv ((pre.length:Int)+1)=Iv ((d++(c++[10])).length:Nat):=by
     have:(d++(c++[10])).length=pre.length+1:=So
     rw[this];rfl
    exact e
   .rw[happ,qd6];rfl
  .have ha:a≠10:=λe=>absurd (by rw[d9];exact(qcb _).2 e:((l.getD pre.length 0).toNat:Int)=10) (by assumption)
   exact⟨d,c++[a],by rw[hdc];simp,hw,by simp[hc,Ne.symm ha],qb7 ⟨rfl,rfl,rfl,qid pre a,trivial⟩ rfl⟩
end Go.Proofs.YtihlchbgjdkmpaaGreatDoor
namespace Go.Pl
open Go Go.Proofs
def indF(by':qc)(ls:List (qc×Bool)):qc:=ls.flatMap λx=>by'++x.1++x6 x.2
def qay(by' l:qc):qc:=indF by' (zp l)
theorem qop(by':qc)(a b:List (qc×Bool)):indF by' (a++b)=indF by' a++indF by' b:=by simp[indF]
theorem qor(by':qc)(x:qc×Bool):indF by' [x]=by'++x.1++x6 x.2:=by simp[indF]
def lsum(ls:List (qc×Bool)):Nat:=(ls.map λx=>x.1.length+(x6 x.2).length).sum
theorem qgy:∀(n:Nat)(l:qc),l.length<=n->lsum (zp l)=l.length∧(zp l).length<=l.length
 |n,l,hn=>by
  by_cases h:l=[]
  .subst h;simp[vu,lsum]
  .have d8:=xp (c:=10) h
   cases n with
   |zero=>omega
   |succ n=>
    obtain⟨h1,h2⟩:=qgy n (past 10 l) Om;rw[wh h];unfold lsum at h1⊢;simp only[Qp,Zx,Qf];rw[h1];have hp:=vl 10 l;have hu:=vk 10 l;by_cases g9:10∈l
    .have:=qfs g9
     simp[g9,x6];omega
    .have hu2:(upto 10 l).length=l.length:=by rw[xx g9]
     have cz:=Qo.2 h;simp[g9,x6];omega
theorem qoq(by':qc):∀(ls:List (qc×Bool)),(indF by' ls).length=lsum ls+by'.length*ls.length
 | []=>by simp[indF,lsum]
 |x::r=>by
  have ih:=qoq by' r;simp only[indF,lsum,Qy,Qa,Qp,Zx,Qf]at ih⊢;rw[ih,Nat.mul_add];omega
theorem q5d(a b:List (qc×Bool)):lsum (a++b)=lsum a+lsum b:=by simp[lsum]
end Go.Pl
namespace Go.Proofs.YtihlchbgjdkmpaaGreatDoor
open Go Go.Av Go.RowKit Go.Proofs Go.Pl
theorem zgw(text:List UInt8)(st loc:List AObj)(n:Nat)(hn:loc.length=n):qr E 113 [Sv text] (st++loc) λr st1=>r=.fn (.func 154) [] [.bx (st.length+n) 0 0]∧st1=st++(loc++[.cells 0 9 [Sv text]]):=
 qzc text (st++loc) _ (st.length+n) (by simp[hn]) (by rw[Qe])
theorem zfb(b sep:qc)(st:List AObj)(hl:b.length<=140737488355328):qr E 97 [.sl 1 [Sv b] none,Sv sep] st λr st'=>r=Sv b∧st'=st:=
 q97 [b] none sep b st (by simp[Lib.join,List.intercalate]) Sx hl
theorem zn3{st a b ext:List AObj}{m:Nat}(h:((st++a)++ext).length=m)(e:b.length=a.length):((st++b)++ext).length=m:=by
 simp only[Qa]at h⊢;omega
set_option maxHeartbeats 2000000 in
theorem zix(text by':qc)(st:List AObj)(hl:text.length<100000000)(hb:by'.length<1000):qr E 103 [Sv text,.sl 1 [Sv by'] none] st λr st'=>r=Sv (qay by' text)∧st'=st:=by
 refine q5 (qt _) (qs Tryz.func103 rfl (Qd rfl) ?_);obtain⟨hsum,pg⟩:=qgy _ text (Qc _);repeat' (first|(apply qin;exact rfl)|apply qq|apply q6|apply qh|apply qj|apply ql|apply qi|(apply j7;exact rfl;exact rfl)|(apply jc;(iterate 11 exact rfl))|(apply qm;exact Tryz.call97;exact zfb _ _ _ Om)|(refine qm Tryz.call113 (zgw _ _ _ _ rfl) ?_))
 refine qym (st:=st) text rfl rfl Om (λk rest l=>∃q don,(q=.v (.pointer none)∨q=.bx (st.length+0) 0 0)∧zp text=don++zp rest∧l=[bldO 0 q (indF by' don) (st.length+1),.tip (indF by' don).length 1 5,.cells 0 9 [Sv by'],.cells 0 9 [Sv text]]) (λ_ _=>False)
  ⟨_,[],.inl rfl,rfl,rfl⟩ (λk rest l ⟨q,don,_,_,e⟩=>by subst e;exact⟨rfl,rfl⟩) (λ_ _ h=>h.elim) ?_ ?_ (λ_ _ _ h=>h.elim)
 .rintro F own rd k rest _ ext m hF ⟨q,don,hq,hd,rfl⟩ b9 d7 hm1 tb
  have td:zp rest=(upto 10 rest,decide (10∈rest))::zp (past 10 rest):=wh b9;have hu:=vk 10 rest;have d5:=qoq by' (don++[(upto 10 rest,decide (10∈rest))]);have he:zp text=(don++[(upto 10 rest,decide (10∈rest))])++zp (past 10 rest):=by rw[hd,td];simp
  have sm:lsum (don++[(upto 10 rest,decide (10∈rest))])+lsum (zp (past 10 rest))=text.length:=by rw[<-q5d,<-he];exact hsum
  have hc2:(don++[(upto 10 rest,decide (10∈rest))]).length+(zp (past 10 rest)).length<=text.length:=by rw[<-Qa,<-he];exact pg
  have hm:by'.length*(don++[(upto 10 rest,decide (10∈rest))]).length<=1000*100000000:=Zv Om Om;rw[qop,qor]at d5;simp only[Qa]at d5 hm hc2;repeat' (first|(apply q7n;exact rfl;assumption;exact rfl)|(apply qci;exact rfl;assumption;(iterate 10 exact rfl))|apply qh|apply qj)
  refine⟨_,rfl,rfl,?_⟩;repeat' (first|apply qq|apply q6|apply qh|apply qj|(apply qe;exact rfl;apply cd_d<;>intro h)|(apply jy;exact rfl;exact rfl;exact cOs)|(apply zl;(iterate 3 exact rfl))|(apply qjt;(iterate 5 exact rfl))|apply qz|(apply qdi;exact rfl;exact zn3 tb rfl;(iterate 4 exact rfl))|(refine qm Tryz.call101 (qj8 st _ _ _ _ 0 1 0 _ _ _ rfl rfl ?_ ?_ rfl) ?_;(first|exact hq|exact .inr rfl);(simp only[Qa,Qf,Qm];omega)))
  all_goals
   have hx:indF by' (don++[(upto 10 rest,decide (10∈rest))])=(indF by' don++(by'++upto 10 rest))++x6 (decide (10∈rest)):=by
    rw[qop,qor];simp
   refine⟨[bldO 0 (.bx (st.length+0) 0 0) (indF by' (don++[(upto 10 rest,decide (10∈rest))])) (st.length+1),.tip (indF by' (don++[(upto 10 rest,decide (10∈rest))])).length 1 5,.cells 0 9 [Sv by'],.cells 0 9 [Sv text]],ext,[.cells 0 206 (qfc k text rest).cells],?_,_,_,.inr rfl,he,rfl⟩
  .have g9:10∈rest:=by simp_all
   rw[hx,show x6 (decide (10∈rest))=[10]by simp[g9,x6]];rfl
  .have g9:10∉rest:=by simp_all
   have tx:indF by' (don++[(upto 10 rest,decide (10∈rest))])=indF by' don++(by'++upto 10 rest):=by
    rw[hx];simp[g9,x6]
   rw[tx];rfl
 .rintro k _ ext ⟨q,don,hq,hd,rfl⟩
  repeat' (first|apply qq|apply qh|apply qj|apply qi|apply qw|(refine qm Tryz.call104 (qiq st _ _ _ _ 0 1 0 _ _ rfl rfl rfl) ?_))
  refine q19 (k:=4) rfl rfl rfl (qo rfl (q7 rfl) ⟨congrArg (λl:qc=>Sv l) (?_:_=qay by' text),qbx _ _ _ _⟩);rw[vu,Zd]at hd;unfold qay;rw[hd]
end Go.Proofs.YtihlchbgjdkmpaaGreatDoor
namespace Go.Pl
open Go Go.Proofs
def wo(x:LnV):qc×Bool:=(x.text,x.ended)
theorem qq7(l:qc):(lns l).map wo=zp l:=q04 _ l 0 0 (Qc _)
end Go.Pl
namespace Go.Proofs.YtihlchbgjdkmpaaGreatDoor
open Go Go.Av Go.RowKit Go.Proofs Go.Pl
set_option maxHeartbeats 2000000 in
theorem q8t(text by':qc)(st:List AObj)(hl:text.length<100000000)(hb:by'.length<1000):qr E 90 [Sv text,Sv by'] st λr st'=>r=Sv (qay by' text)∧st'=st:=by
 refine q5 (qt _) (qs Tryz.func90 rfl (Qd rfl) ?_);obtain⟨hsum,pg⟩:=qgy _ text (Qc _);have hp:=qq7 text;have fj:(lns text).length=(zp text).length:=by rw[<-hp,Qh]
 have o0:((lns text).map lnA).length=(lns text).length:=Sx
 repeat' (first|apply qq|apply q6|apply qh|apply qj|apply ql|apply qi|(apply jp;(iterate 4 exact rfl))|(apply qm;exact Tryz.call126;exact qkk _ _ hl))
 refine qck (lns text) (λpre s=>StE [(1,Sv by'),(5,Sv (indF by' (pre.map wo))),(9,lnsA (lns text)),(10,Iv (lns text).length),(11,Iv pre.length)] st [] s) (qfq ⟨rfl,rfl,rfl,congrArg (λn:Nat=>Iv (n:Int)) o0,rfl,trivial⟩ rfl) ?_ ?_
 .rintro _ ⟨t,ext,rfl⟩
  repeat' (first|apply qq|apply qh|apply qj|apply ql|apply qi|(apply qv;(iterate 3 exact rfl))|(apply qe;exact rfl;apply v8;exact cAo)|apply jd|apply qw)
  refine qo rfl (q7 rfl) ⟨congrArg (λl:qc=>Sv l) (?_:indF by' ((lns text).map wo)=_),qbx _ _ _ _⟩;rw[hp];rfl
 .rintro pre a rest _ hr ⟨t,ext,rfl⟩
  have d5:(lns text).length=pre.length+(rest.length+1):=by rw[hr];simp
  have d9:((lns text).map lnA)[pre.length]?=some (lnA a):=by rw[hr];simp
  have he:zp text=(pre.map wo++[wo a])++rest.map wo:=by rw[<-hp,hr];simp
  have sm:lsum (pre.map wo++[wo a])+lsum (rest.map wo)=text.length:=by rw[<-q5d,<-he];exact hsum
  have dg:=qoq by' (pre.map wo++[wo a]);have hm:by'.length*(pre.map wo++[wo a]).length<=1000*100000000:=Zv Om (by rw[Qa,Qh];simp;omega);rw[qop,qor]at dg;have e1:(wo a).1=a.text:=rfl;have e2:(wo a).2=a.ended:=rfl;rw[e1,e2]at dg;simp only[Qa]at dg hm
  have hx:indF by' ((pre++[a]).map wo)=((indF by' (pre.map wo)++by')++a.text)++x6 a.ended:=by
   rw[Ze,List.map_singleton,qop,qor,e1,e2];simp
  cases hae:a.ended
  .have tx:indF by' ((pre++[a]).map wo)=(indF by' (pre.map wo)++by')++a.text:=by rw[hx,hae];simp[x6]
   rw[hae]at dg;repeat' (first|apply qq|apply q6|apply qh|apply qj|apply ql|apply qi|(apply qv;(iterate 3 exact rfl))|(apply qe;exact rfl;apply vo;exact cAo)|(apply qe;exact rfl;apply cd_f;exact cRa)|(apply jy;exact rfl;exact rfl;exact cOs)|(apply zo;exact rfl;exact rfl;exact q8 Om Om)|(apply j7;exact rfl;exact rfl)|(apply zl;(iterate 3 exact rfl))|(apply jq;(iterate 3 exact rfl))|(apply jr;(iterate 5 exact rfl))|(apply jc;(iterate 11 exact rfl))|apply qz|(apply kp (n:=pre.length);(iterate 5 exact rfl);exact d9))
   exact qb7 ⟨rfl,congrArg (λl:qc=>Sv l) tx.symm,rfl,rfl,qid pre a,trivial⟩ rfl
  .have tx:indF by' ((pre++[a]).map wo)=((indF by' (pre.map wo)++by')++a.text)++[10]:=by rw[hx,hae];simp[x6]
   rw[hae]at dg;have d7:(x6 true).length=1:=rfl;repeat' (first|apply qq|apply q6|apply qh|apply qj|apply ql|apply qi|(apply qv;(iterate 3 exact rfl))|(apply qe;exact rfl;apply vo;exact cAo)|(apply qe;exact rfl;apply cd_t;exact cRa)|(apply jy;exact rfl;exact rfl;exact cOs)|(apply zo;exact rfl;exact rfl;exact q8 Om Om)|(apply j7;exact rfl;exact rfl)|(apply zl;(iterate 3 exact rfl))|(apply jq;(iterate 3 exact rfl))|(apply jr;(iterate 5 exact rfl))|(apply jc;(iterate 11 exact rfl))|apply qz|(apply kp (n:=pre.length);(iterate 5 exact rfl);exact d9))
   exact qb7 ⟨rfl,congrArg (λl:qc=>Sv l) tx.symm,rfl,rfl,qid pre a,trivial⟩ rfl
end Go.Proofs.YtihlchbgjdkmpaaGreatDoor
namespace Go.Av
open Go Go.RowKit
def TipC(b:Nat)(st:List AObj)(sz:Nat)(T:TypeId)(xs:List AV)(c:AV):Prop:=(xs=[]∧c=zn)∨∃t,c=.sl sz xs (some t)∧st[t]?=some (.tip xs.length sz T)∧b<=t
structure Fr (st st':List AObj) (t:Nat):Prop where
 len:st.length<=st'.length
 same:∀k,k≠t->k<st.length->st'[k]?=st[k]?
theorem zkp(b:Nat)(st:List AObj)(sz:Nat)(T:TypeId):TipC b st sz T [] zn:=.inl ⟨rfl,rfl⟩
theorem qlp{b:Nat}{st l:List AObj}{sz:Nat}{T:TypeId}{xs:List AV}{c:AV}(h:TipC b st sz T xs c):TipC b (st++l) sz T xs c:=by
 rcases h with h|⟨t,h1,h2,h3⟩
 .exact .inl h
 .exact .inr ⟨t,h1,by rw[Qb (lt_of_getElem? h2)];exact h2,h3⟩
section
variable {E : Env} {rd : Option Nat} {N : Nat} {ops : Array Oper} {K : AS → Prop} {s : AS} {rest : List Oper} {d : Option Tmp} {T : TypeId} {p : String} {af : Array Edge}
theorem q3f{x y:Operand}{t u T':TypeId}{sz bytes b:Nat}{xs ys:List AV}{tip:Option Nat}{c:AV}{st:List AObj}(e8:s.st=st)(hx:qn N s x=c)(hc:TipC b st sz T' xs c)(hb:b<=st.length)(hy:qn N s y=.sl sz ys tip)
  (ht:E.P.underlying t=some (.slice T')) (hu:E.P.underlying u=some (.slice T')) (hT:yw E.P T' sz bytes) (i9:ke (flat ys)=true) (t7:xs.length+ys.length<=maxLen) (hby:(xs.length+ys.length)*bytes<=140737488355328)
  (h:∀t1 st',st'[t1]?=some (.tip (xs++ys).length sz T')->b<=t1->Fr st st' t1->(c=.sl sz xs (some t1)∨st.length<=t1)->AOps E rd N ops rest K (AS.put ⟨s.t,st',s.df⟩ d (.sl sz (xs++ys) (some t1)))):AOps E rd N ops (⟨d,.call ⟨.builtin .append,#[x,y],#[t,u]⟩,T,p,af,none⟩::rest) K s:=by
 subst e8;refine ze rfl (za nofun λB0 w0 G a w _ hI=>?_);rcases hc with⟨ng,hcn⟩|⟨t1,h1,h2,h3⟩
 .subst ng
  have d7:=G.le_new 0 0 0 false;have hA:=hI.agree.newTip sz T';have hv:a.eval x=.slice none 0 0:=hI.evalv (hx.trans hcn);have hn:=hI.agree.n;obtain⟨news,k1,k2,k3⟩:=qam (P:=E.P) hA ((hI.eval_of hy).mono d7) (by simpa[ke]using i9)
  have hr:Rel (G.new 0 0 0 false) (.sl sz [] (some s.st.length)) (a.eval x):=by
   rw[hv];exact .sl0 sz _ none 0 λt ht=>by simp only[Za]at ht;subst ht;exact⟨by simp[Gh.new,hn],rfl,rfl⟩
  obtain⟨v',w',G',e1,e2,e3,e4⟩:=qdg (ty:=T) hA ht hu (.inr ⟨_,rfl⟩) hT (t:=s.st.length) (n:=0) Sx hr rfl rfl k1 k2 k3 (by simpa using t7) (by simpa using hby);refine⟨v',w',G',_,_,?_,d7.trans e2,e3,e4,h s.st.length _ ?_ hb ⟨Sx,λk hk d8=>?_⟩ (.inr (Qc _))⟩
  .generalize a.eval=ρ at e1
   simp[execOp,resolve,invoke,builtin,e1]
  .simp
  .rw[Qi (Ne.symm hk),Qb d8]
 .obtain⟨news,k1,k2,k3⟩:=qam (P:=E.P) hI.agree (hI.eval_of hy) (by simpa[ke]using i9)
  obtain⟨v',w',G',e1,e2,e3,e4⟩:=qdg (ty:=T) hI.agree ht hu (.inr ⟨_,rfl⟩) hT h2 (hI.eval_of (hx.trans h1)) rfl rfl k1 k2 k3 t7 hby;refine⟨v',w',G',_,_,?_,e2,e3,e4,h t1 _ ?_ h3 ⟨Sx,λk hk d8=>?_⟩ (.inl h1)⟩
  .generalize a.eval=ρ at e1
   simp[execOp,resolve,invoke,builtin,e1]
  .rw[Qa]
   exact kh h2
  .rw[Qi (Ne.symm hk)]
theorem qqc{t:TypeId}{x:Operand}{r:AV}{cs:List AV}(hx:qn N s x=r)(hok:r.okc=true)(hc:r.cells=cs)
  (h:AOps E rd N ops rest K (s.put d (.pp cs))):AOps E rd N ops (⟨d,.box t x,T,p,af,none⟩::rest) K s:=by
 refine ze rfl (za nofun λB0 w0 G a w _ hI=>?_);have hr:=(hI.eval_of hx).cells hok;rw[hc]at hr;obtain⟨d7,hA⟩:=hI.agree.newPub t (a.eval x).cells (0,0) (a.eval x).cells.toList (λi y hy=>by simpa using hy)
 have a8:(execOp a.eval ⟨d,.box t x,T,p,af,none⟩).run E.P w=.ok (.value (.pointer (some ⟨w.heap.size,0,none⟩))) (w.alloc (.cells (a.eval x).cells t)):=by
  generalize a.eval=ρ;simp[execOp,Instr.box,newVar,newRow,newObj,Sem.run]
 refine⟨_,_,_,.pp cs,s.st,a8,d7,hA,.pp cs w.heap.size 0 (a.eval x).cells.toList (by simp[Gh.publish]) (by rw[hr.1];simp) λi x y hx hy=>(hr.2 i x y hx (by simpa using hy)).mono d7,h⟩
end
theorem qsv{E:Env}{f:FuncId}{x x':AV}{us:List AV}{st:List AObj}{R:AV->List AObj->Prop}(hw:∀G v,Rel G x v->Rel G x' v)(h:qr E f (x'::us) st R):qr E f (x::us) st R:=
 ⟨λB0 w0 G vals w hL hA hR=>h.run B0 w0 G vals w hL hA ⟨by have:=hR.1;simpa using this,λi a b ha hb=>by
  cases i with
  |zero=>simp at ha;subst ha;exact hw G b (hR.2 0 x b rfl hb)
  |succ i=>exact hR.2 (i+1) a b (by simpa using ha) hb⟩⟩
theorem qc7{st l:List AObj}{o:Nat}{x:AObj}(h:st[o]?=some x):(st++l)[o]?=some x:=by
 rw[Qb (lt_of_getElem? h)];exact h
theorem yc{st:List AObj}{x:AObj}:(st++[x])[st.length]?=some x:=Sx
section
variable {E : Env} {rd : Option Nat} {N : Nat} {ops : Array Oper} {K : AS → Prop} {s : AS} {rest : List Oper} {d : Option Tmp} {T : TypeId} {p : String} {af : Array Edge}
theorem qmw{t:TypeId}{st:List AObj}{cs:List AV}(e8:s.st=st)(hz:qkr E.P t=some cs)
  (h:AOps E rd N ops rest K (AS.put ⟨s.t,st++[.cells 0 t cs],s.df⟩ d (.bx st.length 0 0))):AOps E rd N ops (⟨d,.alloc t,T,p,af,none⟩::rest) K s:=
 j7 (loc:=[]) (by rw[e8];simp) hz h
theorem zdx{t:TypeId}{x:Operand}{st:List AObj}{r:AV}{cs:List AV}(e8:s.st=st)(hx:qn N s x=r)(hok:r.okc=true)(hc:r.cells=cs)
  (h:AOps E rd N ops rest K (AS.put ⟨s.t,st++[.cells 0 t cs],s.df⟩ d (.bx st.length 0 0))):AOps E rd N ops (⟨d,.box t x,T,p,af,none⟩::rest) K s:=
 qb1 (loc:=[]) (by rw[e8];simp) hx hok hc h
end
theorem qoj{st st':List AObj}(hl:st.length<=st'.length)(h:∀k,k<st.length->st'[k]?=st[k]?):∃ext,st'=st++ext:=by
 refine⟨st'.drop st.length,?_⟩;apply Qx;intro k;by_cases hk:k<st.length
 .rw[h k hk,Qb hk]
 .rw[Qj Om,Qk]
  congr 1;omega
end Go.Av
namespace Go.Proofs.YtihlchbgjdkmpaaGreatDoor
open Go Go.Av Go.RowKit Go.Proofs
def qhv(x:Option AObj):Prop:=∀n sz T,x≠some (.tip n sz T)
theorem qba{ver:Nat}{T:TypeId}{cs:List AV}{x:Option AObj}(h:x=some (.cells ver T cs)):qhv x:=λn sz T' e=>by
 rw[h]at e;simp at e
end Go.Proofs.YtihlchbgjdkmpaaGreatDoor
namespace Go.Proofs.YtihlchbgjdkmpaaGreatDoor
open Go Go.Av Go.RowKit Go.Proofs Go.Pl
structure Ext (n:Nat) (S S':List AObj):Prop where
 len:S.length<=S'.length
 low:∀k,k<n->S'[k]?=S[k]?
 tips:∀(t m sz:Nat)(T:TypeId),S[t]?=some (AObj.tip m sz T)->S'[t]?=S[t]?
theorem qic{n:Nat}{S l:List AObj}(h:n<=S.length):Ext n S (S++l):=⟨Sx,λk hk=>Qb Om,λt m sz T ht=>Qb (lt_of_getElem? ht)⟩
theorem qbe{n o:Nat}{S:List AObj}{x:AObj}(h:n<=o)(hn:qhv S[o]?):Ext n S (S.set o x):=⟨Sx,λk hk=>Qi Om,λt m sz T ht=>Qi (λe=>by subst e;exact hn _ _ _ ht)⟩
theorem Ext.weak{n m:Nat}{S S':List AObj}(h:Ext n S S')(hm:m<=n):Ext m S S':=⟨h.len,λk hk=>h.low k Om,h.tips⟩
theorem Ext.trans{n:Nat}{S S' S'':List AObj}(h:Ext n S S')(k:Ext n S' S''):Ext n S S'':=⟨Nat.le_trans h.len k.len,λi hi=>(k.low i hi).trans (h.low i hi),λt m sz T ht=>(k.tips t m sz T ((h.tips t m sz T ht).trans ht)).trans (h.tips t m sz T ht)⟩
theorem zgu(text:List UInt8)(o kb ver n m:Nat)(I:Nat->List UInt8->List AObj->Prop)(D:List AObj->Prop)(S:List AObj)(hm:S.length=m)(hn:n<=m)(ht:text.length<4294967281)(h0:I 0 text S)
  (hI:∀k rest S',I k rest S'->S'[kb]?=some (.cells ver 9 [Sv text]))
  (e8:∀k rest S' S'',Ext n S' S''->I k rest S'->I k rest S'')
  (hY:∀k rest S' cs,I k rest S'->S'[m]?=some (.cells 0 206 cs)->rest≠[]->rest.length<=text.length->yv E o [qfc k text rest] S' λb S''=>S''[m]?=some (.cells 0 206 cs)∧(b=true->I (k+1) (past 10 rest) S'')∧(b=false->D S'')):
  qr E 154 [.yd o,.bx kb ver 0] S λr S'=>(∃k,I k [] S')∨D S':=by
 subst hm;refine qs Tryz.func154 rfl (Qd rfl) ?_;have hb:=hI 0 text S h0;repeat' (first|apply qq|apply q6|apply qh|apply qj|apply qi|(apply j7;exact rfl;exact rfl)|(apply jc;(iterate 11 exact rfl))|(apply yb;(iterate 3 exact rfl))|(apply qbh;exact rfl;exact rfl;exact hb;exact rfl;exact rfl))
 refine jt (λ(x:Nat×List UInt8)s=>match x with|(k,rest)=>∃S' at' ta eb,I k rest S'∧k+rest.length<=text.length∧at'=(text.length:Int)-rest.length∧S'[S.length]?=some (.cells 0 206 [Iv k,Iv at',Sv ta,Bv eb])∧StA [(0,.yd o),(1,.bx kb ver 0),(3,.bx S.length 0 0),(4,Sv rest)] S' [] s) (λx=>x.2.length) (0,text)
  ⟨_,0,[],false,e8 _ _ _ _ (qic hn) h0,Sx,Sx,j9 (k:=0) rfl,z7 ⟨rfl,rfl,rfl,rfl,trivial⟩⟩ ?_
 rintro⟨k,rest⟩ _ ⟨S',_,ta,eb,hi,d7,rfl,cg,t,rfl⟩;have fx:=hI k rest S' hi;repeat' (first|apply qq|apply q6|apply qh|apply qj|apply ql|apply qi|(apply zg;exact rfl;exact rfl)|(apply jo;(iterate 3 exact rfl))|(apply qe;exact rfl;apply cd_d<;>intro h)|(apply zl;(iterate 3 exact rfl))|apply qz|apply jd|(apply qm;exact Tryz.call110;exact qk1 _ _ _ Om)|(apply vb;exact rfl;(focus first|assumption|(repeat' (first|assumption|exact yc|exact j9 rfl|apply kh|apply j8|omega|apply qc7)));exact rfl;exact rfl)|(apply qai;exact rfl;exact rfl;(focus first|assumption|(repeat' (first|assumption|exact yc|exact j9 rfl|apply kh|apply j8|omega|apply qc7)));(iterate 6 exact rfl)))
 .have e1:Ext n S' ((S'.set S.length (.cells 0 206 [Iv k,Iv ((text.length:Int)-rest.length),Sv (upto 10 rest),Bv eb])).set S.length (.cells 0 206 [Iv k,Iv ((text.length:Int)-rest.length),Sv (upto 10 rest),Bv (decide (10∈rest))])):=
   (qbe hn (qba cg)).trans (qbe hn (qba (kh cg)))
  apply qdh (o:=o) rfl;refine yv.mono (hY k rest _ _ (e8 _ _ _ _ e1 hi) (kh (kh cg)) h Om) ?_;rintro b S2 ⟨hown2,h1,h2⟩
  show AOps _ _ _ _ _ _ _
  cases b
  .skip
   repeat' (first|apply qj|(apply ja;exact rfl)|(apply qe;exact rfl;apply qit;exact cRa)|apply qw)
   exact qo rfl (yx rfl) (.inr (h2 rfl))
  .have hi3:=h1 rfl
   have gb:=hI _ _ _ hi3;have hp:=vl 10 rest;have hr0:0<rest.length:=Qo.2 h
   have hkb:kb≠S.length:=λe=>by
    rw[e,hown2]at gb;simp at gb
   repeat' (first|apply qq|apply qh|apply qj|apply ql|(apply ja;exact rfl)|(apply qe;exact rfl;apply qis;exact cRa)|(apply zu;(iterate 3 exact rfl))|(apply zo;exact rfl;exact rfl;exact q8 Om Om)|(apply ww;exact rfl;exact rfl;exact q8 Om Om)|(apply zl;(iterate 3 exact rfl))|apply qz|(apply vb;exact rfl;exact j8 gb (Ne.symm hkb);exact rfl;exact rfl)|(apply vb;exact rfl;(focus first|assumption|(repeat' (first|assumption|exact yc|exact j9 rfl|apply kh|apply j8|omega|apply qc7)));exact rfl;exact rfl)|(apply qai;exact rfl;exact rfl;(focus first|assumption|(repeat' (first|assumption|exact yc|exact j9 rfl|apply kh|apply j8|omega|apply qc7)));(iterate 6 exact rfl)))
   have e2:Ext n S2 _:=(qbe hn (qba hown2)).trans (qbe (x:=.cells 0 206 [Iv ((k:Int)+1),Iv ((text.length:Int)-(past 10 rest).length),Sv (upto 10 rest),Bv (decide (10∈rest))]) hn (qba (kh (y:=.cells 0 206 [Iv ((k:Int)+1),Iv ((text.length:Int)-rest.length),Sv (upto 10 rest),Bv (decide (10∈rest))]) hown2)));exact⟨(k+1,past 10 rest),⟨_,_,_,_,e8 _ _ _ _ e2 hi3,Om,rfl,kh (kh hown2),z7 ⟨rfl,rfl,rfl,rfl,trivial⟩⟩,by simp only;omega⟩
 .have hr:rest=[]:=Classical.not_not.1 h
  subst hr;exact qo rfl (yx rfl) (.inl ⟨k,hi⟩)
structure ItC (g:FuncId) (T:TypeId) (cs:List AV) {ι:Type} (Y:ι->Option (AV×ι)) (i0:ι):Prop where
 run:∀(o kb n m:Nat)(I:ι->List AObj->Prop)(D:List AObj->Prop)(S:List AObj),S.length=m->n<=m->I i0 S->
  (∀i S',I i S'->S'[kb]?=some (.cells 0 T cs))->(∀i S' S'',Ext n S' S''->I i S'->I i S'')->
  (∀i x j S'(own:List AObj),I i S'->(∀k y,own[k]?=some y->S'[m+k]?=some y∧qhv (some y))->Y i=some (x,j)->yv E o [x] S' λb S''=>(∀k y,own[k]?=some y->S''[m+k]?=some y)∧(b=true->I j S'')∧(b=false->D S''))->
  qr E g [.yd o,.bx kb 0 0] S λr S'=>(∃i,Y i=none∧I i S')∨D S'
def qrx(text:List UInt8):Nat×List UInt8->Option (AV×(Nat×List UInt8))
 |(k,rest)=>if rest=[]∨text.length<rest.length then none else some (qfc k text rest,(k+1,past 10 rest))
theorem zki(text:List UInt8)(ht:text.length<4294967281):ItC 154 9 [Sv text] (qrx text) (0,text):=⟨λo kb n m I D S hm hn h0 hI e8 hY=>by
 refine(zgu text o kb 0 n m (λk rest S=>I (k,rest) S∧rest.length<=text.length) D S hm hn ht ⟨h0,Qc _⟩ (λk rest S' h=>hI _ _ h.1) (λk rest S' S'' hE h=>⟨e8 _ _ _ hE h.1,h.2⟩) (λk rest S' cs hi cg b9 d7=>?_)).mono ?_
 .refine(hY (k,rest) (qfc k text rest) (k+1,past 10 rest) S' [.cells 0 206 cs] hi.1 (λj y hy=>?_) (if_neg λh=>h.elim b9 Om)).mono λb S'' ⟨h1,h2,h3⟩=>⟨by have:=h1 0 _ rfl;simpa using this,λhb=>⟨h2 hb,by have:=vl 10 rest;omega⟩,h3⟩
  match j with
  |0=>
   simp only[List.getElem?_cons_zero,Za]at hy;subst hy
   exact⟨cg,qba rfl⟩
  |j+1=>simp at hy
 .rintro r S' (⟨k,h⟩|h)
  .exact .inl ⟨(k,[]),by simp[qrx],h.1⟩
  .exact .inr h⟩
@[reducible] def zgj (n : Nat) (F : LoopState → Option Code → AObj) (own : List AObj) (I : List AObj → Prop) (D : Code → List AObj → Prop) : Exit → AS → Prop
 |.normal,s=>s.st[n]?=some .dfr∧s.st[n+1]?=some (F .busy none)∧(∀k y,own[k]?=some y->s.st[n+2+k]?=some y)∧I s.st
 |.ret,s=>s.st[n]?=some .dfr∧s.st[n+1]?=some (F .busy none)∧(∀k y,own[k]?=some y->s.st[n+2+k]?=some y)∧D .ret s.st
 |.exit id,s=>s.st[n]?=some .dfr∧s.st[n+1]?=some (F .busy none)∧(∀k y,own[k]?=some y->s.st[n+2+k]?=some y)∧D (.exit id) s.st
 |_,_=>False
theorem qda{N:Nat}{t:Nat->AV}{ps:Array Tmp}{asg body:Code}{F:LoopState->Option Code->AObj}(hF:qls F N t ps asg body)(ls:LoopState)(pend:Option Code){x:Option AObj}(h:x=some (F ls pend)):qhv x:=λn sz T' e=>by
 rw[h,hF]at e;simp at e
theorem q3u{N:Nat}{Q:Exit->AS->Prop}{s:AS}{f:Operand}{p:Tmp}{asg body:Code}{S0:List AObj}{kb:Nat}{g:FuncId}{T:TypeId}{cs:List AV}{ι:Type}{Y:ι->Option (AV×ι)}{i0:ι}(pj:ItC g T cs Y i0)(e8:s.st=S0)(hx:qn N s f=.fn (.func g) [] [.bx kb 0 0])
  (a8:∀vs w,(callFunc g vs).run E.P w=.ok (.enter g vs) w)
  (I:ι->List AObj->Prop) (D:Code->List AObj->Prop) (h0:I i0 S0)
  (hI:∀i S,I i S->S[kb]?=some (.cells 0 T cs))
  (rg:∀i S S',Ext S0.length S S'->I i S->I i S') (sm:∀c S S',Ext S0.length S S'->D c S->D c S')
  (hb:∀F(own:List AObj)rd i x j S,qls F N s.t #[p] asg body->I i S->Y i=some (x,j)->S[S0.length]?=some .dfr->S[S0.length+1]?=some (F .ready none)->(∀k y,own[k]?=some y->S[S0.length+2+k]?=some y∧qhv (some y))->
   AWp E (some rd) N asg (only λs1=>s1.st[S0.length+1]?=some (F .ready none)∧s1.df=[]∧AWp E (some rd) N body (zgj S0.length F own (I j) D) ⟨s1.t,s1.st.set (S0.length+1) (F .busy none),[]⟩) ⟨put s.t p x,S,[]⟩)
  (hn:∀i S,Y i=none->I i S->S[S0.length]?=some .dfr->Q .normal ⟨s.t,S,S0.length::s.df⟩)
  (hd:∀c S,D c S->S[S0.length]?=some .dfr->AWp E none N c Q ⟨s.t,S,S0.length::s.df⟩):AWp E none N (.rangeFunc f #[p] asg body) Q s:=by
 refine qj7 (st:=S0) (loc:=[]) (by rw[e8];simp) hx a8 λF hF=>?_;have hl:(S0++([]++[AObj.dfr,F .ready none])).length=S0.length+2:=Sx
 have g1:(S0++([]++[AObj.dfr,F .ready none]))[S0.length]?=some .dfr:=Sx
 have g2:(S0++([]++[AObj.dfr,F .ready none]))[S0.length+1]?=some (F .ready none):=Sx
 have hz:S0.length+(([]:List AObj).length+1)=S0.length+1:=Sx
 rw[hz,show S0.length+([]:List AObj).length=S0.length from rfl];refine qr.mono (pj.run (S0.length+1) kb (S0.length+2) (S0.length+2) (λi S=>I i S∧S[S0.length]?=some .dfr∧S[S0.length+1]?=some (F .ready none)) (λS=>∃c,D c S∧S[S0.length]?=some .dfr∧S[S0.length+1]?=some (F .done (some c))) (S0++([]++[.dfr,F .ready none])) hl (Qc _) ⟨rg _ _ _ (qic (Qc _)) h0,g1,g2⟩ (λi S h=>hI i S h.1) (λi S S' hE h=>⟨rg _ _ _ (hE.weak Om) h.1,(hE.low _ Om).trans h.2.1,(hE.low _ Om).trans h.2.2⟩) ?_) ?_
 .rintro i x j S' own ⟨hi,hd1,mc⟩ cg hy
  refine qoa hF mc rfl λrd=>?_;refine(hb F own rd i x j S' hF hi hy hd1 mc cg).mono λe s1 hq=>?_;have fin:∀{S:List AObj}{z:AObj},(∀k y,own[k]?=some y->S[S0.length+2+k]?=some y)->∀k y,own[k]?=some y->(S.set (S0.length+1) z)[S0.length+2+k]?=some y:=λh k y hk=>j8 (h k y hk) Om
  cases e with
  |normal=>
   obtain⟨q1,q2,q3⟩:=hq;refine⟨q1,q2,q3.mono λe s2 r9=>?_⟩
   cases e with
   |normal=>
    obtain⟨k1,k2,k3,k4⟩:=r9
    exact⟨k2,fin k3,λ_=>⟨rg _ _ _ (qbe Om (qda hF _ _ k2)) k4,j8 k1 Om,kh k2⟩,nofun⟩
   |ret=>
    obtain⟨k1,k2,k3,k4⟩:=r9
    exact⟨k2,fin k3,nofun,λ_=>⟨_,sm _ _ _ (qbe Om (qda hF _ _ k2)) k4,j8 k1 Om,kh k2⟩⟩
   |exit id=>
    obtain⟨k1,k2,k3,k4⟩:=r9
    exact⟨k2,fin k3,nofun,λ_=>⟨_,sm _ _ _ (qbe Om (qda hF _ _ k2)) k4,j8 k1 Om,kh k2⟩⟩
   |_=>exact r9.elim
  |_=>exact hq.elim
 .rintro r S' (⟨i,hy,hi,hd1,mc⟩|⟨c,hi,hd1,mc⟩)
  .exact⟨.ready,none,nofun,mc,hn i _ hy (rg _ _ _ (qbe Om (qda hF _ _ mc)) hi) (j8 hd1 Om)⟩
  .exact⟨.done,some c,nofun,mc,hd c _ (sm _ _ _ (qbe Om (qda hF _ _ mc)) hi) (j8 hd1 Om)⟩
end Go.Proofs.YtihlchbgjdkmpaaGreatDoor
namespace Go.Av
open Go Go.RowKit
theorem qvm{P:Program}{B0:Nat}{w0:World}{G:Gh}{st:List AObj}{w:World}(hA:zm B0 w0 G st w){tt u ty T:TypeId}{du:TypeDesc}(htt:P.underlying tt=some (.slice T))(hu:P.underlying u=some du)(hd:qkv du)
  {sz bytes:Nat} (hT:yw P T sz bytes) {t n m:Nat} (ht:st[t]?=some (.tip n sz T)) {xs ys:List AV} {x:Value} (hn:xs.length=n) (hm:ys.length=m)
  {news:List Value} (hx:Src P w x m sz news) (hys:∀y∈ys,y.cells.length=sz) (i7:∀(i:Nat)(a:AV)(b:Value),(flat ys)[i]?=some a->news[i]?=some b->Rel G a b)
  (t7:n+m<=maxLen) (base:Option Addr) (c:Nat) (olds:List Value) (ho:(Builtin.firstCells sz n (.slice base n c)).run P w.drew=.ok olds.toArray w.drew) (hc:c<n+m) (mw:olds.length=n*sz) (nt:(flat xs).length=n*sz) (hwx:∀x∈xs,x.cells.length=sz)
  (hrx:∀(j:Nat)(a:AV)(b:Value),(flat xs)[j]?=some a->olds[j]?=some b->Rel G a b) (i8:Builtin.nextslicecap (n+m) c*bytes<=281474976710656) (lk:m≠0):
  ∃v' w' G',(Builtin.append_ #[tt,u] ty #[.slice base n c,x]).run P w=.ok v' w'∧G.le G'∧zm B0 w0 G' (st.set t (.tip (n+m) sz T)) w'∧Rel G' (.sl sz (xs++ys) (some t)) v':=by
 obtain⟨i,z,hi,hz,rfl,rfl,pf⟩:=hT.ex;obtain⟨hraw,cn,htip⟩:=hA.ob t _ ht;have htn:t<G.n:=by rw[hA.n];exact lt_of_getElem? ht
 have d8:G.n=st.length:=hA.n;have hk:=hA.kill t;have pz:(st.set t .dead)[t]?=some .dead:=qa9 ht
 have o8:∀o x,(st.set t .dead)[o]?=some x->x.live->o≠t∧st[o]?=some x:=λo x hx hl=>by
  rcases getElem?_set' _ _ _ _ _ hx with⟨_,e⟩|⟨h1,h2⟩
  .subst e;exact hl.elim
  .exact⟨h1,h2⟩
 have lw:(st.set t AObj.dead).set t (.tip (n+m) i.size T)=st.set t (.tip (n+m) i.size T):=by rw[Zm]
 have o6:st.set t (.tip n i.size T)=st:=by
  apply Qx;intro k;by_cases e:t=k
  .subst e;rw[Zb (lt_of_getElem? ht)];exact ht.symm
  .rw[Qi e]
 have a8:=qh1 (ty:=ty) htt hu hd hi hz hx base n c olds ho hc (by simp only[maxLen]at t7;omega) i8;have fp:=grownCap_ge w (n+m) c T;have d7:=grownCap_le_maxLen w (n+m) c T t7;generalize grownCap w (n+m) c T=cap at a8 fp d7
 have m8:(olds.toArray++news.toArray++Builtin.zeroCells z.cells (cap-(n+m))).size=cap*i.size:=by
  simp only[Array.size_append,List.size_toArray,size_zeroCells,pf,mw,hx.count,<-Qw];congr 1;omega
 generalize hcv:olds.toArray++news.toArray++Builtin.zeroCells z.cells (cap-(n+m))=c' at a8 m8;have bz:Below w.heap.size w w.drew:=⟨rfl,rfl,rfl,Qc _,λ_ _=>rfl⟩;have gw:=hk.fresh bz
 have gn:∀(j:Nat)(y:Value),(olds++news)[j]?=some y->c'[j]?=some y:=λj y hy=>by
  have hj:=lt_of_getElem? hy;rw[<-hcv,Array.getElem?_append_left (by simp at hj⊢;omega),List.append_toArray]
  simpa using hy
 obtain⟨s9,lx⟩:=gw.newPub T c' (0,0) (olds++news) gn
 have hnp:G.pub w.heap.size=none:=by
  cases hp:G.pub w.heap.size with
  |none=>rfl
  |some vs=>exact absurd (hA.pub_lt hp) (Zw _)
 obtain⟨bp,hA3⟩:=lx.setTip (n':=n+m) (vs:=olds++news) (k:=w.heap.size) (cap:=cap*i.size) (sz:=i.size) (T:=T) pz (by simpa[Gh.publish]using hraw) (by simpa[Gh.publish]using cn) Om (y0 w.drew _) (by simp[Gh.publish]) (by simp[mw,hx.count,Qw]) m8 hA.hB (λo x hx hl=>by
  obtain⟨_,i4⟩:=o8 o x hx hl
  exact Zy ((hA.ob o x i4).lt hl))
 rw[lw]at hA3;refine⟨_,_,_,a8,s9.trans bp,hA3,?_⟩;have cd:∀{a b},Rel G a b->Rel ((G.publish w.drew.heap.size (olds++news)).setOb t ⟨n+m,w.heap.size,cap*i.size,false⟩) a b:=λh=>(h.mono s9).mono bp;refine qzk (n:=n) (m:=m) (cap:=cap) (k:=w.heap.size) (vs:=olds) (news:=news) (by simp[Gh.setOb]) (by simp[Gh.setOb]) (by simp[Gh.setOb]) d7 fp (by simpa[Gh.setOb,Gh.publish]using htn) Om hn hm (by simp[Gh.setOb,Gh.publish]) (λy hy=>?_) mw hx.count nt (λj a b h1 h2=>cd (hrx j a b h1 h2)) (λj a b h1 h2=>cd (i7 j a b h1 h2));rcases Qz.1 hy with h|h
 .exact hwx y h
 .exact hys y h
def TipO(b:Nat)(st:List AObj)(sz:Nat)(T:TypeId)(xs:List AV)(c:AV):Prop:=TipC b st sz T xs c∨(xs=[]∧∃o v f,c=.os o v f 0 0)
theorem q7d(b:Nat)(st:List AObj)(sz:Nat)(T:TypeId):TipO b st sz T [] zn:=.inl (zkp ..)
theorem zaz(b:Nat)(st:List AObj)(sz:Nat)(T:TypeId)(o v f:Nat):TipO b st sz T [] (.os o v f 0 0):=.inr ⟨rfl,_,_,_,rfl⟩
theorem zmu{G:Gh}{o v f:Nat}{sz:Nat}{x:Value}(h:Rel G (.os o v f 0 0) x):Rel G (.sl sz [] none) x:=by
 cases h with
 |os _ _ _ _ b _ hn hv h=>exact .sl0 sz none _ _ Sx
section
variable {E : Env} {rd : Option Nat} {N : Nat} {ops : Array Oper} {K : AS → Prop} {s : AS} {rest : List Oper} {d : Option Tmp} {T : TypeId} {p : String} {af : Array Edge}
theorem qkx{x y:Operand}{t u T':TypeId}{sz bytes b:Nat}{xs ys:List AV}{tip:Option Nat}{c:AV}{st:List AObj}(e8:s.st=st)(hx:qn N s x=c)(hy:qn N s y=.sl sz ys tip)
  (ht:E.P.underlying t=some (.slice T')) (hu:E.P.underlying u=some (.slice T')) (hT:yw E.P T' sz bytes) (hc:TipO b st sz T' xs c) (hb:b<=st.length) (i9:ke (flat ys)=true) (t7:xs.length+ys.length<=maxLen) (hby:(xs.length+ys.length)*bytes<=140737488355328)
  (h:∀c' st' t1,TipO b st' sz T' (xs++ys) c'->Fr st st' t1->b<=t1->(c=.sl sz xs (some t1)∨st.length<=t1)->AOps E rd N ops rest K (AS.put ⟨s.t,st',s.df⟩ d c')):AOps E rd N ops (⟨d,.call ⟨.builtin .append,#[x,y],#[t,u]⟩,T,p,af,none⟩::rest) K s:=by
 rcases hc with hc|⟨ng,o,ver,f,hco⟩
 .refine q3f e8 hx hc hb hy ht hu hT i9 t7 hby λt1 st' g1 g2 g3 g4=>h _ st' t1 (.inl (.inr ⟨t1,rfl,g1,g2⟩)) g3 g2 g4
 .subst e8
  subst ng;refine ze rfl (za nofun λB0 w0 G a w _ hI=>?_);have he:=hI.eval_of (hx.trans hco);obtain⟨news,k1,k2,k3⟩:=qam (P:=E.P) hI.agree (hI.eval_of hy) (by simpa[ke]using i9);have hex:=hT.ex;obtain⟨i,z,hi,hz,m8,hbt,pf⟩:=hex;generalize hv:a.eval x=v at he
  cases he with
  |os _ _ _ _ blk _ hn hvv hbb=>
   by_cases lk:ys.length=0
   .have rv:ys=[]:=Qg lk
    subst rv
    have hk1':Src E.P w (a.eval y) 0 i.size []:=by
     have:news=[]:=Qg (by simpa using k1.count);rw[m8];rw[this]at k1;exact k1
    refine⟨_,w,G,_,s.st,?_,.refl G,hI.agree,.os o ver f 0 blk 0 hn hvv hbb,h _ s.st s.st.length (.inr ⟨rfl,o,ver,f,rfl⟩) ⟨Qc _,λ_ _ _=>rfl⟩ hb (.inr (Qc _))⟩;have:=qdq (ty:=T) ht hu (.inr ⟨_,rfl⟩) hi hk1' (some ⟨blk,f,none⟩) 0 0 (Qc _);generalize a.eval=ρ at hv this;simp[execOp,resolve,invoke,builtin,hv,this]
   .have d7:=G.le_new 0 0 0 false
    have hA:=hI.agree.newTip sz T';have hz63:0+ys.length<=maxLen:=by simpa using t7
    obtain⟨v',w',G',e1,e2,e3,e4⟩:=qvm (ty:=T) hA ht hu (.inr ⟨_,rfl⟩) hT (t:=s.st.length) (n:=0) (xs:=[]) Sx rfl rfl k1 k2 (λi a b h1 h2=>(k3 i a b h1 h2).mono d7) hz63 (some ⟨blk,f,none⟩) 0 []
     (run_firstCells_some w.drew sz 0 ⟨blk,f,none⟩ 0 0 [] Sx Sx) Om Sx (by simp[flat]) Sx (by simp[flat]) (by rw[Qr,nextslicecap_zero Om];have:=hby;simp at this;omega) lk
    refine⟨v',w',G',_,_,?_,d7.trans e2,e3,e4,h _ _ s.st.length (.inl (.inr ⟨s.st.length,rfl,?_,hb⟩)) ⟨Sx,λk hk d8=>?_⟩ hb (.inr (Qc _))⟩
    .generalize a.eval=ρ at e1 hv
     simp[execOp,resolve,invoke,builtin,hv,e1]
    .simp
    .rw[Qi (Ne.symm hk),Qb d8]
end
theorem qdw{α:Type}{g:α->AV}{l:List α}(h:∀a,ke (g a).cells=true):ke (flat (l.map g))=true:=by
 induction l with
 |nil=>rfl
 |cons a r ih=>
  have h1:=h a;unfold ke flat at *;rw[Qp,Qy,List.all_append,h1,ih];rfl
theorem qpi{b:Nat}{st:List AObj}{sz:Nat}{T:TypeId}{xs:List AV}{c:AV}(h:TipO b st sz T xs c):∀G v,Rel G c v->Rel G (.sl sz xs none) v:=by
 rcases h with(⟨rfl,rfl⟩|⟨t,rfl,_⟩)|⟨rfl,o,v,f,rfl⟩
 .exactλG v h=>qcx h
 .exactλG v h=>qmr h
 .exactλG v h=>zmu h
end Go.Av
namespace Go.Av
open Go Go.RowKit
inductive SrcA (st:List AObj) (sz:Nat):AV->Nat->Nat->List AV->Prop
 |sl (ys:List AV) (tip:Option Nat) (i9:ke (flat ys)=true):SrcA st sz (.sl sz ys tip) ys.length ys.length (flat ys)
 |os (o ver off L cap m:Nat) (T:TypeId) (cs:List AV) (ho:st[o]?=some (.cells ver T cs)) (i8:off+m*sz<=cs.length) (i9:ke ((cs.drop off).take (m*sz))=true):SrcA st sz (.os o ver off L cap) L m ((cs.drop off).take (m*sz))
structure SrcP (P:Program) (w:World) (x:Value) (L m size:Nat) (news:List Value):Prop where
 len:∀w',(Builtin.lenOf x).run P w'=.ok L w'
 cells:∀w',Below w.heap.size w w'->(Builtin.firstCells size m x).run P w'=.ok news.toArray w'
 count:news.length=m*size
 one:∀u∈news,u.oneCell'=true
section
variable {B0 : Nat} {w0 : World} {G : Gh} {st : List AObj} {w : World}
theorem zaw{P:Program}(hA:zm B0 w0 G st w){sz L m:Nat}{a:AV}{zs:List AV}{x:Value}(h:SrcA st sz a L m zs)(hr:Rel G a x):
  ∃news,SrcP P w x L m sz news∧zs.length=m*sz∧∀(i:Nat)(a:AV)(b:Value),zs[i]?=some a->news[i]?=some b->Rel G a b:=by
 cases h with
 |sl ys tip i9=>
  obtain⟨news,h1,h2,h3⟩:=qam (P:=P) hA hr (by simpa[ke]using i9)
  exact⟨news,⟨h1.len,h1.cells,h1.count,h1.one⟩,zw h2,h3⟩
 |os o ver off _ cap _ T cs ho i8 i9=>
  obtain⟨g0,g1,g2,g3,c,g4,g5,g6⟩:=hA.ob o _ ho
  cases hr with
  |os _ _ _ _ b _ hn hv hb=>
   have hb:=hb g1;subst hb
   have d9:∀(j:Nat)(y:Value),((c.toList.drop off).take (m*sz))[j]?=some y->j<m*sz∧c[off+j]?=some y:=λj y hy=>by
    rw[Qn]at hy;split at hy
    .rename_i hj
     rw[Qk]at hy;exact⟨hj,by simpa using hy⟩
    .simp at hy
   have pk:((c.toList.drop off).take (m*sz)).length=m*sz:=by
    simp;omega
   refine⟨(c.toList.drop off).take (m*sz),⟨λw'=>by simp[Builtin.lenOf],λw' p8=>?_,pk,λu hu=>?_⟩,So,λi a b h1 h2=>?_⟩
   .refine run_firstCells_some w' sz m ⟨(G.ob o).blk,off,none⟩ L cap _ pk λj y hy=>?_
    obtain⟨hj,hy⟩:=d9 j y hy
    have d8:(G.ob o).blk<w.heap.size:=by
     rcases Nat.lt_or_ge (G.ob o).blk w.heap.size with h'|h'
     .exact h'
     .simp[Array.getElem?_eq_none h']at g4
    have e1:w'.heap[(G.ob o).blk]?=some (.cells c T (0,0)):=by rw[p8.block _ d8];exact g4
    rw[Addr.add_lit];simp[World.cell?,e1,hy]
   .obtain⟨j,hj⟩:=List.getElem?_of_mem hu
    obtain⟨h1,h2⟩:=d9 j u hj;have hlc:off+j<cs.length:=Om
    have hx:cs[off+j]?=some cs[off+j]:=Qt hlc;have hz:((cs.drop off).take (m*sz))[j]?=some cs[off+j]:=by rw[Qs h1,Qk];exact hx
    exact(g6 _ _ u hx h2).one (Zq.1 i9 _ (Zl hz))
   .obtain⟨h3,h4⟩:=d9 i b h2
    rw[Qs h3,Qk]at h1;exact g6 _ a b h1 h4
theorem qkw(hA:zm B0 w0 G st w){o ver off:Nat}{T:TypeId}{cs zs:List AV}{news:List Value}{c:Array Value}(ho:st[o]?=some (.cells ver T cs))(g4:w.heap[(G.ob o).blk]?=some (.cells c T (0,0)))(i8:off+zs.length<=cs.length)(hl:zs.length=news.length)
  (hr:∀(i:Nat)(a:AV)(b:Value),zs[i]?=some a->news[i]?=some b->Rel G a b):zm B0 w0 G (st.set o (.cells ver T (z6 cs off zs))) (w.setRow (G.ob o).blk (c.toList.take off++news++c.toList.drop (off+news.length)).toArray):=by
 obtain⟨_,_,_,_,c',h4,g5,g6⟩:=hA.ob o _ ho;rw[g4]at h4;simp only[Za,Obj.cells.injEq,and_true]at h4;subst h4;refine hA.setRow ho (by simp[z6];omega) ?_
 have e1:∀(j:Nat)(a:AV)(b:Value),(cs.take off)[j]?=some a->(c.toList.take off)[j]?=some b->Rel G a b:=λj a b h1 h2=>by
  rw[Qn]at h1 h2;split at h1
  .rename_i hj
   rw[if_pos hj]at h2;exact g6 j a b h1 (by simpa using h2)
  .simp at h1
 have e2:=qbv (G:=G) (cs:=cs.take off) (ds:=zs) (vs:=c.toList.take off) (us:=news) So e1 hr
 have e3:=qbv (G:=G) (cs:=cs.take off++zs) (ds:=cs.drop (off+zs.length)) (vs:=c.toList.take off++news) (us:=c.toList.drop (off+news.length)) So e2 (λj a b h1 h2=>by
  rw[Qk]at h1 h2;rw[hl]at h1
  exact g6 _ a b h1 (by simpa using h2))
 unfold z6;intro j a b h1 h2;exact e3 j a b h1 (by simpa using h2)
end
section
variable {E : Env} {rd : Option Nat} {N : Nat} {ops : Array Oper} {K : AS → Prop} {s : AS} {rest : List Oper} {d : Option Tmp} {T : TypeId} {p : String} {af : Array Edge}
theorem qpt{x y:Operand}{t u T':TypeId}{sz bytes o ver n cap m:Nat}{cs zs:List AV}{a:AV}(hx:qn N s x=.os o ver 0 n cap)(hy:qn N s y=a)(ho:s.st[o]?=some (.cells ver T' cs))(ck:SrcA s.st sz a m m zs)
  (ht:E.P.underlying t=some (.slice T')) (hu:E.P.underlying u=some (.slice T')) (hT:yw E.P T' sz bytes) (p6:n+m<=cap) (sj:cs.length=cap*sz)
  (h:AOps E rd N ops rest K (AS.put ⟨s.t,s.st.set o (.cells ver T' (z6 cs (n*sz) zs)),s.df⟩ d (.os o ver 0 (n+m) cap))):AOps E rd N ops (⟨d,.call ⟨.builtin .append,#[x,y],#[t,u]⟩,T,p,af,none⟩::rest) K s:=by
 refine ze rfl (za nofun λB0 w0 G a0 w _ hI=>?_);obtain⟨i,z,hi,hz,rfl,rfl,pf⟩:=hT.ex;obtain⟨news,h1,h2,h3⟩:=zaw (P:=E.P) hI.agree ck (hI.eval_of hy);have hv:=hI.eval_of hx;generalize dk:a0.eval x=v at hv;obtain⟨g0,g1,g2,g3,c,g4,g5,g6⟩:=hI.agree.ob o _ ho;have hmul:n*i.size+m*i.size<=cap*i.size:=by rw[<-Qw];exact Ql _ p6
 cases hv with
 |os _ _ _ _ b _ hn hv hb=>
  have hb:=hb g1;subst hb;have a8:=qll (ty:=T) ht hu (.inr ⟨_,rfl⟩) hi ⟨h1.len,h1.cells,h1.count,h1.one⟩ (G.ob o).blk n cap c g4 p6 (by rw[h1.count];omega);refine⟨_,_,G,_,_,?_,.refl G,qkw hI.agree ho g4 Om (by rw[h1.count];exact h2) h3,.os o ver 0 (n+m) _ cap hn hv (λ_=>rfl),h⟩;generalize a0.eval=ρ at a8 dk⊢;simp[execOp,resolve,invoke,builtin,dk,a8]
theorem qbs{x y:Operand}{t u T':TypeId}{sz bytes o ver off dl dc L m:Nat}{cs zs:List AV}{a:AV}(hx:qn N s x=.os o ver off dl dc)(hy:qn N s y=a)(ho:s.st[o]?=some (.cells ver T' cs))(ck:SrcA s.st sz a L m zs)(hm:Nat.min L dl=m)
  (ht:E.P.underlying t=some (.slice T')) (hT:yw E.P T' sz bytes) (i8:off+m*sz<=cs.length)
  (h:AOps E rd N ops rest K (AS.put ⟨s.t,s.st.set o (.cells ver T' (z6 cs off zs)),s.df⟩ d (Iv (m:Nat)))):AOps E rd N ops (⟨d,.call ⟨.builtin .copy,#[x,y],#[t,u]⟩,T,p,af,none⟩::rest) K s:=by
 refine ze rfl (za nofun λB0 w0 G a0 w _ hI=>?_);obtain⟨i,z,hi,hz,rfl,rfl,pf⟩:=hT.ex;obtain⟨news,h1,h2,h3⟩:=zaw (P:=E.P) hI.agree ck (hI.eval_of hy);have hv:=hI.eval_of hx;generalize dk:a0.eval x=v at hv;obtain⟨g0,g1,g2,g3,c,g4,g5,g6⟩:=hI.agree.ob o _ ho
 cases hv with
 |os _ _ _ _ b _ hn hv hb=>
  have hb:=hb g1;subst hb;have e8:=run_storeCells_at E.P (G.ob o).blk off T' news 0 c w g4 (by rw[h1.count];omega) h1.one;simp only[Xa]at e8;have gr:=h1.cells w (Below.refl _ _);refine⟨_,_,G,_,_,?_,.refl G,qkw hI.agree ho g4 Om (by rw[h1.count];exact h2) h3,.v _,h⟩;have hl:=h1.len w;generalize a0.eval=ρ at dk e8 gr hl⊢;simp[execOp,resolve,invoke,builtin,dk,Builtin.copy_,run_underlying ht,sizeOf,typeInfo,hi,hl,hm,gr,e8,goInt]
def za5(P:Program)(T:TypeId):Bool:=
 match P.info? T with
 |some i=>(match i.zero with
  |some z=>z.cells.toList.all Value.oneCell'
  |none=>false)
 |none=>false
theorem q3i{x:Operand}{t T':TypeId}{sz bytes o ver off n cap:Nat}{cs:List AV}(hx:qn N s x=.os o ver off n cap)(ho:s.st[o]?=some (.cells ver T' cs))
  (ht:E.P.underlying t=some (.slice T')) (hT:yw E.P T' sz bytes) (hz1:za5 E.P T'=true) (i8:off+n*sz<=cs.length)
  (h:∀zs:List AV,zs.length=n*sz->AOps E rd N ops rest K (AS.put ⟨s.t,s.st.set o (.cells ver T' (z6 cs off zs)),s.df⟩ d (.v undef))):AOps E rd N ops (⟨d,.call ⟨.builtin .clear,#[x],#[t]⟩,T,p,af,none⟩::rest) K s:=by
 refine ze rfl (za nofun λB0 w0 G a0 w _ hI=>?_);obtain⟨i,z,hi,hz,rfl,rfl,pf⟩:=hT.ex;have hv:=hI.eval_of hx;generalize dk:a0.eval x=v at hv;obtain⟨g0,g1,g2,g3,c,g4,g5,g6⟩:=hI.agree.ob o _ ho
 cases hv with
 |os _ _ _ _ b _ hn hv hb=>
  have hb:=hb g1;subst hb;by_cases h0:n=0
  .subst h0
   have o6:s.st.set o (.cells ver T' (z6 cs off []))=s.st:=by
    have e:z6 cs off []=cs:=by simp[z6]
    rw[e];apply Qx;intro k;by_cases e:o=k
    .subst e;rw[Zb (lt_of_getElem? ho)];exact ho.symm
    .rw[Qi e]
   have hh:=h [] Sx;refine⟨_,_,G,_,_,?_,.refl G,hI.agree,.v _,by rw[o6]at hh;exact hh⟩;generalize a0.eval=ρ at dk⊢;simp[execOp,resolve,invoke,builtin,dk,Builtin.clear_,run_underlying ht,undef]
  .have hzl:(Builtin.zeroCells z.cells n).toList.length=n*i.size:=by simp[size_zeroCells,pf]
   have hz1:∀u∈(Builtin.zeroCells z.cells n).toList,u.oneCell'=true:=λu hu=>by
    unfold za5 at hz1;rw[hi]at hz1;simp only[hz]at hz1;refine Zq.1 hz1 u ?_;simp only[Builtin.zeroCells,Array.toList_map,Zz,Array.toList_range,List.mem_range]at hu;obtain⟨q,hq,rfl⟩:=hu
    have hp:q%z.cells.size<z.cells.size:=Nat.mod_lt _ (by
     rcases Nat.eq_zero_or_pos z.cells.size with h|h
     .rw[h]at hq;omega
     .exact h)
    rw[getElem!_pos z.cells _ hp];simp
   have e8:=run_storeCells_at E.P (G.ob o).blk off T' (Builtin.zeroCells z.cells n).toList 0 c w g4 (by rw[hzl];omega) hz1;simp only[Xa]at e8;have hh:=h ((Builtin.zeroCells z.cells n).toList.map AV.v) (by simpa using hzl);refine⟨_,_,G,_,_,?_,.refl G,qkw (news:=(Builtin.zeroCells z.cells n).toList) hI.agree ho g4 (by rw[Qh,hzl];exact i8) Sx (λj a b h1 h2=>?_),.v _,hh⟩
   .generalize a0.eval=ρ at dk e8⊢
    obtain⟨n',rfl⟩:∃n',n=n'+1:=⟨n-1,Om⟩;simp[execOp,resolve,invoke,builtin,dk,Builtin.clear_,run_underlying ht,zeroValue,typeInfo,hi,hz,e8,undef]
   .rw[Qq,h2]at h1
    simp at h1;subst h1;exact .v _
theorem qxw{P:Program}{t e:TypeId}{sz:Nat}{agg:Bool}(hu:P.underlying t=some (.slice e))(ht:tyOf P e=some (sz,agg))(a:Option Addr)(len cap:Nat)(lo hi mx:Option Value)(i j m:Nat)(w:World)
  (fc:match lo with|none=>i=0|some v=>∃k,v=.int k (i:Int)) (cq:match hi with|none=>j=len∧mx=none|some v=>∃k,v=.int k (j:Int)) (hmx:match mx with|none=>m=cap|some v=>∃k,v=.int k (m:Int)) (h1:i<=j) (h2:j<=m) (h3:m<=cap):
  (Instr.slice t (.slice a len cap) lo hi mx).run P w=.ok (.slice (if m=i then a else a.map (·.add (i*sz))) (j-i) (m-i)) w:=by
 have hs:=(vw ht w).1
 cases lo with
 |none=>
  simp only at fc;subst fc
  cases hi with
  |none=>
   obtain⟨rfl,rfl⟩:=cq;simp only at hmx;subst hmx
   simp[Instr.slice,run_underlying hu,Instr.sliceBounds,hs]
  |some v=>
   obtain⟨k,rfl⟩:=cq
   cases mx with
   |none=>
    simp only at hmx;subst hmx
    simp[Instr.slice,run_underlying hu,Instr.sliceBounds,Instr.sliceBound,asIntOf,hs,h2]
   |some u=>
    obtain⟨k',rfl⟩:=hmx
    simp[Instr.slice,run_underlying hu,Instr.sliceBounds,Instr.sliceBound,asIntOf,hs,h2,h3]
 |some u=>
  obtain⟨k',rfl⟩:=fc
  cases hi with
  |none=>
   obtain⟨rfl,rfl⟩:=cq;simp only at hmx;subst hmx
   simp[Instr.slice,run_underlying hu,Instr.sliceBounds,Instr.sliceBound,asIntOf,hs,h1]
  |some v=>
   obtain⟨k,rfl⟩:=cq
   cases mx with
   |none=>
    simp only at hmx;subst hmx
    simp[Instr.slice,run_underlying hu,Instr.sliceBounds,Instr.sliceBound,asIntOf,hs,h1,h2]
   |some u=>
    obtain⟨k'',rfl⟩:=hmx;simp[Instr.slice,run_underlying hu,Instr.sliceBounds,Instr.sliceBound,asIntOf,hs,h1,h2,h3]
theorem jb{x:Operand}{t e:TypeId}{lo hi mx:Option Operand}{sz:Nat}{agg:Bool}{o ver off len cap i j m:Nat}(hx:qn N s x=.os o ver off len cap)(hu:E.P.underlying t=some (.slice e))(ht:tyOf E.P e=some (sz,agg))
  (fc:match lo with|none=>i=0|some y=>∃k,qn N s y=.v (.int k (i:Int))) (cq:match hi with|none=>j=len∧mx=none|some y=>∃k,qn N s y=.v (.int k (j:Int))) (hmx:match mx with|none=>m=cap|some y=>∃k,qn N s y=.v (.int k (m:Int))) (h1:i<=j) (h2:j<=m) (h3:m<=cap)
  (h:AOps E rd N ops rest K (s.put d (.os o ver (if m=i then off else off+i*sz) (j-i) (m-i)))):AOps E rd N ops (⟨d,.slice t x lo hi mx,T,p,af,none⟩::rest) K s:=by
 refine ze rfl (za nofun λB0 w0 G a w _ hI=>?_);have he:=hI.eval_of hx;generalize hv:a.eval x=v at he
 cases he with
 |os _ _ _ _ b _ hn hvr hb=>
  have a8:=qxw hu ht (some ⟨b,off,none⟩) len cap (lo.map a.eval) (hi.map a.eval) (mx.map a.eval) i j m w (by
   cases lo with
   |none=>exact fc
   |some y=>obtain⟨k,hy⟩:=fc;exact⟨k,hI.evalv hy⟩) (by
   cases hi with
   |none=>obtain⟨q1,q2⟩:=cq;subst q2;exact⟨q1,rfl⟩
   |some y=>obtain⟨k,hy⟩:=cq;exact⟨k,hI.evalv hy⟩) (by
   cases mx with
   |none=>exact hmx
   |some y=>obtain⟨k,hy⟩:=hmx;exact⟨k,hI.evalv hy⟩) h1 h2 h3
  refine⟨.slice (if m=i then some ⟨b,off,none⟩else(some ⟨b,off,none⟩:Option Addr).map (·.add (i*sz))) (j-i) (m-i),w,G,_,s.st,?_,.refl G,hI.agree,?_,h⟩
  .generalize a.eval=ρ at hv a8⊢
   simp only[execOp,hv];simp[Instr.sliceAt,run_underlying hu,a8]
  .have t8:Addr.add ⟨b,off,none⟩ (i*sz)=⟨b,off+i*sz,none⟩:=Addr.add_lit ..
   by_cases hmi:m=i
   .rw[if_pos hmi,if_pos hmi]
    exact .os o ver off (j-i) b (m-i) hn hvr hb
   .rw[if_neg hmi,if_neg hmi,Zr,t8]
    exact .os o ver (off+i*sz) (j-i) b (m-i) hn hvr hb
theorem qga{x y:Operand}{t u T':TypeId}{sz bytes:Nat}{ys:List AV}(hx:∀(G:Gh)(v:Value),Rel G (qn N s x) v->∃base,v=.slice base 0 0)(hy:∀(G:Gh)(v:Value),Rel G (qn N s y) v->Rel G (.sl sz ys none) v)
  (ht:E.P.underlying t=some (.slice T')) (hu:E.P.underlying u=some (.slice T')) (hT:yw E.P T' sz bytes) (i9:ke (flat ys)=true) (h0:ys≠[]) (t7:ys.length<=maxLen) (hb:ys.length*bytes<=140737488355328)
  (h:∀cap pad,(flat ys++pad).length=(cap+1)*sz->(∀y∈ys,y.cells.length=sz)->ys.length<=cap+1->cap+1<=maxLen->AOps E rd N ops rest K (AS.put ⟨s.t,s.st++[.cells 0 T' (flat ys++pad)],s.df⟩ d (.os s.st.length 0 0 ys.length (cap+1)))):AOps E rd N ops (⟨d,.call ⟨.builtin .append,#[x,y],#[t,u]⟩,T,p,af,none⟩::rest) K s:=by
 refine ze rfl (za nofun λB0 w0 G a0 w _ hI=>?_);obtain⟨i,z,hi,hz,rfl,rfl,pf⟩:=hT.ex;obtain⟨news,h1,h2,h3⟩:=qam (P:=E.P) hI.agree (hy _ _ (hI.eval y)) (by simpa[ke]using i9);obtain⟨base,hv⟩:=hx _ _ (hI.eval x);have d5:0<ys.length:=Qo.2 h0
 have i5:(Builtin.firstCells i.size 0 (.slice base 0 0)).run E.P w.drew=.ok ([]:List Value).toArray w.drew:=by
  cases base with
  |none=>simp[run_firstCells_none]
  |some a=>exact run_firstCells_some w.drew i.size 0 a 0 0 [] Sx Sx
 have a8:=qh1 (ty:=T) ht hu (.inr ⟨_,rfl⟩) hi hz h1 base 0 0 [] i5 Om (by simp only[maxLen]at t7;omega) (by simp only[Qr];rw[nextslicecap_zero Om];omega);simp only[Qr]at a8;have fp:=grownCap_ge w ys.length 0 T';have d7:=grownCap_le_maxLen w ys.length 0 T' t7;generalize grownCap w ys.length 0 T'=cap at a8 fp d7;obtain⟨cap,rfl⟩:∃c,cap=c+1:=⟨cap-1,Om⟩;generalize hzc:Builtin.zeroCells z.cells (cap+1-ys.length)=zc at a8;have hzl:zc.size=(cap+1-ys.length)*i.size:=by rw[<-hzc,size_zeroCells,pf]
 have hfy:(flat ys).length=ys.length*i.size:=zw h2;have bz:Below w.heap.size w w.drew:=⟨rfl,rfl,rfl,Qc _,λ_ _=>rfl⟩
 have hr:=qbv (G:=G) (cs:=flat ys) (ds:=zc.toList.map AV.v) (vs:=news) (us:=zc.toList) (by rw[hfy,h1.count]) h3 (λj a b h1 h2=>by
  rw[Qq,h2]at h1;simp at h1;subst h1
  exact .v _)
 have hA:=(hI.agree.fresh bz).newCells T' (([]:List Value).toArray++news.toArray++zc) (flat ys++zc.toList.map AV.v) (by simp[hfy,h1.count]) (λj a b q1 q2=>hr j a b q1 (by rw[<-q2];simp[<-Zc]));have hn:=hI.agree.n;refine⟨_,_,_,_,_,?_,G.le_new _ _ _ _,hA,.os _ _ _ _ _ _ (by simp[Gh.new,hn]) (Zh _) (λ_=>by simp[Gh.new,hn];rfl),h cap (zc.toList.map AV.v) ?_ h2 fp d7⟩
 .generalize a0.eval=ρ at a8 hv⊢
  simp[execOp,resolve,invoke,builtin,hv,a8]
 .have h1:zc.toList.length=(cap+1-ys.length)*i.size:=by rw[<-hzl];simp
  rw[Qa,hfy,Qh,h1,<-Qw];congr 1;omega
theorem qpu{x y:Operand}{t u T':TypeId}{sz bytes o:Nat}{xs ys:List AV}{a:AV}{ob:AObj}(hx:qn N s x=a)(hy:∀(G:Gh)(v:Value),Rel G (qn N s y) v->Rel G (.sl sz ys none) v)(hV:Vec sz T' o xs a ob)(ho:s.st[o]?=some ob)
  (ht:E.P.underlying t=some (.slice T')) (hu:E.P.underlying u=some (.slice T')) (hT:yw E.P T' sz bytes) (i9:ke (flat ys)=true) (t7:xs.length+ys.length<=maxLen) (hb:(xs.length+ys.length)*bytes<=140737488355328)
  (h:∀a' ob',Vec sz T' o (xs++ys) a' ob'->AOps E rd N ops rest K (AS.put ⟨s.t,s.st.set o ob',s.df⟩ d a')):AOps E rd N ops (⟨d,.call ⟨.builtin .append,#[x,y],#[t,u]⟩,T,p,af,none⟩::rest) K s:=by
 refine ze rfl (za nofun λB0 w0 G a0 w _ hI=>?_);obtain⟨news,h1,h2,h3⟩:=qam (P:=E.P) hI.agree (hy _ _ (hI.eval y)) (by simpa[ke]using i9);obtain⟨v',w',G',a',ob',e1,e2,e3,e4,e5⟩:=qps (ty:=T) hI.agree ht hu (.inr ⟨_,rfl⟩) hT hV ho (hI.eval_of hx) h1 h2 h3 t7 hb;refine⟨v',w',G',_,_,?_,e2,e3,e4,h a' ob' e5⟩;generalize a0.eval=ρ at e1;simp[execOp,resolve,invoke,builtin,e1]
theorem qqb{x y:Operand}{t u T':TypeId}{sz bytes:Nat}{c:AV}(hx:qn N s x=c)(hc:∀G v,Rel G c v->∃b n cp,v=.slice b n cp∧n<=cp)(hy:∀(G:Gh)(v:Value),Rel G (qn N s y) v->Rel G (.sl sz [] none) v)
  (ht:E.P.underlying t=some (.slice T')) (hu:E.P.underlying u=some (.slice T')) (hT:yw E.P T' sz bytes) (h:AOps E rd N ops rest K (s.put d c)):AOps E rd N ops (⟨d,.call ⟨.builtin .append,#[x,y],#[t,u]⟩,T,p,af,none⟩::rest) K s:=by
 refine ze rfl (za nofun λB0 w0 G a0 w _ hI=>?_);obtain⟨i,z,hi,hz,rfl,rfl,pf⟩:=hT.ex;obtain⟨news,h1,h2,h3⟩:=qam (P:=E.P) hI.agree (hy _ _ (hI.eval y)) (by simp[flat]);have gv:news=[]:=Qg (by simpa using h1.count);subst gv;have hv:=hI.eval_of hx;obtain⟨b,n,cp,rj,d7⟩:=hc _ _ hv;have a8:=qdq (ty:=T) ht hu (.inr ⟨_,rfl⟩) hi h1 b n cp d7;refine⟨_,w,G,c,s.st,?_,.refl G,hI.agree,hv,h⟩;rw[rj];generalize a0.eval=ρ at a8 rj;simp[execOp,resolve,invoke,builtin,rj,a8]
end
end Go.Av
