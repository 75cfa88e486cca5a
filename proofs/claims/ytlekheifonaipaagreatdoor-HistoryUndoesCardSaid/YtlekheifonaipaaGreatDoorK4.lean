/- Contracts and plain facts that the closing text leans on (part 4). No condition of their own beyond those that each states. -/
import Derived.Test.YtlekheifonaipaaGreatDoorK3
set_option maxRecDepth 100000
set_option linter.unusedVariables false
set_option linter.unusedSimpArgs false
open Array renaming getElem?_toList→Zc
open List renaming length_append→Qa,getElem?_append_left→Qc,append_assoc→Qe,length_cons→Qf,eq_nil_of_length_eq_zero→Qg,length_map→Qh,getElem?_set_ne→Qi,getElem?_append_right→Qj,getElem?_drop→Qk,length_nil→Qm,getElem?_take→Qn,length_pos_iff→Qo,mem_cons→Qp,map_cons→Qq,flatMap_cons→Qr,getElem?_map→Qs,getElem?_take_of_lt→Qu,getElem?_eq_getElem→Qv,not_mem_nil→Qw,ext_getElem?→Qy,mem_append→Qz,getElem?_set_self→Zb,append_nil→Zd,map_append→Ze,drop_append_of_le_length→Zf,cons_append→Zg,length_eq_zero_iff→Zh,headD_cons→Zi,length→Zl,tail_cons→Zm,take_append_drop→Zn,mem_of_mem_take→Zo,mem_of_getElem?→Zp,takeWhile_cons→Zq,mem_map→Zr,set_set→Zs,set_cons_succ→Zt,map_map→Zu,mem_of_head?→Zv,all_eq_true→Zw,length_set→Zy,take_left'→Zz,drop_left'→Xa,sum_cons→Xd,getD→Xg
open Nat renaming le_refl→Qb,le_of_ble_eq_true→Qd,mul_le_mul_right→Ql,zero_add→Qt,add_mul→Qx,min_eq_left→Zj,zero_le→Zk,mul_le_mul→Xb,lt_irrefl→Xc,ne_of_lt→Xe,add_zero→Xf
open Option renaming map_some→Zx
open Option.some renaming injEq→Za
namespace Go.Pl
open Go Go.Proofs
abbrev Fld:=qa×qa
def qc2(s:qa):Prop:=∀c∈s,wy c
instance (s:qa):Decidable (qc2 s):=inferInstanceAs (Decidable (∀c∈s,wy c))
def wn(s:qa):qa:=if qc2 s∨s.head?=some 46 then 46::s else s
def kl(key p:qa):qa:=key++[58]++if p=[]then []else [32]++p
def zp(f:Fld):List qa:=kl f.1 ((za f.2).headD [])::(za f.2).tail.map λs=>[32]++wn s
def zj(ls:List qa):qa:=ls.flatMap λs=>s++[10]
def zy(xs:List Fld):qa:=xs.flatMap λf=>zj (zp f)
def vj(f:Fld):Int:=if¬qa6 f.1 then 5 else if 1000<f.2.length then 6 else 0
def kh(f:Fld):Prop:=qa6 f.1∧f.2.length<=1000
instance (f:Fld):Decidable (kh f):=inferInstanceAs (Decidable (_∧_))
theorem qc3(f:Fld):vj f=0↔kh f:=by
 unfold vj kh;by_cases h:qa6 f.1
 .by_cases h2:1000<f.2.length
  .simp[h,h2]
  .simp[h,h2];omega
 .simp[h]
def w8(c:UInt8)(l:qa):qa:=if l.head?=some c then l.drop 1 else l
theorem q0e(c:UInt8)(l:qa):Lib.trimPrefix l [c]=w8 c l:=by
 unfold Lib.trimPrefix w8;rw[qqd];simp
def qca(l:qa)(r:List qa):qa:=w8 32 (vd l)++r.flatMap λs=>[10]++w8 46 (s.drop 1)
def qv0(ls:List qa):Prop:=ls≠[]∧qx (ls.headD [])=4∧∀s∈ls.tail,qx s=3
instance (ls:List qa):Decidable (qv0 ls):=inferInstanceAs (Decidable (_∧_∧_))
def zu(ls:List qa):Fld×Int:=
 if qv0 ls then
  if 1000<(qca (ls.headD []) ls.tail).length then(([],[]),6)else((jg (ls.headD []),qca (ls.headD []) ls.tail),0)
 else(([],[]),2)
theorem qh1(l:qa):za l≠[]:=by
 by_cases h:10∈l
 .rw[qab h];simp
 .rw[qac h];simp
theorem qpk(l:qa):za l=(za l).headD []::(za l).tail:=by
 cases h:za l with
 |nil=>exact absurd h (qh1 l)
 |cons a r=>rfl
theorem qks:∀(n:Nat)(l:qa),l.length<=n->(za l).headD []++(za l).tail.flatMap (λs=>[10]++s)=l
 |n,l,hn=>by
  by_cases h:10∈l
  .rw[qab h]
   have b9:l≠[]:=λe=>by subst e;simp at h
   have d9:=xq (c:=10) b9
   cases n with
   |zero=>omega
   |succ n=>
    have ih:=qks n (past 10 l) Om;simp only[Zi,Zm];rw[qpk (past 10 l)];simp only[Qr];rw[Qe,ih];have:=wo h;simp[<-this]
  .rw[qac h];simp
theorem qfl(l:qa):∀x∈za l,10∉x:=λx hx=>(qj5 l.length l (Qb _) x hx).2
theorem qf3(l:qa):∀x∈za l,x.length<=l.length:=λx hx=>(qj5 l.length l (Qb _) x hx).1
theorem qu4(l:qa):(za l).headD []∈za l:=by
 have h:=qh1 l
 cases e:za l with
 |nil=>exact absurd e h
 |cons a r=>simp
theorem q92(s:qa):w8 46 (wn s)=s:=by
 unfold wn w8;by_cases h:qc2 s∨s.head?=some 46
 .rw[if_pos h];simp
 .rw[if_neg h,if_neg (λh'=>h (.inr h'))]
theorem qz7(s:qa):¬qc2 (wn s):=by
 unfold wn;by_cases h:qc2 s∨s.head?=some 46
 .rw[if_pos h]
  intro h';have:=h' 46 Sx;revert this;decide
 .rw[if_neg h]
  exactλh'=>h (.inl h')
theorem qyv{s:qa}(h:10∉s):10∉wn s:=by
 unfold wn;split
 .simp[h]
 .exact h
theorem q2r(s:qa):(wn s).length<=s.length+1:=by
 unfold wn;split <;>simp
theorem q1s(s:qa)(h:10∉s):qx ([32]++wn s)=3:=by
 have hn:=qyv h;have hb:=qz7 s;unfold qx;have i3:10∉([32]++wn s):=by simp[hn]
 rw[if_neg i3,if_neg (λh'=>hb λc hc=>h' c (by simp[hc])),if_neg Sx,if_pos ⟨32,Sx,.inl rfl⟩]
theorem qm7{k r:qa}(h:58∉k):jg (k++[58]++r)=k:=by
 unfold jg
 induction k with
 |nil=>simp
 |cons a k ih=>
  simp only[Qp,not_or]at h;have:(58:UInt8)≠a:=h.1;simp only[Zg,Zq];rw[if_pos (by simpa usingλe=>this e.symm)];rw[ih h.2]
theorem q7w{k r:qa}(h:58∉k):vd (k++[58]++r)=r:=by
 unfold vd;rw[qm7 h];rw[Zf Sx];simp
theorem qmj{k:qa}(h:qa6 k):∃c,k.head?=some c∧¬wy c∧c≠35:=by
 obtain⟨h1,h2,h3,h4,h5,h6⟩:=h
 cases k with
 |nil=>exact absurd rfl h1
 |cons a r=>exact⟨a,rfl,λhb=>h3 ⟨a,rfl,hb⟩,λe=>h4 (by simp[e])⟩
theorem q1r{k p:qa}(h:qa6 k)(hp:10∉p):qx (kl k p)=4:=by
 obtain⟨c,hc,hb,h35⟩:=qmj h;have hk10:10∉k:=h.2.2.2.2.2;have hk58:58∉k:=h.2.2.2.2.1
 have hh:(kl k p).head?=some c:=by
  unfold kl
  cases k with
  |nil=>simp at hc
  |cons a r=>simpa using hc
 have e:kl k p=k++[58]++(if p=[]then []else [32]++p):=rfl
 have i3:10∉kl k p:=by
  rw[e];split <;>simp[hk10,hp]
 have tq:c∈kl k p:=Zv hh;unfold qx;rw[if_neg i3,if_neg (λh'=>hb (h' c tq)),if_neg (by rw[hh];simpa using h35),if_neg (λ⟨d,hd,dv⟩=>by rw[hh]at hd;cases hd;exact hb dv)];rw[if_pos];refine⟨by rw[e];simp,?_⟩;rw[e,qm7 hk58];exact h
theorem zfz(k p:qa)(h:58∉k):w8 32 (vd (kl k p))=p:=by
 unfold kl;rw[q7w h];by_cases hp:p=[]
 .rw[if_pos hp];simp[w8,hp]
 .rw[if_neg hp];simp[w8]
theorem qqe{f:Fld}(h:kh f):zu (zp f)=(f,0):=by
 obtain⟨hk,hv⟩:=h;have hk58:58∉f.1:=hk.2.2.2.2.1;have i3:=qfl f.2
 have sf:qca (kl f.1 ((za f.2).headD [])) ((za f.2).tail.map λs=>[32]++wn s)=f.2:=by
  unfold qca;rw[zfz _ _ hk58]
  have:((za f.2).tail.map λs=>[32]++wn s).flatMap (λs=>[10]++w8 46 (s.drop 1))=(za f.2).tail.flatMap (λs=>[10]++s):=by
   rw[List.flatMap_map];congr 1;funext s;simp[q92]
  rw[this,qks _ _ (Qb _)]
 unfold zu zp;rw[if_pos]
 .simp only[Zi,Zm]
  refine(if_neg (by rw[sf];omega)).trans ?_;have:jg (kl f.1 ((za f.2).headD []))=f.1:=qm7 hk58;rw[this,sf]
 .refine⟨Sx,?_,?_⟩
  .simp only[Zi]
   exact q1r hk (i3 _ (qu4 _))
  .intro s hs
   simp only[Zm,Zr]at hs;obtain⟨x,hx,rfl⟩:=hs;exact q1s x (i3 x (List.mem_of_mem_tail hx))
end Go.Pl
namespace Go.Av
open Go Go.RowKit
section
variable {E : Env} {rd : Option Nat} {N : Nat} {ops : Array Oper} {K : AS → Prop} {s : AS} {rest : List Oper} {d : Option Tmp} {T : TypeId} {p : String} {af : Array Edge}
theorem qb5{t e:TypeId}{len sz:Nat}{agg:Bool}{parts:Array (Nat×Operand)}{zs cs:List AV}{st loc:List AObj}(e7:s.st=st++loc)(hu:E.P.underlying t=some (.slice e))(ht:tyOf E.P e=some (sz,agg))(hz:qh9 E.P e len=some zs)
  (hf:qdb (λi=>some (i*sz,sz)) zs (vz N s parts)=some cs) (o6:Nat.ble (len*sz) 16777216=true)
  (h:AOps E rd N ops rest K (AS.put ⟨s.t,st++(loc++[.cells 0 e cs]),s.df⟩ d (.os (st.length+loc.length) 0 0 len len))):AOps E rd N ops (⟨d,.buildSlice t len parts,T,p,af,none⟩::rest) K s:=by
 refine q9 rfl (q8 nofun λB0 w0 G a w _ hI=>?_);obtain⟨c',a8,h2⟩:=qnm (d:=d) (T:=T) (p:=p) (af:=af) hI hu ht hz hf o6;have hA:=hI.agree.newCells e c' cs h2.1 h2.2;have hn:=hI.agree.n;rw[e7]at hA hn;simp only[Qe,Qa]at hA hn;exact⟨_,_,_,_,_,a8,G.le_new _ _ _ _,hA,.os _ _ _ _ _ _ (by simp[Gh.new,hn]) (Zk _) (λ_=>by simp[Gh.new,hn]),h⟩
theorem zl.ownTip{B0:Nat}{w0:World}{G:Gh}{st:List AObj}{w:World}(h:zl B0 w0 G st w){o sz len cap:Nat}{T:TypeId}{cs:List AV}{xs:List AV}(ho:st[o]?=some (.cells 0 T cs))(hc:cs.length=cap*sz)(d5:xs.length=len)(h0:0<len)(d7:len<=cap)(rf:cap<=maxLen)(hw:∀x∈xs,x.cells.length=sz)(o8:flat xs=cs.take (len*sz)):
  ∃G',G.le G'∧zl B0 w0 G' (st.set o (.tip len sz T)) w∧Rel G' (.sl sz xs (some o)) (.slice (some ⟨(G.ob o).blk,0,none⟩) len cap):=by
 subst d5;have gv:=lt_of_getElem? ho;obtain⟨g0,g1,g2,g3,c,g4,g5,g6⟩:=h.ob o _ ho;have u6:G.le (G.publish (G.ob o).blk (c.toList.take (xs.length*sz))):=G.le_publish _ _ [] [] (.inl g3)
 -- dead, published
 have key:∀(k:Nat)(x:AObj),(st.set o .dead)[k]?=some x->x=.dead∨(k≠o∧st[k]?=some x):=λk x hx=>by
  rcases getElem?_set' _ _ _ _ _ hx with⟨_,e⟩|e
  .exact .inl e
  .exact .inr e
 have gw:zl B0 w0 (G.publish (G.ob o).blk (c.toList.take (xs.length*sz))) (st.set o .dead) w:=by
  refine⟨h.below,h.hB,by simp[h.n,Gh.publish],λb vs hb=>?_,λk x hx=>?_,λk k' x x' b9 hx i4 hl bj=>?_⟩
  .simp only[Gh.publish]at hb
   by_cases e:b=(G.ob o).blk
   .rw[if_pos e]at hb
    cases hb
    subst e;refine⟨c,T,(0,0),g4,λi y hy=>?_⟩;rw[Qn]at hy;split at hy
    .simpa using hy
    .simp at hy
   .rw[if_neg e]at hb
    exact h.pub b vs hb
  .rcases key k x hx with rfl |⟨hk,hx⟩
   .trivial
   .refine(h.ob k x hx).mono u6 rfl (λhl=>?_) (λ_=>rfl)
    have:=h.sep k o x _ hk hx ho hl trivial;simp[Gh.publish,this]
  .rcases key k x hx with rfl |⟨hk,hx⟩
   .exact hl.elim
   .rcases key k' x' i4 with rfl |⟨bg,i4⟩
    .exact bj.elim
    .exact h.sep k k' x x' b9 hx i4 hl bj
 have hvl:(c.toList.take (xs.length*sz)).length=xs.length*sz:=by
  have:xs.length*sz<=cap*sz:=Ql _ d7;simp;omega
 obtain⟨bp,mb⟩:=gw.setTip (t:=o) (n:=0) (n':=xs.length) (k:=(G.ob o).blk) (cap:=c.size) (sz:=sz) (T:=T) (c:=c) (vs:=c.toList.take (xs.length*sz)) (by simp[gv]) g0 g1 h0 g4 (by simp[Gh.publish]) hvl rfl g2 (λk x hx hl=>by
  rcases key k x hx with rfl |⟨hk,hx⟩
  .exact hl.elim
  .exact h.sep k o x _ hk hx ho hl trivial)
 rw[Zs]at mb;refine⟨_,u6.trans bp,mb,?_⟩;have hgn:o<G.n:=by rw[h.n];exact gv
 refine .sl sz xs (some o) (G.ob o).blk 0 cap (c.toList.take (xs.length*sz)) (by simp[Gh.setOb,Gh.publish]) hw (by rw[o8,hvl];simp;omega) (λi x y h1 h2=>?_) (λt ht=>?_) Om
 .rw[o8]at h1
  rw[Qt]at h2;rw[Qn]at h1 h2;split at h1
  .rename_i hi
   rw[if_pos hi]at h2;exact((g6 i x y h1 (by simpa using h2)).mono u6).mono bp
  .simp at h1
 .simp only[Za]at ht
  subst ht;refine⟨by simpa[Gh.setOb,Gh.publish]using hgn,Om,by simp[Gh.setOb],λ_=>⟨by simp[Gh.setOb],rfl,by simp[Gh.setOb,<-g5,hc],rf,Om⟩⟩
theorem Inv.osTip{B0:Nat}{w0:World}{G:Gh}{a:Act}{w:World}(h:Inv B0 w0 N G s a w){i o sz len cap:Nat}{T':TypeId}{cs xs:List AV}(hi:s.t i=.os o 0 0 len cap)(ho:s.st[o]?=some (.cells 0 T' cs))(hc:cs.length=cap*sz)(d5:xs.length=len)(h0:0<len)(d7:len<=cap)(rf:cap<=maxLen)(hw:∀x∈xs,x.cells.length=sz)(o8:flat xs=cs.take (len*sz)):
  ∃G',G.le G'∧Inv B0 w0 N G' ⟨Av.put s.t i (.sl sz xs (some o)),s.st.set o (.tip len sz T'),s.df⟩ a w:=by
 obtain⟨G',hG,hA,hR⟩:=h.agree.ownTip ho hc d5 h0 d7 rf hw o8;obtain⟨_,g1,_⟩:=h.agree.ob o _ ho;refine⟨G',hG,hA,h.defers_mono hG,h.size,λj y hy=>?_⟩;have hj:=h.tmps j y hy;by_cases e:j=i
 .subst e
  simp only[xx];rw[hi]at hj
  cases hj with
  |os _ _ _ _ b _ hn hv hb=>
   have hb:=hb g1;subst hb;exact hR
 .simp only
  rw[qax _ _ _ _ e];exact hj.mono hG
theorem zex{c:Code}{Q:Exit->AS->Prop}(i:Nat){o sz len cap:Nat}{T':TypeId}{cs xs:List AV}(hi:s.t i=.os o 0 0 len cap)(ho:s.st[o]?=some (.cells 0 T' cs))(hc:cs.length=cap*sz)(d5:xs.length=len)(h0:0<len)(d7:len<=cap)(rf:cap<=maxLen)(hw:∀x∈xs,x.cells.length=sz)(o8:flat xs=cs.take (len*sz))
  (h:AWp E rd N c Q ⟨Av.put s.t i (.sl sz xs (some o)),s.st.set o (.tip len sz T'),s.df⟩):AWp E rd N c Q s:=
 ⟨λB0 w0 G a w hL hI=>let ⟨G1,h1,h2⟩:=hI.osTip hi ho hc d5 h0 d7 rf hw o8;wpIn_mono (h.run B0 w0 _ a w hL h2) λ_ _ _ ⟨G',s',hG,k1,k2⟩=>⟨G',s',h1.trans hG,k1,k2⟩⟩
theorem zca{l:List Oper}(i:Nat){o sz len cap:Nat}{T':TypeId}{cs xs:List AV}(hi:s.t i=.os o 0 0 len cap)(ho:s.st[o]?=some (.cells 0 T' cs))(hc:cs.length=cap*sz)(d5:xs.length=len)(h0:0<len)(d7:len<=cap)(rf:cap<=maxLen)(hw:∀x∈xs,x.cells.length=sz)(o8:flat xs=cs.take (len*sz))
  (h:AOps E rd N ops l K ⟨Av.put s.t i (.sl sz xs (some o)),s.st.set o (.tip len sz T'),s.df⟩):AOps E rd N ops l K s:=
 ⟨λB0 w0 G a w hL hI Q hQ=>let ⟨G1,h1,h2⟩:=hI.osTip hi ho hc d5 h0 d7 rf hw o8;h.run B0 w0 _ a w hL h2 Q λG' s' a' w' hG k1 k2=>hQ G' s' a' w' (h1.trans hG) k1 k2⟩
theorem Inv.osPub{B0:Nat}{w0:World}{G:Gh}{a:Act}{w:World}(h:Inv B0 w0 N G s a w){i o ver off sz len cap:Nat}{T':TypeId}{cs xs:List AV}(hi:s.t i=.os o ver off len cap)(ho:s.st[o]?=some (.cells ver T' cs))(d5:xs.length=len)(d7:len<=cap)(hw:∀x∈xs,x.cells.length=sz)(hin:off+len*sz<=cs.length)(o8:flat xs=(cs.drop off).take (len*sz)):
  ∃G',G.le G'∧Inv B0 w0 N G' ⟨Av.put s.t i (.sl sz xs none),s.st.set o .dead,s.df⟩ a w:=by
 obtain⟨vs,u6,hA,hv,hp,hl,hr⟩:=h.agree.pubOb ho;refine⟨_,u6,hA,h.defers_mono u6,h.size,λj y hy=>?_⟩;have hj:=h.tmps j y hy;by_cases e:j=i
 .subst e
  simp only[xx];rw[hi]at hj
  cases hj with
  |os _ _ _ _ b _ hn dk hb=>
   have hb:=hb hv;subst hb;rw[<-d5];refine .sl sz xs none _ off cap vs hp hw (by rw[o8];simp;omega) (λk x y hx hy=>?_) (λt ht=>by simp at ht) Om;rw[o8,Qn]at hx;split at hx
   .rw[Qk]at hx
    exact hr _ x y hx hy
   .simp at hx
 .simp only
  rw[qax _ _ _ _ e];exact hj.mono u6
theorem zep{l:List Oper}(i:Nat){x r:AV}(hi:s.t i=x)(hw:∀G v,Rel G x v->Rel G r v)(h:AOps E rd N ops l K ⟨Av.put s.t i r,s.st,s.df⟩):AOps E rd N ops l K s:=
 ⟨λB0 w0 G a w hL hI Q hQ=>h.run B0 w0 G a w hL ⟨hI.agree,hI.defers,hI.size,λj y hy=>by
  have hj:=hI.tmps j y hy;by_cases e:j=i
  .subst e;simp only[xx];rw[hi]at hj;exact hw G y hj
  .simp only;rw[qax _ _ _ _ e];exact hj⟩ Q hQ⟩
theorem qyp{P:Program}{t e:TypeId}{sz:Nat}{agg:Bool}(hu:P.underlying t=some (.slice e))(ht:tyOf P e=some (sz,agg))(a:Option Addr)(len cap:Nat)(lo hi:Option Value)(i j:Nat)(w:World)
  (fg:match lo with|none=>i=0|some v=>∃k,v=.int k (i:Int)) (cn:match hi with|none=>j=len|some v=>(∃k,v=.int k (j:Int))∧j<=cap) (h1:i<=j):
  (Instr.slice t (.slice a len cap) lo hi none).run P w=.ok (.slice (if cap=i then a else a.map (·.add (i*sz))) (j-i) (cap-i)) w:=by
 have hs:=(vp ht w).1
 cases lo with
 |none=>
  simp only at fg;subst fg
  cases hi with
  |none=>
   simp only at cn;subst cn
   simp[Instr.slice,run_underlying hu,Instr.sliceBounds,hs]
  |some v=>
   obtain⟨⟨k,rfl⟩,h2⟩:=cn
   simp[Instr.slice,run_underlying hu,Instr.sliceBounds,Instr.sliceBound,asIntOf,hs,h2]
 |some u=>
  obtain⟨k',rfl⟩:=fg
  cases hi with
  |none=>
   simp only at cn;subst cn
   simp[Instr.slice,run_underlying hu,Instr.sliceBounds,Instr.sliceBound,asIntOf,hs,h1]
  |some v=>
   obtain⟨⟨k,rfl⟩,h2⟩:=cn;simp[Instr.slice,run_underlying hu,Instr.sliceBounds,Instr.sliceBound,asIntOf,hs,h1,h2]
theorem qyk{G:Gh}{sz:Nat}{xs:List AV}{tip:Option Nat}{a:Option Addr}{len cap:Nat}(h:Rel G (.sl sz xs tip) (.slice a len cap)){i j:Nat}(h1:i<=j)(h2:j<=xs.length):
  len=xs.length∧len<=cap∧Rel G (.sl sz ((xs.take j).drop i) none) (.slice (if cap=i then a else a.map (·.add (i*sz))) (j-i) (cap-i)):=by
 cases h with
 |sl0=>
  simp at h2;subst h2;have:i=0:=Om
  subst this;refine⟨rfl,Zk _,?_⟩;simp
  exact .sl0 sz none _ _ Sx
 |sl _ _ _ b off cap pub hp hw d5 hr ht r6=>
  refine⟨rfl,r6,?_⟩;have hl:((xs.take j).drop i).length=j-i:=So
  by_cases dw:j=i
  .subst dw
   have e:(xs.take j).drop j=[]:=Zh.1 (by rw[hl];omega);rw[e,Nat.sub_self];exact .sl0 sz none _ _ Sx
  .have b9:cap≠i:=by omega
   rw[if_neg b9];simp only[Zx];have bc:Addr.add ⟨b,off,none⟩ (i*sz)=⟨b,off+i*sz,none⟩:=Addr.add_lit ..;rw[bc,<-hl];have p8:∀x∈(xs.take j).drop i,x.cells.length=sz:=λx hx=>hw x (Zo (List.mem_of_mem_drop hx));have nt:(flat xs).length=xs.length*sz:=zv hw
   have cd:flat xs=flat (xs.take i)++flat ((xs.take j).drop i)++flat (xs.drop j):=by
    have e:xs.take i++(xs.take j).drop i=xs.take j:=by
     conv=>rhs;rw[<-Zn i (xs.take j),List.take_take,Zj h1]
    rw[<-yr,<-yr,e,Zn]
   have hti:(flat (xs.take i)).length=i*sz:=by
    rw[zv (λx hx=>hw x (Zo hx)),List.length_take,Zj Om]
   have hmid:(flat ((xs.take j).drop i)).length=(j-i)*sz:=by rw[zv p8,hl]
   refine .sl sz _ none b (off+i*sz) (cap-i) pub hp p8 ?_ (λk x y hx hy=>?_) (λt ht=>by simp at ht) (by rw[hl];omega)
   .have:=congrArg Zl cd
    simp only[Qa]at this;omega
   .refine hr (i*sz+k) x y ?_ (by rw[<-hy];congr 1;omega)
    have hk:=lt_of_getElem? hx;rw[cd,Qe,Qj Om,hti,Nat.add_sub_cancel_left,Qc hk];exact hx
theorem q8o{x:Operand}{t e:TypeId}{lo hi:Option Operand}{sz:Nat}{agg:Bool}{xs ys:List AV}{tip:Option Nat}{i j:Nat}(hx:ql N s x=.sl sz xs tip)(hu:E.P.underlying t=some (.slice e))(ht:tyOf E.P e=some (sz,agg))
  (fg:match lo with|none=>i=0|some y=>∃k,ql N s y=.v (.int k (i:Int))) (cn:match hi with|none=>j=xs.length|some y=>∃k,ql N s y=.v (.int k (j:Int))) (h1:i<=j) (h2:j<=xs.length) (hy:(xs.take j).drop i=ys)
  (h:AOps E rd N ops rest K (s.put d (.sl sz ys none))):AOps E rd N ops (⟨d,.slice t x lo hi none,T,p,af,none⟩::rest) K s:=by
 subst hy;refine q9 rfl (q8 nofun λB0 w0 G a w _ hI=>?_);have he:=hI.eval_of hx;generalize hv:a.eval x=v at he;have fm:∃b len cap,v=.slice b len cap:=by cases he<;>exact⟨_,_,_,rfl⟩
 obtain⟨b,len,cap,rfl⟩:=fm;obtain⟨hl,hlc,hr⟩:=qyk he h1 h2;refine⟨_,w,G,_,s.st,?_,.refl G,hI.agree,hr,h⟩
 have a8:=qyp hu ht b len cap (lo.map a.eval) (hi.map a.eval) i j w (by
  cases lo with
  |none=>exact fg
  |some y=>obtain⟨k,hy⟩:=fg;exact⟨k,hI.evalv hy⟩) (by
  cases hi with
  |none=>simp only at cn;simp only[Option.map_none];omega
  |some y=>obtain⟨k,hy⟩:=cn;exact⟨⟨k,hI.evalv hy⟩,Om⟩) h1
 generalize a.eval=ρ at hv a8;simp only[execOp,hv];simp[Instr.sliceAt,run_underlying hu,a8]
theorem qib{x y:Operand}{t e:TypeId}{sz:Nat}{agg:Bool}{xs ys:List AV}{tip:Option Nat}{k:IntKind}{i:Nat}(hx:ql N s x=.sl sz xs tip)(hy:ql N s y=.v (.int k (i:Int)))(hu:E.P.underlying t=some (.slice e))(ht:tyOf E.P e=some (sz,agg))(h1:i<=xs.length)(hz:xs.drop i=ys)
  (h:AOps E rd N ops rest K (s.put d (.sl sz ys none))):AOps E rd N ops (⟨d,.slice t x (some y) none none,T,p,af,none⟩::rest) K s:=
 q8o (i:=i) (j:=xs.length) hx hu ht ⟨k,hy⟩ rfl h1 (Qb _) (by rw[List.take_length];exact hz) h
end
end Go.Av
namespace Go.Av
open Go Go.RowKit
inductive Vec (sz:Nat) (T:TypeId) (o:Nat) (xs:List AV):AV->AObj->Prop
 |nil (h:xs=[]):Vec sz T o xs zm (.tip 0 sz T)
 |os (ver cap:Nat) (pad:List AV) (hl:(flat xs++pad).length=cap*sz) (hw:∀x∈xs,x.cells.length=sz) (d7:xs.length<=cap) (rf:cap<=maxLen):Vec sz T o xs (.os o ver 0 xs.length cap) (.cells ver T (flat xs++pad))
section
variable {B0 : Nat} {w0 : World} {G : Gh} {st : List AObj} {w : World}
theorem zl.setCells(h:zl B0 w0 G st w){t k cap v':Nat}{T:TypeId}{cs:List AV}(ht:st[t]?=some .dead)(hraw:(G.ob t).raw=false)(cj:(G.ob t).ver<v')
  {c:Array Value} (hc:w.heap[k]?=some (.cells c T (0,0))) (hp:G.pub k=none) (hl:cs.length=c.size) (hr:∀(i:Nat)(x:AV)(y:Value),cs[i]?=some x->c[i]?=some y->Rel G x y) (hk:B0<=k) (hs:∀o x,st[o]?=some x->x.live->(G.ob o).blk≠k):
  G.le (G.setOb t ⟨v',k,cap,false⟩)∧zl B0 w0 (G.setOb t ⟨v',k,cap,false⟩) (st.set t (.cells v' T cs)) w:=by
 have d7:=G.le_setOb t ⟨v',k,cap,false⟩ cj hraw;have fx:∀o,o≠t->(G.setOb t ⟨v',k,cap,false⟩).ob o=G.ob o:=λo ho=>by simp[Gh.setOb,ho]
 have cw:(G.setOb t ⟨v',k,cap,false⟩).ob t=⟨v',k,cap,false⟩:=by simp[Gh.setOb]
 refine⟨d7,h.below,h.hB,by simp[h.n,Gh.setOb],h.pub,λo x hx=>?_,λo o' x x' b9 hx i4 br pm=>?_⟩
 .rcases getElem?_set' _ _ _ _ _ hx with⟨rfl,rfl⟩|⟨ho,hx⟩
  .exact⟨by rw[cw],by rw[cw],by rw[cw];exact hk,by rw[cw];exact hp,c,by rw[cw];exact hc,hl,λi x y h1 h2=>(hr i x y h1 h2).mono d7⟩
  .exact(h.ob o x hx).mono d7 (fx o ho) (λ_=>rfl) (λ_=>rfl)
 .rcases getElem?_set' _ _ _ _ _ hx with⟨e1,e2⟩|⟨ho,hx⟩
  .rcases getElem?_set' _ _ _ _ _ i4 with⟨e3,_⟩|⟨e8,i4⟩
   .exact absurd (e1.trans e3.symm) b9
   .rw[e1,cw,fx o' e8]
    exact(hs o' x' i4 pm).symm
  .rcases getElem?_set' _ _ _ _ _ i4 with⟨e3,_⟩|⟨e8,i4⟩
   .rw[e3,cw,fx o ho]
    exact hs o x hx br
   .rw[fx o ho,fx o' e8]
    exact h.sep o o' x x' b9 hx i4 br pm
theorem qby{G:Gh}{cs ds:List AV}{vs us:List Value}(hl:cs.length=vs.length)(h1:∀(i:Nat)(x:AV)(y:Value),cs[i]?=some x->vs[i]?=some y->Rel G x y)(h2:∀(i:Nat)(x:AV)(y:Value),ds[i]?=some x->us[i]?=some y->Rel G x y):
  ∀(i:Nat)(x:AV)(y:Value),(cs++ds)[i]?=some x->(vs++us)[i]?=some y->Rel G x y:=λi x y hx hy=>by
 by_cases hi:i<cs.length
 .rw[Qc hi]at hx
  rw[Qc Om]at hy;exact h1 i x y hx hy
 .rw[Qj Om]at hx
  rw[Qj Om,<-hl]at hy;exact h2 _ x y hx hy
theorem qp7{P:Program}(hA:zl B0 w0 G st w){tt u ty T:TypeId}{du:TypeDesc}(htt:P.underlying tt=some (.slice T))(hu:P.underlying u=some du)(hd:qk5 du)
  {sz bytes:Nat} (hT:y0 P T sz bytes) {o:Nat} {xs ys:List AV} {a:AV} {ob:AObj} {v x:Value} (hV:Vec sz T o xs a ob) (ho:st[o]?=some ob) (hv:Rel G a v)
  {news:List Value} (hx:Src P w x ys.length sz news) (hys:∀y∈ys,y.cells.length=sz) (i6:∀(i:Nat)(a:AV)(b:Value),(flat ys)[i]?=some a->news[i]?=some b->Rel G a b)
  (u7:xs.length+ys.length<=maxLen) (gz:(xs.length+ys.length)*bytes<=140737488355328):
  ∃v' w' G' a' ob',(Builtin.append_ #[tt,u] ty #[v,x]).run P w=.ok v' w'∧G.le G'∧zl B0 w0 G' (st.set o ob') w'∧Rel G' a' v'∧Vec sz T o (xs++ys) a' ob':=by
 obtain⟨i,z,hi,hz,rfl,rfl,pj⟩:=hT.ex;have gv:=lt_of_getElem? ho;have htn:o<G.n:=by rw[hA.n];exact gv
 have hraw:(G.ob o).raw=false:=by
  have:=hA.ob o _ ho
  cases hV with
  |nil h=>exact this.1
  |os=>exact this.1
 have hk:=hA.kill o;have rk:(st.set o .dead)[o]?=some .dead:=qbc ho
 have o9:∀k x,(st.set o .dead)[k]?=some x->x.live->k≠o∧st[k]?=some x:=λk x hx hl=>by
  rcases getElem?_set' _ _ _ _ _ hx with⟨_,e⟩|⟨h1,h2⟩
  .subst e;exact hl.elim
  .exact⟨h1,h2⟩
 have o7:st.set o ob=st:=by
  apply Qy;intro k;by_cases e:o=k
  .subst e;rw[Zb gv];exact ho.symm
  .rw[Qi e]
 have hfy:(flat ys).length=ys.length*i.size:=zv hys
 have grow:∀(base:Option Addr)(c:Nat)(olds:List Value),(Builtin.firstCells i.size xs.length (.slice base xs.length c)).run P w.drew=.ok olds.toArray w.drew->c<xs.length+ys.length->olds.length=xs.length*i.size->(∀x∈xs,x.cells.length=i.size)->
   (∀(j:Nat)(a:AV)(b:Value),(flat xs)[j]?=some a->olds[j]?=some b->Rel G a b)->Builtin.nextslicecap (xs.length+ys.length) c*i.bytes<=281474976710656->
   ∃v' w' G' a' ob',(Builtin.append_ #[tt,u] ty #[.slice base xs.length c,x]).run P w=.ok v' w'∧G.le G'∧zl B0 w0 G' (st.set o ob') w'∧Rel G' a' v'∧Vec i.size T o (xs++ys) a' ob':=by
  intro base c olds i5 hc mw hwx hrx i9;have nt:(flat xs).length=xs.length*i.size:=zv hwx;have a8:=qh5 (ty:=ty) htt hu hd hi hz hx base xs.length c olds i5 hc (by simp only[maxLen]at u7;omega) i9;have ft:=grownCap_ge w (xs.length+ys.length) c T;have d7:=grownCap_le_maxLen w (xs.length+ys.length) c T u7;generalize grownCap w (xs.length+ys.length) c T=cap at a8 ft d7;generalize hzc:(Builtin.zeroCells z.cells (cap-(xs.length+ys.length)))=zc at a8;have hzl:zc.size=(cap-(xs.length+ys.length))*i.size:=by rw[<-hzc,size_zeroCells,pj]
  have bv:Below w.heap.size w w.drew:=⟨rfl,rfl,rfl,Qb _,λ_ _=>rfl⟩
  have gr:(flat (xs++ys)++zc.toList.map AV.v).length=(olds.toArray++news.toArray++zc).size:=by
   rw[yr];simp[nt,hfy,mw,hx.count];omega
  have gw:=(hk.fresh bv).fresh (w':=w.drew.alloc (.cells (olds.toArray++news.toArray++zc) T)) ⟨rfl,rfl,rfl,by simp[World.alloc],λb hb=>qa1 _ _ _ hb⟩
  have hnp:G.pub w.heap.size=none:=by
   cases hp:G.pub w.heap.size with
   |none=>rfl
   |some vs=>exact absurd (hA.pub_lt hp) (Xc _)
  obtain⟨bp,mb⟩:=gw.setCells (t:=o) (k:=w.heap.size) (cap:=0) (v':=(G.ob o).ver+1) (T:=T) (cs:=flat (xs++ys)++zc.toList.map AV.v) rk hraw (Nat.lt_succ_self _) (y5 w.drew _) hnp gr (by
   have h1:=qby (G:=G) (cs:=flat xs) (ds:=flat ys) (vs:=olds) (us:=news) Om hrx i6
   have h2:=qby (G:=G) (cs:=flat xs++flat ys) (ds:=zc.toList.map AV.v) (vs:=olds++news) (us:=zc.toList) (by simp[nt,hfy,mw,hx.count]) h1 (λj a b h1 h2=>by
    rw[Qs,h2]at h1;simp at h1;subst h1
    exact .v _)
   rw[yr];intro j a b g1 g2
   exact h2 j a b g1 (by rw[<-g2];simp[<-Zc])) hA.hB (λk x hx hl=>by
   obtain⟨_,i4⟩:=o9 k x hx hl
   exact Xe ((hA.ob k x i4).lt hl))
  rw[Zs]at mb;refine⟨_,_,_,_,_,a8,bp,mb,.os o ((G.ob o).ver+1) 0 (xs.length+ys.length) w.heap.size cap (by simpa[Gh.setOb]using htn) (by simp[Gh.setOb]) (λ_=>by simp[Gh.setOb]),?_⟩
  have:=Vec.os (o:=o) (T:=T) (xs:=xs++ys) ((G.ob o).ver+1) cap (zc.toList.map AV.v) (sz:=i.size) (by
   have h1:zc.toList.length=(cap-(xs.length+ys.length))*i.size:=by rw[<-hzl];simp
   rw[Qa,yr,Qa,nt,hfy,Qh,h1,<-Qx,<-Qx];congr 1
   omega) (λy hy=>by
   rcases Qz.1 hy with h|h
   .exact hwx y h
   .exact hys y h) (by simpa using ft) d7
  rw[Qa]at this;exact this
 cases hV with
 |nil h=>
  subst h
  cases hv with
  |v _=>
  by_cases ln:ys.length=0
  .have sg:ys=[]:=Qg ln
   subst sg;have gn:news=[]:=Qg (by simpa using hx.count);subst gn;exact⟨_,_,G,_,_,qdo htt hu hd hi hx none 0 0 (Qb _),.refl G,by rw[o7];exact hA,.v _,.nil Sx⟩
  .exact grow none 0 [] (by simp[run_firstCells_none]) So Sx Sx (by simp[flat]) (by
    simp only[Qm,Qt]at gz⊢;rw[nextslicecap_zero Om]
    omega)
 |os ver cap pad hl hw d7 rf=>
  obtain⟨g0,g1,g2,g3,c,g4,g5,g6⟩:=hA.ob o _ ho;have nt:(flat xs).length=xs.length*i.size:=zv hw
  cases hv with
  |os _ _ _ _ b _ hn dk hb=>
  have hb:=hb g1;subst hb;have sr:c.size=cap*i.size:=by rw[<-g5,hl]
  by_cases ln:ys.length=0
  .have sg:ys=[]:=Qg ln
   subst sg;have gn:news=[]:=Qg (by simpa using hx.count);subst gn;exact⟨_,_,G,_,_,qdo htt hu hd hi hx _ xs.length cap d7,.refl G,by rw[o7];exact hA,.os _ _ _ _ _ _ hn dk (λ_=>rfl),by rw[Zd];exact .os ver cap pad hl hw d7 rf⟩
  .by_cases p7:xs.length+ys.length<=cap
   .have hmul:(xs.length+ys.length)*i.size<=cap*i.size:=Ql _ p7
    rw[Qx]at hmul;have i9:xs.length*i.size+news.length<=c.size:=by rw[hx.count,sr];omega
    have a8:=qlr (ty:=ty) htt hu hd hi hx (G.ob o).blk xs.length cap c g4 p7 i9
    have dx:pad.length=cap*i.size-xs.length*i.size:=by
     have:=hl;rw[Qa,nt]at this;omega
    have mb:=hA.setRow (cs':=flat (xs++ys)++pad.drop (ys.length*i.size)) (c':=(c.toList.take (xs.length*i.size)++news++c.toList.drop (xs.length*i.size+news.length)).toArray) ho (by
     rw[yr];simp[nt,hfy,hx.count,dx,sr,Zj d7]
     omega) (by
     have e1:∀(j:Nat)(a:AV)(b:Value),(flat xs)[j]?=some a->(c.toList.take (xs.length*i.size))[j]?=some b->Rel G a b:=λj a b h1 h2=>by
      have hj:=lt_of_getElem? h1;rw[Qu Om]at h2;exact g6 j a b (by rw[Qc hj];exact h1) (by simpa using h2)
     have e2:=qby (G:=G) (cs:=flat xs) (ds:=flat ys) (vs:=c.toList.take (xs.length*i.size)) (us:=news) So e1 i6
     have e3:=qby (G:=G) (cs:=flat xs++flat ys) (ds:=pad.drop (ys.length*i.size)) (vs:=c.toList.take (xs.length*i.size)++news) (us:=c.toList.drop (xs.length*i.size+news.length)) (by
      simp[nt,hfy,hx.count]
      omega) e2 (λj a b h1 h2=>by
      rw[Qk]at h1 h2;refine g6 (xs.length*i.size+news.length+j) a b ?_ (by simpa using h2);rw[Qj (by rw[nt];omega),nt,<-h1,hx.count];congr 1
      omega)
     rw[yr];intro j a b h1 h2
     exact e3 j a b h1 (by simpa using h2))
    refine⟨_,_,G,_,_,a8,.refl G,mb,.os o ver 0 (xs.length+ys.length) _ cap hn dk (λ_=>rfl),?_⟩
    have:=Vec.os (o:=o) (T:=T) (xs:=xs++ys) ver cap (pad.drop (ys.length*i.size)) (sz:=i.size) (by
     rw[Qa,yr,Qa,nt,hfy,List.length_drop,dx]
     omega) (λy hy=>by
     rcases Qz.1 hy with h|h
     .exact hw y h
     .exact hys y h) (by simpa using p7) rf
    rw[Qa]at this;exact this
   .refine grow (some ⟨(G.ob o).blk,0,none⟩) cap (c.toList.take (xs.length*i.size)) ?_ Om (by
     have:xs.length*i.size<=cap*i.size:=Ql _ d7;simp
     omega) hw (λj a b h1 h2=>?_) (growslice_fits Om gz)
    .refine run_firstCells_some w.drew i.size xs.length ⟨(G.ob o).blk,0,none⟩ xs.length cap _ (by
      have:xs.length*i.size<=cap*i.size:=Ql _ d7;simp
      omega) λj y hy=>?_
     have e1':w.drew.heap[(G.ob o).blk]?=some (.cells c T (0,0)):=g4;rw[Addr.add_lit];rw[Qn]at hy;split at hy
     .simp only[Zc]at hy
      simp[World.cell?,e1',hy]
     .simp at hy
    .have hj:=lt_of_getElem? h1
     rw[Qu Om]at h2;exact g6 j a b (by rw[Qc hj];exact h1) (by simpa using h2)
end
section
variable {E : Env} {rd : Option Nat} {N : Nat} {ops : Array Oper} {K : AS → Prop} {s : AS} {rest : List Oper} {d : Option Tmp} {T : TypeId} {p : String} {af : Array Edge}
theorem q4e{x y:Operand}{t u T':TypeId}{sz bytes o:Nat}{xs ys:List AV}{tip:Option Nat}{a:AV}{ob:AObj}(hx:ql N s x=a)(hy:ql N s y=.sl sz ys tip)(hV:Vec sz T' o xs a ob)(ho:s.st[o]?=some ob)
  (ht:E.P.underlying t=some (.slice T')) (hu:E.P.underlying u=some (.slice T')) (hT:y0 E.P T' sz bytes) (m9:kc (flat ys)=true) (u7:xs.length+ys.length<=maxLen) (hb:(xs.length+ys.length)*bytes<=140737488355328)
  (h:∀a' ob',Vec sz T' o (xs++ys) a' ob'->AOps E rd N ops rest K (AS.put ⟨s.t,s.st.set o ob',s.df⟩ d a')):AOps E rd N ops (⟨d,.call ⟨.builtin .append,#[x,y],#[t,u]⟩,T,p,af,none⟩::rest) K s:=by
 refine q9 rfl (q8 nofun λB0 w0 G a0 w _ hI=>?_);obtain⟨news,h1,h2,h3⟩:=qap (P:=E.P) hI.agree (hI.eval_of hy) (by simpa[kc]using m9);obtain⟨v',w',G',a',ob',e1,e2,e3,e4,e5⟩:=qp7 (ty:=T) hI.agree ht hu (.inr ⟨_,rfl⟩) hT hV ho (hI.eval_of hx) h1 h2 h3 u7 hb;refine⟨v',w',G',_,_,?_,e2,e3,e4,h a' ob' e5⟩;generalize a0.eval=ρ at e1;simp[execOp,resolve,invoke,builtin,e1]
theorem q8f{sz:Nat}{T:TypeId}{o:Nat}{xs:List AV}{a:AV}{ob:AObj}(h:Vec sz T o xs a ob):(xs=[]∧a=zm∧ob=.tip 0 sz T)∨∃ver cap pad,a=.os o ver 0 xs.length cap∧ob=.cells ver T (flat xs++pad)∧(flat xs++pad).length=cap*sz∧(∀x∈xs,x.cells.length=sz)∧xs.length<=cap∧cap<=maxLen:=by
 cases h with
 |nil h=>exact .inl ⟨h,rfl,rfl⟩
 |os ver cap pad h1 h2 h3 h4=>exact .inr ⟨ver,cap,pad,rfl,rfl,h1,h2,h3,h4⟩
theorem qu0{sz:Nat}:∀{xs:List AV}{i:Nat}{x:AV},(∀x∈xs,x.cells.length=sz)->x.cells.length=sz->i<xs.length->∀pad,z4 (flat xs++pad) (0+i*sz) x.cells=flat (xs.set i x)++pad
 | [],_,_,_,_,h,_=>by simp at h
 |y::xs,0,x,hw,hx,_,pad=>by
  have hy:=hw y Sx;simp only[List.set_cons_zero,qcp,z4,Nat.zero_mul,Qt,List.take_zero,List.nil_append,hx];rw[Qe,Zf Om,<-hy,List.drop_length]
  simp
 |y::xs,i+1,x,hw,hx,h,pad=>by
  have hy:=hw y Sx;have ih:=qu0 (xs:=xs) (i:=i) (x:=x) (λz hz=>hw z (by simp[hz])) hx (by simpa using h) pad;simp only[Zt,qcp,z4,Qt]at ih⊢;have e:(i+1)*sz=y.cells.length+i*sz:=by rw[Qx,hy];omega
  simp only[Qe]at ih⊢;rw[e,List.take_length_add_append,show y.cells.length+i*sz+x.cells.length=y.cells.length+(i*sz+x.cells.length)by omega,List.drop_length_add_append];simp only[Qe];rw[ih]
theorem zn3{sz:Nat}{T:TypeId}{o ver cap:Nat}{xs pad:List AV}(hl:(flat xs++pad).length=cap*sz)(hw:∀x∈xs,x.cells.length=sz)(d7:xs.length<=cap)(rf:cap<=maxLen){i:Nat}{x:AV}(hx:x.cells.length=sz)(hi:i<xs.length):
  Vec sz T o (xs.set i x) (.os o ver 0 xs.length cap) (.cells ver T (z4 (flat xs++pad) (0+i*sz) x.cells)):=by
 rw[qu0 hw hx hi]
 have p8:∀y∈xs.set i x,y.cells.length=sz:=λy hy=>by
  rcases List.mem_or_eq_of_mem_set hy with h|rfl
  .exact hw y h
  .exact hx
 have:=Vec.os (o:=o) (T:=T) (xs:=xs.set i x) ver cap pad (sz:=sz) (by
  rw[Qa]at hl⊢;rw[zv p8,Zy,<-zv hw]
  exact hl) p8 (by simpa using d7) rf
 rw[Zy]at this;exact this
theorem zbx{sz:Nat}{xs pad:List AV}(hw:∀x∈xs,x.cells.length=sz){i:Nat}{x:AV}(hi:xs[i]?=some x):((flat xs++pad).drop (i*sz)).take sz=x.cells:=by
 have d9:=lt_of_getElem? hi;have hx:=hw x (Zp hi);apply Qy;intro j;rw[Qn];by_cases hj:j<sz
 .rw[if_pos hj,Qk,<-qot hw hi j hj]
  have d7:(i+1)*sz<=xs.length*sz:=Ql _ d9;rw[Nat.succ_mul]at d7;rw[Qc (by rw[zv hw];omega)]
 .rw[if_neg hj,List.getElem?_eq_none Om]
end
structure Chg (N:Nat) (s s':AS):Prop where
 run:∀(B0:Nat)(w0:World)(G:Gh)(a:Act)(w:World),Inv B0 w0 N G s a w->∃G',G.le G'∧Inv B0 w0 N G' s' a w
theorem Chg.trans{N:Nat}{s s' s'':AS}(h:Chg N s s')(k:Chg N s' s''):Chg N s s'':=⟨λB0 w0 G a w hI=>let ⟨G1,h1,h2⟩:=h.run B0 w0 G a w hI;let ⟨G2,k1,k2⟩:=k.run B0 w0 G1 a w h2;⟨G2,h1.trans k1,k2⟩⟩
section
variable {E : Env} {rd : Option Nat} {N : Nat} {ops : Array Oper} {K : AS → Prop} {s s' : AS}
theorem zik{fn:Func}{R:AV->List AObj->Prop}(hc:Chg fn.ntmps s s')(h:ARet E fn R s'):ARet E fn R s:=
 ⟨λB0 w0 G a w hL hI R2 mq=>let ⟨G1,h1,h2⟩:=hc.run B0 w0 G a w hI;h.run B0 w0 G1 a w hL h2 R2 λv G' r st' w' hG k1 k2 k3=>mq v G' r st' w' (h1.trans hG) k1 k2 k3⟩
theorem zix(i:Nat){x r:AV}(hi:s.t i=x)(hw:∀G v,Rel G x v->Rel G r v):Chg N s ⟨Av.put s.t i r,s.st,s.df⟩:=
 ⟨λB0 w0 G a w hI=>⟨G,.refl G,hI.agree,hI.defers,hI.size,λj y hy=>by
  have hj:=hI.tmps j y hy;by_cases e:j=i
  .subst e;simp only[xx];rw[hi]at hj;exact hw G y hj
  .simp only;rw[qax _ _ _ _ e];exact hj⟩⟩
theorem ziw(o:Nat):Chg N s ⟨s.t,s.st.set o .dead,s.df⟩:=⟨λB0 w0 G a w hI=>⟨G,.refl G,hI.agree.kill o,hI.defers,hI.size,hI.tmps⟩⟩
theorem zco(i:Nat){sz o:Nat}{T':TypeId}{xs:List AV}{v:AV}{ob:AObj}(hi:s.t i=v)(hV:Vec sz T' o xs v ob)(ho:s.st[o]?=some ob):Chg N s ⟨Av.put s.t i (.sl sz xs none),s.st.set o .dead,s.df⟩:=by
 cases hV with
 |nil hx=>
  subst hx
  exact(zix i hi (λ_ _ h=>qcw h)).trans (ziw o)
 |os ver cap pad hl hw d7 rf=>
  have hm:xs.length*sz<=cap*sz:=Ql _ d7;refine⟨λ_ _ _ _ _ hI=>hI.osPub hi ho rfl d7 hw Om ?_⟩;rw[List.drop_zero,List.take_append_of_le_length (by rw[zv hw];exact Qb _),List.take_of_length_le (by rw[zv hw];exact Qb _)]
theorem q8y(i:Nat){sz k:Nat}{T':TypeId}{xs:List AV}{v:AV}{ob:AObj}{st loc ext new:List AObj}(hs:s.st=((st++loc)++ext)++new)(hi:s.t i=v)(hV:Vec sz T' (st.length+k) xs v ob)(ho:loc[k]?=some ob):Chg N s ⟨Av.put s.t i (.sl sz xs none),((st++loc.set k .dead)++ext)++new,s.df⟩:=by
 have:=zco (N:=N) i hi hV (by rw[hs];exact qb1 ho);rw[hs,qfr _ (lt_of_getElem? ho)]at this;exact this
theorem q21{rest:List Oper}{d:Option Tmp}{T:TypeId}{p:String}{af:Array Edge}{x y:Operand}{t u T':TypeId}{sz bytes k:Nat}{xs ys:List AV}{tip:Option Nat}{a:AV}{ob:AObj}{st loc ext new:List AObj}(hs:s.st=((st++loc)++ext)++new)(hx:ql N s x=a)(hy:ql N s y=.sl sz ys tip)(hV:Vec sz T' (st.length+k) xs a ob)(ho:loc[k]?=some ob)
  (ht:E.P.underlying t=some (.slice T')) (hu:E.P.underlying u=some (.slice T')) (hT:y0 E.P T' sz bytes) (m9:kc (flat ys)=true) (u7:xs.length+ys.length<=maxLen) (hb:(xs.length+ys.length)*bytes<=140737488355328)
  (h:∀a' ob',Vec sz T' (st.length+k) (xs++ys) a' ob'->AOps E rd N ops rest K (AS.put ⟨s.t,((st++loc.set k ob')++ext)++new,s.df⟩ d a')):AOps E rd N ops (⟨d,.call ⟨.builtin .append,#[x,y],#[t,u]⟩,T,p,af,none⟩::rest) K s:=
 q4e hx hy hV (by rw[hs];exact qb1 ho) ht hu hT m9 u7 hb λa' ob' hV'=>by rw[hs,qfr _ (lt_of_getElem? ho)];exact h a' ob' hV'
end
end Go.Av
namespace Go.Proofs.YtlekheifonaipaaGreatDoor
open Go Go.Av Go.RowKit Go.Proofs Go.Pl
theorem zhm(text:List UInt8)(o kb ver n:Nat)(I:Nat->List UInt8->List AObj->Prop)(D:List AObj->Prop)(st l0:List AObj)(ht:text.length<4294967281)(h0:I 0 text l0)
  (hI:∀k rest l,I k rest l->l.length=n∧(st++l)[kb]?=some (.cells ver 9 [Sv text]))
  (hY:∀k rest l own ext,I k rest l->rest≠[]->rest.length<=text.length->yz E o [qff k text rest] (st++(l++own::ext)) λb st2=>∃l' ext',st2=st++(l'++own::ext')∧(b=true->I (k+1) (past 10 rest) l')∧(b=false->D l'∧l'.length=n)):
  qp E 154 [.yd o,.bx kb ver 0] (st++l0) λr st'=>∃l own ext',st'=st++(l++own::ext')∧((∃k,I k [] l)∨D l):=by
 refine qq Tryz.func154 rfl (Qd rfl) ?_;obtain⟨hn,hb⟩:=hI 0 text l0 h0;repeat' (first|apply qo|apply qy|apply qf|apply qh|apply qg|(apply j7;rfl;rfl)|(apply jc;(iterate 11 rfl))|(apply yf;rfl;rfl;rfl)|(apply qbk;rfl;rfl;exact hb;rfl;rfl))
 refine jr (λ(x:Nat×List UInt8)s=>match x with|(k,rest)=>∃l at' ta eb ext,I k rest l∧k+rest.length<=text.length∧at'=(text.length:Int)-rest.length∧StA [(0,.yd o),(1,.bx kb ver 0),(3,.bx ((st++l0).length+0) 0 0),(4,Sv rest)] ((st++l)++(.cells 0 206 [Iv k,Iv at',Sv ta,Bv eb]::ext)) [] s) (λx=>x.2.length) (0,text)
  ⟨l0,0,[],false,[],h0,Sx,Sx,?_⟩ ?_
 .exact z6 ⟨rfl,rfl,rfl,rfl,trivial⟩
 rintro⟨k,rest⟩ _ ⟨l,_,ta,eb,ext,hi,d7,rfl,t,rfl⟩;obtain⟨nw,gb⟩:=hI k rest l hi;have hq:(st++l).length=(st++l0).length:=by simp[hn,nw]
 repeat' (first|apply qo|apply qy|apply qf|apply qh|apply qj|apply qg|(apply zf;rfl;rfl)|(apply jp;rfl;rfl;rfl)|(apply qc;rfl;apply cd_d<;>intro h)|(apply zk;rfl;rfl;rfl)|apply qv|apply z7|(apply qk;exact Tryz.call104;exact qlb _ _ _ Om)|(apply qci;rfl;exact hq;(iterate 10 rfl))|(apply qdg;rfl;exact hq;rfl;rfl;rfl;rfl))
 .refine qdf rfl (q8r (Qe st l (_::ext)).symm ((hY k rest l _ ext hi h Om).mono ?_))
  rintro b _ ⟨l',ext',rfl,h1,h2⟩
  cases b
  .skip
   rw[<-Qe];repeat' (first|apply qh|(apply ja;rfl)|(apply qc;rfl;apply qi3;exact cRa)|apply qu)
   refine qn rfl (y3 rfl) ⟨l',_,ext',Qe _ _ _,.inr (h2 rfl).1⟩
  .have hi3:=h1 rfl
   obtain⟨hn3,gc⟩:=hI _ _ _ hi3;have hp:=vm 10 rest;have hr0:0<rest.length:=Qo.2 h;have hq3:(st++l').length=(st++l0).length:=by simp[hn,hn3]
   rw[<-Qe];repeat' (first|apply qo|apply qf|apply qh|apply qj|(apply ja;rfl)|(apply qc;rfl;apply qi2;exact cRa)|(apply zr;rfl;rfl;rfl)|(apply zn;rfl;rfl;exact q6 Om Om)|(apply wx;rfl;rfl;exact q6 Om Om)|(apply zk;rfl;rfl;rfl)|apply qv|(apply qbk;rfl;rfl;exact gc;rfl;rfl)|(apply qci;rfl;exact hq3;(iterate 10 rfl))|(apply qdg;rfl;exact hq3;rfl;rfl;rfl;rfl))
   exact⟨(k+1,past 10 rest),⟨l',_,_,_,_,hi3,Om,rfl,z6 ⟨rfl,rfl,rfl,rfl,trivial⟩⟩,by simp only;omega⟩
 .have hr:rest=[]:=Classical.not_not.1 h
  subst hr;exact qn rfl (y3 rfl) ⟨l,_,ext,Qe _ _ _,.inl ⟨k,hi⟩⟩
theorem qze{N:Nat}{Q:Exit->AS->Prop}{s:AS}{f:Operand}{p:Tmp}{asg body:Code}{st loc:List AObj}{kb ver:Nat}(text:List UInt8)(e7:s.st=st++loc)(hx:ql N s f=.fn (.func 154) [] [.bx (st.length+kb) ver 0])(ht:text.length<4294967281)
  (I:Nat->List UInt8->List AObj->Prop) (D:Code->List AObj->Prop) (h0:I 0 text loc)
  (hI:∀k rest l,I k rest l->l.length=loc.length∧l[kb]?=some (.cells ver 9 [Sv text])) (hD:∀c l,D c l->l.length=loc.length)
  (hb:∀F own rd k rest l ext m,qlw F N s.t #[p] asg body->I k rest l->rest≠[]->rest.length<=text.length->((st++(l++[.dfr,F .ready none,own]))++ext).length=m->((st++(l++[.dfr,F .busy none,own]))++ext).length=m->
   AWp E (some rd) N asg (only λs1=>∃new,s1.st=((st++(l++[.dfr,F .ready none,own]))++ext)++new∧s1.df=[]∧AWp E (some rd) N body (zhc F st own (I (k+1) (past 10 rest)) D) ⟨s1.t,((st++(l++[.dfr,F .busy none,own]))++ext)++new,[]⟩) ⟨put s.t p (qff k text rest),((st++(l++[.dfr,F .ready none,own]))++ext)++[],[]⟩)
  (hn:∀k l ext,I k [] l->Q .normal ⟨s.t,((st++(l++[.dfr,.dead]))++ext)++[],(st.length+loc.length)::s.df⟩)
  (hd:∀c l ext,D c l->AWp E none N c Q ⟨s.t,((st++(l++[.dfr,.dead]))++ext)++[],(st.length+loc.length)::s.df⟩):AWp E none N (.rangeFunc f #[p] asg body) Q s:=by
 refine qkg e7 hx Tryz.call154 λF hF=>?_;refine qp.mono (zhm text (st.length+(loc.length+1)) (st.length+kb) ver (loc.length+2) (λk rest l=>∃l1,l=l1++[.dfr,F .ready none]∧I k rest l1) (λl=>∃l1 c,l=l1++[.dfr,F .done (some c)]∧D c l1) st (loc++[.dfr,F .ready none]) ht ⟨loc,rfl,h0⟩ ?_ ?_) ?_
 .rintro k rest _ ⟨l,rfl,hi⟩
  obtain⟨h1,h2⟩:=hI k rest l hi;exact⟨by simp[h1],j9 (by rw[Qc (lt_of_getElem? h2)];exact h2)⟩
 .rintro k rest _ own ext ⟨l,rfl,hi⟩ b9 d7
  obtain⟨h1,h2⟩:=hI k rest l hi;have hy:=zim (E:=E) (st:=st) (l:=l) (ext:=ext) (own:=own) (n:=loc.length) (xs:=[qff k text rest]) (I:=I (k+1) (past 10 rest)) (D:=D) hF h1 rfl (λl hl=>(hI _ _ l hl).1) hD (λrd=>hb F own rd k rest l ext _ hF hi b9 d7 rfl Sx);have e:(st++(l++[.dfr,F .ready none,own]))++ext=st++((l++[.dfr,F .ready none])++own::ext):=Sx
  rw[e]at hy;refine hy.mono ?_;rintro b st2 ⟨l',ext',g1,g2⟩
  cases b with
  |true=>
   obtain⟨rfl,g⟩:=g1 rfl
   exact⟨l'++[.dfr,F .ready none],ext',Sx,λ_=>⟨l',rfl,g⟩,nofun⟩
  |false=>
   obtain⟨c,rfl,g⟩:=g2 rfl;exact⟨l'++[.dfr,F .done (some c)],ext',Sx,nofun,λ_=>⟨⟨l',c,rfl,g⟩,by simp[hD c l' g]⟩⟩
 .rintro r _ ⟨_,own,ext,rfl,⟨k,l,rfl,hi⟩|⟨l,c,rfl,hdl⟩⟩
  .have h1:=(hI _ _ _ hi).1
   have e:st++((l++[.dfr,F .ready none])++own::ext)=(st++(l++[.dfr,F .ready none,own]))++ext:=Sx
   rw[e];refine⟨.ready,none,nofun,qex h1,?_⟩;rw[qhb h1];have:=hn k l (own::ext) hi
   simpa using this
  .have h1:=hD _ _ hdl
   have e:st++((l++[.dfr,F .done (some c)])++own::ext)=(st++(l++[.dfr,F .done (some c),own]))++ext:=Sx
   rw[e];refine⟨.done,some c,nofun,qex h1,?_⟩;rw[qhb h1];have:=hd c l (own::ext) hdl
   simpa using this
abbrev Ss(xs:List qa):AV:=.sl 1 (xs.map λx=>Sv x) none
theorem qlu(l m:List UInt8)(st:List AObj):qp E 106 [Sv l,Sv m] st λr st'=>r=Sv (Lib.trimPrefix l m)∧st'=st:=
 qay (vals:= #[.string ⟨l.toArray⟩,.string ⟨m.toArray⟩]) rfl λ_ _ w _ _=>(Tryz.strings_TrimPrefix ⟨l.toArray⟩ ⟨m.toArray⟩ w).mono λ_ _ ⟨h1,h2⟩=>⟨h1,qfx h2⟩
theorem zbw(l:List UInt8)(c:UInt8)(st:List AObj):qp E 106 [Sv l,Sv [c]] st λr st'=>r=Sv (w8 c l)∧st'=st:=by
 rw[<-q0e];exact qlu _ _ _
theorem zeb{B0:Nat}{w0:World}{G:Gh}{st:List AObj}{w:World}(hA:zl B0 w0 G st w){xs:List qa}{tip:Option Nat}{v:Value}(h:Rel G (.sl 1 (xs.map λx=>Sv x) tip) v):
  (xs=[]∧∃a c,v=.slice a 0 c)∨∃b off cap,v=.slice (some ⟨b,off,none⟩) xs.length cap∧b<w.heap.size∧xs.length<=cap∧∀(j:Nat)(x:qa),xs[j]?=some x->w.cell? ⟨b,off+j,none⟩=some (.string ⟨x.toArray⟩):=by
 generalize hq:xs.map (λx=>Sv x)=q at h
 cases h with
 |sl0 sz tip base cap ht=>exact .inl ⟨by simpa using hq,base,cap,rfl⟩
 |sl _ _ _ b off cap pub hp hw d5 hr ht r6=>
  subst hq;obtain⟨c,T,fz,hc,sn⟩:=hA.pub b pub hp;refine .inr ⟨b,off,cap,Sx,hA.pub_lt hp,by simpa using r6,λj x hx=>?_⟩
  have o8:flat (xs.map λx=>Sv x)=xs.map λx=>Sv x:=by
   clear hx hr d5 hw ht r6
   induction xs with
   |nil=>rfl
   |cons a xs ih=>rw[Qq,qcp,ih];rfl
  have hj:=lt_of_getElem? hx;rw[o8]at d5;simp only[Qh]at d5;have hy:pub[off+j]?=some (pub[off+j]'(by omega)):=Qv Om;have hrj:=hr j (Sv x) _ (by rw[o8,Qs,hx];rfl) hy;generalize hz:pub[off+j]'(by omega)=z at hrj hy;generalize hSx:Sv x=sx at hrj
  cases hrj<;>simp_all
  subst_vars
  simp[World.cell?,hc,sn _ _ hy]
theorem zf4(xs:List qa)(tip:Option Nat)(sep:qa)(st:List AObj)(hN:xs.length<=140737488355328)(hl:(Lib.join xs sep).length<=140737488355328):qp E 118 [.sl 1 (xs.map λx=>Sv x) tip,Sv sep] st λr st'=>r=Sv (Lib.join xs sep)∧st'=st:=by
 refine⟨λB0 w0 G vs w hL hA hR=>?_⟩;have hs:vs.size=2:=by have:=hR.1;simpa using this.symm
 have e0:vs[0]?=some vs[0]:=by simp[hs]
 have e1:vs[1]?=some vs[1]:=by simp[hs]
 have h0:=hR.2 0 _ _ rfl e0;have h1:=hR.2 1 _ _ rfl e1;have hv1:vs[1]=.string ⟨sep.toArray⟩:=by generalize vs[1]=y at h1;cases h1;rfl
 have hvs:vs= #[vs[0],.string ⟨sep.toArray⟩]:=by
  apply Array.ext (by simp[hs]);intro i g1 g2
  match i with
  |0=>rfl
  |1=>exact hv1
  |i+2=>simp[hs]at g1;omega
 rw[hvs];rcases zeb hA h0 with⟨hx,a,c,hv⟩|⟨b,off,cap,hv,hb,r6,db⟩
 .rw[hv]
  subst hx;refine(Tryz.strings_Join_none a c ⟨sep.toArray⟩ w).mono ?_;rintro e w' ⟨rfl,rfl⟩;exact⟨_,G,Sv [],st,rfl,.refl G,hA,.v _,rfl,rfl⟩
 .rw[hv]
  have hm:(xs.map λl:qa=>(⟨l.toArray⟩:ByteArray)).map (·.data.toList)=xs:=by simp[Zu,Function.comp_def]
  have hc:=Tryz.strings_Join b off cap (xs.map λl=>⟨l.toArray⟩) ⟨sep.toArray⟩ w (λj x hx=>by
   rw[Qs]at hx
   cases hq:xs[j]?with
   |none=>rw[hq]at hx;simp at hx
   |some y=>rw[hq]at hx;simp at hx;subst hx;exact db j y hq) hb (by simpa using hN) (by simpa using r6) (by rw[hm];simpa using hl)
  rw[hm]at hc;simp only[Qh]at hc;refine hc.mono ?_;rintro e w' ⟨rfl,hbw⟩;exact⟨_,G,Sv _,st,rfl,.refl G,hA.fresh hbw,.v _,rfl,rfl⟩
def Weak(x r:AV):Prop:=∀(G:Gh)(v:Value),Rel G x v->Rel G r v
theorem qc0(x:AV):Weak x x:=λ_ _ h=>h
theorem qp5(sz:Nat)(xs:List AV)(tip:Option Nat):Weak (.sl sz xs tip) (.sl sz xs none):=λ_ _ h=>qmt h
theorem qh6(sz:Nat):Weak zm (.sl sz [] none):=λ_ _ h=>qcw h
theorem qgs{x y x' y':AV}(h1:Weak x x')(h2:Weak y y'):Weak (.tu [x,y]) (.tu [x',y']):=λG v h=>by
 cases h with
 |tu _ vs hl hr=>
  refine .tu _ vs hl λi a b ha hb=>?_
  match i with
  |0=>simp at ha;subst ha;exact h1 G b (hr 0 x b rfl hb)
  |1=>simp at ha;subst ha;exact h2 G b (hr 1 y b rfl hb)
  |i+2=>simp at ha
theorem zn4{xs ys:List AV}(hl:xs.length=ys.length)(h:∀(i:Nat)(x y:AV),xs[i]?=some x->ys[i]?=some y->Weak x y):Weak (.ag xs) (.ag ys):=λG v hr=>by
 cases hr with
 |ag _ vs bj hr=>
  refine .ag _ vs Om λi a b ha hb=>?_;have hi:=lt_of_getElem? ha;exact h i _ a (Qv Om) ha G b (hr i _ b (Qv Om) hb)
theorem zcc{fn:Func}{s:AS}{t u:Tmp}{x y x' y':AV}(hr:fn.results= #[.tmp t,.tmp u])(hx:ql fn.ntmps s (.tmp t)=x)(hy:ql fn.ntmps s (.tmp u)=y)(h1:Weak x x')(h2:Weak y y'):ARes E fn s (.tu [x',y']):=
 ya (kw hr) (by rw[hx,hy];exact qgs h1 h2)
def errN(n:Int):AV:=if n=0 then .v .nilIface else .ifc 61 (Iv n)
theorem qmc(n:Int):Pure (errN n):=by
 unfold errN;split
 .exact qr _
 .exact qd2 (qr _)
theorem qns{n:Int}(h:n≠0):errN n=.ifc 61 (Iv n):=if_neg h
theorem qtq(f:FldV)(st:List AObj)(hl:f.1.length<4294967281):qp E 170 [fldA f] st λr st'=>r=errN (vj f)∧st'=st:=by
 refine qz (qmc _) (qq Tryz.func170 rfl (Qd rfl) ?_);repeat' (first|apply qo|apply qy|apply qf|apply qh|apply qg|(apply qt;rfl;rfl;rfl)|(apply ja;rfl)|(apply qc;rfl;apply cd_n<;>intro h)|(apply qc;rfl;apply cd_d<;>intro h)|(apply zr;rfl;rfl;rfl)|(apply vr;rfl;rfl)|(apply qb4;rfl;rfl;rfl;rfl)|(apply zk;rfl;rfl;rfl)|(apply jt;(iterate 5 rfl))|apply qv|apply qu|(apply qk;exact Tryz.call200;exact zlp _ _ hl))
 all_goals refine qn rfl (q5 rfl) ⟨(?_:_=_),_,rfl⟩
 .have e:vj f=5:=if_pos (by simp_all)
  rw[e];rfl
 .have e:vj f=6:=(if_neg (by simp_all)).trans (if_pos Om)
  rw[e];rfl
 .have e:vj f=0:=(if_neg (by simp_all)).trans (if_neg Om)
  rw[e];rfl
theorem qlh(f:FldV)(st:List AObj)(hl:f.1.length<4294967281)(h:vj f=0):qp E 170 [fldA f] st λr st'=>r=.v .nilIface∧st'=st:=by
 have:=qtq f st hl;rw[h]at this;exact this
theorem qli(f:FldV)(st:List AObj)(hl:f.1.length<4294967281)(h:vj f≠0):qp E 170 [fldA f] st λr st'=>r=.ifc 61 (Iv (vj f))∧st'=st:=by
 have:=qtq f st hl;rw[qns h]at this;exact this
theorem zht(s:List UInt8)(st:List AObj)(hl:s.length<4294967281):qp E 172 [Sv s] st λr st'=>r=Sv (wn s)∧st'=st:=by
 refine qz (qr _) (qq Tryz.func172 rfl (Qd rfl) ?_);have hb:Lib.trimS s [32,9]=[]↔qc2 s:=by rw[qsc];simp[wy,qc2]
 repeat' (first|apply qo|apply qf|apply qh|apply qj|apply qg|(apply jp;rfl;rfl;rfl)|(apply qw;rfl;rfl;rfl;rfl)|(apply wg;exact cAo)|(apply wj;exact cAo)|(apply jo<;>intro h)|(apply qi;rfl;apply w6;exact cAo)|(apply qi;rfl;apply wu;exact cAo)|(apply qc;rfl;apply cd_t;exact cRa)|(apply qc;rfl;apply cd_d<;>intro h)|(apply jz;rfl;rfl;exact cOs)|apply qv|apply qu|(apply qk;exact Tryz.call198;exact q0d _ _ _ Om rfl rfl)|(apply qk;exact Tryz.call155;exact qhv _ _ _))
 all_goals refine qn rfl (q5 rfl) ⟨congrArg (λl:qa=>Sv l) (?_:_=wn s),_,rfl⟩
 all_goals unfold wn
 all_goals simp_all
theorem qnz(xs:List qa):Pure (Ss xs):=zgw xs
theorem zd6(l p:qa)(r:List qa)(st:List AObj)(hl:l.length<4294967281)(h:za l=p::r):qp E 171 [Sv l,Sv [10]] st λx st'=>x=.sl 1 (Sv p::r.map λx=>Sv x) none∧st'=st:=by
 have:=zhl l st hl;rw[h]at this;exact this
def qlj(f:FldV):AV:=.tu [Ss (if vj f=0 then zp f else []),errN (vj f)]
theorem q9b(f:FldV):Pure (qlj f):=qei λx hx=>by
 simp only[Qp,Qw,or_false]at hx;rcases hx with rfl|rfl
 .exact qnz _
 .exact qmc _
set_option maxHeartbeats 2000000 in
theorem qtr(f:FldV)(st:List AObj)(hl:f.1.length<4294967281)(hv:f.2.length<1000000):qp E 114 [fldA f] st λr st'=>r=qlj f∧st'=st:=by
 refine qz (q9b _) (qq Tryz.func114 rfl (Qd rfl) ?_);by_cases hc:vj f=0
 .obtain⟨p,r,hp⟩:∃p r,za f.2=p::r:=⟨_,_,qpk f.2⟩
  have dx:p.length<=f.2.length:=qf3 f.2 p (by rw[hp];simp);have dg:∀x∈r,x.length<=f.2.length:=λx hx=>qf3 f.2 x (by rw[hp];simp[hx]);have hrn:r.length<=f.2.length:=by have:=qdd _ f.2 (Qb _);rw[hp]at this;simpa using this
  repeat' (first|(apply qb5;(iterate 6 rfl))|(apply q0r;(iterate 5 rfl);kernel_rfl)|apply qo|apply qy|apply qf|apply qh|apply qj|apply qg|(apply jp;rfl;rfl;rfl)|(apply qc;rfl;apply cd_f;exact cRa)|(apply qc;rfl;apply cd_d<;>intro h)|(apply jk;rfl;rfl;rfl;rfl)|(apply jz;rfl;rfl;exact cOs)|(apply wh;rfl;rfl)|(apply qb4;rfl;rfl;rfl;rfl)|(apply zk;rfl;rfl;rfl)|(apply jq;rfl;rfl;rfl)|(apply jt;(iterate 5 rfl))|(apply jc;(iterate 11 rfl))|(apply qib;rfl;rfl;rfl;rfl;(first|assumption|omega|exact Nat.succ_le_succ (Zk _)|(simp;omega));rfl)|apply qfv|(apply qjn;rfl;rfl;exact cOs)|(apply qe9;rfl;rfl;rfl)|(apply qm1;(iterate 5 rfl))|apply qea|apply qv|(apply qk;exact Tryz.call170;exact qlh _ _ hl hc)|(apply qk;exact Tryz.call171;exact zd6 _ _ _ _ Om hp)|(apply kp (n:=0);(iterate 6 rfl))|(apply qdh (n:=0);(iterate 6 rfl))|(apply ql1 (n:=0);(iterate 5 rfl);omega))
  all_goals refine zex 6 (o:=st.length+1) (sz:=1) (len:=1) (cap:=1) (xs:=[Sv (kl f.1 p)]) (T':=9) rfl (j9 rfl) rfl rfl Om (Qb _) (by decide) (by simp[AV.cells]) ?_ ?_
  .exact congrArg (λl:qa=>[Sv l]) (by unfold kl;rw[if_neg h]:kl f.1 p=f.1++[58]++([32]++p))
  rotate_left
  .exact congrArg (λl:qa=>[Sv l]) (by unfold kl;rw[if_pos (Classical.not_not.1 h),Zd]:kl f.1 p=f.1++[58])
  all_goals
   have tx:qlj f=.tu [Ss (kl f.1 p::r.map λs=>[32]++wn s),.v .nilIface]:=by
    unfold qlj zp;rw[if_pos hc,hc,hp];rfl
   rw[tx];have e7:∀s,(wn s).length<=s.length+1:=q2r;refine qck r (λpre s=>StE [(6,.sl 1 (Sv (kl f.1 p)::pre.map (λs=>Sv ([32]++wn s))) (some (st.length+1))),(35,.sl 1 (r.map λx=>Sv x) none),(36,Iv r.length),(37,Iv pre.length)] st [.cells 0 40 [Sv f.1,Sv f.2],.tip (pre.length+1) 1 9] s) (qek ⟨rfl,rfl,congrArg (λn:Nat=>Iv (n:Int)) (Qh ..),rfl,trivial⟩ (y7 st _ 1 _)) ?_ ?_
   .rintro _ ⟨t,ext,rfl⟩
    repeat' (first|apply qo|apply qf|apply qh|apply qj|apply qg|(apply qt;rfl;rfl;rfl)|(apply qc;rfl;apply vq;exact cAo)|apply z7|apply qu)
    refine qn rfl (zcc rfl rfl rfl (qp5 _ _ _) (qc0 _)) ⟨?_,qa0 _ _ _ _⟩;simp only[Ss,Qq,Zu];rfl
   .rintro pre a rest _ hr ⟨t,ext,rfl⟩
    have d5:r.length=pre.length+(rest.length+1):=by rw[hr];simp
    have d8:(r.map λx=>Sv x)[pre.length]?=some (Sv a):=by rw[hr];simp
    have ha:a.length<=f.2.length:=dg a (by rw[hr];simp);have hsa:=e7 a;repeat' (first|apply qo|apply qy|apply qf|apply qh|apply qj|apply qg|(apply qt;rfl;rfl;rfl)|(apply qc;rfl;apply va;exact cAo)|(apply jz;rfl;rfl;exact cOs)|(apply zn;rfl;rfl;exact q6 Om Om)|(apply jq;rfl;rfl;rfl)|(apply wi;(iterate 9 rfl))|apply qv|(apply qk;exact Tryz.call172;exact zht _ _ Om)|(apply kp (n:=pre.length);(iterate 5 rfl);exact d8)|(apply qhj (n:=pre.length+1) (m:=1) (sz:=1) (bytes:=16);rfl;rfl;rfl;rfl;simp;rfl;rfl;exact⟨⟨_,_,rfl,rfl,rfl,rfl,rfl⟩⟩;rfl;rfl;(unfold maxLen;omega);omega;rfl))
    refine qbq ⟨?_,rfl,rfl,?_,trivial⟩ ?_
    .exact zk7 _ (λs=>Sv ([32]++wn s)) pre a _ rfl
    .exact qii pre a
    .rw[qd6 pre a];rfl
 .skip
  repeat' (first|apply qo|apply qf|apply qh|apply qj|apply qg|(apply qc;rfl;apply cd_t;exact cRa)|(apply xi;rfl;rfl)|(apply qb4;rfl;rfl;rfl;rfl)|(apply jt;(iterate 5 rfl))|apply qu|(apply qk;exact Tryz.call170;exact qli _ _ hl hc))
  refine qn rfl (ya (r':=.tu [Ss [],.ifc 61 (Iv (vj f))]) (kw rfl) (qgs (qh6 _) (qc0 _))) ⟨?_,_,rfl⟩;unfold qlj;rw[if_neg hc,qns hc]
theorem qiv{rd:Option Nat}{N:Nat}{ops:Array Oper}{K:AS->Prop}{s:AS}{rest:List Oper}{d:Option Tmp}{T:TypeId}{p:String}{af:Array Edge}{st loc:List AObj}(e7:s.st=st++loc)
  (h:AOps E rd N ops rest K (AS.put ⟨s.t,st++(loc++[bldO 0 (.v (.pointer none)) [] (st.length+(loc.length+1)),.tip 0 1 5]),s.df⟩ d (.bx (st.length+loc.length) 0 0))):AOps E rd N ops (⟨d,.alloc 154,T,p,af,none⟩::rest) K s:=by
 refine j7 e7 rfl ?_;have e:∀(t:Nat->AV)(st':List AObj)(df:List Nat)(x:AV),(AS.put ⟨t,st',df⟩ d x).st=st':=λt st' df x=>by cases d<;>rfl
 have e2:∀(t:Nat->AV)(st' st2:List AObj)(df:List Nat)(x:AV),(⟨(AS.put ⟨t,st',df⟩ d x).t,st2,(AS.put ⟨t,st',df⟩ d x).df⟩:AS)=AS.put ⟨t,st2,df⟩ d x:=λt st' st2 df x=>by cases d<;>rfl
 refine q4n (o:=st.length+loc.length) (j:=1) (sz:=1) (T':=5) (T1:=154) (ver:=0) (cs:=[.v (.pointer none),zm]) ?_ rfl ?_
 .rw[e,<-Qe,Qj Sx]
  simp;rfl
 .rw[e,e2]
  have hx:(st++(loc++[AObj.cells 0 154 [.v (.pointer none),zm]])).set (st.length+loc.length) (.cells 0 154 ([AV.v (.pointer none),zm].set 1 (.sl 1 [] (some (st++(loc++[AObj.cells 0 154 [.v (.pointer none),zm]])).length))))++[AObj.tip 0 1 5]
    =st++(loc++[bldO 0 (.v (.pointer none)) [] (st.length+(loc.length+1)),.tip 0 1 5]):=by
   rw[y7,Qe,List.set_append_right _ _ (Qb _)];simp
  have h':=h;rw[<-hx]at h';exact h'
theorem qkh(st loc ext new loc':List AObj)(k kt ver:Nat)(q:AV)(l m:List UInt8)(hk:loc[k]?=some (bldO ver q l (st.length+kt)))(rk:loc[kt]?=some (.tip l.length 1 5))(hq:q=.v (.pointer none)∨q=.bx (st.length+k) ver 0)
  (d5:l.length+m.length<=140737488355328) (hl:loc'=(loc.set k (bldO ver (.bx (st.length+k) ver 0) (l++m) (st.length+kt))).set kt (.tip (l++m).length 1 5)):
  qp E 69 [.bx (st.length+k) ver 0,Sv m] (((st++loc)++ext)++new) λr st'=>r=.tu [Iv m.length,.v .nilIface]∧st'=((st++loc')++ext)++new:=by
 refine(q4t (st.length+k) ver (st.length+kt) q l m _ (qb1 hk) (qb1 rk) hq d5).mono λr st' ⟨h1,h2⟩=>⟨h1,?_⟩;have bn:=lt_of_getElem? hk;have s8:=lt_of_getElem? rk;rw[h2,qfr _ bn,qfr _ (by simpa using s8),hl,Qa]
theorem qiy(st loc ext new loc':List AObj)(k kt ver:Nat)(q:AV)(l:List UInt8)(hk:loc[k]?=some (bldO ver q l (st.length+kt)))(rk:loc[kt]?=some (.tip l.length 1 5))(hl:loc'=loc.set kt .dead):
  qp E 72 [.bx (st.length+k) ver 0] (((st++loc)++ext)++new) λr st'=>r=Sv l∧st'=((st++loc')++ext)++new:=by
 refine(q0t (st.length+k) ver (st.length+kt) q l _ (qb1 hk) (qb1 rk)).mono λr st' ⟨h1,h2⟩=>⟨h1,?_⟩;rw[h2,qfr _ (lt_of_getElem? rk),hl]
theorem qvq:∀(r:List qa),(zj (r.map λs=>[32]++wn s)).length<=3*(r.flatMap λs=>[10]++s).length
 | []=>by simp[zj]
 |a::r=>by
  have ih:=qvq r;have:=q2r a;simp only[zj,Qq,Qr,Qa,Qf,Qm]at ih⊢;omega
theorem qaq(a b:List qa):zj (a++b)=zj a++zj b:=by simp[zj]
theorem qj0(s:qa):zj [s]=s++[10]:=by simp[zj]
theorem qnh:∀(l:List qa),l.length<=(zj l).length
 | []=>by simp
 |a::r=>by
  have ih:=qnh r;simp only[zj,Qr,Qa,Qf,Qm]at ih⊢;omega
theorem q1k(a b:List Fld):zy (a++b)=zy a++zy b:=by simp[zy]
theorem q1l(f:Fld):zy [f]=zj (zp f):=by simp[zy]
theorem qxt{f:Fld}(h:kh f):(zj (zp f)).length<=5000:=by
 obtain⟨hk,hv⟩:=h;have h1:=qvq (za f.2).tail;have h2:=congrArg Zl (qks _ f.2 (Qb _))
 have h3:(kl f.1 ((za f.2).headD [])).length<=32+2+((za f.2).headD []).length:=by
  have:=hk.2.1;unfold kl;split <;>simp <;>omega
 have e:zp f=[kl f.1 ((za f.2).headD [])]++(za f.2).tail.map λs=>[32]++wn s:=rfl;rw[e,qaq,qj0];simp only[Qa,Qf,Qm]at h2⊢;omega
theorem qgy:∀(xs:List Fld),(∀f∈xs,kh f)->(zy xs).length<=5000*xs.length
 | [],_=>by simp[zy]
 |f::r,h=>by
  have ih:=qgy r λx hx=>h x (by simp[hx]);have h1:=qxt (h f Sx);have e:zy (f::r)=zj (zp f)++zy r:=by simp[zy]
  rw[e,Qa,Qf];omega
def errF:List Fld->Int
 | []=>0
 |f::r=>if vj f≠0 then vj f else errF r
theorem qq6:∀(xs:List Fld),errF xs=0↔∀f∈xs,kh f
 | []=>by simp[errF]
 |f::r=>by
  have ih:=qq6 r;unfold errF;by_cases h:vj f≠0
  .rw[if_pos h]
   have hg:¬kh f:=λhg=>h ((qc3 f).2 hg);simp[h,hg]
  .have hg:=(qc3 f).1 (Classical.not_not.1 h)
   rw[if_neg h,ih];simp[hg]
theorem zao:∀{pre:List Fld}{f:Fld}{r:List Fld},(∀x∈pre,kh x)->vj f≠0->errF (pre++f::r)=vj f
 | [],f,r,_,h=>by simp[errF,h]
 |x::pre,f,r,hp,h=>by
  have:=(qc3 x).2 (hp x Sx);simp only[Zg,errF,this];rw[if_neg Sx];exact zao (λy hy=>hp y (by simp[hy])) h
theorem q5r(f:FldV)(st:List AObj)(hl:f.1.length<4294967281)(hv:f.2.length<1000000)(h:vj f=0):qp E 114 [fldA f] st λr st'=>r=.tu [Ss (zp f),.v .nilIface]∧st'=st:=by
 have:=qtr f st hl hv;unfold qlj at this;rw[if_pos h,h]at this;exact this
theorem q5s(f:FldV)(st:List AObj)(hl:f.1.length<4294967281)(hv:f.2.length<1000000)(h:vj f≠0):qp E 114 [fldA f] st λr st'=>r=.tu [Ss [],.ifc 61 (Iv (vj f))]∧st'=st:=by
 have:=qtr f st hl hv;unfold qlj at this;rw[if_neg h,qns h]at this;exact this
def qxg(xs:List Fld):AV:=.tu [Sv (if errF xs=0 then zy xs else []),errN (errF xs)]
theorem zc3(xs:List Fld):Pure (qxg xs):=qei λx hx=>by
 simp only[Qp,Qw,or_false]at hx;rcases hx with rfl|rfl
 .exact qr _
 .exact qmc _
structure q3k (xs:List FldV):Prop where
 len:xs.length<1000000
 val:∀f∈xs,f.1.length<4294967281∧f.2.length<1000000
set_option maxHeartbeats 2000000 in
theorem zoo(xs:List FldV)(st:List AObj)(hx:q3k xs):qp E 68 [jd xs] st λr st'=>r=qxg xs∧st'=st:=by
 refine qz (zc3 _) (qq Tryz.func68 rfl (Qd rfl) ?_);have hxl:=hx.len;repeat' (first|(apply qiv;rfl)|apply qo|apply qy|apply qf|apply qh|apply qj|apply qg|(apply jk;rfl;rfl;rfl;rfl))
 refine qck xs (λpre s=>(∀f∈pre,kh f)∧∃q,(q=.v (.pointer none)∨q=.bx (st.length+0) 0 0)∧StE [(4,.bx (st.length+0) 0 0),(11,jd xs),(12,Iv xs.length),(13,Iv pre.length)] st [bldO 0 q (zy pre) (st.length+1),.tip (zy pre).length 1 5] s) ⟨Sx,_,.inl rfl,qek ⟨rfl,rfl,congrArg (λn:Nat=>Iv (n:Int)) (Qh ..),rfl,trivial⟩ rfl⟩ ?_ ?_
 .rintro _ ⟨hg,q,hq,t,ext,rfl⟩
  repeat' (first|apply qo|apply qf|apply qh|apply qg|(apply qt;rfl;rfl;rfl)|(apply qc;rfl;apply vq;exact cAo)|apply z7|apply qu|(refine qk Tryz.call72 (qiy st _ _ _ _ 0 1 0 _ _ rfl rfl rfl) ?_))
  refine qn rfl (kw rfl) ⟨?_,qa0 _ _ _ _⟩;unfold qxg;have h0:=(qq6 xs).2 hg;rw[if_pos h0,h0];rfl
 .rintro pre f rest _ hr ⟨hg,q,hq,t,ext,rfl⟩
  have d5:xs.length=pre.length+(rest.length+1):=by rw[hr];simp
  have d8:(xs.map fldA)[pre.length]?=some (fldA f):=by rw[hr];simp
  obtain⟨mf,hf2⟩:=hx.val f (by rw[hr];simp);by_cases hc:vj f=0
  .have hgf:=(qc3 f).1 hc
   have p9:=qgy pre hg;have t8:=qxt hgf;repeat' (first|apply qo|apply qy|apply qf|apply qh|apply qj|apply qg|(apply zf;rfl;rfl)|(apply qt;rfl;rfl;rfl)|(apply qc;rfl;apply va;exact cAo)|(apply qc;rfl;apply cd_f;exact cRa)|(apply jk;rfl;rfl;rfl;rfl)|(apply wh;rfl;rfl)|(apply j7;rfl;rfl)|(apply jq;rfl;rfl;rfl)|(apply jt;(iterate 5 rfl))|(apply jc;(iterate 11 rfl))|apply qv|(apply qk;exact Tryz.call114;exact q5r _ _ mf hf2 hc)|(apply kp (n:=pre.length);(iterate 5 rfl);exact d8))
   refine qck (zp f) (λlp s=>∃q,(q=.v (.pointer none)∨q=.bx (st.length+0) 0 0)∧StE [(4,.bx (st.length+0) 0 0),(11,jd xs),(12,Iv xs.length),(13,Iv pre.length),(25,Ss (zp f)),(26,Iv (zp f).length),(27,Iv lp.length)] st [bldO 0 q (zy pre++zj lp) (st.length+1),.tip (zy pre++zj lp).length 1 5] s) ⟨_,hq,qbq ⟨rfl,rfl,rfl,rfl,rfl,congrArg (λn:Nat=>Iv (n:Int)) (Qh ..),rfl,trivial⟩ (by simp[zj])⟩ ?_ ?_
   .rintro _ ⟨q,hq,t,ext,rfl⟩
    repeat' (first|apply qo|apply qf|apply qh|apply qj|(apply qt;rfl;rfl;rfl)|(apply qc;rfl;apply vq;exact cAo)|(apply zn;rfl;rfl;exact q6 Om Om)|apply z7)
    refine⟨λx hx=>?_,q,hq,qbq ⟨rfl,rfl,rfl,?_,trivial⟩ ?_⟩
    .rcases Qz.1 hx with hx|hx
     .exact hg x hx
     .simp at hx;subst hx;exact hgf
    .rw[qd6 pre f];rfl
    .rw[q1k,q1l]
   .rintro lp a lr _ hlr ⟨q,hq,t,ext,rfl⟩
    have hlen2:(zp f).length=lp.length+(lr.length+1):=by rw[hlr];simp
    have hget2:((zp f).map λx=>Sv x)[lp.length]?=some (Sv a):=by rw[hlr];simp
    have gc:(zj lp).length+(a.length+1)<=5000:=by
     rw[hlr,qaq]at t8;have:a::lr=[a]++lr:=rfl;rw[this,qaq,qj0]at t8;simp only[Qa,Qf,Qm]at t8;omega
    have hct:=qnh lp;repeat' (first|apply qo|apply qy|apply qf|apply qh|apply qj|apply qg|(apply qt;rfl;rfl;rfl)|(apply qc;rfl;apply va;exact cAo)|(apply jz;rfl;rfl;exact cOs)|(apply jq;rfl;rfl;rfl)|apply qv|(apply kp (n:=lp.length);(iterate 5 rfl);exact hget2))
    refine qk Tryz.call69 (qkh st _ _ _ _ 0 1 0 _ _ _ rfl rfl ?_ ?_ rfl) ?_;(exact hq);(simp only[Qa,Qf,Qm];omega);repeat' (first|apply qf|apply qh|apply qj|(apply zn;rfl;rfl;exact q6 Om Om))
    refine⟨_,.inr rfl,qbq ⟨rfl,rfl,rfl,rfl,rfl,rfl,?_,trivial⟩ ?_⟩
    .rw[qd6 lp a];rfl
    .have e:zy pre++zj (lp++[a])=(zy pre++zj lp)++(a++[10]):=by rw[qaq,qj0,Qe]
     rw[e];rfl
  .skip
   repeat' (first|apply qo|apply qy|apply qf|apply qh|apply qj|apply qg|(apply zf;rfl;rfl)|(apply qt;rfl;rfl;rfl)|(apply qc;rfl;apply va;exact cAo)|(apply qc;rfl;apply cd_t;exact cRa)|(apply xi;rfl;rfl)|(apply j7;rfl;rfl)|(apply jq;rfl;rfl;rfl)|(apply jt;(iterate 5 rfl))|(apply jc;(iterate 11 rfl))|apply qv|apply qu|(apply qk;exact Tryz.call114;exact q5s _ _ mf hf2 hc)|(apply kp (n:=pre.length);(iterate 5 rfl);exact d8))
   refine qn rfl (kw rfl) ⟨?_,qa0 _ _ _ _⟩;unfold qxg;have h0:errF xs=vj f:=by rw[hr];exact zao hg hc
   rw[h0,if_neg hc,qns hc];rfl
theorem q17:∀(n:Nat)(l:qa),l.length<=n->za (l++[10])=za l++[[]]
 |n,l,hn=>by
  by_cases h:10∈l
  .have b9:l≠[]:=λe=>by subst e;simp at h
   have d9:=xq (c:=10) b9
   cases n with
   |zero=>omega
   |succ n=>
    have ih:=q17 n (past 10 l) Om;have e:=wo h;have e2:l++[10]=upto 10 l++10::(past 10 l++[10]):=(congrArg (· ++[10]) e).trans Sx;rw[qab (by simp[h]),qab h,e2,v8 _ (yy 10 l),xw _ (yy 10 l),ih];rfl
  .rw[qab Sx,qac h,v8 [] h,xw [] h]
   rw[qac Sx];rfl
theorem qfk:∀(n:Nat)(l:qa)(c:UInt8),l.length<=n->c≠10->za (l++[c])=(za l).set ((za l).length-1) ((za l).getD ((za l).length-1) []++[c])
 |n,l,c,hn,hc=>by
  by_cases h:10∈l
  .have b9:l≠[]:=λe=>by subst e;simp at h
   have d9:=xq (c:=10) b9
   cases n with
   |zero=>omega
   |succ n=>
    have ih:=qfk n (past 10 l) c Om hc;have e:=wo h;have e2:l++[c]=upto 10 l++10::(past 10 l++[c]):=(congrArg (· ++[c]) e).trans Sx;have hp:=qh1 (past 10 l);have dx:0<(za (past 10 l)).length:=Qo.2 hp;rw[qab (by simp[h]),qab h,e2,v8 _ (yy 10 l),xw _ (yy 10 l),ih];have e3:(upto 10 l::za (past 10 l)).length-1=(za (past 10 l)).length-1+1:=So
    rw[e3,Zt];simp
  .have h2:10∉l++[c]:=by simp[h,Ne.symm hc]
   rw[qac h,qac h2];simp
theorem q9k(l:qa):(za l).length<=l.length+1:=qdd _ l (Qb _)
theorem zhs(xs:List qa):flat (xs.map λx=>Sv x)=xs.map λx=>Sv x:=by
 induction xs with
 |nil=>rfl
 |cons a xs ih=>rw[Qq,qcp,ih];rfl
set_option maxHeartbeats 2000000 in
theorem zdx(l:qa)(st:List AObj)(hl:l.length<1000000):qp E 149 [Sv l] st λr st'=>r=Ss (za l)∧st'=st:=by
 refine qz (qnz _) (qq Tryz.func149 rfl (Qd rfl) ?_)
 have h0:Vec 1 9 (st.length+0) ((za []).map λx=>Sv x) (.os (st.length+0) 0 0 1 1) (.cells 0 9 [Sv []]):=by
  rw[qac Sx];exact .os 0 1 [] rfl (by simp[AV.cells]) (Qb _) (by decide)
 repeat' (first|(apply qb5;(iterate 6 rfl))|apply qo|apply qy|apply qf|apply qh|apply qg)
 refine qck l (λpre s=>∃v ob,Vec 1 9 (st.length+0) ((za pre).map λx=>Sv x) v ob∧StE [(0,Sv l),(3,v),(4,Iv pre.length)] st [ob] s) ⟨_,_,h0,qek ⟨rfl,rfl,rfl,trivial⟩ rfl⟩ ?_ ?_
 .rintro _ ⟨v,ob,hV,t,ext,rfl⟩
  repeat' (first|apply qo|apply qf|apply qh|apply qj|apply qg|(apply qt;rfl;rfl;rfl)|(apply qc;rfl;apply vq;exact cAo)|(apply zr;rfl;rfl;rfl)|apply z7|apply qu)
  exact zik (q8y 2 rfl rfl hV rfl) (qn rfl (q5 rfl) ⟨rfl,qa0 _ _ _ _⟩)
 .rintro pre c rest _ hr ⟨v,ob,hV,t,ext,rfl⟩
  have d5:l.length=pre.length+(rest.length+1):=by rw[hr];simp
  have d8:l.getD pre.length 0=c:=by rw[hr];simp
  have r9:(l.take (pre.length+1)).drop pre.length=[c]:=by rw[hr,show pre++c::rest=(pre++[c])++rest by simp,Zz Sx,Xa rfl]
  have hpc:=q9k pre;rcases q8f hV with⟨h0,_⟩|⟨ver,cap,pad,rfl,rfl,hvl,hvw,hvle,hvm⟩
  .exact absurd (List.map_eq_nil_iff.1 h0) (qh1 pre)
  simp only[Qh]at hvle;have cx:0<(za pre).length:=Qo.2 (qh1 pre);have o0:((za pre).map λx=>Sv x).length=(za pre).length:=Sx
  have dx:((za pre).getD ((za pre).length-1) []).length<=pre.length:=by
   have d9:(za pre).length-1<(za pre).length:=Om
   have e:(za pre).getD ((za pre).length-1) []=(za pre)[(za pre).length-1]:=by simp[Xg,d9]
   rw[e];exact qf3 pre _ (List.getElem_mem _)
  have hdl:((l.take (pre.length+1)).drop pre.length).length=1:=by rw[r9];rfl
  have hld:(flat ((za pre).map λx=>Sv x)++pad)[0+((za pre).length-1)*1]?=some (Sv ((za pre).getD ((za pre).length-1) [])):=by
   rw[zhs,Qt,Nat.mul_one,Qc So,Qs]
   have:(za pre)[(za pre).length-1]?=some ((za pre).getD ((za pre).length-1) []):=by
    have:(za pre).length-1<(za pre).length:=Om
    simp[Xg,this]
   rw[this];rfl
  repeat' (first|(apply q0r;(iterate 5 rfl);kernel_rfl)|apply qo|apply qy|apply qf|apply qh|apply qj|(apply qt;rfl;rfl;rfl)|(apply qc;rfl;apply va;exact cAo)|(apply qc;rfl;apply cd_d<;>intro h)|(apply zr;rfl;rfl;rfl)|(apply wp;rfl;rfl;rfl;exact cAs)|(apply wi;(iterate 9 rfl))|apply qfv|(apply qy9;rfl;rfl;rfl;rfl)|(apply q4q;rfl;rfl;exact q6 Om Om)|(apply qzb;rfl;rfl;rfl;rfl;exact cAs;exact cAs)|(apply qjn;rfl;rfl;exact cOs)|apply qea|(apply qwk;rfl;rfl;exact q6 Om Om)|apply qv|(apply ql1 (n:=(za pre).length-1);rfl;rfl;rfl;rfl;(simp;omega);(simp;omega))|(apply qm2;rfl;rfl;rfl;rfl;exact hld))
  .refine q21 (xs:=(za pre).map λx=>Sv x) (ys:=[Sv []]) (sz:=1) (bytes:=16) rfl rfl rfl hV rfl rfl rfl ⟨⟨_,_,rfl,rfl,rfl,rfl,rfl⟩⟩ rfl ?_ ?_ ?_
   .simp[maxLen];omega
   .simp;omega
   intro a' ob' hV';repeat' (first|apply qf|apply qh|apply qj|apply qg|(apply zn;rfl;rfl;exact q6 Om Om))
   have hc:c=10:=by rw[d8]at h;exact(qcd c).1 h
   refine⟨a',ob',?_,qbq ⟨rfl,rfl,?_,trivial⟩ rfl⟩
   .rw[hc,q17 _ pre (Qb _),Ze]
    exact hV'
   .rw[qd6 pre c];rfl
  .refine qwi (k:=0) (sz:=1) rfl rfl rfl rfl rfl rfl rfl rfl rfl (by show 0+((za pre).length-1)*1+1<=_;rw[hvl];omega) ?_
   repeat' (first|apply qf|apply qh|apply qj|apply qg|(apply zn;rfl;rfl;exact q6 Om Om))
   have hc:c≠10:=λe=>by rw[d8]at h;exact h ((qcd c).2 e)
   refine⟨_,_,?_,qbq ⟨rfl,rfl,?_,trivial⟩ rfl⟩
   .rw[qfk _ pre c (Qb _) hc,<-r9]
    have:=zn3 (o:=st.length+0) (T:=9) (ver:=ver) (sz:=1) hvl hvw (by simpa using hvle) hvm (i:=(za pre).length-1) (x:=Sv ((za pre).getD ((za pre).length-1) []++(l.take (pre.length+1)).drop pre.length)) rfl So;rw[<-List.map_set]at this;exact this
   .rw[qd6 pre c];rfl
theorem q7g(f:FldV)(st:List AObj)(hl:f.1.length<4294967281):qp E 189 [fldA f] st λr st'=>r=Iv (vj f)∧st'=st:=by
 refine qz (qr _) (qq Tryz.func189 rfl (Qd rfl) ?_);repeat' (first|apply qo|apply qf|apply qh|apply qg|(apply qt;rfl;rfl;rfl)|(apply ja;rfl)|(apply qc;rfl;apply cd_n<;>intro h)|(apply qc;rfl;apply cd_d<;>intro h)|(apply zr;rfl;rfl;rfl)|(apply qb4;rfl;rfl;rfl;rfl)|(apply zk;rfl;rfl;rfl)|(apply jt;(iterate 5 rfl))|apply qv|apply qu|(apply qk;exact Tryz.call219;exact q7m _ _ hl))
 all_goals refine qn rfl (q5 rfl) ⟨congrArg Iv (?_:_=vj f),_,rfl⟩
 .exact(if_pos (by simp_all):vj f=5).symm
 .exact((if_neg (by simp_all)).trans (if_pos Om):vj f=6).symm
 .exact((if_neg (by simp_all)).trans (if_neg Om):vj f=0).symm
theorem zjq{s:qa}(h:10∉s):qx s=1↔qc2 s:=by
 unfold qx qc2;rw[if_neg h];by_cases hb:∀c∈s,wy c
 .rw[if_pos hb]
  exact⟨λ_=>hb,λ_=>rfl⟩
 .rw[if_neg hb]
  refine⟨λh=>?_,λh=>absurd h hb⟩;exfalso;revert h;repeat' split
  all_goals decide
theorem zke(l p:qa)(r:List qa)(st:List AObj)(hl:l.length<1000000)(h:za l=p::r):qp E 149 [Sv l] st λx st'=>x=.sl 1 (Sv p::r.map λx=>Sv x) none∧st'=st:=by
 have:=zdx l st hl;rw[h]at this;exact this
theorem q9d{f:Fld}{p:qa}{r:List qa}(h:za f.2=p::r):zp f=kl f.1 p::r.map λs=>[32]++wn s:=by
 unfold zp;rw[h];rfl
theorem qtz(f:Fld):(zj (zp f)).length<=f.1.length+3*f.2.length+3:=by
 have h1:=qvq (za f.2).tail;have h2:=congrArg Zl (qks _ f.2 (Qb _))
 have h3:(kl f.1 ((za f.2).headD [])).length<=f.1.length+2+((za f.2).headD []).length:=by
  unfold kl;split <;>simp <;>omega
 have e:zp f=[kl f.1 ((za f.2).headD [])]++(za f.2).tail.map λs=>[32]++wn s:=rfl;rw[e,qaq,qj0];simp only[Qa,Qf,Qm]at h2⊢;omega
theorem qxh:∀(xs:List Fld),(∀f∈xs,f.1.length<4294967281∧f.2.length<1000000)->(zy xs).length<=5000000000*xs.length
 | [],_=>by simp[zy]
 |f::r,h=>by
  have ih:=qxh r λx hx=>h x (by simp[hx]);have h1:=qtz f;have h2:=h f Sx;have e:zy (f::r)=zj (zp f)++zy r:=by simp[zy]
  rw[e,Qa,Qf];omega
end Go.Proofs.YtlekheifonaipaaGreatDoor
namespace Go.Av
open Go Go.RowKit
@[reducible] def qx1 (K : Act → World → Prop) : Exit → Act → World → Prop
 |.normal,a,w=>K a w
 |_,_,_=>False
structure AZ (E:Env) (N:Nat) (ops:Array Oper) (fuel:Nat) (listed:Array Bool) (K:AS->Prop) (s:AS):Prop where
 run:∀(B0:Nat)(w0:World)(G:Gh)(a:Act)(w:World),E.L B0 w0->Inv B0 w0 N G s a w->∀K':Act->World->Prop,(∀G' s' a' w',G.le G'->Inv B0 w0 N G' s' a' w'->K s'->K' a' w')->wpAnyIn (fw none) 0 E.P .any ops (qx1 K') fuel listed a w
structure AY (E:Env) (N:Nat) (o:Oper) (s:AS) (r:AV):Prop where
 run:∀(B0:Nat)(w0:World)(G:Gh)(a:Act)(w:World),Inv B0 w0 N G s a w->∃v,(∀w',(execOp a.eval o).run E.P w'=.ok (.value v) w')∧(∀w',o.about E.P w' a.eval=none)∧Rel G r v
section
variable {E : Env} {N : Nat} {ops : Array Oper} {K : AS → Prop} {s : AS} {fuel : Nat} {listed : Array Bool}
theorem ql2{id:Nat}{Q:Exit->AS->Prop}{n:Nat}(hm:E.P.follows .mixedOrders=true)(hn:ops.size=n)(h:AZ E N ops n (Array.replicate n false) (Q .normal) s):AWp E none N (.region id ops true) Q s:=by
 subst hn;refine⟨λB0 w0 G a w hL hI=>?_⟩;have hBl:Below w.heap.size w {w with drawn:=w.drawn+1}:=⟨rfl,rfl,rfl,Qb _,λ_ _=>rfl⟩;have tb:Inv B0 w0 N G s a {w with drawn:=w.drawn+1}:=⟨hI.agree.fresh hBl,hI.defers,hI.size,hI.tmps⟩;have:=h.run B0 w0 G a _ hL tb (λa' w'=>∃(G':Gh)(s':AS),G.le G'∧Inv B0 w0 N G' s' a' w'∧Q .normal s') λG' s' a' w' hG s9 hk=>⟨G',s',hG,s9,hk⟩;refine wpIn_mono (wpIn_region_any hm this) λe a' w' hq=>?_
 cases e with
 |normal=>exact hq
 |_=>exact hq.elim
theorem qeb(hr:Region.ready .any ops listed=[])(h:K s):AZ E N ops fuel listed K s:=
 ⟨λB0 w0 G a w hL hI K' hK=>wpAnyIn_done hr (hK G s a w (.refl G) hI h) fuel⟩
theorem qal(i:Nat){oi:Oper}{r:AV}(hi:ops[i]?=some oi)(hs:Region.noSelect ops=true)(hf:Region.free .any ops listed i=true)(hr:(Region.ready .any ops listed).contains i=true)(hg:oi.guard=none)(hy:AY E N oi s r)
  (h:AZ E N ops fuel (listed.setIfInBounds i true) K (s.put oi.dst r)):AZ E N ops (fuel+1) listed K s:=by
 refine⟨λB0 w0 G a w hL hI K' hK=>?_⟩;obtain⟨v,h1,h2,h3⟩:=hy.run B0 w0 G a w hI;have hwn:Region.wanted oi (yielded ops a.tmps)=true:=by simp[Region.wanted,hg]
 refine wpAnyIn_take (v:=v) rfl hi hs hf hr (λc a w hq=>hq.elim) ⟨.inl ⟨hwn,h1⟩,h2⟩ (h.run B0 w0 G _ w hL (hI.put (.refl G) hI.agree oi.dst h3) K' λG' s' a' w' hG s9 hk=>hK G' s' a' w' hG s9 hk)
theorem q9f{F:Fence}{n:Nat}{P:Program}{o:Oper}{a:Act}{w:World}{next X Y:Act->World->Prop}(h:o.wpIn F n P a w next (qx1 X)):o.wpIn F n P a w next (qx1 Y):=by
 unfold Oper.wpIn at *;refine⟨h.1,?_⟩;have h:=h.2;generalize(o.semAt F.round a.eval).run P w=r at *
 cases r with
 |ok x w'=>
  cases x<;>simp only[Oper.uponIn]at h⊢
  case value u=>exact h
  case skip=>exact h
  case defer d=>exact h
  case enter f args=>
   refine⟨h.1,CallsIn.mono h.2 λe w'' he=>?_⟩
   cases e with
   |returned u=>exact he
   |panicked c=>exact he.elim
   |outgrown=>exact absurd he (by simp[LetsOut])
  case row row args=>exact h
  case round l f tmps assign body=>
   refine⟨h.1,RoundIn.mono h.2 λe w'' he=>?_⟩
   cases e with
   |returned u=>exact he
   |panicked c=>exact he.elim
   |outgrown=>exact absurd he (by simp[LetsOut])
 |halt x w'=>
  cases x<;>simp only[Oper.uponIn]at h⊢
  case panic u=>exact h.elim
def q3j(P:Nat->Prop):List Nat->Prop
 | []=>True
 |i::r=>P i∧q3j P r
theorem q0j{P:Nat->Prop}:∀{l:List Nat},q3j P l->∀i∈l,P i
 | [],_,_,h=>by simp at h
 |j::l,h,i,hi=>by
  rcases Qp.1 hi with rfl|hi
  .exact h.1
  .exact q0j h.2 i hi
theorem x2(rs:List Nat)(hr:Region.ready .any ops listed=rs)(b9:Nat.blt 0 rs.length=true)
  (h:q3j (λi=>∃o,ops[i]?=some o∧AOps E none N ops [o] (AZ E N ops fuel (listed.setIfInBounds i true) K) s) rs):AZ E N ops (fuel+1) listed K s:=by
 refine⟨λB0 w0 G a w hL hI K' hK=>wpAnyIn_all hr (λe=>by subst e;simp at b9) λi hi=>?_⟩;obtain⟨o,ho,h⟩:=q0j h i hi;have a8:=h.run B0 w0 G a w hL hI (qx1 λa' w'=>wpAnyIn (fw none) 0 E.P .any ops (qx1 K') fuel (listed.setIfInBounds i true) a' w') λG' s' a' w' hG s9 hk=>hk.run B0 w0 G' a' w' hL s9 K' λG2 s2 a2 w2 sj tb s8=>hK G2 s2 a2 w2 (hG.trans sj) tb s8;unfold wpOpIn;rw[ho];simp only[wpListIn]at a8⊢;split
 .rename_i hw
  rw[if_pos hw]at a8;exact q9f a8
 .rename_i hw
  rw[if_neg hw]at a8;exact a8
variable {d : Option Tmp} {T : TypeId} {p : String} {af : Array Edge}
theorem zll{op:Op}{r:AV}(hnc:∀c,op≠.call c)(h:∀(G:Gh)(ρ:Operand->Value),(∀x,Rel G (ql N s x) (ρ x))->∃v,(∀w',(execOp ρ ⟨d,op,T,p,af,none⟩).run E.P w'=.ok (.value v) w')∧Rel G r v):AY E N ⟨d,op,T,p,af,none⟩ s r:=
 ⟨λB0 w0 G a w hI=>let ⟨v,h1,h2⟩:=h G a.eval hI.eval;⟨v,h1,λw'=>by unfold Oper.about;cases op<;>first|rfl|exact absurd rfl (hnc _),h2⟩⟩
theorem qbf{x:Operand}:AY E N ⟨d,.move x,T,p,af,none⟩ s (ql N s x):=zll nofun λG ρ hρ=>⟨ρ x,λw'=>by simp[execOp],hρ x⟩
theorem q0s{x:Operand}:AY E N ⟨d,.assign x,T,p,af,none⟩ s (ql N s x):=zll nofun λG ρ hρ=>⟨ρ x,λw'=>by simp[execOp],hρ x⟩
end
theorem qzd{E:Env}{rd:Option Nat}{N:Nat}{c:Code}{Q:Exit->AS->Prop}{s:AS}(I:AS->Prop)(h:AWp E rd N c (only I) s)(hk:∀s',I s'->Q .normal s'):AWp E rd N c Q s:=h.mono λe s' h=>by
 cases e<;>first|exact hk _ h|exact h.elim
end Go.Av
namespace Go.Proofs.YtlekheifonaipaaGreatDoor
open Go Go.Av Go.RowKit Go.Proofs Go.Pl
theorem qmk{l:qa}:qx l=4↔10∉l∧58∈l∧qa6 (jg l):=by
 unfold qx;by_cases i3:10∈l
 .simp[i3]
 .rw[if_neg i3]
  constructor
  .intro h
   split at h
   .simp at h
   .split at h
    .simp at h
    .split at h
     .simp at h
     .split at h
      .rename_i hk;exact⟨i3,hk.1,hk.2⟩
      .simp at h
  .rintro⟨_,h58,hk⟩
   obtain⟨c,hc,hb,h35⟩:=qmj hk
   have hh:l.head?=some c:=by
    cases l with
    |nil=>simp at h58
    |cons a r=>
     unfold jg at hc;rw[Zq]at hc;split at hc
     .simpa using hc
     .simp at hc
   have tq:c∈l:=Zv hh;rw[if_neg (λh'=>hb (h' c tq)),if_neg (by rw[hh];simpa using h35),if_neg (λ⟨d,hd,dv⟩=>by rw[hh]at hd;cases hd;exact hb dv),if_pos ⟨h58,hk⟩]
theorem zda(l:qa)(st:List AObj)(hl:l.length<4294967281)(h:qx l=4):qp E 235 [Sv l] st λr st'=>r=.tu [Sv (jg l),Sv (vd l),Bv true]∧st'=st:=by
 refine qz (qct _ _ _) (qq Tryz.func235 rfl (Qd rfl) ?_);have hc:Lib.cut l [58]=(jg l,vd l,true):=by rw[q04,if_pos (qmk.1 h).2.1]
 repeat' (first|apply qo|apply qf|apply qh|apply qj|apply qg|(apply zf;rfl;rfl)|(apply qt;rfl;rfl;rfl)|(apply qc;rfl;apply vq;exact cAo)|apply qv|apply qu|(apply qk;exact Tryz.call156;exact qnv _ _ hl)|(apply qk;exact Tryz.call104;exact qwz _ _ _ hl))
 refine qn rfl (yu rfl) ⟨q8c (?_:_=_),_,rfl⟩;rw[hc]
theorem q9c(l:qa)(st:List AObj)(hl:l.length<4294967281)(h:qx l≠4):qp E 235 [Sv l] st λr st'=>r=.tu [Sv [],Sv [],Bv false]∧st'=st:=by
 refine qz (qct _ _ _) (qq Tryz.func235 rfl (Qd rfl) ?_);repeat' (first|apply qo|apply qf|apply qh|apply qj|apply qg|(apply qt;rfl;rfl;rfl)|(apply qc;rfl;apply va;exact cAo)|apply qu|(apply qk;exact Tryz.call156;exact qnv _ _ hl))
 exact qn rfl (yu rfl) ⟨rfl,_,rfl⟩
theorem zlx{fn:Func}{s:AS}{t u:Tmp}{Ta:TypeId}{o1 v1 f1 sz1:Nat}{agg1:Bool}{T1:TypeId}{cs1:List AV}{r1:AV}(hr:fn.results= #[.cell t Ta,.tmp u])(hx1:ql fn.ntmps s (.tmp t)=.bx o1 v1 f1)(ho1:s.st[o1]?=some (.cells v1 T1 cs1))(tz:tyOf E.P Ta=some (sz1,agg1))(br:ke sz1 agg1 f1 cs1=some r1):
  ARes E fn s (.tu [r1,ql fn.ntmps s (.tmp u)]):=by
 refine⟨λB0 w0 G a w hL hI=>?_⟩;obtain⟨b,v,h1,h2,h3⟩:=qi9 hI hx1 ho1 tz br;have hu:=hI.rd u;refine⟨.tuple #[v,a.tmps.getD u undef],?_,qfn h3 hu⟩;simp only[Act.eval,Array.getD_eq_getD_getElem?]at h1;simp[results,hr,h1,asAddr,h2]
def qip(ls:List qa):AV:=.tu [fldA (zu ls).1,errN (zu ls).2]
theorem q8e(ls:List qa):Pure (qip ls):=qei λx hx=>by
 simp only[Qp,Qw,or_false]at hx;rcases hx with rfl|rfl
 .exact qn0 λx hx=>by
   simp only[Qp,Qw,or_false]at hx;rcases hx with rfl|rfl <;>exact qr _
 .exact qmc _
theorem qtc{fn:Func}{s:AS}{t u:Tmp}{Ta:TypeId}{st loc ext new:List AObj}{k1 v1 f1 sz1:Nat}{agg1:Bool}{T1:TypeId}{cs1:List AV}{r1:AV}(hr:fn.results= #[.cell t Ta,.tmp u])(hs:s.st=((st++loc)++ext)++new)(hx1:ql fn.ntmps s (.tmp t)=.bx (st.length+k1) v1 f1)(ho1:loc[k1]?=some (.cells v1 T1 cs1))(tz:tyOf E.P Ta=some (sz1,agg1))(br:ke sz1 agg1 f1 cs1=some r1):
  ARes E fn s (.tu [r1,ql fn.ntmps s (.tmp u)]):=zlx hr hx1 (by rw[hs];exact qb1 ho1) tz br
structure LsB (ls:List qa):Prop where
 len:ls.length<1000000
 val:∀s∈ls,s.length<1000000
theorem qvp:∀(r:List qa),(∀s∈r,s.length<1000000)->(r.flatMap λs=>[10]++w8 46 (s.drop 1)).length<=1000001*r.length
 | [],_=>by simp
 |a::r,h=>by
  have ih:=qvp r λs hs=>h s (by simp[hs]);have ha:=h a Sx;have ht:(w8 46 (a.drop 1)).length<=a.length:=by unfold w8;split <;>simp <;>omega
  simp only[Qr,Qa,Qf,Qm];omega
theorem zf5(v:qa)(r:List qa):Lib.join (v::r.map λs=>w8 46 (s.drop 1)) [10]=v++r.flatMap λs=>[10]++w8 46 (s.drop 1):=by
 rw[Lib.join_cons];unfold Lib.joinTail;rw[Zu,List.flatMap_def];rfl
theorem za1(xs:List qa)(tip:Option Nat)(sep v:qa)(st:List AObj)(h:Lib.join xs sep=v)(hN:xs.length<=140737488355328)(hl:v.length<=140737488355328):qp E 118 [.sl 1 (xs.map λx=>Sv x) tip,Sv sep] st λr st'=>r=Sv v∧st'=st:=by
 subst h;exact zf4 xs tip sep st hN hl
theorem zg1(l:qa)(st:List AObj)(hl:l.length<4294967281)(h:qx l=4):qp E 187 [Sv l] st λr st'=>r=.tu [Sv (jg l),Sv (vd l),Bv true]∧st'=st:=by
 have:=q7h l st hl;have e:qf7 l=(jg l,vd l,true):=if_pos (qmk.1 h);rw[e]at this;exact this
theorem qnw{s:qa}(h:qx s=3):2<=s.length∧10∉s:=by
 have i3:10∉s:=λh'=>by unfold qx at h;rw[if_pos h']at h;simp at h
 refine⟨?_,i3⟩;unfold qx at h;rw[if_neg i3]at h;split at h
 .simp at h
 .rename_i hb
  split at h
  .simp at h
  .split at h
   .rename_i cz
    obtain⟨c,hc,hcb⟩:=cz
    match s,hc with
    | [a],hc=>
     simp at hc;subst hc
     exact absurd (by simpa using hcb) hb
    |a::b::r,_=>simp
   .split at h<;>simp at h
def qcv(ls:List qa):AV:=.tu [fldA (zu ls).1,Iv (zu ls).2]
theorem qyi(ls:List qa):Pure (qcv ls):=qei λx hx=>by
 simp only[Qp,Qw,or_false]at hx;rcases hx with rfl|rfl
 .exact qn0 λx hx=>by
   simp only[Qp,Qw,or_false]at hx;rcases hx with rfl|rfl <;>exact qr _
 .exact qr _
def accU(l:qa)(pre:List qa):qa:=w8 32 (vd l)++pre.flatMap λs=>[10]++w8 46 (s.drop 1)
theorem zek(l:qa)(pre:List qa)(a:qa):accU l (pre++[a])=(accU l pre++[10])++w8 46 (a.drop 1):=by
 unfold accU;rw[List.flatMap_append];simp
theorem zic(l:qa)(pre:List qa)(h:∀s∈pre,s.length<1000000):(accU l pre).length<=l.length+1000001*pre.length:=by
 have htr:(w8 32 (vd l)).length<=l.length:=by unfold w8 vd;split <;>simp <;>omega
 have:=qvp pre h;unfold accU;rw[Qa];omega
theorem q3x(c:UInt8):((c.toNat:Nat):Int)=46↔c=46:=u8i c 46 Om
theorem qpb{α:Type}{P:α->Prop}{pre:List α}{a:α}(h:∀x∈pre,P x)(ha:P a):∀x∈pre++[a],P x:=λx hx=>by
 rcases Qz.1 hx with hx|hx
 .exact h x hx
 .simp at hx;subst hx;exact ha
end Go.Proofs.YtlekheifonaipaaGreatDoor
namespace Go.Pl
open Go Go.Proofs
structure LnV where
 no:Nat
 at':Nat
 text:qa
 ended : Bool
def v4(k a:Nat)(l:qa):List LnV:=if h:l=[]then []else⟨k,a,upto 10 l,decide (10∈l)⟩::v4 (k+1) (a+(upto 10 l).length+1) (past 10 l)
 termination_by l.length
 decreasing_by exact xq h
def lns(l:qa):List LnV:=v4 0 0 l
theorem qbh(k a:Nat):v4 k a []=[]:=by unfold v4;simp
theorem qbn{k a:Nat}{l:qa}(h:l≠[]):v4 k a l=⟨k,a,upto 10 l,decide (10∈l)⟩::v4 (k+1) (a+(upto 10 l).length+1) (past 10 l):=by
 conv=>lhs;unfold v4
 rw[dif_neg h]
def whole(l:qa):Prop:=l=[]∨l.getLast?=some 10
theorem zeg{l:qa}(h:whole l)(b9:l≠[]):10∈l∧whole (past 10 l):=by
 have hl:l.getLast?=some 10:=h.resolve_left b9;have i3:10∈l:=List.mem_of_getLast? hl;refine⟨i3,?_⟩;by_cases hp:past 10 l=[]
 .exact .inl hp
 .refine .inr ?_
  have e:=wo i3;rw[e]at hl;rw[List.getLast?_append,List.getLast?_cons]at hl
  cases hg:(past 10 l).getLast? with
  |none=>exact absurd (List.getLast?_eq_none_iff.1 hg) hp
  |some c=>rw[hg]at hl;simpa using hl
theorem qzp:∀(n:Nat)(d x:qa)(k a:Nat),d.length<=n->whole d->v4 k a (d++x)=v4 k a d++v4 (k+(v4 k a d).length) (a+d.length) x
 |n,d,x,k,a,hn,hw=>by
  by_cases hd:d=[]
  .subst hd
   simp[qbh]
  .obtain⟨i3,p8⟩:=zeg hw hd
   have e:=wo i3;have d9:=xq (c:=10) hd
   cases n with
   |zero=>omega
   |succ n=>
    have e2:d++x=upto 10 d++10::(past 10 d++x):=(congrArg (· ++x) e).trans Sx;have hu:upto 10 (d++x)=upto 10 d:=by rw[e2];exact v8 _ (yy 10 d)
    have hp:past 10 (d++x)=past 10 d++x:=by rw[e2];exact xw _ (yy 10 d)
    have hdl:d.length=(upto 10 d).length+1+(past 10 d).length:=by
     have:=congrArg Zl e;simp at this;omega
    rw[qbn (l:=d++x) (by simp[hd]),qbn hd,hu,hp,qzp n (past 10 d) x _ _ Om p8];have h1:10∈d++x:=by simp[i3]
    simp only[h1,i3,Zg,Qf];congr 2;have e3:∀m:Nat,k+1+m=k+(m+1):=λm=>by omega
    rw[e3];congr 1;omega
theorem zm4{c:qa}(k a:Nat)(h:10∉c):v4 k a (c++[10])=[⟨k,a,c,true⟩]:=by
 rw[qbn Sx,v8 [] h,xw [] h,qbh];simp
theorem zjx{c:qa}(k a:Nat)(h:10∉c)(b9:c≠[]):v4 k a c=[⟨k,a,c,false⟩]:=by
 rw[qbn b9,xy h]
 have:past 10 c=[]:=by
  unfold past;rw[xy h];simp
 rw[this,qbh];simp[h]
theorem qdt:∀(n:Nat)(l:qa)(k a:Nat),l.length<=n->(v4 k a l).length<=l.length
 |n,l,k,a,hn=>by
  by_cases h:l=[]
  .subst h;simp[qbh]
  .have d9:=xq (c:=10) h
   cases n with
   |zero=>omega
   |succ n=>
    rw[qbn h,Qf];have:=qdt n (past 10 l) (k+1) (a+(upto 10 l).length+1) Om;omega
theorem q1w:∀(n:Nat)(l:qa)(k a:Nat),l.length<=n->(v4 k a l).map (λx=>(x.text,x.ended))=zo l
 |n,l,k,a,hn=>by
  by_cases h:l=[]
  .subst h;simp[qbh,vv]
  .have d9:=xq (c:=10) h
   cases n with
   |zero=>omega
   |succ n=>rw[qbn h,wl h,Qq,q1w n _ _ _ Om]
end Go.Pl
namespace Go.Proofs.YtlekheifonaipaaGreatDoor
open Go Go.Av Go.RowKit Go.Proofs Go.Pl
@[reducible] def lnA (x : LnV) : AV := .ag [Iv x.no, Iv x.at', Sv x.text, Bv x.ended]
@[reducible] def lnsA (xs : List LnV) : AV := .sl 4 (xs.map lnA) none
theorem zkl(xs:List LnV):Pure (lnsA xs):=qbi λx hx=>by
 simp only[Zr]at hx;obtain⟨f,_,rfl⟩:=hx;intro y hy;simp[AV.cells]at hy;rcases hy with rfl|rfl|rfl|rfl <;>exact qr _
set_option maxHeartbeats 4000000 in
theorem qku(l:qa)(st:List AObj)(hl:l.length<100000000):qp E 90 [Sv l] st λr st'=>r=lnsA (lns l)∧st'=st:=by
 refine qz (zkl _) (qq Tryz.func90 rfl (Qd rfl) ?_);repeat' (first|apply qo|apply qy|apply qf|apply qh|apply qg)
 refine zch (i:=3) (sz:=4) (T':=182) rfl ?_;refine qck l (λpre s=>∃d c,pre=d++c∧whole d∧10∉c∧StE [(0,Sv l),(3,.sl 4 ((lns d).map lnA) (some (st.length+0))),(4,Iv d.length),(5,Iv pre.length)] st [.tip (lns d).length 4 182] s) ⟨[],[],rfl,.inl rfl,Sx,qek ⟨rfl,?_,rfl,rfl,trivial⟩ ?_⟩ ?_ ?_
 .rw[show lns []=[] from qbh 0 0];simp;rfl
 .rw[show lns []=[] from qbh 0 0];show(st++[])++[AObj.tip 0 4 _]=_;simp
 .rintro _ ⟨d,c,hdc,hw,hc,t,ext,rfl⟩
  have pn:l.length=d.length+c.length:=by rw[hdc];simp
  have pk:=qdt _ d 0 0 (Qb _);have hcnt':(lns d).length<=d.length:=pk;have o0:((lns d).map lnA).length=(lns d).length:=Sx
  have happ:lns l=lns d++v4 (lns d).length d.length c:=by
   unfold lns;rw[hdc,qzp _ d c 0 0 (Qb _) hw];simp
  have hfrom:l.drop d.length=c:=by rw[hdc];simp
  repeat' (first|apply qo|apply qf|apply qh|apply qj|apply qg|(apply qt;rfl;rfl;rfl)|(apply qc;rfl;apply vq;exact cAo)|(apply qc;rfl;apply cd_d<;>intro h)|(apply zr;rfl;rfl;rfl)|(apply jk;rfl;rfl;rfl;rfl)|(apply qgu;rfl;rfl;rfl;exact cAs)|(apply yf;rfl;rfl;rfl)|(apply wi;(iterate 9 rfl))|apply qv|apply z7|apply qu|(apply qhj (n:=(lns d).length) (m:=1) (sz:=4) (bytes:=40);rfl;rfl;rfl;rfl;exact o0;rfl;rfl;exact⟨⟨_,_,rfl,rfl,rfl,rfl,rfl⟩⟩;rfl;rfl;(unfold maxLen;omega);omega;rfl))
  .have b9:c≠[]:=λe=>by subst e;simp at pn;omega
   have e:AV.sl 4 ((lns d).map lnA++[AV.ag [Iv ((lns d).map lnA).length,Iv d.length,Sv (l.drop d.length),Bv false]]) none=AV.sl 4 ((lns l).map lnA) none:=by
    rw[happ,zjx _ _ hc b9,o0,hfrom,Ze];rfl
   exact qn rfl (qwn rfl rfl) ⟨e,qa0 _ _ _ _⟩
  .have hce:c=[]:=Zh.1 Om
   refine qn rfl (qwn rfl rfl) ⟨?_,qa0 _ _ _ _⟩;rw[happ,hce,qbh,Zd]
 .rintro pre a rest _ hr ⟨d,c,hdc,hw,hc,t,ext,rfl⟩
  have d5:l.length=pre.length+(rest.length+1):=by rw[hr];simp
  have dx:pre.length=d.length+c.length:=by rw[hdc];simp
  have d8:l.getD pre.length 0=a:=by rw[hr];simp
  have pk:=qdt _ d 0 0 (Qb _);have hcnt':(lns d).length<=d.length:=pk;have o0:((lns d).map lnA).length=(lns d).length:=Sx
  have r9:(l.take pre.length).drop d.length=c:=by rw[hr,Zz rfl,hdc,Xa rfl]
  repeat' (first|apply qo|apply qy|apply qf|apply qh|apply qj|apply qg|(apply qt;rfl;rfl;rfl)|(apply qc;rfl;apply va;exact cAo)|(apply qc;rfl;apply cd_d<;>intro h)|(apply zr;rfl;rfl;rfl)|(apply jk;rfl;rfl;rfl;rfl)|(apply zn;rfl;rfl;exact q6 Om Om)|(apply wp;rfl;rfl;rfl;exact cAs)|(apply qgv;rfl;rfl;rfl;rfl;exact cAs;exact cAs)|(apply yf;rfl;rfl;rfl)|(apply wi;(iterate 9 rfl))|apply qv|(apply qhj (n:=(lns d).length) (m:=1) (sz:=4) (bytes:=40);rfl;rfl;rfl;rfl;exact o0;rfl;rfl;exact⟨⟨_,_,rfl,rfl,rfl,rfl,rfl⟩⟩;rfl;rfl;(unfold maxLen;omega);omega;rfl))
  .have ha:a=10:=by have h:=(qcd _).1 (by assumption:((l.getD pre.length 0).toNat:Int)=10);rw[d8]at h;exact h
   have happ:lns (d++(c++[10]))=lns d++[⟨(lns d).length,d.length,c,true⟩]:=by
    unfold lns;rw[qzp _ d (c++[10]) 0 0 (Qb _) hw,zm4 _ _ hc];simp
   refine⟨d++(c++[10]),[],by rw[ha,hdc];simp,.inr Sx,Sx,qbq ⟨rfl,?_,?_,qii pre a,trivial⟩ ?_⟩
   .have e:AV.sl 4 ((lns d).map lnA++[AV.ag [Iv ((lns d).map lnA).length,Iv d.length,Sv ((l.take pre.length).drop d.length),Bv true]]) (some (st.length+0))=AV.sl 4 ((lns (d++(c++[10]))).map lnA) (some (st.length+0)):=by
     rw[happ,o0,r9,Ze];rfl
    exact e
   .have e:Iv ((pre.length:Int)+1)=Iv ((d++(c++[10])).length:Nat):=by
     have:(d++(c++[10])).length=pre.length+1:=So
     rw[this];rfl
    exact e
   .rw[happ,qd6];rfl
  .have ha:a≠10:=λe=>absurd (by rw[d8];exact(qcd _).2 e:((l.getD pre.length 0).toNat:Int)=10) (by assumption)
   exact⟨d,c++[a],by rw[hdc];simp,hw,by simp[hc,Ne.symm ha],qbq ⟨rfl,rfl,rfl,qii pre a,trivial⟩ rfl⟩
end Go.Proofs.YtlekheifonaipaaGreatDoor
namespace Go.Pl
open Go Go.Proofs
def indF(by':qa)(ls:List (qa×Bool)):qa:=ls.flatMap λx=>by'++x.1++x7 x.2
def qa2(by' l:qa):qa:=indF by' (zo l)
theorem qo0(by':qa)(a b:List (qa×Bool)):indF by' (a++b)=indF by' a++indF by' b:=by simp[indF]
theorem qo2(by':qa)(x:qa×Bool):indF by' [x]=by'++x.1++x7 x.2:=by simp[indF]
def lsum(ls:List (qa×Bool)):Nat:=(ls.map λx=>x.1.length+(x7 x.2).length).sum
theorem qg2:∀(n:Nat)(l:qa),l.length<=n->lsum (zo l)=l.length∧(zo l).length<=l.length
 |n,l,hn=>by
  by_cases h:l=[]
  .subst h;simp[vv,lsum]
  .have d9:=xq (c:=10) h
   cases n with
   |zero=>omega
   |succ n=>
    obtain⟨h1,h2⟩:=qg2 n (past 10 l) Om;rw[wl h];unfold lsum at h1⊢;simp only[Qq,Xd,Qf];rw[h1];have hp:=vm 10 l;have hu:=vl 10 l;by_cases i3:10∈l
    .have:=qft i3
     simp[i3,x7];omega
    .have hu2:(upto 10 l).length=l.length:=by rw[xy i3]
     have cx:=Qo.2 h;simp[i3,x7];omega
theorem qo1(by':qa):∀(ls:List (qa×Bool)),(indF by' ls).length=lsum ls+by'.length*ls.length
 | []=>by simp[indF,lsum]
 |x::r=>by
  have ih:=qo1 by' r;simp only[indF,lsum,Qr,Qa,Qq,Xd,Qf]at ih⊢;rw[ih,Nat.mul_add];omega
theorem q59(a b:List (qa×Bool)):lsum (a++b)=lsum a+lsum b:=by simp[lsum]
end Go.Pl
namespace Go.Proofs.YtlekheifonaipaaGreatDoor
open Go Go.Av Go.RowKit Go.Proofs Go.Pl
theorem zho(text:List UInt8)(st loc:List AObj)(n:Nat)(hn:loc.length=n):qp E 107 [Sv text] (st++loc) λr st1=>r=.fn (.func 154) [] [.bx (st.length+n) 0 0]∧st1=st++(loc++[.cells 0 9 [Sv text]]):=
 qz5 text (st++loc) _ (st.length+n) (by simp[hn]) (by rw[Qe])
theorem zf3(b sep:qa)(st:List AObj)(hl:b.length<=140737488355328):qp E 118 [.sl 1 [Sv b] none,Sv sep] st λr st'=>r=Sv b∧st'=st:=
 za1 [b] none sep b st (by simp[Lib.join,List.intercalate]) Sx hl
theorem zot{st a b ext:List AObj}{m:Nat}(h:((st++a)++ext).length=m)(e:b.length=a.length):((st++b)++ext).length=m:=by
 simp only[Qa]at h⊢;omega
set_option maxHeartbeats 2000000 in
theorem zjo(text by':qa)(st:List AObj)(hl:text.length<100000000)(hb:by'.length<1000):qp E 71 [Sv text,.sl 1 [Sv by'] none] st λr st'=>r=Sv (qa2 by' text)∧st'=st:=by
 refine qz (qr _) (qq Tryz.func71 rfl (Qd rfl) ?_);obtain⟨hsum,pk⟩:=qg2 _ text (Qb _);repeat' (first|(apply qiv;rfl)|apply qo|apply qy|apply qf|apply qh|apply qj|apply qg|(apply j7;rfl;rfl)|(apply jc;(iterate 11 rfl))|(apply qk;exact Tryz.call118;exact zf3 _ _ _ Om)|(refine qk Tryz.call107 (zho _ _ _ _ rfl) ?_))
 refine qze (st:=st) text rfl rfl Om (λk rest l=>∃q don,(q=.v (.pointer none)∨q=.bx (st.length+0) 0 0)∧zo text=don++zo rest∧l=[bldO 0 q (indF by' don) (st.length+1),.tip (indF by' don).length 1 5,.cells 0 9 [Sv by'],.cells 0 9 [Sv text]]) (λ_ _=>False)
  ⟨_,[],.inl rfl,rfl,rfl⟩ (λk rest l ⟨q,don,_,_,e⟩=>by subst e;exact⟨rfl,rfl⟩) (λ_ _ h=>h.elim) ?_ ?_ (λ_ _ _ h=>h.elim)
 .rintro F own rd k rest _ ext m hF ⟨q,don,hq,hd,rfl⟩ b9 d7 hm1 tn
  have tq:zo rest=(upto 10 rest,decide (10∈rest))::zo (past 10 rest):=wl b9;have hu:=vl 10 rest;have d5:=qo1 by' (don++[(upto 10 rest,decide (10∈rest))]);have he:zo text=(don++[(upto 10 rest,decide (10∈rest))])++zo (past 10 rest):=by rw[hd,tq];simp
  have pt:lsum (don++[(upto 10 rest,decide (10∈rest))])+lsum (zo (past 10 rest))=text.length:=by rw[<-q59,<-he];exact hsum
  have hc2:(don++[(upto 10 rest,decide (10∈rest))]).length+(zo (past 10 rest)).length<=text.length:=by rw[<-Qa,<-he];exact pk
  have hm:by'.length*(don++[(upto 10 rest,decide (10∈rest))]).length<=1000*100000000:=Xb Om Om;rw[qo0,qo2]at d5;simp only[Qa]at d5 hm hc2;repeat' (first|(apply q8j;rfl;assumption;rfl)|(apply qci;rfl;assumption;(iterate 10 rfl))|apply qf|apply qh)
  refine⟨_,rfl,rfl,?_⟩;repeat' (first|apply qo|apply qy|apply qf|apply qh|(apply qc;rfl;apply cd_d<;>intro h)|(apply jz;rfl;rfl;exact cOs)|(apply zk;rfl;rfl;rfl)|(apply qj1;(iterate 5 rfl))|apply qv|(apply qdg;rfl;exact zot tn rfl;rfl;rfl;rfl;rfl)|(refine qk Tryz.call69 (qkh st _ _ _ _ 0 1 0 _ _ _ rfl rfl ?_ ?_ rfl) ?_;(first|exact hq|exact .inr rfl);(simp only[Qa,Qf,Qm];omega)))
  all_goals
   have hx:indF by' (don++[(upto 10 rest,decide (10∈rest))])=(indF by' don++(by'++upto 10 rest))++x7 (decide (10∈rest)):=by
    rw[qo0,qo2];simp
   refine⟨[bldO 0 (.bx (st.length+0) 0 0) (indF by' (don++[(upto 10 rest,decide (10∈rest))])) (st.length+1),.tip (indF by' (don++[(upto 10 rest,decide (10∈rest))])).length 1 5,.cells 0 9 [Sv by'],.cells 0 9 [Sv text]],ext,[.cells 0 206 (qff k text rest).cells],?_,_,_,.inr rfl,he,rfl⟩
  .have i3:10∈rest:=by simp_all
   rw[hx,show x7 (decide (10∈rest))=[10]by simp[i3,x7]];rfl
  .have i3:10∉rest:=by simp_all
   have hx2:indF by' (don++[(upto 10 rest,decide (10∈rest))])=indF by' don++(by'++upto 10 rest):=by
    rw[hx];simp[i3,x7]
   rw[hx2];rfl
 .rintro k _ ext ⟨q,don,hq,hd,rfl⟩
  repeat' (first|apply qo|apply qf|apply qh|apply qg|apply qu|(refine qk Tryz.call72 (qiy st _ _ _ _ 0 1 0 _ _ rfl rfl rfl) ?_))
  refine q25 (k:=4) rfl rfl rfl (qn rfl (q5 rfl) ⟨congrArg (λl:qa=>Sv l) (?_:_=qa2 by' text),qa0 _ _ _ _⟩);rw[vv,Zd]at hd;unfold qa2;rw[hd]
end Go.Proofs.YtlekheifonaipaaGreatDoor
namespace Go.Pl
open Go Go.Proofs
def wq(x:LnV):qa×Bool:=(x.text,x.ended)
theorem qrm(l:qa):(lns l).map wq=zo l:=q1w _ l 0 0 (Qb _)
end Go.Pl
namespace Go.Proofs.YtlekheifonaipaaGreatDoor
open Go Go.Av Go.RowKit Go.Proofs Go.Pl
set_option maxHeartbeats 2000000 in
theorem q9q(text by':qa)(st:List AObj)(hl:text.length<100000000)(hb:by'.length<1000):qp E 61 [Sv text,Sv by'] st λr st'=>r=Sv (qa2 by' text)∧st'=st:=by
 refine qz (qr _) (qq Tryz.func61 rfl (Qd rfl) ?_);obtain⟨hsum,pk⟩:=qg2 _ text (Qb _);have hp:=qrm text;have dx:(lns text).length=(zo text).length:=by rw[<-hp,Qh]
 have o0:((lns text).map lnA).length=(lns text).length:=Sx
 repeat' (first|apply qo|apply qy|apply qf|apply qh|apply qj|apply qg|(apply jk;rfl;rfl;rfl;rfl)|(apply qk;exact Tryz.call90;exact qku _ _ hl))
 refine qck (lns text) (λpre s=>StE [(1,Sv by'),(5,Sv (indF by' (pre.map wq))),(9,lnsA (lns text)),(10,Iv (lns text).length),(11,Iv pre.length)] st [] s) (qek ⟨rfl,rfl,rfl,congrArg (λn:Nat=>Iv (n:Int)) o0,rfl,trivial⟩ rfl) ?_ ?_
 .rintro _ ⟨t,ext,rfl⟩
  repeat' (first|apply qo|apply qf|apply qh|apply qj|apply qg|(apply qt;rfl;rfl;rfl)|(apply qc;rfl;apply vq;exact cAo)|apply z7|apply qu)
  refine qn rfl (q5 rfl) ⟨congrArg (λl:qa=>Sv l) (?_:indF by' ((lns text).map wq)=_),qa0 _ _ _ _⟩;rw[hp];rfl
 .rintro pre a rest _ hr ⟨t,ext,rfl⟩
  have d5:(lns text).length=pre.length+(rest.length+1):=by rw[hr];simp
  have d8:((lns text).map lnA)[pre.length]?=some (lnA a):=by rw[hr];simp
  have he:zo text=(pre.map wq++[wq a])++rest.map wq:=by rw[<-hp,hr];simp
  have pt:lsum (pre.map wq++[wq a])+lsum (rest.map wq)=text.length:=by rw[<-q59,<-he];exact hsum
  have fc:=qo1 by' (pre.map wq++[wq a]);have hm:by'.length*(pre.map wq++[wq a]).length<=1000*100000000:=Xb Om (by rw[Qa,Qh];simp;omega);rw[qo0,qo2]at fc;have e1:(wq a).1=a.text:=rfl;have e2:(wq a).2=a.ended:=rfl;rw[e1,e2]at fc;simp only[Qa]at fc hm
  have hx:indF by' ((pre++[a]).map wq)=((indF by' (pre.map wq)++by')++a.text)++x7 a.ended:=by
   rw[Ze,List.map_singleton,qo0,qo2,e1,e2];simp
  cases hae:a.ended
  .have hx2:indF by' ((pre++[a]).map wq)=(indF by' (pre.map wq)++by')++a.text:=by rw[hx,hae];simp[x7]
   rw[hae]at fc;repeat' (first|apply qo|apply qy|apply qf|apply qh|apply qj|apply qg|(apply qt;rfl;rfl;rfl)|(apply qc;rfl;apply va;exact cAo)|(apply qc;rfl;apply cd_f;exact cRa)|(apply jz;rfl;rfl;exact cOs)|(apply zn;rfl;rfl;exact q6 Om Om)|(apply j7;rfl;rfl)|(apply zk;rfl;rfl;rfl)|(apply jq;rfl;rfl;rfl)|(apply jt;(iterate 5 rfl))|(apply jc;(iterate 11 rfl))|apply qv|(apply kp (n:=pre.length);(iterate 5 rfl);exact d8))
   exact qbq ⟨rfl,congrArg (λl:qa=>Sv l) hx2.symm,rfl,rfl,qii pre a,trivial⟩ rfl
  .have hx2:indF by' ((pre++[a]).map wq)=((indF by' (pre.map wq)++by')++a.text)++[10]:=by rw[hx,hae];simp[x7]
   rw[hae]at fc;have d7:(x7 true).length=1:=rfl;repeat' (first|apply qo|apply qy|apply qf|apply qh|apply qj|apply qg|(apply qt;rfl;rfl;rfl)|(apply qc;rfl;apply va;exact cAo)|(apply qc;rfl;apply cd_t;exact cRa)|(apply jz;rfl;rfl;exact cOs)|(apply zn;rfl;rfl;exact q6 Om Om)|(apply j7;rfl;rfl)|(apply zk;rfl;rfl;rfl)|(apply jq;rfl;rfl;rfl)|(apply jt;(iterate 5 rfl))|(apply jc;(iterate 11 rfl))|apply qv|(apply kp (n:=pre.length);(iterate 5 rfl);exact d8))
   exact qbq ⟨rfl,congrArg (λl:qa=>Sv l) hx2.symm,rfl,rfl,qii pre a,trivial⟩ rfl
end Go.Proofs.YtlekheifonaipaaGreatDoor
namespace Go.Av
open Go Go.RowKit
def TipC(b:Nat)(st:List AObj)(sz:Nat)(T:TypeId)(xs:List AV)(c:AV):Prop:=(xs=[]∧c=zm)∨∃t,c=.sl sz xs (some t)∧st[t]?=some (.tip xs.length sz T)∧b<=t
structure Fr (st st':List AObj) (t:Nat):Prop where
 len:st.length<=st'.length
 same:∀k,k≠t->k<st.length->st'[k]?=st[k]?
theorem zlf(b:Nat)(st:List AObj)(sz:Nat)(T:TypeId):TipC b st sz T [] zm:=.inl ⟨rfl,rfl⟩
theorem qlt{b:Nat}{st l:List AObj}{sz:Nat}{T:TypeId}{xs:List AV}{c:AV}(h:TipC b st sz T xs c):TipC b (st++l) sz T xs c:=by
 rcases h with h|⟨t,h1,h2,h3⟩
 .exact .inl h
 .exact .inr ⟨t,h1,by rw[Qc (lt_of_getElem? h2)];exact h2,h3⟩
section
variable {E : Env} {rd : Option Nat} {N : Nat} {ops : Array Oper} {K : AS → Prop} {s : AS} {rest : List Oper} {d : Option Tmp} {T : TypeId} {p : String} {af : Array Edge}
theorem q4d{x y:Operand}{t u T':TypeId}{sz bytes b:Nat}{xs ys:List AV}{tip:Option Nat}{c:AV}{st:List AObj}(e7:s.st=st)(hx:ql N s x=c)(hc:TipC b st sz T' xs c)(hb:b<=st.length)(hy:ql N s y=.sl sz ys tip)
  (ht:E.P.underlying t=some (.slice T')) (hu:E.P.underlying u=some (.slice T')) (hT:y0 E.P T' sz bytes) (m9:kc (flat ys)=true) (u7:xs.length+ys.length<=maxLen) (hby:(xs.length+ys.length)*bytes<=140737488355328)
  (h:∀t1 st',st'[t1]?=some (.tip (xs++ys).length sz T')->b<=t1->Fr st st' t1->(c=.sl sz xs (some t1)∨st.length<=t1)->AOps E rd N ops rest K (AS.put ⟨s.t,st',s.df⟩ d (.sl sz (xs++ys) (some t1)))):AOps E rd N ops (⟨d,.call ⟨.builtin .append,#[x,y],#[t,u]⟩,T,p,af,none⟩::rest) K s:=by
 subst e7;refine q9 rfl (q8 nofun λB0 w0 G a w _ hI=>?_);rcases hc with⟨nc,hcn⟩|⟨t1,h1,h2,h3⟩
 .subst nc
  have d7:=G.le_new 0 0 0 false;have hA:=hI.agree.newTip sz T';have hv:a.eval x=.slice none 0 0:=hI.evalv (hx.trans hcn);have hn:=hI.agree.n;obtain⟨news,k1,k2,k3⟩:=qap (P:=E.P) hA ((hI.eval_of hy).mono d7) (by simpa[kc]using m9)
  have hr:Rel (G.new 0 0 0 false) (.sl sz [] (some s.st.length)) (a.eval x):=by
   rw[hv];exact .sl0 sz _ none 0 λt ht=>by simp only[Za]at ht;subst ht;exact⟨by simp[Gh.new,hn],rfl,rfl⟩
  obtain⟨v',w',G',e1,e2,e3,e4⟩:=qde (ty:=T) hA ht hu (.inr ⟨_,rfl⟩) hT (t:=s.st.length) (n:=0) Sx hr rfl rfl k1 k2 k3 (by simpa using u7) (by simpa using hby);refine⟨v',w',G',_,_,?_,d7.trans e2,e3,e4,h s.st.length _ ?_ hb ⟨Sx,λk hk d9=>?_⟩ (.inr (Qb _))⟩
  .generalize a.eval=ρ at e1
   simp[execOp,resolve,invoke,builtin,e1]
  .simp
  .rw[Qi (Ne.symm hk),Qc d9]
 .obtain⟨news,k1,k2,k3⟩:=qap (P:=E.P) hI.agree (hI.eval_of hy) (by simpa[kc]using m9)
  obtain⟨v',w',G',e1,e2,e3,e4⟩:=qde (ty:=T) hI.agree ht hu (.inr ⟨_,rfl⟩) hT h2 (hI.eval_of (hx.trans h1)) rfl rfl k1 k2 k3 u7 hby;refine⟨v',w',G',_,_,?_,e2,e3,e4,h t1 _ ?_ h3 ⟨Sx,λk hk d9=>?_⟩ (.inl h1)⟩
  .generalize a.eval=ρ at e1
   simp[execOp,resolve,invoke,builtin,e1]
  .rw[Qa]
   exact kg h2
  .rw[Qi (Ne.symm hk)]
theorem qqq{t:TypeId}{x:Operand}{r:AV}{cs:List AV}(hx:ql N s x=r)(hok:r.okc=true)(hc:r.cells=cs)
  (h:AOps E rd N ops rest K (s.put d (.pp cs))):AOps E rd N ops (⟨d,.box t x,T,p,af,none⟩::rest) K s:=by
 refine q9 rfl (q8 nofun λB0 w0 G a w _ hI=>?_);have hr:=(hI.eval_of hx).cells hok;rw[hc]at hr;obtain⟨d7,hA⟩:=hI.agree.newPub t (a.eval x).cells (0,0) (a.eval x).cells.toList (λi y hy=>by simpa using hy)
 have a8:(execOp a.eval ⟨d,.box t x,T,p,af,none⟩).run E.P w=.ok (.value (.pointer (some ⟨w.heap.size,0,none⟩))) (w.alloc (.cells (a.eval x).cells t)):=by
  generalize a.eval=ρ;simp[execOp,Instr.box,newVar,newRow,newObj,Sem.run]
 refine⟨_,_,_,.pp cs,s.st,a8,d7,hA,.pp cs w.heap.size 0 (a.eval x).cells.toList (by simp[Gh.publish]) (by rw[hr.1];simp) λi x y hx hy=>(hr.2 i x y hx (by simpa using hy)).mono d7,h⟩
end
theorem qs5{E:Env}{f:FuncId}{x x':AV}{us:List AV}{st:List AObj}{R:AV->List AObj->Prop}(hw:∀G v,Rel G x v->Rel G x' v)(h:qp E f (x'::us) st R):qp E f (x::us) st R:=
 ⟨λB0 w0 G vals w hL hA hR=>h.run B0 w0 G vals w hL hA ⟨by have:=hR.1;simpa using this,λi a b ha hb=>by
  cases i with
  |zero=>simp at ha;subst ha;exact hw G b (hR.2 0 x b rfl hb)
  |succ i=>exact hR.2 (i+1) a b (by simpa using ha) hb⟩⟩
theorem qc4{st l:List AObj}{o:Nat}{x:AObj}(h:st[o]?=some x):(st++l)[o]?=some x:=by
 rw[Qc (lt_of_getElem? h)];exact h
theorem yg{st:List AObj}{x:AObj}:(st++[x])[st.length]?=some x:=Sx
section
variable {E : Env} {rd : Option Nat} {N : Nat} {ops : Array Oper} {K : AS → Prop} {s : AS} {rest : List Oper} {d : Option Tmp} {T : TypeId} {p : String} {af : Array Edge}
theorem qmz{t:TypeId}{st:List AObj}{cs:List AV}(e7:s.st=st)(hz:qh8 E.P t=some cs)
  (h:AOps E rd N ops rest K (AS.put ⟨s.t,st++[.cells 0 t cs],s.df⟩ d (.bx st.length 0 0))):AOps E rd N ops (⟨d,.alloc t,T,p,af,none⟩::rest) K s:=
 j7 (loc:=[]) (by rw[e7];simp) hz h
theorem zeo{t:TypeId}{x:Operand}{st:List AObj}{r:AV}{cs:List AV}(e7:s.st=st)(hx:ql N s x=r)(hok:r.okc=true)(hc:r.cells=cs)
  (h:AOps E rd N ops rest K (AS.put ⟨s.t,st++[.cells 0 t cs],s.df⟩ d (.bx st.length 0 0))):AOps E rd N ops (⟨d,.box t x,T,p,af,none⟩::rest) K s:=
 qb4 (loc:=[]) (by rw[e7];simp) hx hok hc h
end
theorem qor{st st':List AObj}(hl:st.length<=st'.length)(h:∀k,k<st.length->st'[k]?=st[k]?):∃ext,st'=st++ext:=by
 refine⟨st'.drop st.length,?_⟩;apply Qy;intro k;by_cases hk:k<st.length
 .rw[h k hk,Qc hk]
 .rw[Qj Om,Qk]
  congr 1;omega
end Go.Av
namespace Go.Proofs.YtlekheifonaipaaGreatDoor
open Go Go.Av Go.RowKit Go.Proofs
def qhz(x:Option AObj):Prop:=∀n sz T,x≠some (.tip n sz T)
theorem qbd{ver:Nat}{T:TypeId}{cs:List AV}{x:Option AObj}(h:x=some (.cells ver T cs)):qhz x:=λn sz T' e=>by
 rw[h]at e;simp at e
end Go.Proofs.YtlekheifonaipaaGreatDoor
namespace Go.Proofs.YtlekheifonaipaaGreatDoor
open Go Go.Av Go.RowKit Go.Proofs Go.Pl
structure Ext (n:Nat) (S S':List AObj):Prop where
 len:S.length<=S'.length
 low:∀k,k<n->S'[k]?=S[k]?
 tips:∀(t m sz:Nat)(T:TypeId),S[t]?=some (AObj.tip m sz T)->S'[t]?=S[t]?
theorem qig{n:Nat}{S l:List AObj}(h:n<=S.length):Ext n S (S++l):=⟨Sx,λk hk=>Qc Om,λt m sz T ht=>Qc (lt_of_getElem? ht)⟩
theorem qbg{n o:Nat}{S:List AObj}{x:AObj}(h:n<=o)(hn:qhz S[o]?):Ext n S (S.set o x):=⟨Sx,λk hk=>Qi Om,λt m sz T ht=>Qi (λe=>by subst e;exact hn _ _ _ ht)⟩
theorem Ext.weak{n m:Nat}{S S':List AObj}(h:Ext n S S')(hm:m<=n):Ext m S S':=⟨h.len,λk hk=>h.low k Om,h.tips⟩
theorem Ext.trans{n:Nat}{S S' S'':List AObj}(h:Ext n S S')(k:Ext n S' S''):Ext n S S'':=⟨Nat.le_trans h.len k.len,λi hi=>(k.low i hi).trans (h.low i hi),λt m sz T ht=>(k.tips t m sz T ((h.tips t m sz T ht).trans ht)).trans (h.tips t m sz T ht)⟩
theorem zhn(text:List UInt8)(o kb ver n m:Nat)(I:Nat->List UInt8->List AObj->Prop)(D:List AObj->Prop)(S:List AObj)(hm:S.length=m)(hn:n<=m)(ht:text.length<4294967281)(h0:I 0 text S)
  (hI:∀k rest S',I k rest S'->S'[kb]?=some (.cells ver 9 [Sv text]))
  (e7:∀k rest S' S'',Ext n S' S''->I k rest S'->I k rest S'')
  (hY:∀k rest S' cs,I k rest S'->S'[m]?=some (.cells 0 206 cs)->rest≠[]->rest.length<=text.length->yz E o [qff k text rest] S' λb S''=>S''[m]?=some (.cells 0 206 cs)∧(b=true->I (k+1) (past 10 rest) S'')∧(b=false->D S'')):
  qp E 154 [.yd o,.bx kb ver 0] S λr S'=>(∃k,I k [] S')∨D S':=by
 subst hm;refine qq Tryz.func154 rfl (Qd rfl) ?_;have hb:=hI 0 text S h0;repeat' (first|apply qo|apply qy|apply qf|apply qh|apply qg|(apply j7;rfl;rfl)|(apply jc;(iterate 11 rfl))|(apply yf;rfl;rfl;rfl)|(apply qbk;rfl;rfl;exact hb;rfl;rfl))
 refine jr (λ(x:Nat×List UInt8)s=>match x with|(k,rest)=>∃S' at' ta eb,I k rest S'∧k+rest.length<=text.length∧at'=(text.length:Int)-rest.length∧S'[S.length]?=some (.cells 0 206 [Iv k,Iv at',Sv ta,Bv eb])∧StA [(0,.yd o),(1,.bx kb ver 0),(3,.bx S.length 0 0),(4,Sv rest)] S' [] s) (λx=>x.2.length) (0,text)
  ⟨_,0,[],false,e7 _ _ _ _ (qig hn) h0,Sx,Sx,j9 (k:=0) rfl,z6 ⟨rfl,rfl,rfl,rfl,trivial⟩⟩ ?_
 rintro⟨k,rest⟩ _ ⟨S',_,ta,eb,hi,d7,rfl,bz,t,rfl⟩;have gb:=hI k rest S' hi;repeat' (first|apply qo|apply qy|apply qf|apply qh|apply qj|apply qg|(apply zf;rfl;rfl)|(apply jp;rfl;rfl;rfl)|(apply qc;rfl;apply cd_d<;>intro h)|(apply zk;rfl;rfl;rfl)|apply qv|apply z7|(apply qk;exact Tryz.call104;exact qlb _ _ _ Om)|(apply vc;rfl;(focus first|assumption|(repeat' (first|assumption|exact yg|exact j9 rfl|apply kg|apply j8|omega|apply qc4)));rfl;rfl)|(apply qan;rfl;rfl;(focus first|assumption|(repeat' (first|assumption|exact yg|exact j9 rfl|apply kg|apply j8|omega|apply qc4)));(iterate 6 rfl)))
 .have e1:Ext n S' ((S'.set S.length (.cells 0 206 [Iv k,Iv ((text.length:Int)-rest.length),Sv (upto 10 rest),Bv eb])).set S.length (.cells 0 206 [Iv k,Iv ((text.length:Int)-rest.length),Sv (upto 10 rest),Bv (decide (10∈rest))])):=
   (qbg hn (qbd bz)).trans (qbg hn (qbd (kg bz)))
  apply qdf (o:=o) rfl;refine yz.mono (hY k rest _ _ (e7 _ _ _ _ e1 hi) (kg (kg bz)) h Om) ?_;rintro b S2 ⟨hown2,h1,h2⟩
  show AOps _ _ _ _ _ _ _
  cases b
  .skip
   repeat' (first|apply qh|(apply ja;rfl)|(apply qc;rfl;apply qi3;exact cRa)|apply qu)
   exact qn rfl (y3 rfl) (.inr (h2 rfl))
  .have hi3:=h1 rfl
   have gc:=hI _ _ _ hi3;have hp:=vm 10 rest;have hr0:0<rest.length:=Qo.2 h
   have hkb:kb≠S.length:=λe=>by
    rw[e,hown2]at gc;simp at gc
   repeat' (first|apply qo|apply qf|apply qh|apply qj|(apply ja;rfl)|(apply qc;rfl;apply qi2;exact cRa)|(apply zr;rfl;rfl;rfl)|(apply zn;rfl;rfl;exact q6 Om Om)|(apply wx;rfl;rfl;exact q6 Om Om)|(apply zk;rfl;rfl;rfl)|apply qv|(apply vc;rfl;exact j8 gc (Ne.symm hkb);rfl;rfl)|(apply vc;rfl;(focus first|assumption|(repeat' (first|assumption|exact yg|exact j9 rfl|apply kg|apply j8|omega|apply qc4)));rfl;rfl)|(apply qan;rfl;rfl;(focus first|assumption|(repeat' (first|assumption|exact yg|exact j9 rfl|apply kg|apply j8|omega|apply qc4)));(iterate 6 rfl)))
   have e2:Ext n S2 _:=(qbg hn (qbd hown2)).trans (qbg (x:=.cells 0 206 [Iv ((k:Int)+1),Iv ((text.length:Int)-(past 10 rest).length),Sv (upto 10 rest),Bv (decide (10∈rest))]) hn (qbd (kg (y:=.cells 0 206 [Iv ((k:Int)+1),Iv ((text.length:Int)-rest.length),Sv (upto 10 rest),Bv (decide (10∈rest))]) hown2)));exact⟨(k+1,past 10 rest),⟨_,_,_,_,e7 _ _ _ _ e2 hi3,Om,rfl,kg (kg hown2),z6 ⟨rfl,rfl,rfl,rfl,trivial⟩⟩,by simp only;omega⟩
 .have hr:rest=[]:=Classical.not_not.1 h
  subst hr;exact qn rfl (y3 rfl) (.inl ⟨k,hi⟩)
structure ItC (g:FuncId) (T:TypeId) (cs:List AV) {ι:Type} (Y:ι->Option (AV×ι)) (i0:ι):Prop where
 run:∀(o kb n m:Nat)(I:ι->List AObj->Prop)(D:List AObj->Prop)(S:List AObj),S.length=m->n<=m->I i0 S->
  (∀i S',I i S'->S'[kb]?=some (.cells 0 T cs))->(∀i S' S'',Ext n S' S''->I i S'->I i S'')->
  (∀i x j S'(own:List AObj),I i S'->(∀k y,own[k]?=some y->S'[m+k]?=some y∧qhz (some y))->Y i=some (x,j)->yz E o [x] S' λb S''=>(∀k y,own[k]?=some y->S''[m+k]?=some y)∧(b=true->I j S'')∧(b=false->D S''))->
  qp E g [.yd o,.bx kb 0 0] S λr S'=>(∃i,Y i=none∧I i S')∨D S'
def qr8(text:List UInt8):Nat×List UInt8->Option (AV×(Nat×List UInt8))
 |(k,rest)=>if rest=[]∨text.length<rest.length then none else some (qff k text rest,(k+1,past 10 rest))
theorem zla(text:List UInt8)(ht:text.length<4294967281):ItC 154 9 [Sv text] (qr8 text) (0,text):=⟨λo kb n m I D S hm hn h0 hI e7 hY=>by
 refine(zhn text o kb 0 n m (λk rest S=>I (k,rest) S∧rest.length<=text.length) D S hm hn ht ⟨h0,Qb _⟩ (λk rest S' h=>hI _ _ h.1) (λk rest S' S'' hE h=>⟨e7 _ _ _ hE h.1,h.2⟩) (λk rest S' cs hi bz b9 d7=>?_)).mono ?_
 .refine(hY (k,rest) (qff k text rest) (k+1,past 10 rest) S' [.cells 0 206 cs] hi.1 (λj y hy=>?_) (if_neg λh=>h.elim b9 Om)).mono λb S'' ⟨h1,h2,h3⟩=>⟨by have:=h1 0 _ rfl;simpa using this,λhb=>⟨h2 hb,by have:=vm 10 rest;omega⟩,h3⟩
  match j with
  |0=>
   simp only[List.getElem?_cons_zero,Za]at hy;subst hy
   exact⟨bz,qbd rfl⟩
  |j+1=>simp at hy
 .rintro r S' (⟨k,h⟩|h)
  .exact .inl ⟨(k,[]),by simp[qr8],h.1⟩
  .exact .inr h⟩
@[reducible] def zhd (n : Nat) (F : LoopState → Option Code → AObj) (own : List AObj) (I : List AObj → Prop) (D : Code → List AObj → Prop) : Exit → AS → Prop
 |.normal,s=>s.st[n]?=some .dfr∧s.st[n+1]?=some (F .busy none)∧(∀k y,own[k]?=some y->s.st[n+2+k]?=some y)∧I s.st
 |.ret,s=>s.st[n]?=some .dfr∧s.st[n+1]?=some (F .busy none)∧(∀k y,own[k]?=some y->s.st[n+2+k]?=some y)∧D .ret s.st
 |.exit id,s=>s.st[n]?=some .dfr∧s.st[n+1]?=some (F .busy none)∧(∀k y,own[k]?=some y->s.st[n+2+k]?=some y)∧D (.exit id) s.st
 |_,_=>False
theorem qc8{N:Nat}{t:Nat->AV}{ps:Array Tmp}{asg body:Code}{F:LoopState->Option Code->AObj}(hF:qlw F N t ps asg body)(ls:LoopState)(pend:Option Code){x:Option AObj}(h:x=some (F ls pend)):qhz x:=λn sz T' e=>by
 rw[h,hF]at e;simp at e
theorem q4s{N:Nat}{Q:Exit->AS->Prop}{s:AS}{f:Operand}{p:Tmp}{asg body:Code}{S0:List AObj}{kb:Nat}{g:FuncId}{T:TypeId}{cs:List AV}{ι:Type}{Y:ι->Option (AV×ι)}{i0:ι}(tj:ItC g T cs Y i0)(e7:s.st=S0)(hx:ql N s f=.fn (.func g) [] [.bx kb 0 0])
  (a8:∀vs w,(callFunc g vs).run E.P w=.ok (.enter g vs) w)
  (I:ι->List AObj->Prop) (D:Code->List AObj->Prop) (h0:I i0 S0)
  (hI:∀i S,I i S->S[kb]?=some (.cells 0 T cs))
  (pd:∀i S S',Ext S0.length S S'->I i S->I i S') (pt:∀c S S',Ext S0.length S S'->D c S->D c S')
  (hb:∀F(own:List AObj)rd i x j S,qlw F N s.t #[p] asg body->I i S->Y i=some (x,j)->S[S0.length]?=some .dfr->S[S0.length+1]?=some (F .ready none)->(∀k y,own[k]?=some y->S[S0.length+2+k]?=some y∧qhz (some y))->
   AWp E (some rd) N asg (only λs1=>s1.st[S0.length+1]?=some (F .ready none)∧s1.df=[]∧AWp E (some rd) N body (zhd S0.length F own (I j) D) ⟨s1.t,s1.st.set (S0.length+1) (F .busy none),[]⟩) ⟨put s.t p x,S,[]⟩)
  (hn:∀i S,Y i=none->I i S->S[S0.length]?=some .dfr->Q .normal ⟨s.t,S,S0.length::s.df⟩)
  (hd:∀c S,D c S->S[S0.length]?=some .dfr->AWp E none N c Q ⟨s.t,S,S0.length::s.df⟩):AWp E none N (.rangeFunc f #[p] asg body) Q s:=by
 refine qkg (st:=S0) (loc:=[]) (by rw[e7];simp) hx a8 λF hF=>?_;have hl:(S0++([]++[AObj.dfr,F .ready none])).length=S0.length+2:=Sx
 have g1:(S0++([]++[AObj.dfr,F .ready none]))[S0.length]?=some .dfr:=Sx
 have g2:(S0++([]++[AObj.dfr,F .ready none]))[S0.length+1]?=some (F .ready none):=Sx
 have hz:S0.length+(([]:List AObj).length+1)=S0.length+1:=Sx
 rw[hz,show S0.length+([]:List AObj).length=S0.length from rfl];refine qp.mono (tj.run (S0.length+1) kb (S0.length+2) (S0.length+2) (λi S=>I i S∧S[S0.length]?=some .dfr∧S[S0.length+1]?=some (F .ready none)) (λS=>∃c,D c S∧S[S0.length]?=some .dfr∧S[S0.length+1]?=some (F .done (some c))) (S0++([]++[.dfr,F .ready none])) hl (Qb _) ⟨pd _ _ _ (qig (Qb _)) h0,g1,g2⟩ (λi S h=>hI i S h.1) (λi S S' hE h=>⟨pd _ _ _ (hE.weak Om) h.1,(hE.low _ Om).trans h.2.1,(hE.low _ Om).trans h.2.2⟩) ?_) ?_
 .rintro i x j S' own ⟨hi,hd1,mf⟩ bz hy
  refine qoi hF mf rfl λrd=>?_;refine(hb F own rd i x j S' hF hi hy hd1 mf bz).mono λe s1 hq=>?_;have fin:∀{S:List AObj}{z:AObj},(∀k y,own[k]?=some y->S[S0.length+2+k]?=some y)->∀k y,own[k]?=some y->(S.set (S0.length+1) z)[S0.length+2+k]?=some y:=λh k y hk=>j8 (h k y hk) Om
  cases e with
  |normal=>
   obtain⟨q1,q2,q3⟩:=hq;refine⟨q1,q2,q3.mono λe s2 s4=>?_⟩
   cases e with
   |normal=>
    obtain⟨k1,k2,k3,k4⟩:=s4
    exact⟨k2,fin k3,λ_=>⟨pd _ _ _ (qbg Om (qc8 hF _ _ k2)) k4,j8 k1 Om,kg k2⟩,nofun⟩
   |ret=>
    obtain⟨k1,k2,k3,k4⟩:=s4
    exact⟨k2,fin k3,nofun,λ_=>⟨_,pt _ _ _ (qbg Om (qc8 hF _ _ k2)) k4,j8 k1 Om,kg k2⟩⟩
   |exit id=>
    obtain⟨k1,k2,k3,k4⟩:=s4
    exact⟨k2,fin k3,nofun,λ_=>⟨_,pt _ _ _ (qbg Om (qc8 hF _ _ k2)) k4,j8 k1 Om,kg k2⟩⟩
   |_=>exact s4.elim
  |_=>exact hq.elim
 .rintro r S' (⟨i,hy,hi,hd1,mf⟩|⟨c,hi,hd1,mf⟩)
  .exact⟨.ready,none,nofun,mf,hn i _ hy (pd _ _ _ (qbg Om (qc8 hF _ _ mf)) hi) (j8 hd1 Om)⟩
  .exact⟨.done,some c,nofun,mf,hd c _ (pt _ _ _ (qbg Om (qc8 hF _ _ mf)) hi) (j8 hd1 Om)⟩
end Go.Proofs.YtlekheifonaipaaGreatDoor
namespace Go.Av
open Go Go.RowKit
theorem qwa{P:Program}{B0:Nat}{w0:World}{G:Gh}{st:List AObj}{w:World}(hA:zl B0 w0 G st w){tt u ty T:TypeId}{du:TypeDesc}(htt:P.underlying tt=some (.slice T))(hu:P.underlying u=some du)(hd:qk5 du)
  {sz bytes:Nat} (hT:y0 P T sz bytes) {t n m:Nat} (ht:st[t]?=some (.tip n sz T)) {xs ys:List AV} {x:Value} (hn:xs.length=n) (hm:ys.length=m)
  {news:List Value} (hx:Src P w x m sz news) (hys:∀y∈ys,y.cells.length=sz) (i6:∀(i:Nat)(a:AV)(b:Value),(flat ys)[i]?=some a->news[i]?=some b->Rel G a b)
  (u7:n+m<=maxLen) (base:Option Addr) (c:Nat) (olds:List Value) (ho:(Builtin.firstCells sz n (.slice base n c)).run P w.drew=.ok olds.toArray w.drew) (hc:c<n+m) (mw:olds.length=n*sz) (nt:(flat xs).length=n*sz) (hwx:∀x∈xs,x.cells.length=sz)
  (hrx:∀(j:Nat)(a:AV)(b:Value),(flat xs)[j]?=some a->olds[j]?=some b->Rel G a b) (i9:Builtin.nextslicecap (n+m) c*bytes<=281474976710656) (ln:m≠0):
  ∃v' w' G',(Builtin.append_ #[tt,u] ty #[.slice base n c,x]).run P w=.ok v' w'∧G.le G'∧zl B0 w0 G' (st.set t (.tip (n+m) sz T)) w'∧Rel G' (.sl sz (xs++ys) (some t)) v':=by
 obtain⟨i,z,hi,hz,rfl,rfl,pj⟩:=hT.ex;obtain⟨hraw,cj,htip⟩:=hA.ob t _ ht;have htn:t<G.n:=by rw[hA.n];exact lt_of_getElem? ht
 have d9:G.n=st.length:=hA.n;have hk:=hA.kill t;have rk:(st.set t .dead)[t]?=some .dead:=qbc ht
 have o9:∀o x,(st.set t .dead)[o]?=some x->x.live->o≠t∧st[o]?=some x:=λo x hx hl=>by
  rcases getElem?_set' _ _ _ _ _ hx with⟨_,e⟩|⟨h1,h2⟩
  .subst e;exact hl.elim
  .exact⟨h1,h2⟩
 have lx:(st.set t AObj.dead).set t (.tip (n+m) i.size T)=st.set t (.tip (n+m) i.size T):=by rw[Zs]
 have o7:st.set t (.tip n i.size T)=st:=by
  apply Qy;intro k;by_cases e:t=k
  .subst e;rw[Zb (lt_of_getElem? ht)];exact ht.symm
  .rw[Qi e]
 have a8:=qh5 (ty:=ty) htt hu hd hi hz hx base n c olds ho hc (by simp only[maxLen]at u7;omega) i9;have ft:=grownCap_ge w (n+m) c T;have d7:=grownCap_le_maxLen w (n+m) c T u7;generalize grownCap w (n+m) c T=cap at a8 ft d7
 have o6:(olds.toArray++news.toArray++Builtin.zeroCells z.cells (cap-(n+m))).size=cap*i.size:=by
  simp only[Array.size_append,List.size_toArray,size_zeroCells,pj,mw,hx.count,<-Qx];congr 1;omega
 generalize hcv:olds.toArray++news.toArray++Builtin.zeroCells z.cells (cap-(n+m))=c' at a8 o6;have bv:Below w.heap.size w w.drew:=⟨rfl,rfl,rfl,Qb _,λ_ _=>rfl⟩;have gw:=hk.fresh bv
 have gq:∀(j:Nat)(y:Value),(olds++news)[j]?=some y->c'[j]?=some y:=λj y hy=>by
  have hj:=lt_of_getElem? hy;rw[<-hcv,Array.getElem?_append_left (by simp at hj⊢;omega),List.append_toArray]
  simpa using hy
 obtain⟨u6,mb⟩:=gw.newPub T c' (0,0) (olds++news) gq
 have hnp:G.pub w.heap.size=none:=by
  cases hp:G.pub w.heap.size with
  |none=>rfl
  |some vs=>exact absurd (hA.pub_lt hp) (Xc _)
 obtain⟨bp,hA3⟩:=mb.setTip (n':=n+m) (vs:=olds++news) (k:=w.heap.size) (cap:=cap*i.size) (sz:=i.size) (T:=T) rk (by simpa[Gh.publish]using hraw) (by simpa[Gh.publish]using cj) Om (y5 w.drew _) (by simp[Gh.publish]) (by simp[mw,hx.count,Qx]) o6 hA.hB (λo x hx hl=>by
  obtain⟨_,i4⟩:=o9 o x hx hl
  exact Xe ((hA.ob o x i4).lt hl))
 rw[lx]at hA3;refine⟨_,_,_,a8,u6.trans bp,hA3,?_⟩;have bw:∀{a b},Rel G a b->Rel ((G.publish w.drew.heap.size (olds++news)).setOb t ⟨n+m,w.heap.size,cap*i.size,false⟩) a b:=λh=>(h.mono u6).mono bp;refine q0c (n:=n) (m:=m) (cap:=cap) (k:=w.heap.size) (vs:=olds) (news:=news) (by simp[Gh.setOb]) (by simp[Gh.setOb]) (by simp[Gh.setOb]) d7 ft (by simpa[Gh.setOb,Gh.publish]using htn) Om hn hm (by simp[Gh.setOb,Gh.publish]) (λy hy=>?_) mw hx.count nt (λj a b h1 h2=>bw (hrx j a b h1 h2)) (λj a b h1 h2=>bw (i6 j a b h1 h2));rcases Qz.1 hy with h|h
 .exact hwx y h
 .exact hys y h
def TipO(b:Nat)(st:List AObj)(sz:Nat)(T:TypeId)(xs:List AV)(c:AV):Prop:=TipC b st sz T xs c∨(xs=[]∧∃o v f,c=.os o v f 0 0)
theorem q8a(b:Nat)(st:List AObj)(sz:Nat)(T:TypeId):TipO b st sz T [] zm:=.inl (zlf ..)
theorem zbv(b:Nat)(st:List AObj)(sz:Nat)(T:TypeId)(o v f:Nat):TipO b st sz T [] (.os o v f 0 0):=.inr ⟨rfl,_,_,_,rfl⟩
theorem znl{G:Gh}{o v f:Nat}{sz:Nat}{x:Value}(h:Rel G (.os o v f 0 0) x):Rel G (.sl sz [] none) x:=by
 cases h with
 |os _ _ _ _ b _ hn hv h=>exact .sl0 sz none _ _ Sx
section
variable {E : Env} {rd : Option Nat} {N : Nat} {ops : Array Oper} {K : AS → Prop} {s : AS} {rest : List Oper} {d : Option Tmp} {T : TypeId} {p : String} {af : Array Edge}
theorem qk9{x y:Operand}{t u T':TypeId}{sz bytes b:Nat}{xs ys:List AV}{tip:Option Nat}{c:AV}{st:List AObj}(e7:s.st=st)(hx:ql N s x=c)(hy:ql N s y=.sl sz ys tip)
  (ht:E.P.underlying t=some (.slice T')) (hu:E.P.underlying u=some (.slice T')) (hT:y0 E.P T' sz bytes) (hc:TipO b st sz T' xs c) (hb:b<=st.length) (m9:kc (flat ys)=true) (u7:xs.length+ys.length<=maxLen) (hby:(xs.length+ys.length)*bytes<=140737488355328)
  (h:∀c' st' t1,TipO b st' sz T' (xs++ys) c'->Fr st st' t1->b<=t1->(c=.sl sz xs (some t1)∨st.length<=t1)->AOps E rd N ops rest K (AS.put ⟨s.t,st',s.df⟩ d c')):AOps E rd N ops (⟨d,.call ⟨.builtin .append,#[x,y],#[t,u]⟩,T,p,af,none⟩::rest) K s:=by
 rcases hc with hc|⟨nc,o,ver,f,hco⟩
 .refine q4d e7 hx hc hb hy ht hu hT m9 u7 hby λt1 st' g1 g2 g3 g4=>h _ st' t1 (.inl (.inr ⟨t1,rfl,g1,g2⟩)) g3 g2 g4
 .subst e7
  subst nc;refine q9 rfl (q8 nofun λB0 w0 G a w _ hI=>?_);have he:=hI.eval_of (hx.trans hco);obtain⟨news,k1,k2,k3⟩:=qap (P:=E.P) hI.agree (hI.eval_of hy) (by simpa[kc]using m9);have hex:=hT.ex;obtain⟨i,z,hi,hz,o6,hbt,pj⟩:=hex;generalize hv:a.eval x=v at he
  cases he with
  |os _ _ _ _ blk _ hn hvv hbb=>
   by_cases ln:ys.length=0
   .have sg:ys=[]:=Qg ln
    subst sg
    have hk1':Src E.P w (a.eval y) 0 i.size []:=by
     have:news=[]:=Qg (by simpa using k1.count);rw[o6];rw[this]at k1;exact k1
    refine⟨_,w,G,_,s.st,?_,.refl G,hI.agree,.os o ver f 0 blk 0 hn hvv hbb,h _ s.st s.st.length (.inr ⟨rfl,o,ver,f,rfl⟩) ⟨Qb _,λ_ _ _=>rfl⟩ hb (.inr (Qb _))⟩;have:=qdo (ty:=T) ht hu (.inr ⟨_,rfl⟩) hi hk1' (some ⟨blk,f,none⟩) 0 0 (Qb _);generalize a.eval=ρ at hv this;simp[execOp,resolve,invoke,builtin,hv,this]
   .have d7:=G.le_new 0 0 0 false
    have hA:=hI.agree.newTip sz T';have hz63:0+ys.length<=maxLen:=by simpa using u7
    obtain⟨v',w',G',e1,e2,e3,e4⟩:=qwa (ty:=T) hA ht hu (.inr ⟨_,rfl⟩) hT (t:=s.st.length) (n:=0) (xs:=[]) Sx rfl rfl k1 k2 (λi a b h1 h2=>(k3 i a b h1 h2).mono d7) hz63 (some ⟨blk,f,none⟩) 0 []
     (run_firstCells_some w.drew sz 0 ⟨blk,f,none⟩ 0 0 [] Sx Sx) Om Sx (by simp[flat]) Sx (by simp[flat]) (by rw[Qt,nextslicecap_zero Om];have:=hby;simp at this;omega) ln
    refine⟨v',w',G',_,_,?_,d7.trans e2,e3,e4,h _ _ s.st.length (.inl (.inr ⟨s.st.length,rfl,?_,hb⟩)) ⟨Sx,λk hk d9=>?_⟩ hb (.inr (Qb _))⟩
    .generalize a.eval=ρ at e1 hv
     simp[execOp,resolve,invoke,builtin,hv,e1]
    .simp
    .rw[Qi (Ne.symm hk),Qc d9]
end
theorem qdv{α:Type}{g:α->AV}{l:List α}(h:∀a,kc (g a).cells=true):kc (flat (l.map g))=true:=by
 induction l with
 |nil=>rfl
 |cons a r ih=>
  have h1:=h a;unfold kc flat at *;rw[Qq,Qr,List.all_append,h1,ih];rfl
theorem qpt{b:Nat}{st:List AObj}{sz:Nat}{T:TypeId}{xs:List AV}{c:AV}(h:TipO b st sz T xs c):∀G v,Rel G c v->Rel G (.sl sz xs none) v:=by
 rcases h with(⟨rfl,rfl⟩|⟨t,rfl,_⟩)|⟨rfl,o,v,f,rfl⟩
 .exactλG v h=>qcw h
 .exactλG v h=>qmt h
 .exactλG v h=>znl h
end Go.Av
namespace Go.Av
open Go Go.RowKit
inductive SrcA (st:List AObj) (sz:Nat):AV->Nat->Nat->List AV->Prop
 |sl (ys:List AV) (tip:Option Nat) (m9:kc (flat ys)=true):SrcA st sz (.sl sz ys tip) ys.length ys.length (flat ys)
 |os (o ver off L cap m:Nat) (T:TypeId) (cs:List AV) (ho:st[o]?=some (.cells ver T cs)) (i9:off+m*sz<=cs.length) (m9:kc ((cs.drop off).take (m*sz))=true):SrcA st sz (.os o ver off L cap) L m ((cs.drop off).take (m*sz))
structure SrcP (P:Program) (w:World) (x:Value) (L m size:Nat) (news:List Value):Prop where
 len:∀w',(Builtin.lenOf x).run P w'=.ok L w'
 cells:∀w',Below w.heap.size w w'->(Builtin.firstCells size m x).run P w'=.ok news.toArray w'
 count:news.length=m*size
 one:∀u∈news,u.oneCell'=true
section
variable {B0 : Nat} {w0 : World} {G : Gh} {st : List AObj} {w : World}
theorem zbs{P:Program}(hA:zl B0 w0 G st w){sz L m:Nat}{a:AV}{zs:List AV}{x:Value}(h:SrcA st sz a L m zs)(hr:Rel G a x):
  ∃news,SrcP P w x L m sz news∧zs.length=m*sz∧∀(i:Nat)(a:AV)(b:Value),zs[i]?=some a->news[i]?=some b->Rel G a b:=by
 cases h with
 |sl ys tip m9=>
  obtain⟨news,h1,h2,h3⟩:=qap (P:=P) hA hr (by simpa[kc]using m9)
  exact⟨news,⟨h1.len,h1.cells,h1.count,h1.one⟩,zv h2,h3⟩
 |os o ver off _ cap _ T cs ho i9 m9=>
  obtain⟨g0,g1,g2,g3,c,g4,g5,g6⟩:=hA.ob o _ ho
  cases hr with
  |os _ _ _ _ b _ hn hv hb=>
   have hb:=hb g1;subst hb
   have d8:∀(j:Nat)(y:Value),((c.toList.drop off).take (m*sz))[j]?=some y->j<m*sz∧c[off+j]?=some y:=λj y hy=>by
    rw[Qn]at hy;split at hy
    .rename_i hj
     rw[Qk]at hy;exact⟨hj,by simpa using hy⟩
    .simp at hy
   have rl:((c.toList.drop off).take (m*sz)).length=m*sz:=by
    simp;omega
   refine⟨(c.toList.drop off).take (m*sz),⟨λw'=>by simp[Builtin.lenOf],λw' p8=>?_,rl,λu hu=>?_⟩,So,λi a b h1 h2=>?_⟩
   .refine run_firstCells_some w' sz m ⟨(G.ob o).blk,off,none⟩ L cap _ rl λj y hy=>?_
    obtain⟨hj,hy⟩:=d8 j y hy
    have d9:(G.ob o).blk<w.heap.size:=by
     rcases Nat.lt_or_ge (G.ob o).blk w.heap.size with h'|h'
     .exact h'
     .simp[Array.getElem?_eq_none h']at g4
    have e1:w'.heap[(G.ob o).blk]?=some (.cells c T (0,0)):=by rw[p8.block _ d9];exact g4
    rw[Addr.add_lit];simp[World.cell?,e1,hy]
   .obtain⟨j,hj⟩:=List.getElem?_of_mem hu
    obtain⟨h1,h2⟩:=d8 j u hj;have hlc:off+j<cs.length:=Om
    have hx:cs[off+j]?=some cs[off+j]:=Qv hlc;have hz:((cs.drop off).take (m*sz))[j]?=some cs[off+j]:=by rw[Qu h1,Qk];exact hx
    exact(g6 _ _ u hx h2).one (Zw.1 m9 _ (Zp hz))
   .obtain⟨h3,h4⟩:=d8 i b h2
    rw[Qu h3,Qk]at h1;exact g6 _ a b h1 h4
theorem qk8(hA:zl B0 w0 G st w){o ver off:Nat}{T:TypeId}{cs zs:List AV}{news:List Value}{c:Array Value}(ho:st[o]?=some (.cells ver T cs))(g4:w.heap[(G.ob o).blk]?=some (.cells c T (0,0)))(i9:off+zs.length<=cs.length)(hl:zs.length=news.length)
  (hr:∀(i:Nat)(a:AV)(b:Value),zs[i]?=some a->news[i]?=some b->Rel G a b):zl B0 w0 G (st.set o (.cells ver T (z4 cs off zs))) (w.setRow (G.ob o).blk (c.toList.take off++news++c.toList.drop (off+news.length)).toArray):=by
 obtain⟨_,_,_,_,c',h4,g5,g6⟩:=hA.ob o _ ho;rw[g4]at h4;simp only[Za,Obj.cells.injEq,and_true]at h4;subst h4;refine hA.setRow ho (by simp[z4];omega) ?_
 have e1:∀(j:Nat)(a:AV)(b:Value),(cs.take off)[j]?=some a->(c.toList.take off)[j]?=some b->Rel G a b:=λj a b h1 h2=>by
  rw[Qn]at h1 h2;split at h1
  .rename_i hj
   rw[if_pos hj]at h2;exact g6 j a b h1 (by simpa using h2)
  .simp at h1
 have e2:=qby (G:=G) (cs:=cs.take off) (ds:=zs) (vs:=c.toList.take off) (us:=news) So e1 hr
 have e3:=qby (G:=G) (cs:=cs.take off++zs) (ds:=cs.drop (off+zs.length)) (vs:=c.toList.take off++news) (us:=c.toList.drop (off+news.length)) So e2 (λj a b h1 h2=>by
  rw[Qk]at h1 h2;rw[hl]at h1
  exact g6 _ a b h1 (by simpa using h2))
 unfold z4;intro j a b h1 h2;exact e3 j a b h1 (by simpa using h2)
end
section
variable {E : Env} {rd : Option Nat} {N : Nat} {ops : Array Oper} {K : AS → Prop} {s : AS} {rest : List Oper} {d : Option Tmp} {T : TypeId} {p : String} {af : Array Edge}
theorem qp8{x y:Operand}{t u T':TypeId}{sz bytes o ver n cap m:Nat}{cs zs:List AV}{a:AV}(hx:ql N s x=.os o ver 0 n cap)(hy:ql N s y=a)(ho:s.st[o]?=some (.cells ver T' cs))(cg:SrcA s.st sz a m m zs)
  (ht:E.P.underlying t=some (.slice T')) (hu:E.P.underlying u=some (.slice T')) (hT:y0 E.P T' sz bytes) (p7:n+m<=cap) (sr:cs.length=cap*sz)
  (h:AOps E rd N ops rest K (AS.put ⟨s.t,s.st.set o (.cells ver T' (z4 cs (n*sz) zs)),s.df⟩ d (.os o ver 0 (n+m) cap))):AOps E rd N ops (⟨d,.call ⟨.builtin .append,#[x,y],#[t,u]⟩,T,p,af,none⟩::rest) K s:=by
 refine q9 rfl (q8 nofun λB0 w0 G a0 w _ hI=>?_);obtain⟨i,z,hi,hz,rfl,rfl,pj⟩:=hT.ex;obtain⟨news,h1,h2,h3⟩:=zbs (P:=E.P) hI.agree cg (hI.eval_of hy);have hv:=hI.eval_of hx;generalize dk:a0.eval x=v at hv;obtain⟨g0,g1,g2,g3,c,g4,g5,g6⟩:=hI.agree.ob o _ ho;have hmul:n*i.size+m*i.size<=cap*i.size:=by rw[<-Qx];exact Ql _ p7
 cases hv with
 |os _ _ _ _ b _ hn hv hb=>
  have hb:=hb g1;subst hb;have a8:=qlr (ty:=T) ht hu (.inr ⟨_,rfl⟩) hi ⟨h1.len,h1.cells,h1.count,h1.one⟩ (G.ob o).blk n cap c g4 p7 (by rw[h1.count];omega);refine⟨_,_,G,_,_,?_,.refl G,qk8 hI.agree ho g4 Om (by rw[h1.count];exact h2) h3,.os o ver 0 (n+m) _ cap hn hv (λ_=>rfl),h⟩;generalize a0.eval=ρ at a8 dk⊢;simp[execOp,resolve,invoke,builtin,dk,a8]
theorem qbv{x y:Operand}{t u T':TypeId}{sz bytes o ver off dl dc L m:Nat}{cs zs:List AV}{a:AV}(hx:ql N s x=.os o ver off dl dc)(hy:ql N s y=a)(ho:s.st[o]?=some (.cells ver T' cs))(cg:SrcA s.st sz a L m zs)(hm:Nat.min L dl=m)
  (ht:E.P.underlying t=some (.slice T')) (hT:y0 E.P T' sz bytes) (i9:off+m*sz<=cs.length)
  (h:AOps E rd N ops rest K (AS.put ⟨s.t,s.st.set o (.cells ver T' (z4 cs off zs)),s.df⟩ d (Iv (m:Nat)))):AOps E rd N ops (⟨d,.call ⟨.builtin .copy,#[x,y],#[t,u]⟩,T,p,af,none⟩::rest) K s:=by
 refine q9 rfl (q8 nofun λB0 w0 G a0 w _ hI=>?_);obtain⟨i,z,hi,hz,rfl,rfl,pj⟩:=hT.ex;obtain⟨news,h1,h2,h3⟩:=zbs (P:=E.P) hI.agree cg (hI.eval_of hy);have hv:=hI.eval_of hx;generalize dk:a0.eval x=v at hv;obtain⟨g0,g1,g2,g3,c,g4,g5,g6⟩:=hI.agree.ob o _ ho
 cases hv with
 |os _ _ _ _ b _ hn hv hb=>
  have hb:=hb g1;subst hb;have e7:=run_storeCells_at E.P (G.ob o).blk off T' news 0 c w g4 (by rw[h1.count];omega) h1.one;simp only[Xf]at e7;have gr:=h1.cells w (Below.refl _ _);refine⟨_,_,G,_,_,?_,.refl G,qk8 hI.agree ho g4 Om (by rw[h1.count];exact h2) h3,.v _,h⟩;have hl:=h1.len w;generalize a0.eval=ρ at dk e7 gr hl⊢;simp[execOp,resolve,invoke,builtin,dk,Builtin.copy_,run_underlying ht,sizeOf,typeInfo,hi,hl,hm,gr,e7,goInt]
def zb1(P:Program)(T:TypeId):Bool:=
 match P.info? T with
 |some i=>(match i.zero with
  |some z=>z.cells.toList.all Value.oneCell'
  |none=>false)
 |none=>false
theorem q4g{x:Operand}{t T':TypeId}{sz bytes o ver off n cap:Nat}{cs:List AV}(hx:ql N s x=.os o ver off n cap)(ho:s.st[o]?=some (.cells ver T' cs))
  (ht:E.P.underlying t=some (.slice T')) (hT:y0 E.P T' sz bytes) (hz1:zb1 E.P T'=true) (i9:off+n*sz<=cs.length)
  (h:∀zs:List AV,zs.length=n*sz->AOps E rd N ops rest K (AS.put ⟨s.t,s.st.set o (.cells ver T' (z4 cs off zs)),s.df⟩ d (.v undef))):AOps E rd N ops (⟨d,.call ⟨.builtin .clear,#[x],#[t]⟩,T,p,af,none⟩::rest) K s:=by
 refine q9 rfl (q8 nofun λB0 w0 G a0 w _ hI=>?_);obtain⟨i,z,hi,hz,rfl,rfl,pj⟩:=hT.ex;have hv:=hI.eval_of hx;generalize dk:a0.eval x=v at hv;obtain⟨g0,g1,g2,g3,c,g4,g5,g6⟩:=hI.agree.ob o _ ho
 cases hv with
 |os _ _ _ _ b _ hn hv hb=>
  have hb:=hb g1;subst hb;by_cases h0:n=0
  .subst h0
   have o7:s.st.set o (.cells ver T' (z4 cs off []))=s.st:=by
    have e:z4 cs off []=cs:=by simp[z4]
    rw[e];apply Qy;intro k;by_cases e:o=k
    .subst e;rw[Zb (lt_of_getElem? ho)];exact ho.symm
    .rw[Qi e]
   have hh:=h [] Sx;refine⟨_,_,G,_,_,?_,.refl G,hI.agree,.v _,by rw[o7]at hh;exact hh⟩;generalize a0.eval=ρ at dk⊢;simp[execOp,resolve,invoke,builtin,dk,Builtin.clear_,run_underlying ht,undef]
  .have hzl:(Builtin.zeroCells z.cells n).toList.length=n*i.size:=by simp[size_zeroCells,pj]
   have hz1:∀u∈(Builtin.zeroCells z.cells n).toList,u.oneCell'=true:=λu hu=>by
    unfold zb1 at hz1;rw[hi]at hz1;simp only[hz]at hz1;refine Zw.1 hz1 u ?_;simp only[Builtin.zeroCells,Array.toList_map,Zr,Array.toList_range,List.mem_range]at hu;obtain⟨q,hq,rfl⟩:=hu
    have hp:q%z.cells.size<z.cells.size:=Nat.mod_lt _ (by
     rcases Nat.eq_zero_or_pos z.cells.size with h|h
     .rw[h]at hq;omega
     .exact h)
    rw[getElem!_pos z.cells _ hp];simp
   have e7:=run_storeCells_at E.P (G.ob o).blk off T' (Builtin.zeroCells z.cells n).toList 0 c w g4 (by rw[hzl];omega) hz1;simp only[Xf]at e7;have hh:=h ((Builtin.zeroCells z.cells n).toList.map AV.v) (by simpa using hzl);refine⟨_,_,G,_,_,?_,.refl G,qk8 (news:=(Builtin.zeroCells z.cells n).toList) hI.agree ho g4 (by rw[Qh,hzl];exact i9) Sx (λj a b h1 h2=>?_),.v _,hh⟩
   .generalize a0.eval=ρ at dk e7⊢
    obtain⟨n',rfl⟩:∃n',n=n'+1:=⟨n-1,Om⟩;simp[execOp,resolve,invoke,builtin,dk,Builtin.clear_,run_underlying ht,zeroValue,typeInfo,hi,hz,e7,undef]
   .rw[Qs,h2]at h1
    simp at h1;subst h1;exact .v _
theorem qyo{P:Program}{t e:TypeId}{sz:Nat}{agg:Bool}(hu:P.underlying t=some (.slice e))(ht:tyOf P e=some (sz,agg))(a:Option Addr)(len cap:Nat)(lo hi mx:Option Value)(i j m:Nat)(w:World)
  (fg:match lo with|none=>i=0|some v=>∃k,v=.int k (i:Int)) (cn:match hi with|none=>j=len∧mx=none|some v=>∃k,v=.int k (j:Int)) (hmx:match mx with|none=>m=cap|some v=>∃k,v=.int k (m:Int)) (h1:i<=j) (h2:j<=m) (h3:m<=cap):
  (Instr.slice t (.slice a len cap) lo hi mx).run P w=.ok (.slice (if m=i then a else a.map (·.add (i*sz))) (j-i) (m-i)) w:=by
 have hs:=(vp ht w).1
 cases lo with
 |none=>
  simp only at fg;subst fg
  cases hi with
  |none=>
   obtain⟨rfl,rfl⟩:=cn;simp only at hmx;subst hmx
   simp[Instr.slice,run_underlying hu,Instr.sliceBounds,hs]
  |some v=>
   obtain⟨k,rfl⟩:=cn
   cases mx with
   |none=>
    simp only at hmx;subst hmx
    simp[Instr.slice,run_underlying hu,Instr.sliceBounds,Instr.sliceBound,asIntOf,hs,h2]
   |some u=>
    obtain⟨k',rfl⟩:=hmx
    simp[Instr.slice,run_underlying hu,Instr.sliceBounds,Instr.sliceBound,asIntOf,hs,h2,h3]
 |some u=>
  obtain⟨k',rfl⟩:=fg
  cases hi with
  |none=>
   obtain⟨rfl,rfl⟩:=cn;simp only at hmx;subst hmx
   simp[Instr.slice,run_underlying hu,Instr.sliceBounds,Instr.sliceBound,asIntOf,hs,h1]
  |some v=>
   obtain⟨k,rfl⟩:=cn
   cases mx with
   |none=>
    simp only at hmx;subst hmx
    simp[Instr.slice,run_underlying hu,Instr.sliceBounds,Instr.sliceBound,asIntOf,hs,h1,h2]
   |some u=>
    obtain⟨k'',rfl⟩:=hmx;simp[Instr.slice,run_underlying hu,Instr.sliceBounds,Instr.sliceBound,asIntOf,hs,h1,h2,h3]
theorem jb{x:Operand}{t e:TypeId}{lo hi mx:Option Operand}{sz:Nat}{agg:Bool}{o ver off len cap i j m:Nat}(hx:ql N s x=.os o ver off len cap)(hu:E.P.underlying t=some (.slice e))(ht:tyOf E.P e=some (sz,agg))
  (fg:match lo with|none=>i=0|some y=>∃k,ql N s y=.v (.int k (i:Int))) (cn:match hi with|none=>j=len∧mx=none|some y=>∃k,ql N s y=.v (.int k (j:Int))) (hmx:match mx with|none=>m=cap|some y=>∃k,ql N s y=.v (.int k (m:Int))) (h1:i<=j) (h2:j<=m) (h3:m<=cap)
  (h:AOps E rd N ops rest K (s.put d (.os o ver (if m=i then off else off+i*sz) (j-i) (m-i)))):AOps E rd N ops (⟨d,.slice t x lo hi mx,T,p,af,none⟩::rest) K s:=by
 refine q9 rfl (q8 nofun λB0 w0 G a w _ hI=>?_);have he:=hI.eval_of hx;generalize hv:a.eval x=v at he
 cases he with
 |os _ _ _ _ b _ hn hvr hb=>
  have a8:=qyo hu ht (some ⟨b,off,none⟩) len cap (lo.map a.eval) (hi.map a.eval) (mx.map a.eval) i j m w (by
   cases lo with
   |none=>exact fg
   |some y=>obtain⟨k,hy⟩:=fg;exact⟨k,hI.evalv hy⟩) (by
   cases hi with
   |none=>obtain⟨q1,q2⟩:=cn;subst q2;exact⟨q1,rfl⟩
   |some y=>obtain⟨k,hy⟩:=cn;exact⟨k,hI.evalv hy⟩) (by
   cases mx with
   |none=>exact hmx
   |some y=>obtain⟨k,hy⟩:=hmx;exact⟨k,hI.evalv hy⟩) h1 h2 h3
  refine⟨.slice (if m=i then some ⟨b,off,none⟩else(some ⟨b,off,none⟩:Option Addr).map (·.add (i*sz))) (j-i) (m-i),w,G,_,s.st,?_,.refl G,hI.agree,?_,h⟩
  .generalize a.eval=ρ at hv a8⊢
   simp only[execOp,hv];simp[Instr.sliceAt,run_underlying hu,a8]
  .have bc:Addr.add ⟨b,off,none⟩ (i*sz)=⟨b,off+i*sz,none⟩:=Addr.add_lit ..
   by_cases sb:m=i
   .rw[if_pos sb,if_pos sb]
    exact .os o ver off (j-i) b (m-i) hn hvr hb
   .rw[if_neg sb,if_neg sb,Zx,bc]
    exact .os o ver (off+i*sz) (j-i) b (m-i) hn hvr hb
theorem qgf{x y:Operand}{t u T':TypeId}{sz bytes:Nat}{ys:List AV}(hx:∀(G:Gh)(v:Value),Rel G (ql N s x) v->∃base,v=.slice base 0 0)(hy:∀(G:Gh)(v:Value),Rel G (ql N s y) v->Rel G (.sl sz ys none) v)
  (ht:E.P.underlying t=some (.slice T')) (hu:E.P.underlying u=some (.slice T')) (hT:y0 E.P T' sz bytes) (m9:kc (flat ys)=true) (h0:ys≠[]) (u7:ys.length<=maxLen) (hb:ys.length*bytes<=140737488355328)
  (h:∀cap pad,(flat ys++pad).length=(cap+1)*sz->(∀y∈ys,y.cells.length=sz)->ys.length<=cap+1->cap+1<=maxLen->AOps E rd N ops rest K (AS.put ⟨s.t,s.st++[.cells 0 T' (flat ys++pad)],s.df⟩ d (.os s.st.length 0 0 ys.length (cap+1)))):AOps E rd N ops (⟨d,.call ⟨.builtin .append,#[x,y],#[t,u]⟩,T,p,af,none⟩::rest) K s:=by
 refine q9 rfl (q8 nofun λB0 w0 G a0 w _ hI=>?_);obtain⟨i,z,hi,hz,rfl,rfl,pj⟩:=hT.ex;obtain⟨news,h1,h2,h3⟩:=qap (P:=E.P) hI.agree (hy _ _ (hI.eval y)) (by simpa[kc]using m9);obtain⟨base,hv⟩:=hx _ _ (hI.eval x);have d5:0<ys.length:=Qo.2 h0
 have i5:(Builtin.firstCells i.size 0 (.slice base 0 0)).run E.P w.drew=.ok ([]:List Value).toArray w.drew:=by
  cases base with
  |none=>simp[run_firstCells_none]
  |some a=>exact run_firstCells_some w.drew i.size 0 a 0 0 [] Sx Sx
 have a8:=qh5 (ty:=T) ht hu (.inr ⟨_,rfl⟩) hi hz h1 base 0 0 [] i5 Om (by simp only[maxLen]at u7;omega) (by simp only[Qt];rw[nextslicecap_zero Om];omega);simp only[Qt]at a8;have ft:=grownCap_ge w ys.length 0 T';have d7:=grownCap_le_maxLen w ys.length 0 T' u7;generalize grownCap w ys.length 0 T'=cap at a8 ft d7;obtain⟨cap,rfl⟩:∃c,cap=c+1:=⟨cap-1,Om⟩;generalize hzc:Builtin.zeroCells z.cells (cap+1-ys.length)=zc at a8;have hzl:zc.size=(cap+1-ys.length)*i.size:=by rw[<-hzc,size_zeroCells,pj]
 have hfy:(flat ys).length=ys.length*i.size:=zv h2;have bv:Below w.heap.size w w.drew:=⟨rfl,rfl,rfl,Qb _,λ_ _=>rfl⟩
 have hr:=qby (G:=G) (cs:=flat ys) (ds:=zc.toList.map AV.v) (vs:=news) (us:=zc.toList) (by rw[hfy,h1.count]) h3 (λj a b h1 h2=>by
  rw[Qs,h2]at h1;simp at h1;subst h1
  exact .v _)
 have hA:=(hI.agree.fresh bv).newCells T' (([]:List Value).toArray++news.toArray++zc) (flat ys++zc.toList.map AV.v) (by simp[hfy,h1.count]) (λj a b q1 q2=>hr j a b q1 (by rw[<-q2];simp[<-Zc]));have hn:=hI.agree.n;refine⟨_,_,_,_,_,?_,G.le_new _ _ _ _,hA,.os _ _ _ _ _ _ (by simp[Gh.new,hn]) (Zk _) (λ_=>by simp[Gh.new,hn];rfl),h cap (zc.toList.map AV.v) ?_ h2 ft d7⟩
 .generalize a0.eval=ρ at a8 hv⊢
  simp[execOp,resolve,invoke,builtin,hv,a8]
 .have h1:zc.toList.length=(cap+1-ys.length)*i.size:=by rw[<-hzl];simp
  rw[Qa,hfy,Qh,h1,<-Qx];congr 1;omega
theorem qp9{x y:Operand}{t u T':TypeId}{sz bytes o:Nat}{xs ys:List AV}{a:AV}{ob:AObj}(hx:ql N s x=a)(hy:∀(G:Gh)(v:Value),Rel G (ql N s y) v->Rel G (.sl sz ys none) v)(hV:Vec sz T' o xs a ob)(ho:s.st[o]?=some ob)
  (ht:E.P.underlying t=some (.slice T')) (hu:E.P.underlying u=some (.slice T')) (hT:y0 E.P T' sz bytes) (m9:kc (flat ys)=true) (u7:xs.length+ys.length<=maxLen) (hb:(xs.length+ys.length)*bytes<=140737488355328)
  (h:∀a' ob',Vec sz T' o (xs++ys) a' ob'->AOps E rd N ops rest K (AS.put ⟨s.t,s.st.set o ob',s.df⟩ d a')):AOps E rd N ops (⟨d,.call ⟨.builtin .append,#[x,y],#[t,u]⟩,T,p,af,none⟩::rest) K s:=by
 refine q9 rfl (q8 nofun λB0 w0 G a0 w _ hI=>?_);obtain⟨news,h1,h2,h3⟩:=qap (P:=E.P) hI.agree (hy _ _ (hI.eval y)) (by simpa[kc]using m9);obtain⟨v',w',G',a',ob',e1,e2,e3,e4,e5⟩:=qp7 (ty:=T) hI.agree ht hu (.inr ⟨_,rfl⟩) hT hV ho (hI.eval_of hx) h1 h2 h3 u7 hb;refine⟨v',w',G',_,_,?_,e2,e3,e4,h a' ob' e5⟩;generalize a0.eval=ρ at e1;simp[execOp,resolve,invoke,builtin,e1]
theorem qqp{x y:Operand}{t u T':TypeId}{sz bytes:Nat}{c:AV}(hx:ql N s x=c)(hc:∀G v,Rel G c v->∃b n cp,v=.slice b n cp∧n<=cp)(hy:∀(G:Gh)(v:Value),Rel G (ql N s y) v->Rel G (.sl sz [] none) v)
  (ht:E.P.underlying t=some (.slice T')) (hu:E.P.underlying u=some (.slice T')) (hT:y0 E.P T' sz bytes) (h:AOps E rd N ops rest K (s.put d c)):AOps E rd N ops (⟨d,.call ⟨.builtin .append,#[x,y],#[t,u]⟩,T,p,af,none⟩::rest) K s:=by
 refine q9 rfl (q8 nofun λB0 w0 G a0 w _ hI=>?_);obtain⟨i,z,hi,hz,rfl,rfl,pj⟩:=hT.ex;obtain⟨news,h1,h2,h3⟩:=qap (P:=E.P) hI.agree (hy _ _ (hI.eval y)) (by simp[flat]);have gn:news=[]:=Qg (by simpa using h1.count);subst gn;have hv:=hI.eval_of hx;obtain⟨b,n,cp,rp,d7⟩:=hc _ _ hv;have a8:=qdo (ty:=T) ht hu (.inr ⟨_,rfl⟩) hi h1 b n cp d7;refine⟨_,w,G,c,s.st,?_,.refl G,hI.agree,hv,h⟩;rw[rp];generalize a0.eval=ρ at a8 rp;simp[execOp,resolve,invoke,builtin,rp,a8]
end
end Go.Av
