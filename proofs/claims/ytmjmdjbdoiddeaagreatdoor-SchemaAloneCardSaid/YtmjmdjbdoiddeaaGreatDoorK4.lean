/- Contracts and plain facts that the closing text leans on (part 4). No condition of their own beyond those that each states. -/
import Derived.Test.YtmjmdjbdoiddeaaGreatDoorK3
set_option maxRecDepth 100000
set_option linter.unusedVariables false
set_option linter.unusedSimpArgs false
namespace Go.Proofs.YtmjmdjbdoiddeaaGreatDoor
open Go Go.Av Go.RowKit Go.Proofs
def qex (x:Option AObj):Prop:=∀ n sz T,x≠some (.tip n sz T)
theorem y1 {ver:Nat} {T:TypeId} {cs:List AV} {x:Option AObj} (h:x=some (.cells ver T cs)):qex x:=fun n sz T' e=>by
 rw [h] at e
 simp at e
end Go.Proofs.YtmjmdjbdoiddeaaGreatDoor
namespace Go.Proofs.YtmjmdjbdoiddeaaGreatDoor
open Go Go.Av Go.RowKit Go.Proofs Go.Pl
structure Ext (n:Nat) (S S':List AObj):Prop where
 len:S.length≤S'.length
 low:∀ k,k<n→S'[k]? = S[k]?
 tips:∀ (t m sz:Nat) (T:TypeId),S[t]? = some (AObj.tip m sz T)→S'[t]? = S[t]?
theorem qdh {n:Nat} {S l:List AObj} (h:n≤S.length):Ext n S (S++l):=⟨by simp,fun k hk=>List.getElem?_append_left (by omega),fun t m sz T ht=>List.getElem?_append_left (lt_of_getElem? ht)⟩
theorem qbu {n o:Nat} {S:List AObj} {x:AObj} (h:n≤o) (hn:qex S[o]?):Ext n S (S.set o x):=⟨by simp,fun k hk=>List.getElem?_set_ne (by omega),fun t m sz T ht=>List.getElem?_set_ne (fun e=>by subst e;exact hn _ _ _ ht)⟩
theorem Ext.weak {n m:Nat} {S S':List AObj} (h:Ext n S S') (hm:m≤n):Ext m S S':=⟨h.len,fun k hk=>h.low k (by omega),h.tips⟩
theorem Ext.trans {n:Nat} {S S' S'':List AObj} (h:Ext n S S') (k:Ext n S' S''):Ext n S S'':=⟨Nat.le_trans h.len k.len,fun i hi=>(k.low i hi).trans (h.low i hi),fun t m sz T ht=>(k.tips t m sz T ((h.tips t m sz T ht).trans ht)).trans (h.tips t m sz T ht)⟩
theorem qx0 (text:List UInt8) (o kb ver n m:Nat) (I:Nat→List UInt8→List AObj→Prop) (D:List AObj→Prop) (S:List AObj) (hm:S.length=m) (hn:n≤m) (ht:text.length<4294967281) (h0:I 0 text S)
  (hI:∀ k rest S',I k rest S'→S'[kb]? = some (.cells ver 9 [Sv text]))
  (hst:∀ k rest S' S'',Ext n S' S''→I k rest S'→I k rest S'')
  (hY:∀ k rest S' cs,I k rest S'→S'[m]? = some (.cells 0 95 cs)→rest≠[]→rest.length≤text.length→qbi E o [qom k text rest] S' fun b S''=>S''[m]? = some (.cells 0 95 cs)∧(b=true→I (k+1) (past 10 rest) S'')∧(b=false→D S'')) :
  qp E 49 [.yd o,.bx kb ver 0] S fun r S'=>(∃ k,I k [] S')∨D S':=by
 subst hm
 refine qw Tryz.func49 rfl (Nat.le_of_ble_eq_true rfl) ?_
 have hb:=hI 0 text S h0
 repeat' (first|apply q4|apply za|apply qn|apply qs|apply qo|(apply jc;exact rfl;exact rfl)|(apply zc;(iterate 11 exact rfl))|(apply z9;(iterate 3 exact rfl))|(apply qd5;exact rfl;exact rfl;exact hb;exact rfl;exact rfl))
 refine xk (fun (x:Nat×List UInt8) s=>match x with|(k,rest)=>∃ S' at' ta eb,I k rest S'∧k+rest.length≤text.length∧at'=(text.length:Int) - rest.length∧S'[S.length]? = some (.cells 0 95 [Iv k,Iv at',Sv ta,Bv eb])∧StA [(0,.yd o),(1,.bx kb ver 0),(3,.bx S.length 0 0),(4,Sv rest)] S' [] s) (fun x=>x.2.length) (0,text)
  ⟨_,0,[],false,hst _ _ _ _ (qdh hn) h0,by simp,by simp,qa6 (k:=0) rfl,wr ⟨rfl,rfl,rfl,rfl,trivial⟩⟩ ?_
 rintro⟨k,rest⟩ _ ⟨S',_,ta,eb,hi,hle,rfl,hown,t,rfl⟩
 have hb':=hI k rest S' hi
 repeat' (first|apply q4|apply za|apply qn|apply qs|apply qu|apply qo|(apply zi;exact rfl;exact rfl)|(apply z4;(iterate 3 exact rfl))|(apply qc;exact rfl;apply cd_d <;> intro h)|(apply qt;(iterate 3 exact rfl))|apply zb|apply jg|(apply qx;exact Tryz.call50;exact q2n _ _ _ (by omega))|(apply yl;exact rfl;(focus first|assumption|(repeat' (first|assumption|exact qbv|exact qa6 rfl|apply x6|apply xw|omega|apply qdi)));exact rfl;exact rfl)|(apply qd6;exact rfl;exact rfl;(focus first|assumption|(repeat' (first|assumption|exact qbv|exact qa6 rfl|apply x6|apply xw|omega|apply qdi)));(iterate 6 exact rfl)))
 ·have e1:Ext n S' ((S'.set S.length (.cells 0 95 [Iv k,Iv ((text.length:Int) - rest.length),Sv (upto 10 rest),Bv eb])).set S.length (.cells 0 95 [Iv k,Iv ((text.length:Int) - rest.length),Sv (upto 10 rest),Bv (decide (10∈rest))])):=
   (qbu hn (y1 hown)).trans (qbu hn (y1 (x6 hown)))
  apply qfz (o:=o) rfl
  refine qbi.mono (hY k rest _ _ (hst _ _ _ _ e1 hi) (x6 (x6 hown)) h (by omega)) ?_
  rintro b S2 ⟨hown2,h1,h2⟩
  show AOps _ _ _ _ _ _ _
  cases b
  ·skip
   repeat' (first|apply qs|(apply jf;exact rfl)|(apply qc;exact rfl;apply xm;exact cRa)|apply ze)
   exact qm rfl (qcu rfl) (.inr (h2 rfl))
  ·have hi3:=h1 rfl
   have hb3:=hI _ _ _ hi3
   have hp:=qa8 10 rest
   have hr0:0<rest.length:=List.length_pos_iff.2 h
   have hkb:kb≠S.length:=fun e=>by
    rw [e,hown2] at hb3
    simp at hb3
   repeat' (first|apply q4|apply qn|apply qs|apply qu|(apply jf;exact rfl)|(apply qc;exact rfl;apply xl;exact cRa)|(apply zm;(iterate 3 exact rfl))|(apply z6;exact rfl;exact rfl;exact qj (by omega) (by omega))|(apply j9;exact rfl;exact rfl;exact qj (by omega) (by omega))|(apply qt;(iterate 3 exact rfl))|apply zb|(apply yl;exact rfl;exact xw hb3 (Ne.symm hkb);exact rfl;exact rfl)|(apply yl;exact rfl;(focus first|assumption|(repeat' (first|assumption|exact qbv|exact qa6 rfl|apply x6|apply xw|omega|apply qdi)));exact rfl;exact rfl)|(apply qd6;exact rfl;exact rfl;(focus first|assumption|(repeat' (first|assumption|exact qbv|exact qa6 rfl|apply x6|apply xw|omega|apply qdi)));(iterate 6 exact rfl)))
   have e2:Ext n S2 _:=(qbu hn (y1 hown2)).trans (qbu (x:=.cells 0 95 [Iv ((k:Int)+1),Iv ((text.length:Int) - (past 10 rest).length),Sv (upto 10 rest),Bv (decide (10∈rest))]) hn (y1 (x6 (y:=.cells 0 95 [Iv ((k:Int)+1),Iv ((text.length:Int) - rest.length),Sv (upto 10 rest),Bv (decide (10∈rest))]) hown2)))
   exact⟨(k+1,past 10 rest),⟨_,_,_,_,hst _ _ _ _ e2 hi3,by omega,rfl,x6 (x6 hown2),wr ⟨rfl,rfl,rfl,rfl,trivial⟩⟩,by simp only;omega⟩
 ·have hr:rest=[]:=Classical.not_not.1 h
  subst hr
  exact qm rfl (qcu rfl) (.inl ⟨k,hi⟩)
structure ItC (g:FuncId) (T:TypeId) (cs:List AV) {ι : Type} (Y : ι→Option (AV×ι)) (i0 : ι):Prop where
 run:∀ (o kb n m:Nat) (I : ι→List AObj→Prop) (D:List AObj→Prop) (S:List AObj),S.length=m→n≤m→I i0 S →
  (∀ i S',I i S'→S'[kb]? = some (.cells 0 T cs))→(∀ i S' S'',Ext n S' S''→I i S'→I i S'') →
  (∀ i x j S' (own:List AObj),I i S'→(∀ k y,own[k]? = some y→S'[m+k]? = some y∧qex (some y))→Y i=some (x,j)→qbi E o [x] S' fun b S''=>(∀ k y,own[k]? = some y→S''[m+k]? = some y)∧(b=true→I j S'')∧(b=false→D S'')) →
  qp E g [.yd o,.bx kb 0 0] S fun r S'=>(∃ i,Y i=none∧I i S')∨D S'
def qip (text:List UInt8):Nat×List UInt8→Option (AV×(Nat×List UInt8))
 |(k,rest)=>if rest=[]∨text.length<rest.length then none else some (qom k text rest,(k+1,past 10 rest))
theorem qz0 (text:List UInt8) (ht:text.length<4294967281):ItC 49 9 [Sv text] (qip text) (0,text):=⟨fun o kb n m I D S hm hn h0 hI hst hY=>by
 refine (qx0 text o kb 0 n m (fun k rest S=>I (k,rest) S∧rest.length≤text.length) D S hm hn ht ⟨h0,Nat.le_refl _⟩ (fun k rest S' h=>hI _ _ h.1) (fun k rest S' S'' hE h=>⟨hst _ _ _ hE h.1,h.2⟩) (fun k rest S' cs hi hown hne hle=>?_)).mono ?_
 ·refine (hY (k,rest) (qom k text rest) (k+1,past 10 rest) S' [.cells 0 95 cs] hi.1 (fun j y hy=>?_) (if_neg fun h=>h.elim hne (by omega))).mono fun b S'' ⟨h1,h2,h3⟩=>⟨by have:=h1 0 _ rfl;simpa using this,fun hb=>⟨h2 hb,by have:=qa8 10 rest;omega⟩,h3⟩
  match j with
  | 0=>
   simp only [List.getElem?_cons_zero,Option.some.injEq] at hy
   subst hy
   exact⟨hown,y1 rfl⟩
  |j+1=>simp at hy
 ·rintro r S' (⟨k,h⟩|h)
  ·exact .inl ⟨(k,[]),by simp [qip],h.1⟩
  ·exact .inr h⟩
@[reducible] def q3d (n : Nat) (F : LoopState → Option Code → AObj) (own : List AObj) (I : List AObj → Prop) (D : Code → List AObj → Prop) : Exit → AS → Prop
 | .normal,s=>s.st[n]? = some .dfr∧s.st[n+1]? = some (F .busy none)∧(∀ k y,own[k]? = some y→s.st[n+2+k]? = some y)∧I s.st
 | .ret,s=>s.st[n]? = some .dfr∧s.st[n+1]? = some (F .busy none)∧(∀ k y,own[k]? = some y→s.st[n+2+k]? = some y)∧D .ret s.st
 | .exit id,s=>s.st[n]? = some .dfr∧s.st[n+1]? = some (F .busy none)∧(∀ k y,own[k]? = some y→s.st[n+2+k]? = some y)∧D (.exit id) s.st
 | _,_=>False
theorem qey {N:Nat} {t:Nat→AV} {ps:Array Tmp} {asg body:Code} {F:LoopState→Option Code→AObj} (hF:qoh F N t ps asg body) (ls:LoopState) (pend:Option Code) {x:Option AObj} (h:x=some (F ls pend)):qex x:=fun n sz T' e=>by
 rw [h,hF] at e
 simp at e
theorem qo5 {N:Nat} {Q:Exit→AS→Prop} {s:AS} {f:Operand} {p:Tmp} {asg body:Code} {S0:List AObj} {kb:Nat} {g:FuncId} {T:TypeId} {cs:List AV} {ι : Type} {Y : ι→Option (AV×ι)} {i0 : ι} (hit:ItC g T cs Y i0) (hst:s.st=S0) (hx:qh N s f = .fn (.func g) [] [.bx kb 0 0])
  (hrun:∀ vs w,(callFunc g vs).run E.P w = .ok (.enter g vs) w)
  (I : ι→List AObj→Prop) (D:Code→List AObj→Prop) (h0:I i0 S0)
  (hI:∀ i S,I i S→S[kb]? = some (.cells 0 T cs))
  (hs1:∀ i S S',Ext S0.length S S'→I i S→I i S') (hs2:∀ c S S',Ext S0.length S S'→D c S→D c S')
  (hb:∀ F (own:List AObj) rd i x j S,qoh F N s.t #[p] asg body→I i S→Y i=some (x,j)→S[S0.length]? = some .dfr→S[S0.length+1]? = some (F .ready none)→(∀ k y,own[k]? = some y→S[S0.length+2+k]? = some y∧qex (some y)) →
   AWp E (some rd) N asg (only fun s1=>s1.st[S0.length+1]? = some (F .ready none)∧s1.df=[]∧AWp E (some rd) N body (q3d S0.length F own (I j) D) ⟨s1.t,s1.st.set (S0.length+1) (F .busy none),[]⟩) ⟨put s.t p x,S,[]⟩)
  (hn:∀ i S,Y i=none→I i S→S[S0.length]? = some .dfr→Q .normal ⟨s.t,S,S0.length::s.df⟩)
  (hd:∀ c S,D c S→S[S0.length]? = some .dfr→AWp E none N c Q ⟨s.t,S,S0.length::s.df⟩):AWp E none N (.rangeFunc f #[p] asg body) Q s:=by
 refine qt4 (st:=S0) (loc:=[]) (by rw [hst];simp) hx hrun fun F hF=>?_
 have hl:(S0++([]++[AObj.dfr,F .ready none])).length=S0.length+2:=by simp
 have g1:(S0++([]++[AObj.dfr,F .ready none]))[S0.length]? = some .dfr:=by simp
 have g2:(S0++([]++[AObj.dfr,F .ready none]))[S0.length+1]? = some (F .ready none):=by simp
 have hz:S0.length+(([]:List AObj).length+1)=S0.length+1:=by simp
 rw [hz,show S0.length+([]:List AObj).length=S0.length from rfl]
 refine qp.mono (hit.run (S0.length+1) kb (S0.length+2) (S0.length+2) (fun i S=>I i S∧S[S0.length]? = some .dfr∧S[S0.length+1]? = some (F .ready none)) (fun S=>∃ c,D c S∧S[S0.length]? = some .dfr∧S[S0.length+1]? = some (F .done (some c))) (S0++([]++[.dfr,F .ready none])) hl (Nat.le_refl _) ⟨hs1 _ _ _ (qdh (Nat.le_refl _)) h0,g1,g2⟩ (fun i S h=>hI i S h.1) (fun i S S' hE h=>⟨hs1 _ _ _ (hE.weak (by omega)) h.1,(hE.low _ (by omega)).trans h.2.1,(hE.low _ (by omega)).trans h.2.2⟩) ?_) ?_
 ·rintro i x j S' own ⟨hi,hd1,hf1⟩ hown hy
  refine qym hF hf1 rfl fun rd=>?_
  refine (hb F own rd i x j S' hF hi hy hd1 hf1 hown).mono fun e s1 hq=>?_
  have fin:∀ {S:List AObj} {z:AObj},(∀ k y,own[k]? = some y→S[S0.length+2+k]? = some y)→∀ k y,own[k]? = some y→(S.set (S0.length+1) z)[S0.length+2+k]? = some y:=fun h k y hk=>xw (h k y hk) (by omega)
  cases e with
  |normal=>
   obtain⟨q1,q2,q3⟩:=hq
   refine⟨q1,q2,q3.mono fun e s2 hq2=>?_⟩
   cases e with
   |normal=>
    obtain⟨k1,k2,k3,k4⟩:=hq2
    exact⟨k2,fin k3,fun _=>⟨hs1 _ _ _ (qbu (by omega) (qey hF _ _ k2)) k4,xw k1 (by omega),x6 k2⟩,nofun⟩
   |ret=>
    obtain⟨k1,k2,k3,k4⟩:=hq2
    exact⟨k2,fin k3,nofun,fun _=>⟨_,hs2 _ _ _ (qbu (by omega) (qey hF _ _ k2)) k4,xw k1 (by omega),x6 k2⟩⟩
   |exit id=>
    obtain⟨k1,k2,k3,k4⟩:=hq2
    exact⟨k2,fin k3,nofun,fun _=>⟨_,hs2 _ _ _ (qbu (by omega) (qey hF _ _ k2)) k4,xw k1 (by omega),x6 k2⟩⟩
   | _=>exact hq2.elim
  | _=>exact hq.elim
 ·rintro r S' (⟨i,hy,hi,hd1,hf1⟩ | ⟨c,hi,hd1,hf1⟩)
  ·exact⟨.ready,none,nofun,hf1,hn i _ hy (hs1 _ _ _ (qbu (by omega) (qey hF _ _ hf1)) hi) (xw hd1 (by omega))⟩
  ·exact⟨.done,some c,nofun,hf1,hd c _ (hs2 _ _ _ (qbu (by omega) (qey hF _ _ hf1)) hi) (xw hd1 (by omega))⟩
end Go.Proofs.YtmjmdjbdoiddeaaGreatDoor
namespace Go.Av
open Go Go.RowKit
theorem qku {P:Program} {B0:Nat} {w0:World} {G:Gh} {st:List AObj} {w:World} (hA:zd B0 w0 G st w) {tt u ty T:TypeId} {du:TypeDesc} (htt:P.underlying tt=some (.slice T)) (hu:P.underlying u=some du) (hd:qgf du)
  {sz bytes:Nat} (hT:qdw P T sz bytes) {t n m:Nat} (ht:st[t]? = some (.tip n sz T)) {xs ys:List AV} {x:Value} (hn:xs.length=n) (hm:ys.length=m)
  {news:List Value} (hx:Src P w x m sz news) (hys:∀ y∈ys,y.cells.length=sz) (hrel:∀ (i:Nat) (a:AV) (b:Value),(flat ys)[i]? = some a→news[i]? = some b→Rel G a b)
  (h63:n+m≤maxLen) (base:Option Addr) (c:Nat) (olds:List Value) (ho:(Builtin.firstCells sz n (.slice base n c)).run P w.drew = .ok olds.toArray w.drew) (hc:c<n+m) (hol:olds.length=n * sz) (hfx:(flat xs).length=n * sz) (hwx:∀ x∈xs,x.cells.length=sz)
  (hrx:∀ (j:Nat) (a:AV) (b:Value),(flat xs)[j]? = some a→olds[j]? = some b→Rel G a b) (hfit:Builtin.nextslicecap (n+m) c * bytes≤281474976710656) (hm0:m≠0) :
  ∃ v' w' G',(Builtin.append_ #[tt,u] ty #[.slice base n c,x]).run P w = .ok v' w'∧G.le G'∧zd B0 w0 G' (st.set t (.tip (n+m) sz T)) w'∧Rel G' (.sl sz (xs++ys) (some t)) v':=by
 obtain⟨i,z,hi,hz,rfl,rfl,hzs⟩:=hT.ex
 obtain⟨hraw,hver,htip⟩:=hA.ob t _ ht
 have htn:t<G.n:=by rw [hA.n];exact lt_of_getElem? ht
 have hlt:G.n=st.length:=hA.n
 have hk:=hA.kill t
 have hkt:(st.set t .dead)[t]? = some .dead:=qc5 ht
 have hother:∀ o x,(st.set t .dead)[o]? = some x→x.live→o≠t∧st[o]? = some x:=fun o x hx hl=>by
  rcases getElem?_set' _ _ _ _ _ hx with⟨_,e⟩ | ⟨h1,h2⟩
  ·subst e;exact hl.elim
  ·exact⟨h1,h2⟩
 have hset:(st.set t AObj.dead).set t (.tip (n+m) i.size T)=st.set t (.tip (n+m) i.size T):=by rw [List.set_set]
 have hself:st.set t (.tip n i.size T)=st:=by
  apply List.ext_getElem?
  intro k
  by_cases e:t=k
  ·subst e;rw [List.getElem?_set_self (lt_of_getElem? ht)];exact ht.symm
  ·rw [List.getElem?_set_ne e]
 have hrun:=qin (ty:=ty) htt hu hd hi hz hx base n c olds ho hc (by simp only [maxLen] at h63;omega) hfit
 have hge:=grownCap_ge w (n+m) c T
 have hle:=grownCap_le_maxLen w (n+m) c T h63
 generalize grownCap w (n+m) c T=cap at hrun hge hle
 have hsz:(olds.toArray++news.toArray++Builtin.zeroCells z.cells (cap - (n+m))).size=cap * i.size:=by
  simp only [Array.size_append,List.size_toArray,size_zeroCells,hzs,hol,hx.count,← Nat.add_mul]
  congr 1
  omega
 generalize hcv:olds.toArray++news.toArray++Builtin.zeroCells z.cells (cap - (n+m))=c' at hrun hsz
 have hdrew:Below w.heap.size w w.drew:=⟨rfl,rfl,rfl,Nat.le_refl _,fun _ _=>rfl⟩
 have hA1:=hk.fresh hdrew
 have hpre:∀ (j:Nat) (y:Value),(olds++news)[j]? = some y→c'[j]? = some y:=fun j y hy=>by
  have hj:=lt_of_getElem? hy
  rw [← hcv,Array.getElem?_append_left (by simp at hj ⊢;omega),List.append_toArray]
  simpa using hy
 obtain⟨hle1,hA2⟩:=hA1.newPub T c' (0,0) (olds++news) hpre
 have hnp:G.pub w.heap.size=none:=by
  cases hp:G.pub w.heap.size with
  |none=>rfl
  |some vs=>exact absurd (hA.pub_lt hp) (Nat.lt_irrefl _)
 obtain⟨hle2,hA3⟩:=hA2.setTip (n':=n+m) (vs:=olds++news) (k:=w.heap.size) (cap:=cap * i.size) (sz:=i.size) (T:=T) hkt (by simpa [Gh.publish] using hraw) (by simpa [Gh.publish] using hver) (by omega) (yi w.drew _) (by simp [Gh.publish]) (by simp [hol,hx.count,Nat.add_mul]) hsz hA.hB (fun o x hx hl=>by
  obtain⟨_,hx'⟩:=hother o x hx hl
  exact Nat.ne_of_lt ((hA.ob o x hx').lt hl))
 rw [hset] at hA3
 refine⟨_,_,_,hrun,hle1.trans hle2,hA3,?_⟩
 have hmono:∀ {a b},Rel G a b→Rel ((G.publish w.drew.heap.size (olds++news)).setOb t ⟨n+m,w.heap.size,cap * i.size,false⟩) a b:=fun h=>(h.mono hle1).mono hle2
 refine qm2 (n:=n) (m:=m) (cap:=cap) (k:=w.heap.size) (vs:=olds) (news:=news) (by simp [Gh.setOb]) (by simp [Gh.setOb]) (by simp [Gh.setOb]) hle hge (by simpa [Gh.setOb,Gh.publish] using htn) (by omega) hn hm (by simp [Gh.setOb,Gh.publish]) (fun y hy=>?_) hol hx.count hfx (fun j a b h1 h2=>hmono (hrx j a b h1 h2)) (fun j a b h1 h2=>hmono (hrel j a b h1 h2))
 rcases List.mem_append.1 hy with h|h
 ·exact hwx y h
 ·exact hys y h
def TipO (b:Nat) (st:List AObj) (sz:Nat) (T:TypeId) (xs:List AV) (c:AV):Prop:=TipC b st sz T xs c∨(xs=[]∧∃ o v f,c = .os o v f 0 0)
theorem qz4 (b:Nat) (st:List AObj) (sz:Nat) (T:TypeId):TipO b st sz T [] kg:=.inl (qz3 ..)
theorem q12 (b:Nat) (st:List AObj) (sz:Nat) (T:TypeId) (o v f:Nat):TipO b st sz T [] (.os o v f 0 0):=.inr ⟨rfl,_,_,_,rfl⟩
theorem q1q {G:Gh} {o v f:Nat} {sz:Nat} {x:Value} (h:Rel G (.os o v f 0 0) x):Rel G (.sl sz [] none) x:=by
 cases h with
 |os _ _ _ _ b _ hn hv h=>exact .sl0 sz none _ _ (by simp)
section
variable {E : Env} {rd : Option Nat} {N : Nat} {ops : Array Oper} {K : AS → Prop} {s : AS} {rest : List Oper} {d : Option Tmp} {T : TypeId} {p : String} {af : Array Edge}
theorem qox {x y:Operand} {t u T':TypeId} {sz bytes b:Nat} {xs ys:List AV} {tip:Option Nat} {c:AV} {st:List AObj} (hst:s.st=st) (hx:qh N s x=c) (hy:qh N s y = .sl sz ys tip)
  (ht:E.P.underlying t=some (.slice T')) (hu:E.P.underlying u=some (.slice T')) (hT:qdw E.P T' sz bytes) (hc:TipO b st sz T' xs c) (hb:b≤st.length) (hone:xv (flat ys)=true) (h63:xs.length+ys.length≤maxLen) (hby:(xs.length+ys.length) * bytes≤140737488355328)
  (h:∀ c' st' t1,TipO b st' sz T' (xs++ys) c'→Fr st st' t1→b≤t1→(c = .sl sz xs (some t1)∨st.length≤t1)→AOps E rd N ops rest K (AS.put ⟨s.t,st',s.df⟩ d c')):AOps E rd N ops (⟨d,.call ⟨.builtin .append,#[x,y],#[t,u]⟩,T,p,af,none⟩::rest) K s:=by
 rcases hc with hc | ⟨hxs,o,ver,f,hco⟩
 ·refine qoy hst hx hc hb hy ht hu hT hone h63 hby fun t1 st' g1 g2 g3 g4=>h _ st' t1 (.inl (.inr ⟨t1,rfl,g1,g2⟩)) g3 g2 g4
 ·subst hst
  subst hxs
  refine q5 rfl (q6 nofun fun B0 w0 G a w _ hI=>?_)
  have he:=hI.eval_of (hx.trans hco)
  obtain⟨news,k1,k2,k3⟩:=qbp (P:=E.P) hI.agree (hI.eval_of hy) (by simpa [xv] using hone)
  have hex:=hT.ex
  obtain⟨i,z,hi,hz,hsz,hbt,hzs⟩:=hex
  generalize hv:a.eval x=v at he
  cases he with
  |os _ _ _ _ blk _ hn hvv hbb=>
   by_cases hm0:ys.length=0
   ·have hy0:ys=[]:=List.eq_nil_of_length_eq_zero hm0
    subst hy0
    have hk1':Src E.P w (a.eval y) 0 i.size []:=by
     have:news=[]:=List.eq_nil_of_length_eq_zero (by simpa using k1.count)
     rw [hsz]
     rw [this] at k1
     exact k1
    refine⟨_,w,G,_,s.st,?_,.refl G,hI.agree,.os o ver f 0 blk 0 hn hvv hbb,h _ s.st s.st.length (.inr ⟨rfl,o,ver,f,rfl⟩) ⟨Nat.le_refl _,fun _ _ _=>rfl⟩ hb (.inr (Nat.le_refl _))⟩
    have:=qe3 (ty:=T) ht hu (.inr ⟨_,rfl⟩) hi hk1' (some ⟨blk,f,none⟩) 0 0 (Nat.le_refl _)
    generalize a.eval = ρ at hv this
    simp [execOp,resolve,invoke,builtin,hv,this]
   ·have hle:=G.le_new 0 0 0 false
    have hA:=hI.agree.newTip sz T'
    have hz63:0+ys.length≤maxLen:=by simpa using h63
    obtain⟨v',w',G',e1,e2,e3,e4⟩:=qku (ty:=T) hA ht hu (.inr ⟨_,rfl⟩) hT (t:=s.st.length) (n:=0) (xs:=[]) (by simp) rfl rfl k1 k2 (fun i a b h1 h2=>(k3 i a b h1 h2).mono hle) hz63 (some ⟨blk,f,none⟩) 0 []
     (run_firstCells_some w.drew sz 0 ⟨blk,f,none⟩ 0 0 [] (by simp) (by simp)) (by omega) (by simp) (by simp [flat]) (by simp) (by simp [flat]) (by rw [Nat.zero_add,nextslicecap_zero (by omega)];have:=hby;simp at this;omega) hm0
    refine⟨v',w',G',_,_,?_,hle.trans e2,e3,e4,h _ _ s.st.length (.inl (.inr ⟨s.st.length,rfl,?_,hb⟩)) ⟨by simp,fun k hk hlt=>?_⟩ hb (.inr (Nat.le_refl _))⟩
    ·generalize a.eval = ρ at e1 hv
     simp [execOp,resolve,invoke,builtin,hv,e1]
    ·simp
    ·rw [List.getElem?_set_ne (Ne.symm hk),List.getElem?_append_left hlt]
end
theorem qkx {α : Type} {g : α→AV} {l:List α} (h:∀ a,xv (g a).cells=true):xv (flat (l.map g))=true:=by
 induction l with
 |nil=>rfl
 |cons a r ih=>
  have h1:=h a
  unfold xv flat at *
  rw [List.map_cons,List.flatMap_cons,List.all_append,h1,ih]
  rfl
theorem qqz {b:Nat} {st:List AObj} {sz:Nat} {T:TypeId} {xs:List AV} {c:AV} (h:TipO b st sz T xs c):∀ G v,Rel G c v→Rel G (.sl sz xs none) v:=by
 rcases h with (⟨rfl,rfl⟩ | ⟨t,rfl,_⟩) | ⟨rfl,o,v,f,rfl⟩
 ·exact fun G v h=>qau h
 ·exact fun G v h=>qfo h
 ·exact fun G v h=>q1q h
end Go.Av
namespace Go.Av
open Go Go.RowKit
def qcx (o:Oper):Bool:=match o.op with
 | .defer _=>false
 | _=>true
theorem qls {o:Oper} (h:qcx o=true):∀ c,o.op≠.defer c:=fun c e=>by
 unfold qcx at h
 rw [e] at h
 simp at h
theorem qyb {P:Program} {ops:Array Oper} {Q:Exit→Act→World→Prop} {l i:Nat} {K:Act→World→Prop} {a:Act} {w:World} (hnd:∀ o,ops[i]? = some o→qcx o=true) (h:wpOpIn (fw none) 0 P ops Q i K a w):wpOpIn (fw (some l)) 0 P ops Q i K a w:=by
 unfold wpOpIn at *
 cases ho:ops[i]? with
 |none=>simp only [ho] at h ⊢;exact h
 |some o=>
  simp only [ho] at h ⊢
  split
  ·rename_i hw
   rw [if_pos hw] at h
   unfold Oper.wpIn at *
   rw [qcr (rd:=none) (qls (hnd o ho))] at h
   rw [qcr (rd:=some l) (qls (hnd o ho))]
   exact h
  ·rename_i hw
   rw [if_neg hw] at h
   exact h
theorem qmc {P:Program} {ops:Array Oper} {Q:Exit→Act→World→Prop} {l:Nat} {md:Region.Mode} (hnd:ops.all qcx=true):∀ (fuel:Nat) (listed:Array Bool) (a:Act) (w:World),wpAnyIn (fw none) 0 P md ops Q fuel listed a w→wpAnyIn (fw (some l)) 0 P md ops Q fuel listed a w
 | 0,_,_,_,h=>h
 |fuel+1,listed,a,w,h=>⟨h.1,fun i hi=>qyb (fun o ho=>by
   rw [Array.all_eq_true] at hnd
   obtain⟨h1,h2⟩:=Array.getElem?_eq_some_iff.1 ho
   rw [← h2]
   exact hnd i h1) (wpOpIn_mono (fun a w=>qmc hnd fuel _ a w) (h.2 i hi))⟩
theorem qt3 {E:Env} {rd:Option Nat} {N:Nat} {ops:Array Oper} {s:AS} {id:Nat} {Q:Exit→AS→Prop} {n:Nat} (hm:E.P.follows .mixedOrders=true) (hd:ops.all qcx=true) (hn:ops.size=n) (h:AZ E N ops n (Array.replicate n false) (Q .normal) s):AWp E rd N (.region id ops true) Q s:=by
 cases rd with
 |none=>exact qv9 hm hn h
 |some l=>
  subst hn
  refine⟨fun B0 w0 G a w hL hI=>?_⟩
  have hBl:Below w.heap.size w { w with drawn:=w.drawn+1 }:=⟨rfl,rfl,rfl,Nat.le_refl _,fun _ _=>rfl⟩
  have hI2:Inv B0 w0 N G s a { w with drawn:=w.drawn+1 }:=⟨hI.agree.fresh hBl,hI.defers,hI.size,hI.tmps⟩
  have:=h.run B0 w0 G a _ hL hI2 (fun a' w'=>∃ (G':Gh) (s':AS),G.le G'∧Inv B0 w0 N G' s' a' w'∧Q .normal s') fun G' s' a' w' hG hI' hk=>⟨G',s',hG,hI',hk⟩
  refine wpIn_mono (wpIn_region_any hm (qmc hd _ _ _ _ this)) fun e a' w' hq=>?_
  cases e with
  |normal=>exact hq
  | _=>exact hq.elim
def qbd (o:Oper):List Nat:=(o.after.toList.filter fun e=>Region.binds .any e).map (·.on)
def addL (L:Nat→Bool) (i:Nat):Nat→Bool:=fun k=>Nat.beq k i ||L k
def qdy:Nat→List Oper→Bool
 | _,[]=>true
 |i,o::r=>(qbd o).all (fun j=>Nat.blt j i) && qdy (i+1) r
def qhv (E:Env) (N:Nat) (ops:Array Oper) (J:(Nat→Bool)→AS→Prop):Nat→List Oper→Prop
 | _,[]=>True
 |i,o::r=>(∀ L s,L i=false→(∀ j,(qbd o).contains j=true→L j=true)→J L s→AOps E none N ops [o] (J (addL L i)) s)∧qhv E N ops J (i+1) r
theorem ql8 {E:Env} {N:Nat} {ops:Array Oper} {J:(Nat→Bool)→AS→Prop}:∀ {l:List Oper} {i0 k:Nat} {o:Oper},qhv E N ops J i0 l→l[k]? = some o →
  ∀ L s,L (i0+k)=false→(∀ j,(qbd o).contains j=true→L j=true)→J L s→AOps E none N ops [o] (J (addL L (i0+k))) s
 | [],_,_,_,_,h=>by simp at h
 |o'::r,i0,0,o,hs,h=>by
  simp only [List.getElem?_cons_zero,Option.some.injEq] at h
  subst h
  exact hs.1
 |o'::r,i0,k+1,o,hs,h=>by
  have:=ql8 hs.2 (by simpa using h)
  rw [show i0+1+k=i0+(k+1) by omega] at this
  exact this
theorem qk9:∀ {l:List Oper} {i0 k:Nat} {o:Oper},qdy i0 l=true→l[k]? = some o→∀ j∈qbd o,j<i0+k
 | [],_,_,_,_,h=>by simp at h
 |o'::r,i0,0,o,hs,h=>by
  simp only [List.getElem?_cons_zero,Option.some.injEq] at h
  subst h
  simp only [qdy,Bool.and_eq_true] at hs
  intro j hj
  have:=List.all_eq_true.1 hs.1 j hj
  simpa [Nat.blt_eq] using this
 |o'::r,i0,k+1,o,hs,h=>by
  simp only [qdy,Bool.and_eq_true] at hs
  have:=qk9 hs.2 (show r[k]? = some o by simpa using h)
  intro j hj
  have:=this j hj
  omega
def lof (listed:Array Bool):Nat→Bool:=fun k=>listed.getD k false
theorem q1e {listed:Array Bool} {i:Nat} (hi:i<listed.size):lof (listed.setIfInBounds i true)=addL (lof listed) i:=by
 funext k
 unfold lof addL
 by_cases h:k=i
 ·subst h
  simp [Array.getD,hi]
 ·have hb:Nat.beq k i=false:=va h
  rw [hb,Bool.false_or]
  simp only [Array.getD_eq_getD_getElem?,Array.getElem?_setIfInBounds]
  rw [if_neg (fun e=>h e.symm)]
theorem qna:∀ {l:List Bool} {i:Nat},l[i]? = some false→(l.set i true).count false+1=l.count false
 | [],_,h=>by simp at h
 |b::l,0,h=>by
  simp only [List.getElem?_cons_zero,Option.some.injEq] at h
  subst h
  simp
 |b::l,i+1,h=>by
  have:=qna (l:=l) (i:=i) (by simpa using h)
  rw [List.set_cons_succ,List.count_cons,List.count_cons]
  omega
theorem qij {l:List Oper} {listed:Array Bool} {i:Nat}:i∈Region.ready .any l.toArray listed↔listed.getD i true=false∧∃ o,l[i]? = some o∧∀ j∈qbd o,lof listed j=true:=by
 unfold Region.ready
 simp only [List.mem_filter,List.mem_range,Bool.and_eq_true,Bool.not_eq_true',List.size_toArray,List.getElem?_toArray]
 constructor
 ·rintro⟨h1,h2,h3⟩
  refine⟨h2,l[i],List.getElem?_eq_getElem h1,fun j hj=>?_⟩
  rw [List.getElem?_eq_getElem h1] at h3
  simp only [Option.map_some,Option.getD_some] at h3
  unfold qbd at hj
  obtain⟨e,he,rfl⟩:=List.mem_map.1 hj
  obtain⟨he1,he2⟩:=List.mem_filter.1 he
  have:=Array.all_eq_true'.1 h3 e (by simpa using he1)
  rw [he2] at this
  simpa [lof] using this
 ·rintro⟨h2,o,ho,h3⟩
  refine⟨lt_of_getElem? ho,h2,?_⟩
  rw [ho]
  simp only [Option.map_some,Option.getD_some]
  rw [Array.all_eq_true']
  intro e he
  cases hb:Region.binds .any e with
  |false=>rfl
  |true=>
   have:=h3 e.on (by
    unfold qbd
    exact List.mem_map.2 ⟨e,List.mem_filter.2 ⟨by simpa using he,hb⟩,rfl⟩)
   simpa [lof] using this
theorem qot {P:Nat→Prop}:∀ {l:List Nat},(∀ i∈l,P i)→qof P l
 | [],_=>trivial
 |i::r,h=>⟨h i (by simp),qot fun j hj=>h j (by simp [hj])⟩
theorem AOps.mono' {E:Env} {rd:Option Nat} {N:Nat} {ops:Array Oper} {K K':AS→Prop} {s:AS} {l:List Oper} (h:AOps E rd N ops l K' s) (hk:∀ s,K' s→K s):AOps E rd N ops l K s:=
 ⟨fun B0 w0 G a w hL hI Q hQ=>h.run B0 w0 G a w hL hI Q fun G' s' a' w' hG hI' hK=>hQ G' s' a' w' hG hI' (hk _ hK)⟩
theorem az_J {E:Env} {N:Nat} {l:List Oper} {J:(Nat→Bool)→AS→Prop} {K:AS→Prop} (hd:qdy 0 l=true) (hs:qhv E N l.toArray J 0 l) (hend:∀ L s,(∀ i,i<l.length→L i=true)→J L s→K s) :
  ∀ (fuel:Nat) (listed:Array Bool) (s:AS),listed.size=l.length→listed.toList.count false≤fuel→J (lof listed) s→AZ E N l.toArray fuel listed K s:=by
 intro fuel
 induction fuel with
 |zero=>
  intro listed s hsz hc hJ
  have hall:∀ i,i<l.length→lof listed i=true:=fun i hi=>by
   have h0:listed.toList.count false=0:=by omega
   have hi':i<listed.size:=by omega
   have hlo:lof listed i=listed[i]:=by simp [lof,hi']
   rw [hlo]
   cases hb:listed[i] with
   |true=>rfl
   |false=>exact absurd (by rw [← hb];simp) (List.count_eq_zero.1 h0)
  have hr:Region.ready .any l.toArray listed=[]:=by
   rw [List.eq_nil_iff_forall_not_mem]
   intro i hi
   obtain⟨h1,o,ho,_⟩:=qij.1 hi
   have hi':=lt_of_getElem? ho
   have:=hall i hi'
   unfold lof at this
   have hi2:i<listed.size:=by omega
   simp only [Array.getD,hi2,dite_true] at this h1
   rw [this] at h1
   simp at h1
  exact qsu hr (hend _ s hall hJ)
 |succ fuel ih=>
  intro listed s hsz hc hJ
  by_cases hr:Region.ready .any l.toArray listed=[]
  ·refine qsu hr (hend _ s (fun i=>?_) hJ)
   induction i using Nat.strongRecOn with
   | _ i ihi=>
    intro hi
    cases hb:lof listed i with
    |true=>rfl
    |false=>
     exfalso
     have hm:i∈Region.ready .any l.toArray listed:=by
      refine qij.2 ⟨?_,l[i],List.getElem?_eq_getElem hi,fun j hj=>?_⟩
      ·have hi2:i<listed.size:=by omega
       unfold lof at hb
       simp only [Array.getD,hi2,dite_true] at hb ⊢
       exact hb
      ·have:=qk9 hd (List.getElem?_eq_getElem hi) j hj
       exact ihi j (by omega) (by omega)
     rw [hr] at hm
     simp at hm
  ·refine q2b _ rfl ?_ (qot fun i hi=>?_)
   ·cases h:Region.ready .any l.toArray listed with
    |nil=>exact absurd h hr
    |cons a r=>rfl
   ·obtain⟨h1,o,ho,h3⟩:=qij.1 hi
    have hil:=lt_of_getElem? ho
    have hi2:i<listed.size:=by omega
    refine⟨o,by simpa using ho,?_⟩
    have hl:lof listed i=false:=by
     unfold lof
     simp only [Array.getD,hi2,dite_true] at h1 ⊢
     exact h1
    have:=ql8 hs ho (lof listed) s (by rw [Nat.zero_add];exact hl) (fun j hj=>h3 j (by simpa using hj)) hJ
    rw [Nat.zero_add] at this
    refine this.mono' fun s' hJ'=>ih _ s' (by simpa using hsz) ?_ (by rw [q1e hi2];exact hJ')
    have hg:listed.toList[i]? = some false:=by
     have:listed[i]=false:=by
      simp only [Array.getD,hi2,dite_true] at h1
      exact h1
     simp [hi2,this]
    have:=qna hg
    rw [Array.toList_setIfInBounds]
    omega
theorem qv8 {E:Env} {rd:Option Nat} {N:Nat} {s:AS} {id:Nat} {l:List Oper} {Q:Exit→AS→Prop} (hm:E.P.follows .mixedOrders=true) (hnd:l.toArray.all qcx=true) (hd:qdy 0 l=true) (J:(Nat→Bool)→AS→Prop)
  (h0:J (fun _=>false) s) (hend:∀ L s,(∀ i,i<l.length→L i=true)→J L s→Q .normal s) (hs:qhv E N l.toArray J 0 l):AWp E rd N (.region id l.toArray true) Q s:=by
 refine qt3 hm hnd (n:=l.length) (by simp) (az_J hd hs hend _ _ _ (by simp) ?_ ?_)
 ·simp only [Array.toList_replicate,List.count_replicate]
  split <;> omega
 ·have:lof (Array.replicate l.length false)=fun _=>false:=by
   funext k
   unfold lof
   simp only [Array.getD_eq_getD_getElem?,Array.getElem?_replicate]
   split <;> rfl
  rw [this]
  exact h0
inductive SV where
 |a (x:AV)
 |i (n:Int)
 |s (l:List UInt8)
 |tt
 |ff
 |b (c:Bool)
 |p (q:Prop) (h:Decidable q)
 |bx (k off:Nat)
 |tp (k:Nat)
 |ag (cs:List SV)
 |tu (cs:List SV)
 |fn (f:Fn) (xs ys:List SV)
 |ifc (t:TypeId) (x:SV)
def bxAt:AV→Nat→AV
 | .bx o v _,off=>.bx o v off
 | .os o v _ _ _,off=>.bx o v off
 | _,off=>.bx 0 0 off
def tpAt (x:AV):AV:=bif x.one then x else Bv false
mutual
def SV.ev (ρ : Nat→AV):SV→AV
 | .a x=>x
 | .i n=>Iv n
 | .s l=>Sv l
 | .tt=>Bv true
 | .ff=>Bv false
 | .b c=>Bv c
 | .p q h=>Bv (@decide q h)
 | .bx k off=>bxAt (ρ k) off
 | .tp k=>tpAt (ρ k)
 | .ag cs=>.ag (SV.evs ρ cs)
 | .tu cs=>.tu (SV.evs ρ cs)
 | .fn f xs ys=>.fn f (SV.evs ρ xs) (SV.evs ρ ys)
 | .ifc t x=>.ifc t (SV.ev ρ x)
def SV.evs (ρ : Nat→AV):List SV→List AV
 | []=>[]
 |x::r=>SV.ev ρ x::SV.evs ρ r
end
mutual
def SV.all (f:Nat→Bool):SV→Bool
 | .bx k _=>f k
 | .tp k=>f k
 | .ag cs=>SV.alls f cs
 | .tu cs=>SV.alls f cs
 | .fn _ xs ys=>SV.alls f xs && SV.alls f ys
 | .ifc _ x=>SV.all f x
 | _=>true
def SV.alls (f:Nat→Bool):List SV→Bool
 | []=>true
 |x::r=>SV.all f x && SV.alls f r
end
theorem wt (ρ : Nat→AV):∀ l:List SV,SV.evs ρ l=l.map (SV.ev ρ)
 | []=>rfl
 |x::r=>by rw [SV.evs,wt ρ r];rfl
mutual
theorem qax {f:Nat→Bool} {ρ ρ':Nat→AV} (h:∀ k,f k=true→ρ' k = ρ k):∀ v:SV,v.all f=true→v.ev ρ'=v.ev ρ
 | .a _,_=>rfl
 | .i _,_=>rfl
 | .s _,_=>rfl
 | .tt,_=>rfl
 | .ff,_=>rfl
 | .b _,_=>rfl
 | .p _ _,_=>rfl
 | .bx k off,hv=>by simp only [SV.all] at hv;simp only [SV.ev,h k hv]
 | .tp k,hv=>by simp only [SV.all] at hv;simp only [SV.ev,h k hv]
 | .ag cs,hv=>by simp only [SV.all] at hv;simp only [SV.ev,yw h cs hv]
 | .tu cs,hv=>by simp only [SV.all] at hv;simp only [SV.ev,yw h cs hv]
 | .fn f xs ys,hv=>by simp only [SV.all,Bool.and_eq_true] at hv;simp only [SV.ev,yw h xs hv.1,yw h ys hv.2]
 | .ifc t x,hv=>by simp only [SV.all] at hv;simp only [SV.ev,qax h x hv]
theorem yw {f:Nat→Bool} {ρ ρ':Nat→AV} (h:∀ k,f k=true→ρ' k = ρ k):∀ l:List SV,SV.alls f l=true→SV.evs ρ' l=SV.evs ρ l
 | [],_=>rfl
 |x::r,hv=>by simp only [SV.alls,Bool.and_eq_true] at hv;simp only [SV.evs,qax h x hv.1,yw h r hv.2]
end
mutual
theorem all_mono {f g:Nat→Bool} (h:∀ k,f k=true→g k=true):∀ v:SV,v.all f=true→v.all g=true
 | .a _,_=>rfl
 | .i _,_=>rfl
 | .s _,_=>rfl
 | .tt,_=>rfl
 | .ff,_=>rfl
 | .b _,_=>rfl
 | .p _ _,_=>rfl
 | .bx k off,hv=>h k hv
 | .tp k,hv=>h k hv
 | .ag cs,hv=>qbk h cs hv
 | .tu cs,hv=>qbk h cs hv
 | .fn f xs ys,hv=>by simp only [SV.all,Bool.and_eq_true] at hv ⊢;exact⟨qbk h xs hv.1,qbk h ys hv.2⟩
 | .ifc t x,hv=>all_mono h x hv
theorem qbk {f g:Nat→Bool} (h:∀ k,f k=true→g k=true):∀ l:List SV,SV.alls f l=true→SV.alls g l=true
 | [],_=>rfl
 |x::r,hv=>by simp only [SV.alls,Bool.and_eq_true] at hv ⊢;exact⟨all_mono h x hv.1,qbk h r hv.2⟩
end
inductive SR where
 |cells (T:TypeId) (cs:List SV)
 |tip (sz:Nat) (T:TypeId) (xs:List AV)
 |own (sz:Nat) (T:TypeId) (xs:List AV)
 |obj (P:AObj→AV→Prop)
  |rows (T:TypeId) (cs:List SV)
def SR.all (f:Nat→Bool):SR→Bool
 | .cells _ cs=>SV.alls f cs
 | .tip _ _ _=>true
 | .own _ _ _=>true
 | .obj _=>true
 | .rows _ cs=>SV.alls f cs
structure qdx (c:AV):Prop where
 val:∀ (G:Gh) (v:Value),Rel G c v→∃ base,v = .slice base 0 0
 one:c.one=true
 len:lenA c=some 0
 bx:∀ (o ver off len cap:Nat),c≠.os o ver off len (cap+1)
 nb:∀ (o ver off:Nat),c≠.bx o ver off
 ns:∀ (sz:Nat) (xs:List AV) (t:Nat),c≠.sl sz xs (some t)
theorem qqd (base:Option Addr):qdx (.v (.slice base 0 0)):=⟨fun G v h=>by cases h;exact⟨base,rfl⟩,rfl,rfl,by simp,by simp,by simp⟩
def OwnS (S:List AObj) (sz:Nat) (T:TypeId) (xs:List AV) (c:AV):Prop:=
 (xs=[]∧qdx c)∨∃ o ver cap pad,c = .os o ver 0 xs.length (cap+1)∧S[o]? = some (.cells ver T (flat xs++pad))∧(flat xs++pad).length=(cap+1) * sz∧(∀ x∈xs,x.cells.length=sz)∧xs.length≤cap+1∧cap+1≤maxLen
def z1:AV→Option Nat
 | .bx o _ _=>some o
 | .sl _ _ (some t)=>some t
 | .os o _ _ _ (_+1)=>some o
 | .mp o=>some o
 | _=>none
def SR.ok (ρ : Nat→AV) (S:List AObj) (c:AV):SR→Prop
 | .cells T cs=>∃ o v,c = .bx o v 0∧S[o]? = some (.cells v T (SV.evs ρ cs))∧v=0
 | .tip sz T xs=>TipO 0 S sz T xs c
 | .own sz T xs=>OwnS S sz T xs c
 | .obj P=>∃ o x,z1 c=some o∧S[o]? = some x∧x≠.dfr∧P x c
 | .rows T cs=>OwnS S 1 T (SV.evs ρ cs) c
theorem SR.all_mono {f g:Nat→Bool} (h:∀ k,f k=true→g k=true):∀ r:SR,r.all f=true→r.all g=true
 | .cells _ cs,hr=>qbk h cs hr
 | .tip _ _ _,_=>rfl
 | .own _ _ _,_=>rfl
 | .obj _,_=>rfl
 | .rows _ cs,hr=>qbk h cs hr
theorem qdx.nm {o:Nat} (h:qdx (.mp o)):False:=by
 obtain⟨_,e⟩:=h.val ⟨fun _=>none,fun _=>⟨0,0,0,true⟩,o+1⟩ (.map (some 0)) (.mp _ _ (Nat.lt_succ_self _) rfl rfl)
 cases e
theorem OwnS.loc {S:List AObj} {sz:Nat} {T:TypeId} {xs:List AV} {c:AV} (h:OwnS S sz T xs c) {o:Nat} (ho:z1 c=some o):∃ ver cap pad,c = .os o ver 0 xs.length (cap+1)∧S[o]? = some (.cells ver T (flat xs++pad))∧(flat xs++pad).length=(cap+1) * sz∧(∀ x∈xs,x.cells.length=sz)∧xs.length≤cap+1∧cap+1≤maxLen:=by
 rcases h with⟨_,h⟩ | ⟨o',ver,cap,pad,rfl,h⟩
 ·unfold z1 at ho
  split at ho
  ·exact absurd rfl (h.nb _ _ _)
  ·exact absurd rfl (h.ns _ _ _)
  ·exact absurd rfl (h.bx _ _ _ _ _)
  ·exact h.nm.elim
  ·simp at ho
 ·simp only [z1,Option.some.injEq] at ho
  subst ho
  exact⟨ver,cap,pad,rfl,h⟩
theorem qdx.loc {c:AV} (h:qdx c):z1 c=none:=by
 unfold z1
 split
 ·exact absurd rfl (h.nb _ _ _)
 ·exact absurd rfl (h.ns _ _ _)
 ·exact absurd rfl (h.bx _ _ _ _ _)
 ·exact h.nm.elim
 ·rfl
theorem qdx.wk {c:AV} (h:qdx c) (sz:Nat):∀ (G:Gh) (v:Value),Rel G c v→Rel G (.sl sz [] none) v:=fun G v hv=>by
 obtain⟨base,rfl⟩:=h.val G v hv
 exact .sl0 sz none _ _ (by simp)
theorem OwnS.of {S S':List AObj} {sz:Nat} {T:TypeId} {xs:List AV} {c:AV} (h:OwnS S sz T xs c) (hs:∀ o,z1 c=some o→S'[o]? = S[o]?):OwnS S' sz T xs c:=by
 rcases h with h | ⟨o,ver,cap,pad,rfl,h1,h2⟩
 ·exact .inl h
 ·exact .inr ⟨o,ver,cap,pad,rfl,(hs o rfl).trans h1,h2⟩
theorem SR.ok_lt {ρ : Nat→AV} {S:List AObj} {c:AV} {r:SR} (h:r.ok ρ S c) {o:Nat} (ho:z1 c=some o):o<S.length:=by
 cases r with
 |cells T cs=>
  obtain⟨o',v,rfl,h,_⟩:=h
  simp only [z1,Option.some.injEq] at ho
  subst ho
  exact lt_of_getElem? h
 |tip sz T xs=>
  rcases h with (⟨_,rfl⟩ | ⟨t,rfl,ht,_⟩) | ⟨_,o',v,f,rfl⟩
  ·simp [z1] at ho
  ·simp only [z1,Option.some.injEq] at ho
   subst ho
   exact lt_of_getElem? ht
  ·simp [z1] at ho
 |own sz T xs=>
  obtain⟨_,_,_,_,h,_⟩:=OwnS.loc h ho
  exact lt_of_getElem? h
 |obj P=>
  obtain⟨o',x,h1,h2,_⟩:=h
  rw [h1,Option.some.injEq] at ho
  subst ho
  exact lt_of_getElem? h2
 |rows T cs=>
  obtain⟨_,_,_,_,h,_⟩:=OwnS.loc h ho
  exact lt_of_getElem? h
theorem SR.ok_of {ρ ρ':Nat→AV} {S S':List AObj} {c:AV} {r:SR} {f:Nat→Bool} (hf:r.all f=true) (hr:∀ k,f k=true→ρ' k = ρ k) (h:r.ok ρ S c) (hs:∀ o,z1 c=some o→S'[o]? = S[o]?):r.ok ρ' S' c:=by
 cases r with
 |cells T cs=>
  obtain⟨o,v,rfl,h,h0⟩:=h
  refine⟨o,v,rfl,?_,h0⟩
  rw [hs o rfl,yw hr cs hf]
  exact h
 |tip sz T xs=>
  rcases h with (⟨h1,h2⟩ | ⟨t,rfl,ht,h0⟩)|h
  ·exact .inl (.inl ⟨h1,h2⟩)
  ·exact .inl (.inr ⟨t,rfl,(hs t rfl).trans ht,h0⟩)
  ·exact .inr h
 |own sz T xs=>exact OwnS.of h hs
 |obj P=>
  obtain⟨o,x,h1,h2,h3⟩:=h
  exact⟨o,x,h1,(hs o h1).trans h2,h3⟩
 |rows T cs=>
  have h2:=OwnS.of (S':=S') (show OwnS S 1 T (SV.evs ρ cs) c from h) hs
  show OwnS S' 1 T (SV.evs ρ' cs) c
  rw [yw hr cs hf]
  exact h2
structure SatF (S:List AObj) (ρ : Nat→AV) (H:Nat→Option SR):Prop where
 ok:∀ k r,H k=some r→r.ok ρ S (ρ k)
 sep:∀ k k' r r',k≠k'→H k=some r→H k'=some r'→∀ o,z1 (ρ k)=some o→z1 (ρ k')≠some o
def lkS {α : Type}:List (Nat×α)→Nat→Option α
 | [],_=>none
 |(i,v)::r,k=>bif Nat.beq i k then some v else lkS r k
theorem qbn {α : Type}:∀ (l r:List (Nat×α)) (k:Nat),lkS (l++r) k=match lkS l k with|some v=>some v|none=>lkS r k
 | [],_,_=>rfl
 |(i,v)::l,r,k=>by
  simp only [List.cons_append,lkS]
  cases Nat.beq i k
  ·simp only [cond_false];exact qbn l r k
  ·rfl
def hpF (hp:List (Nat×Option SR)) (k:Nat):Option SR:=match lkS hp k with|some r=>r|none=>none
def chF (ch:List (Nat×Option SR)) (H:Nat→Option SR) (k:Nat):Option SR:=match lkS ch k with|some r=>r|none=>H k
theorem qs3 (ch hp:List (Nat×Option SR)):hpF (ch++hp)=chF ch (hpF hp):=by
 funext k
 unfold hpF chF
 rw [qbn]
 cases lkS ch k <;> rfl
def memN (ks:List Nat) (k:Nat):Bool:=ks.any (Nat.beq k)
def resF (ks:List Nat) (H:Nat→Option SR) (k:Nat):Option SR:=bif memN ks k then H k else none
theorem w7 {ks:List Nat} {H:Nat→Option SR} {k:Nat} {r:SR} (h:resF ks H k=some r):memN ks k=true∧H k=some r:=by
 unfold resF at h
 cases hm:memN ks k with
 |true=>rw [hm] at h;exact⟨rfl,h⟩
 |false=>rw [hm] at h;simp at h
theorem SatF.res {S:List AObj} {ρ : Nat→AV} {H:Nat→Option SR} (h:SatF S ρ H) (ks:List Nat):SatF S ρ (resF ks H):=
 ⟨fun k r hk=>h.ok k r (w7 hk).2,fun k k' r r' hne h1 h2=>h.sep k k' r r' hne (w7 h1).2 (w7 h2).2⟩
structure Ef where
 val:SV
 ks:List Nat
 ch:List (Nat×Option SR)
 nx:Nat
def Ef.wf (e:Ef) (nx:Nat):Bool:=Nat.ble nx e.nx && e.val.all (fun k=>Nat.blt k e.nx) && e.ch.all (fun p=>Nat.blt p.1 e.nx && (memN e.ks p.1 ||Nat.ble nx p.1) && match p.2 with|some r=>r.all (fun k=>Nat.blt k e.nx)|none=>true)
def SlOk (ρ : Nat→AV) (t:Nat→AV) (sl:List (Nat×SV)):Prop:=∀ d v,lkS sl d=some v→t d=v.ev ρ
structure qeb (ρ : Nat→AV) (S:List AObj) (nx:Nat) (H:Nat→Option SR) (e:Ef) (ρ':Nat→AV) (S':List AObj):Prop where
 old:∀ k,(k<nx∨e.nx≤k)→ρ' k = ρ k
 sat:SatF S' ρ' (chF e.ch (resF e.ks H))
 len:S.length≤S'.length
 fr:∀ j,j<S.length→(∀ k r,resF e.ks H k=some r→z1 (ρ k)≠some j)→S'[j]? = S[j]?
 loc:∀ k r,chF e.ch (resF e.ks H) k=some r→∀ o,z1 (ρ' k)=some o→S.length≤o∨∃ k' r',resF e.ks H k'=some r'∧z1 (ρ k')=some o
def Loc (E:Env) (N:Nat) (ops:Array Oper) (o:Oper) (nx:Nat) (sl:List (Nat×SV)) (H:Nat→Option SR) (e:Ef):Prop:=
 ∀ (df:List Nat) (rd:Option Nat) (K:AS→Prop) (rest:List Oper) (ρ : Nat→AV) (t:Nat→AV) (S:List AObj),SlOk ρ t sl→SatF S ρ (resF e.ks H) →
  (∀ ρ' S',qeb ρ S nx H e ρ' S'→AOps E rd N ops rest K (AS.put ⟨t,S',df⟩ o.dst (e.val.ev ρ')))→AOps E rd N ops (o::rest) K ⟨t,S,df⟩
structure Conf where
 sl:List (Nat×SV)
 hp:List (Nat×Option SR)
 nx:Nat
def Conf.app (C:Conf) (d:Option Tmp) (e:Ef):Conf:=⟨match d with|some d=>(d,e.val)::C.sl|none=>C.sl,e.ch++C.hp,e.nx⟩
structure SatR (S0:List AObj) (F:Nat→Prop) (C:Conf) (ρ : Nat→AV) (t:Nat→AV) (S:List AObj):Prop where
 sl:SlOk ρ t C.sl
 hp:SatF S ρ (hpF C.hp)
 own:∀ k r,hpF C.hp k=some r→∀ o,z1 (ρ k)=some o→S0.length≤o∨F o
 low:∀ j,j<S0.length→¬ F j→S[j]? = S0[j]?
 len:S0.length≤S.length
 wsl:∀ d v,lkS C.sl d=some v→v.all (fun k=>Nat.blt k C.nx)=true
 whp:∀ k r,hpF C.hp k=some r→k<C.nx∧r.all (fun k=>Nat.blt k C.nx)=true
structure Bs where
 S0:List AObj
 F:Nat→Prop
 ρ0:Nat→AV
 n0:Nat
 dz:Prop
structure Frm (B:Bs) (C:Conf) (ρ : Nat→AV) (df:List Nat) (S:List AObj):Prop where
 dm:∀ d∈df,S[d]? = some .dfr∧B.S0.length≤d
 nd:df.Nodup
 rig:∀ k,k<B.n0→ρ k=B.ρ0 k
 le:B.n0≤C.nx
 dz:B.dz→df=[]
def SatC (B:Bs) (C:Conf) (s:AS):Prop:=∃ ρ,Frm B C ρ s.df s.st∧SatR B.S0 B.F C ρ s.t s.st
theorem SR.ok_dfr {ρ : Nat→AV} {S:List AObj} {c:AV} {r:SR} (h:r.ok ρ S c) {o:Nat} (ho:z1 c=some o):S[o]?≠some .dfr:=by
 cases r with
 |cells T cs=>
  obtain⟨o',v,rfl,h,_⟩:=h
  simp only [z1,Option.some.injEq] at ho
  subst ho
  rw [h]
  simp
 |tip sz T xs=>
  rcases h with (⟨_,rfl⟩ | ⟨t,rfl,ht,_⟩) | ⟨_,o',v,f,rfl⟩
  ·simp [z1] at ho
  ·simp only [z1,Option.some.injEq] at ho
   subst ho
   rw [ht]
   simp
  ·simp [z1] at ho
 |own sz T xs=>
  obtain⟨_,_,_,_,h,_⟩:=OwnS.loc h ho
  rw [h]
  simp
 |obj P=>
  obtain⟨o',x,h1,h2,h3,_⟩:=h
  rw [h1,Option.some.injEq] at ho
  subst ho
  rw [h2]
  simpa using h3
 |rows T cs=>
  obtain⟨_,_,_,_,h,_⟩:=OwnS.loc h ho
  rw [h]
  simp
theorem v7 {a b:Nat} (h:Nat.blt a b=true):a<b:=by simpa [Nat.blt_eq] using h
theorem qac {a b:Nat} (h:a<b):Nat.blt a b=true:=by simpa [Nat.blt_eq] using h
theorem qdl {e:Ef} {nx:Nat} (h:e.wf nx=true):nx≤e.nx∧e.val.all (fun k=>Nat.blt k e.nx)=true∧∀ p∈e.ch,p.1<e.nx∧(memN e.ks p.1=true∨nx≤p.1)∧∀ r,p.2=some r→r.all (fun k=>Nat.blt k e.nx)=true:=by
 simp only [Ef.wf,Bool.and_eq_true] at h
 refine⟨Nat.le_of_ble_eq_true h.1.1,h.1.2,fun p hp=>?_⟩
 have:=List.all_eq_true.1 h.2 p hp
 simp only [Bool.and_eq_true,Bool.or_eq_true] at this
 refine⟨v7 this.1.1,this.1.2.imp_right Nat.le_of_ble_eq_true,fun r hr=>?_⟩
 have h3:=this.2
 rw [hr] at h3
 exact h3
theorem vr {α : Type}:∀ {l:List (Nat×α)} {k:Nat} {v : α},lkS l k=some v→(k,v)∈l
 | [],_,_,h=>by simp [lkS] at h
 |(i,x)::r,k,v,h=>by
  unfold lkS at h
  cases hb:Nat.beq i k with
  |true=>
   rw [hb] at h
   simp only [cond_true,Option.some.injEq] at h
   have:=Nat.eq_of_beq_eq_true hb
   subst this
   subst h
   simp
  |false=>
   rw [hb] at h
   exact List.mem_cons_of_mem _ (vr h)
theorem SatR.stepG {S0:List AObj} {F:Nat→Prop} {C:Conf} {ρ ρ' t:Nat→AV} {S S':List AObj} {e:Ef} {d:Option Tmp} {nx NX:Nat} (h:SatR S0 F C ρ t S) (hN:C.nx≤NX) (w2:e.val.all (fun k=>Nat.blt k NX)=true) (w3:∀ p∈e.ch,p.1<NX∧∀ r,p.2=some r→r.all (fun k=>Nat.blt k NX)=true)
  (a1:∀ d v,lkS C.sl d=some v→v.all (fun k=>Nat.blt k nx ||Nat.ble e.nx k)=true) (a2:∀ k r,hpF C.hp k=some r→(k<nx∨e.nx≤k)∧r.all (fun k=>Nat.blt k nx ||Nat.ble e.nx k)=true) (hp:qeb ρ S nx (hpF C.hp) e ρ' S') :
  SatR S0 F ⟨match d with|some d=>(d,e.val)::C.sl|none=>C.sl,e.ch++C.hp,NX⟩ ρ' (AS.put ⟨t,S',[]⟩ d (e.val.ev ρ')).t S':=by
 have hav:∀ k,(Nat.blt k nx ||Nat.ble e.nx k)=true→ρ' k = ρ k:=fun k hk=>by
  rcases Bool.or_eq_true_iff.1 hk with hk|hk
  ·exact hp.old k (.inl (v7 hk))
  ·exact hp.old k (.inr (Nat.le_of_ble_eq_true hk))
 have hev:∀ d v,lkS C.sl d=some v→v.ev ρ'=v.ev ρ:=fun d v hd=>qax hav v (a1 d v hd)
 have hres:∀ k r,hpF C.hp k=some r→memN e.ks k=true→resF e.ks (hpF C.hp) k=some r:=fun k r h1 h2=>by unfold resF;rw [h2];exact h1
 -- what lies at a name behind the operation
 have key:∀ k r,hpF (e.ch++C.hp) k=some r→chF e.ch (resF e.ks (hpF C.hp)) k=some r∨(memN e.ks k=false∧lkS e.ch k=none∧hpF C.hp k=some r):=fun k r hk=>by
  rw [qs3] at hk
  unfold chF at hk ⊢
  cases hl:lkS e.ch k with
  |some x=>rw [hl] at hk;exact .inl hk
  |none=>
   rw [hl] at hk
   simp only at hk ⊢
   cases hm:memN e.ks k with
   |true=>exact .inl (hres k r hk hm)
   |false=>exact .inr ⟨rfl,trivial,hk⟩
 have hst:∀ k r,memN e.ks k=false→hpF C.hp k=some r→∀ o,z1 (ρ k)=some o→S'[o]? = S[o]?∧o<S.length:=fun k r hm hk o ho=>by
  have hlt:=SR.ok_lt (h.hp.ok k r hk) ho
  refine⟨hp.fr o hlt fun k' r' hk'=>?_,hlt⟩
  obtain⟨hm',hk'⟩:=w7 hk'
  have hne:k≠k':=fun e=>by subst e;rw [hm] at hm';simp at hm'
  exact h.hp.sep k k' r r' hne hk hk' o ho
 have hρ : ∀ k r,hpF C.hp k=some r→ρ' k = ρ k:=fun k r hk=>hp.old k (a2 k r hk).1
 have sepx:∀ k k' r r',memN e.ks k=false→hpF C.hp k=some r→chF e.ch (resF e.ks (hpF C.hp)) k'=some r'→∀ o,z1 (ρ' k)=some o→z1 (ρ' k')≠some o:=fun k k' r r' hm hk hk' o ho ho'=>by
  rw [hρ k r hk] at ho
  obtain⟨_,hlt⟩:=hst k r hm hk o ho
  rcases hp.loc k' r' hk' o ho' with h1 | ⟨k2,r2,h2,h3⟩
  ·omega
  ·obtain⟨hm2,hk2⟩:=w7 h2
   have hne:k≠k2:=fun e=>by subst e;rw [hm] at hm2;simp at hm2
   exact h.hp.sep k k2 r r2 hne hk hk2 o ho h3
 refine⟨?_,⟨?_,?_⟩,?_,?_,Nat.le_trans h.len hp.len,?_,?_⟩
 ·cases d with
  |none=>exact fun x v hx=>(h.sl x v hx).trans (hev x v hx).symm
  |some d=>
   intro x v hx
   simp only [lkS] at hx
   by_cases hd:x=d
   ·subst hd
    have hb:Nat.beq x x=true:=by simp
    rw [hb] at hx
    simp only [cond_true,Option.some.injEq] at hx
    subst hx
    exact x3 _ _ _
   ·rw [va (fun e=>hd e.symm)] at hx
    simp only [cond_false] at hx
    exact (y3 _ _ _ _ hd).trans ((h.sl x v hx).trans (hev x v hx).symm)
 ·intro k r hk
  rcases key k r hk with h1 | ⟨hm,_,h1⟩
  ·exact hp.sat.ok k r h1
  ·rw [hρ k r h1]
   exact SR.ok_of (a2 k r h1).2 hav (h.hp.ok k r h1) fun o ho=>(hst k r hm h1 o ho).1
 ·intro k k' r r' hne hk hk' o ho
  rcases key k r hk with h1 | ⟨hm,_,h1⟩
  ·rcases key k' r' hk' with h2 | ⟨hm2,_,h2⟩
   ·exact hp.sat.sep k k' r r' hne h1 h2 o ho
   ·exact fun ho'=>sepx k' k r' r hm2 h2 h1 o ho' ho
  ·rcases key k' r' hk' with h2 | ⟨hm2,_,h2⟩
   ·exact sepx k k' r r' hm h1 h2 o ho
   ·rw [hρ k r h1] at ho
    rw [hρ k' r' h2]
    exact h.hp.sep k k' r r' hne h1 h2 o ho
 ·intro k r hk o ho
  rcases key k r hk with h1 | ⟨hm,_,h1⟩
  ·rcases hp.loc k r h1 o ho with h2 | ⟨k',r',h2,h3⟩
   ·exact .inl (Nat.le_trans h.len h2)
   ·exact h.own k' r' (w7 h2).2 o h3
  ·rw [hρ k r h1] at ho
   exact h.own k r h1 o ho
 ·intro j hj hF
  refine (hp.fr j (Nat.lt_of_lt_of_le hj h.len) fun k r hk ho=>?_).trans (h.low j hj hF)
  rcases h.own k r (w7 hk).2 j ho with h1|h1
  ·omega
  ·exact hF h1
 ·intro x v hx
  have hold:lkS C.sl x=some v→v.all (fun k=>Nat.blt k NX)=true:=fun hx=>all_mono (fun k hk=>qac (by have:=v7 hk;omega)) v (h.wsl x v hx)
  cases d with
  |none=>exact hold hx
  |some d=>
   simp only [lkS] at hx
   cases hb:Nat.beq d x with
   |true=>
    rw [hb] at hx
    simp only [cond_true,Option.some.injEq] at hx
    subst hx
    exact w2
   |false=>
    rw [hb] at hx
    exact hold hx
 ·intro k r hk
  have hold:hpF C.hp k=some r→k<NX∧r.all (fun k=>Nat.blt k NX)=true:=fun hk=>⟨by have:=(h.whp k r hk).1;omega,SR.all_mono (fun k hk=>qac (by have:=v7 hk;omega)) r (h.whp k r hk).2⟩
  rcases key k r hk with h1 | ⟨_,_,h1⟩
  ·unfold chF at h1
   cases hl:lkS e.ch k with
   |some x=>
    rw [hl] at h1
    simp only at h1
    obtain⟨h2,h3⟩:=w3 _ (vr hl)
    exact⟨h2,h3 r h1⟩
   |none=>
    rw [hl] at h1
    exact hold (w7 h1).2
  ·exact hold h1
theorem SatR.step {S0:List AObj} {F:Nat→Prop} {C:Conf} {ρ ρ' t:Nat→AV} {S S':List AObj} {e:Ef} {d:Option Tmp} (h:SatR S0 F C ρ t S) (hw:e.wf C.nx=true) (hp:qeb ρ S C.nx (hpF C.hp) e ρ' S') :
  SatR S0 F (C.app d e) ρ' (AS.put ⟨t,S',[]⟩ d (e.val.ev ρ')).t S':=by
 obtain⟨w1,w2,w3⟩:=qdl hw
 exact h.stepG w1 w2 (fun p hp=>⟨(w3 p hp).1,(w3 p hp).2.2⟩) (fun d v hd=>all_mono (fun k hk=>by rw [hk];rfl) v (h.wsl d v hd)) (fun k r hk=>⟨.inl (h.whp k r hk).1,SR.all_mono (fun k hk=>by rw [hk];rfl) r (h.whp k r hk).2⟩) hp
theorem Frm.nx {B:Bs} {C C':Conf} {ρ : Nat→AV} {S:List AObj} {df:List Nat} (h:Frm B C ρ df S) (hn:B.n0≤C'.nx):Frm B C' ρ df S:=⟨h.dm,h.nd,h.rig,hn,h.dz⟩
theorem Frm.stepG {B:Bs} {C C':Conf} {ρ ρ':Nat→AV} {S S':List AObj} {df:List Nat} {e:Ef} {nx:Nat} {H:Nat→Option SR} (h:Frm B C ρ df S) (hS:SatF S ρ H) (hp:qeb ρ S nx H e ρ' S') (hn:B.n0≤nx) (hn':B.n0≤C'.nx):Frm B C' ρ' df S':=by
 refine⟨fun x hx=>?_,h.nd,fun k hk=>?_,hn',h.dz⟩
 ·have hm:=h.dm x hx
  refine⟨?_,hm.2⟩
  rw [hp.fr x (lt_of_getElem? hm.1) fun k r hk hl=>?_]
  ·exact hm.1
  ·exact SR.ok_dfr (hS.ok k r (w7 hk).2) hl hm.1
 ·rw [hp.old k (.inl (Nat.lt_of_lt_of_le hk hn))]
  exact h.rig k hk
theorem Frm.step {B:Bs} {C:Conf} {ρ ρ':Nat→AV} {S S':List AObj} {df:List Nat} {e:Ef} {d:Option Tmp} (h:Frm B C ρ df S) (hS:SatF S ρ (hpF C.hp)) (hw:e.wf C.nx=true) (hp:qeb ρ S C.nx (hpF C.hp) e ρ' S'):Frm B (C.app d e) ρ' df S':=
 h.stepG hS hp h.le (Nat.le_trans h.le (qdl hw).1)
theorem SatR.dead {S0:List AObj} {F:Nat→Prop} {C:Conf} {ρ t:Nat→AV} {S:List AObj} {d:Nat} (h:SatR S0 F C ρ t S) (hd:S[d]? = some .dfr) (hl:S0.length≤d):SatR S0 F C ρ t (S.set d .dead):=by
 refine⟨h.sl,⟨fun k r hk=>?_,h.hp.sep⟩,h.own,fun j hj hF=>?_,by simpa using h.len,h.wsl,h.whp⟩
 ·refine SR.ok_of (f:=fun _=>true) (SR.all_mono (fun _ _=>rfl) r (h.whp k r hk).2) (fun _ _=>rfl) (h.hp.ok k r hk) fun o ho=>?_
  have hne:d≠o:=fun e=>SR.ok_dfr (h.hp.ok k r hk) ho (e▸hd)
  rw [List.getElem?_set_ne hne]
 ·rw [List.getElem?_set_ne (by omega)]
  exact h.low j hj hF
theorem SR.ok_ct {ρ : Nat→AV} {S:List AObj} {c:AV} {r:SR} (h:r.ok ρ S c) {o:Nat} (ho:z1 c=some o):(∃ T cs v,S[o]? = some (.cells v T cs)∧∃ T' cs',r = .cells T' cs')∨(∃ m sz T,S[o]? = some (.tip m sz T))∨(∃ sz T xs,r = .own sz T xs)∨(∃ P,r = .obj P)∨∃ T cs,r = .rows T cs:=by
 cases r with
 |cells T cs=>
  obtain⟨o',v,rfl,h,_⟩:=h
  simp only [z1,Option.some.injEq] at ho
  subst ho
  exact .inl ⟨_,_,_,h,_,_,rfl⟩
 |tip sz T xs=>
  rcases h with (⟨_,rfl⟩ | ⟨t,rfl,ht,_⟩) | ⟨_,o',v,f,rfl⟩
  ·simp [z1] at ho
  ·simp only [z1,Option.some.injEq] at ho
   subst ho
   exact .inr (.inl ⟨_,_,_,ht⟩)
  ·simp [z1] at ho
 |own sz T xs=>exact .inr (.inr (.inl ⟨_,_,_,rfl⟩))
 |obj P=>exact .inr (.inr (.inr (.inl ⟨_,rfl⟩)))
 |rows T cs=>exact .inr (.inr (.inr (.inr ⟨_,_,rfl⟩)))
def qbf (hp:List (Nat×Option SR)) (ρ : Nat→AV) (o:Nat):Prop:=∃ k r,hpF hp k=some r∧z1 (ρ k)=some o
theorem SatR.rebase {S0:List AObj} {F:Nat→Prop} {C:Conf} {ρ t:Nat→AV} {S S':List AObj} (h:SatR S0 F C ρ t S) (hs:∀ o,qbf C.hp ρ o→S'[o]? = S[o]?):SatR S' (qbf C.hp ρ) C ρ t S':=
 ⟨h.sl,⟨fun k r hk=>SR.ok_of (f:=fun _=>true) (SR.all_mono (fun _ _=>rfl) r (h.whp k r hk).2) (fun _ _=>rfl) (h.hp.ok k r hk) fun o ho=>hs o ⟨k,r,hk,ho⟩,h.hp.sep⟩,
  fun k r hk o ho=>.inr ⟨k,r,hk,ho⟩,fun _ _ _=>rfl,Nat.le_refl _,h.wsl,h.whp⟩
def Wk (x r:AV):Prop:=∀ (G:Gh) (v:Value),Rel G x v→Rel G r v
theorem w6 (x:AV):Wk x x:=fun _ _ h=>h
theorem q3t {x y:AV} (h:x=y):Wk x y:=h▸w6 x
theorem qz6 (sz:Nat) (xs:List AV) (tip:Option Nat):Wk (.sl sz xs tip) (.sl sz xs none):=fun _ _ h=>qfo h
theorem qvs {xs ys:List AV} (hl:xs.length=ys.length) (h:∀ (i:Nat) (x y:AV),xs[i]? = some x→ys[i]? = some y→Wk x y):Wk (.ag xs) (.ag ys):=fun G v hr=>by
 cases hr with
 |ag _ vs hl' hr=>
  refine .ag _ vs (by omega) fun i y b hy hb=>?_
  have hi:=lt_of_getElem? hy
  have hx:xs[i]? = some (xs[i]'(by omega)):=List.getElem?_eq_getElem (by omega)
  exact h i _ y hx hy G b (hr i _ b hx hb)
theorem q0i {xs ys:List AV} (hl:xs.length=ys.length) (h:∀ (i:Nat) (x y:AV),xs[i]? = some x→ys[i]? = some y→Wk x y):Wk (.tu xs) (.tu ys):=fun G v hr=>by
 cases hr with
 |tu _ vs hl' hr=>
  refine .tu _ vs (by omega) fun i y b hy hb=>?_
  have hi:=lt_of_getElem? hy
  have hx:xs[i]? = some (xs[i]'(by omega)):=List.getElem?_eq_getElem (by omega)
  exact h i _ y hx hy G b (hr i _ b hx hb)
theorem q3j {t:TypeId} {x y:AV} (h:Wk x y):Wk (.ifc t x) (.ifc t y):=fun G v hr=>by
 cases hr with
 |ifc _ _ z hz=>exact .ifc t y z (h G z hz)
theorem q3u {f:Fn} {a b c d:List AV} (h1:a.length=c.length) (h2:∀ (i:Nat) (x y:AV),a[i]? = some x→c[i]? = some y→Wk x y) (h3:b.length=d.length) (h4:∀ (i:Nat) (x y:AV),b[i]? = some x→d[i]? = some y→Wk x y):Wk (.fn f a b) (.fn f c d):=fun G v hr=>by
 cases hr with
 |fn _ _ _ a' b' g1 g2 g3 g4=>
  refine .fn f c d a' b' (by omega) (by omega) (fun i x y hx hy=>?_) (fun i x y hx hy=>?_)
  ·have hi:i<a.length:=by have:=lt_of_getElem? hx;omega
   have hz:a[i]? = some a[i]:=List.getElem?_eq_getElem hi
   exact h2 i _ x hz hx G y (g3 i _ y hz hy)
  ·have hi:i<b.length:=by have:=lt_of_getElem? hx;omega
   have hz:b[i]? = some b[i]:=List.getElem?_eq_getElem hi
   exact h4 i _ x hz hx G y (g4 i _ y hz hy)
mutual
def frz (H:Nat→Option SR):SV→Option AV
 | .a x=>some x
 | .i n=>some (Iv n)
 | .s l=>some (Sv l)
 | .tt=>some (Bv true)
 | .ff=>some (Bv false)
 | .b c=>some (Bv c)
 | .p q h=>some (Bv (@decide q h))
 | .bx _ _=>none
 | .tp k=>match H k with
  |some (.tip sz _ xs)=>some (.sl sz xs none)
  | _=>none
 | .ag cs=>match frzs H cs with
  |some l=>some (.ag l)
  |none=>none
 | .tu cs=>match frzs H cs with
  |some l=>some (.tu l)
  |none=>none
 | .fn f xs ys=>match frzs H xs,frzs H ys with
  |some a,some b=>some (.fn f a b)
  | _,_=>none
 | .ifc t x=>match frz H x with
  |some y=>some (.ifc t y)
  |none=>none
def frzs (H:Nat→Option SR):List SV→Option (List AV)
 | []=>some []
 |x::r=>match frz H x,frzs H r with
  |some y,some l=>some (y::l)
  | _,_=>none
end
theorem qxd {x:AV} (h:x.one=true):x.cells=[x]:=by
 cases x <;> first|rfl|simp [AV.one] at h
theorem qm1 {b:Nat} {S:List AObj} {sz:Nat} {T:TypeId} {xs:List AV} {c:AV} (h:TipO b S sz T xs c):Wk (tpAt c) (.sl sz xs none)∧c.one=true:=by
 have h1:c.one=true:=by rcases h with (⟨_,rfl⟩ | ⟨t,rfl,_⟩) | ⟨_,o,v,f,rfl⟩ <;> rfl
 refine⟨?_,h1⟩
 unfold tpAt
 rw [h1]
 exact qqz h
mutual
theorem qeu {S:List AObj} {ρ : Nat→AV} {H:Nat→Option SR} (hS:SatF S ρ H):∀ (v:SV) (x:AV),frz H v=some x→Wk (v.ev ρ) x
 | .a y,x,h=>by simp only [frz,Option.some.injEq] at h;subst h;exact w6 _
 | .i y,x,h=>by simp only [frz,Option.some.injEq] at h;subst h;exact w6 _
 | .s y,x,h=>by simp only [frz,Option.some.injEq] at h;subst h;exact w6 _
 | .tt,x,h=>by simp only [frz,Option.some.injEq] at h;subst h;exact w6 _
 | .ff,x,h=>by simp only [frz,Option.some.injEq] at h;subst h;exact w6 _
 | .b y,x,h=>by simp only [frz,Option.some.injEq] at h;subst h;exact w6 _
 | .p q d,x,h=>by simp only [frz,Option.some.injEq] at h;subst h;exact w6 _
 | .bx _ _,x,h=>by simp [frz] at h
 | .tp k,x,h=>by
  simp only [frz] at h
  split at h
  ·rename_i sz T xs hk
   simp only [Option.some.injEq] at h
   subst h
   exact (qm1 (hS.ok k _ hk)).1
  ·simp at h
 | .ag cs,x,h=>by
  simp only [frz] at h
  split at h
  ·rename_i l hl
   simp only [Option.some.injEq] at h
   subst h
   obtain⟨h1,h2⟩:=qcw hS cs l hl
   exact qvs h1 h2
  ·simp at h
 | .tu cs,x,h=>by
  simp only [frz] at h
  split at h
  ·rename_i l hl
   simp only [Option.some.injEq] at h
   subst h
   obtain⟨h1,h2⟩:=qcw hS cs l hl
   exact q0i h1 h2
  ·simp at h
 | .fn f xs ys,x,h=>by
  simp only [frz] at h
  split at h
  ·rename_i a b ha hb
   simp only [Option.some.injEq] at h
   subst h
   obtain⟨h1,h2⟩:=qcw hS xs a ha
   obtain⟨h3,h4⟩:=qcw hS ys b hb
   exact q3u h1 h2 h3 h4
  ·simp at h
 | .ifc t y,x,h=>by
  simp only [frz] at h
  split at h
  ·rename_i z hz
   simp only [Option.some.injEq] at h
   subst h
   exact q3j (qeu hS y z hz)
  ·simp at h
theorem qcw {S:List AObj} {ρ : Nat→AV} {H:Nat→Option SR} (hS:SatF S ρ H):∀ (l:List SV) (ys:List AV),frzs H l=some ys→(SV.evs ρ l).length=ys.length∧∀ (i:Nat) (x y:AV),(SV.evs ρ l)[i]? = some x→ys[i]? = some y→Wk x y
 | [],ys,h=>by simp only [frzs,Option.some.injEq] at h;subst h;exact⟨rfl,by simp [SV.evs]⟩
 |v::r,ys,h=>by
  simp only [frzs] at h
  split at h
  ·rename_i y l hy hl
   simp only [Option.some.injEq] at h
   subst h
   obtain⟨h1,h2⟩:=qcw hS r l hl
   have h3:=qeu hS v y hy
   refine⟨by simp [SV.evs,h1],fun i a b ha hb=>?_⟩
   cases i with
   |zero=>simp [SV.evs] at ha hb;subst ha;subst hb;exact h3
   |succ i=>exact h2 i a b (by simpa [SV.evs] using ha) (by simpa using hb)
  ·simp at h
end
mutual
def SV.ks:SV→List Nat
 | .bx k _=>[k]
 | .tp k=>[k]
 | .ag cs=>SV.kss cs
 | .tu cs=>SV.kss cs
 | .fn _ xs ys=>SV.kss xs++SV.kss ys
 | .ifc _ x=>SV.ks x
 | _=>[]
def SV.kss:List SV→List Nat
 | []=>[]
 |x::r=>SV.ks x++SV.kss r
end
mutual
def nf:AV→SV
 | .v (.int .i64 n)=>.i n
 | .v (.string ⟨⟨l⟩⟩)=>.s l
 | .v (.bool c)=>.b c
 | .ag cs=>.ag (nfs cs)
 | .tu cs=>.tu (nfs cs)
 |x=>.a x
def nfs:List AV→List SV
 | []=>[]
 |x::r=>nf x::nfs r
end
mutual
theorem qi2 (ρ : Nat→AV):∀ x:AV,(nf x).ev ρ = x
 | .v x=>by
  unfold nf
  split <;> first|rfl|(rename_i h;cases h;done)|(rename_i h;cases h;rfl)
 | .ag cs=>by simp only [nf,SV.ev,qd1 ρ cs]
 | .tu cs=>by simp only [nf,SV.ev,qd1 ρ cs]
 | .ifc _ _=>rfl
 | .fn _ _ _=>rfl
 | .sl _ _ _=>rfl
 | .pp _=>rfl
 | .bx _ _ _=>rfl
 | .os _ _ _ _ _=>rfl
 | .mp _=>rfl
 | .yd _=>rfl
theorem qd1 (ρ : Nat→AV):∀ l:List AV,SV.evs ρ (nfs l)=l
 | []=>rfl
 |x::r=>by simp only [nfs,SV.evs,qi2 ρ x,qd1 ρ r]
end
mutual
theorem q22 {f:Nat→Bool}:∀ x:AV,(nf x).all f=true
 | .v x=>by unfold nf;split <;> first|rfl|(rename_i h;cases h)
 | .ag cs=>by simp only [nf,SV.all];exact qi3 cs
 | .tu cs=>by simp only [nf,SV.all];exact qi3 cs
 | .ifc _ _=>rfl
 | .fn _ _ _=>rfl
 | .sl _ _ _=>rfl
 | .pp _=>rfl
 | .bx _ _ _=>rfl
 | .os _ _ _ _ _=>rfl
 | .mp _=>rfl
 | .yd _=>rfl
theorem qi3 {f:Nat→Bool}:∀ l:List AV,SV.alls f (nfs l)=true
 | []=>rfl
 |x::r=>by simp only [nfs,SV.alls,q22 x,qi3 r];rfl
end
def cst:Value→SV
 | .bool true=>.tt
 | .bool false=>.ff
 |x=>nf (.v x)
theorem q2m (ρ : Nat→AV) (x:Value):(cst x).ev ρ = .v x:=by
 unfold cst
 split
 ·rfl
 ·rfl
 ·exact qi2 ρ _
def SV.cells:SV→List SV
 | .ag cs=>cs
 | .a x=>nfs x.cells
 |v=>[v]
theorem qj2 (ρ : Nat→AV) (v:SV):SV.evs ρ v.cells=(v.ev ρ).cells:=by
 cases v with
 |a x=>exact qd1 ρ _
 |bx k off=>simp only [SV.cells,SV.evs,SV.ev];cases ρ k <;> rfl
 |tp k=>simp only [SV.cells,SV.evs,SV.ev,tpAt];cases h:(ρ k).one <;> first|rfl|(simp only [cond_true];exact (qxd h).symm)
 | _=>rfl
def SV.okc:SV→Bool
 | .a x=>x.okc
 | _=>true
theorem qqk (ρ : Nat→AV) (v:SV) (h:v.okc=true):(v.ev ρ).okc=true:=by
 cases v with
 |a x=>exact h
 |bx k off=>simp only [SV.ev];cases ρ k <;> rfl
 |tp k=>
  simp only [SV.ev,tpAt]
  cases h:(ρ k).one
  ·rfl
  ·simp only [cond_true]
   cases hk : ρ k with
   |v x=>rw [hk] at h;cases x <;> first|rfl|simp [AV.one] at h
   | _=>rfl
 | _=>rfl
def SV.one:SV→Bool
 | .a x=>x.one
 | .ag _=>false
 | .tu _=>false
 | _=>true
theorem q1w (ρ : Nat→AV) (v:SV) (h:v.one=true):(v.ev ρ).one=true:=by
 cases v with
 |a x=>exact h
 |bx k off=>simp only [SV.ev];cases ρ k <;> rfl
 |tp k=>simp only [SV.ev,tpAt];cases h:(ρ k).one <;> first|rfl|exact h
 |ag _=>simp [SV.one] at h
 |tu _=>simp [SV.one] at h
 | _=>rfl
def ones (l:List SV):Bool:=l.all SV.one
theorem qte (ρ : Nat→AV):∀ l:List SV,ones l=true→∀ z∈SV.evs ρ l,z.one=true
 | [],_,z,hz=>by simp [SV.evs] at hz
 |x::r,h,z,hz=>by
  simp only [ones,List.all_cons,Bool.and_eq_true] at h
  simp only [SV.evs,List.mem_cons] at hz
  rcases hz with rfl|hz
  ·exact q1w ρ x h.1
  ·exact qte ρ r h.2 z hz
def sval (N:Nat) (sl:List (Nat×SV)):Operand→Option SV
 | .tmp i=>bif Nat.blt i N then lkS sl i else none
 | .const x=>some (cst x)
 | .global g=>some (.a (.v (.pointer (some ⟨g,0,none⟩))))
 | .func f=>some (.a (.fn (.func f) [] []))
theorem qq {N:Nat} {sl:List (Nat×SV)} {ρ t:Nat→AV} {S:List AObj} {df:List Nat} (h:SlOk ρ t sl) {x:Operand} {v:SV} (hx:sval N sl x=some v):qh N ⟨t,S,df⟩ x=v.ev ρ:=by
 cases x with
 |tmp i=>
  simp only [sval] at hx
  simp only [qh]
  cases hb:Nat.blt i N with
  |true=>rw [hb] at hx;exact h i v hx
  |false=>rw [hb] at hx;simp at hx
 |const x=>simp only [sval,Option.some.injEq] at hx;subst hx;exact (q2m ρ x).symm
 |global g=>simp only [sval,Option.some.injEq] at hx;subst hx;rfl
 |func f=>simp only [sval,Option.some.injEq] at hx;subst hx;rfl
def qhg (N:Nat) (sl:List (Nat×SV)):List Operand→Option (List SV)
 | []=>some []
 |x::r=>match sval N sl x,qhg N sl r with
  |some v,some l=>some (v::l)
  | _,_=>none
theorem qhh {N:Nat} {sl:List (Nat×SV)} {ρ t:Nat→AV} {S:List AObj} {df:List Nat} (h:SlOk ρ t sl):∀ {xs:List Operand} {l:List SV},qhg N sl xs=some l→xs.map (qh N ⟨t,S,df⟩)=SV.evs ρ l
 | [],l,hx=>by simp only [qhg,Option.some.injEq] at hx;subst hx;rfl
 |x::r,l,hx=>by
  simp only [qhg] at hx
  split at hx
  ·rename_i v l' h1 h2
   simp only [Option.some.injEq] at hx
   subst hx
   simp only [List.map_cons,SV.evs,qq h h1,qhh h h2]
  ·simp at hx
section
variable {E : Env} {N : Nat} {ops : Array Oper} {o : Oper} {nx : Nat} {sl : List (Nat × SV)} {H : Nat → Option SR}
theorem yp {v:SV} {ks:List Nat} (h:∀ (df:List Nat) (rd:Option Nat) (K:AS→Prop) (rest:List Oper) (ρ t:Nat→AV) (S:List AObj),SlOk ρ t sl→SatF S ρ (resF ks H)→AOps E rd N ops rest K (AS.put ⟨t,S,df⟩ o.dst (v.ev ρ))→AOps E rd N ops (o::rest) K ⟨t,S,df⟩) :
  Loc E N ops o nx sl H ⟨v,ks,[],nx⟩:=fun df rd K rest ρ t S hs hS hk=>
 h df rd K rest ρ t S hs hS (hk ρ S ⟨fun _ _=>rfl,⟨fun k r hk=>hS.ok k r hk,fun k k' r r' hne h1 h2=>hS.sep k k' r r' hne h1 h2⟩,Nat.le_refl _,fun _ _ _=>rfl,fun k r hk o ho=>.inr ⟨k,r,hk,ho⟩⟩)
theorem ji {v:SV} (h:∀ (df:List Nat) (rd:Option Nat) (K:AS→Prop) (rest:List Oper) (ρ t:Nat→AV) (S:List AObj),SlOk ρ t sl→AOps E rd N ops rest K (AS.put ⟨t,S,df⟩ o.dst (v.ev ρ))→AOps E rd N ops (o::rest) K ⟨t,S,df⟩) :
  Loc E N ops o nx sl H ⟨v,[],[],nx⟩:=yp fun df rd K rest ρ t S hs _ hk=>h df rd K rest ρ t S hs hk
def upd (ρ : Nat→AV) (n:Nat) (c:AV):Nat→AV:=fun k=>bif Nat.beq k n then c else ρ k
theorem xh (ρ : Nat→AV) (n:Nat) (c:AV):upd ρ n c n=c:=by simp [upd]
theorem yt (ρ : Nat→AV) {n k:Nat} (c:AV) (h:k≠n):upd ρ n c k = ρ k:=by simp [upd,va h]
theorem qgc {v:SV} {r:SR} {ks:List Nat} (hks:∀ k r,resF ks H k=some r→k≠nx∧r.all (fun k=> !Nat.beq k nx)=true) (h:∀ (df:List Nat) (rd:Option Nat) (K:AS→Prop) (rest:List Oper) (ρ t:Nat→AV) (S:List AObj),SlOk ρ t sl→SatF S ρ (resF ks H) →
   (∀ c l,r.ok (upd ρ nx c) (S++l) c→(∀ o,z1 c=some o→S.length≤o)→AOps E rd N ops rest K (AS.put ⟨t,S++l,df⟩ o.dst (v.ev (upd ρ nx c))))→AOps E rd N ops (o::rest) K ⟨t,S,df⟩) :
  Loc E N ops o nx sl H ⟨v,ks,[(nx,some r)],nx+1⟩:=fun df rd K rest ρ t S hs hS hk=>by
 refine h df rd K rest ρ t S hs hS fun c l hc hl=>hk _ _ ⟨fun k hk=>yt _ _ (by simp only at hk;omega),?_,by simp,fun j hj _=>List.getElem?_append_left hj,?_⟩
 ·have key:∀ k r',chF [(nx,some r)] (resF ks H) k=some r'→(k=nx∧r'=r)∨(k≠nx∧resF ks H k=some r'):=fun k r' hk=>by
   simp only [chF,lkS] at hk
   by_cases e:nx=k
   ·subst e
    have:Nat.beq nx nx=true:=by simp
    rw [this] at hk
    simp only [cond_true,Option.some.injEq] at hk
    exact .inl ⟨rfl,hk.symm⟩
   ·rw [va e] at hk
    exact .inr ⟨fun h=>e h.symm,hk⟩
  refine⟨fun k r' hk=>?_,fun k k' r1 r2 hne h1 h2 o ho=>?_⟩
  ·rcases key k r' hk with⟨rfl,rfl⟩ | ⟨h1,h2⟩
   ·rw [xh];exact hc
   ·rw [yt _ _ h1]
    have h3:=hS.ok k r' h2
    exact SR.ok_of (hks k r' h2).2 (fun k hk=>yt _ _ (fun e=>by subst e;simp at hk)) h3 fun o ho=>List.getElem?_append_left (SR.ok_lt h3 ho)
  ·rcases key k r1 h1 with⟨rfl,rfl⟩ | ⟨g1,g2⟩
   ·rcases key k' r2 h2 with⟨rfl,rfl⟩ | ⟨f1,f2⟩
    ·exact absurd rfl hne
    ·rw [xh] at ho
     rw [yt _ _ f1]
     intro ho'
     have:=SR.ok_lt (hS.ok k' r2 f2) ho'
     have:=hl o ho
     omega
   ·rcases key k' r2 h2 with⟨rfl,rfl⟩ | ⟨f1,f2⟩
    ·rw [yt _ _ g1] at ho
     rw [xh]
     intro ho'
     have:=SR.ok_lt (hS.ok k r1 g2) ho
     have:=hl o ho'
     omega
    ·rw [yt _ _ g1] at ho
     rw [yt _ _ f1]
     exact hS.sep k k' r1 r2 hne g2 f2 o ho
 ·intro k r' hk o ho
  simp only [chF,lkS] at hk
  by_cases e:nx=k
  ·subst e
   rw [xh] at ho
   exact .inl (hl o ho)
  ·rw [va e] at hk
   rw [yt _ _ (fun h=>e h.symm)] at ho
   exact .inr ⟨k,r',hk,ho⟩
end
end Go.Av
namespace Go.Av
open Go Go.RowKit
section
variable {E : Env} {N : Nat} {ops : Array Oper} {nx : Nat} {sl : List (Nat × SV)} {H : Nat → Option SR} {k : Ef → Prop} {d : Option Tmp} {T : TypeId} {p : String} {af : Array Edge}
def wp (nx:Nat) (v:SV):Ef:=⟨v,[],[],nx⟩
def mvW (nx:Nat) (k:Ef→Prop):Option SV→Prop
 |some v=>k (wp nx v)
 |none=>False
theorem q1g {x:Operand} (h:mvW nx k (sval N sl x)):∃ e,Loc E N ops ⟨d,.move x,T,p,af,none⟩ nx sl H e∧k e:=by
 cases hv:sval N sl x with
 |none=>rw [hv] at h;exact h.elim
 |some v=>rw [hv] at h;exact⟨_,ji fun df rd K rest ρ t S hs hk=>qu (by rw [qq hs hv];exact hk),h⟩
theorem qv6 {x:Operand} (h:mvW nx k (sval N sl x)):∃ e,Loc E N ops ⟨d,.assign x,T,p,af,none⟩ nx sl H e∧k e:=by
 cases hv:sval N sl x with
 |none=>rw [hv] at h;exact h.elim
 |some v=>rw [hv] at h;exact⟨_,ji fun df rd K rest ρ t S hs hk=>qo (by rw [qq hs hv];exact hk),h⟩
def wayW (x y:Prop):SV→Prop
 | .tt=>x
 | .ff=>y
 | .p q _=>(q→x)∧(¬ q→y)
 | .b c=>(c=true→x)∧(c=false→y)
 | _=>False
theorem qx9 {x y:Prop} {v:SV} (h:wayW x y v):∃ c:Bool,(∀ ρ,v.ev ρ = Bv c)∧((c=true∧x)∨(c=false∧y)):=by
 cases v with
 |tt=>exact⟨true,fun _=>rfl,.inl ⟨rfl,h⟩⟩
 |ff=>exact⟨false,fun _=>rfl,.inr ⟨rfl,h⟩⟩
 |p q i=>
  by_cases hq:q
  ·exact⟨_,fun _=>rfl,.inl ⟨by simp [hq],h.1 hq⟩⟩
  ·exact⟨_,fun _=>rfl,.inr ⟨by simp [hq],h.2 hq⟩⟩
 |b c=>
  cases c with
  |true=>exact⟨true,fun _=>rfl,.inl ⟨rfl,h.1 rfl⟩⟩
  |false=>exact⟨false,fun _=>rfl,.inr ⟨rfl,h.2 rfl⟩⟩
 | _=>exact h.elim
def qu9 (N:Nat) (sl:List (Nat×SV)) (nx:Nat) (k:Ef→Prop) (c x y:Operand):Prop:=
 match sval N sl c with
 |some v=>wayW (mvW nx k (sval N sl x)) (mvW nx k (sval N sl y)) v
 |none=>False
theorem q1n {c x y:Operand} (h:qu9 N sl nx k c x y):∃ e,Loc E N ops ⟨d,.pick c x y,T,p,af,none⟩ nx sl H e∧k e:=by
 unfold qu9 at h
 split at h
 ·rename_i v hv
  obtain⟨b,hb,h⟩:=qx9 h
  rcases h with⟨hc,h⟩ | ⟨hc,h⟩
  ·cases hx:sval N sl x with
   |none=>rw [hx] at h;exact h.elim
   |some u=>rw [hx] at h;exact⟨_,ji fun df rd K rest ρ t S hs hk=>qjh ((qq hs hv).trans (hb ρ)) hc (by rw [qq hs hx];exact hk),h⟩
  ·cases hx:sval N sl y with
   |none=>rw [hx] at h;exact h.elim
   |some u=>rw [hx] at h;exact⟨_,ji fun df rd K rest ρ t S hs hk=>qjg ((qq hs hv).trans (hb ρ)) hc (by rw [qq hs hx];exact hk),h⟩
 ·exact h.elim
def qov (P:Program) (nx:Nat) (k:Ef→Prop) (t:TypeId):Prop:=
 match qfs P t with
 |some cs=>k ⟨.bx nx 0,[],[(nx,some (.cells t (nfs cs)))],nx+1⟩
 |none=>False
theorem qe2 (k:Nat):resF [] H k=none:=rfl
theorem y5 (k:Nat):resF [k] H k=H k:=by simp [resF,memN]
theorem qye {t:TypeId} (h:qov E.P nx k t):∃ e,Loc E N ops ⟨d,.alloc t,T,p,af,none⟩ nx sl H e∧k e:=by
 unfold qov at h
 split at h
 ·rename_i cs hz
  refine⟨_,qgc (fun k r hk=>by rw [qe2] at hk;simp at hk) fun df rd K rest ρ t' S hs _ hk=>qrn rfl hz ?_,h⟩
  have:=hk (.bx S.length 0 0) [.cells 0 t cs] ⟨S.length,0,rfl,by rw [qd1];exact qbv,rfl⟩ (fun o ho=>by simp only [z1,Option.some.injEq] at ho;omega)
  simpa only [SV.ev,xh,bxAt] using this
 ·exact h.elim
theorem qtv {rd:Option Nat} {K:AS→Prop} {rest:List Oper} {s:AS} {t:TypeId} {x:Operand} {r:AV} {cs:List AV} (hx:Wk (qh N s x) r) (hok:r.okc=true) (hc:r.cells=cs)
  (h:AOps E rd N ops rest K (s.put d (.pp cs))):AOps E rd N ops (⟨d,.box t x,T,p,af,none⟩::rest) K s:=by
 refine q5 rfl (q6 nofun fun B0 w0 G a w _ hI=>?_)
 have hr:=(hx _ _ (hI.eval x)).cells hok
 rw [hc] at hr
 obtain⟨hle,hA⟩:=hI.agree.newPub t (a.eval x).cells (0,0) (a.eval x).cells.toList (fun i y hy=>by simpa using hy)
 have hrun:(execOp a.eval ⟨d,.box t x,T,p,af,none⟩).run E.P w = .ok (.value (.pointer (some ⟨w.heap.size,0,none⟩))) (w.alloc (.cells (a.eval x).cells t)):=by
  generalize a.eval = ρ
  simp [execOp,Instr.box,newVar,newRow,newObj,Sem.run]
 refine⟨_,_,_,.pp cs,s.st,hrun,hle,hA,.pp cs w.heap.size 0 (a.eval x).cells.toList (by simp [Gh.publish]) (by rw [hr.1];simp) fun i x y hx hy=>(hr.2 i x y hx (by simpa using hy)).mono hle,h⟩
def qlj (bxs:List Nat):Option Tmp→Bool
 |some d=>memN bxs d
 |none=>false
def boxW (bxs:List Nat) (H:Nat→Option SR) (nx:Nat) (k:Ef→Prop) (d:Option Tmp) (t:TypeId):Option SV→Prop
 |some v=>bif qlj bxs d then (bif v.okc && v.all (fun k=> !Nat.beq k nx) then k ⟨.bx nx 0,[],[(nx,some (.cells t v.cells))],nx+1⟩ else False)
  else match frz (resF v.ks H) v with
   |some y=>bif y.okc then k ⟨.a (.pp y.cells),v.ks,[],nx⟩ else False
   |none=>False
 |none=>False
theorem qwj {f:Nat→Bool}:∀ v:SV,v.all f=true→SV.alls f v.cells=true
 | .ag cs,h=>h
 | .a x,_=>qi3 _
 | .i _,_=>rfl
 | .s _,_=>rfl
 | .tt,_=>rfl
 | .ff,_=>rfl
 | .b _,_=>rfl
 | .p _ _,_=>rfl
 | .bx k _,h=>by simpa [SV.cells,SV.alls] using h
 | .tp k,h=>by simpa [SV.cells,SV.alls] using h
 | .tu cs,h=>by simpa [SV.cells,SV.alls] using h
 | .fn _ _ _,h=>by simpa [SV.cells,SV.alls] using h
 | .ifc _ _,h=>by simpa [SV.cells,SV.alls] using h
theorem q2d {bxs:List Nat} {t:TypeId} {x:Operand} (h:boxW bxs H nx k d t (sval N sl x)):∃ e,Loc E N ops ⟨d,.box t x,T,p,af,none⟩ nx sl H e∧k e:=by
 cases hv:sval N sl x with
 |none=>rw [hv] at h;exact h.elim
 |some v=>
  rw [hv] at h
  unfold boxW at h
  cases hb:qlj bxs d with
  |true=>
   rw [hb] at h
   simp only [cond_true] at h
   cases hc:(v.okc && v.all (fun k=> !Nat.beq k nx)) with
   |false=>rw [hc] at h;exact h.elim
   |true=>
    rw [hc] at h
    simp only [Bool.and_eq_true] at hc
    refine⟨_,qgc (fun k r hk=>by rw [qe2] at hk;simp at hk) fun df rd K rest ρ t' S hs _ hk=>qv1 rfl (qq hs hv) (qqk ρ v hc.1) (qj2 ρ v).symm ?_,h⟩
    have he:SV.evs (upd ρ nx (.bx S.length 0 0)) v.cells=SV.evs ρ v.cells:=yw (f:=fun k=> !Nat.beq k nx) (fun k hk=>yt _ _ (fun e=>by subst e;simp at hk)) _ (qwj v hc.2)
    have:=hk (.bx S.length 0 0) [.cells 0 t (SV.evs ρ v.cells)] ⟨S.length,0,rfl,by rw [he];exact qbv,rfl⟩ (fun o ho=>by simp only [z1,Option.some.injEq] at ho;omega)
    simpa only [SV.ev,xh,bxAt] using this
  |false=>
   rw [hb] at h
   simp only [cond_false] at h
   split at h
   ·rename_i y hy
    cases hc:y.okc with
    |false=>rw [hc] at h;exact h.elim
    |true=>
     rw [hc] at h
     exact⟨_,yp (v:=.a (.pp y.cells)) fun df rd K rest ρ t' S hs hS hk=>qtv (by rw [qq hs hv];exact qeu hS v y hy) hc rfl hk,h⟩
   ·exact h.elim
def spl {α : Type} (cs:List α) (off:Nat) (xs:List α):List α:=cs.take off++xs++cs.drop (off+xs.length)
theorem qxy (ρ : Nat→AV) (cs xs:List SV) (off:Nat):SV.evs ρ (spl cs off xs)=yr (SV.evs ρ cs) off (SV.evs ρ xs):=by
 simp [spl,yr,wt]
def qlf (place:Nat→Option (Nat×Nat)) (cells:List SV):List (Nat×SV)→Option (List SV)
 | []=>some cells
 |(i,x)::rest=>
  match place i with
  |none=>none
  |some (off,size)=>bif x.okc && Nat.beq x.cells.length size && Nat.ble (off+size) cells.length then qlf place (spl cells off x.cells) rest else none
theorem qpq (ρ : Nat→AV) (place:Nat→Option (Nat×Nat)):∀ (ps:List (Nat×SV)) (cells cs:List SV),qlf place cells ps=some cs→qaz place (SV.evs ρ cells) (ps.map fun q=>(q.1,q.2.ev ρ))=some (SV.evs ρ cs)
 | [],cells,cs,h=>by simp only [qlf,Option.some.injEq] at h;subst h;rfl
 |(i,x)::rest,cells,cs,h=>by
  simp only [qlf] at h
  simp only [List.map_cons,qaz]
  cases hp:place i with
  |none=>rw [hp] at h;simp at h
  |some q=>
   obtain⟨off,size⟩:=q
   rw [hp] at h
   simp only at h ⊢
   cases hb:(x.okc && Nat.beq x.cells.length size && Nat.ble (off+size) cells.length) with
   |false=>rw [hb] at h;simp at h
   |true=>
    rw [hb] at h
    simp only [Bool.and_eq_true] at hb
    have hl:∀ l:List SV,(SV.evs ρ l).length=l.length:=fun l=>by simp [wt]
    rw [qqk ρ x hb.1.1,← qj2,hl,hl,hb.1.2,hb.2,← qxy]
    exact qpq ρ place rest _ cs h
def qi9 (N:Nat) (sl:List (Nat×SV)):List (Nat×Operand)→Option (List (Nat×SV))
 | []=>some []
 |(i,x)::r=>match sval N sl x,qi9 N sl r with
  |some v,some l=>some ((i,v)::l)
  | _,_=>none
theorem qe4 {ρ t:Nat→AV} {S:List AObj} {df:List Nat} (h:SlOk ρ t sl):∀ {xs:List (Nat×Operand)} {l:List (Nat×SV)},qi9 N sl xs=some l→(xs.map fun x=>(x.1,qh N ⟨t,S,df⟩ x.2))=l.map fun q=>(q.1,q.2.ev ρ)
 | [],l,hx=>by simp only [qi9,Option.some.injEq] at hx;subst hx;rfl
 |(i,x)::r,l,hx=>by
  simp only [qi9] at hx
  split at hx
  ·rename_i v l' h1 h2
   simp only [Option.some.injEq] at hx
   subst hx
   simp only [List.map_cons,qq h h1,qe4 h h2]
  ·simp at hx
def qpa (P:Program) (N:Nat) (sl:List (Nat×SV)) (nx:Nat) (k:Ef→Prop) (t:TypeId) (parts:Array (Nat×Operand)):Prop:=
 match qfs P t,qmq P t,qi9 N sl parts.toList with
 |some zs,some pl,some ps=>(match qlf (pl[·]?) (nfs zs) ps with
  |some cs=>k (wp nx (.ag cs))
  |none=>False)
 | _,_,_=>False
theorem qyq {t:TypeId} {parts:Array (Nat×Operand)} (h:qpa E.P N sl nx k t parts):∃ e,Loc E N ops ⟨d,.build t parts,T,p,af,none⟩ nx sl H e∧k e:=by
 unfold qpa at h
 split at h
 ·rename_i zs pl ps hz hp hs
  split at h
  ·rename_i cs hf
   refine⟨_,ji (v:=.ag cs) fun df rd K rest ρ t' S ho hk=>z9 hz hp (cs:=SV.evs ρ cs) ?_ hk,h⟩
   have:=qpq ρ _ _ _ _ hf
   rw [qd1] at this
   unfold wh
   rw [qe4 ho hs]
   exact this
  ·exact h.elim
 ·exact h.elim
def qg1 (sz:Nat) (agg:Bool) (off:Nat) (cs:List SV):Option SV:=
 bif agg then (bif Nat.ble (off+sz) cs.length then some (.ag ((cs.drop off).take sz)) else none) else cs[off]?
theorem qke (ρ : Nat→AV) {sz:Nat} {agg:Bool} {off:Nat} {cs:List SV} {v:SV} (h:qg1 sz agg off cs=some v):wq sz agg off (SV.evs ρ cs)=some (v.ev ρ):=by
 unfold qg1 at h
 unfold wq
 cases agg with
 |true=>
  simp only [cond_true] at h ⊢
  rw [wt,List.length_map]
  cases hb:Nat.ble (off+sz) cs.length with
  |false=>rw [hb] at h;simp at h
  |true=>
   rw [hb] at h
   simp only [cond_true,Option.some.injEq] at h ⊢
   subst h
   simp [SV.ev,wt]
 |false=>
  simp only [cond_false] at h ⊢
  rw [wt,List.getElem?_map,h]
  rfl
def optW (nx:Nat) (ks:List Nat) (k:Ef→Prop):Option SV→Prop
 |some v=>k ⟨v,ks,[],nx⟩
 |none=>False
def qux (P:Program) (H:Nat→Option SR) (nx:Nat) (k:Ef→Prop) (t:TypeId):Option SV→Prop
 |some (.bx b off)=>(match H b,tyOf P t with
  |some (.cells _ cs),some (sz,agg)=>optW nx [b] k (qg1 sz agg off cs)
  | _,_=>False)
 |some (.a (.pp cs))=>(match tyOf P t with
  |some (sz,agg)=>(match wq sz agg 0 cs with
   |some r=>k (wp nx (nf r))
   |none=>False)
  |none=>False)
 | _=>False
theorem q1d {t:TypeId} {x:Operand} (h:qux E.P H nx k t (sval N sl x)):∃ e,Loc E N ops ⟨d,.load t x,T,p,af,none⟩ nx sl H e∧k e:=by
 unfold qux at h
 split at h
 ·rename_i b off hv
  split at h
  ·rename_i T' cs sz agg hH ht
   cases hl:qg1 sz agg off cs with
   |none=>rw [hl] at h;exact h.elim
   |some v=>
    rw [hl] at h
    refine⟨_,yp fun df rd K rest ρ t' S hs hS hk=>?_,h⟩
    obtain⟨o,ver,h1,h2,h0⟩:=hS.ok b _ ((y5 b).trans hH)
    exact yl (o:=o) (ver:=ver) (off:=off) ((qq hs hv).trans (by simp only [SV.ev,h1,bxAt])) h2 ht (qke ρ hl) hk
  ·exact h.elim
 ·rename_i cs hv
  split at h
  ·rename_i sz agg ht
   split at h
   ·rename_i r hr
    exact⟨_,ji fun df rd K rest ρ t' S hs hk=>zu (qq hs hv) ht hr (by rw [← qi2 ρ r];exact hk),h⟩
   ·exact h.elim
  ·exact h.elim
 ·exact h.elim
def qq9 (P:Program) (H:Nat→Option SR) (nx:Nat) (k:Ef→Prop) (t:TypeId):Option SV→Option SV→Prop
 |some (.bx b off),some v=>(match H b,tyOf P t with
  |some (.cells T cs),some (sz,agg)=>bif v.okc && Nat.beq v.cells.length sz && ones v.cells && Nat.ble (off+sz) cs.length then k ⟨.a (.v undef),[b],[(b,some (.cells T (spl cs off v.cells)))],nx⟩ else False
  | _,_=>False)
 | _,_=>False
theorem qz1 {t:TypeId} {x y:Operand} (h:qq9 E.P H nx k t (sval N sl x) (sval N sl y)):∃ e,Loc E N ops ⟨d,.store t x y,T,p,af,none⟩ nx sl H e∧k e:=by
 unfold qq9 at h
 split at h
 ·rename_i b off v hv hy
  split at h
  ·rename_i T' cs sz agg hH ht
   cases hb:(v.okc && Nat.beq v.cells.length sz && ones v.cells && Nat.ble (off+sz) cs.length) with
   |false=>rw [hb] at h;exact h.elim
   |true=>
    rw [hb] at h
    simp only [Bool.and_eq_true] at hb
    refine⟨_,fun df rd K rest ρ t' S hs hS hk=>?_,h⟩
    obtain⟨o,ver,h1,h2,h0⟩:=hS.ok b _ ((y5 b).trans hH)
    have hl:∀ l:List SV,(SV.evs ρ l).length=l.length:=fun l=>by simp [wt]
    refine qgl (o:=o) (ver:=ver) (off:=off) (xs:=SV.evs ρ v.cells) ((qq hs hv).trans (by simp only [SV.ev,h1,bxAt])) (qq hs hy) h2 ht (qqk ρ v hb.1.1.1) (qj2 ρ v).symm (by rw [hl];exact Nat.eq_of_beq_eq_true hb.1.1.2) (qte ρ _ hb.1.2) (by rw [hl];exact Nat.le_of_ble_eq_true hb.2) ?_
    rw [← qxy]
    have key:∀ k r,chF [(b,some (.cells T' (spl cs off v.cells)))] (resF [b] H) k=some r→k=b∧r = .cells T' (spl cs off v.cells):=fun k r hk=>by
     simp only [chF,lkS] at hk
     by_cases e:b=k
     ·subst e
      have:Nat.beq b b=true:=by simp
      rw [this] at hk
      simp only [cond_true,Option.some.injEq] at hk
      exact⟨rfl,hk.symm⟩
     ·rw [va e] at hk
      have:=(w7 hk).1
      simp only [memN,List.any_cons,List.any_nil,Bool.or_false] at this
      exact absurd (Nat.eq_of_beq_eq_true this).symm e
    refine hk ρ _ ⟨fun _ _=>rfl,⟨fun k r hk=>?_,fun k k' r r' hne g1 g2=>?_⟩,by simp,fun j hj hne=>?_,fun k r hk o' ho'=>?_⟩
    ·obtain⟨rfl,rfl⟩:=key k r hk
     exact⟨o,ver,h1,qc5 h2,h0⟩
    ·exact absurd ((key k r g1).1.trans (key k' r' g2).1.symm) hne
    ·have:=hne b _ ((y5 b).trans hH)
     rw [h1] at this
     exact List.getElem?_set_ne (fun e=>this (by rw [e];rfl))
    ·obtain⟨rfl,rfl⟩:=key k r hk
     exact .inr ⟨k,_,(y5 k).trans hH,ho'⟩
  ·exact h.elim
 ·exact h.elim
def qqc (nx:Nat) (k:Ef→Prop):Option SV→Prop
 |some (.bx b off)=>k (wp nx (.bx b off))
 |some (.a (.pp cs))=>k (wp nx (.a (.pp cs)))
 | _=>False
theorem qze {x:Operand} (h:qqc nx k (sval N sl x)):∃ e,Loc E N ops ⟨d,.nilCheck x,T,p,af,none⟩ nx sl H e∧k e:=by
 unfold qqc at h
 split at h
 ·rename_i b off hv
  exact⟨_,ji fun df rd K rest ρ t' S hs hk=>zk (qq hs hv) (by simp only [SV.ev];cases ρ b <;> rfl) hk,h⟩
 ·rename_i cs hv
  exact⟨_,ji fun df rd K rest ρ t' S hs hk=>zk (qq hs hv) rfl hk,h⟩
 ·exact h.elim
end
end Go.Av
namespace Go.Av
open Go Go.RowKit
def qch:SV→Option (IntKind×Int)
 | .i n=>some (.i64,n)
 | .a (.v (.int k n))=>some (k,n)
 | _=>none
theorem qah {v:SV} {k:IntKind} {n:Int} (h:qch v=some (k,n)) (ρ : Nat→AV):v.ev ρ = .v (.int k n):=by
 unfold qch at h
 split at h
 ·simp only [Option.some.injEq,Prod.mk.injEq] at h;obtain⟨rfl,rfl⟩:=h;rfl
 ·simp only [Option.some.injEq,Prod.mk.injEq] at h;obtain⟨rfl,rfl⟩:=h;rfl
 ·simp at h
def cmpW (op:BinOp) (m n:Int) (k:SV→Prop):Prop:=
 match op with
 | .eql=>k (.p (m=n) inferInstance)
 | .neq=>k (.p (¬ m=n) inferInstance)
 | .lss=>k (.p (m<n) inferInstance)
 | .leq=>k (.p (m≤n) inferInstance)
 | .gtr=>k (.p (n<m) inferInstance)
 | .geq=>k (.p (n≤m) inferInstance)
 | _=>False
theorem q0s {op:BinOp} {m n:Int} {k:SV→Prop} (h:cmpW op m n k):∃ v b,cmpI op m n=some b∧(∀ ρ,SV.ev ρ v=Bv b)∧k v:=by
 cases op <;> first|exact h.elim|exact⟨_,_,rfl,fun _=>rfl,h⟩
def rngW (r:Int) (k:SV→Prop):Prop:=(-9223372036854775808≤r∧r≤9223372036854775807)∧k (.i r)
def arW (kd:IntKind) (r:Int) (k:SV→Prop):Prop:=
 match kd with
 | .i64=>rngW r k
 |kd=>k (.a (.v (.int kd (kd.wrap r))))
theorem qk1 {kd:IntKind} {r:Int} {k:SV→Prop} (h:arW kd r k):∃ v,(∀ ρ,SV.ev ρ v = .v (.int kd (kd.wrap r)))∧k v:=by
 cases kd <;> first|exact⟨.i r,fun ρ=>by rw [qj h.1.1 h.1.2];rfl,h.2⟩|exact⟨_,fun _=>rfl,h⟩
def remW (kd:IntKind) (r:Int) (k:SV→Prop):Prop:=
 match kd with
 | .i64=>k (.i r)
 |kd=>k (.a (.v (.int kd r)))
theorem q1s {kd:IntKind} {r:Int} {k:SV→Prop} (h:remW kd r k):∃ v,(∀ ρ,SV.ev ρ v = .v (.int kd r))∧k v:=by
 cases kd <;> exact⟨_,fun _=>rfl,h⟩
def intW (op:BinOp) (kd:IntKind) (m n:Int) (k:SV→Prop):Prop:=
 match op with
 | .add=>arW kd (m+n) k
 | .sub=>arW kd (m - n) k
 | .mul=>arW kd (m * n) k
 | .quo=>n≠0∧arW kd (m.tdiv n) k
 | .rem=>n≠0∧remW kd (m.tmod n) k
 |op=>cmpW op m n k
def strW (op:BinOp) (m n:List UInt8) (k:SV→Prop):Prop:=
 match op with
 | .add=>m.length+n.length<9223372036854775808∧k (.s (m++n))
 | .eql=>k (.p (m=n) inferInstance)
 | .neq=>k (.p (¬ m=n) inferInstance)
 |op=>match cmpS op m n with
  |some b=>k (.b b)
  |none=>False
def qf2:SV→Option Bool
 | .tt=>some true
 | .ff=>some false
 | .b c=>some c
 | .p q h=>some (@decide q h)
 | _=>none
theorem qcv {v:SV} {b:Bool} (h:qf2 v=some b) (ρ : Nat→AV):v.ev ρ = Bv b:=by
 unfold qf2 at h
 split at h <;> first|(simp only [Option.some.injEq] at h;subst h;rfl)|simp at h
def nilQ:SV→Option Bool
 | .ifc _ _=>some false
 | .a (.ifc _ _)=>some false
 | .a (.v .nilIface)=>some true
 | _=>none
def nilP:SV→Option Bool
 | .bx _ _=>some false
 | .a (.pp _)=>some false
 | .a (.bx _ _ _)=>some false
 | .a (.v (.pointer none))=>some true
 | _=>none
def tf:Bool→SV
 |true=>.tt
 |false=>.ff
def eqW (op:BinOp) (b:Bool) (k:SV→Prop):Prop:=
 match op with
 | .eql=>k (tf b)
 | .neq=>k (tf (!b))
 | _=>False
def qp1:Option TypeDesc→Bool
 |some (.interface _)=>true
 | _=>false
def qp2:Option TypeDesc→Bool
 |some (.pointer _)=>true
 | _=>false
def binW (P:Program) (op:BinOp) (t:TypeId) (y:Operand) (k:SV→Prop) (vx vy:SV):Prop:=
 match y with
 | .const .nilIface=>(match nilQ vx with
  |some b=>bif qp1 (P.underlying t) then eqW op b k else False
  |none=>False)
 | .const (.pointer none)=>(match nilP vx with
  |some b=>bif qp2 (P.underlying t) then eqW op b k else False
  |none=>False)
 | _=>match qch vx,qch vy with
  |some (kd,m),some (kd',n)=>bif decide (kd=kd') then intW op kd m n k else False
  | _,_=>match vx,vy with
   | .s m,.s n=>strW op m n k
   |vx,vy=>match qf2 vx,qf2 vy,P.underlying t,op with
    |some a,some b,some .bool,.eql=>k (.b (a == b))
    |some a,some b,some .bool,.neq=>k (.b (!(a == b)))
    | _,_,_,_=>False
section
variable {E : Env} {N : Nat} {ops : Array Oper} {nx : Nat} {sl : List (Nat × SV)} {H : Nat → Option SR} {k : Ef → Prop} {d : Option Tmp} {T : TypeId} {p : String} {af : Array Edge}
def Rule (E:Env) (N:Nat) (ops:Array Oper) (o:Oper) (sl:List (Nat×SV)) (v:SV):Prop:=∀ (df:List Nat) (rd:Option Nat) (K:AS→Prop) (rest:List Oper) (ρ t:Nat→AV) (S:List AObj),SlOk ρ t sl→AOps E rd N ops rest K (AS.put ⟨t,S,df⟩ o.dst (v.ev ρ))→AOps E rd N ops (o::rest) K ⟨t,S,df⟩
theorem q2w {op:BinOp} {t t':TypeId} {x y:Operand} {vx vy:SV} {kd:IntKind} {m n:Int} {q:SV→Prop} (hx:sval N sl x=some vx) (hy:sval N sl y=some vy) (h1:qch vx=some (kd,m)) (h2:qch vy=some (kd,n)) (h:intW op kd m n q) :
  ∃ v,Rule E N ops ⟨d,.binOp op t x y t',T,p,af,none⟩ sl v∧q v:=by
 have e1:∀ {ρ t:Nat→AV} {S:List AObj} {df:List Nat},SlOk ρ t sl→qh N ⟨t,S,df⟩ x = .v (.int kd m):=fun hs=>(qq hs hx).trans (qah h1 _)
 have e2:∀ {ρ t:Nat→AV} {S:List AObj} {df:List Nat},SlOk ρ t sl→qh N ⟨t,S,df⟩ y = .v (.int kd n):=fun hs=>(qq hs hy).trans (qah h2 _)
 have cmp:cmpW op m n q→∃ v,Rule E N ops ⟨d,.binOp op t x y t',T,p,af,none⟩ sl v∧q v:=fun h=>by
  obtain⟨v,b,hb,hv,hq⟩:=q0s h
  exact⟨v,fun df rd K rest ρ t S hs hk=>qz (e1 hs) (e2 hs) hb (by rw [← hv ρ];exact hk),hq⟩
 cases op with
 |add=>
  obtain⟨v,hv,hq⟩:=qk1 h
  exact⟨v,fun df rd K rest ρ t S hs hk=>z6 (e1 hs) (e2 hs) rfl (by rw [← hv ρ];exact hk),hq⟩
 |sub=>
  obtain⟨v,hv,hq⟩:=qk1 h
  exact⟨v,fun df rd K rest ρ t S hs hk=>j9 (e1 hs) (e2 hs) rfl (by rw [← hv ρ];exact hk),hq⟩
 |mul=>
  obtain⟨v,hv,hq⟩:=qk1 h
  exact⟨v,fun df rd K rest ρ t S hs hk=>qjz (e1 hs) (e2 hs) rfl (by rw [← hv ρ];exact hk),hq⟩
 |quo=>
  obtain⟨hn,h⟩:=h
  obtain⟨v,hv,hq⟩:=qk1 h
  exact⟨v,fun df rd K rest ρ t S hs hk=>qo2 (e1 hs) (e2 hs) hn rfl (by rw [← hv ρ];exact hk),hq⟩
 |rem=>
  obtain⟨hn,h⟩:=h
  obtain⟨v,hv,hq⟩:=q1s h
  exact⟨v,fun df rd K rest ρ t S hs hk=>qo3 (e1 hs) (e2 hs) hn (by rw [← hv ρ];exact hk),hq⟩
 | _=>exact cmp h
theorem q3f {op:BinOp} {t t':TypeId} {x y:Operand} {m n:List UInt8} {q:SV→Prop} (hx:sval N sl x=some (.s m)) (hy:sval N sl y=some (.s n)) (h:strW op m n q):∃ v,Rule E N ops ⟨d,.binOp op t x y t',T,p,af,none⟩ sl v∧q v:=by
 have cmp:(match cmpS op m n with|some b=>q (.b b)|none=>False)→∃ v,Rule E N ops ⟨d,.binOp op t x y t',T,p,af,none⟩ sl v∧q v:=fun h=>by
  cases hc:cmpS op m n with
  |none=>rw [hc] at h;exact h.elim
  |some b=>rw [hc] at h;exact⟨.b b,fun df rd K rest ρ t S hs hk=>z4 (qq hs hx) (qq hs hy) hc hk,h⟩
 cases op with
 |add=>exact⟨.s (m++n),fun df rd K rest ρ t S hs hk=>z7 (qq hs hx) (qq hs hy) h.1 hk,h.2⟩
 |eql=>exact⟨.p (m=n) inferInstance,fun df rd K rest ρ t S hs hk=>z4 (b:=decide (m=n)) (qq hs hx) (qq hs hy) rfl hk,h⟩
 |neq=>exact⟨.p (¬ m=n) inferInstance,fun df rd K rest ρ t S hs hk=>z4 (b:=decide (¬ m=n)) (qq hs hx) (qq hs hy) rfl hk,h⟩
 | _=>exact cmp h
theorem q0e (ρ : Nat→AV) (b:Bool):(tf b).ev ρ = Bv b:=by cases b <;> rfl
theorem q2c {op:BinOp} {t t':TypeId} {x y:Operand} {vx vy:SV} {q:SV→Prop} (hx:sval N sl x=some vx) (hy:sval N sl y=some vy) (h:binW E.P op t y q vx vy):∃ v,Rule E N ops ⟨d,.binOp op t x y t',T,p,af,none⟩ sl v∧q v:=by
 unfold binW at h
 split at h
 ·split at h
  ·rename_i b hb
   cases hu:qp1 (E.P.underlying t) with
   |false=>rw [hu] at h;exact h.elim
   |true=>
    rw [hu] at h
    have hu':∃ ms,E.P.underlying t=some (.interface ms):=by
     unfold qp1 at hu
     split at hu
     ·rename_i ms he;exact⟨ms,he⟩
     ·simp at hu
    obtain⟨ms,hu'⟩:=hu'
    simp only [cond_true] at h
    have hcase:(∃ (u:TypeId) (z:(Nat→AV)→AV),∀ ρ,vx.ev ρ = .ifc u (z ρ))∧b=false∨(∀ ρ,vx.ev ρ = .v .nilIface)∧b=true:=by
     unfold nilQ at hb
     split at hb <;> simp only [Option.some.injEq,reduceCtorEq] at hb <;> subst hb
     ·rename_i u z;exact .inl ⟨⟨u,fun ρ=>z.ev ρ,fun _=>rfl⟩,rfl⟩
     ·rename_i u z;exact .inl ⟨⟨u,fun _=>z,fun _=>rfl⟩,rfl⟩
     ·exact .inr ⟨fun _=>rfl,rfl⟩
    rcases hcase with⟨⟨u,z,hz⟩,rfl⟩ | ⟨hz,rfl⟩
    ·cases op with
     |eql=>exact⟨.ff,fun df rd K rest ρ t S hs hk=>zw ((qq hs hx).trans (hz ρ)) hu' hk,h⟩
     |neq=>exact⟨.tt,fun df rd K rest ρ t S hs hk=>zx ((qq hs hx).trans (hz ρ)) hu' hk,h⟩
     | _=>exact h.elim
    ·cases op with
     |eql=>exact⟨.tt,fun df rd K rest ρ t S hs hk=>zy ((qq hs hx).trans (hz ρ)) hu' hk,h⟩
     |neq=>exact⟨.ff,fun df rd K rest ρ t S hs hk=>zz ((qq hs hx).trans (hz ρ)) hu' hk,h⟩
     | _=>exact h.elim
  ·exact h.elim
 ·split at h
  ·rename_i b hb
   cases hu:qp2 (E.P.underlying t) with
   |false=>rw [hu] at h;exact h.elim
   |true=>
    rw [hu] at h
    have hu':∃ ms,E.P.underlying t=some (.pointer ms):=by
     unfold qp2 at hu
     split at hu
     ·rename_i ms he;exact⟨ms,he⟩
     ·simp at hu
    obtain⟨ms,hu'⟩:=hu'
    simp only [cond_true] at h
    have hcase:∀ ρ,qap (vx.ev ρ)=some b:=fun ρ=>by
     unfold nilP at hb
     split at hb <;> simp only [Option.some.injEq,reduceCtorEq] at hb <;> subst hb
     ·rename_i kk off;simp only [SV.ev];cases ρ kk <;> rfl
     ·rfl
     ·rfl
     ·rfl
    cases op with
    |eql=>exact⟨tf b,fun df rd K rest ρ t S hs hk=>zo (b:=b) rfl (by rw [qq hs hx];exact hcase ρ) hu' (by rw [← q0e ρ];exact hk),h⟩
    |neq=>exact⟨tf (!b),fun df rd K rest ρ t S hs hk=>z0 (b:=b) rfl (by rw [qq hs hx];exact hcase ρ) hu' (by rw [← q0e ρ];exact hk),h⟩
    | _=>exact h.elim
  ·exact h.elim
 ·split at h
  ·rename_i kd m kd' n h1 h2
   cases hd:decide (kd=kd') with
   |false=>rw [hd] at h;exact h.elim
   |true=>
    rw [hd] at h
    have:kd=kd':=of_decide_eq_true hd
    subst this
    exact q2w hx hy h1 h2 h
  ·split at h
   ·exact q3f hx hy h
   ·split at h
    ·rename_i a b h1 h2 h3
     exact⟨.b (a == b),fun df rd K rest ρ t S hs hk=>qyg ((qq hs hx).trans (qcv h1 ρ)) ((qq hs hy).trans (qcv h2 ρ)) h3 hk,h⟩
    ·rename_i a b h1 h2 h3
     exact⟨.b (!(a == b)),fun df rd K rest ρ t S hs hk=>qyh ((qq hs hx).trans (qcv h1 ρ)) ((qq hs hy).trans (qcv h2 ρ)) h3 hk,h⟩
    ·exact h.elim
def notW (nx:Nat) (k:Ef→Prop):Option SV→Prop
 |some .tt=>k (wp nx .ff)
 |some .ff=>k (wp nx .tt)
 |some (.b c)=>k (wp nx (.b (!c)))
 |some (.p q h)=>k (wp nx (.p (¬ q) (@instDecidableNot q h)))
 | _=>False
theorem q23 {t:TypeId} {x:Operand} (h:notW nx k (sval N sl x)):∃ e,Loc E N ops ⟨d,.unOp .not t x,T,p,af,none⟩ nx sl H e∧k e:=by
 unfold notW at h
 split at h
 ·rename_i hv;exact⟨_,ji (v:=.ff) fun df rd K rest ρ t' S hs hk=>jf (m:=true) (qq hs hv) hk,h⟩
 ·rename_i hv;exact⟨_,ji (v:=.tt) fun df rd K rest ρ t' S hs hk=>jf (m:=false) (qq hs hv) hk,h⟩
 ·rename_i c hv;exact⟨_,ji (v:=.b (!c)) fun df rd K rest ρ t' S hs hk=>jf (qq hs hv) hk,h⟩
 ·rename_i q i hv;exact⟨_,ji (v:=.p (¬ q) (@instDecidableNot q i)) fun df rd K rest ρ t' S hs hk=>jq (q:=q) (qq hs hv) hk,h⟩
 ·exact h.elim
def qua (P:Program) (t t':TypeId) (nx:Nat) (k:Ef→Prop):Option SV→Prop
 |some v=>(match qch v,P.underlying t,P.underlying t' with
  |some (_,m),some _,some (.int kd)=>(match kd with
   | .i64=>(-9223372036854775808≤m∧m≤9223372036854775807)∧k (wp nx (.i m))
   |kd=>k (wp nx (.a (.v (.int kd (kd.wrap m))))))
  | _,_,_=>False)
 |none=>False
theorem q0t {t t':TypeId} {x:Operand} (h:qua E.P t t' nx k (sval N sl x)):∃ e,Loc E N ops ⟨d,.convert t t' x,T,p,af,none⟩ nx sl H e∧k e:=by
 unfold qua at h
 split at h
 ·rename_i v hv
  split at h
  ·rename_i kk m e kd h1 h2 h3
   have:∃ v,(∀ ρ,SV.ev ρ v = .v (.int kd (kd.wrap m)))∧k (wp nx v):=by
    cases kd <;> first|exact⟨.i m,fun ρ=>by rw [qj h.1.1 h.1.2];rfl,h.2⟩|exact⟨_,fun _=>rfl,h⟩
   obtain⟨u,hu,hk⟩:=this
   exact⟨_,ji fun df rd K rest ρ t' S hs hk=>qc2 ((qq hs hv).trans (qah h1 ρ)) h2 h3 rfl (by rw [← hu ρ];exact hk),hk⟩
  ·exact h.elim
 ·exact h.elim
def qp7 (P:Program) (t:TypeId) (nx:Nat) (k:Ef→Prop):Option SV→Prop
 |some v=>(match P.underlying t with
  |some dsc=>bif qi0 dsc then False else k (wp nx (.ifc t v))
  |none=>False)
 |none=>False
theorem qzd {t:TypeId} {x:Operand} (h:qp7 E.P t nx k (sval N sl x)):∃ e,Loc E N ops ⟨d,.makeInterface t x,T,p,af,none⟩ nx sl H e∧k e:=by
 unfold qp7 at h
 split at h
 ·rename_i v hv
  split at h
  ·rename_i dsc hd
   cases hi:qi0 dsc with
   |true=>rw [hi] at h;exact h.elim
   |false=>rw [hi] at h;exact⟨_,ji fun df rd K rest ρ t' S hs hk=>qv hd hi (by rw [qq hs hv];exact hk),h⟩
  ·exact h.elim
 ·exact h.elim
def qu0 (N:Nat) (sl:List (Nat×SV)) (fn:Fn) (xs ys:Array Operand) (nx:Nat) (k:Ef→Prop):Prop:=
 match qhg N sl xs.toList,qhg N sl ys.toList with
 |some a,some b=>k (wp nx (.fn fn a b))
 | _,_=>False
theorem q1f {fn:Fn} {xs ys:Array Operand} (h:qu0 N sl fn xs ys nx k):∃ e,Loc E N ops ⟨d,.makeFunc fn xs ys,T,p,af,none⟩ nx sl H e∧k e:=by
 unfold qu0 at h
 split at h
 ·rename_i a b ha hb
  exact⟨_,ji fun df rd K rest ρ t' S hs hk=>zn (by rw [qhh hs ha,qhh hs hb];exact hk),h⟩
 ·exact h.elim
def qgu (P:Program) (t:TypeId) (f:Nat) (nx:Nat) (k:Ef→Prop):Option SV→Prop
 |some (.bx b off)=>(match y8 P t f with
  |some (o,sz,_)=>bif Nat.beq sz 0 then False else k (wp nx (.bx b (off+o)))
  |none=>False)
 |some (.a (.pp cs))=>(match y8 P t f with
  |some (o,sz,_)=>bif !Nat.beq sz 0 && Nat.ble o cs.length then k (wp nx (.a (.pp (cs.drop o)))) else False
  |none=>False)
 | _=>False
theorem qyr (x:AV) (off o:Nat):∃ a b,bxAt x off = .bx a b off∧bxAt x (off+o) = .bx a b (off+o):=by
 cases x <;> exact⟨_,_,rfl,rfl⟩
theorem qpo {t:TypeId} {f:Nat} {x:Operand} (h:qgu E.P t f nx k (sval N sl x)):∃ e,Loc E N ops ⟨d,.fieldAddr t x f,T,p,af,none⟩ nx sl H e∧k e:=by
 unfold qgu at h
 split at h
 ·rename_i b off hv
  split at h
  ·rename_i o sz agg hf
   cases hz:Nat.beq sz 0 with
   |true=>rw [hz] at h;exact h.elim
   |false=>
    rw [hz] at h
    refine⟨_,ji fun df rd K rest ρ t' S hs hk=>?_,h⟩
    obtain⟨a1,b1,g1,g2⟩:=qyr (ρ b) off o
    exact qt ((qq hs hv).trans g1) hf hz (by rw [← g2];exact hk)
  ·exact h.elim
 ·rename_i cs hv
  split at h
  ·rename_i o sz agg hf
   cases hz:(!Nat.beq sz 0 && Nat.ble o cs.length) with
   |false=>rw [hz] at h;exact h.elim
   |true=>
    rw [hz] at h
    simp only [Bool.and_eq_true,Bool.not_eq_true'] at hz
    exact⟨_,ji (v:=.a (.pp (cs.drop o))) fun df rd K rest ρ t' S hs hk=>qy (qq hs hv) hf hz.1 hz.2 hk,h⟩
  ·exact h.elim
 ·exact h.elim
def qpp (P:Program) (t:TypeId) (f:Nat) (nx:Nat) (k:Ef→Prop):Option SV→Prop
 |some (.ag cs)=>(match y8 P t f with
  |some (o,sz,agg)=>optW nx [] k (qg1 sz agg o cs)
  |none=>False)
 |some (.a (.ag cs))=>(match y8 P t f with
  |some (o,sz,agg)=>(match wq sz agg o cs with
   |some r=>k (wp nx (nf r))
   |none=>False)
  |none=>False)
 | _=>False
theorem qyy {t:TypeId} {f:Nat} {x:Operand} (h:qpp E.P t f nx k (sval N sl x)):∃ e,Loc E N ops ⟨d,.field t x f,T,p,af,none⟩ nx sl H e∧k e:=by
 unfold qpp at h
 split at h
 ·rename_i cs hv
  split at h
  ·rename_i o sz agg hf
   cases hl:qg1 sz agg o cs with
   |none=>rw [hl] at h;exact h.elim
   |some v=>
    rw [hl] at h
    exact⟨_,ji fun df rd K rest ρ t' S hs hk=>jn (qq hs hv) hf (qke ρ hl) hk,h⟩
  ·exact h.elim
 ·rename_i cs hv
  split at h
  ·rename_i o sz agg hf
   split at h
   ·rename_i r hr
    exact⟨_,ji fun df rd K rest ρ t' S hs hk=>jn (qq hs hv) hf hr (by rw [← qi2 ρ r];exact hk),h⟩
   ·exact h.elim
  ·exact h.elim
 ·exact h.elim
def qj5 (i:Nat) (nx:Nat) (k:Ef→Prop):Option SV→Prop
 |some (.tu vs)=>optW nx [] k vs[i]?
 |some (.a (.tu vs))=>(match vs[i]? with
  |some r=>k (wp nx (nf r))
  |none=>False)
 | _=>False
theorem quh {i:Nat} {x:Operand} (h:qj5 i nx k (sval N sl x)):∃ e,Loc E N ops ⟨d,.extract x i,T,p,af,none⟩ nx sl H e∧k e:=by
 unfold qj5 at h
 split at h
 ·rename_i vs hv
  cases hl:vs[i]? with
  |none=>rw [hl] at h;exact h.elim
  |some v=>
   rw [hl] at h
   exact⟨_,ji fun df rd K rest ρ t' S hs hk=>zi (xs:=SV.evs ρ vs) (qq hs hv) (by rw [wt,List.getElem?_map,hl];rfl) hk,h⟩
 ·rename_i vs hv
  split at h
  ·rename_i r hr
   exact⟨_,ji fun df rd K rest ρ t' S hs hk=>zi (qq hs hv) hr (by rw [← qi2 ρ r];exact hk),h⟩
  ·exact h.elim
 ·exact h.elim
def qgs (H:Nat→Option SR) (sz:Nat):SV→Option (List AV×List Nat)
 | .a (.sl z xs _)=>bif Nat.beq z sz then some (xs,[]) else none
 | .a (.v (.slice none 0 0))=>some ([],[])
 | .tp b=>(match H b with
  |some (.tip z _ xs)=>bif Nat.beq z sz then some (xs,[b]) else none
  | _=>none)
 | _=>none
theorem qde {S:List AObj} {ρ : Nat→AV} {v:SV} {sz:Nat} {xs:List AV} {ks:List Nat} (h:qgs H sz v=some (xs,ks)) (hS:SatF S ρ (resF ks H)):Wk (v.ev ρ) (.sl sz xs none):=by
 unfold qgs at h
 split at h
 ·rename_i z ys tip
  cases hz:Nat.beq z sz with
  |false=>rw [hz] at h;simp at h
  |true=>
   rw [hz] at h
   simp only [cond_true,Option.some.injEq,Prod.mk.injEq] at h
   obtain⟨rfl,rfl⟩:=h
   rw [← Nat.eq_of_beq_eq_true hz]
   exact qz6 _ _ _
 ·simp only [Option.some.injEq,Prod.mk.injEq] at h
  obtain⟨rfl,rfl⟩:=h
  exact fun _ _ h=>qau h
 ·rename_i b
  split at h
  ·rename_i z T' ys hb
   cases hz:Nat.beq z sz with
   |false=>rw [hz] at h;simp at h
   |true=>
    rw [hz] at h
    simp only [cond_true,Option.some.injEq,Prod.mk.injEq] at h
    obtain⟨rfl,rfl⟩:=h
    rw [← Nat.eq_of_beq_eq_true hz]
    exact (qm1 (hS.ok b _ ((y5 b).trans hb))).1
  ·simp at h
 ·simp at h
end
end Go.Av
namespace Go.Av
open Go Go.RowKit
section
variable {E : Env} {rd : Option Nat} {N : Nat} {ops : Array Oper} {K : AS → Prop} {s : AS} {rest : List Oper} {d : Option Tmp} {T : TypeId} {p : String} {af : Array Edge}
theorem qc3 {x:Operand} {t e:TypeId} {lo hi:Option Operand} {sz:Nat} {agg:Bool} {xs:List AV} {i j:Nat} (hx:Wk (qh N s x) (.sl sz xs none)) (hu:E.P.underlying t=some (.slice e)) (ht:tyOf E.P e=some (sz,agg))
  (hlo:match lo with|none=>i=0|some y=>∃ k,qh N s y = .v (.int k (i:Int))) (hhi:match hi with|none=>j=xs.length|some y=>∃ k,qh N s y = .v (.int k (j:Int))) (h1:i≤j) (h2:j≤xs.length)
  (h:AOps E rd N ops rest K (s.put d (.sl sz ((xs.take j).drop i) none))):AOps E rd N ops (⟨d,.slice t x lo hi none,T,p,af,none⟩::rest) K s:=by
 refine q5 rfl (q6 nofun fun B0 w0 G a w _ hI=>?_)
 have he:=hx _ _ (hI.eval x)
 generalize hv:a.eval x=v at he
 have hsl:∃ b len cap,v = .slice b len cap:=by cases he <;> exact⟨_,_,_,rfl⟩
 obtain⟨b,len,cap,rfl⟩:=hsl
 obtain⟨hl,hlc,hr⟩:=ql4 he h1 h2
 refine⟨_,w,G,_,s.st,?_,.refl G,hI.agree,hr,h⟩
 have hrun:=ql6 hu ht b len cap (lo.map a.eval) (hi.map a.eval) i j w (by
  cases lo with
  |none=>exact hlo
  |some y=>obtain⟨k,hy⟩:=hlo;exact⟨k,hI.evalv hy⟩) (by
  cases hi with
  |none=>simp only at hhi;simp only [Option.map_none];omega
  |some y=>obtain⟨k,hy⟩:=hhi;exact⟨⟨k,hI.evalv hy⟩,by omega⟩) h1
 generalize a.eval = ρ at hv hrun
 simp only [execOp,hv]
 simp [Instr.sliceAt,run_underlying hu,hrun]
theorem qkz {x y:Operand} {t e:TypeId} {sz:Nat} {agg:Bool} {xs:List AV} {k:IntKind} {i:Int} {n:Nat} {z:AV} (hx:Wk (qh N s x) (.sl sz xs none)) (hy:qh N s y = .v (.int k i)) (hu:E.P.underlying t=some (.slice e)) (ht:tyOf E.P e=some (sz,agg)) (hi:i=n) (hz:xs[n]? = some z)
  (h:AOps E rd N ops rest K (s.put d (.pp z.cells))):AOps E rd N ops (⟨d,.indexAddr t x y,T,p,af,none⟩::rest) K s:=by
 refine q5 rfl (q6 nofun fun B0 w0 G a w _ hI=>?_)
 subst hi
 have he:=hx _ _ (hI.eval x)
 have hey:=hI.evalv hy
 generalize hv:a.eval x=v at he
 have hlt:=lt_of_getElem? hz
 cases he with
 |sl0=>simp at hz
 |sl _ _ _ b off cap pub hp hw hlen hrel htip hcap=>
  have hzs:z.cells.length=sz:=hw z (List.mem_of_getElem? hz)
  have hfl:=xi hw
  have hle:(n+1) * sz≤xs.length * sz:=Nat.mul_le_mul_right _ hlt
  rw [Nat.succ_mul] at hle
  refine⟨.pointer (some ⟨b,off+n * sz,none⟩),w,G,.pp z.cells,s.st,?_,.refl G,hI.agree,?_,h⟩
  ·generalize a.eval = ρ at hv hey
   simp only [execOp,hv,hey]
   simp [Instr.indexAt,asIntOf,run_underlying hu,hlt,(xg ht w).1,Addr.add_lit]
  ·refine .pp _ b _ pub hp (by omega) fun j q r h1 h2=>?_
   have hj:j<sz:=by have:=lt_of_getElem? h1;omega
   have hf:=qj7 hw hz j hj
   exact hrel (n * sz+j) q r (by rw [hf];exact h1) (by rw [← h2];congr 1;omega)
theorem qoz {x y:Operand} {t u T':TypeId} {sz bytes:Nat} {xs ys:List AV} {c:AV} (hx:qh N s x=c) (hy:Wk (qh N s y) (.sl sz ys none))
  (ht:E.P.underlying t=some (.slice T')) (hu:E.P.underlying u=some (.slice T')) (hT:qdw E.P T' sz bytes) (hc:TipO 0 s.st sz T' xs c) (hone:xv (flat ys)=true) (h63:xs.length+ys.length≤maxLen) (hby:(xs.length+ys.length) * bytes≤140737488355328)
  (h:∀ c' st' t1,TipO 0 st' sz T' (xs++ys) c'→Fr s.st st' t1→(c = .sl sz xs (some t1)∨s.st.length≤t1)→(∀ o,z1 c'=some o→o=t1)→AOps E rd N ops rest K (AS.put ⟨s.t,st',s.df⟩ d c')):AOps E rd N ops (⟨d,.call ⟨.builtin .append,#[x,y],#[t,u]⟩,T,p,af,none⟩::rest) K s:=by
 refine q5 rfl (q6 nofun fun B0 w0 G a w _ hI=>?_)
 have hyr:Rel G (.sl sz ys none) (a.eval y):=hy _ _ (hI.eval y)
 rcases hc with (⟨hxs,hcn⟩ | ⟨t1,h1,h2,h3⟩) | ⟨hxs,o,ver,f,hco⟩
 ·subst hxs
  have hle:=G.le_new 0 0 0 false
  have hA:=hI.agree.newTip sz T'
  have hv:a.eval x = .slice none 0 0:=hI.evalv (hx.trans hcn)
  have hn:=hI.agree.n
  obtain⟨news,k1,k2,k3⟩:=qbp (P:=E.P) hA (hyr.mono hle) (by simpa [xv] using hone)
  have hr:Rel (G.new 0 0 0 false) (.sl sz [] (some s.st.length)) (a.eval x):=by
   rw [hv]
   exact .sl0 sz _ none 0 fun t ht=>by simp only [Option.some.injEq] at ht;subst ht;exact⟨by simp [Gh.new,hn],rfl,rfl⟩
  obtain⟨v',w',G',e1,e2,e3,e4⟩:=qbj (ty:=T) hA ht hu (.inr ⟨_,rfl⟩) hT (t:=s.st.length) (n:=0) (by simp) hr rfl rfl k1 k2 k3 (by simpa using h63) (by simpa using hby)
  refine⟨v',w',G',_,_,?_,hle.trans e2,e3,e4,h _ _ s.st.length (.inl (.inr ⟨s.st.length,rfl,?_,Nat.zero_le _⟩)) ⟨by simp,fun k hk hlt=>?_⟩ (.inr (Nat.le_refl _)) (fun o ho=>by simp only [z1,Option.some.injEq] at ho;exact ho.symm)⟩
  ·generalize a.eval = ρ at e1
   simp [execOp,resolve,invoke,builtin,e1]
  ·simp
  ·rw [List.getElem?_set_ne (Ne.symm hk),List.getElem?_append_left hlt]
 ·obtain⟨news,k1,k2,k3⟩:=qbp (P:=E.P) hI.agree hyr (by simpa [xv] using hone)
  obtain⟨v',w',G',e1,e2,e3,e4⟩:=qbj (ty:=T) hI.agree ht hu (.inr ⟨_,rfl⟩) hT h2 (hI.eval_of (hx.trans h1)) rfl rfl k1 k2 k3 h63 hby
  refine⟨v',w',G',_,_,?_,e2,e3,e4,h _ _ t1 (.inl (.inr ⟨t1,rfl,?_,Nat.zero_le _⟩)) ⟨by simp,fun k hk hlt=>?_⟩ (.inl h1) (fun o ho=>by simp only [z1,Option.some.injEq] at ho;exact ho.symm)⟩
  ·generalize a.eval = ρ at e1
   simp [execOp,resolve,invoke,builtin,e1]
  ·rw [List.length_append]
   exact x6 h2
  ·rw [List.getElem?_set_ne (Ne.symm hk)]
 ·subst hxs
  have he:=hI.eval_of (hx.trans hco)
  obtain⟨news,k1,k2,k3⟩:=qbp (P:=E.P) hI.agree hyr (by simpa [xv] using hone)
  have hex:=hT.ex
  obtain⟨i,z,hi,hz,hsz,hbt,hzs⟩:=hex
  generalize hv:a.eval x=v at he
  cases he with
  |os _ _ _ _ blk _ hn hvv hbb=>
   by_cases hm0:ys.length=0
   ·have hy0:ys=[]:=List.eq_nil_of_length_eq_zero hm0
    subst hy0
    have hk1':Src E.P w (a.eval y) 0 i.size []:=by
     have:news=[]:=List.eq_nil_of_length_eq_zero (by simpa using k1.count)
     rw [hsz]
     rw [this] at k1
     exact k1
    refine⟨_,w,G,_,s.st,?_,.refl G,hI.agree,.os o ver f 0 blk 0 hn hvv hbb,h _ s.st s.st.length (.inr ⟨rfl,o,ver,f,rfl⟩) ⟨Nat.le_refl _,fun _ _ _=>rfl⟩ (.inr (Nat.le_refl _)) (fun o ho=>by simp [z1] at ho)⟩
    have:=qe3 (ty:=T) ht hu (.inr ⟨_,rfl⟩) hi hk1' (some ⟨blk,f,none⟩) 0 0 (Nat.le_refl _)
    generalize a.eval = ρ at hv this
    simp [execOp,resolve,invoke,builtin,hv,this]
   ·have hle:=G.le_new 0 0 0 false
    have hA:=hI.agree.newTip sz T'
    have hz63:0+ys.length≤maxLen:=by simpa using h63
    obtain⟨v',w',G',e1,e2,e3,e4⟩:=qku (ty:=T) hA ht hu (.inr ⟨_,rfl⟩) hT (t:=s.st.length) (n:=0) (xs:=[]) (by simp) rfl rfl k1 k2 (fun i a b h1 h2=>(k3 i a b h1 h2).mono hle) hz63 (some ⟨blk,f,none⟩) 0 []
     (run_firstCells_some w.drew sz 0 ⟨blk,f,none⟩ 0 0 [] (by simp) (by simp)) (by omega) (by simp) (by simp [flat]) (by simp) (by simp [flat]) (by rw [Nat.zero_add,nextslicecap_zero (by omega)];have:=hby;simp at this;omega) hm0
    refine⟨v',w',G',_,_,?_,hle.trans e2,e3,e4,h _ _ s.st.length (.inl (.inr ⟨s.st.length,rfl,?_,Nat.zero_le _⟩)) ⟨by simp,fun k hk hlt=>?_⟩ (.inr (Nat.le_refl _)) (fun o ho=>by simp only [z1,Option.some.injEq] at ho;exact ho.symm)⟩
    ·generalize a.eval = ρ at e1 hv
     simp [execOp,resolve,invoke,builtin,hv,e1]
    ·simp
    ·rw [List.getElem?_set_ne (Ne.symm hk),List.getElem?_append_left hlt]
theorem qjx {t e:TypeId} {len sz:Nat} {agg:Bool} {parts:Array (Nat×Operand)} {zs cs xs:List AV} (ps:List (Nat×AV)) (hpl:(wh N s parts).length=ps.length) (hps:∀ (i:Nat) (q p:Nat×AV),(wh N s parts)[i]? = some q→ps[i]? = some p→q.1=p.1∧Wk q.2 p.2)
  (hu:E.P.underlying t=some (.slice e)) (ht:tyOf E.P e=some (sz,agg)) (hz:qdd E.P e len=some zs)
  (hf:qaz (fun i=>some (i * sz,sz)) zs ps=some cs) (hlen:xs.length=len) (hfl:flat xs=cs) (hw:∀ x∈xs,x.cells.length=sz) (hsz:Nat.ble (len * sz) 16777216=true)
  (h:AOps E rd N ops rest K (s.put d (.sl sz xs none))):AOps E rd N ops (⟨d,.buildSlice t len parts,T,p,af,none⟩::rest) K s:=by
 refine q5 rfl (q6 nofun fun B0 w0 G a w _ hI=>?_)
 have hparts:∀ (i:Nat) (p:Nat×AV) (v:Nat×Value),ps[i]? = some p→(parts.toList.map fun x=>(x.1,a.eval x.2))[i]? = some v→p.1=v.1∧Rel G p.2 v.2:=fun i p v hp hv=>by
  have hi:i<(wh N s parts).length:=by rw [hpl];exact lt_of_getElem? hp
  have hq:(wh N s parts)[i]? = some (wh N s parts)[i]:=List.getElem?_eq_getElem hi
  obtain⟨h1,h2⟩:=hps i _ p hq hp
  obtain⟨h3,h4⟩:=qfn hI parts i _ v hq hv
  exact⟨h1.symm.trans h3,h2 _ _ h4⟩
 have hsizeOf:=(xg ht w).1
 have hsz:=Nat.le_of_ble_eq_true hsz
 have hrunE:∃ c':Array Value,(execOp a.eval ⟨d,.buildSlice t len parts,T,p,af,none⟩).run E.P w = .ok (.value (.slice (some ⟨w.heap.size,0,none⟩) len len)) (w.alloc (.cells c' e))∧RelC G cs c':=by
  unfold qdd at hz
  cases hi:E.P.info? e with
  |none=>rw [hi] at hz;simp at hz
  |some i=>
   rw [hi] at hz
   simp only at hz
   have hs:i.size=sz:=by simpa [sizeOf,typeInfo,hi] using hsizeOf
   rw [hs] at hz
   have key:∃ c0:Array Value,RelC G zs c0∧∀ (Q:Array Value→Sem Value),((do
     let zero ← if len * sz=0 then pure #[] else do pure (← zeroValue e).cells
     Q ((Array.range (len * sz)).map (zero[· % zero.size]!)):Sem Value)).run E.P w=(Q c0).run E.P w:=by
    by_cases h0:len * sz=0
    ·rw [h0] at hz
     simp at hz
     subst hz
     exact⟨#[],⟨rfl,by simp⟩,fun Q=>by have e:Array.range 0 = #[]:=(by simp [Array.range]);simp [h0,e]⟩
    ·have:Nat.beq (len * sz) 0=false:=va h0
     rw [this] at hz
     simp only [cond_false] at hz
     cases hzr:i.zero with
     |none=>rw [hzr] at hz;simp at hz
     |some z=>
      rw [hzr] at hz
      simp only [Option.map_some,Option.some.injEq] at hz
      subst hz
      refine⟨(Array.range (len * sz)).map (z.cells[· % z.cells.size]!),⟨by simp,fun k x y h1 h2=>?_⟩,fun Q=>by simp [h0,zeroValue,typeInfo,hi,hzr]⟩
      have hk:k<len * sz:=by have:=lt_of_getElem? h1;simpa using this
      simp [hk] at h1 h2
      subst h1;subst h2
      exact .v _
   obtain⟨c0,hc0,hrun0⟩:=key
   obtain⟨c',h1,h2⟩:=qes (fun i=>some (i * sz,sz)) ps (parts.toList.map fun x=>(x.1,a.eval x.2)) zs c0 cs (by rw [← hpl];simp [wh]) hparts hc0 hf
   refine⟨c',?_,h2⟩
   generalize a.eval = ρ at h1
   have hb:¬ 16777216<len * sz:=by omega
   have hg:∃ m:String,(execOp ρ ⟨d,.buildSlice t len parts,T,p,af,none⟩).run E.P w=(((do
    let zero ← if len * sz=0 then pure #[] else do pure (← zeroValue e).cells
    (fun c=>(do
    let some cells:=Instr.fill (fun i=>some (i * sz,sz)) c (parts.map fun x=>(x.1,ρ x.2)).toList|stuck m
    pure (Value.slice (some (← newRow e cells)) len len):Sem Value)) ((Array.range (len * sz)).map (zero[· % zero.size]!)):Sem Value)).run E.P w).andThen fun v w'=>.ok (.value v) w':=by
    apply Exists.intro
    simp only [execOp,Instr.buildSlice]
    simp [run_underlying hu,hsizeOf,hb]
    rfl
   obtain⟨m,hg⟩:=hg
   have hQ:=hrun0 (fun c=>do
    let some cells:=Instr.fill (fun i=>some (i * sz,sz)) c (parts.map fun x=>(x.1,ρ x.2)).toList|stuck m
    pure (.slice (some (← newRow e cells)) len len))
   rw [hg,hQ]
   simp [h1,newRow,newObj,Sem.run]
 obtain⟨c',hrun,h2⟩:=hrunE
 obtain⟨hle,hA⟩:=hI.agree.newPub e c' (0,0) c'.toList (fun i y hy=>by simpa using hy)
 refine⟨.slice (some ⟨w.heap.size,0,none⟩) len len,w.alloc (.cells c' e),_,.sl sz xs none,s.st,hrun,hle,hA,?_,h⟩
 rw [← hlen]
 cases xs with
 |nil=>exact .sl0 sz none _ _ (by simp)
 |cons x0 xr=>
  refine .sl sz _ none w.heap.size 0 _ c'.toList (by simp [Gh.publish]) hw (by rw [hfl,h2.1];simp) (fun k x y g1 g2=>?_) (fun t ht=>by simp at ht) (Nat.le_refl _)
  rw [hfl] at g1
  exact (h2.2 k x y g1 (by simpa using g2)).mono hle
end
def jp {α : Type}:Nat→List α→List (Nat×α)
 | _,[]=>[]
 |i,x::r=>(i,x)::jp (i+1) r
theorem qj6 {sz:Nat}:∀ (ys:List AV) (k:Nat) (done zs:List AV),(∀ y∈ys,y.okc=true∧y.cells.length=sz)→done.length=k * sz→zs.length=ys.length * sz →
  qaz (fun i=>some (i * sz,sz)) (done++zs) (jp k ys)=some (done++flat ys)
 | [],k,done,zs,_,_,hz=>by
  have:zs=[]:=List.eq_nil_of_length_eq_zero (by simpa using hz)
  subst this
  rfl
 |y::r,k,done,zs,hy,hd,hz=>by
  obtain⟨h1,h2⟩:=hy y (by simp)
  simp only [List.length_cons,Nat.succ_mul] at hz
  simp only [jp,qaz,h1,h2]
  have hb:Nat.beq sz sz=true:=by simp
  have hl:Nat.ble (k * sz+sz) (done++zs).length=true:=Nat.ble_eq_true_of_le (by simp;omega)
  rw [hb,hl]
  have e:yr (done++zs) (k * sz) y.cells=(done++y.cells)++zs.drop sz:=by
   unfold yr
   rw [← hd,List.take_left,h2,List.drop_append]
   simp
  simp only [Bool.and_self,cond_true]
  rw [e,qj6 r (k+1) (done++y.cells) (zs.drop sz) (fun y' hy'=>hy y' (by simp [hy'])) (by simp [hd,h2,Nat.succ_mul]) (by simp;omega)]
  simp [flat]
def qf7 (P:Program):Nat→TypeId→List (Option Nat)
 | 0,_=>[none]
 |n+1,t=>match P.underlying t with
  |some (.struct fs)=>fs.toList.flatMap fun f=>qf7 P n f.type
  |some (.slice e)=>(match tyOf P e with
   |some (sz,_)=>[some sz]
   |none=>[none])
  | _=>[none]
def nrm1:Option Nat→AV→AV
 |some sz,.v (.slice none 0 0)=>.sl sz [] none
 | _,x=>x
def nrmL:List (Option Nat)→List AV→List AV
 |k::r,x::s=>nrm1 k x::nrmL r s
 | _,l=>l
def nrmT (P:Program) (t:TypeId) (x:AV):AV:=
 match x with
 | .ag cs=>.ag (nrmL (qf7 P 4 t) cs)
 | .v (.slice none 0 0)=>(match qf7 P 1 t with
  | [k]=>nrm1 k (.v (.slice none 0 0))
  | _=>.v (.slice none 0 0))
 |x=>x
def zipT (P:Program):List TypeId→List AV→List AV
 |t::r,x::s=>nrmT P t x::zipT P r s
 | _,l=>l
theorem qtp (k:Option Nat) (x:AV):Wk x (nrm1 k x):=by
 unfold nrm1
 split
 ·exact fun _ _ h=>qau h
 ·exact w6 _
theorem qta:∀ (ks:List (Option Nat)) (l:List AV),l.length=(nrmL ks l).length∧∀ (i:Nat) (x y:AV),l[i]? = some x→(nrmL ks l)[i]? = some y→Wk x y
 | [],l=>⟨by simp [nrmL],fun i x y hx hy=>by simp only [nrmL] at hy;rw [hx] at hy;simp only [Option.some.injEq] at hy;subst hy;exact w6 _⟩
 |k::r,[]=>⟨by simp [nrmL],fun i x y hx=>by simp at hx⟩
 |k::r,z::s=>by
  obtain⟨h1,h2⟩:=qta r s
  refine⟨by simp [nrmL,h1],fun i x y hx hy=>?_⟩
  simp only [nrmL] at hy
  cases i with
  |zero=>simp at hx hy;subst hx;subst hy;exact qtp k _
  |succ i=>exact h2 i x y (by simpa using hx) (by simpa using hy)
theorem q13 (P:Program) (t:TypeId) (x:AV):Wk x (nrmT P t x):=by
 unfold nrmT
 split
 ·obtain⟨h1,h2⟩:=qta (qf7 P 4 t) (by assumption)
  exact qvs h1 h2
 ·split
  ·exact qtp _ _
  ·exact w6 _
 ·exact w6 _
theorem qts (P:Program):∀ (ts:List TypeId) (l:List AV),l.length=(zipT P ts l).length∧∀ (i:Nat) (x y:AV),l[i]? = some x→(zipT P ts l)[i]? = some y→Wk x y
 | [],l=>⟨by simp [zipT],fun i x y hx hy=>by simp only [zipT] at hy;rw [hx] at hy;simp only [Option.some.injEq] at hy;subst hy;exact w6 _⟩
 |t::r,[]=>⟨by simp [zipT],fun i x y hx=>by simp at hx⟩
 |t::r,z::s=>by
  obtain⟨h1,h2⟩:=qts P r s
  refine⟨by simp [zipT,h1],fun i x y hx hy=>?_⟩
  simp only [zipT] at hy
  cases i with
  |zero=>simp at hx hy;subst hx;subst hy;exact q13 P t _
  |succ i=>exact h2 i x y (by simpa using hx) (by simpa using hy)
def qlk:AV→Bool
 | .v (.slice none 0 0)=>true
 | _=>false
theorem qnm {x:AV} (h:qlk x=true):x=kg:=by
 unfold qlk at h
 split at h
 ·rfl
 ·simp at h
def fcN (n:Nat) (k:Nat→Prop):Prop:=
 bif Nat.beq n 1 then k 1 else bif Nat.beq n 2 then k 2 else bif Nat.beq n 3 then k 3 else bif Nat.beq n 4 then k 4 else bif Nat.beq n 5 then k 5 else k n
theorem qh3 (n:Nat) (k:Nat→Prop):fcN n k=k n:=by
 unfold fcN
 by_cases h1:n=1
 ·subst h1;rfl
 rw [va h1]
 by_cases h2:n=2
 ·subst h2;rfl
 rw [va h2]
 by_cases h3:n=3
 ·subst h3;rfl
 rw [va h3]
 by_cases h4:n=4
 ·subst h4;rfl
 rw [va h4]
 by_cases h5:n=5
 ·subst h5;rfl
 rw [va h5]
 rfl
def qlu:List (Option Nat)→List AV→(List AV→Prop)→Prop
 |c::r,x::s,k=>(match qlk x,c with
  |true,some sz=>fcN sz fun sz=>qlu r s fun l=>k (.sl sz [] none::l)
  | _,_=>qlu r s fun l=>k (x::l))
 | _,l,k=>k l
def qu1:List AV→Bool
 | []=>false
 |x::r=>qlk x ||qu1 r
def nrmK (P:Program) (t:TypeId) (x:AV) (k:AV→Prop):Prop:=
 match qu1 x.cells with
 |false=>k x
 |true=>(match x with
  | .ag cs=>qlu (qf7 P 4 t) cs fun l=>k (.ag l)
  |x=>(match qf7 P 1 t with
   | [some sz]=>fcN sz fun sz=>k (.sl sz [] none)
   | _=>k x))
def WkL (l m:List AV):Prop:=l.length=m.length∧∀ (i:Nat) (x y:AV),l[i]? = some x→m[i]? = some y→Wk x y
theorem qjc:WkL [] []:=⟨rfl,fun i x y h=>by simp at h⟩
theorem qe6 {x y:AV} {l m:List AV} (h:Wk x y) (hl:WkL l m):WkL (x::l) (y::m):=⟨by simp [hl.1],fun i a b ha hb=>by
 cases i with
 |zero=>simp at ha hb;subst ha;subst hb;exact h
 |succ i=>exact hl.2 i a b (by simpa using ha) (by simpa using hb)⟩
theorem qkq:∀ l:List AV,WkL l l
 | []=>qjc
 |x::r=>qe6 (w6 x) (qkq r)
theorem qkg:∀ (cs:List (Option Nat)) (l:List AV) (k:List AV→Prop),qlu cs l k→∃ m,WkL l m∧k m
 | [],l,k,h=>⟨l,qkq l,by cases l <;> exact h⟩
 |c::r,[],k,h=>⟨[],qjc,h⟩
 |c::r,x::s,k,h=>by
  simp only [qlu] at h
  split at h
  ·rename_i sz hx
   rw [qh3] at h
   obtain⟨m,h1,h2⟩:=qkg r s _ h
   exact⟨_,qe6 (by rw [qnm hx];exact fun _ _ h=>qau h) h1,h2⟩
  ·obtain⟨m,h1,h2⟩:=qkg r s _ h
   exact⟨_,qe6 (w6 x) h1,h2⟩
theorem qmp {P:Program} {t:TypeId} {x:AV} {k:AV→Prop} (h:nrmK P t x k):∃ y,Wk x y∧k y:=by
 unfold nrmK at h
 split at h
 ·exact⟨x,w6 x,h⟩
 ·rename_i hn
  split at h
  ·rename_i cs
   obtain⟨m,h1,h2⟩:=qkg _ _ _ h
   exact⟨_,qvs h1.1 h1.2,h2⟩
  ·rename_i hx
   split at h
   ·rename_i sz _
    rw [qh3] at h
    have:x=kg:=by
     have hc:x.cells=[x]:=by cases x <;> first|rfl|exact absurd rfl (hx _)
     rw [hc] at hn
     simp only [qu1,Bool.or_false] at hn
     exact qnm hn
    exact⟨_,by rw [this];exact fun _ _ h=>qau h,h⟩
   ·exact⟨x,w6 x,h⟩
def qu3 (P:Program) (t:TypeId):List AV→(List AV→Prop)→Prop
 | [],k=>k []
 |x::r,k=>nrmK P t x fun x=>qu3 P t r fun r=>k (x::r)
theorem qqf {P:Program} {t:TypeId}:∀ {l:List AV} {k:List AV→Prop},qu3 P t l k→∃ m,WkL l m∧k m
 | [],k,h=>⟨[],qjc,h⟩
 |x::r,k,h=>by
  obtain⟨y,h1,h2⟩:=qmp h
  obtain⟨m,h3,h4⟩:=qqf h2
  exact⟨_,qe6 h1 h3,h4⟩
def zipK (P:Program):List TypeId→List AV→(List AV→Prop)→Prop
 |t::r,x::s,k=>nrmK P t x fun x=>zipK P r s fun l=>k (x::l)
 | _,l,k=>k l
theorem qtr {P:Program}:∀ {ts:List TypeId} {l:List AV} {k:List AV→Prop},zipK P ts l k→∃ m,WkL l m∧k m
 | [],l,k,h=>⟨l,qkq l,by cases l <;> exact h⟩
 |t::r,[],k,h=>⟨[],qjc,h⟩
 |t::r,x::s,k,h=>by
  obtain⟨y,h1,h2⟩:=qmp h
  obtain⟨m,h3,h4⟩:=qtr h2
  exact⟨_,qe6 h1 h3,h4⟩
def qud (P:Program) (T:TypeId):Option (Nat×Nat):=
 match P.info? T with
 |some i=>(match i.zero with
  |some z=>bif Nat.beq z.cells.size i.size then some (i.size,i.bytes) else none
  |none=>none)
 |none=>none
theorem qyw {P:Program} {T:TypeId} {sz bytes:Nat} (h:qud P T=some (sz,bytes)):qdw P T sz bytes:=by
 unfold qud at h
 split at h
 ·rename_i i hi
  split at h
  ·rename_i z hz
   cases hb:Nat.beq z.cells.size i.size with
   |false=>rw [hb] at h;simp at h
   |true=>
    rw [hb] at h
    simp only [cond_true,Option.some.injEq,Prod.mk.injEq] at h
    exact⟨i,z,hi,hz,h.1,h.2,(Nat.eq_of_beq_eq_true hb).trans h.1⟩
  ·simp at h
 ·simp at h
end Go.Av
namespace Go.Av
open Go Go.RowKit
section
variable {E : Env} {N : Nat} {ops : Array Oper} {nx : Nat} {sl : List (Nat × SV)} {H : Nat → Option SR} {k : Ef → Prop} {d : Option Tmp} {T : TypeId} {p : String} {af : Array Edge}
def bndW (v:Option SV) (q:Nat→Prop):Prop:=
 match v with
 |some v=>(match qch v with
  |some (_,n)=>∃ i:Nat,n=(i:Int)∧q i
  |none=>False)
 |none=>False
theorem qa4 {x:Operand} {q:Nat→Prop} (h:bndW (sval N sl x) q):∃ (i:Nat) (kd:IntKind),(∀ {ρ t:Nat→AV} {S:List AObj} {df:List Nat},SlOk ρ t sl→qh N ⟨t,S,df⟩ x = .v (.int kd (i:Int)))∧q i:=by
 unfold bndW at h
 split at h
 ·rename_i v hv
  split at h
  ·rename_i kd n hn
   obtain⟨i,rfl,h⟩:=h
   exact⟨i,kd,fun hs=>(qq hs hv).trans (qah hn _),h⟩
  ·exact h.elim
 ·exact h.elim
def qfh:Option TypeDesc→Bool
 |some .string=>true
 | _=>false
theorem qkc {u:Option TypeDesc} (h:qfh u=true):u=some .string:=by
 unfold qfh at h
 split at h
 ·rfl
 ·simp at h
def elT:Option TypeDesc→Option TypeId
 |some (.slice e)=>some e
 | _=>none
theorem qb6 {u:Option TypeDesc} {e:TypeId} (h:elT u=some e):u=some (.slice e):=by
 unfold elT at h
 split at h
 ·simp only [Option.some.injEq] at h;subst h;rfl
 ·simp at h
def qq5 (P:Program) (N:Nat) (sl:List (Nat×SV)) (H:Nat→Option SR) (nx:Nat) (k:Ef→Prop) (t:TypeId) (x:Operand) (lo hi:Option Operand):Prop:=
 match sval N sl x with
 |some (.s l)=>bif qfh (P.underlying t) then (match lo,hi with
  |none,none=>k (wp nx (.s l))
  |some y,none=>bndW (sval N sl y) fun i=>i≤l.length∧k (wp nx (.s (l.drop i)))
  |none,some z=>bndW (sval N sl z) fun j=>j≤l.length∧k (wp nx (.s (l.take j)))
  |some y,some z=>bndW (sval N sl y) fun i=>bndW (sval N sl z) fun j=>i≤j∧j≤l.length∧k (wp nx (.s ((l.take j).drop i)))) else False
 |some v=>(match elT (P.underlying t) with
  |some e=>(match tyOf P e with
   |some (sz,_)=>(match qgs H sz v with
    |some (xs,ks)=>(match lo,hi with
     |none,none=>k ⟨.a (.sl sz xs none),ks,[],nx⟩
     |some y,none=>bndW (sval N sl y) fun i=>i≤xs.length∧k ⟨.a (.sl sz (xs.drop i) none),ks,[],nx⟩
     |none,some z=>bndW (sval N sl z) fun j=>j≤xs.length∧k ⟨.a (.sl sz (xs.take j) none),ks,[],nx⟩
     |some y,some z=>bndW (sval N sl y) fun i=>bndW (sval N sl z) fun j=>i≤j∧j≤xs.length∧k ⟨.a (.sl sz ((xs.take j).drop i) none),ks,[],nx⟩)
    |none=>False)
   |none=>False)
  |none=>False)
 |none=>False
theorem qzy {t:TypeId} {x:Operand} {lo hi:Option Operand} (h:qq5 E.P N sl H nx k t x lo hi):∃ e,Loc E N ops ⟨d,.slice t x lo hi none,T,p,af,none⟩ nx sl H e∧k e:=by
 unfold qq5 at h
 split at h
 ·rename_i l hv
  cases hu:qfh (E.P.underlying t) with
  |false=>rw [hu] at h;exact h.elim
  |true=>
   rw [hu] at h
   simp only [cond_true] at h
   have hu:=qkc hu
   split at h
   ·exact⟨_,ji (v:=.s l) fun df rd K rest ρ t' S hs hk=>qb5 (i:=0) (j:=l.length) (qq hs hv) hu rfl rfl (by omega) (by omega) (by omega) (by simpa [SV.ev] using hk),h⟩
   ·obtain⟨i,kd,hi,h1,h⟩:=qa4 h
    exact⟨_,ji (v:=.s (l.drop i)) fun df rd K rest ρ t' S hs hk=>ka (qq hs hv) (hi hs) hu h1 hk,h⟩
   ·obtain⟨j,kd,hj,h1,h⟩:=qa4 h
    exact⟨_,ji (v:=.s (l.take j)) fun df rd K rest ρ t' S hs hk=>kc (qq hs hv) (hj hs) hu h1 hk,h⟩
   ·obtain⟨i,kd,hi,h⟩:=qa4 h
    obtain⟨j,kd',hj,h1,h2,h⟩:=qa4 h
    exact⟨_,ji (v:=.s ((l.take j).drop i)) fun df rd K rest ρ t' S hs hk=>jt (qq hs hv) (hi hs) (hj hs) hu h1 h2 hk,h⟩
 ·rename_i v hns hv
  split at h
  ·rename_i e he
   have hu:=qb6 he
   split at h
   ·rename_i sz agg ht
    split at h
    ·rename_i xs ks hel
     split at h
     ·exact⟨_,yp (v:=.a (.sl sz xs none)) fun df rd K rest ρ t' S hs hS hk=>qc3 (i:=0) (j:=xs.length) (by rw [qq hs hv];exact qde hel hS) hu ht rfl rfl (by omega) (by omega) (by simpa [SV.ev] using hk),h⟩
     ·obtain⟨i,kd,hi,h1,h⟩:=qa4 h
      exact⟨_,yp (v:=.a (.sl sz (xs.drop i) none)) fun df rd K rest ρ t' S hs hS hk=>qc3 (i:=i) (j:=xs.length) (by rw [qq hs hv];exact qde hel hS) hu ht ⟨kd,hi hs⟩ rfl h1 (by omega) (by simpa [SV.ev] using hk),h⟩
     ·obtain⟨j,kd,hj,h1,h⟩:=qa4 h
      exact⟨_,yp (v:=.a (.sl sz (xs.take j) none)) fun df rd K rest ρ t' S hs hS hk=>qc3 (i:=0) (j:=j) (by rw [qq hs hv];exact qde hel hS) hu ht rfl ⟨kd,hj hs⟩ (by omega) h1 (by simpa [SV.ev] using hk),h⟩
     ·obtain⟨i,kd,hi,h⟩:=qa4 h
      obtain⟨j,kd',hj,h1,h2,h⟩:=qa4 h
      exact⟨_,yp (v:=.a (.sl sz ((xs.take j).drop i) none)) fun df rd K rest ρ t' S hs hS hk=>qc3 (i:=i) (j:=j) (by rw [qq hs hv];exact qde hel hS) hu ht ⟨kd,hi hs⟩ ⟨kd',hj hs⟩ h1 h2 (by simpa [SV.ev] using hk),h⟩
    ·exact h.elim
   ·exact h.elim
  ·exact h.elim
 ·exact h.elim
def qpz (P:Program) (N:Nat) (sl:List (Nat×SV)) (nx:Nat) (k:Ef→Prop) (t:TypeId) (x y:Operand):Prop:=
 match sval N sl x with
 |some (.s l)=>bif qfh (P.underlying t) then bndW (sval N sl y) fun i=>i<l.length∧k (wp nx (.a (Uv (l.getD i 0)))) else False
 | _=>False
theorem qy5 {t:TypeId} {x y:Operand} (h:qpz E.P N sl nx k t x y):∃ e,Loc E N ops ⟨d,.index t x y,T,p,af,none⟩ nx sl H e∧k e:=by
 unfold qpz at h
 split at h
 ·rename_i l hv
  cases hu:qfh (E.P.underlying t) with
  |false=>rw [hu] at h;exact h.elim
  |true=>
   rw [hu] at h
   simp only [cond_true] at h
   obtain⟨i,kd,hi,h1,h⟩:=qa4 h
   exact⟨_,ji (v:=.a (Uv (l.getD i 0))) fun df rd K rest ρ t' S hs hk=>jd (qq hs hv) (hi hs) (qkc hu) h1 hk,h⟩
 ·exact h.elim
def qgy (P:Program) (N:Nat) (sl:List (Nat×SV)) (H:Nat→Option SR) (nx:Nat) (k:Ef→Prop) (t:TypeId) (x y:Operand):Prop:=
 match sval N sl x,elT (P.underlying t) with
 |some v,some e=>(match tyOf P e with
  |some (sz,_)=>(match qgs H sz v with
   |some (xs,ks)=>bndW (sval N sl y) fun i=>∃ z,xs[i]? = some z∧k ⟨.a (.pp z.cells),ks,[],nx⟩
   |none=>False)
  |none=>False)
 | _,_=>False
theorem qpy {t:TypeId} {x y:Operand} (h:qgy E.P N sl H nx k t x y):∃ e,Loc E N ops ⟨d,.indexAddr t x y,T,p,af,none⟩ nx sl H e∧k e:=by
 unfold qgy at h
 split at h
 ·rename_i v e hv he
  split at h
  ·rename_i sz agg ht
   split at h
   ·rename_i xs ks hel
    obtain⟨i,kd,hi,z,hz,h⟩:=qa4 h
    exact⟨_,yp (v:=.a (.pp z.cells)) fun df rd K rest ρ t' S hs hS hk=>qkz (by rw [qq hs hv];exact qde hel hS) (hi hs) (qb6 he) ht rfl hz hk,h⟩
   ·exact h.elim
  ·exact h.elim
 ·exact h.elim
def lenW (P:Program) (H:Nat→Option SR) (nx:Nat) (k:Ef→Prop) (t:TypeId):Option SV→Prop
 |some (.s l)=>bif qfh (P.underlying t) then k (wp nx (.i l.length)) else False
 |some (.tp b)=>(match H b,elT (P.underlying t) with
  |some (.tip _ _ xs),some _=>k ⟨.i xs.length,[b],[],nx⟩
  |some (.own _ _ xs),some _=>k ⟨.i xs.length,[b],[],nx⟩
  | _,_=>False)
 |some (.a x)=>(match lenA x,elT (P.underlying t) with
  |some n,some _=>k (wp nx (.i n))
  | _,_=>False)
 | _=>False
theorem qx4 {b sz:Nat} {T:TypeId} {xs:List AV} {c:AV} {S:List AObj} (h:TipO b S sz T xs c):lenA c=some xs.length:=by
 rcases h with (⟨rfl,rfl⟩ | ⟨t,rfl,_⟩) | ⟨rfl,o,v,f,rfl⟩ <;> rfl
theorem qko {b sz:Nat} {T:TypeId} {xs:List AV} {c:AV} {S:List AObj} (h:TipO b S sz T xs c):tpAt c=c:=by
 unfold tpAt
 rw [(qm1 h).2]
 rfl
theorem qzh {sz:Nat} {T:TypeId} {xs:List AV} {c:AV} {S:List AObj} (h:OwnS S sz T xs c):lenA c=some xs.length:=by
 rcases h with⟨rfl,h⟩ | ⟨_,_,_,_,rfl,_⟩
 ·exact h.len
 ·rfl
theorem qrg {sz:Nat} {T:TypeId} {xs:List AV} {c:AV} {S:List AObj} (h:OwnS S sz T xs c):tpAt c=c:=by
 rcases h with⟨_,h⟩ | ⟨_,_,_,_,rfl,_⟩
 ·unfold tpAt
  rw [h.one]
  rfl
 ·rfl
theorem q2z {t:TypeId} {ts:Array TypeId} {x:Operand} (ht:ts[0]? = some t) (h:lenW E.P H nx k t (sval N sl x)):∃ e,Loc E N ops ⟨d,.call ⟨.builtin .len,#[x],ts⟩,T,p,af,none⟩ nx sl H e∧k e:=by
 unfold lenW at h
 split at h
 ·rename_i l hv
  cases hu:qfh (E.P.underlying t) with
  |false=>rw [hu] at h;exact h.elim
  |true=>rw [hu] at h;exact⟨_,ji (v:=.i l.length) fun df rd K rest ρ t' S hs hk=>zm (qq hs hv) ht (qkc hu) hk,h⟩
 ·rename_i b hv
  split at h
  ·rename_i sz T' xs e hb he
   refine⟨_,yp (v:=.i xs.length) fun df rd K rest ρ t' S hs hS hk=>?_,h⟩
   have:=hS.ok b _ ((y5 b).trans hb)
   exact je (v:= ρ b) ((qq hs hv).trans (qko this)) (qx4 this) ht (qb6 he) hk
  ·rename_i sz T' xs e hb he
   refine⟨_,yp (v:=.i xs.length) fun df rd K rest ρ t' S hs hS hk=>?_,h⟩
   have:=hS.ok b _ ((y5 b).trans hb)
   exact je (v:= ρ b) ((qq hs hv).trans (qrg this)) (qzh this) ht (qb6 he) hk
  ·exact h.elim
 ·rename_i y hv
  split at h
  ·rename_i n e hn he
   exact⟨_,ji (v:=.i n) fun df rd K rest ρ t' S hs hk=>je (qq hs hv) hn ht (qb6 he) hk,h⟩
  ·exact h.elim
 ·exact h.elim
def qh4 (H:Nat→Option SR) (sz:Nat) (T:TypeId):SV→Option (List AV×List Nat)
 | .tp b=>(match H b with
  |some (.tip z T' xs)=>bif Nat.beq z sz && Nat.beq T' T then some (xs,[b]) else none
  | _=>none)
 | .a (.v (.slice none 0 0))=>some ([],[])
 | _=>none
theorem qwv {S:List AObj} {ρ : Nat→AV} {v:SV} {sz:Nat} {T:TypeId} {xs:List AV} {ks ks':List Nat} (h:qh4 H sz T v=some (xs,ks)) (hS:SatF S ρ (resF (ks++ks') H)):TipO 0 S sz T xs (v.ev ρ)∧∀ o,z1 (v.ev ρ)=some o→∃ b,ks=[b]∧z1 (ρ b)=some o:=by
 unfold qh4 at h
 split at h
 ·rename_i b
  split at h
  ·rename_i z T' ys hb
   cases hz:(Nat.beq z sz && Nat.beq T' T) with
   |false=>rw [hz] at h;simp at h
   |true=>
    rw [hz] at h
    simp only [cond_true,Option.some.injEq,Prod.mk.injEq] at h
    obtain⟨rfl,rfl⟩:=h
    simp only [Bool.and_eq_true] at hz
    have e1:=Nat.eq_of_beq_eq_true hz.1
    have e2:=Nat.eq_of_beq_eq_true hz.2
    subst e1
    subst e2
    have:=hS.ok b _ (by unfold resF;simp [memN];exact hb)
    have e:(SV.tp b).ev ρ = ρ b:=qko this
    rw [e]
    exact⟨this,fun o ho=>⟨b,rfl,ho⟩⟩
  ·simp at h
 ·simp only [Option.some.injEq,Prod.mk.injEq] at h
  obtain⟨rfl,rfl⟩:=h
  exact⟨.inl (.inl ⟨rfl,rfl⟩),fun o ho=>by simp [SV.ev,z1] at ho⟩
 ·simp at h
theorem qur {v:SV} {sz:Nat} {T:TypeId} {xs:List AV} {ks:List Nat} (h:qh4 H sz T v=some (xs,ks)):∀ b,ks=[b]→∃ z T ys,H b=some (.tip z T ys):=fun b hb=>by
 unfold qh4 at h
 split at h
 ·split at h
  ·rename_i b' z T' ys hk
   cases hz:(Nat.beq z sz && Nat.beq T' T) with
   |false=>rw [hz] at h;simp at h
   |true=>
    rw [hz] at h
    simp only [cond_true,Option.some.injEq,Prod.mk.injEq] at h
    rw [hb] at h
    simp only [List.cons.injEq,and_true] at h
    exact⟨z,T',ys,by rw [← h.2];exact hk⟩
  ·simp at h
 ·simp only [Option.some.injEq,Prod.mk.injEq] at h
  rw [hb] at h
  simp at h
 ·simp at h
theorem qnf {v:SV} {sz:Nat} {xs:List AV} {ks:List Nat} (h:qgs H sz v=some (xs,ks)):∀ b,memN ks b=true→∃ z T ys,H b=some (.tip z T ys):=fun b hb=>by
 unfold qgs at h
 split at h
 ·rename_i z ys tip
  cases hz:Nat.beq z sz with
  |false=>rw [hz] at h;simp at h
  |true=>
   rw [hz] at h
   simp only [cond_true,Option.some.injEq,Prod.mk.injEq] at h
   rw [← h.2] at hb
   simp [memN] at hb
 ·simp only [Option.some.injEq,Prod.mk.injEq] at h
  rw [← h.2] at hb
  simp [memN] at hb
 ·rename_i b'
  split at h
  ·rename_i z T' ys hk
   cases hz:Nat.beq z sz with
   |false=>rw [hz] at h;simp at h
   |true=>
    rw [hz] at h
    simp only [cond_true,Option.some.injEq,Prod.mk.injEq] at h
    rw [← h.2] at hb
    simp only [memN,List.any_cons,List.any_nil,Bool.or_false] at hb
    rw [Nat.eq_of_beq_eq_true hb]
    exact⟨z,T',ys,hk⟩
  ·simp at h
 ·simp at h
def appW (P:Program) (H:Nat→Option SR) (nx:Nat) (k:Ef→Prop) (t u:TypeId):Option SV→Option SV→Prop
 |some vx,some vy=>(match elT (P.underlying t),elT (P.underlying u) with
  |some e,some e'=>(match qud P e with
   |some (sz,bytes)=>(match qh4 H sz e vx,qgs H sz vy with
    |some (xs,kx),some (ys,ky)=>bif Nat.beq e e' && Nat.blt 0 bytes && Nat.ble bytes 140737 && (kx++ky).all (fun b=> !Nat.beq b nx) then ((xs.length+ys.length≤1000000000∨(xs.length+ys.length) * bytes≤140737488355328)∧xv (flat ys)=true)∧k ⟨.tp nx,kx++ky,kx.map (fun b=>(b,none))++[(nx,some (.tip sz e (xs++ys)))],nx+1⟩ else False
    | _,_=>False)
   |none=>False)
  | _,_=>False)
 | _,_=>False
theorem qw6 (l:List Nat) (k:Nat):lkS (l.map fun b=>(b,(none:Option SR))) k=bif memN l k then some none else none:=by
 induction l with
 |nil=>rfl
 |cons b r ih=>
  simp only [List.map_cons,lkS,memN,List.any_cons] at ih ⊢
  by_cases h:b=k
  ·subst h
   have:Nat.beq b b=true:=by simp
   simp only [this,cond_true,Bool.true_or]
  ·rw [va h,va (fun e=>h e.symm),Bool.false_or]
   simp only [cond_false]
   exact ih
theorem qew (a b:List Nat) (k:Nat):memN (a++b) k=(memN a k ||memN b k):=by simp [memN]
theorem q16 {t u:TypeId} {x y:Operand} (h:appW E.P H nx k t u (sval N sl x) (sval N sl y)):∃ e,Loc E N ops ⟨d,.call ⟨.builtin .append,#[x,y],#[t,u]⟩,T,p,af,none⟩ nx sl H e∧k e:=by
 unfold appW at h
 split at h
 ·rename_i vx vy hvx hvy
  split at h
  ·rename_i e e' he he'
   split at h
   ·rename_i sz bytes hb
    split at h
    ·rename_i xs kx ys ky hg hel
     cases hc:(Nat.beq e e' && Nat.blt 0 bytes && Nat.ble bytes 140737 && (kx++ky).all (fun b=> !Nat.beq b nx)) with
     |false=>rw [hc] at h;exact h.elim
     |true=>
      rw [hc] at h
      simp only [Bool.and_eq_true] at hc
      have ee:=Nat.eq_of_beq_eq_true hc.1.1.1
      subst ee
      have hbp:=v7 hc.1.1.2
      have hbl:=Nat.le_of_ble_eq_true hc.1.2
      have hnx:∀ b∈kx++ky,b≠nx:=fun b hb e=>by
       have:=List.all_eq_true.1 hc.2 b hb
       subst e
       simp at this
      obtain⟨⟨h1,h2⟩,h⟩:=h
      refine⟨_,fun df rd K rest ρ t' S hs hS hk=>?_,h⟩
      simp only at hS hk
      obtain⟨hT,hl⟩:=qwv hg hS
      have hSy:SatF S ρ (resF ky H):=⟨fun k r hk=>hS.ok k r (by have:=w7 hk;unfold resF;rw [qew,this.1,Bool.or_true];exact this.2),fun k k' r r' hne g1 g2=>hS.sep k k' r r' hne (by have:=w7 g1;unfold resF;rw [qew,this.1,Bool.or_true];exact this.2) (by have:=w7 g2;unfold resF;rw [qew,this.1,Bool.or_true];exact this.2)⟩
      have h47:(xs.length+ys.length) * bytes≤140737488355328:=h1.elim (fun h=>Nat.le_trans (Nat.mul_le_mul h hbl) (by omega)) id
      have h63:xs.length+ys.length≤maxLen:=Nat.le_trans (Nat.le_trans (Nat.le_mul_of_pos_right _ hbp) h47) (by decide)
      refine qoz (qq hs hvx) (by rw [qq hs hvy];exact qde hel hSy) (qb6 he) (qb6 he') (qyw hb) hT h2 h63 h47 fun c' S' t1 g1 g2 g3 g4=>?_
      simp only at g2 g3
      have hresE:∀ b,kx=[b]→∃ r,resF (kx++ky) H b=some r:=fun b hb1=>by
       obtain⟨z,T2,ys2,q⟩:=qur hg b hb1
       refine⟨.tip z T2 ys2,?_⟩
       unfold resF
       rw [hb1]
       simp [memN]
       exact q
      have key:∀ k r,chF (kx.map (fun b=>(b,none))++[(nx,some (.tip sz e (xs++ys)))]) (resF (kx++ky) H) k=some r→(k=nx∧r = .tip sz e (xs++ys))∨(k≠nx∧memN kx k=false∧resF (kx++ky) H k=some r):=fun k r hk=>by
       unfold chF at hk
       rw [qbn] at hk
       rw [qw6] at hk
       cases hm:memN kx k with
       |true=>rw [hm] at hk;simp at hk
       |false=>
        rw [hm] at hk
        simp only [cond_false,lkS] at hk
        by_cases hn:nx=k
        ·subst hn
         have:Nat.beq nx nx=true:=by simp
         rw [this] at hk
         simp only [cond_true,Option.some.injEq] at hk
         exact .inl ⟨rfl,hk.symm⟩
        ·rw [va hn] at hk
         exact .inr ⟨fun e=>hn e.symm,rfl,hk⟩
      have hold:∀ k r,k≠nx→memN kx k=false→resF (kx++ky) H k=some r→∀ o,z1 (ρ k)=some o→o≠t1∧o<S.length:=fun k r hne hm hk o ho=>by
       have hlt:=SR.ok_lt (hS.ok k r hk) ho
       refine⟨fun e=>?_,hlt⟩
       subst e
       rcases g3 with g3|g3
       ·obtain⟨b,hb1,hb2⟩:=hl o (by rw [g3];rfl)
        have hbk:b≠k:=fun e=>by subst e;rw [hb1] at hm;simp [memN] at hm
        have hbr:=hresE b hb1
        obtain⟨r',hbr⟩:=hbr
        exact hS.sep b k r' r hbk hbr hk o hb2 ho
       ·omega
      have:=hk (upd ρ nx c') S' ⟨fun k hk=>yt _ _ (by simp only at hk;omega),⟨fun k r hk=>?_,fun k k' r1 r2 hne q1 q2 o ho ho'=>?_⟩,g2.len,fun j hj hne=>?_,fun k r hk o ho=>?_⟩
      ·simpa only [SV.ev,xh,qko g1] using this
      ·rcases key k r hk with⟨rfl,rfl⟩ | ⟨q1,q2,q3⟩
       ·rw [xh];exact g1
       ·rw [yt _ _ q1]
        have h3:=hS.ok k r q3
        cases r with
        |cells T1 cs=>
         exfalso
         have:=(w7 q3)
         have hmy:memN ky k=true:=by
          have h5:=this.1
          rw [qew,q2,Bool.false_or] at h5
          exact h5
         obtain⟨z,T2,ys2,q⟩:=qnf hel k hmy
         rw [this.2] at q
         simp at q
        |tip z T1 zs=>exact SR.ok_of (f:=fun _=>false) (r:=.tip z T1 zs) (ρ:= ρ) rfl (fun k hk=>by simp at hk) h3 fun o ho=>g2.same o (hold k _ q1 q2 q3 o ho).1 (hold k _ q1 q2 q3 o ho).2
        |own z T1 zs=>exact SR.ok_of (f:=fun _=>false) (r:=.own z T1 zs) (ρ:= ρ) rfl (fun k hk=>by simp at hk) h3 fun o ho=>g2.same o (hold k _ q1 q2 q3 o ho).1 (hold k _ q1 q2 q3 o ho).2
        |obj P1=>exact SR.ok_of (f:=fun _=>false) (r:=.obj P1) (ρ:= ρ) rfl (fun k hk=>by simp at hk) h3 fun o ho=>g2.same o (hold k _ q1 q2 q3 o ho).1 (hold k _ q1 q2 q3 o ho).2
        |rows T1 cs=>
         exfalso
         have:=(w7 q3)
         have hmy:memN ky k=true:=by
          have h5:=this.1
          rw [qew,q2,Bool.false_or] at h5
          exact h5
         obtain⟨z,T2,ys2,q⟩:=qnf hel k hmy
         rw [this.2] at q
         simp at q
      ·rcases key k r1 q1 with⟨rfl,rfl⟩ | ⟨f1,f2,f3⟩
       ·rcases key k' r2 q2 with⟨rfl,rfl⟩ | ⟨e1,e2,e3⟩
        ·exact hne rfl
        ·rw [xh] at ho
         rw [yt _ _ e1] at ho'
         exact (hold k' r2 e1 e2 e3 o ho').1 (g4 o ho)
       ·rw [yt _ _ f1] at ho
        rcases key k' r2 q2 with⟨rfl,rfl⟩ | ⟨e1,e2,e3⟩
        ·rw [xh] at ho'
         exact (hold k r1 f1 f2 f3 o ho).1 (g4 o ho')
        ·rw [yt _ _ e1] at ho'
         exact hS.sep k k' r1 r2 hne f3 e3 o ho ho'
      ·refine g2.same j (fun e=>?_) hj
       subst e
       rcases g3 with g3|g3
       ·obtain⟨b,hb1,hb2⟩:=hl j (by rw [g3];rfl)
        obtain⟨r2,hr2⟩:=hresE b hb1
        exact hne b r2 hr2 hb2
       ·omega
      ·rcases key k r hk with⟨rfl,rfl⟩ | ⟨q1,q2,q3⟩
       ·rw [xh] at ho
        have:=g4 o ho
        subst this
        rcases g3 with g3|g3
        ·obtain⟨b,hb1,hb2⟩:=hl o (by rw [g3];rfl)
         obtain⟨r2,hr2⟩:=hresE b hb1
         exact .inr ⟨b,r2,hr2,hb2⟩
        ·exact .inl g3
       ·rw [yt _ _ q1] at ho
        exact .inr ⟨k,r,q3,ho⟩
    ·exact h.elim
   ·exact h.elim
  ·exact h.elim
 ·exact h.elim
end
end Go.Av
namespace Go.Av
open Go Go.RowKit
structure q3k (E:Env) (f:FuncId):Prop where
 run:∀ vs w,(callFunc f vs).run E.P w = .ok (.enter f vs) w
def x4 (E:Env) (f:FuncId) (vs:List SV) (nx:Nat) (H:Nat→Option SR) (e:Ef):Prop:=
 ∀ (ρ : Nat→AV) (S:List AObj),SatF S ρ (resF e.ks H)→qp E f (SV.evs ρ vs) S fun r S'=>∃ ρ',r=e.val.ev ρ'∧qeb ρ S nx H e ρ' S'
def nums:Nat→List (Nat×SV)→Bool
 | _,[]=>true
 |i,(j,_)::r=>Nat.beq j i && nums (i+1) r
section
variable {E : Env} {N : Nat} {ops : Array Oper} {nx : Nat} {sl : List (Nat × SV)} {H : Nat → Option SR} {k : Ef → Prop} {d : Option Tmp} {T : TypeId} {p : String} {af : Array Edge}
theorem qoq {f:FuncId} {xs ys:List AV} {st:List AObj} {R:AV→List AObj→Prop} (hl:xs.length=ys.length) (hw:∀ (i:Nat) (x y:AV),xs[i]? = some x→ys[i]? = some y→Wk x y) (h:qp E f ys st R):qp E f xs st R:=
 ⟨fun B0 w0 G vals w hL hA hR=>h.run B0 w0 G vals w hL hA ⟨by rw [← hl];exact hR.1,fun i a b ha hb=>by
  have hi:=lt_of_getElem? ha
  have hx:xs[i]? = some (xs[i]'(by omega)):=List.getElem?_eq_getElem (by omega)
  exact hw i _ a hx ha G b (hR.2 i _ b hx hb)⟩⟩
def parT (P:Program) (f:FuncId):List TypeId:=match P.funcs[f]? with
 |some fn=>fn.params.toList
 |none=>[]
def qoi (P:Program) (f:FuncId):Option (List AV)→Option (List AV)
 |some xs=>some (zipT P (parT P f) xs)
 |none=>none
theorem q0u {f:FuncId} {vs:List SV} {args:List AV} {r0:AV} (hc:∀ S,qp E f args S fun r S'=>r=r0∧S'=S) (ha:qoi E.P f (frzs (resF (SV.kss vs) H) vs)=some args):x4 E f vs nx H ⟨nf r0,SV.kss vs,[],nx⟩:=fun ρ S hS=>by
 cases hf:frzs (resF (SV.kss vs) H) vs with
 |none=>rw [hf] at ha;simp [qoi] at ha
 |some xs=>
 rw [hf] at ha
 simp only [qoi,Option.some.injEq] at ha
 obtain⟨h1,h2⟩:=qcw hS vs xs hf
 obtain⟨h3,h4⟩:=qts E.P (parT E.P f) xs
 rw [ha] at h3 h4
 refine qoq (h1.trans h3) (fun i x y hx hy=>?_) ((hc S).mono ?_)
 ·have hi:i<xs.length:=by rw [← h1];exact lt_of_getElem? hx
  have hz:xs[i]? = some xs[i]:=List.getElem?_eq_getElem hi
  exact fun G v hv=>h4 i _ y hz hy G v (h2 i x _ hx hz G v hv)
 rintro r S' ⟨rfl,rfl⟩
 exact⟨ρ,(qi2 ρ _).symm,fun _ _=>rfl,⟨fun k r hk=>hS.ok k r hk,fun k k' r r' hne h1 h2=>hS.sep k k' r r' hne h1 h2⟩,Nat.le_refl _,fun _ _ _=>rfl,fun k r hk o ho=>.inr ⟨k,r,hk,ho⟩⟩
def fnOf:SV→Option (FuncId×List SV×List SV)
 | .fn (.func f) a b=>some (f,a,b)
 | .a (.fn (.func f) a b)=>some (f,nfs a,nfs b)
 | _=>none
theorem q00 {v:SV} {f:FuncId} {a b:List SV} (h:fnOf v=some (f,a,b)) (ρ : Nat→AV):v.ev ρ = .fn (.func f) (SV.evs ρ a) (SV.evs ρ b):=by
 unfold fnOf at h
 split at h
 ·simp only [Option.some.injEq,Prod.mk.injEq] at h;obtain⟨rfl,rfl,rfl⟩:=h;rfl
 ·simp only [Option.some.injEq,Prod.mk.injEq] at h;obtain⟨rfl,rfl,rfl⟩:=h;simp only [SV.ev,qd1]
 ·simp at h
def qt6 (E:Env) (N:Nat) (sl:List (Nat×SV)) (H:Nat→Option SR) (nx:Nat) (k:Ef→Prop) (x:Operand) (xs:Array Operand):Prop:=
 match sval N sl x,qhg N sl xs.toList with
 |some v,some vs=>(match fnOf v with
  |some (f,a,b)=>q3k E f∧∃ e,x4 E f (a++(vs++b)) nx H e∧k e
  |none=>False)
 | _,_=>False
theorem q0r {x:Operand} {xs:Array Operand} {ts:Array TypeId} (h:qt6 E N sl H nx k x xs):∃ e,Loc E N ops ⟨d,.call ⟨.value x,xs,ts⟩,T,p,af,none⟩ nx sl H e∧k e:=by
 unfold qt6 at h
 split at h
 ·rename_i v vs hv hvs
  split at h
  ·rename_i f a b hf
   obtain⟨hE,e,hc,h⟩:=h
   refine⟨e,fun df rd K rest ρ t S hs hS hk=>qky ((qq hs hv).trans (q00 hf ρ)) hE.run ?_,h⟩
   have:=hc ρ S hS
   rw [qhh hs hvs]
   have he:SV.evs ρ (a++(vs++b))=SV.evs ρ a++SV.evs ρ vs++SV.evs ρ b:=by simp [wt]
   rw [he] at this
   refine this.mono ?_
   rintro r S' ⟨ρ',rfl,hp⟩
   exact hk ρ' S' hp
  ·exact h.elim
 ·exact h.elim
def bslW (P:Program) (N:Nat) (bxs:List Nat) (d:Option Tmp) (sl:List (Nat×SV)) (H:Nat→Option SR) (nx:Nat) (k:Ef→Prop) (t:TypeId) (len:Nat) (parts:Array (Nat×Operand)):Prop:=
 match elT (P.underlying t) with
 |some e=>(match tyOf P e,qdd P e len,qi9 N sl parts.toList with
  |some (sz,_),some zs,some ps=>(match len with
   | 0=>(match ps with
    | []=>k ⟨.tp nx,[],[(nx,some (.tip sz e []))],nx+1⟩
    | _=>False)
   |len=>bif qlj bxs d then (bif ps.all (fun q=>q.2.all fun _=>false) && nums 0 ps && Nat.beq ps.length len && (SV.evs (fun _=>kg) (ps.map Prod.snd)).all (fun y=>y.okc && Nat.beq y.cells.length sz) && Nat.beq zs.length (len * sz) && Nat.ble (len * sz) 16777216 && Nat.blt 0 len && Nat.ble len 16777216 then
     k ⟨.tp nx,[],[(nx,some (.tip sz e (SV.evs (fun _=>kg) (ps.map Prod.snd))))],nx+1⟩ else False) else (match frzs (resF (SV.kss (ps.map Prod.snd)) H) (ps.map Prod.snd) with
    |some ys=>qu3 P e ys fun ys=>fcN sz fun sz=>bif nums 0 ps && Nat.beq ys.length len && ys.all (fun y=>y.okc && Nat.beq y.cells.length sz) && Nat.beq zs.length (len * sz) && Nat.ble (len * sz) 16777216 then k ⟨.a (.sl sz ys none),SV.kss (ps.map Prod.snd),[],nx⟩ else False
    |none=>False))
  | _,_,_=>False)
 |none=>False
theorem qqj:∀ {ps:List (Nat×SV)} {i0:Nat} {ys:List AV},nums i0 ps=true→ps.length=ys.length→∀ (i:Nat) (q:Nat×SV) (r:Nat×AV),ps[i]? = some q→(jp i0 ys)[i]? = some r→q.1=r.1∧(ps.map Prod.snd)[i]? = some q.2∧ys[i]? = some r.2
 | [],_,_,_,_,i,_,_,h,_=>by simp at h
 |(j,v)::ps,i0,[],_,hl,_,_,_,_,_=>by simp at hl
 |(j,v)::ps,i0,y::ys,h,hl,i,q,r,hq,hr=>by
  simp only [nums,Bool.and_eq_true] at h
  simp only [jp] at hr
  cases i with
  |zero=>
   simp only [List.getElem?_cons_zero,Option.some.injEq] at hq hr
   subst hq
   subst hr
   exact⟨Nat.eq_of_beq_eq_true h.1,rfl,rfl⟩
  |succ i=>
   have:=qqj h.2 (by simpa using hl) i q r (by simpa using hq) (by simpa using hr)
   simpa using this
theorem qif {α : Type}:∀ (l:List α) (i:Nat),(jp i l).length=l.length
 | [],_=>rfl
 |x::r,i=>by simp [jp,qif r]
theorem qxn (t:Nat→AV) (i:Nat) (a b:AV):put (put t i a) i b=put t i b:=by
 funext j
 by_cases h:j=i
 ·subst h;rw [x3,x3]
 ·rw [y3 _ _ _ _ h,y3 _ _ _ _ h,y3 _ _ _ _ h]
theorem qig:∀ (ps:List (Nat×SV)) (i:Nat),nums i ps=true→(ps.map fun q=>(q.1,q.2.ev fun _=>kg))=jp i (SV.evs (fun _=>kg) (ps.map Prod.snd))
 | [],_,_=>rfl
 |(j,v)::r,i,h=>by
  simp only [nums,Bool.and_eq_true] at h
  simp only [List.map_cons,SV.evs,jp,qig r (i+1) h.2]
  rw [Nat.eq_of_beq_eq_true h.1]
theorem q2i {bxs:List Nat} {t:TypeId} {len:Nat} {parts:Array (Nat×Operand)} (h:bslW E.P N bxs d sl H nx k t len parts):∃ e,Loc E N ops ⟨d,.buildSlice t len parts,T,p,af,none⟩ nx sl H e∧k e:=by
 unfold bslW at h
 split at h
 ·rename_i e he
  split at h
  ·rename_i sz agg zs ps ht hz hp
   split at h
   ·split at h
    ·refine⟨_,qgc (fun k r hk=>by rw [qe2] at hk;simp at hk) fun df rd K rest ρ t' S hs _ hk=>?_,h⟩
     have hpa:wh N ⟨t',S,df⟩ parts=[]:=by unfold wh;rw [qe4 hs hp];rfl
     have hfl:zs=[]:=by
      unfold qdd at hz
      split at hz
      ·simp at hz;exact hz
      ·simp at hz
     subst hfl
     refine qck (loc:=[]) (st:=S) (by simp) (qb6 he) ht hz (by rw [hpa];rfl) (by simp) ?_
     have:=hk (.os S.length 0 0 0 0) [.cells 0 e []] (.inr ⟨rfl,_,_,_,rfl⟩) (fun o ho=>by simp [z1] at ho)
     simpa [SV.ev,xh,tpAt,AV.one] using this
    ·exact h.elim
   ·rename_i hne
    cases hnew:qlj bxs d with
    |true=>
     rw [hnew] at h
     simp only [cond_true] at h
     cases hc:(ps.all (fun q=>q.2.all fun _=>false) && nums 0 ps && Nat.beq ps.length len && (SV.evs (fun _=>kg) (ps.map Prod.snd)).all (fun y=>y.okc && Nat.beq y.cells.length sz) && Nat.beq zs.length (len * sz) && Nat.ble (len * sz) 16777216 && Nat.blt 0 len && Nat.ble len 16777216) with
     |false=>rw [hc] at h;exact h.elim
     |true=>
      rw [hc] at h
      simp only [Bool.and_eq_true] at hc
      obtain⟨⟨⟨⟨⟨⟨⟨c0,c1⟩,c2⟩,c3⟩,c4⟩,c5⟩,c6⟩,c7⟩:=hc
      have c2:=Nat.eq_of_beq_eq_true c2
      have c4:=Nat.eq_of_beq_eq_true c4
      have hyl:(SV.evs (fun _=>kg) (ps.map Prod.snd)).length=len:=by rw [wt];simpa using c2
      have c3:∀ y∈SV.evs (fun _=>kg) (ps.map Prod.snd),y.okc=true∧y.cells.length=sz:=fun y hy=>by
       have:=List.all_eq_true.1 c3 y hy
       simp only [Bool.and_eq_true] at this
       exact⟨this.1,Nat.eq_of_beq_eq_true this.2⟩
      refine⟨_,qgc (fun k r hk=>by rw [qe2] at hk;simp at hk) fun df rd K rest ρ t' S hs _ hk=>?_,h⟩
      have hev:(ps.map fun q=>(q.1,q.2.ev ρ))=jp 0 (SV.evs (fun _=>kg) (ps.map Prod.snd)):=by
       rw [← qig ps 0 c1]
       refine List.map_congr_left fun q hq=>?_
       rw [qax (f:=fun _=>false) (ρ:=fun _=>kg) (ρ':= ρ) (fun k hk=>by simp at hk) q.2 (List.all_eq_true.1 c0 q hq)]
      have hpa:wh N ⟨t',S,df⟩ parts=jp 0 (SV.evs (fun _=>kg) (ps.map Prod.snd)):=by rw [← hev];unfold wh;exact qe4 hs hp
      have hfill:=qj6 (sz:=sz) _ 0 [] zs c3 (by simp) (by rw [c4,hyl])
      have hfl:(flat (SV.evs (fun _=>kg) (ps.map Prod.snd))).length=len * sz:=by rw [xi fun x hx=>(c3 x hx).2,hyl]
      refine qck (loc:=[]) (st:=S) (by simp) (qb6 he) ht hz (by rw [hpa];simpa using hfill) c5 ?_
      cases d with
      |none=>simp [qlj] at hnew
      |some x=>
       refine qty x (o:=S.length) (sz:=sz) (len:=len) (cap:=len) (T':=e) (xs:=SV.evs (fun _=>kg) (ps.map Prod.snd)) (by simp [AS.put,x3]) (by simp [AS.put]) hfl hyl (v7 c6) (Nat.le_refl _) (by have:=Nat.le_of_ble_eq_true c7;simp only [maxLen];omega) (fun x hx=>(c3 x hx).2) (by rw [← hfl,List.take_length]) ?_
       have:=hk (.sl sz (SV.evs (fun _=>kg) (ps.map Prod.snd)) (some S.length)) [.tip len sz e] (.inl (.inr ⟨S.length,rfl,by rw [hyl];exact qbv,Nat.zero_le _⟩)) (fun o ho=>by simp only [z1,Option.some.injEq] at ho;omega)
       simp only [SV.ev,xh,tpAt,AV.one,cond_true,AS.put] at this
       simpa [AS.put,qxn] using this
    |false=>
    rw [hnew] at h
    simp only [cond_false] at h
    split at h
    ·rename_i ys0 hys
     obtain⟨ys,hyn,h⟩:=qqf h
     rw [qh3] at h
     cases hc:(nums 0 ps && Nat.beq ys.length len && ys.all (fun y=>y.okc && Nat.beq y.cells.length sz) && Nat.beq zs.length (len * sz) && Nat.ble (len * sz) 16777216) with
     |false=>rw [hc] at h;exact h.elim
     |true=>
      rw [hc] at h
      simp only [Bool.and_eq_true] at hc
      obtain⟨⟨⟨⟨c1,c2⟩,c3⟩,c4⟩,c5⟩:=hc
      have c2:=Nat.eq_of_beq_eq_true c2
      have c4:=Nat.eq_of_beq_eq_true c4
      have c3:∀ y∈ys,y.okc=true∧y.cells.length=sz:=fun y hy=>by
       have:=List.all_eq_true.1 c3 y hy
       simp only [Bool.and_eq_true] at this
       exact⟨this.1,Nat.eq_of_beq_eq_true this.2⟩
      refine⟨_,yp (v:=.a (.sl sz ys none)) fun df rd K rest ρ t' S hs hS hk=>?_,h⟩
      obtain⟨w1,w2⟩:=qcw hS _ _ hys
      have hlp:ps.length=ys.length:=by rw [← hyn.1,← w1];simp [wt]
      have hpa:wh N ⟨t',S,df⟩ parts=ps.map fun q=>(q.1,q.2.ev ρ):=by unfold wh;exact qe4 hs hp
      have hfill:=qj6 (sz:=sz) ys 0 [] zs c3 (by simp) (by rw [c4,c2])
      refine qjx (jp 0 ys) (by rw [hpa,qif];simpa using hlp) (fun i q r hq hr=>?_) (qb6 he) ht hz (by simpa using hfill) c2 (by simp) (fun x hx=>(c3 x hx).2) c5 hk
      rw [hpa,List.getElem?_map] at hq
      cases hpi:ps[i]? with
      |none=>rw [hpi] at hq;simp at hq
      |some q'=>
       rw [hpi] at hq
       simp only [Option.map_some,Option.some.injEq] at hq
       subst hq
       obtain⟨g1,g2,g3⟩:=qqj c1 hlp i q' r hpi hr
       have hi:i<ys0.length:=by rw [hyn.1];exact lt_of_getElem? g3
       have hy0:ys0[i]? = some ys0[i]:=List.getElem?_eq_getElem hi
       exact⟨g1,fun G v hv=>hyn.2 i _ _ hy0 g3 G v (w2 i _ _ (by rw [wt,List.getElem?_map,g2];rfl) hy0 G v hv)⟩
    ·exact h.elim
  ·exact h.elim
 ·exact h.elim
def mmW (nx:Nat) (k:Ef→Prop) (f:Int→Int→Int):Option SV→Option SV→Prop
 |some a,some b=>(match qch a,qch b with
  |some (.i64,m),some (.i64,n)=>k (wp nx (.i (f m n)))
  | _,_=>False)
 | _,_=>False
theorem q21 {ts:Array TypeId} {x y:Operand} (h:mmW nx k min (sval N sl x) (sval N sl y)):∃ e,Loc E N ops ⟨d,.call ⟨.builtin .min,#[x,y],ts⟩,T,p,af,none⟩ nx sl H e∧k e:=by
 unfold mmW at h
 split at h
 ·rename_i a b ha hb
  split at h
  ·rename_i m n hm hn
   exact⟨_,ji (v:=.i (min m n)) fun df rd K rest ρ t' S hs hk=>jb (.int .i64 (min m n)) rfl nofun (fun a w he=>by
    have e1:=he _ _ ((qq hs ha).trans (qah hm ρ))
    have e2:=he _ _ ((qq hs hb).trans (qah hn ρ))
    have e:min m n=if n<m then n else m:=by simp only [Int.min_def];split <;> split <;> omega
    simp [execOp,resolve,invoke,builtin,Builtin.min_,Builtin.min2,e1,e2,e]) hk,h⟩
  ·exact h.elim
 ·exact h.elim
theorem q20 {ts:Array TypeId} {x y:Operand} (h:mmW nx k max (sval N sl x) (sval N sl y)):∃ e,Loc E N ops ⟨d,.call ⟨.builtin .max,#[x,y],ts⟩,T,p,af,none⟩ nx sl H e∧k e:=by
 unfold mmW at h
 split at h
 ·rename_i a b ha hb
  split at h
  ·rename_i m n hm hn
   exact⟨_,ji (v:=.i (max m n)) fun df rd K rest ρ t' S hs hk=>jb (.int .i64 (max m n)) rfl nofun (fun a w he=>by
    have e1:=he _ _ ((qq hs ha).trans (qah hm ρ))
    have e2:=he _ _ ((qq hs hb).trans (qah hn ρ))
    have e:max m n=if n > m then n else m:=by simp only [Int.max_def];split <;> split <;> omega
    simp [execOp,resolve,invoke,builtin,Builtin.max_,Builtin.max2,e1,e2,e]) hk,h⟩
  ·exact h.elim
 ·exact h.elim
def qoo (H:Nat→Option SR):Option SV→Bool
 |some (.tp b)=>(match H b with
  |some (.own _ _ _)=>true
  |some (.obj _)=>true
  |some (.rows _ _)=>true
  | _=>false)
 |some (.bx b _)=>(match H b with
  |some (.own _ _ _)=>true
  |some (.obj _)=>true
  |some (.rows _ _)=>true
  | _=>false)
 | _=>false
def q3n (H:Nat→Option SR):Option SV→Bool
 |some (.tp b)=>(match H b with
  |some (.obj _)=>true
  | _=>false)
 | _=>false
def orW (c:Bool) (x y:Prop):Prop:=
 match c with
 |true=>x
 |false=>y
theorem qe0 {c:Bool} {x y:Prop} (h:orW c x y) (hy:y→x):x:=by
 cases c with
 |true=>exact h
 |false=>exact hy h
def oddT (u:Option TypeDesc) (y:Operand):Bool:=
 match u with
 |some (.struct _)=>true
 |some (.array _ _)=>true
 |some (.interface _)=>(match y with
  | .const .nilIface=>false
  | _=>true)
 | _=>false
def oddB (P:Program) (op:BinOp) (t:TypeId) (y:Operand):Bool:=
 match op with
 | .and=>true
 | .or=>true
 | .xor=>true
 | .shl=>true
 | .shr=>true
 | .andNot=>true
 | .eql=>oddT (P.underlying t) y
 | .neq=>oddT (P.underlying t) y
 | _=>false
def slT:Option TypeDesc→Bool
 |some (.slice _)=>true
 | _=>false
def opW (E:Env) (N:Nat) (ops:Array Oper) (bxs:List Nat) (nx:Nat) (sl:List (Nat×SV)) (H:Nat→Option SR) (k:Ef→Prop) (o:Oper):Prop:=
 match o.op with
 | .move x=>mvW nx k (sval N sl x)
 | .assign x=>mvW nx k (sval N sl x)
 | .pick c x y=>qu9 N sl nx k c x y
 | .alloc t=>qov E.P nx k t
 | .box t x=>boxW bxs H nx k o.dst t (sval N sl x)
 | .build t ps=>qpa E.P N sl nx k t ps
 | .buildSlice t len ps=>bslW E.P N bxs o.dst sl H nx k t len ps
 | .load t x=>orW (qoo H (sval N sl x)) (∃ e,Loc E N ops o nx sl H e∧k e) (qux E.P H nx k t (sval N sl x))
 | .store t x y=>orW (qoo H (sval N sl x)) (∃ e,Loc E N ops o nx sl H e∧k e) (qq9 E.P H nx k t (sval N sl x) (sval N sl y))
 | .nilCheck x=>qqc nx k (sval N sl x)
 | .binOp op t x y _=>orW (oddB E.P op t y) (∃ e,Loc E N ops o nx sl H e∧k e) (match sval N sl x,sval N sl y with
  |some vx,some vy=>binW E.P op t y (fun v=>k (wp nx v)) vx vy
  | _,_=>False)
 | .unOp .not _ x=>notW nx k (sval N sl x)
 | .convert t t' x=>orW (slT (E.P.underlying t) ||slT (E.P.underlying t')) (∃ e,Loc E N ops o nx sl H e∧k e) (qua E.P t t' nx k (sval N sl x))
 | .makeInterface t x=>qp7 E.P t nx k (sval N sl x)
 | .makeFunc fn xs ys=>qu0 N sl fn xs ys nx k
 | .slice t x lo hi none=>qq5 E.P N sl H nx k t x lo hi
 | .fieldAddr t x f=>qgu E.P t f nx k (sval N sl x)
 | .field t x f=>qpp E.P t f nx k (sval N sl x)
 | .indexAddr t x y=>orW (qoo H (sval N sl x)) (∃ e,Loc E N ops o nx sl H e∧k e) (qgy E.P N sl H nx k t x y)
 | .index t x y=>qpz E.P N sl nx k t x y
 | .extract x i=>qj5 i nx k (sval N sl x)
 | .call c=>(match c.callee,c.args,c.argTypes with
  | .value x,xs,_=>qt6 E N sl H nx k x xs
  | .builtin .len,⟨[x]⟩,⟨t::_⟩=>orW (q3n H (sval N sl x)) (∃ e,Loc E N ops o nx sl H e∧k e) (lenW E.P H nx k t (sval N sl x))
  | .builtin .append,⟨[x,y]⟩,⟨[t,u]⟩=>orW (qoo H (sval N sl x)) (∃ e,Loc E N ops o nx sl H e∧k e) (appW E.P H nx k t u (sval N sl x) (sval N sl y))
  | .builtin .min,⟨[x,y]⟩,_=>mmW nx k min (sval N sl x) (sval N sl y)
  | .builtin .max,⟨[x,y]⟩,_=>mmW nx k max (sval N sl x) (sval N sl y)
  | _,_,_=>∃ e,Loc E N ops o nx sl H e∧k e)
 | _=>∃ e,Loc E N ops o nx sl H e∧k e
theorem qxg {bxs:List Nat} {o:Oper} (hg:o.guard=none) (h:opW E N ops bxs nx sl H k o):∃ e,Loc E N ops o nx sl H e∧k e:=by
 obtain⟨d,op,T,p,af,g⟩:=o
 subst hg
 unfold opW at h
 split at h
 ·rename_i he;simp only at he;subst he;exact q1g h
 ·rename_i he;simp only at he;subst he;exact qv6 h
 ·rename_i he;simp only at he;subst he;exact q1n h
 ·rename_i he;simp only at he;subst he;exact qye h
 ·rename_i he;simp only at he;subst he;exact q2d h
 ·rename_i he;simp only at he;subst he;exact qyq h
 ·rename_i he;simp only at he;subst he;exact q2i h
 ·rename_i he;simp only at he;subst he;exact qe0 h q1d
 ·rename_i he;simp only at he;subst he;exact qe0 h qz1
 ·rename_i he;simp only at he;subst he;exact qze h
 ·rename_i he
  simp only at he
  subst he
  refine qe0 h fun h=>?_
  split at h
  ·rename_i hx hy
   obtain⟨v,hv,hk⟩:=q2c hx hy h
   exact⟨_,ji hv,hk⟩
  ·exact h.elim
 ·rename_i he;simp only at he;subst he;exact q23 h
 ·rename_i he;simp only at he;subst he;exact qe0 h q0t
 ·rename_i he;simp only at he;subst he;exact qzd h
 ·rename_i he;simp only at he;subst he;exact q1f h
 ·rename_i he;simp only at he;subst he;exact qzy h
 ·rename_i he;simp only at he;subst he;exact qpo h
 ·rename_i he;simp only at he;subst he;exact qyy h
 ·rename_i he;simp only at he;subst he;exact qe0 h qpy
 ·rename_i he;simp only at he;subst he;exact qy5 h
 ·rename_i he;simp only at he;subst he;exact quh h
 ·rename_i c he
  simp only at he
  subst he
  obtain⟨cl,xs,ts⟩:=c
  split at h
  ·rename_i e1;simp only at e1;subst e1;exact q0r h
  ·rename_i e1 e2 e3;simp only at e1 e2 e3;subst e1;subst e2;subst e3;exact qe0 h (q2z rfl)
  ·rename_i e1 e2 e3;simp only at e1 e2 e3;subst e1;subst e2;subst e3;exact qe0 h q16
  ·rename_i e1 e2;simp only at e1 e2;subst e1;subst e2;exact q21 h
  ·rename_i e1 e2;simp only at e1 e2;subst e1;subst e2;exact q20 h
  ·exact h
 ·exact h
end
end Go.Av
