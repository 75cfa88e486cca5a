/- Contracts and plain facts that the closing text leans on (part 4). No condition of their own beyond those that each states. -/
import Derived.Test.YtneejjefekdgjaaGreatDoorK3
import Derived.Lib.AppendZerosOnto
import Derived.Lib.Overlaps
set_option maxRecDepth 100000
set_option linter.unusedVariables false
set_option linter.unusedSimpArgs false
namespace Go.Av
open Go Go.RowKit
inductive Vec (sz:Nat) (T:TypeId) (o:Nat) (xs:List AV):AV→AObj→Prop
 |nil (h:xs=[]):Vec sz T o xs zp (.tip 0 sz T)
 |os (ver cap:Nat) (pad:List AV) (hl:(flat xs++pad).length=cap * sz) (hw:∀ x∈xs,x.cells.length=sz) (b0:xs.length≤cap) (gl:cap≤maxLen):Vec sz T o xs (.os o ver 0 xs.length cap) (.cells ver T (flat xs++pad))
section
variable {B0 : Nat} {w0 : World} {G : Gh} {st : List AObj} {w : World}
theorem zk.setCells (h:zk B0 w0 G st w) {t k cap v':Nat} {T:TypeId} {cs:List AV} (ht:st[t]? = some .dead) (hraw:(G.ob t).raw=false) (p8:(G.ob t).ver<v')
  {c:Array Value} (hc:w.heap[k]? = some (.cells c T (0,0))) (hp:G.pub k=none) (hl:cs.length=c.size) (hr:∀ (i:Nat) (x:AV) (y:Value),cs[i]? = some x→c[i]? = some y→Rel G x y) (hk:B0≤k) (hs:∀ o x,st[o]? = some x→x.live→(G.ob o).blk≠k) :
  G.le (G.setOb t ⟨v',k,cap,false⟩)∧zk B0 w0 (G.setOb t ⟨v',k,cap,false⟩) (st.set t (.cells v' T cs)) w:=by
 have b0:=G.le_setOb t ⟨v',k,cap,false⟩ p8 hraw;have bg:∀ o,o≠t→(G.setOb t ⟨v',k,cap,false⟩).ob o=G.ob o:=fun o ho=>by simp [Gh.setOb,ho]
 have p6:(G.setOb t ⟨v',k,cap,false⟩).ob t=⟨v',k,cap,false⟩:=by simp [Gh.setOb]
 refine⟨b0,h.below,h.hB,by simp [h.n,Gh.setOb],h.pub,fun o x hx=>?_,fun o o' x x' a6 hx c9 r6 lf=>?_⟩
 ·rcases getElem?_set' _ _ _ _ _ hx with⟨rfl,rfl⟩ | ⟨ho,hx⟩
  ·exact⟨by rw [p6],by rw [p6],by rw [p6];exact hk,by rw [p6];exact hp,c,by rw [p6];exact hc,hl,fun i x y h1 h2=>(hr i x y h1 h2).mono b0⟩
  ·exact (h.ob o x hx).mono b0 (bg o ho) (fun _=>rfl) (fun _=>rfl)
 ·rcases getElem?_set' _ _ _ _ _ hx with⟨e1,e2⟩ | ⟨ho,hx⟩
  ·rcases getElem?_set' _ _ _ _ _ c9 with⟨e3,_⟩ | ⟨b6,c9⟩
   ·exact absurd (e1.trans e3.symm) a6
   ·rw [e1,p6,bg o' b6]
    exact (hs o' x' c9 lf).symm
  ·rcases getElem?_set' _ _ _ _ _ c9 with⟨e3,_⟩ | ⟨b6,c9⟩
   ·rw [e3,p6,bg o ho]
    exact hs o x hx r6
   ·rw [bg o ho,bg o' b6]
    exact h.sep o o' x x' a6 hx c9 r6 lf
theorem qa7 {G:Gh} {cs ds:List AV} {vs us:List Value} (hl:cs.length=vs.length) (h1:∀ (i:Nat) (x:AV) (y:Value),cs[i]? = some x→vs[i]? = some y→Rel G x y) (h2:∀ (i:Nat) (x:AV) (y:Value),ds[i]? = some x→us[i]? = some y→Rel G x y) :
  ∀ (i:Nat) (x:AV) (y:Value),(cs++ds)[i]? = some x→(vs++us)[i]? = some y→Rel G x y:=fun i x y hx hy=>by
 by_cases hi:i<cs.length
 ·rw [List.getElem?_append_left hi] at hx
  rw [List.getElem?_append_left (by omega)] at hy;exact h1 i x y hx hy
 ·rw [List.getElem?_append_right (by omega)] at hx
  rw [List.getElem?_append_right (by omega),← hl] at hy;exact h2 _ x y hx hy
theorem qnz {P:Program} (hA:zk B0 w0 G st w) {tt u ty T:TypeId} {du:TypeDesc} (htt:P.underlying tt=some (.slice T)) (hu:P.underlying u=some du) (hd:qjo du)
  {sz bytes:Nat} (hT:yi P T sz bytes) {o:Nat} {xs ys:List AV} {a:AV} {ob:AObj} {v x:Value} (hV:Vec sz T o xs a ob) (ho:st[o]? = some ob) (hv:Rel G a v)
  {news:List Value} (hx:Src P w x ys.length sz news) (hys:∀ y∈ys,y.cells.length=sz) (d5:∀ (i:Nat) (a:AV) (b:Value),(flat ys)[i]? = some a→news[i]? = some b→Rel G a b)
  (i8:xs.length+ys.length≤maxLen) (cm:(xs.length+ys.length) * bytes≤140737488355328) :
  ∃ v' w' G' a' ob',(Builtin.append_ #[tt,u] ty #[v,x]).run P w = .ok v' w'∧G.le G'∧zk B0 w0 G' (st.set o ob') w'∧Rel G' a' v'∧Vec sz T o (xs++ys) a' ob':=by
 obtain⟨i,z,hi,hz,rfl,rfl,ft⟩:=hT.ex;have gc:=lt_of_getElem? ho;have htn:o<G.n:=by rw [hA.n];exact gc
 have hraw:(G.ob o).raw=false:=by
  have:=hA.ob o _ ho
  cases hV with
  |nil h=>exact this.1
  |os=>exact this.1
 have hk:=hA.kill o;have gp:(st.set o .dead)[o]? = some .dead:=qar ho
 have e9:∀ k x,(st.set o .dead)[k]? = some x→x.live→k≠o∧st[k]? = some x:=fun k x hx hl=>by
  rcases getElem?_set' _ _ _ _ _ hx with⟨_,e⟩ | ⟨h1,h2⟩
  ·subst e;exact hl.elim
  ·exact⟨h1,h2⟩
 have e7:st.set o ob=st:=by
  apply List.ext_getElem?;intro k;by_cases e:o=k
  ·subst e;rw [List.getElem?_set_self gc];exact ho.symm
  ·rw [List.getElem?_set_ne e]
 have tl:(flat ys).length=ys.length * i.size:=zt hys
 have grow:∀ (base:Option Addr) (c:Nat) (olds:List Value),(Builtin.firstCells i.size xs.length (.slice base xs.length c)).run P w.drew = .ok olds.toArray w.drew→c<xs.length+ys.length→olds.length=xs.length * i.size→(∀ x∈xs,x.cells.length=i.size) →
   (∀ (j:Nat) (a:AV) (b:Value),(flat xs)[j]? = some a→olds[j]? = some b→Rel G a b)→Builtin.nextslicecap (xs.length+ys.length) c * i.bytes≤281474976710656 →
   ∃ v' w' G' a' ob',(Builtin.append_ #[tt,u] ty #[.slice base xs.length c,x]).run P w = .ok v' w'∧G.le G'∧zk B0 w0 G' (st.set o ob') w'∧Rel G' a' v'∧Vec i.size T o (xs++ys) a' ob':=by
  intro base c olds d1 hc fm hwx hrx d3;have fb:(flat xs).length=xs.length * i.size:=zt hwx;have a4:=qgx (ty:=ty) htt hu hd hi hz hx base xs.length c olds d1 hc (by simp only [maxLen] at i8;omega) d3;have dq:=grownCap_ge w (xs.length+ys.length) c T;have b0:=grownCap_le_maxLen w (xs.length+ys.length) c T i8;generalize grownCap w (xs.length+ys.length) c T=cap at a4 dq b0;generalize hzc:(Builtin.zeroCells z.cells (cap - (xs.length+ys.length)))=zc at a4;have pn:zc.size=(cap - (xs.length+ys.length)) * i.size:=by rw [← hzc,size_zeroCells,ft]
  have n7:Below w.heap.size w w.drew:=⟨rfl,rfl,rfl,Nat.le_refl _,fun _ _=>rfl⟩
  have cz:(flat (xs++ys)++zc.toList.map AV.v).length=(olds.toArray++news.toArray++zc).size:=by
   rw [x9];simp [fb,tl,fm,hx.count];omega
  have bw:=(hk.fresh n7).fresh (w':=w.drew.alloc (.cells (olds.toArray++news.toArray++zc) T)) ⟨rfl,rfl,rfl,by simp [World.alloc],fun b hb=>qag _ _ _ hb⟩
  have hnp:G.pub w.heap.size=none:=by
   cases hp:G.pub w.heap.size with
   |none=>rfl
   |some vs=>exact absurd (hA.pub_lt hp) (Nat.lt_irrefl _)
  obtain⟨n4,ck⟩:=bw.setCells (t:=o) (k:=w.heap.size) (cap:=0) (v':=(G.ob o).ver+1) (T:=T) (cs:=flat (xs++ys)++zc.toList.map AV.v) gp hraw (Nat.lt_succ_self _) (qaf w.drew _) hnp cz (by
   have h1:=qa7 (G:=G) (cs:=flat xs) (ds:=flat ys) (vs:=olds) (us:=news) (by omega) hrx d5
   have h2:=qa7 (G:=G) (cs:=flat xs++flat ys) (ds:=zc.toList.map AV.v) (vs:=olds++news) (us:=zc.toList) (by simp [fb,tl,fm,hx.count]) h1 (fun j a b h1 h2=>by
    rw [List.getElem?_map,h2] at h1;simp at h1;subst h1
    exact .v _)
   rw [x9];intro j a b g1 g2
   exact h2 j a b g1 (by rw [← g2];simp [← Array.getElem?_toList])) hA.hB (fun k x hx hl=>by
   obtain⟨_,c9⟩:=e9 k x hx hl
   exact Nat.ne_of_lt ((hA.ob k x c9).lt hl))
  rw [List.set_set] at ck;refine⟨_,_,_,_,_,a4,n4,ck,.os o ((G.ob o).ver+1) 0 (xs.length+ys.length) w.heap.size cap (by simpa [Gh.setOb] using htn) (by simp [Gh.setOb]) (fun _=>by simp [Gh.setOb]),?_⟩
  have:=Vec.os (o:=o) (T:=T) (xs:=xs++ys) ((G.ob o).ver+1) cap (zc.toList.map AV.v) (sz:=i.size) (by
   have h1:zc.toList.length=(cap - (xs.length+ys.length)) * i.size:=by rw [← pn];simp
   rw [List.length_append,x9,List.length_append,fb,tl,List.length_map,h1,← Nat.add_mul,← Nat.add_mul];congr 1
   omega) (fun y hy=>by
   rcases List.mem_append.1 hy with h|h
   ·exact hwx y h
   ·exact hys y h) (by simpa using dq) b0
  rw [List.length_append] at this;exact this
 cases hV with
 |nil h=>
  subst h
  cases hv with
  |v _=>
  by_cases fc:ys.length=0
  ·have ln:ys=[]:=List.eq_nil_of_length_eq_zero fc
   subst ln;have bz:news=[]:=List.eq_nil_of_length_eq_zero (by simpa using hx.count);subst bz;exact⟨_,_,G,_,_,qcv htt hu hd hi hx none 0 0 (Nat.le_refl _),.refl G,by rw [e7];exact hA,.v _,.nil (by simp)⟩
  ·exact grow none 0 [] (by simp [run_firstCells_none]) (by simp;omega) (by simp) (by simp) (by simp [flat]) (by
    simp only [List.length_nil,Nat.zero_add] at cm ⊢;rw [nextslicecap_zero (by omega)]
    omega)
 |os ver cap pad hl hw b0 gl=>
  obtain⟨g0,g1,g2,g3,c,g4,g5,g6⟩:=hA.ob o _ ho;have fb:(flat xs).length=xs.length * i.size:=zt hw
  cases hv with
  |os _ _ _ _ b _ hn r9 hb=>
  have hb:=hb g1;subst hb;have nw:c.size=cap * i.size:=by rw [← g5,hl]
  by_cases fc:ys.length=0
  ·have ln:ys=[]:=List.eq_nil_of_length_eq_zero fc
   subst ln;have bz:news=[]:=List.eq_nil_of_length_eq_zero (by simpa using hx.count);subst bz;exact⟨_,_,G,_,_,qcv htt hu hd hi hx _ xs.length cap b0,.refl G,by rw [e7];exact hA,.os _ _ _ _ _ _ hn r9 (fun _=>rfl),by rw [List.append_nil];exact .os ver cap pad hl hw b0 gl⟩
  ·by_cases f8:xs.length+ys.length≤cap
   ·have tz:(xs.length+ys.length) * i.size≤cap * i.size:=Nat.mul_le_mul_right _ f8
    rw [Nat.add_mul] at tz;have d3:xs.length * i.size+news.length≤c.size:=by rw [hx.count,nw];omega
    have a4:=qkd (ty:=ty) htt hu hd hi hx (G.ob o).blk xs.length cap c g4 f8 d3
    have bd:pad.length=cap * i.size - xs.length * i.size:=by
     have:=hl;rw [List.length_append,fb] at this;omega
    have ck:=hA.setRow (cs':=flat (xs++ys)++pad.drop (ys.length * i.size)) (c':=(c.toList.take (xs.length * i.size)++news++c.toList.drop (xs.length * i.size+news.length)).toArray) ho (by
     rw [x9];simp [fb,tl,hx.count,bd,nw,Nat.min_eq_left b0]
     omega) (by
     have e1:∀ (j:Nat) (a:AV) (b:Value),(flat xs)[j]? = some a→(c.toList.take (xs.length * i.size))[j]? = some b→Rel G a b:=fun j a b h1 h2=>by
      have hj:=lt_of_getElem? h1;rw [List.getElem?_take_of_lt (by omega)] at h2;exact g6 j a b (by rw [List.getElem?_append_left hj];exact h1) (by simpa using h2)
     have e2:=qa7 (G:=G) (cs:=flat xs) (ds:=flat ys) (vs:=c.toList.take (xs.length * i.size)) (us:=news) (by simp;omega) e1 d5
     have e3:=qa7 (G:=G) (cs:=flat xs++flat ys) (ds:=pad.drop (ys.length * i.size)) (vs:=c.toList.take (xs.length * i.size)++news) (us:=c.toList.drop (xs.length * i.size+news.length)) (by
      simp [fb,tl,hx.count]
      omega) e2 (fun j a b h1 h2=>by
      rw [List.getElem?_drop] at h1 h2;refine g6 (xs.length * i.size+news.length+j) a b ?_ (by simpa using h2);rw [List.getElem?_append_right (by rw [fb];omega),fb,← h1,hx.count];congr 1
      omega)
     rw [x9];intro j a b h1 h2
     exact e3 j a b h1 (by simpa using h2))
    refine⟨_,_,G,_,_,a4,.refl G,ck,.os o ver 0 (xs.length+ys.length) _ cap hn r9 (fun _=>rfl),?_⟩
    have:=Vec.os (o:=o) (T:=T) (xs:=xs++ys) ver cap (pad.drop (ys.length * i.size)) (sz:=i.size) (by
     rw [List.length_append,x9,List.length_append,fb,tl,List.length_drop,bd]
     omega) (fun y hy=>by
     rcases List.mem_append.1 hy with h|h
     ·exact hw y h
     ·exact hys y h) (by simpa using f8) gl
    rw [List.length_append] at this;exact this
   ·refine grow (some ⟨(G.ob o).blk,0,none⟩) cap (c.toList.take (xs.length * i.size)) ?_ (by omega) (by
     have:xs.length * i.size≤cap * i.size:=Nat.mul_le_mul_right _ b0;simp
     omega) hw (fun j a b h1 h2=>?_) (growslice_fits (by omega) cm)
    ·refine run_firstCells_some w.drew i.size xs.length ⟨(G.ob o).blk,0,none⟩ xs.length cap _ (by
      have:xs.length * i.size≤cap * i.size:=Nat.mul_le_mul_right _ b0;simp
      omega) fun j y hy=>?_
     have e1':w.drew.heap[(G.ob o).blk]? = some (.cells c T (0,0)):=g4;rw [Addr.add_lit];rw [List.getElem?_take] at hy;split at hy
     ·simp only [Array.getElem?_toList] at hy
      simp [World.cell?,e1',hy]
     ·simp at hy
    ·have hj:=lt_of_getElem? h1
     rw [List.getElem?_take_of_lt (by omega)] at h2;exact g6 j a b (by rw [List.getElem?_append_left hj];exact h1) (by simpa using h2)
end
section
variable {E : Env} {rd : Option Nat} {N : Nat} {ops : Array Oper} {K : AS → Prop} {s : AS} {rest : List Oper} {d : Option Tmp} {T : TypeId} {p : String} {af : Array Edge}
theorem q0l {x y:Operand} {t u T':TypeId} {sz bytes o:Nat} {xs ys:List AV} {tip:Option Nat} {a:AV} {ob:AObj} (hx:ql N s x=a) (hy:ql N s y = .sl sz ys tip) (hV:Vec sz T' o xs a ob) (ho:s.st[o]? = some ob)
  (ht:E.P.underlying t=some (.slice T')) (hu:E.P.underlying u=some (.slice T')) (hT:yi E.P T' sz bytes) (d6:j7 (flat ys)=true) (i8:xs.length+ys.length≤maxLen) (hb:(xs.length+ys.length) * bytes≤140737488355328)
  (h:∀ a' ob',Vec sz T' o (xs++ys) a' ob'→AOps E rd N ops rest K (AS.put ⟨s.t,s.st.set o ob',s.df⟩ d a')):AOps E rd N ops (⟨d,.call ⟨.builtin .append,#[x,y],#[t,u]⟩,T,p,af,none⟩::rest) K s:=by
 refine za rfl (q8 nofun fun B0 w0 G a0 w _ hI=>?_);obtain⟨news,h1,h2,h3⟩:=y6 (P:=E.P) hI.agree (hI.eval_of hy) (by simpa [j7] using d6);obtain⟨v',w',G',a',ob',e1,e2,e3,e4,e5⟩:=qnz (ty:=T) hI.agree ht hu (.inr ⟨_,rfl⟩) hT hV ho (hI.eval_of hx) h1 h2 h3 i8 hb;refine⟨v',w',G',_,_,?_,e2,e3,e4,h a' ob' e5⟩;generalize a0.eval = ρ at e1;simp [execOp,resolve,invoke,builtin,e1]
theorem q32 {sz:Nat} {T:TypeId} {o:Nat} {xs:List AV} {a:AV} {ob:AObj} (h:Vec sz T o xs a ob):(xs=[]∧a=zp∧ob = .tip 0 sz T)∨∃ ver cap pad,a = .os o ver 0 xs.length cap∧ob = .cells ver T (flat xs++pad)∧(flat xs++pad).length=cap * sz∧(∀ x∈xs,x.cells.length=sz)∧xs.length≤cap∧cap≤maxLen:=by
 cases h with
 |nil h=>exact .inl ⟨h,rfl,rfl⟩
 |os ver cap pad h1 h2 h3 h4=>exact .inr ⟨ver,cap,pad,rfl,rfl,h1,h2,h3,h4⟩
theorem qsf {sz:Nat}:∀ {xs:List AV} {i:Nat} {x:AV},(∀ x∈xs,x.cells.length=sz)→x.cells.length=sz→i<xs.length→∀ pad,zx (flat xs++pad) (0+i * sz) x.cells=flat (xs.set i x)++pad
 | [],_,_,_,_,h,_=>by simp at h
 |y::xs,0,x,hw,hx,_,pad=>by
  have hy:=hw y (by simp);simp only [List.set_cons_zero,qb1,zx,Nat.zero_mul,Nat.zero_add,List.take_zero,List.nil_append,hx];rw [List.append_assoc,List.drop_append_of_le_length (by omega),← hy,List.drop_length]
  simp
 |y::xs,i+1,x,hw,hx,h,pad=>by
  have hy:=hw y (by simp);have ih:=qsf (xs:=xs) (i:=i) (x:=x) (fun z hz=>hw z (by simp [hz])) hx (by simpa using h) pad;simp only [List.set_cons_succ,qb1,zx,Nat.zero_add] at ih ⊢;have e:(i+1) * sz=y.cells.length+i * sz:=by rw [Nat.add_mul,hy];omega
  simp only [List.append_assoc] at ih ⊢;rw [e,List.take_length_add_append,show y.cells.length+i * sz+x.cells.length=y.cells.length+(i * sz+x.cells.length) by omega,List.drop_length_add_append];simp only [List.append_assoc];rw [ih]
theorem zi2 {sz:Nat} {T:TypeId} {o ver cap:Nat} {xs pad:List AV} (hl:(flat xs++pad).length=cap * sz) (hw:∀ x∈xs,x.cells.length=sz) (b0:xs.length≤cap) (gl:cap≤maxLen) {i:Nat} {x:AV} (hx:x.cells.length=sz) (hi:i<xs.length) :
  Vec sz T o (xs.set i x) (.os o ver 0 xs.length cap) (.cells ver T (zx (flat xs++pad) (0+i * sz) x.cells)):=by
 rw [qsf hw hx hi]
 have f9:∀ y∈xs.set i x,y.cells.length=sz:=fun y hy=>by
  rcases List.mem_or_eq_of_mem_set hy with h|rfl
  ·exact hw y h
  ·exact hx
 have:=Vec.os (o:=o) (T:=T) (xs:=xs.set i x) ver cap pad (sz:=sz) (by
  rw [List.length_append] at hl ⊢;rw [zt f9,List.length_set,← zt hw]
  exact hl) f9 (by simpa using b0) gl
 rw [List.length_set] at this;exact this
theorem q66 {sz:Nat} {xs pad:List AV} (hw:∀ x∈xs,x.cells.length=sz) {i:Nat} {x:AV} (hi:xs[i]? = some x):((flat xs++pad).drop (i * sz)).take sz=x.cells:=by
 have b4:=lt_of_getElem? hi;have hx:=hw x (List.mem_of_getElem? hi);apply List.ext_getElem?;intro j;rw [List.getElem?_take];by_cases hj:j<sz
 ·rw [if_pos hj,List.getElem?_drop,← qmy hw hi j hj]
  have b0:(i+1) * sz≤xs.length * sz:=Nat.mul_le_mul_right _ b4;rw [Nat.succ_mul] at b0;rw [List.getElem?_append_left (by rw [zt hw];omega)]
 ·rw [if_neg hj,List.getElem?_eq_none (by omega)]
end
structure Chg (N:Nat) (s s':AS):Prop where
 run:∀ (B0:Nat) (w0:World) (G:Gh) (a:Act) (w:World),Inv B0 w0 N G s a w→∃ G',G.le G'∧Inv B0 w0 N G' s' a w
theorem Chg.trans {N:Nat} {s s' s'':AS} (h:Chg N s s') (k:Chg N s' s''):Chg N s s'':=⟨fun B0 w0 G a w hI=>let ⟨G1,h1,h2⟩:=h.run B0 w0 G a w hI;let ⟨G2,k1,k2⟩:=k.run B0 w0 G1 a w h2;⟨G2,h1.trans k1,k2⟩⟩
section
variable {E : Env} {rd : Option Nat} {N : Nat} {ops : Array Oper} {K : AS → Prop} {s s' : AS}
theorem zdk {fn:Func} {R:AV→List AObj→Prop} (hc:Chg fn.ntmps s s') (h:ARet E fn R s'):ARet E fn R s:=
 ⟨fun B0 w0 G a w hL hI R2 gr=>let ⟨G1,h1,h2⟩:=hc.run B0 w0 G a w hI;h.run B0 w0 G1 a w hL h2 R2 fun v G' r st' w' hG k1 k2 k3=>gr v G' r st' w' (h1.trans hG) k1 k2 k3⟩
theorem zdw (i:Nat) {x r:AV} (hi:s.t i=x) (hw:∀ G v,Rel G x v→Rel G r v):Chg N s ⟨Av.put s.t i r,s.st,s.df⟩:=
 ⟨fun B0 w0 G a w hI=>⟨G,.refl G,hI.agree,hI.defers,hI.size,fun j y hy=>by
  have hj:=hI.tmps j y hy;by_cases e:j=i
  ·subst e;simp only [xd];rw [hi] at hj;exact hw G y hj
  ·simp only;rw [qab _ _ _ _ e];exact hj⟩⟩
theorem zdv (o:Nat):Chg N s ⟨s.t,s.st.set o .dead,s.df⟩:=⟨fun B0 w0 G a w hI=>⟨G,.refl G,hI.agree.kill o,hI.defers,hI.size,hI.tmps⟩⟩
theorem q7t (i:Nat) {sz o:Nat} {T':TypeId} {xs:List AV} {v:AV} {ob:AObj} (hi:s.t i=v) (hV:Vec sz T' o xs v ob) (ho:s.st[o]? = some ob):Chg N s ⟨Av.put s.t i (.sl sz xs none),s.st.set o .dead,s.df⟩:=by
 cases hV with
 |nil hx=>
  subst hx
  exact (zdw i hi (fun _ _ h=>qb9 h)).trans (zdv o)
 |os ver cap pad hl hw b0 gl=>
  have hm:xs.length * sz≤cap * sz:=Nat.mul_le_mul_right _ b0;refine⟨fun _ _ _ _ _ hI=>hI.osPub hi ho rfl b0 hw (by omega) ?_⟩;rw [List.drop_zero,List.take_append_of_le_length (by rw [zt hw];exact Nat.le_refl _),List.take_of_length_le (by rw [zt hw];exact Nat.le_refl _)]
theorem q4l (i:Nat) {sz k:Nat} {T':TypeId} {xs:List AV} {v:AV} {ob:AObj} {st loc ext new:List AObj} (hs:s.st=((st++loc)++ext)++new) (hi:s.t i=v) (hV:Vec sz T' (st.length+k) xs v ob) (ho:loc[k]? = some ob):Chg N s ⟨Av.put s.t i (.sl sz xs none),((st++loc.set k .dead)++ext)++new,s.df⟩:=by
 have:=q7t (N:=N) i hi hV (by rw [hs];exact qba ho);rw [hs,qex _ (lt_of_getElem? ho)] at this;exact this
theorem qze {rest:List Oper} {d:Option Tmp} {T:TypeId} {p:String} {af:Array Edge} {x y:Operand} {t u T':TypeId} {sz bytes k:Nat} {xs ys:List AV} {tip:Option Nat} {a:AV} {ob:AObj} {st loc ext new:List AObj} (hs:s.st=((st++loc)++ext)++new) (hx:ql N s x=a) (hy:ql N s y = .sl sz ys tip) (hV:Vec sz T' (st.length+k) xs a ob) (ho:loc[k]? = some ob)
  (ht:E.P.underlying t=some (.slice T')) (hu:E.P.underlying u=some (.slice T')) (hT:yi E.P T' sz bytes) (d6:j7 (flat ys)=true) (i8:xs.length+ys.length≤maxLen) (hb:(xs.length+ys.length) * bytes≤140737488355328)
  (h:∀ a' ob',Vec sz T' (st.length+k) (xs++ys) a' ob'→AOps E rd N ops rest K (AS.put ⟨s.t,((st++loc.set k ob')++ext)++new,s.df⟩ d a')):AOps E rd N ops (⟨d,.call ⟨.builtin .append,#[x,y],#[t,u]⟩,T,p,af,none⟩::rest) K s:=
 q0l hx hy hV (by rw [hs];exact qba ho) ht hu hT d6 i8 hb fun a' ob' hV'=>by rw [hs,qex _ (lt_of_getElem? ho)];exact h a' ob' hV'
end
end Go.Av
namespace Go.Proofs.YtneejjefekdgjaaGreatDoor
open Go Go.Av Go.RowKit Go.Proofs Go.Pl
theorem zcl (text:List UInt8) (o kb ver n:Nat) (I:Nat→List UInt8→List AObj→Prop) (D:List AObj→Prop) (st l0:List AObj) (ht:text.length<4294967281) (h0:I 0 text l0)
  (hI:∀ k rest l,I k rest l→l.length=n∧(st++l)[kb]? = some (.cells ver 9 [Sv text]))
  (hY:∀ k rest l own ext,I k rest l→rest≠[]→rest.length≤text.length→y9 E o [qel k text rest] (st++(l++own::ext)) fun b st2=>∃ l' ext',st2=st++(l'++own::ext')∧(b=true→I (k+1) (past 10 rest) l')∧(b=false→D l'∧l'.length=n)) :
  qo E 121 [.yd o,.bx kb ver 0] (st++l0) fun r st'=>∃ l own ext',st'=st++(l++own::ext')∧((∃ k,I k [] l)∨D l):=by
 refine qp Tryz.func121 rfl (Nat.le_of_ble_eq_true rfl) ?_;obtain⟨hn,hb⟩:=hI 0 text l0 h0;repeat' (first|apply qn|apply qy|apply qf|apply qh|apply qg|(apply jw;exact rfl;exact rfl)|(apply z4;(iterate 11 exact rfl))|(apply xw;(iterate 3 exact rfl))|(apply qbn;exact rfl;exact rfl;exact hb;exact rfl;exact rfl))
 refine jv (fun (x:Nat×List UInt8) s=>match x with|(k,rest)=>∃ l at' ta eb ext,I k rest l∧k+rest.length≤text.length∧at'=(text.length:Int) - rest.length∧StA [(0,.yd o),(1,.bx kb ver 0),(3,.bx ((st++l0).length+0) 0 0),(4,Sv rest)] ((st++l)++(.cells 0 145 [Iv k,Iv at',Sv ta,Bv eb]::ext)) [] s) (fun x=>x.2.length) (0,text)
  ⟨l0,0,[],false,[],h0,by simp,by simp,?_⟩ ?_
 ·exact zz ⟨rfl,rfl,rfl,rfl,trivial⟩
 rintro⟨k,rest⟩ _ ⟨l,_,ta,eb,ext,hi,b0,rfl,t,rfl⟩;obtain⟨fg,lx⟩:=hI k rest l hi;have hq:(st++l).length=(st++l0).length:=by simp [hn,fg]
 repeat' (first|apply qn|apply qy|apply qf|apply qh|apply qj|apply qg|(apply zf;exact rfl;exact rfl)|(apply jk;(iterate 3 exact rfl))|(apply qc;exact rfl;apply cd_d <;> intro h)|(apply zj;(iterate 3 exact rfl))|apply qw|apply jd|(apply qk;exact Tryz.call72;exact qju _ _ _ (by omega))|(apply qbt;exact rfl;exact hq;(iterate 10 exact rfl))|(apply qcp;exact rfl;exact hq;(iterate 4 exact rfl)))
 ·refine qee rfl (q4d (List.append_assoc st l (_::ext)).symm ((hY k rest l _ ext hi h (by omega)).mono ?_))
  rintro b _ ⟨l',ext',rfl,h1,h2⟩
  cases b
  ·skip
   rw [← List.append_assoc];repeat' (first|apply qh|(apply z7;exact rfl)|(apply qc;exact rfl;apply qi0;exact cRa)|apply qt)
   refine qm rfl (qao rfl) ⟨l',_,ext',List.append_assoc _ _ _,.inr (h2 rfl).1⟩
  ·have hi3:=h1 rfl
   obtain⟨hn3,bm⟩:=hI _ _ _ hi3;have hp:=va 10 rest;have sc:0<rest.length:=List.length_pos_iff.2 h;have hq3:(st++l').length=(st++l0).length:=by simp [hn,hn3]
   rw [← List.append_assoc];repeat' (first|apply qn|apply qf|apply qh|apply qj|(apply z7;exact rfl)|(apply qc;exact rfl;apply qiz;exact cRa)|(apply zo;(iterate 3 exact rfl))|(apply zl;exact rfl;exact rfl;exact q6 (by omega) (by omega))|(apply xc;exact rfl;exact rfl;exact q6 (by omega) (by omega))|(apply zj;(iterate 3 exact rfl))|apply qw|(apply qbn;exact rfl;exact rfl;exact bm;exact rfl;exact rfl)|(apply qbt;exact rfl;exact hq3;(iterate 10 exact rfl))|(apply qcp;exact rfl;exact hq3;(iterate 4 exact rfl)))
   exact⟨(k+1,past 10 rest),⟨l',_,_,_,_,hi3,by omega,rfl,zz ⟨rfl,rfl,rfl,rfl,trivial⟩⟩,by simp only;omega⟩
 ·have hr:rest=[]:=Classical.not_not.1 h
  subst hr;exact qm rfl (qao rfl) ⟨l,_,ext,List.append_assoc _ _ _,.inl ⟨k,hi⟩⟩
theorem qwd {N:Nat} {Q:Exit→AS→Prop} {s:AS} {f:Operand} {p:Tmp} {asg body:Code} {st loc:List AObj} {kb ver:Nat} (text:List UInt8) (b7:s.st=st++loc) (hx:ql N s f = .fn (.func 121) [] [.bx (st.length+kb) ver 0]) (ht:text.length<4294967281)
  (I:Nat→List UInt8→List AObj→Prop) (D:Code→List AObj→Prop) (h0:I 0 text loc)
  (hI:∀ k rest l,I k rest l→l.length=loc.length∧l[kb]? = some (.cells ver 9 [Sv text])) (hD:∀ c l,D c l→l.length=loc.length)
  (hb:∀ F own rd k rest l ext m,qmi F N s.t #[p] asg body→I k rest l→rest≠[]→rest.length≤text.length→((st++(l++[.dfr,F .ready none,own]))++ext).length=m→((st++(l++[.dfr,F .busy none,own]))++ext).length=m →
   AWp E (some rd) N asg (only fun s1=>∃ new,s1.st=((st++(l++[.dfr,F .ready none,own]))++ext)++new∧s1.df=[]∧AWp E (some rd) N body (zcc F st own (I (k+1) (past 10 rest)) D) ⟨s1.t,((st++(l++[.dfr,F .busy none,own]))++ext)++new,[]⟩) ⟨put s.t p (qel k text rest),((st++(l++[.dfr,F .ready none,own]))++ext)++[],[]⟩)
  (hn:∀ k l ext,I k [] l→Q .normal ⟨s.t,((st++(l++[.dfr,.dead]))++ext)++[],(st.length+loc.length)::s.df⟩)
  (hd:∀ c l ext,D c l→AWp E none N c Q ⟨s.t,((st++(l++[.dfr,.dead]))++ext)++[],(st.length+loc.length)::s.df⟩):AWp E none N (.rangeFunc f #[p] asg body) Q s:=by
 refine qmq b7 hx Tryz.call121 fun F hF=>?_;refine qo.mono (zcl text (st.length+(loc.length+1)) (st.length+kb) ver (loc.length+2) (fun k rest l=>∃ l1,l=l1++[.dfr,F .ready none]∧I k rest l1) (fun l=>∃ l1 c,l=l1++[.dfr,F .done (some c)]∧D c l1) st (loc++[.dfr,F .ready none]) ht ⟨loc,rfl,h0⟩ ?_ ?_) ?_
 ·rintro k rest _ ⟨l,rfl,hi⟩
  obtain⟨h1,h2⟩:=hI k rest l hi;exact⟨by simp [h1],jy (by rw [List.getElem?_append_left (lt_of_getElem? h2)];exact h2)⟩
 ·rintro k rest _ own ext ⟨l,rfl,hi⟩ a6 b0
  obtain⟨h1,h2⟩:=hI k rest l hi;have hy:=zdm (E:=E) (st:=st) (l:=l) (ext:=ext) (own:=own) (n:=loc.length) (xs:=[qel k text rest]) (I:=I (k+1) (past 10 rest)) (D:=D) hF h1 rfl (fun l hl=>(hI _ _ l hl).1) hD (fun rd=>hb F own rd k rest l ext _ hF hi a6 b0 rfl (by simp));have e:(st++(l++[.dfr,F .ready none,own]))++ext=st++((l++[.dfr,F .ready none])++own::ext):=by simp
  rw [e] at hy;refine hy.mono ?_;rintro b st2 ⟨l',ext',g1,g2⟩
  cases b with
  |true=>
   obtain⟨rfl,g⟩:=g1 rfl
   exact⟨l'++[.dfr,F .ready none],ext',by simp,fun _=>⟨l',rfl,g⟩,nofun⟩
  |false=>
   obtain⟨c,rfl,g⟩:=g2 rfl;exact⟨l'++[.dfr,F .done (some c)],ext',by simp,nofun,fun _=>⟨⟨l',c,rfl,g⟩,by simp [hD c l' g]⟩⟩
 ·rintro r _ ⟨_,own,ext,rfl,⟨k,l,rfl,hi⟩ | ⟨l,c,rfl,hdl⟩⟩
  ·have h1:=(hI _ _ _ hi).1
   have e:st++((l++[.dfr,F .ready none])++own::ext)=(st++(l++[.dfr,F .ready none,own]))++ext:=by simp
   rw [e];refine⟨.ready,none,nofun,qd4 h1,?_⟩;rw [qga h1];have:=hn k l (own::ext) hi
   simpa using this
  ·have h1:=hD _ _ hdl
   have e:st++((l++[.dfr,F .done (some c)])++own::ext)=(st++(l++[.dfr,F .done (some c),own]))++ext:=by simp
   rw [e];refine⟨.done,some c,nofun,qd4 h1,?_⟩;rw [qga h1];have:=hd c l (own::ext) hdl
   simpa using this
abbrev Ss (xs:List qa):AV:=.sl 1 (xs.map fun x=>Sv x) none
theorem qki (l m:List UInt8) (st:List AObj):qo E 74 [Sv l,Sv m] st fun r st'=>r=Sv (Lib.trimPrefix l m)∧st'=st:=
 qad (vals:= #[.string ⟨l.toArray⟩,.string ⟨m.toArray⟩]) rfl fun _ _ w _ _=>(Tryz.strings_TrimPrefix ⟨l.toArray⟩ ⟨m.toArray⟩ w).mono fun _ _ ⟨h1,h2⟩=>⟨h1,qe2 h2⟩
theorem q65 (l:List UInt8) (c:UInt8) (st:List AObj):qo E 74 [Sv l,Sv [c]] st fun r st'=>r=Sv (wv c l)∧st'=st:=by
 rw [← qxc];exact qki _ _ _
theorem q9c {B0:Nat} {w0:World} {G:Gh} {st:List AObj} {w:World} (hA:zk B0 w0 G st w) {xs:List qa} {tip:Option Nat} {v:Value} (h:Rel G (.sl 1 (xs.map fun x=>Sv x) tip) v) :
  (xs=[]∧∃ a c,v = .slice a 0 c)∨∃ b off cap,v = .slice (some ⟨b,off,none⟩) xs.length cap∧b<w.heap.size∧xs.length≤cap∧∀ (j:Nat) (x:qa),xs[j]? = some x→w.cell? ⟨b,off+j,none⟩=some (.string ⟨x.toArray⟩):=by
 generalize hq:xs.map (fun x=>Sv x)=q at h
 cases h with
 |sl0 sz tip base cap ht=>exact .inl ⟨by simpa using hq,base,cap,rfl⟩
 |sl _ _ _ b off cap pub hp hw a7 hr ht g7=>
  subst hq;obtain⟨c,T,fz,hc,mc⟩:=hA.pub b pub hp;refine .inr ⟨b,off,cap,by simp,hA.pub_lt hp,by simpa using g7,fun j x hx=>?_⟩
  have d8:flat (xs.map fun x=>Sv x)=xs.map fun x=>Sv x:=by
   clear hx hr a7 hw ht g7
   induction xs with
   |nil=>rfl
   |cons a xs ih=>rw [List.map_cons,qb1,ih];rfl
  have hj:=lt_of_getElem? hx;rw [d8] at a7;simp only [List.length_map] at a7;have hy:pub[off+j]? = some (pub[off+j]'(by omega)):=List.getElem?_eq_getElem (by omega);have hrj:=hr j (Sv x) _ (by rw [d8,List.getElem?_map,hx];rfl) hy;generalize hz:pub[off+j]'(by omega)=z at hrj hy;generalize hSx:Sv x=sx at hrj
  cases hrj <;> simp_all
  subst_vars
  simp [World.cell?,hc,mc _ _ hy]
theorem za3 (xs:List qa) (tip:Option Nat) (sep:qa) (st:List AObj) (hN:xs.length≤140737488355328) (hl:(Lib.join xs sep).length≤140737488355328):qo E 127 [.sl 1 (xs.map fun x=>Sv x) tip,Sv sep] st fun r st'=>r=Sv (Lib.join xs sep)∧st'=st:=by
 refine⟨fun B0 w0 G vs w hL hA hR=>?_⟩;have hs:vs.size=2:=by have:=hR.1;simpa using this.symm
 have e0:vs[0]? = some vs[0]:=by simp [hs]
 have e1:vs[1]? = some vs[1]:=by simp [hs]
 have h0:=hR.2 0 _ _ rfl e0;have h1:=hR.2 1 _ _ rfl e1;have hv1:vs[1] = .string ⟨sep.toArray⟩:=by generalize vs[1]=y at h1;cases h1;rfl
 have hvs:vs = #[vs[0],.string ⟨sep.toArray⟩]:=by
  apply Array.ext (by simp [hs]);intro i g1 g2
  match i with
  | 0=>rfl
  | 1=>exact hv1
  |i+2=>simp [hs] at g1;omega
 rw [hvs];rcases q9c hA h0 with⟨hx,a,c,hv⟩ | ⟨b,off,cap,hv,hb,g7,p9⟩
 ·rw [hv]
  subst hx;refine (Tryz.strings_Join_none a c ⟨sep.toArray⟩ w).mono ?_;rintro e w' ⟨rfl,rfl⟩;exact⟨_,G,Sv [],st,rfl,.refl G,hA,.v _,rfl,rfl⟩
 ·rw [hv]
  have hm:(xs.map fun l:qa=>(⟨l.toArray⟩:ByteArray)).map (·.data.toList)=xs:=by simp [List.map_map,Function.comp_def]
  have hc:=Tryz.strings_Join b off cap (xs.map fun l=>⟨l.toArray⟩) ⟨sep.toArray⟩ w (fun j x hx=>by
   rw [List.getElem?_map] at hx
   cases hq:xs[j]? with
   |none=>rw [hq] at hx;simp at hx
   |some y=>rw [hq] at hx;simp at hx;subst hx;exact p9 j y hq) hb (by simpa using hN) (by simpa using g7) (by rw [hm];simpa using hl)
  rw [hm] at hc;simp only [List.length_map] at hc;refine hc.mono ?_;rintro e w' ⟨rfl,hbw⟩;exact⟨_,G,Sv _,st,rfl,.refl G,hA.fresh hbw,.v _,rfl,rfl⟩
def Weak (x r:AV):Prop:=∀ (G:Gh) (v:Value),Rel G x v→Rel G r v
theorem qcb (x:AV):Weak x x:=fun _ _ h=>h
theorem qnx (sz:Nat) (xs:List AV) (tip:Option Nat):Weak (.sl sz xs tip) (.sl sz xs none):=fun _ _ h=>qle h
theorem qgy (sz:Nat):Weak zp (.sl sz [] none):=fun _ _ h=>qb9 h
theorem qfs {x y x' y':AV} (h1:Weak x x') (h2:Weak y y'):Weak (.tu [x,y]) (.tu [x',y']):=fun G v h=>by
 cases h with
 |tu _ vs hl hr=>
  refine .tu _ vs hl fun i a b ha hb=>?_
  match i with
  | 0=>simp at ha;subst ha;exact h1 G b (hr 0 x b rfl hb)
  | 1=>simp at ha;subst ha;exact h2 G b (hr 1 y b rfl hb)
  |i+2=>simp at ha
theorem zi3 {xs ys:List AV} (hl:xs.length=ys.length) (h:∀ (i:Nat) (x y:AV),xs[i]? = some x→ys[i]? = some y→Weak x y):Weak (.ag xs) (.ag ys):=fun G v hr=>by
 cases hr with
 |ag _ vs m0 hr=>
  refine .ag _ vs (by omega) fun i a b ha hb=>?_;have hi:=lt_of_getElem? ha;exact h i _ a (List.getElem?_eq_getElem (by omega)) ha G b (hr i _ b (List.getElem?_eq_getElem (by omega)) hb)
theorem q7l {fn:Func} {s:AS} {t u:Tmp} {x y x' y':AV} (hr:fn.results = #[.tmp t,.tmp u]) (hx:ql fn.ntmps s (.tmp t)=x) (hy:ql fn.ntmps s (.tmp u)=y) (h1:Weak x x') (h2:Weak y y'):ARes E fn s (.tu [x',y']):=
 xu (ki hr) (by rw [hx,hy];exact qfs h1 h2)
def errN (n:Int):AV:=if n=0 then .v .nilIface else .ifc 62 (Iv n)
theorem qkz (n:Int):Pure (errN n):=by
 unfold errN;split
 ·exact qq _
 ·exact qci (qq _)
theorem ql5 {n:Int} (h:n≠0):errN n = .ifc 62 (Iv n):=if_neg h
theorem qrd (f:FldV) (st:List AObj) (hl:f.1.length<4294967281):qo E 273 [fldA f] st fun r st'=>r=errN (vd f)∧st'=st:=by
 refine qx (qkz _) (qp Tryz.func273 rfl (Nat.le_of_ble_eq_true rfl) ?_);repeat' (first|apply qn|apply qy|apply qf|apply qh|apply qg|(apply qs;(iterate 3 exact rfl))|(apply z7;exact rfl)|(apply qc;exact rfl;apply cd_n <;> intro h)|(apply qc;exact rfl;apply cd_d <;> intro h)|(apply zo;(iterate 3 exact rfl))|(apply vh;exact rfl;exact rfl)|(apply qbd;(iterate 4 exact rfl))|(apply zj;(iterate 3 exact rfl))|(apply jl;(iterate 5 exact rfl))|apply qw|apply qt|(apply qk;exact Tryz.call99;exact zgh _ _ hl))
 all_goals refine qm rfl (q5 rfl) ⟨(?_:_=_),_,rfl⟩
 ·have e:vd f=5:=if_pos (by simp_all)
  rw [e];rfl
 ·have e:vd f=6:=(if_neg (by simp_all)).trans (if_pos (by omega))
  rw [e];rfl
 ·have e:vd f=0:=(if_neg (by simp_all)).trans (if_neg (by omega))
  rw [e];rfl
theorem qjz (f:FldV) (st:List AObj) (hl:f.1.length<4294967281) (h:vd f=0):qo E 273 [fldA f] st fun r st'=>r = .v .nilIface∧st'=st:=by
 have:=qrd f st hl;rw [h] at this;exact this
theorem qj0 (f:FldV) (st:List AObj) (hl:f.1.length<4294967281) (h:vd f≠0):qo E 273 [fldA f] st fun r st'=>r = .ifc 62 (Iv (vd f))∧st'=st:=by
 have:=qrd f st hl;rw [ql5 h] at this;exact this
theorem zcs (s:List UInt8) (st:List AObj) (hl:s.length<4294967281):qo E 294 [Sv s] st fun r st'=>r=Sv (v8 s)∧st'=st:=by
 refine qx (qq _) (qp Tryz.func294 rfl (Nat.le_of_ble_eq_true rfl) ?_);have hb:Lib.trimS s [32,9]=[]↔qce s:=by rw [qp5];simp [wp,qce]
 repeat' (first|apply qn|apply qf|apply qh|apply qj|apply qg|(apply jk;(iterate 3 exact rfl))|(apply qu;(iterate 4 exact rfl))|(apply vt;exact cAo)|(apply v7;exact cAo)|(apply jj <;> intro h)|(apply qi;exact rfl;apply wt;exact cAo)|(apply qi;exact rfl;apply wj;exact cAo)|(apply qc;exact rfl;apply cd_t;exact cRa)|(apply qc;exact rfl;apply cd_d <;> intro h)|(apply jp;exact rfl;exact rfl;exact cOs)|apply qw|apply qt|(apply qk;exact Tryz.call209;exact qxb _ _ _ (by omega) rfl rfl)|(apply qk;exact Tryz.call164;exact qgq _ _ _))
 all_goals refine qm rfl (q5 rfl) ⟨congrArg (fun l:qa=>Sv l) (?_:_=v8 s),_,rfl⟩
 all_goals unfold v8
 all_goals simp_all
theorem qma (xs:List qa):Pure (Ss xs):=zbx xs
theorem q9a (l p:qa) (r:List qa) (st:List AObj) (hl:l.length<4294967281) (h:q7 l=p::r):qo E 285 [Sv l,Sv [10]] st fun x st'=>x = .sl 1 (Sv p::r.map fun x=>Sv x) none∧st'=st:=by
 have:=zck l st hl;rw [h] at this;exact this
def qj2 (f:FldV):AV:=.tu [Ss (if vd f=0 then zm f else []),errN (vd f)]
theorem q4v (f:FldV):Pure (qj2 f):=qdo fun x hx=>by
 simp only [List.mem_cons,List.not_mem_nil,or_false] at hx;rcases hx with rfl|rfl
 ·exact qma _
 ·exact qkz _
set_option maxHeartbeats 2000000 in
theorem qre (f:FldV) (st:List AObj) (hl:f.1.length<4294967281) (hv:f.2.length<1000000):qo E 237 [fldA f] st fun r st'=>r=qj2 f∧st'=st:=by
 refine qx (q4v _) (qp Tryz.func237 rfl (Nat.le_of_ble_eq_true rfl) ?_);by_cases hc:vd f=0
 ·obtain⟨p,r,hp⟩:∃ p r,q7 f.2=p::r:=⟨_,_,qni f.2⟩
  have bd:p.length≤f.2.length:=qe9 f.2 p (by rw [hp];simp);have t7:∀ x∈r,x.length≤f.2.length:=fun x hx=>qe9 f.2 x (by rw [hp];simp [hx]);have hrn:r.length≤f.2.length:=by have:=qcl _ f.2 (Nat.le_refl _);rw [hp] at this;simpa using this
  repeat' (first|(apply qbe;(iterate 6 exact rfl))|(apply qxm;(iterate 5 exact rfl);kernel_rfl)|apply qn|apply qy|apply qf|apply qh|apply qj|apply qg|(apply jk;(iterate 3 exact rfl))|(apply qc;exact rfl;apply cd_f;exact cRa)|(apply qc;exact rfl;apply cd_d <;> intro h)|(apply jm;(iterate 4 exact rfl))|(apply jp;exact rfl;exact rfl;exact cOs)|(apply vw;exact rfl;exact rfl)|(apply qbd;(iterate 4 exact rfl))|(apply zj;(iterate 3 exact rfl))|(apply jn;(iterate 3 exact rfl))|(apply jl;(iterate 5 exact rfl))|(apply z4;(iterate 11 exact rfl))|(apply qg2;(iterate 4 exact rfl);(first|assumption|omega|exact Nat.succ_le_succ (Nat.zero_le _)|(simp;omega));exact rfl)|apply qh5|(apply qh4;exact rfl;exact rfl;exact cOs)|(apply qiu;(iterate 3 exact rfl))|(apply qlk;(iterate 5 exact rfl))|apply qfx|apply qw|(apply qk;exact Tryz.call273;exact qjz _ _ hl hc)|(apply qk;exact Tryz.call285;exact q9a _ _ _ _ (by omega) hp)|(apply kp (n:=0);(iterate 6 exact rfl))|(apply qol (n:=0);(iterate 6 exact rfl))|(apply qkp (n:=0);(iterate 5 exact rfl);omega))
  all_goals refine q9y 6 (o:=st.length+1) (sz:=1) (len:=1) (cap:=1) (xs:=[Sv (kf f.1 p)]) (T':=9) rfl (jy rfl) rfl rfl (by omega) (Nat.le_refl _) (by decide) (by simp [AV.cells]) ?_ ?_
  ·exact congrArg (fun l:qa=>[Sv l]) (by unfold kf;rw [if_neg h]:kf f.1 p=f.1++[58]++([32]++p))
  rotate_left
  ·exact congrArg (fun l:qa=>[Sv l]) (by unfold kf;rw [if_pos (Classical.not_not.1 h),List.append_nil]:kf f.1 p=f.1++[58])
  all_goals
   have rj:qj2 f = .tu [Ss (kf f.1 p::r.map fun s=>[32]++v8 s),.v .nilIface]:=by
    unfold qj2 zm;rw [if_pos hc,hc,hp];rfl
   rw [rj];have b7:∀ s,(v8 s).length≤s.length+1:=qy6;refine qbv r (fun pre s=>StE [(6,.sl 1 (Sv (kf f.1 p)::pre.map (fun s=>Sv ([32]++v8 s))) (some (st.length+1))),(35,.sl 1 (r.map fun x=>Sv x) none),(36,Iv r.length),(37,Iv pre.length)] st [.cells 0 111 [Sv f.1,Sv f.2],.tip (pre.length+1) 1 9] s) (qez ⟨rfl,rfl,congrArg (fun n:Nat=>Iv (n:Int)) (List.length_map ..),rfl,trivial⟩ (yn st _ 1 _)) ?_ ?_
   ·rintro _ ⟨t,ext,rfl⟩
    repeat' (first|apply qn|apply qf|apply qh|apply qj|apply qg|(apply qs;(iterate 3 exact rfl))|(apply qc;exact rfl;apply vr;exact cAo)|apply jd|apply qt)
    refine qm rfl (q7l rfl rfl rfl (qnx _ _ _) (qcb _)) ⟨?_,qa9 _ _ _ _⟩;simp only [Ss,List.map_cons,List.map_map];rfl
   ·rintro pre a rest _ hr ⟨t,ext,rfl⟩
    have a7:r.length=pre.length+(rest.length+1):=by rw [hr];simp
    have b5:(r.map fun x=>Sv x)[pre.length]? = some (Sv a):=by rw [hr];simp
    have ha:a.length≤f.2.length:=t7 a (by rw [hr];simp);have hsa:=b7 a;repeat' (first|apply qn|apply qy|apply qf|apply qh|apply qj|apply qg|(apply qs;(iterate 3 exact rfl))|(apply qc;exact rfl;apply vf;exact cAo)|(apply jp;exact rfl;exact rfl;exact cOs)|(apply zl;exact rfl;exact rfl;exact q6 (by omega) (by omega))|(apply jn;(iterate 3 exact rfl))|(apply v6;(iterate 9 exact rfl))|apply qw|(apply qk;exact Tryz.call294;exact zcs _ _ (by omega))|(apply kp (n:=pre.length);(iterate 5 exact rfl);exact b5)|(apply qgf (n:=pre.length+1) (m:=1) (sz:=1) (bytes:=16);(iterate 4 exact rfl);simp;exact rfl;exact rfl;exact⟨⟨_,_,rfl,rfl,rfl,rfl,rfl⟩⟩;exact rfl;exact rfl;(unfold maxLen;omega);omega;exact rfl))
    refine qbh ⟨?_,rfl,rfl,?_,trivial⟩ ?_
    ·exact zfx _ (fun s=>Sv ([32]++v8 s)) pre a _ rfl
    ·exact qg8 pre a
    ·rw [qdc pre a];rfl
 ·skip
  repeat' (first|apply qn|apply qf|apply qh|apply qj|apply qg|(apply qc;exact rfl;apply cd_t;exact cRa)|(apply w6;exact rfl;exact rfl)|(apply qbd;(iterate 4 exact rfl))|(apply jl;(iterate 5 exact rfl))|apply qt|(apply qk;exact Tryz.call273;exact qj0 _ _ hl hc))
  refine qm rfl (xu (r':=.tu [Ss [],.ifc 62 (Iv (vd f))]) (ki rfl) (qfs (qgy _) (qcb _))) ⟨?_,_,rfl⟩;unfold qj2;rw [if_neg hc,ql5 hc]
theorem qhk {rd:Option Nat} {N:Nat} {ops:Array Oper} {K:AS→Prop} {s:AS} {rest:List Oper} {d:Option Tmp} {T:TypeId} {p:String} {af:Array Edge} {st loc:List AObj} (b7:s.st=st++loc)
  (h:AOps E rd N ops rest K (AS.put ⟨s.t,st++(loc++[bldO 0 (.v (.pointer none)) [] (st.length+(loc.length+1)),.tip 0 1 5]),s.df⟩ d (.bx (st.length+loc.length) 0 0))):AOps E rd N ops (⟨d,.alloc 246,T,p,af,none⟩::rest) K s:=by
 refine jw b7 rfl ?_;have e:∀ (t:Nat→AV) (st':List AObj) (df:List Nat) (x:AV),(AS.put ⟨t,st',df⟩ d x).st=st':=fun t st' df x=>by cases d <;> rfl
 have e2:∀ (t:Nat→AV) (st' st2:List AObj) (df:List Nat) (x:AV),(⟨(AS.put ⟨t,st',df⟩ d x).t,st2,(AS.put ⟨t,st',df⟩ d x).df⟩:AS)=AS.put ⟨t,st2,df⟩ d x:=fun t st' st2 df x=>by cases d <;> rfl
 refine q0s (o:=st.length+loc.length) (j:=1) (sz:=1) (T':=5) (T1:=246) (ver:=0) (cs:=[.v (.pointer none),zp]) ?_ rfl ?_
 ·rw [e,← List.append_assoc,List.getElem?_append_right (by simp)]
  simp;rfl
 ·rw [e,e2]
  have hx:(st++(loc++[AObj.cells 0 246 [.v (.pointer none),zp]])).set (st.length+loc.length) (.cells 0 246 ([AV.v (.pointer none),zp].set 1 (.sl 1 [] (some (st++(loc++[AObj.cells 0 246 [.v (.pointer none),zp]])).length))))++[AObj.tip 0 1 5]
    = st++(loc++[bldO 0 (.v (.pointer none)) [] (st.length+(loc.length+1)),.tip 0 1 5]):=by
   rw [yn,List.append_assoc,List.set_append_right _ _ (Nat.le_refl _)];simp
  have h':=h;rw [← hx] at h';exact h'
theorem qiw (st loc ext new loc':List AObj) (k kt ver:Nat) (q:AV) (l m:List UInt8) (hk:loc[k]? = some (bldO ver q l (st.length+kt))) (gp:loc[kt]? = some (.tip l.length 1 5)) (hq:q = .v (.pointer none)∨q = .bx (st.length+k) ver 0)
  (a7:l.length+m.length≤140737488355328) (hl:loc'=(loc.set k (bldO ver (.bx (st.length+k) ver 0) (l++m) (st.length+kt))).set kt (.tip (l++m).length 1 5)) :
  qo E 168 [.bx (st.length+k) ver 0,Sv m] (((st++loc)++ext)++new) fun r st'=>r = .tu [Iv m.length,.v .nilIface]∧st'=((st++loc')++ext)++new:=by
 refine (q0z (st.length+k) ver (st.length+kt) q l m _ (qba hk) (qba gp) hq a7).mono fun r st' ⟨h1,h2⟩=>⟨h1,?_⟩;have p1:=lt_of_getElem? hk;have s3:=lt_of_getElem? gp;rw [h2,qex _ p1,qex _ (by simpa using s3),hl,List.length_append]
theorem qhn (st loc ext new loc':List AObj) (k kt ver:Nat) (q:AV) (l:List UInt8) (hk:loc[k]? = some (bldO ver q l (st.length+kt))) (gp:loc[kt]? = some (.tip l.length 1 5)) (hl:loc'=loc.set kt .dead) :
  qo E 171 [.bx (st.length+k) ver 0] (((st++loc)++ext)++new) fun r st'=>r=Sv l∧st'=((st++loc')++ext)++new:=by
 refine (qxo (st.length+k) ver (st.length+kt) q l _ (qba hk) (qba gp)).mono fun r st' ⟨h1,h2⟩=>⟨h1,?_⟩;rw [h2,qex _ (lt_of_getElem? gp),hl]
theorem qs1:∀ (r:List qa),(zi (r.map fun s=>[32]++v8 s)).length≤3 * (r.flatMap fun s=>[10]++s).length
 | []=>by simp [zi]
 |a::r=>by
  have ih:=qs1 r;have:=qy6 a;simp only [zi,List.map_cons,List.flatMap_cons,List.length_append,List.length_cons,List.length_nil] at ih ⊢;omega
theorem y7 (a b:List qa):zi (a++b)=zi a++zi b:=by simp [zi]
theorem qih (s:qa):zi [s]=s++[10]:=by simp [zi]
theorem qlv:∀ (l:List qa),l.length≤(zi l).length
 | []=>by simp
 |a::r=>by
  have ih:=qlv r;simp only [zi,List.flatMap_cons,List.length_append,List.length_cons,List.length_nil] at ih ⊢;omega
theorem qyd (a b:List Fld):zu (a++b)=zu a++zu b:=by simp [zu]
theorem qye (f:Fld):zu [f]=zi (zm f):=by simp [zu]
theorem quq {f:Fld} (h:ka f):(zi (zm f)).length≤5000:=by
 obtain⟨hk,hv⟩:=h;have h1:=qs1 (q7 f.2).tail;have h2:=congrArg List.length (qi9 _ f.2 (Nat.le_refl _))
 have h3:(kf f.1 ((q7 f.2).headD [])).length≤32+2+((q7 f.2).headD []).length:=by
  have:=hk.2.1;unfold kf;split <;> simp <;> omega
 have e:zm f=[kf f.1 ((q7 f.2).headD [])]++(q7 f.2).tail.map fun s=>[32]++v8 s:=rfl;rw [e,y7,qih];simp only [List.length_append,List.length_cons,List.length_nil] at h2 ⊢;omega
theorem qfz:∀ (xs:List Fld),(∀ f∈xs,ka f)→(zu xs).length≤5000 * xs.length
 | [],_=>by simp [zu]
 |f::r,h=>by
  have ih:=qfz r fun x hx=>h x (by simp [hx]);have h1:=quq (h f (by simp));have e:zu (f::r)=zi (zm f)++zu r:=by simp [zu]
  rw [e,List.length_append,List.length_cons];omega
def errF:List Fld→Int
 | []=>0
 |f::r=>if vd f≠0 then vd f else errF r
theorem qoz:∀ (xs:List Fld),errF xs=0↔∀ f∈xs,ka f
 | []=>by simp [errF]
 |f::r=>by
  have ih:=qoz r;unfold errF;by_cases h:vd f≠0
  ·rw [if_pos h]
   have hg:¬ ka f:=fun hg=>h ((qdj f).2 hg);simp [h,hg]
  ·have hg:=(qdj f).1 (Classical.not_not.1 h)
   rw [if_neg h,ih];simp [hg]
theorem q57:∀ {pre:List Fld} {f:Fld} {r:List Fld},(∀ x∈pre,ka x)→vd f≠0→errF (pre++f::r)=vd f
 | [],f,r,_,h=>by simp [errF,h]
 |x::pre,f,r,hp,h=>by
  have:=(qdj x).2 (hp x (by simp));simp only [List.cons_append,errF,this];rw [if_neg (by simp)];exact q57 (fun y hy=>hp y (by simp [hy])) h
theorem q1v (f:FldV) (st:List AObj) (hl:f.1.length<4294967281) (hv:f.2.length<1000000) (h:vd f=0):qo E 237 [fldA f] st fun r st'=>r = .tu [Ss (zm f),.v .nilIface]∧st'=st:=by
 have:=qre f st hl hv;unfold qj2 at this;rw [if_pos h,h] at this;exact this
theorem q1w (f:FldV) (st:List AObj) (hl:f.1.length<4294967281) (hv:f.2.length<1000000) (h:vd f≠0):qo E 237 [fldA f] st fun r st'=>r = .tu [Ss [],.ifc 62 (Iv (vd f))]∧st'=st:=by
 have:=qre f st hl hv;unfold qj2 at this;rw [if_neg h,ql5 h] at this;exact this
def quc (xs:List Fld):AV:=.tu [Sv (if errF xs=0 then zu xs else []),errN (errF xs)]
theorem q79 (xs:List Fld):Pure (quc xs):=qdo fun x hx=>by
 simp only [List.mem_cons,List.not_mem_nil,or_false] at hx;rcases hx with rfl|rfl
 ·exact qq _
 ·exact qkz _
structure qzx (xs:List FldV):Prop where
 len:xs.length<1000000
 val:∀ f∈xs,f.1.length<4294967281∧f.2.length<1000000
set_option maxHeartbeats 2000000 in
theorem zjn (xs:List FldV) (st:List AObj) (hx:qzx xs):qo E 167 [jr xs] st fun r st'=>r=quc xs∧st'=st:=by
 refine qx (q79 _) (qp Tryz.func167 rfl (Nat.le_of_ble_eq_true rfl) ?_);have hxl:=hx.len;repeat' (first|(apply qhk;exact rfl)|apply qn|apply qy|apply qf|apply qh|apply qj|apply qg|(apply jm;(iterate 4 exact rfl)))
 refine qbv xs (fun pre s=>(∀ f∈pre,ka f)∧∃ q,(q = .v (.pointer none)∨q = .bx (st.length+0) 0 0)∧StE [(4,.bx (st.length+0) 0 0),(11,jr xs),(12,Iv xs.length),(13,Iv pre.length)] st [bldO 0 q (zu pre) (st.length+1),.tip (zu pre).length 1 5] s) ⟨by simp,_,.inl rfl,qez ⟨rfl,rfl,congrArg (fun n:Nat=>Iv (n:Int)) (List.length_map ..),rfl,trivial⟩ rfl⟩ ?_ ?_
 ·rintro _ ⟨hg,q,hq,t,ext,rfl⟩
  repeat' (first|apply qn|apply qf|apply qh|apply qg|(apply qs;(iterate 3 exact rfl))|(apply qc;exact rfl;apply vr;exact cAo)|apply jd|apply qt|(refine qk Tryz.call171 (qhn st _ _ _ _ 0 1 0 _ _ rfl rfl rfl) ?_))
  refine qm rfl (ki rfl) ⟨?_,qa9 _ _ _ _⟩;unfold quc;have h0:=(qoz xs).2 hg;rw [if_pos h0,h0];rfl
 ·rintro pre f rest _ hr ⟨hg,q,hq,t,ext,rfl⟩
  have a7:xs.length=pre.length+(rest.length+1):=by rw [hr];simp
  have b5:(xs.map fldA)[pre.length]? = some (fldA f):=by rw [hr];simp
  obtain⟨pz,hf2⟩:=hx.val f (by rw [hr];simp);by_cases hc:vd f=0
  ·have rb:=(qdj f).1 hc
   have i5:=qfz pre hg;have i6:=quq rb;repeat' (first|apply qn|apply qy|apply qf|apply qh|apply qj|apply qg|(apply zf;exact rfl;exact rfl)|(apply qs;(iterate 3 exact rfl))|(apply qc;exact rfl;apply vf;exact cAo)|(apply qc;exact rfl;apply cd_f;exact cRa)|(apply jm;(iterate 4 exact rfl))|(apply vw;exact rfl;exact rfl)|(apply jw;exact rfl;exact rfl)|(apply jn;(iterate 3 exact rfl))|(apply jl;(iterate 5 exact rfl))|(apply z4;(iterate 11 exact rfl))|apply qw|(apply qk;exact Tryz.call237;exact q1v _ _ pz hf2 hc)|(apply kp (n:=pre.length);(iterate 5 exact rfl);exact b5))
   refine qbv (zm f) (fun lp s=>∃ q,(q = .v (.pointer none)∨q = .bx (st.length+0) 0 0)∧StE [(4,.bx (st.length+0) 0 0),(11,jr xs),(12,Iv xs.length),(13,Iv pre.length),(25,Ss (zm f)),(26,Iv (zm f).length),(27,Iv lp.length)] st [bldO 0 q (zu pre++zi lp) (st.length+1),.tip (zu pre++zi lp).length 1 5] s) ⟨_,hq,qbh ⟨rfl,rfl,rfl,rfl,rfl,congrArg (fun n:Nat=>Iv (n:Int)) (List.length_map ..),rfl,trivial⟩ (by simp [zi])⟩ ?_ ?_
   ·rintro _ ⟨q,hq,t,ext,rfl⟩
    repeat' (first|apply qn|apply qf|apply qh|apply qj|(apply qs;(iterate 3 exact rfl))|(apply qc;exact rfl;apply vr;exact cAo)|(apply zl;exact rfl;exact rfl;exact q6 (by omega) (by omega))|apply jd)
    refine⟨fun x hx=>?_,q,hq,qbh ⟨rfl,rfl,rfl,?_,trivial⟩ ?_⟩
    ·rcases List.mem_append.1 hx with hx|hx
     ·exact hg x hx
     ·simp at hx;subst hx;exact rb
    ·rw [qdc pre f];rfl
    ·rw [qyd,qye]
   ·rintro lp a lr _ hlr ⟨q,hq,t,ext,rfl⟩
    have hlen2:(zm f).length=lp.length+(lr.length+1):=by rw [hlr];simp
    have tn:((zm f).map fun x=>Sv x)[lp.length]? = some (Sv a):=by rw [hlr];simp
    have bm:(zi lp).length+(a.length+1)≤5000:=by
     rw [hlr,y7] at i6;have:a::lr=[a]++lr:=rfl;rw [this,y7,qih] at i6;simp only [List.length_append,List.length_cons,List.length_nil] at i6;omega
    have pt:=qlv lp;repeat' (first|apply qn|apply qy|apply qf|apply qh|apply qj|apply qg|(apply qs;(iterate 3 exact rfl))|(apply qc;exact rfl;apply vf;exact cAo)|(apply jp;exact rfl;exact rfl;exact cOs)|(apply jn;(iterate 3 exact rfl))|apply qw|(apply kp (n:=lp.length);(iterate 5 exact rfl);exact tn))
    refine qk Tryz.call168 (qiw st _ _ _ _ 0 1 0 _ _ _ rfl rfl ?_ ?_ rfl) ?_;(exact hq);(simp only [List.length_append,List.length_cons,List.length_nil];omega);repeat' (first|apply qf|apply qh|apply qj|(apply zl;exact rfl;exact rfl;exact q6 (by omega) (by omega)))
    refine⟨_,.inr rfl,qbh ⟨rfl,rfl,rfl,rfl,rfl,rfl,?_,trivial⟩ ?_⟩
    ·rw [qdc lp a];rfl
    ·have e:zu pre++zi (lp++[a])=(zu pre++zi lp)++(a++[10]):=by rw [y7,qih,List.append_assoc]
     rw [e];rfl
  ·skip
   repeat' (first|apply qn|apply qy|apply qf|apply qh|apply qj|apply qg|(apply zf;exact rfl;exact rfl)|(apply qs;(iterate 3 exact rfl))|(apply qc;exact rfl;apply vf;exact cAo)|(apply qc;exact rfl;apply cd_t;exact cRa)|(apply w6;exact rfl;exact rfl)|(apply jw;exact rfl;exact rfl)|(apply jn;(iterate 3 exact rfl))|(apply jl;(iterate 5 exact rfl))|(apply z4;(iterate 11 exact rfl))|apply qw|apply qt|(apply qk;exact Tryz.call237;exact q1w _ _ pz hf2 hc)|(apply kp (n:=pre.length);(iterate 5 exact rfl);exact b5))
   refine qm rfl (ki rfl) ⟨?_,qa9 _ _ _ _⟩;unfold quc;have h0:errF xs=vd f:=by rw [hr];exact q57 hg hc
   rw [h0,if_neg hc,ql5 hc];rfl
theorem qyt:∀ (n:Nat) (l:qa),l.length≤n→q7 (l++[10])=q7 l++[[]]
 |n,l,hn=>by
  by_cases h:10∈l
  ·have a6:l≠[]:=fun e=>by subst e;simp at h
   have b4:=xq (c:=10) a6
   cases n with
   |zero=>omega
   |succ n=>
    have ih:=qyt n (past 10 l) (by omega);have e:=wg h;have e2:l++[10]=upto 10 l++10::(past 10 l++[10]):=(congrArg (· ++ [10]) e).trans (by simp);rw [yp (by simp [h]),yp h,e2,vv _ (qam 10 l),xv _ (qam 10 l),ih];rfl
  ·rw [yp (by simp),yq h,vv [] h,xv [] h]
   rw [yq (by simp)];rfl
theorem qep:∀ (n:Nat) (l:qa) (c:UInt8),l.length≤n→c≠10→q7 (l++[c])=(q7 l).set ((q7 l).length - 1) ((q7 l).getD ((q7 l).length - 1) []++[c])
 |n,l,c,hn,hc=>by
  by_cases h:10∈l
  ·have a6:l≠[]:=fun e=>by subst e;simp at h
   have b4:=xq (c:=10) a6
   cases n with
   |zero=>omega
   |succ n=>
    have ih:=qep n (past 10 l) c (by omega) hc;have e:=wg h;have e2:l++[c]=upto 10 l++10::(past 10 l++[c]):=(congrArg (· ++ [c]) e).trans (by simp);have hp:=qgt (past 10 l);have bd:0<(q7 (past 10 l)).length:=List.length_pos_iff.2 hp;rw [yp (by simp [h]),yp h,e2,vv _ (qam 10 l),xv _ (qam 10 l),ih];have e3:(upto 10 l::q7 (past 10 l)).length - 1=(q7 (past 10 l)).length - 1+1:=by simp;omega
    rw [e3,List.set_cons_succ];simp
  ·have h2:10∉l++[c]:=by simp [h,Ne.symm hc]
   rw [yq h,yq h2];simp
theorem q44 (l:qa):(q7 l).length≤l.length+1:=qcl _ l (Nat.le_refl _)
theorem zcr (xs:List qa):flat (xs.map fun x=>Sv x)=xs.map fun x=>Sv x:=by
 induction xs with
 |nil=>rfl
 |cons a xs ih=>rw [List.map_cons,qb1,ih];rfl
set_option maxHeartbeats 2000000 in
theorem q84 (l:qa) (st:List AObj) (hl:l.length<1000000):qo E 298 [Sv l] st fun r st'=>r=Ss (q7 l)∧st'=st:=by
 refine qx (qma _) (qp Tryz.func298 rfl (Nat.le_of_ble_eq_true rfl) ?_)
 have h0:Vec 1 9 (st.length+0) ((q7 []).map fun x=>Sv x) (.os (st.length+0) 0 0 1 1) (.cells 0 9 [Sv []]):=by
  rw [yq (by simp)];exact .os 0 1 [] rfl (by simp [AV.cells]) (Nat.le_refl _) (by decide)
 repeat' (first|(apply qbe;(iterate 6 exact rfl))|apply qn|apply qy|apply qf|apply qh|apply qg)
 refine qbv l (fun pre s=>∃ v ob,Vec 1 9 (st.length+0) ((q7 pre).map fun x=>Sv x) v ob∧StE [(0,Sv l),(3,v),(4,Iv pre.length)] st [ob] s) ⟨_,_,h0,qez ⟨rfl,rfl,rfl,trivial⟩ rfl⟩ ?_ ?_
 ·rintro _ ⟨v,ob,hV,t,ext,rfl⟩
  repeat' (first|apply qn|apply qf|apply qh|apply qj|apply qg|(apply qs;(iterate 3 exact rfl))|(apply qc;exact rfl;apply vr;exact cAo)|(apply zo;(iterate 3 exact rfl))|apply jd|apply qt)
  exact zdk (q4l 2 rfl rfl hV rfl) (qm rfl (q5 rfl) ⟨rfl,qa9 _ _ _ _⟩)
 ·rintro pre c rest _ hr ⟨v,ob,hV,t,ext,rfl⟩
  have a7:l.length=pre.length+(rest.length+1):=by rw [hr];simp
  have b5:l.getD pre.length 0=c:=by rw [hr];simp
  have g9:(l.take (pre.length+1)).drop pre.length=[c]:=by rw [hr,show pre++c::rest=(pre++[c])++rest by simp,List.take_left' (by simp),List.drop_left' rfl]
  have hpc:=q44 pre;rcases q32 hV with⟨h0,_⟩ | ⟨ver,cap,pad,rfl,rfl,pm,hvw,hvle,hvm⟩
  ·exact absurd (List.map_eq_nil_iff.1 h0) (qgt pre)
  simp only [List.length_map] at hvle;have p7:0<(q7 pre).length:=List.length_pos_iff.2 (qgt pre);have e8:((q7 pre).map fun x=>Sv x).length=(q7 pre).length:=by simp
  have bd:((q7 pre).getD ((q7 pre).length - 1) []).length≤pre.length:=by
   have b4:(q7 pre).length - 1<(q7 pre).length:=by omega
   have e:(q7 pre).getD ((q7 pre).length - 1) []=(q7 pre)[(q7 pre).length - 1]:=by simp [List.getD,b4]
   rw [e];exact qe9 pre _ (List.getElem_mem _)
  have hdl:((l.take (pre.length+1)).drop pre.length).length=1:=by rw [g9];rfl
  have hld:(flat ((q7 pre).map fun x=>Sv x)++pad)[0+((q7 pre).length - 1) * 1]? = some (Sv ((q7 pre).getD ((q7 pre).length - 1) [])):=by
   rw [zcr,Nat.zero_add,Nat.mul_one,List.getElem?_append_left (by simp;omega),List.getElem?_map]
   have:(q7 pre)[(q7 pre).length - 1]? = some ((q7 pre).getD ((q7 pre).length - 1) []):=by
    have:(q7 pre).length - 1<(q7 pre).length:=by omega
    simp [List.getD,this]
   rw [this];rfl
  repeat' (first|(apply qxm;(iterate 5 exact rfl);kernel_rfl)|apply qn|apply qy|apply qf|apply qh|apply qj|(apply qs;(iterate 3 exact rfl))|(apply qc;exact rfl;apply vf;exact cAo)|(apply qc;exact rfl;apply cd_d <;> intro h)|(apply zo;(iterate 3 exact rfl))|(apply wa;(iterate 3 exact rfl);exact cAs)|(apply v6;(iterate 9 exact rfl))|apply qh5|(apply qv6;(iterate 4 exact rfl))|(apply q0v;exact rfl;exact rfl;exact q6 (by omega) (by omega))|(apply qv8;(iterate 4 exact rfl);exact cAs;exact cAs)|(apply qh4;exact rfl;exact rfl;exact cOs)|apply qfx|(apply qtl;exact rfl;exact rfl;exact q6 (by omega) (by omega))|apply qw|(apply qkp (n:=(q7 pre).length - 1);(iterate 4 exact rfl);(simp;omega);(simp;omega))|(apply qll;(iterate 4 exact rfl);exact hld))
  ·refine qze (xs:=(q7 pre).map fun x=>Sv x) (ys:=[Sv []]) (sz:=1) (bytes:=16) rfl rfl rfl hV rfl rfl rfl ⟨⟨_,_,rfl,rfl,rfl,rfl,rfl⟩⟩ rfl ?_ ?_ ?_
   ·simp [maxLen];omega
   ·simp;omega
   intro a' ob' hV';repeat' (first|apply qf|apply qh|apply qj|apply qg|(apply zl;exact rfl;exact rfl;exact q6 (by omega) (by omega)))
   have hc:c=10:=by rw [b5] at h;exact (qbm c).1 h
   refine⟨a',ob',?_,qbh ⟨rfl,rfl,?_,trivial⟩ rfl⟩
   ·rw [hc,qyt _ pre (Nat.le_refl _),List.map_append]
    exact hV'
   ·rw [qdc pre c];rfl
  ·refine qtj (k:=0) (sz:=1) rfl rfl rfl rfl rfl rfl rfl rfl rfl (by show 0+((q7 pre).length - 1) * 1+1≤_;rw [pm];omega) ?_
   repeat' (first|apply qf|apply qh|apply qj|apply qg|(apply zl;exact rfl;exact rfl;exact q6 (by omega) (by omega)))
   have hc:c≠10:=fun e=>by rw [b5] at h;exact h ((qbm c).2 e)
   refine⟨_,_,?_,qbh ⟨rfl,rfl,?_,trivial⟩ rfl⟩
   ·rw [qep _ pre c (Nat.le_refl _) hc,← g9]
    have:=zi2 (o:=st.length+0) (T:=9) (ver:=ver) (sz:=1) pm hvw (by simpa using hvle) hvm (i:=(q7 pre).length - 1) (x:=Sv ((q7 pre).getD ((q7 pre).length - 1) []++(l.take (pre.length+1)).drop pre.length)) rfl (by simp;omega);rw [← List.map_set] at this;exact this
   ·rw [qdc pre c];rfl
theorem q29 (f:FldV) (st:List AObj) (hl:f.1.length<4294967281):qo E 293 [fldA f] st fun r st'=>r=Iv (vd f)∧st'=st:=by
 refine qx (qq _) (qp Tryz.func293 rfl (Nat.le_of_ble_eq_true rfl) ?_);repeat' (first|apply qn|apply qf|apply qh|apply qg|(apply qs;(iterate 3 exact rfl))|(apply z7;exact rfl)|(apply qc;exact rfl;apply cd_n <;> intro h)|(apply qc;exact rfl;apply cd_d <;> intro h)|(apply zo;(iterate 3 exact rfl))|(apply qbd;(iterate 4 exact rfl))|(apply zj;(iterate 3 exact rfl))|(apply jl;(iterate 5 exact rfl))|apply qw|apply qt|(apply qk;exact Tryz.call143;exact q3g _ _ hl))
 all_goals refine qm rfl (q5 rfl) ⟨congrArg Iv (?_:_=vd f),_,rfl⟩
 ·exact (if_pos (by simp_all):vd f=5).symm
 ·exact ((if_neg (by simp_all)).trans (if_pos (by omega)):vd f=6).symm
 ·exact ((if_neg (by simp_all)).trans (if_neg (by omega)):vd f=0).symm
theorem zem {s:qa} (h:10∉s):qv s=1↔qce s:=by
 unfold qv qce;rw [if_neg h];by_cases hb:∀ c∈s,wp c
 ·rw [if_pos hb]
  exact⟨fun _=>hb,fun _=>rfl⟩
 ·rw [if_neg hb]
  refine⟨fun h=>?_,fun h=>absurd h hb⟩;exfalso;revert h;repeat' split
  all_goals decide
theorem ze5 (l p:qa) (r:List qa) (st:List AObj) (hl:l.length<1000000) (h:q7 l=p::r):qo E 298 [Sv l] st fun x st'=>x = .sl 1 (Sv p::r.map fun x=>Sv x) none∧st'=st:=by
 have:=q84 l st hl;rw [h] at this;exact this
theorem q4x {f:Fld} {p:qa} {r:List qa} (h:q7 f.2=p::r):zm f=kf f.1 p::r.map fun s=>[32]++v8 s:=by
 unfold zm;rw [h];rfl
theorem qrm (f:Fld):(zi (zm f)).length≤f.1.length+3 * f.2.length+3:=by
 have h1:=qs1 (q7 f.2).tail;have h2:=congrArg List.length (qi9 _ f.2 (Nat.le_refl _))
 have h3:(kf f.1 ((q7 f.2).headD [])).length≤f.1.length+2+((q7 f.2).headD []).length:=by
  unfold kf;split <;> simp <;> omega
 have e:zm f=[kf f.1 ((q7 f.2).headD [])]++(q7 f.2).tail.map fun s=>[32]++v8 s:=rfl;rw [e,y7,qih];simp only [List.length_append,List.length_cons,List.length_nil] at h2 ⊢;omega
theorem qud:∀ (xs:List Fld),(∀ f∈xs,f.1.length<4294967281∧f.2.length<1000000)→(zu xs).length≤5000000000 * xs.length
 | [],_=>by simp [zu]
 |f::r,h=>by
  have ih:=qud r fun x hx=>h x (by simp [hx]);have h1:=qrm f;have h2:=h f (by simp);have e:zu (f::r)=zi (zm f)++zu r:=by simp [zu]
  rw [e,List.length_append,List.length_cons];omega
end Go.Proofs.YtneejjefekdgjaaGreatDoor
namespace Go.Av
open Go Go.RowKit
@[reducible] def quz (K : Act → World → Prop) : Exit → Act → World → Prop
 | .normal,a,w=>K a w
 | _,_,_=>False
structure AZ (E:Env) (N:Nat) (ops:Array Oper) (fuel:Nat) (listed:Array Bool) (K:AS→Prop) (s:AS):Prop where
 run:∀ (B0:Nat) (w0:World) (G:Gh) (a:Act) (w:World),E.L B0 w0→Inv B0 w0 N G s a w→∀ K':Act→World→Prop,(∀ G' s' a' w',G.le G'→Inv B0 w0 N G' s' a' w'→K s'→K' a' w')→wpAnyIn (fw none) 0 E.P .any ops (quz K') fuel listed a w
structure AY (E:Env) (N:Nat) (o:Oper) (s:AS) (r:AV):Prop where
 run:∀ (B0:Nat) (w0:World) (G:Gh) (a:Act) (w:World),Inv B0 w0 N G s a w→∃ v,(∀ w',(execOp a.eval o).run E.P w' = .ok (.value v) w')∧(∀ w',o.about E.P w' a.eval=none)∧Rel G r v
section
variable {E : Env} {N : Nat} {ops : Array Oper} {K : AS → Prop} {s : AS} {fuel : Nat} {listed : Array Bool}
theorem qkq {id:Nat} {Q:Exit→AS→Prop} {n:Nat} (hm:E.P.follows .mixedOrders=true) (hn:ops.size=n) (h:AZ E N ops n (Array.replicate n false) (Q .normal) s):AWp E none N (.region id ops true) Q s:=by
 subst hn;refine⟨fun B0 w0 G a w hL hI=>?_⟩;have hBl:Below w.heap.size w { w with drawn:=w.drawn+1 }:=⟨rfl,rfl,rfl,Nat.le_refl _,fun _ _=>rfl⟩;have mg:Inv B0 w0 N G s a { w with drawn:=w.drawn+1 }:=⟨hI.agree.fresh hBl,hI.defers,hI.size,hI.tmps⟩;have:=h.run B0 w0 G a _ hL mg (fun a' w'=>∃ (G':Gh) (s':AS),G.le G'∧Inv B0 w0 N G' s' a' w'∧Q .normal s') fun G' s' a' w' hG i3 hk=>⟨G',s',hG,i3,hk⟩;refine wpIn_mono (wpIn_region_any hm this) fun e a' w' hq=>?_
 cases e with
 |normal=>exact hq
 | _=>exact hq.elim
theorem qdh (hr:Region.ready .any ops listed=[]) (h:K s):AZ E N ops fuel listed K s:=
 ⟨fun B0 w0 G a w hL hI K' hK=>wpAnyIn_done hr (hK G s a w (.refl G) hI h) fuel⟩
theorem y3 (i:Nat) {oi:Oper} {r:AV} (hi:ops[i]? = some oi) (hs:Region.noSelect ops=true) (hf:Region.free .any ops listed i=true) (hr:(Region.ready .any ops listed).contains i=true) (hg:oi.guard=none) (hy:AY E N oi s r)
  (h:AZ E N ops fuel (listed.setIfInBounds i true) K (s.put oi.dst r)):AZ E N ops (fuel+1) listed K s:=by
 refine⟨fun B0 w0 G a w hL hI K' hK=>?_⟩;obtain⟨v,h1,h2,h3⟩:=hy.run B0 w0 G a w hI;have hwn:Region.wanted oi (yielded ops a.tmps)=true:=by simp [Region.wanted,hg]
 refine wpAnyIn_take (v:=v) rfl hi hs hf hr (fun c a w hq=>hq.elim) ⟨.inl ⟨hwn,h1⟩,h2⟩ (h.run B0 w0 G _ w hL (hI.put (.refl G) hI.agree oi.dst h3) K' fun G' s' a' w' hG i3 hk=>hK G' s' a' w' hG i3 hk)
theorem q4z {F:Fence} {n:Nat} {P:Program} {o:Oper} {a:Act} {w:World} {next X Y:Act→World→Prop} (h:o.wpIn F n P a w next (quz X)):o.wpIn F n P a w next (quz Y):=by
 unfold Oper.wpIn at *;refine⟨h.1,?_⟩;have h:=h.2;generalize (o.semAt F.round a.eval).run P w=r at *
 cases r with
 |ok x w'=>
  cases x <;> simp only [Oper.uponIn] at h ⊢
  case value u=>exact h
  case skip=>exact h
  case defer d=>exact h
  case enter f args=>
   refine⟨h.1,CallsIn.mono h.2 fun e w'' he=>?_⟩
   cases e with
   |returned u=>exact he
   |panicked c=>exact he.elim
   |outgrown=>exact absurd he (by simp [LetsOut])
  case row row args=>exact h
  case round l f tmps assign body=>
   refine⟨h.1,RoundIn.mono h.2 fun e w'' he=>?_⟩
   cases e with
   |returned u=>exact he
   |panicked c=>exact he.elim
   |outgrown=>exact absurd he (by simp [LetsOut])
 |halt x w'=>
  cases x <;> simp only [Oper.uponIn] at h ⊢
  case panic u=>exact h.elim
def qzv (P:Nat→Prop):List Nat→Prop
 | []=>True
 |i::r=>P i∧qzv P r
theorem qxg {P:Nat→Prop}:∀ {l:List Nat},qzv P l→∀ i∈l,P i
 | [],_,_,h=>by simp at h
 |j::l,h,i,hi=>by
  rcases List.mem_cons.1 hi with rfl|hi
  ·exact h.1
  ·exact qxg h.2 i hi
theorem xh (rs:List Nat) (hr:Region.ready .any ops listed=rs) (a6:Nat.blt 0 rs.length=true)
  (h:qzv (fun i=>∃ o,ops[i]? = some o∧AOps E none N ops [o] (AZ E N ops fuel (listed.setIfInBounds i true) K) s) rs):AZ E N ops (fuel+1) listed K s:=by
 refine⟨fun B0 w0 G a w hL hI K' hK=>wpAnyIn_all hr (fun e=>by subst e;simp at a6) fun i hi=>?_⟩;obtain⟨o,ho,h⟩:=qxg h i hi;have a4:=h.run B0 w0 G a w hL hI (quz fun a' w'=>wpAnyIn (fw none) 0 E.P .any ops (quz K') fuel (listed.setIfInBounds i true) a' w') fun G' s' a' w' hG i3 hk=>hk.run B0 w0 G' a' w' hL i3 K' fun G2 s2 a2 w2 lq mg s3=>hK G2 s2 a2 w2 (hG.trans lq) mg s3;unfold wpOpIn;rw [ho];simp only [wpListIn] at a4 ⊢;split
 ·rename_i hw
  rw [if_pos hw] at a4;exact q4z a4
 ·rename_i hw
  rw [if_neg hw] at a4;exact a4
variable {d : Option Tmp} {T : TypeId} {p : String} {af : Array Edge}
theorem zgc {op:Op} {r:AV} (hnc:∀ c,op≠.call c) (h:∀ (G:Gh) (ρ : Operand→Value),(∀ x,Rel G (ql N s x) (ρ x))→∃ v,(∀ w',(execOp ρ ⟨d,op,T,p,af,none⟩).run E.P w' = .ok (.value v) w')∧Rel G r v):AY E N ⟨d,op,T,p,af,none⟩ s r:=
 ⟨fun B0 w0 G a w hI=>let ⟨v,h1,h2⟩:=h G a.eval hI.eval;⟨v,h1,fun w'=>by unfold Oper.about;cases op <;> first|rfl|exact absurd rfl (hnc _),h2⟩⟩
theorem qat {x:Operand}:AY E N ⟨d,.move x,T,p,af,none⟩ s (ql N s x):=zgc nofun fun G ρ hρ=>⟨ρ x,fun w'=>by simp [execOp],hρ x⟩
theorem qxn {x:Operand}:AY E N ⟨d,.assign x,T,p,af,none⟩ s (ql N s x):=zgc nofun fun G ρ hρ=>⟨ρ x,fun w'=>by simp [execOp],hρ x⟩
end
theorem qwc {E:Env} {rd:Option Nat} {N:Nat} {c:Code} {Q:Exit→AS→Prop} {s:AS} (I:AS→Prop) (h:AWp E rd N c (only I) s) (hk:∀ s',I s'→Q .normal s'):AWp E rd N c Q s:=h.mono fun e s' h=>by
 cases e <;> first|exact hk _ h|exact h.elim
end Go.Av
namespace Go.Proofs.YtneejjefekdgjaaGreatDoor
open Go Go.Av Go.RowKit Go.Proofs Go.Pl
theorem qk6 {l:qa}:qv l=4↔10∉l∧58∈l∧qal (z6 l):=by
 unfold qv;by_cases b9:10∈l
 ·simp [b9]
 ·rw [if_neg b9]
  constructor
  ·intro h
   split at h
   ·simp at h
   ·split at h
    ·simp at h
    ·split at h
     ·simp at h
     ·split at h
      ·rename_i hk;exact⟨b9,hk.1,hk.2⟩
      ·simp at h
  ·rintro⟨_,h58,hk⟩
   obtain⟨c,hc,hb,h35⟩:=qk5 hk
   have hh:l.head? = some c:=by
    cases l with
    |nil=>simp at h58
    |cons a r=>
     unfold z6 at hc;rw [List.takeWhile_cons] at hc;split at hc
     ·simpa using hc
     ·simp at hc
   have mt:c∈l:=List.mem_of_head? hh;rw [if_neg (fun h'=>hb (h' c mt)),if_neg (by rw [hh];simpa using h35),if_neg (fun ⟨d,hd,s9⟩=>by rw [hh] at hd;cases hd;exact hb s9),if_pos ⟨h58,hk⟩]
theorem q8i (l:qa) (st:List AObj) (hl:l.length<4294967281) (h:qv l=4):qo E 272 [Sv l] st fun r st'=>r = .tu [Sv (z6 l),Sv (kr l),Bv true]∧st'=st:=by
 refine qx (qb5 _ _ _) (qp Tryz.func272 rfl (Nat.le_of_ble_eq_true rfl) ?_);have hc:Lib.cut l [58]=(z6 l,kr l,true):=by rw [qxw,if_pos (qk6.1 h).2.1]
 repeat' (first|apply qn|apply qf|apply qh|apply qj|apply qg|(apply zf;exact rfl;exact rfl)|(apply qs;(iterate 3 exact rfl))|(apply qc;exact rfl;apply vr;exact cAo)|apply qw|apply qt|(apply qk;exact Tryz.call122;exact ql7 _ _ hl)|(apply qk;exact Tryz.call72;exact qtw _ _ _ hl))
 refine qm rfl (ya rfl) ⟨q30 (?_:_=_),_,rfl⟩;rw [hc]
theorem q4w (l:qa) (st:List AObj) (hl:l.length<4294967281) (h:qv l≠4):qo E 272 [Sv l] st fun r st'=>r = .tu [Sv [],Sv [],Bv false]∧st'=st:=by
 refine qx (qb5 _ _ _) (qp Tryz.func272 rfl (Nat.le_of_ble_eq_true rfl) ?_);repeat' (first|apply qn|apply qf|apply qh|apply qj|apply qg|(apply qs;(iterate 3 exact rfl))|(apply qc;exact rfl;apply vf;exact cAo)|apply qt|(apply qk;exact Tryz.call122;exact ql7 _ _ hl))
 exact qm rfl (ya rfl) ⟨rfl,_,rfl⟩
theorem zgr {fn:Func} {s:AS} {t u:Tmp} {Ta:TypeId} {o1 v1 f1 sz1:Nat} {agg1:Bool} {T1:TypeId} {cs1:List AV} {r1:AV} (hr:fn.results = #[.cell t Ta,.tmp u]) (rn:ql fn.ntmps s (.tmp t) = .bx o1 v1 f1) (ho1:s.st[o1]? = some (.cells v1 T1 cs1)) (ht1:tyOf E.P Ta=some (sz1,agg1)) (r6:j8 sz1 agg1 f1 cs1=some r1) :
  ARes E fn s (.tu [r1,ql fn.ntmps s (.tmp u)]):=by
 refine⟨fun B0 w0 G a w hL hI=>?_⟩;obtain⟨b,v,h1,h2,h3⟩:=qhs hI rn ho1 ht1 r6;have hu:=hI.rd u;refine⟨.tuple #[v,a.tmps.getD u undef],?_,qf8 h3 hu⟩;simp only [Act.eval,Array.getD_eq_getD_getElem?] at h1;simp [results,hr,h1,asAddr,h2]
def qhf (ls:List qa):AV:=.tu [fldA (zr ls).1,errN (zr ls).2]
theorem q31 (ls:List qa):Pure (qhf ls):=qdo fun x hx=>by
 simp only [List.mem_cons,List.not_mem_nil,or_false] at hx;rcases hx with rfl|rfl
 ·exact qmb fun x hx=>by
   simp only [List.mem_cons,List.not_mem_nil,or_false] at hx;rcases hx with rfl|rfl <;> exact qq _
 ·exact qkz _
theorem qq3 {fn:Func} {s:AS} {t u:Tmp} {Ta:TypeId} {st loc ext new:List AObj} {k1 v1 f1 sz1:Nat} {agg1:Bool} {T1:TypeId} {cs1:List AV} {r1:AV} (hr:fn.results = #[.cell t Ta,.tmp u]) (hs:s.st=((st++loc)++ext)++new) (rn:ql fn.ntmps s (.tmp t) = .bx (st.length+k1) v1 f1) (ho1:loc[k1]? = some (.cells v1 T1 cs1)) (ht1:tyOf E.P Ta=some (sz1,agg1)) (r6:j8 sz1 agg1 f1 cs1=some r1) :
  ARes E fn s (.tu [r1,ql fn.ntmps s (.tmp u)]):=zgr hr rn (by rw [hs];exact qba ho1) ht1 r6
structure LsB (ls:List qa):Prop where
 len:ls.length<1000000
 val:∀ s∈ls,s.length<1000000
theorem qs0:∀ (r:List qa),(∀ s∈r,s.length<1000000)→(r.flatMap fun s=>[10]++wv 46 (s.drop 1)).length≤1000001 * r.length
 | [],_=>by simp
 |a::r,h=>by
  have ih:=qs0 r fun s hs=>h s (by simp [hs]);have ha:=h a (by simp);have ht:(wv 46 (a.drop 1)).length≤a.length:=by unfold wv;split <;> simp <;> omega
  simp only [List.flatMap_cons,List.length_append,List.length_cons,List.length_nil];omega
theorem za4 (v:qa) (r:List qa):Lib.join (v::r.map fun s=>wv 46 (s.drop 1)) [10]=v++r.flatMap fun s=>[10]++wv 46 (s.drop 1):=by
 rw [Lib.join_cons];unfold Lib.joinTail;rw [List.map_map,List.flatMap_def];rfl
theorem q6e (xs:List qa) (tip:Option Nat) (sep v:qa) (st:List AObj) (h:Lib.join xs sep=v) (hN:xs.length≤140737488355328) (hl:v.length≤140737488355328):qo E 127 [.sl 1 (xs.map fun x=>Sv x) tip,Sv sep] st fun r st'=>r=Sv v∧st'=st:=by
 subst h;exact za3 xs tip sep st hN hl
theorem zb1 (l:qa) (st:List AObj) (hl:l.length<4294967281) (h:qv l=4):qo E 221 [Sv l] st fun r st'=>r = .tu [Sv (z6 l),Sv (kr l),Bv true]∧st'=st:=by
 have:=q3a l st hl;have e:qfe l=(z6 l,kr l,true):=if_pos (qk6.1 h);rw [e] at this;exact this
theorem ql8 {s:qa} (h:qv s=3):2≤s.length∧10∉s:=by
 have b9:10∉s:=fun h'=>by unfold qv at h;rw [if_pos h'] at h;simp at h
 refine⟨?_,b9⟩;unfold qv at h;rw [if_neg b9] at h;split at h
 ·simp at h
 ·rename_i hb
  split at h
  ·simp at h
  ·split at h
   ·rename_i bn
    obtain⟨c,hc,hcb⟩:=bn
    match s,hc with
    | [a],hc=>
     simp at hc;subst hc
     exact absurd (by simpa using hcb) hb
    |a::b::r,_=>simp
   ·split at h <;> simp at h
def qb8 (ls:List qa):AV:=.tu [fldA (zr ls).1,Iv (zr ls).2]
theorem qvh (ls:List qa):Pure (qb8 ls):=qdo fun x hx=>by
 simp only [List.mem_cons,List.not_mem_nil,or_false] at hx;rcases hx with rfl|rfl
 ·exact qmb fun x hx=>by
   simp only [List.mem_cons,List.not_mem_nil,or_false] at hx;rcases hx with rfl|rfl <;> exact qq _
 ·exact qq _
def accU (l:qa) (pre:List qa):qa:=wv 32 (kr l)++pre.flatMap fun s=>[10]++wv 46 (s.drop 1)
theorem q9n (l:qa) (pre:List qa) (a:qa):accU l (pre++[a])=(accU l pre++[10])++wv 46 (a.drop 1):=by
 unfold accU;rw [List.flatMap_append];simp
theorem zdc (l:qa) (pre:List qa) (h:∀ s∈pre,s.length<1000000):(accU l pre).length≤l.length+1000001 * pre.length:=by
 have nc:(wv 32 (kr l)).length≤l.length:=by unfold wv kr;split <;> simp <;> omega
 have:=qs0 pre h;unfold accU;rw [List.length_append];omega
theorem qz9 (c:UInt8):((c.toNat:Nat):Int)=46↔c=46:=u8i c 46 (by omega)
theorem qnc {α : Type} {P : α→Prop} {pre:List α} {a : α} (h:∀ x∈pre,P x) (ha:P a):∀ x∈pre++[a],P x:=fun x hx=>by
 rcases List.mem_append.1 hx with hx|hx
 ·exact h x hx
 ·simp at hx;subst hx;exact ha
end Go.Proofs.YtneejjefekdgjaaGreatDoor
namespace Go.Pl
open Go Go.Proofs
structure LnV where
 no:Nat
 at':Nat
 text:qa
 ended : Bool
def vk (k a:Nat) (l:qa):List LnV:=if h:l=[] then [] else⟨k,a,upto 10 l,decide (10∈l)⟩::vk (k+1) (a+(upto 10 l).length+1) (past 10 l)
 termination_by l.length
 decreasing_by exact xq h
def lns (l:qa):List LnV:=vk 0 0 l
theorem qau (k a:Nat):vk k a []=[]:=by unfold vk;simp
theorem qay {k a:Nat} {l:qa} (h:l≠[]):vk k a l=⟨k,a,upto 10 l,decide (10∈l)⟩::vk (k+1) (a+(upto 10 l).length+1) (past 10 l):=by
 conv=>lhs;unfold vk
 rw [dif_neg h]
def whole (l:qa):Prop:=l=[]∨l.getLast? = some 10
theorem q9i {l:qa} (h:whole l) (a6:l≠[]):10∈l∧whole (past 10 l):=by
 have hl:l.getLast? = some 10:=h.resolve_left a6;have b9:10∈l:=List.mem_of_getLast? hl;refine⟨b9,?_⟩;by_cases hp:past 10 l=[]
 ·exact .inl hp
 ·refine .inr ?_
  have e:=wg b9;rw [e] at hl;rw [List.getLast?_append,List.getLast?_cons] at hl
  cases hg:(past 10 l).getLast? with
  |none=>exact absurd (List.getLast?_eq_none_iff.1 hg) hp
  |some c=>rw [hg] at hl;simpa using hl
theorem qwp:∀ (n:Nat) (d x:qa) (k a:Nat),d.length≤n→whole d→vk k a (d++x)=vk k a d++vk (k+(vk k a d).length) (a+d.length) x
 |n,d,x,k,a,hn,hw=>by
  by_cases hd:d=[]
  ·subst hd
   simp [qau]
  ·obtain⟨b9,f9⟩:=q9i hw hd
   have e:=wg b9;have b4:=xq (c:=10) hd
   cases n with
   |zero=>omega
   |succ n=>
    have e2:d++x=upto 10 d++10::(past 10 d++x):=(congrArg (· ++ x) e).trans (by simp);have hu:upto 10 (d++x)=upto 10 d:=by rw [e2];exact vv _ (qam 10 d)
    have hp:past 10 (d++x)=past 10 d++x:=by rw [e2];exact xv _ (qam 10 d)
    have hdl:d.length=(upto 10 d).length+1+(past 10 d).length:=by
     have:=congrArg List.length e;simp at this;omega
    rw [qay (l:=d++x) (by simp [hd]),qay hd,hu,hp,qwp n (past 10 d) x _ _ (by omega) f9];have h1:10∈d++x:=by simp [b9]
    simp only [h1,b9,List.cons_append,List.length_cons];congr 2;have e3:∀ m:Nat,k+1+m=k+(m+1):=fun m=>by omega
    rw [e3];congr 1;omega
theorem zh0 {c:qa} (k a:Nat) (h:10∉c):vk k a (c++[10])=[⟨k,a,c,true⟩]:=by
 rw [qay (by simp),vv [] h,xv [] h,qau];simp
theorem zer {c:qa} (k a:Nat) (h:10∉c) (a6:c≠[]):vk k a c=[⟨k,a,c,false⟩]:=by
 rw [qay a6,xg h]
 have:past 10 c=[]:=by
  unfold past;rw [xg h];simp
 rw [this,qau];simp [h]
theorem qcz:∀ (n:Nat) (l:qa) (k a:Nat),l.length≤n→(vk k a l).length≤l.length
 |n,l,k,a,hn=>by
  by_cases h:l=[]
  ·subst h;simp [qau]
  ·have b4:=xq (c:=10) h
   cases n with
   |zero=>omega
   |succ n=>
    rw [qay h,List.length_cons];have:=qcz n (past 10 l) (k+1) (a+(upto 10 l).length+1) (by omega);omega
theorem qyl:∀ (n:Nat) (l:qa) (k a:Nat),l.length≤n→(vk k a l).map (fun x=>(x.text,x.ended))=zn l
 |n,l,k,a,hn=>by
  by_cases h:l=[]
  ·subst h;simp [qau,vi]
  ·have b4:=xq (c:=10) h
   cases n with
   |zero=>omega
   |succ n=>rw [qay h,wq h,List.map_cons,qyl n _ _ _ (by omega)]
end Go.Pl
namespace Go.Proofs.YtneejjefekdgjaaGreatDoor
open Go Go.Av Go.RowKit Go.Proofs Go.Pl
@[reducible] def lnA (x : LnV) : AV := .ag [Iv x.no, Iv x.at', Sv x.text, Bv x.ended]
@[reducible] def lnsA (xs : List LnV) : AV := .sl 4 (xs.map lnA) none
theorem zfd (xs:List LnV):Pure (lnsA xs):=qbq fun x hx=>by
 simp only [List.mem_map] at hx;obtain⟨f,_,rfl⟩:=hx;intro y hy;simp [AV.cells] at hy;rcases hy with rfl|rfl|rfl|rfl <;> exact qq _
set_option maxHeartbeats 4000000 in
theorem qjb (l:qa) (st:List AObj) (hl:l.length<100000000):qo E 137 [Sv l] st fun r st'=>r=lnsA (lns l)∧st'=st:=by
 refine qx (zfd _) (qp Tryz.func137 rfl (Nat.le_of_ble_eq_true rfl) ?_);repeat' (first|apply qn|apply qy|apply qf|apply qh|apply qg)
 refine q7p (i:=3) (sz:=4) (T':=219) rfl ?_;refine qbv l (fun pre s=>∃ d c,pre=d++c∧whole d∧10∉c∧StE [(0,Sv l),(3,.sl 4 ((lns d).map lnA) (some (st.length+0))),(4,Iv d.length),(5,Iv pre.length)] st [.tip (lns d).length 4 219] s) ⟨[],[],rfl,.inl rfl,by simp,qez ⟨rfl,?_,rfl,rfl,trivial⟩ ?_⟩ ?_ ?_
 ·rw [show lns []=[] from qau 0 0];simp;rfl
 ·rw [show lns []=[] from qau 0 0];show (st++[])++[AObj.tip 0 4 _]=_;simp
 ·rintro _ ⟨d,c,nz,hw,hc,t,ext,rfl⟩
  have dj:l.length=d.length+c.length:=by rw [nz];simp
  have fx:=qcz _ d 0 0 (Nat.le_refl _);have hcnt':(lns d).length≤d.length:=fx;have e8:((lns d).map lnA).length=(lns d).length:=by simp
  have sn:lns l=lns d++vk (lns d).length d.length c:=by
   unfold lns;rw [nz,qwp _ d c 0 0 (Nat.le_refl _) hw];simp
  have hfrom:l.drop d.length=c:=by rw [nz];simp
  repeat' (first|apply qn|apply qf|apply qh|apply qj|apply qg|(apply qs;(iterate 3 exact rfl))|(apply qc;exact rfl;apply vr;exact cAo)|(apply qc;exact rfl;apply cd_d <;> intro h)|(apply zo;(iterate 3 exact rfl))|(apply jm;(iterate 4 exact rfl))|(apply qfu;(iterate 3 exact rfl);exact cAs)|(apply xw;(iterate 3 exact rfl))|(apply v6;(iterate 9 exact rfl))|apply qw|apply jd|apply qt|(apply qgf (n:=(lns d).length) (m:=1) (sz:=4) (bytes:=40);(iterate 4 exact rfl);exact e8;exact rfl;exact rfl;exact⟨⟨_,_,rfl,rfl,rfl,rfl,rfl⟩⟩;exact rfl;exact rfl;(unfold maxLen;omega);omega;exact rfl))
  ·have a6:c≠[]:=fun e=>by subst e;simp at dj;omega
   have e:AV.sl 4 ((lns d).map lnA++[AV.ag [Iv ((lns d).map lnA).length,Iv d.length,Sv (l.drop d.length),Bv false]]) none=AV.sl 4 ((lns l).map lnA) none:=by
    rw [sn,zer _ _ hc a6,e8,hfrom,List.map_append];rfl
   exact qm rfl (qto rfl rfl) ⟨e,qa9 _ _ _ _⟩
  ·have hce:c=[]:=List.length_eq_zero_iff.1 (by omega)
   refine qm rfl (qto rfl rfl) ⟨?_,qa9 _ _ _ _⟩;rw [sn,hce,qau,List.append_nil]
 ·rintro pre a rest _ hr ⟨d,c,nz,hw,hc,t,ext,rfl⟩
  have a7:l.length=pre.length+(rest.length+1):=by rw [hr];simp
  have bd:pre.length=d.length+c.length:=by rw [nz];simp
  have b5:l.getD pre.length 0=a:=by rw [hr];simp
  have fx:=qcz _ d 0 0 (Nat.le_refl _);have hcnt':(lns d).length≤d.length:=fx;have e8:((lns d).map lnA).length=(lns d).length:=by simp
  have g9:(l.take pre.length).drop d.length=c:=by rw [hr,List.take_left' rfl,nz,List.drop_left' rfl]
  repeat' (first|apply qn|apply qy|apply qf|apply qh|apply qj|apply qg|(apply qs;(iterate 3 exact rfl))|(apply qc;exact rfl;apply vf;exact cAo)|(apply qc;exact rfl;apply cd_d <;> intro h)|(apply zo;(iterate 3 exact rfl))|(apply jm;(iterate 4 exact rfl))|(apply zl;exact rfl;exact rfl;exact q6 (by omega) (by omega))|(apply wa;(iterate 3 exact rfl);exact cAs)|(apply qfv;(iterate 4 exact rfl);exact cAs;exact cAs)|(apply xw;(iterate 3 exact rfl))|(apply v6;(iterate 9 exact rfl))|apply qw|(apply qgf (n:=(lns d).length) (m:=1) (sz:=4) (bytes:=40);(iterate 4 exact rfl);exact e8;exact rfl;exact rfl;exact⟨⟨_,_,rfl,rfl,rfl,rfl,rfl⟩⟩;exact rfl;exact rfl;(unfold maxLen;omega);omega;exact rfl))
  ·have ha:a=10:=by have h:=(qbm _).1 (by assumption:((l.getD pre.length 0).toNat:Int)=10);rw [b5] at h;exact h
   have sn:lns (d++(c++[10]))=lns d++[⟨(lns d).length,d.length,c,true⟩]:=by
    unfold lns;rw [qwp _ d (c++[10]) 0 0 (Nat.le_refl _) hw,zh0 _ _ hc];simp
   refine⟨d++(c++[10]),[],by rw [ha,nz];simp,.inr (by simp),by simp,qbh ⟨rfl,?_,?_,qg8 pre a,trivial⟩ ?_⟩
   ·have e:AV.sl 4 ((lns d).map lnA++[AV.ag [Iv ((lns d).map lnA).length,Iv d.length,Sv ((l.take pre.length).drop d.length),Bv true]]) (some (st.length+0))=AV.sl 4 ((lns (d++(c++[10]))).map lnA) (some (st.length+0)):=by
     rw [sn,e8,g9,List.map_append];rfl
    exact e
   ·have e:Iv ((pre.length:Int)+1)=Iv ((d++(c++[10])).length:Nat):=by
     have:(d++(c++[10])).length=pre.length+1:=by simp;omega
     rw [this];rfl
    exact e
   ·rw [sn,qdc];rfl
  ·have ha:a≠10:=fun e=>absurd (by rw [b5];exact (qbm _).2 e:((l.getD pre.length 0).toNat:Int)=10) (by assumption)
   exact⟨d,c++[a],by rw [nz];simp,hw,by simp [hc,Ne.symm ha],qbh ⟨rfl,rfl,rfl,qg8 pre a,trivial⟩ rfl⟩
end Go.Proofs.YtneejjefekdgjaaGreatDoor
namespace Go.Pl
open Go Go.Proofs
def indF (by':qa) (ls:List (qa×Bool)):qa:=ls.flatMap fun x=>by'++x.1++xp x.2
def qah (by' l:qa):qa:=indF by' (zn l)
theorem qm2 (by':qa) (a b:List (qa×Bool)):indF by' (a++b)=indF by' a++indF by' b:=by simp [indF]
theorem qm4 (by':qa) (x:qa×Bool):indF by' [x]=by'++x.1++xp x.2:=by simp [indF]
def lsum (ls:List (qa×Bool)):Nat:=(ls.map fun x=>x.1.length+(xp x.2).length).sum
theorem qf2:∀ (n:Nat) (l:qa),l.length≤n→lsum (zn l)=l.length∧(zn l).length≤l.length
 |n,l,hn=>by
  by_cases h:l=[]
  ·subst h;simp [vi,lsum]
  ·have b4:=xq (c:=10) h
   cases n with
   |zero=>omega
   |succ n=>
    obtain⟨h1,h2⟩:=qf2 n (past 10 l) (by omega);rw [wq h];unfold lsum at h1 ⊢;simp only [List.map_cons,List.sum_cons,List.length_cons];rw [h1];have hp:=va 10 l;have hu:=kz 10 l;by_cases b9:10∈l
    ·have:=qe0 b9
     simp [b9,xp];omega
    ·have hu2:(upto 10 l).length=l.length:=by rw [xg b9]
     have p7:=List.length_pos_iff.2 h;simp [b9,xp];omega
theorem qm3 (by':qa):∀ (ls:List (qa×Bool)),(indF by' ls).length=lsum ls+by'.length * ls.length
 | []=>by simp [indF,lsum]
 |x::r=>by
  have ih:=qm3 by' r;simp only [indF,lsum,List.flatMap_cons,List.length_append,List.map_cons,List.sum_cons,List.length_cons] at ih ⊢;rw [ih,Nat.mul_add];omega
theorem q19 (a b:List (qa×Bool)):lsum (a++b)=lsum a+lsum b:=by simp [lsum]
end Go.Pl
namespace Go.Proofs.YtneejjefekdgjaaGreatDoor
open Go Go.Av Go.RowKit Go.Proofs Go.Pl
theorem zcn (text:List UInt8) (st loc:List AObj) (n:Nat) (hn:loc.length=n):qo E 67 [Sv text] (st++loc) fun r st1=>r = .fn (.func 121) [] [.bx (st.length+n) 0 0]∧st1=st++(loc++[.cells 0 9 [Sv text]]):=
 qw2 text (st++loc) _ (st.length+n) (by simp [hn]) (by rw [List.append_assoc])
theorem za2 (b sep:qa) (st:List AObj) (hl:b.length≤140737488355328):qo E 127 [.sl 1 [Sv b] none,Sv sep] st fun r st'=>r=Sv b∧st'=st:=
 q6e [b] none sep b st (by simp [Lib.join,List.intercalate]) (by simp) hl
theorem zjv {st a b ext:List AObj} {m:Nat} (h:((st++a)++ext).length=m) (e:b.length=a.length):((st++b)++ext).length=m:=by
 simp only [List.length_append] at h ⊢;omega
set_option maxHeartbeats 2000000 in
theorem zek (text by':qa) (st:List AObj) (hl:text.length<100000000) (hb:by'.length<1000):qo E 170 [Sv text,.sl 1 [Sv by'] none] st fun r st'=>r=Sv (qah by' text)∧st'=st:=by
 refine qx (qq _) (qp Tryz.func170 rfl (Nat.le_of_ble_eq_true rfl) ?_);obtain⟨hsum,fx⟩:=qf2 _ text (Nat.le_refl _);repeat' (first|(apply qhk;exact rfl)|apply qn|apply qy|apply qf|apply qh|apply qj|apply qg|(apply jw;exact rfl;exact rfl)|(apply z4;(iterate 11 exact rfl))|(apply qk;exact Tryz.call127;exact za2 _ _ _ (by omega))|(refine qk Tryz.call67 (zcn _ _ _ _ rfl) ?_))
 refine qwd (st:=st) text rfl rfl (by omega) (fun k rest l=>∃ q don,(q = .v (.pointer none)∨q = .bx (st.length+0) 0 0)∧zn text=don++zn rest∧l=[bldO 0 q (indF by' don) (st.length+1),.tip (indF by' don).length 1 5,.cells 0 9 [Sv by'],.cells 0 9 [Sv text]]) (fun _ _=>False)
  ⟨_,[],.inl rfl,rfl,rfl⟩ (fun k rest l ⟨q,don,_,_,e⟩=>by subst e;exact⟨rfl,rfl⟩) (fun _ _ h=>h.elim) ?_ ?_ (fun _ _ _ h=>h.elim)
 ·rintro F own rd k rest _ ext m hF ⟨q,don,hq,hd,rfl⟩ a6 b0 hm1 tx
  have mt:zn rest=(upto 10 rest,decide (10∈rest))::zn (past 10 rest):=wq a6;have hu:=kz 10 rest;have a7:=qm3 by' (don++[(upto 10 rest,decide (10∈rest))]);have he:zn text=(don++[(upto 10 rest,decide (10∈rest))])++zn (past 10 rest):=by rw [hd,mt];simp
  have rk:lsum (don++[(upto 10 rest,decide (10∈rest))])+lsum (zn (past 10 rest))=text.length:=by rw [← q19,← he];exact hsum
  have hc2:(don++[(upto 10 rest,decide (10∈rest))]).length+(zn (past 10 rest)).length≤text.length:=by rw [← List.length_append,← he];exact fx
  have hm:by'.length * (don++[(upto 10 rest,decide (10∈rest))]).length≤1000 * 100000000:=Nat.mul_le_mul (by omega) (by omega);rw [qm2,qm4] at a7;simp only [List.length_append] at a7 hm hc2;repeat' (first|(apply q37;exact rfl;assumption;exact rfl)|(apply qbt;exact rfl;assumption;(iterate 10 exact rfl))|apply qf|apply qh)
  refine⟨_,rfl,rfl,?_⟩;repeat' (first|apply qn|apply qy|apply qf|apply qh|(apply qc;exact rfl;apply cd_d <;> intro h)|(apply jp;exact rfl;exact rfl;exact cOs)|(apply zj;(iterate 3 exact rfl))|(apply qii;(iterate 5 exact rfl))|apply qw|(apply qcp;exact rfl;exact zjv tx rfl;(iterate 4 exact rfl))|(refine qk Tryz.call168 (qiw st _ _ _ _ 0 1 0 _ _ _ rfl rfl ?_ ?_ rfl) ?_;(first|exact hq|exact .inr rfl);(simp only [List.length_append,List.length_cons,List.length_nil];omega)))
  all_goals
   have hx:indF by' (don++[(upto 10 rest,decide (10∈rest))])=(indF by' don++(by'++upto 10 rest))++xp (decide (10∈rest)):=by
    rw [qm2,qm4];simp
   refine⟨[bldO 0 (.bx (st.length+0) 0 0) (indF by' (don++[(upto 10 rest,decide (10∈rest))])) (st.length+1),.tip (indF by' (don++[(upto 10 rest,decide (10∈rest))])).length 1 5,.cells 0 9 [Sv by'],.cells 0 9 [Sv text]],ext,[.cells 0 145 (qel k text rest).cells],?_,_,_,.inr rfl,he,rfl⟩
  ·have b9:10∈rest:=by simp_all
   rw [hx,show xp (decide (10∈rest))=[10] by simp [b9,xp]];rfl
  ·have b9:10∉rest:=by simp_all
   have hx2:indF by' (don++[(upto 10 rest,decide (10∈rest))])=indF by' don++(by'++upto 10 rest):=by
    rw [hx];simp [b9,xp]
   rw [hx2];rfl
 ·rintro k _ ext ⟨q,don,hq,hd,rfl⟩
  repeat' (first|apply qn|apply qf|apply qh|apply qg|apply qt|(refine qk Tryz.call171 (qhn st _ _ _ _ 0 1 0 _ _ rfl rfl rfl) ?_))
  refine qzi (k:=4) rfl rfl rfl (qm rfl (q5 rfl) ⟨congrArg (fun l:qa=>Sv l) (?_:_=qah by' text),qa9 _ _ _ _⟩);rw [vi,List.append_nil] at hd;unfold qah;rw [hd]
end Go.Proofs.YtneejjefekdgjaaGreatDoor
namespace Go.Pl
open Go Go.Proofs
def wc (x:LnV):qa×Bool:=(x.text,x.ended)
theorem qpg (l:qa):(lns l).map wc=zn l:=qyl _ l 0 0 (Nat.le_refl _)
end Go.Pl
namespace Go.Proofs.YtneejjefekdgjaaGreatDoor
open Go Go.Av Go.RowKit Go.Proofs Go.Pl
set_option maxHeartbeats 2000000 in
theorem q5a (text by':qa) (st:List AObj) (hl:text.length<100000000) (hb:by'.length<1000):qo E 182 [Sv text,Sv by'] st fun r st'=>r=Sv (qah by' text)∧st'=st:=by
 refine qx (qq _) (qp Tryz.func182 rfl (Nat.le_of_ble_eq_true rfl) ?_);obtain⟨hsum,fx⟩:=qf2 _ text (Nat.le_refl _);have hp:=qpg text;have bd:(lns text).length=(zn text).length:=by rw [← hp,List.length_map]
 have e8:((lns text).map lnA).length=(lns text).length:=by simp
 repeat' (first|apply qn|apply qy|apply qf|apply qh|apply qj|apply qg|(apply jm;(iterate 4 exact rfl))|(apply qk;exact Tryz.call137;exact qjb _ _ hl))
 refine qbv (lns text) (fun pre s=>StE [(1,Sv by'),(5,Sv (indF by' (pre.map wc))),(9,lnsA (lns text)),(10,Iv (lns text).length),(11,Iv pre.length)] st [] s) (qez ⟨rfl,rfl,rfl,congrArg (fun n:Nat=>Iv (n:Int)) e8,rfl,trivial⟩ rfl) ?_ ?_
 ·rintro _ ⟨t,ext,rfl⟩
  repeat' (first|apply qn|apply qf|apply qh|apply qj|apply qg|(apply qs;(iterate 3 exact rfl))|(apply qc;exact rfl;apply vr;exact cAo)|apply jd|apply qt)
  refine qm rfl (q5 rfl) ⟨congrArg (fun l:qa=>Sv l) (?_:indF by' ((lns text).map wc)=_),qa9 _ _ _ _⟩;rw [hp];rfl
 ·rintro pre a rest _ hr ⟨t,ext,rfl⟩
  have a7:(lns text).length=pre.length+(rest.length+1):=by rw [hr];simp
  have b5:((lns text).map lnA)[pre.length]? = some (lnA a):=by rw [hr];simp
  have he:zn text=(pre.map wc++[wc a])++rest.map wc:=by rw [← hp,hr];simp
  have rk:lsum (pre.map wc++[wc a])+lsum (rest.map wc)=text.length:=by rw [← q19,← he];exact hsum
  have db:=qm3 by' (pre.map wc++[wc a]);have hm:by'.length * (pre.map wc++[wc a]).length≤1000 * 100000000:=Nat.mul_le_mul (by omega) (by rw [List.length_append,List.length_map];simp;omega);rw [qm2,qm4] at db;have e1:(wc a).1=a.text:=rfl;have e2:(wc a).2=a.ended:=rfl;rw [e1,e2] at db;simp only [List.length_append] at db hm
  have hx:indF by' ((pre++[a]).map wc)=((indF by' (pre.map wc)++by')++a.text)++xp a.ended:=by
   rw [List.map_append,List.map_singleton,qm2,qm4,e1,e2];simp
  cases hae:a.ended
  ·have hx2:indF by' ((pre++[a]).map wc)=(indF by' (pre.map wc)++by')++a.text:=by rw [hx,hae];simp [xp]
   rw [hae] at db;repeat' (first|apply qn|apply qy|apply qf|apply qh|apply qj|apply qg|(apply qs;(iterate 3 exact rfl))|(apply qc;exact rfl;apply vf;exact cAo)|(apply qc;exact rfl;apply cd_f;exact cRa)|(apply jp;exact rfl;exact rfl;exact cOs)|(apply zl;exact rfl;exact rfl;exact q6 (by omega) (by omega))|(apply jw;exact rfl;exact rfl)|(apply zj;(iterate 3 exact rfl))|(apply jn;(iterate 3 exact rfl))|(apply jl;(iterate 5 exact rfl))|(apply z4;(iterate 11 exact rfl))|apply qw|(apply kp (n:=pre.length);(iterate 5 exact rfl);exact b5))
   exact qbh ⟨rfl,congrArg (fun l:qa=>Sv l) hx2.symm,rfl,rfl,qg8 pre a,trivial⟩ rfl
  ·have hx2:indF by' ((pre++[a]).map wc)=((indF by' (pre.map wc)++by')++a.text)++[10]:=by rw [hx,hae];simp [xp]
   rw [hae] at db;have b0:(xp true).length=1:=rfl;repeat' (first|apply qn|apply qy|apply qf|apply qh|apply qj|apply qg|(apply qs;(iterate 3 exact rfl))|(apply qc;exact rfl;apply vf;exact cAo)|(apply qc;exact rfl;apply cd_t;exact cRa)|(apply jp;exact rfl;exact rfl;exact cOs)|(apply zl;exact rfl;exact rfl;exact q6 (by omega) (by omega))|(apply jw;exact rfl;exact rfl)|(apply zj;(iterate 3 exact rfl))|(apply jn;(iterate 3 exact rfl))|(apply jl;(iterate 5 exact rfl))|(apply z4;(iterate 11 exact rfl))|apply qw|(apply kp (n:=pre.length);(iterate 5 exact rfl);exact b5))
   exact qbh ⟨rfl,congrArg (fun l:qa=>Sv l) hx2.symm,rfl,rfl,qg8 pre a,trivial⟩ rfl
end Go.Proofs.YtneejjefekdgjaaGreatDoor
namespace Go.Av
open Go Go.RowKit
def TipC (b:Nat) (st:List AObj) (sz:Nat) (T:TypeId) (xs:List AV) (c:AV):Prop:=(xs=[]∧c=zp)∨∃ t,c = .sl sz xs (some t)∧st[t]? = some (.tip xs.length sz T)∧b≤t
structure Fr (st st':List AObj) (t:Nat):Prop where
 len:st.length≤st'.length
 same:∀ k,k≠t→k<st.length→st'[k]? = st[k]?
theorem zf5 (b:Nat) (st:List AObj) (sz:Nat) (T:TypeId):TipC b st sz T [] zp:=.inl ⟨rfl,rfl⟩
theorem qkg {b:Nat} {st l:List AObj} {sz:Nat} {T:TypeId} {xs:List AV} {c:AV} (h:TipC b st sz T xs c):TipC b (st++l) sz T xs c:=by
 rcases h with h | ⟨t,h1,h2,h3⟩
 ·exact .inl h
 ·exact .inr ⟨t,h1,by rw [List.getElem?_append_left (lt_of_getElem? h2)];exact h2,h3⟩
section
variable {E : Env} {rd : Option Nat} {N : Nat} {ops : Array Oper} {K : AS → Prop} {s : AS} {rest : List Oper} {d : Option Tmp} {T : TypeId} {p : String} {af : Array Edge}
theorem q0k {x y:Operand} {t u T':TypeId} {sz bytes b:Nat} {xs ys:List AV} {tip:Option Nat} {c:AV} {st:List AObj} (b7:s.st=st) (hx:ql N s x=c) (hc:TipC b st sz T' xs c) (hb:b≤st.length) (hy:ql N s y = .sl sz ys tip)
  (ht:E.P.underlying t=some (.slice T')) (hu:E.P.underlying u=some (.slice T')) (hT:yi E.P T' sz bytes) (d6:j7 (flat ys)=true) (i8:xs.length+ys.length≤maxLen) (hby:(xs.length+ys.length) * bytes≤140737488355328)
  (h:∀ t1 st',st'[t1]? = some (.tip (xs++ys).length sz T')→b≤t1→Fr st st' t1→(c = .sl sz xs (some t1)∨st.length≤t1)→AOps E rd N ops rest K (AS.put ⟨s.t,st',s.df⟩ d (.sl sz (xs++ys) (some t1)))):AOps E rd N ops (⟨d,.call ⟨.builtin .append,#[x,y],#[t,u]⟩,T,p,af,none⟩::rest) K s:=by
 subst b7;refine za rfl (q8 nofun fun B0 w0 G a w _ hI=>?_);rcases hc with⟨dv,hcn⟩ | ⟨t1,h1,h2,h3⟩
 ·subst dv
  have b0:=G.le_new 0 0 0 false;have hA:=hI.agree.newTip sz T';have hv:a.eval x = .slice none 0 0:=hI.evalv (hx.trans hcn);have hn:=hI.agree.n;obtain⟨news,k1,k2,k3⟩:=y6 (P:=E.P) hA ((hI.eval_of hy).mono b0) (by simpa [j7] using d6)
  have hr:Rel (G.new 0 0 0 false) (.sl sz [] (some s.st.length)) (a.eval x):=by
   rw [hv];exact .sl0 sz _ none 0 fun t ht=>by simp only [Option.some.injEq] at ht;subst ht;exact⟨by simp [Gh.new,hn],rfl,rfl⟩
  obtain⟨v',w',G',e1,e2,e3,e4⟩:=qco (ty:=T) hA ht hu (.inr ⟨_,rfl⟩) hT (t:=s.st.length) (n:=0) (by simp) hr rfl rfl k1 k2 k3 (by simpa using i8) (by simpa using hby);refine⟨v',w',G',_,_,?_,b0.trans e2,e3,e4,h s.st.length _ ?_ hb ⟨by simp,fun k hk b4=>?_⟩ (.inr (Nat.le_refl _))⟩
  ·generalize a.eval = ρ at e1
   simp [execOp,resolve,invoke,builtin,e1]
  ·simp
  ·rw [List.getElem?_set_ne (Ne.symm hk),List.getElem?_append_left b4]
 ·obtain⟨news,k1,k2,k3⟩:=y6 (P:=E.P) hI.agree (hI.eval_of hy) (by simpa [j7] using d6)
  obtain⟨v',w',G',e1,e2,e3,e4⟩:=qco (ty:=T) hI.agree ht hu (.inr ⟨_,rfl⟩) hT h2 (hI.eval_of (hx.trans h1)) rfl rfl k1 k2 k3 i8 hby;refine⟨v',w',G',_,_,?_,e2,e3,e4,h t1 _ ?_ h3 ⟨by simp,fun k hk b4=>?_⟩ (.inl h1)⟩
  ·generalize a.eval = ρ at e1
   simp [execOp,resolve,invoke,builtin,e1]
  ·rw [List.length_append]
   exact kq h2
  ·rw [List.getElem?_set_ne (Ne.symm hk)]
theorem qoh {t:TypeId} {x:Operand} {r:AV} {cs:List AV} (hx:ql N s x=r) (hok:r.okc=true) (hc:r.cells=cs)
  (h:AOps E rd N ops rest K (s.put d (.pp cs))):AOps E rd N ops (⟨d,.box t x,T,p,af,none⟩::rest) K s:=by
 refine za rfl (q8 nofun fun B0 w0 G a w _ hI=>?_);have hr:=(hI.eval_of hx).cells hok;rw [hc] at hr;obtain⟨b0,hA⟩:=hI.agree.newPub t (a.eval x).cells (0,0) (a.eval x).cells.toList (fun i y hy=>by simpa using hy)
 have a4:(execOp a.eval ⟨d,.box t x,T,p,af,none⟩).run E.P w = .ok (.value (.pointer (some ⟨w.heap.size,0,none⟩))) (w.alloc (.cells (a.eval x).cells t)):=by
  generalize a.eval = ρ;simp [execOp,Instr.box,newVar,newRow,newObj,Sem.run]
 refine⟨_,_,_,.pp cs,s.st,a4,b0,hA,.pp cs w.heap.size 0 (a.eval x).cells.toList (by simp [Gh.publish]) (by rw [hr.1];simp) fun i x y hx hy=>(hr.2 i x y hx (by simpa using hy)).mono b0,h⟩
end
theorem qqx {E:Env} {f:FuncId} {x x':AV} {us:List AV} {st:List AObj} {R:AV→List AObj→Prop} (hw:∀ G v,Rel G x v→Rel G x' v) (h:qo E f (x'::us) st R):qo E f (x::us) st R:=
 ⟨fun B0 w0 G vals w hL hA hR=>h.run B0 w0 G vals w hL hA ⟨by have:=hR.1;simpa using this,fun i a b ha hb=>by
  cases i with
  |zero=>simp at ha;subst ha;exact hw G b (hR.2 0 x b rfl hb)
  |succ i=>exact hR.2 (i+1) a b (by simpa using ha) hb⟩⟩
theorem qcf {st l:List AObj} {o:Nat} {x:AObj} (h:st[o]? = some x):(st++l)[o]? = some x:=by
 rw [List.getElem?_append_left (lt_of_getElem? h)];exact h
theorem x7 {st:List AObj} {x:AObj}:(st++[x])[st.length]? = some x:=by simp
section
variable {E : Env} {rd : Option Nat} {N : Nat} {ops : Array Oper} {K : AS → Prop} {s : AS} {rest : List Oper} {d : Option Tmp} {T : TypeId} {p : String} {af : Array Edge}
theorem qli {t:TypeId} {st:List AObj} {cs:List AV} (b7:s.st=st) (hz:qji E.P t=some cs)
  (h:AOps E rd N ops rest K (AS.put ⟨s.t,st++[.cells 0 t cs],s.df⟩ d (.bx st.length 0 0))):AOps E rd N ops (⟨d,.alloc t,T,p,af,none⟩::rest) K s:=
 jw (loc:=[]) (by rw [b7];simp) hz h
theorem q9r {t:TypeId} {x:Operand} {st:List AObj} {r:AV} {cs:List AV} (b7:s.st=st) (hx:ql N s x=r) (hok:r.okc=true) (hc:r.cells=cs)
  (h:AOps E rd N ops rest K (AS.put ⟨s.t,st++[.cells 0 t cs],s.df⟩ d (.bx st.length 0 0))):AOps E rd N ops (⟨d,.box t x,T,p,af,none⟩::rest) K s:=
 qbd (loc:=[]) (by rw [b7];simp) hx hok hc h
end
theorem qmw {st st':List AObj} (hl:st.length≤st'.length) (h:∀ k,k<st.length→st'[k]? = st[k]?):∃ ext,st'=st++ext:=by
 refine⟨st'.drop st.length,?_⟩;apply List.ext_getElem?;intro k;by_cases hk:k<st.length
 ·rw [h k hk,List.getElem?_append_left hk]
 ·rw [List.getElem?_append_right (by omega),List.getElem?_drop]
  congr 1;omega
end Go.Av
namespace Go.Proofs.YtneejjefekdgjaaGreatDoor
open Go Go.Av Go.RowKit Go.Proofs
def qj5 (x:Option AObj):Prop:=∀ n sz T,x≠some (.tip n sz T)
theorem qas {ver:Nat} {T:TypeId} {cs:List AV} {x:Option AObj} (h:x=some (.cells ver T cs)):qj5 x:=fun n sz T' e=>by
 rw [h] at e;simp at e
end Go.Proofs.YtneejjefekdgjaaGreatDoor
namespace Go.Proofs.YtneejjefekdgjaaGreatDoor
open Go Go.Av Go.RowKit Go.Proofs Go.Pl
structure Ext (n:Nat) (S S':List AObj):Prop where
 len:S.length≤S'.length
 low:∀ k,k<n→S'[k]? = S[k]?
 tips:∀ (t m sz:Nat) (T:TypeId),S[t]? = some (AObj.tip m sz T)→S'[t]? = S[t]?
theorem qjj {n:Nat} {S l:List AObj} (h:n≤S.length):Ext n S (S++l):=⟨by simp,fun k hk=>List.getElem?_append_left (by omega),fun t m sz T ht=>List.getElem?_append_left (lt_of_getElem? ht)⟩
theorem qek {n o:Nat} {S:List AObj} {x:AObj} (h:n≤o) (hn:qj5 S[o]?):Ext n S (S.set o x):=⟨by simp,fun k hk=>List.getElem?_set_ne (by omega),fun t m sz T ht=>List.getElem?_set_ne (fun e=>by subst e;exact hn _ _ _ ht)⟩
theorem Ext.weak {n m:Nat} {S S':List AObj} (h:Ext n S S') (hm:m≤n):Ext m S S':=⟨h.len,fun k hk=>h.low k (by omega),h.tips⟩
theorem Ext.trans {n:Nat} {S S' S'':List AObj} (h:Ext n S S') (k:Ext n S' S''):Ext n S S'':=⟨Nat.le_trans h.len k.len,fun i hi=>(k.low i hi).trans (h.low i hi),fun t m sz T ht=>(k.tips t m sz T ((h.tips t m sz T ht).trans ht)).trans (h.tips t m sz T ht)⟩
theorem zcm (text:List UInt8) (o kb ver n m:Nat) (I:Nat→List UInt8→List AObj→Prop) (D:List AObj→Prop) (S:List AObj) (hm:S.length=m) (hn:n≤m) (ht:text.length<4294967281) (h0:I 0 text S)
  (hI:∀ k rest S',I k rest S'→S'[kb]? = some (.cells ver 9 [Sv text]))
  (b7:∀ k rest S' S'',Ext n S' S''→I k rest S'→I k rest S'')
  (hY:∀ k rest S' cs,I k rest S'→S'[m]? = some (.cells 0 145 cs)→rest≠[]→rest.length≤text.length→y9 E o [qel k text rest] S' fun b S''=>S''[m]? = some (.cells 0 145 cs)∧(b=true→I (k+1) (past 10 rest) S'')∧(b=false→D S'')) :
  qo E 121 [.yd o,.bx kb ver 0] S fun r S'=>(∃ k,I k [] S')∨D S':=by
 subst hm;refine qp Tryz.func121 rfl (Nat.le_of_ble_eq_true rfl) ?_;have hb:=hI 0 text S h0;repeat' (first|apply qn|apply qy|apply qf|apply qh|apply qg|(apply jw;exact rfl;exact rfl)|(apply z4;(iterate 11 exact rfl))|(apply xw;(iterate 3 exact rfl))|(apply qbn;exact rfl;exact rfl;exact hb;exact rfl;exact rfl))
 refine jv (fun (x:Nat×List UInt8) s=>match x with|(k,rest)=>∃ S' at' ta eb,I k rest S'∧k+rest.length≤text.length∧at'=(text.length:Int) - rest.length∧S'[S.length]? = some (.cells 0 145 [Iv k,Iv at',Sv ta,Bv eb])∧StA [(0,.yd o),(1,.bx kb ver 0),(3,.bx S.length 0 0),(4,Sv rest)] S' [] s) (fun x=>x.2.length) (0,text)
  ⟨_,0,[],false,b7 _ _ _ _ (qjj hn) h0,by simp,by simp,jy (k:=0) rfl,zz ⟨rfl,rfl,rfl,rfl,trivial⟩⟩ ?_
 rintro⟨k,rest⟩ _ ⟨S',_,ta,eb,hi,b0,rfl,cd,t,rfl⟩;have lx:=hI k rest S' hi;repeat' (first|apply qn|apply qy|apply qf|apply qh|apply qj|apply qg|(apply zf;exact rfl;exact rfl)|(apply jk;(iterate 3 exact rfl))|(apply qc;exact rfl;apply cd_d <;> intro h)|(apply zj;(iterate 3 exact rfl))|apply qw|apply jd|(apply qk;exact Tryz.call72;exact qju _ _ _ (by omega))|(apply vc;exact rfl;(focus first|assumption|(repeat' (first|assumption|exact x7|exact jy rfl|apply kq|apply vg|omega|apply qcf)));exact rfl;exact rfl)|(apply y4;exact rfl;exact rfl;(focus first|assumption|(repeat' (first|assumption|exact x7|exact jy rfl|apply kq|apply vg|omega|apply qcf)));(iterate 6 exact rfl)))
 ·have e1:Ext n S' ((S'.set S.length (.cells 0 145 [Iv k,Iv ((text.length:Int) - rest.length),Sv (upto 10 rest),Bv eb])).set S.length (.cells 0 145 [Iv k,Iv ((text.length:Int) - rest.length),Sv (upto 10 rest),Bv (decide (10∈rest))])):=
   (qek hn (qas cd)).trans (qek hn (qas (kq cd)))
  apply qee (o:=o) rfl;refine y9.mono (hY k rest _ _ (b7 _ _ _ _ e1 hi) (kq (kq cd)) h (by omega)) ?_;rintro b S2 ⟨pf,h1,h2⟩
  show AOps _ _ _ _ _ _ _
  cases b
  ·skip
   repeat' (first|apply qh|(apply z7;exact rfl)|(apply qc;exact rfl;apply qi0;exact cRa)|apply qt)
   exact qm rfl (qao rfl) (.inr (h2 rfl))
  ·have hi3:=h1 rfl
   have bm:=hI _ _ _ hi3;have hp:=va 10 rest;have sc:0<rest.length:=List.length_pos_iff.2 h
   have hkb:kb≠S.length:=fun e=>by
    rw [e,pf] at bm;simp at bm
   repeat' (first|apply qn|apply qf|apply qh|apply qj|(apply z7;exact rfl)|(apply qc;exact rfl;apply qiz;exact cRa)|(apply zo;(iterate 3 exact rfl))|(apply zl;exact rfl;exact rfl;exact q6 (by omega) (by omega))|(apply xc;exact rfl;exact rfl;exact q6 (by omega) (by omega))|(apply zj;(iterate 3 exact rfl))|apply qw|(apply vc;exact rfl;exact vg bm (Ne.symm hkb);exact rfl;exact rfl)|(apply vc;exact rfl;(focus first|assumption|(repeat' (first|assumption|exact x7|exact jy rfl|apply kq|apply vg|omega|apply qcf)));exact rfl;exact rfl)|(apply y4;exact rfl;exact rfl;(focus first|assumption|(repeat' (first|assumption|exact x7|exact jy rfl|apply kq|apply vg|omega|apply qcf)));(iterate 6 exact rfl)))
   have e2:Ext n S2 _:=(qek hn (qas pf)).trans (qek (x:=.cells 0 145 [Iv ((k:Int)+1),Iv ((text.length:Int) - (past 10 rest).length),Sv (upto 10 rest),Bv (decide (10∈rest))]) hn (qas (kq (y:=.cells 0 145 [Iv ((k:Int)+1),Iv ((text.length:Int) - rest.length),Sv (upto 10 rest),Bv (decide (10∈rest))]) pf)));exact⟨(k+1,past 10 rest),⟨_,_,_,_,b7 _ _ _ _ e2 hi3,by omega,rfl,kq (kq pf),zz ⟨rfl,rfl,rfl,rfl,trivial⟩⟩,by simp only;omega⟩
 ·have hr:rest=[]:=Classical.not_not.1 h
  subst hr;exact qm rfl (qao rfl) (.inl ⟨k,hi⟩)
structure ItC (g:FuncId) (T:TypeId) (cs:List AV) {ι : Type} (Y : ι→Option (AV×ι)) (i0 : ι):Prop where
 run:∀ (o kb n m:Nat) (I : ι→List AObj→Prop) (D:List AObj→Prop) (S:List AObj),S.length=m→n≤m→I i0 S →
  (∀ i S',I i S'→S'[kb]? = some (.cells 0 T cs))→(∀ i S' S'',Ext n S' S''→I i S'→I i S'') →
  (∀ i x j S' (own:List AObj),I i S'→(∀ k y,own[k]? = some y→S'[m+k]? = some y∧qj5 (some y))→Y i=some (x,j)→y9 E o [x] S' fun b S''=>(∀ k y,own[k]? = some y→S''[m+k]? = some y)∧(b=true→I j S'')∧(b=false→D S'')) →
  qo E g [.yd o,.bx kb 0 0] S fun r S'=>(∃ i,Y i=none∧I i S')∨D S'
def qp2 (text:List UInt8):Nat×List UInt8→Option (AV×(Nat×List UInt8))
 |(k,rest)=>if rest=[]∨text.length<rest.length then none else some (qel k text rest,(k+1,past 10 rest))
theorem zf0 (text:List UInt8) (ht:text.length<4294967281):ItC 121 9 [Sv text] (qp2 text) (0,text):=⟨fun o kb n m I D S hm hn h0 hI b7 hY=>by
 refine (zcm text o kb 0 n m (fun k rest S=>I (k,rest) S∧rest.length≤text.length) D S hm hn ht ⟨h0,Nat.le_refl _⟩ (fun k rest S' h=>hI _ _ h.1) (fun k rest S' S'' hE h=>⟨b7 _ _ _ hE h.1,h.2⟩) (fun k rest S' cs hi cd a6 b0=>?_)).mono ?_
 ·refine (hY (k,rest) (qel k text rest) (k+1,past 10 rest) S' [.cells 0 145 cs] hi.1 (fun j y hy=>?_) (if_neg fun h=>h.elim a6 (by omega))).mono fun b S'' ⟨h1,h2,h3⟩=>⟨by have:=h1 0 _ rfl;simpa using this,fun hb=>⟨h2 hb,by have:=va 10 rest;omega⟩,h3⟩
  match j with
  | 0=>
   simp only [List.getElem?_cons_zero,Option.some.injEq] at hy;subst hy
   exact⟨cd,qas rfl⟩
  |j+1=>simp at hy
 ·rintro r S' (⟨k,h⟩|h)
  ·exact .inl ⟨(k,[]),by simp [qp2],h.1⟩
  ·exact .inr h⟩
@[reducible] def zkc (n : Nat) (F : LoopState → Option Code → AObj) (own : List AObj) (I : List AObj → Prop) (D : Code → List AObj → Prop) : Exit → AS → Prop
 | .normal,s=>s.st[n]? = some .dfr∧s.st[n+1]? = some (F .busy none)∧(∀ k y,own[k]? = some y→s.st[n+2+k]? = some y)∧I s.st
 | .ret,s=>s.st[n]? = some .dfr∧s.st[n+1]? = some (F .busy none)∧(∀ k y,own[k]? = some y→s.st[n+2+k]? = some y)∧D .ret s.st
 | .exit id,s=>s.st[n]? = some .dfr∧s.st[n+1]? = some (F .busy none)∧(∀ k y,own[k]? = some y→s.st[n+2+k]? = some y)∧D (.exit id) s.st
 | _,_=>False
theorem qj6 {N:Nat} {t:Nat→AV} {ps:Array Tmp} {asg body:Code} {F:LoopState→Option Code→AObj} (hF:qmi F N t ps asg body) (ls:LoopState) (pend:Option Code) {x:Option AObj} (h:x=some (F ls pend)):qj5 x:=fun n sz T' e=>by
 rw [h,hF] at e;simp at e
theorem q0x {N:Nat} {Q:Exit→AS→Prop} {s:AS} {f:Operand} {p:Tmp} {asg body:Code} {S0:List AObj} {kb:Nat} {g:FuncId} {T:TypeId} {cs:List AV} {ι : Type} {Y : ι→Option (AV×ι)} {i0 : ι} (hit:ItC g T cs Y i0) (b7:s.st=S0) (hx:ql N s f = .fn (.func g) [] [.bx kb 0 0])
  (a4:∀ vs w,(callFunc g vs).run E.P w = .ok (.enter g vs) w)
  (I : ι→List AObj→Prop) (D:Code→List AObj→Prop) (h0:I i0 S0)
  (hI:∀ i S,I i S→S[kb]? = some (.cells 0 T cs))
  (hs1:∀ i S S',Ext S0.length S S'→I i S→I i S') (rk:∀ c S S',Ext S0.length S S'→D c S→D c S')
  (hb:∀ F (own:List AObj) rd i x j S,qmi F N s.t #[p] asg body→I i S→Y i=some (x,j)→S[S0.length]? = some .dfr→S[S0.length+1]? = some (F .ready none)→(∀ k y,own[k]? = some y→S[S0.length+2+k]? = some y∧qj5 (some y)) →
   AWp E (some rd) N asg (only fun s1=>s1.st[S0.length+1]? = some (F .ready none)∧s1.df=[]∧AWp E (some rd) N body (zkc S0.length F own (I j) D) ⟨s1.t,s1.st.set (S0.length+1) (F .busy none),[]⟩) ⟨put s.t p x,S,[]⟩)
  (hn:∀ i S,Y i=none→I i S→S[S0.length]? = some .dfr→Q .normal ⟨s.t,S,S0.length::s.df⟩)
  (hd:∀ c S,D c S→S[S0.length]? = some .dfr→AWp E none N c Q ⟨s.t,S,S0.length::s.df⟩):AWp E none N (.rangeFunc f #[p] asg body) Q s:=by
 refine qmq (st:=S0) (loc:=[]) (by rw [b7];simp) hx a4 fun F hF=>?_;have hl:(S0++([]++[AObj.dfr,F .ready none])).length=S0.length+2:=by simp
 have g1:(S0++([]++[AObj.dfr,F .ready none]))[S0.length]? = some .dfr:=by simp
 have g2:(S0++([]++[AObj.dfr,F .ready none]))[S0.length+1]? = some (F .ready none):=by simp
 have hz:S0.length+(([]:List AObj).length+1)=S0.length+1:=by simp
 rw [hz,show S0.length+([]:List AObj).length=S0.length from rfl];refine qo.mono (hit.run (S0.length+1) kb (S0.length+2) (S0.length+2) (fun i S=>I i S∧S[S0.length]? = some .dfr∧S[S0.length+1]? = some (F .ready none)) (fun S=>∃ c,D c S∧S[S0.length]? = some .dfr∧S[S0.length+1]? = some (F .done (some c))) (S0++([]++[.dfr,F .ready none])) hl (Nat.le_refl _) ⟨hs1 _ _ _ (qjj (Nat.le_refl _)) h0,g1,g2⟩ (fun i S h=>hI i S h.1) (fun i S S' hE h=>⟨hs1 _ _ _ (hE.weak (by omega)) h.1,(hE.low _ (by omega)).trans h.2.1,(hE.low _ (by omega)).trans h.2.2⟩) ?_) ?_
 ·rintro i x j S' own ⟨hi,hd1,pz⟩ cd hy
  refine qr7 hF pz rfl fun rd=>?_;refine (hb F own rd i x j S' hF hi hy hd1 pz cd).mono fun e s1 hq=>?_;have fin:∀ {S:List AObj} {z:AObj},(∀ k y,own[k]? = some y→S[S0.length+2+k]? = some y)→∀ k y,own[k]? = some y→(S.set (S0.length+1) z)[S0.length+2+k]? = some y:=fun h k y hk=>vg (h k y hk) (by omega)
  cases e with
  |normal=>
   obtain⟨q1,q2,q3⟩:=hq;refine⟨q1,q2,q3.mono fun e s2 cj=>?_⟩
   cases e with
   |normal=>
    obtain⟨k1,k2,k3,k4⟩:=cj
    exact⟨k2,fin k3,fun _=>⟨hs1 _ _ _ (qek (by omega) (qj6 hF _ _ k2)) k4,vg k1 (by omega),kq k2⟩,nofun⟩
   |ret=>
    obtain⟨k1,k2,k3,k4⟩:=cj
    exact⟨k2,fin k3,nofun,fun _=>⟨_,rk _ _ _ (qek (by omega) (qj6 hF _ _ k2)) k4,vg k1 (by omega),kq k2⟩⟩
   |exit id=>
    obtain⟨k1,k2,k3,k4⟩:=cj
    exact⟨k2,fin k3,nofun,fun _=>⟨_,rk _ _ _ (qek (by omega) (qj6 hF _ _ k2)) k4,vg k1 (by omega),kq k2⟩⟩
   | _=>exact cj.elim
  | _=>exact hq.elim
 ·rintro r S' (⟨i,hy,hi,hd1,pz⟩ | ⟨c,hi,hd1,pz⟩)
  ·exact⟨.ready,none,nofun,pz,hn i _ hy (hs1 _ _ _ (qek (by omega) (qj6 hF _ _ pz)) hi) (vg hd1 (by omega))⟩
  ·exact⟨.done,some c,nofun,pz,hd c _ (rk _ _ _ (qek (by omega) (qj6 hF _ _ pz)) hi) (vg hd1 (by omega))⟩
end Go.Proofs.YtneejjefekdgjaaGreatDoor
namespace Go.Av
open Go Go.RowKit
theorem qtb {P:Program} {B0:Nat} {w0:World} {G:Gh} {st:List AObj} {w:World} (hA:zk B0 w0 G st w) {tt u ty T:TypeId} {du:TypeDesc} (htt:P.underlying tt=some (.slice T)) (hu:P.underlying u=some du) (hd:qjo du)
  {sz bytes:Nat} (hT:yi P T sz bytes) {t n m:Nat} (ht:st[t]? = some (.tip n sz T)) {xs ys:List AV} {x:Value} (hn:xs.length=n) (hm:ys.length=m)
  {news:List Value} (hx:Src P w x m sz news) (hys:∀ y∈ys,y.cells.length=sz) (d5:∀ (i:Nat) (a:AV) (b:Value),(flat ys)[i]? = some a→news[i]? = some b→Rel G a b)
  (i8:n+m≤maxLen) (base:Option Addr) (c:Nat) (olds:List Value) (ho:(Builtin.firstCells sz n (.slice base n c)).run P w.drew = .ok olds.toArray w.drew) (hc:c<n+m) (fm:olds.length=n * sz) (fb:(flat xs).length=n * sz) (hwx:∀ x∈xs,x.cells.length=sz)
  (hrx:∀ (j:Nat) (a:AV) (b:Value),(flat xs)[j]? = some a→olds[j]? = some b→Rel G a b) (d3:Builtin.nextslicecap (n+m) c * bytes≤281474976710656) (fc:m≠0) :
  ∃ v' w' G',(Builtin.append_ #[tt,u] ty #[.slice base n c,x]).run P w = .ok v' w'∧G.le G'∧zk B0 w0 G' (st.set t (.tip (n+m) sz T)) w'∧Rel G' (.sl sz (xs++ys) (some t)) v':=by
 obtain⟨i,z,hi,hz,rfl,rfl,ft⟩:=hT.ex;obtain⟨hraw,p8,htip⟩:=hA.ob t _ ht;have htn:t<G.n:=by rw [hA.n];exact lt_of_getElem? ht
 have b4:G.n=st.length:=hA.n;have hk:=hA.kill t;have gp:(st.set t .dead)[t]? = some .dead:=qar ht
 have e9:∀ o x,(st.set t .dead)[o]? = some x→x.live→o≠t∧st[o]? = some x:=fun o x hx hl=>by
  rcases getElem?_set' _ _ _ _ _ hx with⟨_,e⟩ | ⟨h1,h2⟩
  ·subst e;exact hl.elim
  ·exact⟨h1,h2⟩
 have cw:(st.set t AObj.dead).set t (.tip (n+m) i.size T)=st.set t (.tip (n+m) i.size T):=by rw [List.set_set]
 have e7:st.set t (.tip n i.size T)=st:=by
  apply List.ext_getElem?;intro k;by_cases e:t=k
  ·subst e;rw [List.getElem?_set_self (lt_of_getElem? ht)];exact ht.symm
  ·rw [List.getElem?_set_ne e]
 have a4:=qgx (ty:=ty) htt hu hd hi hz hx base n c olds ho hc (by simp only [maxLen] at i8;omega) d3;have dq:=grownCap_ge w (n+m) c T;have b0:=grownCap_le_maxLen w (n+m) c T i8;generalize grownCap w (n+m) c T=cap at a4 dq b0
 have d9:(olds.toArray++news.toArray++Builtin.zeroCells z.cells (cap - (n+m))).size=cap * i.size:=by
  simp only [Array.size_append,List.size_toArray,size_zeroCells,ft,fm,hx.count,← Nat.add_mul];congr 1;omega
 generalize hcv:olds.toArray++news.toArray++Builtin.zeroCells z.cells (cap - (n+m))=c' at a4 d9;have n7:Below w.heap.size w w.drew:=⟨rfl,rfl,rfl,Nat.le_refl _,fun _ _=>rfl⟩;have bw:=hk.fresh n7
 have cg:∀ (j:Nat) (y:Value),(olds++news)[j]? = some y→c'[j]? = some y:=fun j y hy=>by
  have hj:=lt_of_getElem? hy;rw [← hcv,Array.getElem?_append_left (by simp at hj ⊢;omega),List.append_toArray]
  simpa using hy
 obtain⟨i7,ck⟩:=bw.newPub T c' (0,0) (olds++news) cg
 have hnp:G.pub w.heap.size=none:=by
  cases hp:G.pub w.heap.size with
  |none=>rfl
  |some vs=>exact absurd (hA.pub_lt hp) (Nat.lt_irrefl _)
 obtain⟨n4,hA3⟩:=ck.setTip (n':=n+m) (vs:=olds++news) (k:=w.heap.size) (cap:=cap * i.size) (sz:=i.size) (T:=T) gp (by simpa [Gh.publish] using hraw) (by simpa [Gh.publish] using p8) (by omega) (qaf w.drew _) (by simp [Gh.publish]) (by simp [fm,hx.count,Nat.add_mul]) d9 hA.hB (fun o x hx hl=>by
  obtain⟨_,c9⟩:=e9 o x hx hl
  exact Nat.ne_of_lt ((hA.ob o x c9).lt hl))
 rw [cw] at hA3;refine⟨_,_,_,a4,i7.trans n4,hA3,?_⟩;have n9:∀ {a b},Rel G a b→Rel ((G.publish w.drew.heap.size (olds++news)).setOb t ⟨n+m,w.heap.size,cap * i.size,false⟩) a b:=fun h=>(h.mono i7).mono n4;refine qxa (n:=n) (m:=m) (cap:=cap) (k:=w.heap.size) (vs:=olds) (news:=news) (by simp [Gh.setOb]) (by simp [Gh.setOb]) (by simp [Gh.setOb]) b0 dq (by simpa [Gh.setOb,Gh.publish] using htn) (by omega) hn hm (by simp [Gh.setOb,Gh.publish]) (fun y hy=>?_) fm hx.count fb (fun j a b h1 h2=>n9 (hrx j a b h1 h2)) (fun j a b h1 h2=>n9 (d5 j a b h1 h2));rcases List.mem_append.1 hy with h|h
 ·exact hwx y h
 ·exact hys y h
def TipO (b:Nat) (st:List AObj) (sz:Nat) (T:TypeId) (xs:List AV) (c:AV):Prop:=TipC b st sz T xs c∨(xs=[]∧∃ o v f,c = .os o v f 0 0)
theorem q3y (b:Nat) (st:List AObj) (sz:Nat) (T:TypeId):TipO b st sz T [] zp:=.inl (zf5 ..)
theorem q64 (b:Nat) (st:List AObj) (sz:Nat) (T:TypeId) (o v f:Nat):TipO b st sz T [] (.os o v f 0 0):=.inr ⟨rfl,_,_,_,rfl⟩
theorem zii {G:Gh} {o v f:Nat} {sz:Nat} {x:Value} (h:Rel G (.os o v f 0 0) x):Rel G (.sl sz [] none) x:=by
 cases h with
 |os _ _ _ _ b _ hn hv h=>exact .sl0 sz none _ _ (by simp)
section
variable {E : Env} {rd : Option Nat} {N : Nat} {ops : Array Oper} {K : AS → Prop} {s : AS} {rest : List Oper} {d : Option Tmp} {T : TypeId} {p : String} {af : Array Edge}
theorem qjq {x y:Operand} {t u T':TypeId} {sz bytes b:Nat} {xs ys:List AV} {tip:Option Nat} {c:AV} {st:List AObj} (b7:s.st=st) (hx:ql N s x=c) (hy:ql N s y = .sl sz ys tip)
  (ht:E.P.underlying t=some (.slice T')) (hu:E.P.underlying u=some (.slice T')) (hT:yi E.P T' sz bytes) (hc:TipO b st sz T' xs c) (hb:b≤st.length) (d6:j7 (flat ys)=true) (i8:xs.length+ys.length≤maxLen) (hby:(xs.length+ys.length) * bytes≤140737488355328)
  (h:∀ c' st' t1,TipO b st' sz T' (xs++ys) c'→Fr st st' t1→b≤t1→(c = .sl sz xs (some t1)∨st.length≤t1)→AOps E rd N ops rest K (AS.put ⟨s.t,st',s.df⟩ d c')):AOps E rd N ops (⟨d,.call ⟨.builtin .append,#[x,y],#[t,u]⟩,T,p,af,none⟩::rest) K s:=by
 rcases hc with hc | ⟨dv,o,ver,f,hco⟩
 ·refine q0k b7 hx hc hb hy ht hu hT d6 i8 hby fun t1 st' g1 g2 g3 g4=>h _ st' t1 (.inl (.inr ⟨t1,rfl,g1,g2⟩)) g3 g2 g4
 ·subst b7
  subst dv;refine za rfl (q8 nofun fun B0 w0 G a w _ hI=>?_);have he:=hI.eval_of (hx.trans hco);obtain⟨news,k1,k2,k3⟩:=y6 (P:=E.P) hI.agree (hI.eval_of hy) (by simpa [j7] using d6);have hex:=hT.ex;obtain⟨i,z,hi,hz,d9,hbt,ft⟩:=hex;generalize hv:a.eval x=v at he
  cases he with
  |os _ _ _ _ blk _ hn hvv pr=>
   by_cases fc:ys.length=0
   ·have ln:ys=[]:=List.eq_nil_of_length_eq_zero fc
    subst ln
    have hk1':Src E.P w (a.eval y) 0 i.size []:=by
     have:news=[]:=List.eq_nil_of_length_eq_zero (by simpa using k1.count);rw [d9];rw [this] at k1;exact k1
    refine⟨_,w,G,_,s.st,?_,.refl G,hI.agree,.os o ver f 0 blk 0 hn hvv pr,h _ s.st s.st.length (.inr ⟨rfl,o,ver,f,rfl⟩) ⟨Nat.le_refl _,fun _ _ _=>rfl⟩ hb (.inr (Nat.le_refl _))⟩;have:=qcv (ty:=T) ht hu (.inr ⟨_,rfl⟩) hi hk1' (some ⟨blk,f,none⟩) 0 0 (Nat.le_refl _);generalize a.eval = ρ at hv this;simp [execOp,resolve,invoke,builtin,hv,this]
   ·have b0:=G.le_new 0 0 0 false
    have hA:=hI.agree.newTip sz T';have hz63:0+ys.length≤maxLen:=by simpa using i8
    obtain⟨v',w',G',e1,e2,e3,e4⟩:=qtb (ty:=T) hA ht hu (.inr ⟨_,rfl⟩) hT (t:=s.st.length) (n:=0) (xs:=[]) (by simp) rfl rfl k1 k2 (fun i a b h1 h2=>(k3 i a b h1 h2).mono b0) hz63 (some ⟨blk,f,none⟩) 0 []
     (run_firstCells_some w.drew sz 0 ⟨blk,f,none⟩ 0 0 [] (by simp) (by simp)) (by omega) (by simp) (by simp [flat]) (by simp) (by simp [flat]) (by rw [Nat.zero_add,nextslicecap_zero (by omega)];have:=hby;simp at this;omega) fc
    refine⟨v',w',G',_,_,?_,b0.trans e2,e3,e4,h _ _ s.st.length (.inl (.inr ⟨s.st.length,rfl,?_,hb⟩)) ⟨by simp,fun k hk b4=>?_⟩ hb (.inr (Nat.le_refl _))⟩
    ·generalize a.eval = ρ at e1 hv
     simp [execOp,resolve,invoke,builtin,hv,e1]
    ·simp
    ·rw [List.getElem?_set_ne (Ne.symm hk),List.getElem?_append_left b4]
end
theorem qc2 {α : Type} {g : α→AV} {l:List α} (h:∀ a,j7 (g a).cells=true):j7 (flat (l.map g))=true:=by
 induction l with
 |nil=>rfl
 |cons a r ih=>
  have h1:=h a;unfold j7 flat at *;rw [List.map_cons,List.flatMap_cons,List.all_append,h1,ih];rfl
theorem qnp {b:Nat} {st:List AObj} {sz:Nat} {T:TypeId} {xs:List AV} {c:AV} (h:TipO b st sz T xs c):∀ G v,Rel G c v→Rel G (.sl sz xs none) v:=by
 rcases h with (⟨rfl,rfl⟩ | ⟨t,rfl,_⟩) | ⟨rfl,o,v,f,rfl⟩
 ·exact fun G v h=>qb9 h
 ·exact fun G v h=>qle h
 ·exact fun G v h=>zii h
end Go.Av
namespace Go.Av
open Go Go.RowKit
inductive SrcA (st:List AObj) (sz:Nat):AV→Nat→Nat→List AV→Prop
 |sl (ys:List AV) (tip:Option Nat) (d6:j7 (flat ys)=true):SrcA st sz (.sl sz ys tip) ys.length ys.length (flat ys)
 |os (o ver off L cap m:Nat) (T:TypeId) (cs:List AV) (ho:st[o]? = some (.cells ver T cs)) (d3:off+m * sz≤cs.length) (d6:j7 ((cs.drop off).take (m * sz))=true):SrcA st sz (.os o ver off L cap) L m ((cs.drop off).take (m * sz))
structure SrcP (P:Program) (w:World) (x:Value) (L m size:Nat) (news:List Value):Prop where
 len:∀ w',(Builtin.lenOf x).run P w' = .ok L w'
 cells:∀ w',Below w.heap.size w w'→(Builtin.firstCells size m x).run P w' = .ok news.toArray w'
 count:news.length=m * size
 one:∀ u∈news,u.oneCell'=true
section
variable {B0 : Nat} {w0 : World} {G : Gh} {st : List AObj} {w : World}
theorem q61 {P:Program} (hA:zk B0 w0 G st w) {sz L m:Nat} {a:AV} {zs:List AV} {x:Value} (h:SrcA st sz a L m zs) (hr:Rel G a x) :
  ∃ news,SrcP P w x L m sz news∧zs.length=m * sz∧∀ (i:Nat) (a:AV) (b:Value),zs[i]? = some a→news[i]? = some b→Rel G a b:=by
 cases h with
 |sl ys tip d6=>
  obtain⟨news,h1,h2,h3⟩:=y6 (P:=P) hA hr (by simpa [j7] using d6)
  exact⟨news,⟨h1.len,h1.cells,h1.count,h1.one⟩,zt h2,h3⟩
 |os o ver off _ cap _ T cs ho d3 d6=>
  obtain⟨g0,g1,g2,g3,c,g4,g5,g6⟩:=hA.ob o _ ho
  cases hr with
  |os _ _ _ _ b _ hn hv hb=>
   have hb:=hb g1;subst hb
   have b5:∀ (j:Nat) (y:Value),((c.toList.drop off).take (m * sz))[j]? = some y→j<m * sz∧c[off+j]? = some y:=fun j y hy=>by
    rw [List.getElem?_take] at hy;split at hy
    ·rename_i hj
     rw [List.getElem?_drop] at hy;exact⟨hj,by simpa using hy⟩
    ·simp at hy
   have gq:((c.toList.drop off).take (m * sz)).length=m * sz:=by
    simp;omega
   refine⟨(c.toList.drop off).take (m * sz),⟨fun w'=>by simp [Builtin.lenOf],fun w' f9=>?_,gq,fun u hu=>?_⟩,by simp;omega,fun i a b h1 h2=>?_⟩
   ·refine run_firstCells_some w' sz m ⟨(G.ob o).blk,off,none⟩ L cap _ gq fun j y hy=>?_
    obtain⟨hj,hy⟩:=b5 j y hy
    have b4:(G.ob o).blk<w.heap.size:=by
     rcases Nat.lt_or_ge (G.ob o).blk w.heap.size with h'|h'
     ·exact h'
     ·simp [Array.getElem?_eq_none h'] at g4
    have e1:w'.heap[(G.ob o).blk]? = some (.cells c T (0,0)):=by rw [f9.block _ b4];exact g4
    rw [Addr.add_lit];simp [World.cell?,e1,hy]
   ·obtain⟨j,hj⟩:=List.getElem?_of_mem hu
    obtain⟨h1,h2⟩:=b5 j u hj;have hlc:off+j<cs.length:=by omega
    have hx:cs[off+j]? = some cs[off+j]:=List.getElem?_eq_getElem hlc;have hz:((cs.drop off).take (m * sz))[j]? = some cs[off+j]:=by rw [List.getElem?_take_of_lt h1,List.getElem?_drop];exact hx
    exact (g6 _ _ u hx h2).one (List.all_eq_true.1 d6 _ (List.mem_of_getElem? hz))
   ·obtain⟨h3,h4⟩:=b5 i b h2
    rw [List.getElem?_take_of_lt h3,List.getElem?_drop] at h1;exact g6 _ a b h1 h4
theorem qjp (hA:zk B0 w0 G st w) {o ver off:Nat} {T:TypeId} {cs zs:List AV} {news:List Value} {c:Array Value} (ho:st[o]? = some (.cells ver T cs)) (g4:w.heap[(G.ob o).blk]? = some (.cells c T (0,0))) (d3:off+zs.length≤cs.length) (hl:zs.length=news.length)
  (hr:∀ (i:Nat) (a:AV) (b:Value),zs[i]? = some a→news[i]? = some b→Rel G a b):zk B0 w0 G (st.set o (.cells ver T (zx cs off zs))) (w.setRow (G.ob o).blk (c.toList.take off++news++c.toList.drop (off+news.length)).toArray):=by
 obtain⟨_,_,_,_,c',h4,g5,g6⟩:=hA.ob o _ ho;rw [g4] at h4;simp only [Option.some.injEq,Obj.cells.injEq,and_true] at h4;subst h4;refine hA.setRow ho (by simp [zx];omega) ?_
 have e1:∀ (j:Nat) (a:AV) (b:Value),(cs.take off)[j]? = some a→(c.toList.take off)[j]? = some b→Rel G a b:=fun j a b h1 h2=>by
  rw [List.getElem?_take] at h1 h2;split at h1
  ·rename_i hj
   rw [if_pos hj] at h2;exact g6 j a b h1 (by simpa using h2)
  ·simp at h1
 have e2:=qa7 (G:=G) (cs:=cs.take off) (ds:=zs) (vs:=c.toList.take off) (us:=news) (by simp;omega) e1 hr
 have e3:=qa7 (G:=G) (cs:=cs.take off++zs) (ds:=cs.drop (off+zs.length)) (vs:=c.toList.take off++news) (us:=c.toList.drop (off+news.length)) (by simp;omega) e2 (fun j a b h1 h2=>by
  rw [List.getElem?_drop] at h1 h2;rw [hl] at h1
  exact g6 _ a b h1 (by simpa using h2))
 unfold zx;intro j a b h1 h2;exact e3 j a b h1 (by simpa using h2)
end
section
variable {E : Env} {rd : Option Nat} {N : Nat} {ops : Array Oper} {K : AS → Prop} {s : AS} {rest : List Oper} {d : Option Tmp} {T : TypeId} {p : String} {af : Array Edge}
theorem qn0 {x y:Operand} {t u T':TypeId} {sz bytes o ver n cap m:Nat} {cs zs:List AV} {a:AV} (hx:ql N s x = .os o ver 0 n cap) (hy:ql N s y=a) (ho:s.st[o]? = some (.cells ver T' cs)) (o7:SrcA s.st sz a m m zs)
  (ht:E.P.underlying t=some (.slice T')) (hu:E.P.underlying u=some (.slice T')) (hT:yi E.P T' sz bytes) (f8:n+m≤cap) (nw:cs.length=cap * sz)
  (h:AOps E rd N ops rest K (AS.put ⟨s.t,s.st.set o (.cells ver T' (zx cs (n * sz) zs)),s.df⟩ d (.os o ver 0 (n+m) cap))):AOps E rd N ops (⟨d,.call ⟨.builtin .append,#[x,y],#[t,u]⟩,T,p,af,none⟩::rest) K s:=by
 refine za rfl (q8 nofun fun B0 w0 G a0 w _ hI=>?_);obtain⟨i,z,hi,hz,rfl,rfl,ft⟩:=hT.ex;obtain⟨news,h1,h2,h3⟩:=q61 (P:=E.P) hI.agree o7 (hI.eval_of hy);have hv:=hI.eval_of hx;generalize r9:a0.eval x=v at hv;obtain⟨g0,g1,g2,g3,c,g4,g5,g6⟩:=hI.agree.ob o _ ho;have tz:n * i.size+m * i.size≤cap * i.size:=by rw [← Nat.add_mul];exact Nat.mul_le_mul_right _ f8
 cases hv with
 |os _ _ _ _ b _ hn hv hb=>
  have hb:=hb g1;subst hb;have a4:=qkd (ty:=T) ht hu (.inr ⟨_,rfl⟩) hi ⟨h1.len,h1.cells,h1.count,h1.one⟩ (G.ob o).blk n cap c g4 f8 (by rw [h1.count];omega);refine⟨_,_,G,_,_,?_,.refl G,qjp hI.agree ho g4 (by omega) (by rw [h1.count];exact h2) h3,.os o ver 0 (n+m) _ cap hn hv (fun _=>rfl),h⟩;generalize a0.eval = ρ at a4 r9 ⊢;simp [execOp,resolve,invoke,builtin,r9,a4]
theorem qa4 {x y:Operand} {t u T':TypeId} {sz bytes o ver off dl dc L m:Nat} {cs zs:List AV} {a:AV} (hx:ql N s x = .os o ver off dl dc) (hy:ql N s y=a) (ho:s.st[o]? = some (.cells ver T' cs)) (o7:SrcA s.st sz a L m zs) (hm:Nat.min L dl=m)
  (ht:E.P.underlying t=some (.slice T')) (hT:yi E.P T' sz bytes) (d3:off+m * sz≤cs.length)
  (h:AOps E rd N ops rest K (AS.put ⟨s.t,s.st.set o (.cells ver T' (zx cs off zs)),s.df⟩ d (Iv (m:Nat)))):AOps E rd N ops (⟨d,.call ⟨.builtin .copy,#[x,y],#[t,u]⟩,T,p,af,none⟩::rest) K s:=by
 refine za rfl (q8 nofun fun B0 w0 G a0 w _ hI=>?_);obtain⟨i,z,hi,hz,rfl,rfl,ft⟩:=hT.ex;obtain⟨news,h1,h2,h3⟩:=q61 (P:=E.P) hI.agree o7 (hI.eval_of hy);have hv:=hI.eval_of hx;generalize r9:a0.eval x=v at hv;obtain⟨g0,g1,g2,g3,c,g4,g5,g6⟩:=hI.agree.ob o _ ho
 cases hv with
 |os _ _ _ _ b _ hn hv hb=>
  have hb:=hb g1;subst hb;have b7:=run_storeCells_at E.P (G.ob o).blk off T' news 0 c w g4 (by rw [h1.count];omega) h1.one;simp only [Nat.add_zero] at b7;have cz:=h1.cells w (Below.refl _ _);refine⟨_,_,G,_,_,?_,.refl G,qjp hI.agree ho g4 (by omega) (by rw [h1.count];exact h2) h3,.v _,h⟩;have hl:=h1.len w;generalize a0.eval = ρ at r9 b7 cz hl ⊢;simp [execOp,resolve,invoke,builtin,r9,Builtin.copy_,run_underlying ht,sizeOf,typeInfo,hi,hl,hm,cz,b7,goInt]
def q7a (P:Program) (T:TypeId):Bool:=
 match P.info? T with
 |some i=>(match i.zero with
  |some z=>z.cells.toList.all Value.oneCell'
  |none=>false)
 |none=>false
theorem q0n {x:Operand} {t T':TypeId} {sz bytes o ver off n cap:Nat} {cs:List AV} (hx:ql N s x = .os o ver off n cap) (ho:s.st[o]? = some (.cells ver T' cs))
  (ht:E.P.underlying t=some (.slice T')) (hT:yi E.P T' sz bytes) (hz1:q7a E.P T'=true) (d3:off+n * sz≤cs.length)
  (h:∀ zs:List AV,zs.length=n * sz→AOps E rd N ops rest K (AS.put ⟨s.t,s.st.set o (.cells ver T' (zx cs off zs)),s.df⟩ d (.v undef))):AOps E rd N ops (⟨d,.call ⟨.builtin .clear,#[x],#[t]⟩,T,p,af,none⟩::rest) K s:=by
 refine za rfl (q8 nofun fun B0 w0 G a0 w _ hI=>?_);obtain⟨i,z,hi,hz,rfl,rfl,ft⟩:=hT.ex;have hv:=hI.eval_of hx;generalize r9:a0.eval x=v at hv;obtain⟨g0,g1,g2,g3,c,g4,g5,g6⟩:=hI.agree.ob o _ ho
 cases hv with
 |os _ _ _ _ b _ hn hv hb=>
  have hb:=hb g1;subst hb;by_cases h0:n=0
  ·subst h0
   have e7:s.st.set o (.cells ver T' (zx cs off []))=s.st:=by
    have e:zx cs off []=cs:=by simp [zx]
    rw [e];apply List.ext_getElem?;intro k;by_cases e:o=k
    ·subst e;rw [List.getElem?_set_self (lt_of_getElem? ho)];exact ho.symm
    ·rw [List.getElem?_set_ne e]
   have hh:=h [] (by simp);refine⟨_,_,G,_,_,?_,.refl G,hI.agree,.v _,by rw [e7] at hh;exact hh⟩;generalize a0.eval = ρ at r9 ⊢;simp [execOp,resolve,invoke,builtin,r9,Builtin.clear_,run_underlying ht,undef]
  ·have pn:(Builtin.zeroCells z.cells n).toList.length=n * i.size:=by simp [size_zeroCells,ft]
   have hz1:∀ u∈(Builtin.zeroCells z.cells n).toList,u.oneCell'=true:=fun u hu=>by
    unfold q7a at hz1;rw [hi] at hz1;simp only [hz] at hz1;refine List.all_eq_true.1 hz1 u ?_;simp only [Builtin.zeroCells,Array.toList_map,List.mem_map,Array.toList_range,List.mem_range] at hu;obtain⟨q,hq,rfl⟩:=hu
    have hp:q % z.cells.size<z.cells.size:=Nat.mod_lt _ (by
     rcases Nat.eq_zero_or_pos z.cells.size with h|h
     ·rw [h] at hq;omega
     ·exact h)
    rw [getElem!_pos z.cells _ hp];simp
   have b7:=run_storeCells_at E.P (G.ob o).blk off T' (Builtin.zeroCells z.cells n).toList 0 c w g4 (by rw [pn];omega) hz1;simp only [Nat.add_zero] at b7;have hh:=h ((Builtin.zeroCells z.cells n).toList.map AV.v) (by simpa using pn);refine⟨_,_,G,_,_,?_,.refl G,qjp (news:=(Builtin.zeroCells z.cells n).toList) hI.agree ho g4 (by rw [List.length_map,pn];exact d3) (by simp) (fun j a b h1 h2=>?_),.v _,hh⟩
   ·generalize a0.eval = ρ at r9 b7 ⊢
    obtain⟨n',rfl⟩:∃ n',n=n'+1:=⟨n - 1,by omega⟩;simp [execOp,resolve,invoke,builtin,r9,Builtin.clear_,run_underlying ht,zeroValue,typeInfo,hi,hz,b7,undef]
   ·rw [List.getElem?_map,h2] at h1
    simp at h1;subst h1;exact .v _
theorem qvm {P:Program} {t e:TypeId} {sz:Nat} {agg:Bool} (hu:P.underlying t=some (.slice e)) (ht:tyOf P e=some (sz,agg)) (a:Option Addr) (len cap:Nat) (lo hi mx:Option Value) (i j m:Nat) (w:World)
  (u7:match lo with|none=>i=0|some v=>∃ k,v = .int k (i:Int)) (o8:match hi with|none=>j=len∧mx=none|some v=>∃ k,v = .int k (j:Int)) (rg:match mx with|none=>m=cap|some v=>∃ k,v = .int k (m:Int)) (h1:i≤j) (h2:j≤m) (h3:m≤cap) :
  (Instr.slice t (.slice a len cap) lo hi mx).run P w = .ok (.slice (if m=i then a else a.map (·.add (i * sz))) (j - i) (m - i)) w:=by
 have hs:=(vj ht w).1
 cases lo with
 |none=>
  simp only at u7;subst u7
  cases hi with
  |none=>
   obtain⟨rfl,rfl⟩:=o8;simp only at rg;subst rg
   simp [Instr.slice,run_underlying hu,Instr.sliceBounds,hs]
  |some v=>
   obtain⟨k,rfl⟩:=o8
   cases mx with
   |none=>
    simp only at rg;subst rg
    simp [Instr.slice,run_underlying hu,Instr.sliceBounds,Instr.sliceBound,asIntOf,hs,h2]
   |some u=>
    obtain⟨k',rfl⟩:=rg
    simp [Instr.slice,run_underlying hu,Instr.sliceBounds,Instr.sliceBound,asIntOf,hs,h2,h3]
 |some u=>
  obtain⟨k',rfl⟩:=u7
  cases hi with
  |none=>
   obtain⟨rfl,rfl⟩:=o8;simp only at rg;subst rg
   simp [Instr.slice,run_underlying hu,Instr.sliceBounds,Instr.sliceBound,asIntOf,hs,h1]
  |some v=>
   obtain⟨k,rfl⟩:=o8
   cases mx with
   |none=>
    simp only at rg;subst rg
    simp [Instr.slice,run_underlying hu,Instr.sliceBounds,Instr.sliceBound,asIntOf,hs,h1,h2]
   |some u=>
    obtain⟨k'',rfl⟩:=rg;simp [Instr.slice,run_underlying hu,Instr.sliceBounds,Instr.sliceBound,asIntOf,hs,h1,h2,h3]
theorem z0 {x:Operand} {t e:TypeId} {lo hi mx:Option Operand} {sz:Nat} {agg:Bool} {o ver off len cap i j m:Nat} (hx:ql N s x = .os o ver off len cap) (hu:E.P.underlying t=some (.slice e)) (ht:tyOf E.P e=some (sz,agg))
  (u7:match lo with|none=>i=0|some y=>∃ k,ql N s y = .v (.int k (i:Int))) (o8:match hi with|none=>j=len∧mx=none|some y=>∃ k,ql N s y = .v (.int k (j:Int))) (rg:match mx with|none=>m=cap|some y=>∃ k,ql N s y = .v (.int k (m:Int))) (h1:i≤j) (h2:j≤m) (h3:m≤cap)
  (h:AOps E rd N ops rest K (s.put d (.os o ver (if m=i then off else off+i * sz) (j - i) (m - i)))):AOps E rd N ops (⟨d,.slice t x lo hi mx,T,p,af,none⟩::rest) K s:=by
 refine za rfl (q8 nofun fun B0 w0 G a w _ hI=>?_);have he:=hI.eval_of hx;generalize hv:a.eval x=v at he
 cases he with
 |os _ _ _ _ b _ hn hvr hb=>
  have a4:=qvm hu ht (some ⟨b,off,none⟩) len cap (lo.map a.eval) (hi.map a.eval) (mx.map a.eval) i j m w (by
   cases lo with
   |none=>exact u7
   |some y=>obtain⟨k,hy⟩:=u7;exact⟨k,hI.evalv hy⟩) (by
   cases hi with
   |none=>obtain⟨q1,q2⟩:=o8;subst q2;exact⟨q1,rfl⟩
   |some y=>obtain⟨k,hy⟩:=o8;exact⟨k,hI.evalv hy⟩) (by
   cases mx with
   |none=>exact rg
   |some y=>obtain⟨k,hy⟩:=rg;exact⟨k,hI.evalv hy⟩) h1 h2 h3
  refine⟨.slice (if m=i then some ⟨b,off,none⟩ else (some ⟨b,off,none⟩:Option Addr).map (·.add (i * sz))) (j - i) (m - i),w,G,_,s.st,?_,.refl G,hI.agree,?_,h⟩
  ·generalize a.eval = ρ at hv a4 ⊢
   simp only [execOp,hv];simp [Instr.sliceAt,run_underlying hu,a4]
  ·have i9:Addr.add ⟨b,off,none⟩ (i * sz)=⟨b,off+i * sz,none⟩:=Addr.add_lit ..
   by_cases lj:m=i
   ·rw [if_pos lj,if_pos lj]
    exact .os o ver off (j - i) b (m - i) hn hvr hb
   ·rw [if_neg lj,if_neg lj,Option.map_some,i9]
    exact .os o ver (off+i * sz) (j - i) b (m - i) hn hvr hb
theorem qfj {x y:Operand} {t u T':TypeId} {sz bytes:Nat} {ys:List AV} (hx:∀ (G:Gh) (v:Value),Rel G (ql N s x) v→∃ base,v = .slice base 0 0) (hy:∀ (G:Gh) (v:Value),Rel G (ql N s y) v→Rel G (.sl sz ys none) v)
  (ht:E.P.underlying t=some (.slice T')) (hu:E.P.underlying u=some (.slice T')) (hT:yi E.P T' sz bytes) (d6:j7 (flat ys)=true) (h0:ys≠[]) (i8:ys.length≤maxLen) (hb:ys.length * bytes≤140737488355328)
  (h:∀ cap pad,(flat ys++pad).length=(cap+1) * sz→(∀ y∈ys,y.cells.length=sz)→ys.length≤cap+1→cap+1≤maxLen→AOps E rd N ops rest K (AS.put ⟨s.t,s.st++[.cells 0 T' (flat ys++pad)],s.df⟩ d (.os s.st.length 0 0 ys.length (cap+1)))):AOps E rd N ops (⟨d,.call ⟨.builtin .append,#[x,y],#[t,u]⟩,T,p,af,none⟩::rest) K s:=by
 refine za rfl (q8 nofun fun B0 w0 G a0 w _ hI=>?_);obtain⟨i,z,hi,hz,rfl,rfl,ft⟩:=hT.ex;obtain⟨news,h1,h2,h3⟩:=y6 (P:=E.P) hI.agree (hy _ _ (hI.eval y)) (by simpa [j7] using d6);obtain⟨base,hv⟩:=hx _ _ (hI.eval x);have a7:0<ys.length:=List.length_pos_iff.2 h0
 have d1:(Builtin.firstCells i.size 0 (.slice base 0 0)).run E.P w.drew = .ok ([]:List Value).toArray w.drew:=by
  cases base with
  |none=>simp [run_firstCells_none]
  |some a=>exact run_firstCells_some w.drew i.size 0 a 0 0 [] (by simp) (by simp)
 have a4:=qgx (ty:=T) ht hu (.inr ⟨_,rfl⟩) hi hz h1 base 0 0 [] d1 (by omega) (by simp only [maxLen] at i8;omega) (by simp only [Nat.zero_add];rw [nextslicecap_zero (by omega)];omega);simp only [Nat.zero_add] at a4;have dq:=grownCap_ge w ys.length 0 T';have b0:=grownCap_le_maxLen w ys.length 0 T' i8;generalize grownCap w ys.length 0 T'=cap at a4 dq b0;obtain⟨cap,rfl⟩:∃ c,cap=c+1:=⟨cap - 1,by omega⟩;generalize hzc:Builtin.zeroCells z.cells (cap+1 - ys.length)=zc at a4;have pn:zc.size=(cap+1 - ys.length) * i.size:=by rw [← hzc,size_zeroCells,ft]
 have tl:(flat ys).length=ys.length * i.size:=zt h2;have n7:Below w.heap.size w w.drew:=⟨rfl,rfl,rfl,Nat.le_refl _,fun _ _=>rfl⟩
 have hr:=qa7 (G:=G) (cs:=flat ys) (ds:=zc.toList.map AV.v) (vs:=news) (us:=zc.toList) (by rw [tl,h1.count]) h3 (fun j a b h1 h2=>by
  rw [List.getElem?_map,h2] at h1;simp at h1;subst h1
  exact .v _)
 have hA:=(hI.agree.fresh n7).newCells T' (([]:List Value).toArray++news.toArray++zc) (flat ys++zc.toList.map AV.v) (by simp [tl,h1.count]) (fun j a b q1 q2=>hr j a b q1 (by rw [← q2];simp [← Array.getElem?_toList]));have hn:=hI.agree.n;refine⟨_,_,_,_,_,?_,G.le_new _ _ _ _,hA,.os _ _ _ _ _ _ (by simp [Gh.new,hn]) (Nat.zero_le _) (fun _=>by simp [Gh.new,hn];rfl),h cap (zc.toList.map AV.v) ?_ h2 dq b0⟩
 ·generalize a0.eval = ρ at a4 hv ⊢
  simp [execOp,resolve,invoke,builtin,hv,a4]
 ·have h1:zc.toList.length=(cap+1 - ys.length) * i.size:=by rw [← pn];simp
  rw [List.length_append,tl,List.length_map,h1,← Nat.add_mul];congr 1;omega
theorem qn1 {x y:Operand} {t u T':TypeId} {sz bytes o:Nat} {xs ys:List AV} {a:AV} {ob:AObj} (hx:ql N s x=a) (hy:∀ (G:Gh) (v:Value),Rel G (ql N s y) v→Rel G (.sl sz ys none) v) (hV:Vec sz T' o xs a ob) (ho:s.st[o]? = some ob)
  (ht:E.P.underlying t=some (.slice T')) (hu:E.P.underlying u=some (.slice T')) (hT:yi E.P T' sz bytes) (d6:j7 (flat ys)=true) (i8:xs.length+ys.length≤maxLen) (hb:(xs.length+ys.length) * bytes≤140737488355328)
  (h:∀ a' ob',Vec sz T' o (xs++ys) a' ob'→AOps E rd N ops rest K (AS.put ⟨s.t,s.st.set o ob',s.df⟩ d a')):AOps E rd N ops (⟨d,.call ⟨.builtin .append,#[x,y],#[t,u]⟩,T,p,af,none⟩::rest) K s:=by
 refine za rfl (q8 nofun fun B0 w0 G a0 w _ hI=>?_);obtain⟨news,h1,h2,h3⟩:=y6 (P:=E.P) hI.agree (hy _ _ (hI.eval y)) (by simpa [j7] using d6);obtain⟨v',w',G',a',ob',e1,e2,e3,e4,e5⟩:=qnz (ty:=T) hI.agree ht hu (.inr ⟨_,rfl⟩) hT hV ho (hI.eval_of hx) h1 h2 h3 i8 hb;refine⟨v',w',G',_,_,?_,e2,e3,e4,h a' ob' e5⟩;generalize a0.eval = ρ at e1;simp [execOp,resolve,invoke,builtin,e1]
theorem qog {x y:Operand} {t u T':TypeId} {sz bytes:Nat} {c:AV} (hx:ql N s x=c) (hc:∀ G v,Rel G c v→∃ b n cp,v = .slice b n cp∧n≤cp) (hy:∀ (G:Gh) (v:Value),Rel G (ql N s y) v→Rel G (.sl sz [] none) v)
  (ht:E.P.underlying t=some (.slice T')) (hu:E.P.underlying u=some (.slice T')) (hT:yi E.P T' sz bytes) (h:AOps E rd N ops rest K (s.put d c)):AOps E rd N ops (⟨d,.call ⟨.builtin .append,#[x,y],#[t,u]⟩,T,p,af,none⟩::rest) K s:=by
 refine za rfl (q8 nofun fun B0 w0 G a0 w _ hI=>?_);obtain⟨i,z,hi,hz,rfl,rfl,ft⟩:=hT.ex;obtain⟨news,h1,h2,h3⟩:=y6 (P:=E.P) hI.agree (hy _ _ (hI.eval y)) (by simp [flat]);have bz:news=[]:=List.eq_nil_of_length_eq_zero (by simpa using h1.count);subst bz;have hv:=hI.eval_of hx;obtain⟨b,n,cp,hv2,b0⟩:=hc _ _ hv;have a4:=qcv (ty:=T) ht hu (.inr ⟨_,rfl⟩) hi h1 b n cp b0;refine⟨_,w,G,c,s.st,?_,.refl G,hI.agree,hv,h⟩;rw [hv2];generalize a0.eval = ρ at a4 hv2;simp [execOp,resolve,invoke,builtin,hv2,a4]
end
end Go.Av
namespace Go.Av
open Go Go.RowKit
theorem qsy {P:Program} (w:World) (tS tR e:TypeId) (ht:P.underlying tS=some (.slice e)) (size:Nat) (hz:∀ w,(Go.sizeOf e).run P w = .ok size w)
  (a b:Addr) (la ca lb cb:Nat) (a6:a.block≠b.block) (tA tB:TypeId) (kA kB:Nat)
  (hsa:w.shape? a.block=some (tA,kA)) (hsb:w.shape? b.block=some (tB,kB)) (hkA:kA≠0)
  (hfb:w.frozen? b=false) (hfe:w.frozen? { block:=b.block,off:=kB }=false) :
  (Extern.SlicesOverlaps.overlaps #[tS,tS] #[tR] #[.slice (some a) la ca,.slice (some b) lb cb]).run P w = .ok (.bool false) w:=by
 have hnb:(a.block != b.block)=true:=by simpa using a6
 have hnb':(a.block == b.block)=false:=by simpa using a6
 change Sem.run P (α:=Value) (do
  let some t := (#[tS, tS] : Array TypeId)[0]? | stuck "slices.overlaps: no parameter types"
  let .slice elem ← underlying t | stuck "slices.overlaps: slice type expected"
  let size ← sizeOf elem
  match (some a:Option Addr),(some b:Option Addr) with
  |some a,some b=>
   if la=0∨lb=0∨size=0 then pure (Value.bool false)
   else if a.block != b.block && (← frozen a) && (← frozen b) then unsupported .addressObserved
   else do
    if a.block != b.block then do
     noView a;noView b
     if ← mayBeOne a b then return Value.bool ((← choose (.extern "sameAddr.stringBytes" 2)) == 1)
    pure (Value.bool (a.block == b.block && a.off<b.off+lb * size && b.off<a.off+la * size))
  | _,_=>pure (Value.bool false)) w=_
 by_cases h0:la=0∨lb=0∨size=0
 ·simp [run_underlying ht,hz,h0]
 ·cases kA with
  |zero=>exact absurd rfl hkA
  |succ kA=>
   cases hA:w.frozen? a <;> cases ck:w.frozen? { block:=a.block,off:=kA+1 } <;>
    simp [run_underlying ht,hz,h0,hnb,hnb',frozen,noView,viewAt,mayBeOne,stringish,shape,Sem.run,hsa,hsb,hfb,hfe,hA,ck]
section
variable {E : Env} {rd : Option Nat} {N : Nat} {ops : Array Oper} {K : AS → Prop} {s : AS} {rest : List Oper} {d : Option Tmp} {T : TypeId} {p : String} {af : Array Edge}
theorem qte {x:Operand} {t0 e:TypeId} {ts:Array TypeId} {o ver off len cap:Nat} (hx:ql N s x = .os o ver off len cap) (ht:ts[0]? = some t0) (hu:E.P.underlying t0=some (.slice e))
  (h:AOps E rd N ops rest K (s.put d (Iv cap))):AOps E rd N ops (⟨d,.call ⟨.builtin .cap,#[x],ts⟩,T,p,af,none⟩::rest) K s:=by
 refine za rfl (q8 nofun fun B0 w0 G a w _ hI=>?_);have he:=hI.eval_of hx;generalize hv:a.eval x=v at he
 cases he with
 |os _ _ _ _ b _ hn hvr hb=>
  refine⟨_,w,G,_,s.st,?_,.refl G,hI.agree,.v _,h⟩;generalize a.eval = ρ at hv ⊢;simp [execOp,resolve,invoke,builtin,hv,Builtin.cap_,ht,run_underlying hu,goInt]
theorem qr0 {x y:Operand} {t u T':TypeId} {kn:IntKind} {sz bytes o ver n cap k:Nat} {cs:List AV} (hx:ql N s x = .os o ver 0 n cap) (hy:ql N s y=Iv (k:Nat)) (ho:s.st[o]? = some (.cells ver T' cs))
  (ht:E.P.underlying t=some (.slice T')) (hu:E.P.underlying u=some (.int kn)) (hT:yi E.P T' sz bytes) (g7:cap<n+k) (hk:0<k) (d9:0<sz) (d3:n * sz≤cs.length) (i8:n+k≤maxLen) (hb:(n+k) * bytes≤140737488355328)
  (h:∀ cap' (zs:List AV),zs.length=(cap' - n) * sz→n+k≤cap'→cap'≤maxLen→AOps E rd N ops rest K (AS.put ⟨s.t,s.st++[.cells 0 T' (cs.take (n * sz)++zs)],s.df⟩ d (.os s.st.length 0 0 (n+k) cap'))):AOps E rd N ops (⟨d,.call ⟨.builtin .append,#[x,y],#[t,u]⟩,T,p,af,none⟩::rest) K s:=by
 refine za rfl (q8 nofun fun B0 w0 G a0 w _ hI=>?_);obtain⟨i,z,hi,hz,rfl,rfl,ft⟩:=hT.ex;have hyv:=hI.evalv hy;have hv:=hI.eval_of hx;generalize r9:a0.eval x=v at hv;obtain⟨g0,g1,g2,g3,c,g4,g5,g6⟩:=hI.agree.ob o _ ho
 cases hv with
 |os _ _ _ _ b _ hn hv lz=>
  have lz:=lz g1;subst lz
  have d1:(Builtin.firstCells i.size n (.slice (some ⟨(G.ob o).blk,0,none⟩) n cap)).run E.P w.drew = .ok (c.toList.take (n * i.size)).toArray w.drew:=by
   refine run_firstCells_some w.drew i.size n ⟨(G.ob o).blk,0,none⟩ n cap _ (by simp;omega) fun j y hy=>?_;have e1':w.drew.heap[(G.ob o).blk]? = some (.cells c T' (0,0)):=g4;rw [Addr.add_lit];rw [List.getElem?_take] at hy;split at hy
   ·simp only [Array.getElem?_toList] at hy
    simp [World.cell?,e1',hy]
   ·simp at hy
  have hkb:k * i.bytes≤(n+k) * i.bytes:=Nat.mul_le_mul_right _ (by omega);have a4:=Lib.run_append_grow_zeros w t u T T' i z .i64 kn ht hu hi hz (some ⟨(G.ob o).blk,0,none⟩) n cap _ d1 k hk d9 g7 (by simp only [maxLen] at i8;omega) (by omega) (growslice_fits (by omega) hb);have dq:=grownCap_ge w (n+k) cap T';have b0:=grownCap_le_maxLen w (n+k) cap T' i8;generalize grownCap w (n+k) cap T'=cap' at a4 dq b0;have pn:(Builtin.zeroCells z.cells k).size=k * i.size:=by rw [size_zeroCells,ft]
  have hzl2:(Builtin.zeroCells z.cells (cap' - (n+k))).size=(cap' - (n+k)) * i.size:=by rw [size_zeroCells,ft]
  generalize Builtin.zeroCells z.cells k=zc at a4 pn;generalize Builtin.zeroCells z.cells (cap' - (n+k))=zd at a4 hzl2;have n7:Below w.heap.size w w.drew:=⟨rfl,rfl,rfl,Nat.le_refl _,fun _ _=>rfl⟩
  have e1:∀ (j:Nat) (a:AV) (b:Value),(cs.take (n * i.size))[j]? = some a→(c.toList.take (n * i.size))[j]? = some b→Rel G a b:=fun j a b h1 h2=>by
   rw [List.getElem?_take] at h1 h2;split at h1
   ·rename_i hj
    rw [if_pos hj] at h2;exact g6 j a b h1 (by simpa using h2)
   ·simp at h1
  have hr:=qa7 (G:=G) (cs:=cs.take (n * i.size)) (ds:=(zc.toList++zd.toList).map AV.v) (vs:=c.toList.take (n * i.size)) (us:=zc.toList++zd.toList) (by simp;omega) e1 (fun j a b h1 h2=>by
   rw [List.getElem?_map,h2] at h1;simp at h1;subst h1
   exact .v _)
  have hA:=(hI.agree.fresh n7).newCells T' ((c.toList.take (n * i.size)).toArray++zc++zd) (cs.take (n * i.size)++(zc.toList++zd.toList).map AV.v) (by simp;omega) (fun j a b q1 q2=>hr j a b q1 (by rw [← q2];simp [← Array.getElem?_toList]));have hn:=hI.agree.n;refine⟨_,_,_,_,_,?_,G.le_new _ _ _ _,hA,.os _ _ _ _ _ _ (by simp [Gh.new,hn]) (Nat.zero_le _) (fun _=>by simp [Gh.new,hn];rfl),h cap' _ ?_ dq b0⟩
  ·generalize a0.eval = ρ at a4 r9 hyv ⊢
   simp [execOp,resolve,invoke,builtin,r9,hyv,a4]
  ·have h1:zc.toList.length=k * i.size:=by rw [← pn];simp
   have h2:zd.toList.length=(cap' - (n+k)) * i.size:=by rw [← hzl2];simp
   rw [List.length_map,List.length_append,h1,h2,← Nat.add_mul];congr 1;omega
theorem qzg {f:FuncId} {x y:Operand} {ts:Array TypeId} {T':TypeId} {sz o ver off n c:Nat} {xs cs:List AV} {tip:Option Nat} (hx:ql N s x = .sl sz xs tip) (hy:ql N s y = .os o ver off n c) (ho:s.st[o]? = some (.cells ver T' cs)) (dv:flat xs≠[])
  (a4:∀ (w:World) (a b:Addr) (la ca lb cb:Nat) (tA tB:TypeId) (kA kB:Nat),a.block≠b.block→w.shape? a.block=some (tA,kA)→w.shape? b.block=some (tB,kB)→kA≠0→w.frozen? b=false→w.frozen? { block:=b.block,off:=kB }=false→(callFunc f #[.slice (some a) la ca,.slice (some b) lb cb]).run E.P w = .ok (.value (.bool false)) w)
  (h:AOps E rd N ops rest K (s.put d (Bv false))):AOps E rd N ops (⟨d,.call ⟨.value (.func f),#[x,y],ts⟩,T,p,af,none⟩::rest) K s:=by
 refine za rfl (q8 nofun fun B0 w0 G a w _ hI=>?_);have h1:=hI.eval_of hx;have h2:=hI.eval_of hy;generalize hvx:a.eval x=v at h1;generalize hvy:a.eval y=u at h2;obtain⟨g0,g1,g2,g3,cc,g4,g5,g6⟩:=hI.agree.ob o _ ho
 cases h1 with
 |sl0=>exact absurd rfl dv
 |sl _ _ _ b off2 cap pub hp hw a7 hr hto nt=>
  cases h2 with
  |os _ _ _ _ b2 _ hn hv hb=>
   have hb:=hb g1;subst hb;obtain⟨c2,T2,fz,q1,q2⟩:=hI.agree.pub b pub hp;have a6:b≠(G.ob o).blk:=fun e=>by rw [e,g3] at hp;simp at hp
   have hc2:c2.size≠0:=fun e=>by
    have h0:0<(flat xs).length:=List.length_pos_iff.2 dv;have h3:pub[off2]? = some pub[off2]:=List.getElem?_eq_getElem (by omega);have:=q2 off2 _ h3;rw [Array.getElem?_eq_none (by omega)] at this;simp at this
   have hq:=a4 w ⟨b,off2,none⟩ ⟨(G.ob o).blk,off,none⟩ xs.length cap n c T2 T' c2.size cc.size a6 (by simp [World.shape?,q1]) (by simp [World.shape?,g4]) hc2 (by simp [World.frozen?,g4]) (by simp [World.frozen?,g4]);refine⟨_,w,G,_,s.st,?_,.refl G,hI.agree,.v _,h⟩;have he:a.eval (.func f) = .func (.func f) #[] #[]:=rfl;generalize a.eval = ρ at he hvx hvy ⊢;simp [execOp,resolve,Deferred.ofValue,he,invoke,hvx,hvy,hq]
theorem q0r {x y:Operand} {t e:TypeId} {sz:Nat} {agg:Bool} {c:AV} (hx:ql N s x=c) (hc:∀ (G:Gh) (v:Value),Rel G c v→∃ base,v = .slice base 0 0) (hu:E.P.underlying t=some (.slice e)) (ht:tyOf E.P e=some (sz,agg)) (hy:∃ k,ql N s y = .v (.int k 0))
  (h:AOps E rd N ops rest K (s.put d c)):AOps E rd N ops (⟨d,.slice t x (some y) none none,T,p,af,none⟩::rest) K s:=by
 refine za rfl (q8 nofun fun B0 w0 G a w _ hI=>?_);have he:=hI.eval_of hx;obtain⟨base,hv⟩:=hc _ _ he;have a4:=qvm hu ht base 0 0 (some (a.eval y)) none none 0 0 0 w (by obtain⟨k,hy⟩:=hy;exact⟨k,hI.evalv hy⟩) ⟨rfl,rfl⟩ rfl (Nat.le_refl _) (Nat.le_refl _) (Nat.le_refl _);refine⟨.slice base 0 0,w,G,c,s.st,?_,.refl G,hI.agree,by rw [← hv];exact he,h⟩;generalize a.eval = ρ at hv a4 ⊢;simp only [execOp,hv];simp [Instr.sliceAt,run_underlying hu,a4]
theorem qti {l:List Oper} (L:List (Nat×AV)) (st':List AObj) (df':List Nat) (h:HasL s.t L) (b7:s.st=st') (d7:s.df=df') (k:∀ t,AOps E rd N ops l K ⟨puts t L,st',df'⟩):AOps E rd N ops l K s:=by
 have:=k s.t;rw [qjn h,← b7,← d7] at this;exact this
end
end Go.Av
namespace Go.Av
open Go Go.RowKit
def qf4 (o:Oper):Bool:=match o.op with
 | .defer _=>false
 | _=>true
theorem quv {o:Oper} (h:qf4 o=true):∀ c,o.op≠.defer c:=fun c e=>by
 unfold qf4 at h;rw [e] at h;simp at h
theorem zc9 {P:Program} {ops:Array Oper} {Q:Exit→Act→World→Prop} {l i:Nat} {K:Act→World→Prop} {a:Act} {w:World} (bt:∀ o,ops[i]? = some o→qf4 o=true) (h:wpOpIn (fw none) 0 P ops Q i K a w):wpOpIn (fw (some l)) 0 P ops Q i K a w:=by
 unfold wpOpIn at *
 cases ho:ops[i]? with
 |none=>simp only [ho] at h ⊢;exact h
 |some o=>
  simp only [ho] at h ⊢;split
  ·rename_i hw
   rw [if_pos hw] at h;unfold Oper.wpIn at *;rw [qfr (rd:=none) (quv (bt o ho))] at h;rw [qfr (rd:=some l) (quv (bt o ho))];exact h
  ·rename_i hw
   rw [if_neg hw] at h;exact h
theorem qv0 {P:Program} {ops:Array Oper} {Q:Exit→Act→World→Prop} {l:Nat} {md:Region.Mode} (bt:ops.all qf4=true):∀ (fuel:Nat) (listed:Array Bool) (a:Act) (w:World),wpAnyIn (fw none) 0 P md ops Q fuel listed a w→wpAnyIn (fw (some l)) 0 P md ops Q fuel listed a w
 | 0,_,_,_,h=>h
 |fuel+1,listed,a,w,h=>⟨h.1,fun i hi=>zc9 (fun o ho=>by
   rw [Array.all_eq_true] at bt;obtain⟨h1,h2⟩:=Array.getElem?_eq_some_iff.1 ho;rw [← h2]
   exact bt i h1) (wpOpIn_mono (fun a w=>qv0 bt fuel _ a w) (h.2 i hi))⟩
theorem q7o {E:Env} {rd:Option Nat} {N:Nat} {ops:Array Oper} {s:AS} {id:Nat} {Q:Exit→AS→Prop} {n:Nat} (hm:E.P.follows .mixedOrders=true) (hd:ops.all qf4=true) (hn:ops.size=n) (h:AZ E N ops n (Array.replicate n false) (Q .normal) s):AWp E rd N (.region id ops true) Q s:=by
 cases rd with
 |none=>exact qkq hm hn h
 |some l=>
  subst hn;refine⟨fun B0 w0 G a w hL hI=>?_⟩;have hBl:Below w.heap.size w { w with drawn:=w.drawn+1 }:=⟨rfl,rfl,rfl,Nat.le_refl _,fun _ _=>rfl⟩;have mg:Inv B0 w0 N G s a { w with drawn:=w.drawn+1 }:=⟨hI.agree.fresh hBl,hI.defers,hI.size,hI.tmps⟩;have:=h.run B0 w0 G a _ hL mg (fun a' w'=>∃ (G':Gh) (s':AS),G.le G'∧Inv B0 w0 N G' s' a' w'∧Q .normal s') fun G' s' a' w' hG i3 hk=>⟨G',s',hG,i3,hk⟩;refine wpIn_mono (wpIn_region_any hm (qv0 hd _ _ _ _ this)) fun e a' w' hq=>?_
  cases e with
  |normal=>exact hq
  | _=>exact hq.elim
def qds (o:Oper):List Nat:=(o.after.toList.filter fun e=>Region.binds .any e).map (·.on)
def addL (L:Nat→Bool) (i:Nat):Nat→Bool:=fun k=>Nat.beq k i ||L k
def qh6:Nat→List Oper→Bool
 | _,[]=>true
 |i,o::r=>(qds o).all (fun j=>Nat.blt j i) && qh6 (i+1) r
def qof (E:Env) (N:Nat) (ops:Array Oper) (J:(Nat→Bool)→AS→Prop):Nat→List Oper→Prop
 | _,[]=>True
 |i,o::r=>(∀ L s,L i=false→(∀ j,(qds o).contains j=true→L j=true)→J L s→AOps E none N ops [o] (J (addL L i)) s)∧qof E N ops J (i+1) r
theorem qvs {E:Env} {N:Nat} {ops:Array Oper} {J:(Nat→Bool)→AS→Prop}:∀ {l:List Oper} {i0 k:Nat} {o:Oper},qof E N ops J i0 l→l[k]? = some o →
  ∀ L s,L (i0+k)=false→(∀ j,(qds o).contains j=true→L j=true)→J L s→AOps E none N ops [o] (J (addL L (i0+k))) s
 | [],_,_,_,_,h=>by simp at h
 |o'::r,i0,0,o,hs,h=>by
  simp only [List.getElem?_cons_zero,Option.some.injEq] at h;subst h
  exact hs.1
 |o'::r,i0,k+1,o,hs,h=>by
  have:=qvs hs.2 (by simpa using h);rw [show i0+1+k=i0+(k+1) by omega] at this;exact this
theorem qt4:∀ {l:List Oper} {i0 k:Nat} {o:Oper},qh6 i0 l=true→l[k]? = some o→∀ j∈qds o,j<i0+k
 | [],_,_,_,_,h=>by simp at h
 |o'::r,i0,0,o,hs,h=>by
  simp only [List.getElem?_cons_zero,Option.some.injEq] at h;subst h;simp only [qh6,Bool.and_eq_true] at hs;intro j hj;have:=List.all_eq_true.1 hs.1 j hj
  simpa [Nat.blt_eq] using this
 |o'::r,i0,k+1,o,hs,h=>by
  simp only [qh6,Bool.and_eq_true] at hs;have:=qt4 hs.2 (show r[k]? = some o by simpa using h);intro j hj;have:=this j hj;omega
def lof (listed:Array Bool):Nat→Bool:=fun k=>listed.getD k false
theorem zh2 {listed:Array Bool} {i:Nat} (hi:i<listed.size):lof (listed.setIfInBounds i true)=addL (lof listed) i:=by
 funext k;unfold lof addL;by_cases h:k=i
 ·subst h
  simp [Array.getD,hi]
 ·have hb:Nat.beq k i=false:=j9 h
  rw [hb,Bool.false_or];simp only [Array.getD_eq_getD_getElem?,Array.getElem?_setIfInBounds];rw [if_neg (fun e=>h e.symm)]
theorem qxs:∀ {l:List Bool} {i:Nat},l[i]? = some false→(l.set i true).count false+1=l.count false
 | [],_,h=>by simp at h
 |b::l,0,h=>by
  simp only [List.getElem?_cons_zero,Option.some.injEq] at h;subst h
  simp
 |b::l,i+1,h=>by
  have:=qxs (l:=l) (i:=i) (by simpa using h);rw [List.set_cons_succ,List.count_cons,List.count_cons];omega
theorem qps {l:List Oper} {listed:Array Bool} {i:Nat}:i∈Region.ready .any l.toArray listed↔listed.getD i true=false∧∃ o,l[i]? = some o∧∀ j∈qds o,lof listed j=true:=by
 unfold Region.ready;simp only [List.mem_filter,List.mem_range,Bool.and_eq_true,Bool.not_eq_true',List.size_toArray,List.getElem?_toArray];constructor
 ·rintro⟨h1,h2,h3⟩
  refine⟨h2,l[i],List.getElem?_eq_getElem h1,fun j hj=>?_⟩;rw [List.getElem?_eq_getElem h1] at h3;simp only [Option.map_some,Option.getD_some] at h3;unfold qds at hj;obtain⟨e,he,rfl⟩:=List.mem_map.1 hj;obtain⟨he1,he2⟩:=List.mem_filter.1 he;have:=Array.all_eq_true'.1 h3 e (by simpa using he1);rw [he2] at this
  simpa [lof] using this
 ·rintro⟨h2,o,ho,h3⟩
  refine⟨lt_of_getElem? ho,h2,?_⟩;rw [ho];simp only [Option.map_some,Option.getD_some];rw [Array.all_eq_true'];intro e he
  cases hb:Region.binds .any e with
  |false=>rfl
  |true=>
   have:=h3 e.on (by
    unfold qds
    exact List.mem_map.2 ⟨e,List.mem_filter.2 ⟨by simpa using he,hb⟩,rfl⟩)
   simpa [lof] using this
theorem q0g {P:Nat→Prop}:∀ {l:List Nat},(∀ i∈l,P i)→qzv P l
 | [],_=>trivial
 |i::r,h=>⟨h i (by simp),q0g fun j hj=>h j (by simp [hj])⟩
theorem AOps.mono' {E:Env} {rd:Option Nat} {N:Nat} {ops:Array Oper} {K K':AS→Prop} {s:AS} {l:List Oper} (h:AOps E rd N ops l K' s) (hk:∀ s,K' s→K s):AOps E rd N ops l K s:=
 ⟨fun B0 w0 G a w hL hI Q hQ=>h.run B0 w0 G a w hL hI Q fun G' s' a' w' hG i3 hK=>hQ G' s' a' w' hG i3 (hk _ hK)⟩
theorem az_J {E:Env} {N:Nat} {l:List Oper} {J:(Nat→Bool)→AS→Prop} {K:AS→Prop} (hd:qh6 0 l=true) (hs:qof E N l.toArray J 0 l) (bf:∀ L s,(∀ i,i<l.length→L i=true)→J L s→K s) :
  ∀ (fuel:Nat) (listed:Array Bool) (s:AS),listed.size=l.length→listed.toList.count false≤fuel→J (lof listed) s→AZ E N l.toArray fuel listed K s:=by
 intro fuel
 induction fuel with
 |zero=>
  intro listed s d9 hc hJ
  have m8:∀ i,i<l.length→lof listed i=true:=fun i hi=>by
   have h0:listed.toList.count false=0:=by omega
   have rx:i<listed.size:=by omega
   have u7:lof listed i=listed[i]:=by simp [lof,rx]
   rw [u7]
   cases hb:listed[i] with
   |true=>rfl
   |false=>exact absurd (by rw [← hb];simp) (List.count_eq_zero.1 h0)
  have hr:Region.ready .any l.toArray listed=[]:=by
   rw [List.eq_nil_iff_forall_not_mem];intro i hi;obtain⟨h1,o,ho,_⟩:=qps.1 hi;have rx:=lt_of_getElem? ho;have:=m8 i rx;unfold lof at this;have bq:i<listed.size:=by omega
   simp only [Array.getD,bq,dite_true] at this h1;rw [this] at h1;simp at h1
  exact qdh hr (bf _ s m8 hJ)
 |succ fuel ih=>
  intro listed s d9 hc hJ;by_cases hr:Region.ready .any l.toArray listed=[]
  ·refine qdh hr (bf _ s (fun i=>?_) hJ)
   induction i using Nat.strongRecOn with
   | _ i ihi=>
    intro hi
    cases hb:lof listed i with
    |true=>rfl
    |false=>
     exfalso
     have hm:i∈Region.ready .any l.toArray listed:=by
      refine qps.2 ⟨?_,l[i],List.getElem?_eq_getElem hi,fun j hj=>?_⟩
      ·have bq:i<listed.size:=by omega
       unfold lof at hb;simp only [Array.getD,bq,dite_true] at hb ⊢;exact hb
      ·have:=qt4 hd (List.getElem?_eq_getElem hi) j hj
       exact ihi j (by omega) (by omega)
     rw [hr] at hm;simp at hm
  ·refine xh _ rfl ?_ (q0g fun i hi=>?_)
   ·cases h:Region.ready .any l.toArray listed with
    |nil=>exact absurd h hr
    |cons a r=>rfl
   ·obtain⟨h1,o,ho,h3⟩:=qps.1 hi
    have db:=lt_of_getElem? ho;have bq:i<listed.size:=by omega
    refine⟨o,by simpa using ho,?_⟩
    have hl:lof listed i=false:=by
     unfold lof;simp only [Array.getD,bq,dite_true] at h1 ⊢;exact h1
    have:=qvs hs ho (lof listed) s (by rw [Nat.zero_add];exact hl) (fun j hj=>h3 j (by simpa using hj)) hJ;rw [Nat.zero_add] at this;refine this.mono' fun s' hJ'=>ih _ s' (by simpa using d9) ?_ (by rw [zh2 bq];exact hJ')
    have hg:listed.toList[i]? = some false:=by
     have:listed[i]=false:=by
      simp only [Array.getD,bq,dite_true] at h1;exact h1
     simp [bq,this]
    have:=qxs hg;rw [Array.toList_setIfInBounds];omega
theorem q9w {E:Env} {rd:Option Nat} {N:Nat} {s:AS} {id:Nat} {l:List Oper} {Q:Exit→AS→Prop} (hm:E.P.follows .mixedOrders=true) (bt:l.toArray.all qf4=true) (hd:qh6 0 l=true) (J:(Nat→Bool)→AS→Prop)
  (h0:J (fun _=>false) s) (bf:∀ L s,(∀ i,i<l.length→L i=true)→J L s→Q .normal s) (hs:qof E N l.toArray J 0 l):AWp E rd N (.region id l.toArray true) Q s:=by
 refine q7o hm bt (n:=l.length) (by simp) (az_J hd hs bf _ _ _ (by simp) ?_ ?_)
 ·simp only [Array.toList_replicate,List.count_replicate]
  split <;> omega
 ·have:lof (Array.replicate l.length false)=fun _=>false:=by
   funext k;unfold lof;simp only [Array.getD_eq_getD_getElem?,Array.getElem?_replicate];split <;> rfl
  rw [this];exact h0
end Go.Av
