/- Contracts and plain facts that the closing text leans on (part 4). No condition of their own beyond those that each states. -/
import Derived.Test.YtihlchbgjdkmpaaGreatDoorK3
import Derived.Lib.AppendZerosOnto
import Derived.Lib.Overlaps
set_option maxRecDepth 100000
set_option linter.unusedVariables false
set_option linter.unusedSimpArgs false
namespace Go.Av
open Go Go.RowKit
theorem qq4 {P:Program} {B0:Nat} {w0:World} {G:Gh} {st:List AObj} {w:World} (hA:zf B0 w0 G st w) {tt u ty T:TypeId} {du:TypeDesc} (htt:P.underlying tt=some (.slice T)) (hu:P.underlying u=some du) (hd:qhq du)
  {sz bytes:Nat} (hT:yb P T sz bytes) {t n m:Nat} (ht:st[t]? = some (.tip n sz T)) {xs ys:List AV} {x:Value} (hn:xs.length=n) (hm:ys.length=m)
  {news:List Value} (hx:Src P w x m sz news) (hys:∀ y∈ys,y.cells.length=sz) (g9:∀ (i:Nat) (a:AV) (b:Value),(flat ys)[i]? = some a→news[i]? = some b→Rel G a b)
  (t7:n+m≤maxLen) (base:Option Addr) (c:Nat) (olds:List Value) (ho:(Builtin.firstCells sz n (.slice base n c)).run P w.drew = .ok olds.toArray w.drew) (hc:c<n+m) (sf:olds.length=n * sz) (gm:(flat xs).length=n * sz) (hwx:∀ x∈xs,x.cells.length=sz)
  (hrx:∀ (j:Nat) (a:AV) (b:Value),(flat xs)[j]? = some a→olds[j]? = some b→Rel G a b) (i4:Builtin.nextslicecap (n+m) c * bytes≤281474976710656) (fp:m≠0) :
  ∃ v' w' G',(Builtin.append_ #[tt,u] ty #[.slice base n c,x]).run P w = .ok v' w'∧G.le G'∧zf B0 w0 G' (st.set t (.tip (n+m) sz T)) w'∧Rel G' (.sl sz (xs++ys) (some t)) v':=by
 obtain⟨i,z,hi,hz,rfl,rfl,gq⟩:=hT.ex;obtain⟨hraw,bf,htip⟩:=hA.ob t _ ht;have htn:t<G.n:=by rw [hA.n];exact lt_of_getElem? ht
 have d9:G.n=st.length:=hA.n;have hk:=hA.kill t;have ln:(st.set t .dead)[t]? = some .dead:=qbl ht
 have i7:∀ o x,(st.set t .dead)[o]? = some x→x.live→o≠t∧st[o]? = some x:=fun o x hx hl=>by
  rcases getElem?_set' _ _ _ _ _ hx with⟨_,e⟩ | ⟨h1,h2⟩
  ·subst e;exact hl.elim
  ·exact⟨h1,h2⟩
 have dx:(st.set t AObj.dead).set t (.tip (n+m) i.size T)=st.set t (.tip (n+m) i.size T):=by rw [List.set_set]
 have o9:st.set t (.tip n i.size T)=st:=by
  apply List.ext_getElem?;intro k;by_cases e:t=k
  ·subst e;rw [List.getElem?_set_self (lt_of_getElem? ht)];exact ht.symm
  ·rw [List.getElem?_set_ne e]
 have a8:=qe7 (ty:=ty) htt hu hd hi hz hx base n c olds ho hc (by simp only [maxLen] at t7;omega) i4;have dj:=grownCap_ge w (n+m) c T;have d6:=grownCap_le_maxLen w (n+m) c T t7;generalize grownCap w (n+m) c T=cap at a8 dj d6
 have i5:(olds.toArray++news.toArray++Builtin.zeroCells z.cells (cap - (n+m))).size=cap * i.size:=by
  simp only [Array.size_append,List.size_toArray,size_zeroCells,gq,sf,hx.count,← Nat.add_mul];congr 1;omega
 generalize hcv:olds.toArray++news.toArray++Builtin.zeroCells z.cells (cap - (n+m))=c' at a8 i5;have t8:Below w.heap.size w w.drew:=⟨rfl,rfl,rfl,Nat.le_refl _,fun _ _=>rfl⟩;have dp:=hk.fresh t8
 have gz:∀ (j:Nat) (y:Value),(olds++news)[j]? = some y→c'[j]? = some y:=fun j y hy=>by
  have hj:=lt_of_getElem? hy;rw [← hcv,Array.getElem?_append_left (by simp at hj ⊢;omega),List.append_toArray]
  simpa using hy
 obtain⟨r8,fb⟩:=dp.newPub T c' (0,0) (olds++news) gz
 have hnp:G.pub w.heap.size=none:=by
  cases hp:G.pub w.heap.size with
  |none=>rfl
  |some vs=>exact absurd (hA.pub_lt hp) (Nat.lt_irrefl _)
 obtain⟨s9,hA3⟩:=fb.setTip (n':=n+m) (vs:=olds++news) (k:=w.heap.size) (cap:=cap * i.size) (sz:=i.size) (T:=T) ln (by simpa [Gh.publish] using hraw) (by simpa [Gh.publish] using bf) (by omega) (xo w.drew _) (by simp [Gh.publish]) (by simp [sf,hx.count,Nat.add_mul]) i5 hA.hB (fun o x hx hl=>by
  obtain⟨_,e7⟩:=i7 o x hx hl
  exact Nat.ne_of_lt ((hA.ob o x e7).lt hl))
 rw [dx] at hA3;refine⟨_,_,_,a8,r8.trans s9,hA3,?_⟩;have u6:∀ {a b},Rel G a b→Rel ((G.publish w.drew.heap.size (olds++news)).setOb t ⟨n+m,w.heap.size,cap * i.size,false⟩) a b:=fun h=>(h.mono r8).mono s9;refine qt7 (n:=n) (m:=m) (cap:=cap) (k:=w.heap.size) (vs:=olds) (news:=news) (by simp [Gh.setOb]) (by simp [Gh.setOb]) (by simp [Gh.setOb]) d6 dj (by simpa [Gh.setOb,Gh.publish] using htn) (by omega) hn hm (by simp [Gh.setOb,Gh.publish]) (fun y hy=>?_) sf hx.count gm (fun j a b h1 h2=>u6 (hrx j a b h1 h2)) (fun j a b h1 h2=>u6 (g9 j a b h1 h2));rcases List.mem_append.1 hy with h|h
 ·exact hwx y h
 ·exact hys y h
def TipO (b:Nat) (st:List AObj) (sz:Nat) (T:TypeId) (xs:List AV) (c:AV):Prop:=TipC b st sz T xs c∨(xs=[]∧∃ o v f,c = .os o v f 0 0)
theorem q0h (b:Nat) (st:List AObj) (sz:Nat) (T:TypeId):TipO b st sz T [] zj:=.inl (zcf ..)
theorem q3b (b:Nat) (st:List AObj) (sz:Nat) (T:TypeId) (o v f:Nat):TipO b st sz T [] (.os o v f 0 0):=.inr ⟨rfl,_,_,_,rfl⟩
theorem zeo {G:Gh} {o v f:Nat} {sz:Nat} {x:Value} (h:Rel G (.os o v f 0 0) x):Rel G (.sl sz [] none) x:=by
 cases h with
 |os _ _ _ _ b _ hn hv h=>exact .sl0 sz none _ _ (by simp)
section
variable {E : Env} {rd : Option Nat} {N : Nat} {ops : Array Oper} {K : AS → Prop} {s : AS} {rest : List Oper} {d : Option Tmp} {T : TypeId} {p : String} {af : Array Edge}
theorem qhw {x y:Operand} {t u T':TypeId} {sz bytes b:Nat} {xs ys:List AV} {tip:Option Nat} {c:AV} {st:List AObj} (d8:s.st=st) (hx:qg N s x=c) (hy:qg N s y = .sl sz ys tip)
  (ht:E.P.underlying t=some (.slice T')) (hu:E.P.underlying u=some (.slice T')) (hT:yb E.P T' sz bytes) (hc:TipO b st sz T' xs c) (hb:b≤st.length) (m8:kr (flat ys)=true) (t7:xs.length+ys.length≤maxLen) (hby:(xs.length+ys.length) * bytes≤140737488355328)
  (h:∀ c' st' t1,TipO b st' sz T' (xs++ys) c'→Fr st st' t1→b≤t1→(c = .sl sz xs (some t1)∨st.length≤t1)→AOps E rd N ops rest K (AS.put ⟨s.t,st',s.df⟩ d c')):AOps E rd N ops (⟨d,.call ⟨.builtin .append,#[x,y],#[t,u]⟩,T,p,af,none⟩::rest) K s:=by
 rcases hc with hc | ⟨lj,o,ver,f,hco⟩
 ·refine qxb d8 hx hc hb hy ht hu hT m8 t7 hby fun t1 st' g1 g2 g3 g4=>h _ st' t1 (.inl (.inr ⟨t1,rfl,g1,g2⟩)) g3 g2 g4
 ·subst d8
  subst lj;refine qz rfl (qw nofun fun B0 w0 G a w _ hI=>?_);have he:=hI.eval_of (hx.trans hco);obtain⟨news,k1,k2,k3⟩:=yq (P:=E.P) hI.agree (hI.eval_of hy) (by simpa [kr] using m8);have hex:=hT.ex;obtain⟨i,z,hi,hz,i5,hbt,gq⟩:=hex;generalize hv:a.eval x=v at he
  cases he with
  |os _ _ _ _ blk _ hn hvv hbb=>
   by_cases fp:ys.length=0
   ·have hy0:ys=[]:=List.eq_nil_of_length_eq_zero fp
    subst hy0
    have hk1':Src E.P w (a.eval y) 0 i.size []:=by
     have:news=[]:=List.eq_nil_of_length_eq_zero (by simpa using k1.count);rw [i5];rw [this] at k1;exact k1
    refine⟨_,w,G,_,s.st,?_,.refl G,hI.agree,.os o ver f 0 blk 0 hn hvv hbb,h _ s.st s.st.length (.inr ⟨rfl,o,ver,f,rfl⟩) ⟨Nat.le_refl _,fun _ _ _=>rfl⟩ hb (.inr (Nat.le_refl _))⟩;have:=qbn (ty:=T) ht hu (.inr ⟨_,rfl⟩) hi hk1' (some ⟨blk,f,none⟩) 0 0 (Nat.le_refl _);generalize a.eval = ρ at hv this;simp [execOp,resolve,invoke,builtin,hv,this]
   ·have d6:=G.le_new 0 0 0 false
    have hA:=hI.agree.newTip sz T';have hz63:0+ys.length≤maxLen:=by simpa using t7
    obtain⟨v',w',G',e1,e2,e3,e4⟩:=qq4 (ty:=T) hA ht hu (.inr ⟨_,rfl⟩) hT (t:=s.st.length) (n:=0) (xs:=[]) (by simp) rfl rfl k1 k2 (fun i a b h1 h2=>(k3 i a b h1 h2).mono d6) hz63 (some ⟨blk,f,none⟩) 0 []
     (run_firstCells_some w.drew sz 0 ⟨blk,f,none⟩ 0 0 [] (by simp) (by simp)) (by omega) (by simp) (by simp [flat]) (by simp) (by simp [flat]) (by rw [Nat.zero_add,nextslicecap_zero (by omega)];have:=hby;simp at this;omega) fp
    refine⟨v',w',G',_,_,?_,d6.trans e2,e3,e4,h _ _ s.st.length (.inl (.inr ⟨s.st.length,rfl,?_,hb⟩)) ⟨by simp,fun k hk d9=>?_⟩ hb (.inr (Nat.le_refl _))⟩
    ·generalize a.eval = ρ at e1 hv
     simp [execOp,resolve,invoke,builtin,hv,e1]
    ·simp
    ·rw [List.getElem?_set_ne (Ne.symm hk),List.getElem?_append_left d9]
end
theorem qbu {α : Type} {g : α→AV} {l:List α} (h:∀ a,kr (g a).cells=true):kr (flat (l.map g))=true:=by
 induction l with
 |nil=>rfl
 |cons a r ih=>
  have h1:=h a;unfold kr flat at *;rw [List.map_cons,List.flatMap_cons,List.all_append,h1,ih];rfl
theorem qlx {b:Nat} {st:List AObj} {sz:Nat} {T:TypeId} {xs:List AV} {c:AV} (h:TipO b st sz T xs c):∀ G v,Rel G c v→Rel G (.sl sz xs none) v:=by
 rcases h with (⟨rfl,rfl⟩ | ⟨t,rfl,_⟩) | ⟨rfl,o,v,f,rfl⟩
 ·exact fun G v h=>qbt h
 ·exact fun G v h=>qns h
 ·exact fun G v h=>zeo h
end Go.Av
namespace Go.Av
open Go Go.RowKit
inductive SrcA (st:List AObj) (sz:Nat):AV→Nat→Nat→List AV→Prop
 |sl (ys:List AV) (tip:Option Nat) (m8:kr (flat ys)=true):SrcA st sz (.sl sz ys tip) ys.length ys.length (flat ys)
 |os (o ver off L cap m:Nat) (T:TypeId) (cs:List AV) (ho:st[o]? = some (.cells ver T cs)) (i4:off+m * sz≤cs.length) (m8:kr ((cs.drop off).take (m * sz))=true):SrcA st sz (.os o ver off L cap) L m ((cs.drop off).take (m * sz))
structure SrcP (P:Program) (w:World) (x:Value) (L m size:Nat) (news:List Value):Prop where
 len:∀ w',(Builtin.lenOf x).run P w' = .ok L w'
 cells:∀ w',Below w.heap.size w w'→(Builtin.firstCells size m x).run P w' = .ok news.toArray w'
 count:news.length=m * size
 one:∀ u∈news,u.oneCell'=true
section
variable {B0 : Nat} {w0 : World} {G : Gh} {st : List AObj} {w : World}
theorem q27 {P:Program} (hA:zf B0 w0 G st w) {sz L m:Nat} {a:AV} {zs:List AV} {x:Value} (h:SrcA st sz a L m zs) (hr:Rel G a x) :
  ∃ news,SrcP P w x L m sz news∧zs.length=m * sz∧∀ (i:Nat) (a:AV) (b:Value),zs[i]? = some a→news[i]? = some b→Rel G a b:=by
 cases h with
 |sl ys tip m8=>
  obtain⟨news,h1,h2,h3⟩:=yq (P:=P) hA hr (by simpa [kr] using m8)
  exact⟨news,⟨h1.len,h1.cells,h1.count,h1.one⟩,z6 h2,h3⟩
 |os o ver off _ cap _ T cs ho i4 m8=>
  obtain⟨g0,g1,g2,g3,c,g4,g5,g6⟩:=hA.ob o _ ho
  cases hr with
  |os _ _ _ _ b _ hn hv hb=>
   have hb:=hb g1;subst hb
   have e9:∀ (j:Nat) (y:Value),((c.toList.drop off).take (m * sz))[j]? = some y→j<m * sz∧c[off+j]? = some y:=fun j y hy=>by
    rw [List.getElem?_take] at hy;split at hy
    ·rename_i hj
     rw [List.getElem?_drop] at hy;exact⟨hj,by simpa using hy⟩
    ·simp at hy
   have sc:((c.toList.drop off).take (m * sz)).length=m * sz:=by
    simp;omega
   refine⟨(c.toList.drop off).take (m * sz),⟨fun w'=>by simp [Builtin.lenOf],fun w' r9=>?_,sc,fun u hu=>?_⟩,by simp;omega,fun i a b h1 h2=>?_⟩
   ·refine run_firstCells_some w' sz m ⟨(G.ob o).blk,off,none⟩ L cap _ sc fun j y hy=>?_
    obtain⟨hj,hy⟩:=e9 j y hy
    have d9:(G.ob o).blk<w.heap.size:=by
     rcases Nat.lt_or_ge (G.ob o).blk w.heap.size with h'|h'
     ·exact h'
     ·simp [Array.getElem?_eq_none h'] at g4
    have e1:w'.heap[(G.ob o).blk]? = some (.cells c T (0,0)):=by rw [r9.block _ d9];exact g4
    rw [Addr.add_lit];simp [World.cell?,e1,hy]
   ·obtain⟨j,hj⟩:=List.getElem?_of_mem hu
    obtain⟨h1,h2⟩:=e9 j u hj;have hlc:off+j<cs.length:=by omega
    have hx:cs[off+j]? = some cs[off+j]:=List.getElem?_eq_getElem hlc;have hz:((cs.drop off).take (m * sz))[j]? = some cs[off+j]:=by rw [List.getElem?_take_of_lt h1,List.getElem?_drop];exact hx
    exact (g6 _ _ u hx h2).one (List.all_eq_true.1 m8 _ (List.mem_of_getElem? hz))
   ·obtain⟨h3,h4⟩:=e9 i b h2
    rw [List.getElem?_take_of_lt h3,List.getElem?_drop] at h1;exact g6 _ a b h1 h4
theorem qhu (hA:zf B0 w0 G st w) {o ver off:Nat} {T:TypeId} {cs zs:List AV} {news:List Value} {c:Array Value} (ho:st[o]? = some (.cells ver T cs)) (g4:w.heap[(G.ob o).blk]? = some (.cells c T (0,0))) (i4:off+zs.length≤cs.length) (hl:zs.length=news.length)
  (hr:∀ (i:Nat) (a:AV) (b:Value),zs[i]? = some a→news[i]? = some b→Rel G a b):zf B0 w0 G (st.set o (.cells ver T (zr cs off zs))) (w.setRow (G.ob o).blk (c.toList.take off++news++c.toList.drop (off+news.length)).toArray):=by
 obtain⟨_,_,_,_,c',h4,g5,g6⟩:=hA.ob o _ ho;rw [g4] at h4;simp only [Option.some.injEq,Obj.cells.injEq,and_true] at h4;subst h4;refine hA.setRow ho (by simp [zr];omega) ?_
 have e1:∀ (j:Nat) (a:AV) (b:Value),(cs.take off)[j]? = some a→(c.toList.take off)[j]? = some b→Rel G a b:=fun j a b h1 h2=>by
  rw [List.getElem?_take] at h1 h2;split at h1
  ·rename_i hj
   rw [if_pos hj] at h2;exact g6 j a b h1 (by simpa using h2)
  ·simp at h1
 have e2:=y9 (G:=G) (cs:=cs.take off) (ds:=zs) (vs:=c.toList.take off) (us:=news) (by simp;omega) e1 hr
 have e3:=y9 (G:=G) (cs:=cs.take off++zs) (ds:=cs.drop (off+zs.length)) (vs:=c.toList.take off++news) (us:=c.toList.drop (off+news.length)) (by simp;omega) e2 (fun j a b h1 h2=>by
  rw [List.getElem?_drop] at h1 h2;rw [hl] at h1
  exact g6 _ a b h1 (by simpa using h2))
 unfold zr;intro j a b h1 h2;exact e3 j a b h1 (by simpa using h2)
end
section
variable {E : Env} {rd : Option Nat} {N : Nat} {ops : Array Oper} {K : AS → Prop} {s : AS} {rest : List Oper} {d : Option Tmp} {T : TypeId} {p : String} {af : Array Edge}
theorem ql9 {x y:Operand} {t u T':TypeId} {sz bytes o ver n cap m:Nat} {cs zs:List AV} {a:AV} (hx:qg N s x = .os o ver 0 n cap) (hy:qg N s y=a) (ho:s.st[o]? = some (.cells ver T' cs)) (bd:SrcA s.st sz a m m zs)
  (ht:E.P.underlying t=some (.slice T')) (hu:E.P.underlying u=some (.slice T')) (hT:yb E.P T' sz bytes) (i9:n+m≤cap) (nj:cs.length=cap * sz)
  (h:AOps E rd N ops rest K (AS.put ⟨s.t,s.st.set o (.cells ver T' (zr cs (n * sz) zs)),s.df⟩ d (.os o ver 0 (n+m) cap))):AOps E rd N ops (⟨d,.call ⟨.builtin .append,#[x,y],#[t,u]⟩,T,p,af,none⟩::rest) K s:=by
 refine qz rfl (qw nofun fun B0 w0 G a0 w _ hI=>?_);obtain⟨i,z,hi,hz,rfl,rfl,gq⟩:=hT.ex;obtain⟨news,h1,h2,h3⟩:=q27 (P:=E.P) hI.agree bd (hI.eval_of hy);have hv:=hI.eval_of hx;generalize bv:a0.eval x=v at hv;obtain⟨g0,g1,g2,g3,c,g4,g5,g6⟩:=hI.agree.ob o _ ho;have hmul:n * i.size+m * i.size≤cap * i.size:=by rw [← Nat.add_mul];exact Nat.mul_le_mul_right _ i9
 cases hv with
 |os _ _ _ _ b _ hn hv hb=>
  have hb:=hb g1;subst hb;have a8:=qil (ty:=T) ht hu (.inr ⟨_,rfl⟩) hi ⟨h1.len,h1.cells,h1.count,h1.one⟩ (G.ob o).blk n cap c g4 i9 (by rw [h1.count];omega);refine⟨_,_,G,_,_,?_,.refl G,qhu hI.agree ho g4 (by omega) (by rw [h1.count];exact h2) h3,.os o ver 0 (n+m) _ cap hn hv (fun _=>rfl),h⟩;generalize a0.eval = ρ at a8 bv ⊢;simp [execOp,resolve,invoke,builtin,bv,a8]
theorem y7 {x y:Operand} {t u T':TypeId} {sz bytes o ver off dl dc L m:Nat} {cs zs:List AV} {a:AV} (hx:qg N s x = .os o ver off dl dc) (hy:qg N s y=a) (ho:s.st[o]? = some (.cells ver T' cs)) (bd:SrcA s.st sz a L m zs) (hm:Nat.min L dl=m)
  (ht:E.P.underlying t=some (.slice T')) (hT:yb E.P T' sz bytes) (i4:off+m * sz≤cs.length)
  (h:AOps E rd N ops rest K (AS.put ⟨s.t,s.st.set o (.cells ver T' (zr cs off zs)),s.df⟩ d (Iv (m:Nat)))):AOps E rd N ops (⟨d,.call ⟨.builtin .copy,#[x,y],#[t,u]⟩,T,p,af,none⟩::rest) K s:=by
 refine qz rfl (qw nofun fun B0 w0 G a0 w _ hI=>?_);obtain⟨i,z,hi,hz,rfl,rfl,gq⟩:=hT.ex;obtain⟨news,h1,h2,h3⟩:=q27 (P:=E.P) hI.agree bd (hI.eval_of hy);have hv:=hI.eval_of hx;generalize bv:a0.eval x=v at hv;obtain⟨g0,g1,g2,g3,c,g4,g5,g6⟩:=hI.agree.ob o _ ho
 cases hv with
 |os _ _ _ _ b _ hn hv hb=>
  have hb:=hb g1;subst hb;have d8:=run_storeCells_at E.P (G.ob o).blk off T' news 0 c w g4 (by rw [h1.count];omega) h1.one;simp only [Nat.add_zero] at d8;have nc:=h1.cells w (Below.refl _ _);refine⟨_,_,G,_,_,?_,.refl G,qhu hI.agree ho g4 (by omega) (by rw [h1.count];exact h2) h3,.v _,h⟩;have hl:=h1.len w;generalize a0.eval = ρ at bv d8 nc hl ⊢;simp [execOp,resolve,invoke,builtin,bv,Builtin.copy_,run_underlying ht,sizeOf,typeInfo,hi,hl,hm,nc,d8,goInt]
def q3i (P:Program) (T:TypeId):Bool:=
 match P.info? T with
 |some i=>(match i.zero with
  |some z=>z.cells.toList.all Value.oneCell'
  |none=>false)
 |none=>false
theorem qxd {x:Operand} {t T':TypeId} {sz bytes o ver off n cap:Nat} {cs:List AV} (hx:qg N s x = .os o ver off n cap) (ho:s.st[o]? = some (.cells ver T' cs))
  (ht:E.P.underlying t=some (.slice T')) (hT:yb E.P T' sz bytes) (hz1:q3i E.P T'=true) (i4:off+n * sz≤cs.length)
  (h:∀ zs:List AV,zs.length=n * sz→AOps E rd N ops rest K (AS.put ⟨s.t,s.st.set o (.cells ver T' (zr cs off zs)),s.df⟩ d (.v undef))):AOps E rd N ops (⟨d,.call ⟨.builtin .clear,#[x],#[t]⟩,T,p,af,none⟩::rest) K s:=by
 refine qz rfl (qw nofun fun B0 w0 G a0 w _ hI=>?_);obtain⟨i,z,hi,hz,rfl,rfl,gq⟩:=hT.ex;have hv:=hI.eval_of hx;generalize bv:a0.eval x=v at hv;obtain⟨g0,g1,g2,g3,c,g4,g5,g6⟩:=hI.agree.ob o _ ho
 cases hv with
 |os _ _ _ _ b _ hn hv hb=>
  have hb:=hb g1;subst hb;by_cases h0:n=0
  ·subst h0
   have o9:s.st.set o (.cells ver T' (zr cs off []))=s.st:=by
    have e:zr cs off []=cs:=by simp [zr]
    rw [e];apply List.ext_getElem?;intro k;by_cases e:o=k
    ·subst e;rw [List.getElem?_set_self (lt_of_getElem? ho)];exact ho.symm
    ·rw [List.getElem?_set_ne e]
   have hh:=h [] (by simp);refine⟨_,_,G,_,_,?_,.refl G,hI.agree,.v _,by rw [o9] at hh;exact hh⟩;generalize a0.eval = ρ at bv ⊢;simp [execOp,resolve,invoke,builtin,bv,Builtin.clear_,run_underlying ht,undef]
  ·have sn:(Builtin.zeroCells z.cells n).toList.length=n * i.size:=by simp [size_zeroCells,gq]
   have hz1:∀ u∈(Builtin.zeroCells z.cells n).toList,u.oneCell'=true:=fun u hu=>by
    unfold q3i at hz1;rw [hi] at hz1;simp only [hz] at hz1;refine List.all_eq_true.1 hz1 u ?_;simp only [Builtin.zeroCells,Array.toList_map,List.mem_map,Array.toList_range,List.mem_range] at hu;obtain⟨q,hq,rfl⟩:=hu
    have hp:q % z.cells.size<z.cells.size:=Nat.mod_lt _ (by
     rcases Nat.eq_zero_or_pos z.cells.size with h|h
     ·rw [h] at hq;omega
     ·exact h)
    rw [getElem!_pos z.cells _ hp];simp
   have d8:=run_storeCells_at E.P (G.ob o).blk off T' (Builtin.zeroCells z.cells n).toList 0 c w g4 (by rw [sn];omega) hz1;simp only [Nat.add_zero] at d8;have hh:=h ((Builtin.zeroCells z.cells n).toList.map AV.v) (by simpa using sn);refine⟨_,_,G,_,_,?_,.refl G,qhu (news:=(Builtin.zeroCells z.cells n).toList) hI.agree ho g4 (by rw [List.length_map,sn];exact i4) (by simp) (fun j a b h1 h2=>?_),.v _,hh⟩
   ·generalize a0.eval = ρ at bv d8 ⊢
    obtain⟨n',rfl⟩:∃ n',n=n'+1:=⟨n - 1,by omega⟩;simp [execOp,resolve,invoke,builtin,bv,Builtin.clear_,run_underlying ht,zeroValue,typeInfo,hi,hz,d8,undef]
   ·rw [List.getElem?_map,h2] at h1
    simp at h1;subst h1;exact .v _
theorem qsx {P:Program} {t e:TypeId} {sz:Nat} {agg:Bool} (hu:P.underlying t=some (.slice e)) (ht:tyOf P e=some (sz,agg)) (a:Option Addr) (len cap:Nat) (lo hi mx:Option Value) (i j m:Nat) (w:World)
  (ck:match lo with|none=>i=0|some v=>∃ k,v = .int k (i:Int)) (bg:match hi with|none=>j=len∧mx=none|some v=>∃ k,v = .int k (j:Int)) (tn:match mx with|none=>m=cap|some v=>∃ k,v = .int k (m:Int)) (h1:i≤j) (h2:j≤m) (h3:m≤cap) :
  (Instr.slice t (.slice a len cap) lo hi mx).run P w = .ok (.slice (if m=i then a else a.map (·.add (i * sz))) (j - i) (m - i)) w:=by
 have hs:=(vg ht w).1
 cases lo with
 |none=>
  simp only at ck;subst ck
  cases hi with
  |none=>
   obtain⟨rfl,rfl⟩:=bg;simp only at tn;subst tn
   simp [Instr.slice,run_underlying hu,Instr.sliceBounds,hs]
  |some v=>
   obtain⟨k,rfl⟩:=bg
   cases mx with
   |none=>
    simp only at tn;subst tn
    simp [Instr.slice,run_underlying hu,Instr.sliceBounds,Instr.sliceBound,asIntOf,hs,h2]
   |some u=>
    obtain⟨k',rfl⟩:=tn
    simp [Instr.slice,run_underlying hu,Instr.sliceBounds,Instr.sliceBound,asIntOf,hs,h2,h3]
 |some u=>
  obtain⟨k',rfl⟩:=ck
  cases hi with
  |none=>
   obtain⟨rfl,rfl⟩:=bg;simp only at tn;subst tn
   simp [Instr.slice,run_underlying hu,Instr.sliceBounds,Instr.sliceBound,asIntOf,hs,h1]
  |some v=>
   obtain⟨k,rfl⟩:=bg
   cases mx with
   |none=>
    simp only at tn;subst tn
    simp [Instr.slice,run_underlying hu,Instr.sliceBounds,Instr.sliceBound,asIntOf,hs,h1,h2]
   |some u=>
    obtain⟨k'',rfl⟩:=tn;simp [Instr.slice,run_underlying hu,Instr.sliceBounds,Instr.sliceBound,asIntOf,hs,h1,h2,h3]
theorem zq {x:Operand} {t e:TypeId} {lo hi mx:Option Operand} {sz:Nat} {agg:Bool} {o ver off len cap i j m:Nat} (hx:qg N s x = .os o ver off len cap) (hu:E.P.underlying t=some (.slice e)) (ht:tyOf E.P e=some (sz,agg))
  (ck:match lo with|none=>i=0|some y=>∃ k,qg N s y = .v (.int k (i:Int))) (bg:match hi with|none=>j=len∧mx=none|some y=>∃ k,qg N s y = .v (.int k (j:Int))) (tn:match mx with|none=>m=cap|some y=>∃ k,qg N s y = .v (.int k (m:Int))) (h1:i≤j) (h2:j≤m) (h3:m≤cap)
  (h:AOps E rd N ops rest K (s.put d (.os o ver (if m=i then off else off+i * sz) (j - i) (m - i)))):AOps E rd N ops (⟨d,.slice t x lo hi mx,T,p,af,none⟩::rest) K s:=by
 refine qz rfl (qw nofun fun B0 w0 G a w _ hI=>?_);have he:=hI.eval_of hx;generalize hv:a.eval x=v at he
 cases he with
 |os _ _ _ _ b _ hn hvr hb=>
  have a8:=qsx hu ht (some ⟨b,off,none⟩) len cap (lo.map a.eval) (hi.map a.eval) (mx.map a.eval) i j m w (by
   cases lo with
   |none=>exact ck
   |some y=>obtain⟨k,hy⟩:=ck;exact⟨k,hI.evalv hy⟩) (by
   cases hi with
   |none=>obtain⟨q1,q2⟩:=bg;subst q2;exact⟨q1,rfl⟩
   |some y=>obtain⟨k,hy⟩:=bg;exact⟨k,hI.evalv hy⟩) (by
   cases mx with
   |none=>exact tn
   |some y=>obtain⟨k,hy⟩:=tn;exact⟨k,hI.evalv hy⟩) h1 h2 h3
  refine⟨.slice (if m=i then some ⟨b,off,none⟩ else (some ⟨b,off,none⟩:Option Addr).map (·.add (i * sz))) (j - i) (m - i),w,G,_,s.st,?_,.refl G,hI.agree,?_,h⟩
  ·generalize a.eval = ρ at hv a8 ⊢
   simp only [execOp,hv];simp [Instr.sliceAt,run_underlying hu,a8]
  ·have dq:Addr.add ⟨b,off,none⟩ (i * sz)=⟨b,off+i * sz,none⟩:=Addr.add_lit ..
   by_cases hmi:m=i
   ·rw [if_pos hmi,if_pos hmi]
    exact .os o ver off (j - i) b (m - i) hn hvr hb
   ·rw [if_neg hmi,if_neg hmi,Option.map_some,dq]
    exact .os o ver (off+i * sz) (j - i) b (m - i) hn hvr hb
theorem qhv {x y:Operand} {t u T':TypeId} {sz bytes:Nat} {ys:List AV} (hx:∀ (G:Gh) (v:Value),Rel G (qg N s x) v→∃ base,v = .slice base 0 0) (hy:∀ (G:Gh) (v:Value),Rel G (qg N s y) v→Rel G (.sl sz ys none) v)
  (ht:E.P.underlying t=some (.slice T')) (hu:E.P.underlying u=some (.slice T')) (hT:yb E.P T' sz bytes) (m8:kr (flat ys)=true) (h0:ys≠[]) (t7:ys.length≤maxLen) (hb:ys.length * bytes≤140737488355328)
  (h:∀ cap pad,(flat ys++pad).length=(cap+1) * sz→(∀ y∈ys,y.cells.length=sz)→ys.length≤cap+1→cap+1≤maxLen→AOps E rd N ops rest K (AS.put ⟨s.t,s.st++[.cells 0 T' (flat ys++pad)],s.df⟩ d (.os s.st.length 0 0 ys.length (cap+1)))):AOps E rd N ops (⟨d,.call ⟨.builtin .append,#[x,y],#[t,u]⟩,T,p,af,none⟩::rest) K s:=by
 refine qz rfl (qw nofun fun B0 w0 G a0 w _ hI=>?_);obtain⟨i,z,hi,hz,rfl,rfl,gq⟩:=hT.ex;obtain⟨news,h1,h2,h3⟩:=yq (P:=E.P) hI.agree (hy _ _ (hI.eval y)) (by simpa [kr] using m8);obtain⟨base,hv⟩:=hx _ _ (hI.eval x);have d5:0<ys.length:=List.length_pos_iff.2 h0
 have e8:(Builtin.firstCells i.size 0 (.slice base 0 0)).run E.P w.drew = .ok ([]:List Value).toArray w.drew:=by
  cases base with
  |none=>simp [run_firstCells_none]
  |some a=>exact run_firstCells_some w.drew i.size 0 a 0 0 [] (by simp) (by simp)
 have a8:=qe7 (ty:=T) ht hu (.inr ⟨_,rfl⟩) hi hz h1 base 0 0 [] e8 (by omega) (by simp only [maxLen] at t7;omega) (by simp only [Nat.zero_add];rw [nextslicecap_zero (by omega)];omega);simp only [Nat.zero_add] at a8;have dj:=grownCap_ge w ys.length 0 T';have d6:=grownCap_le_maxLen w ys.length 0 T' t7;generalize grownCap w ys.length 0 T'=cap at a8 dj d6;obtain⟨cap,rfl⟩:∃ c,cap=c+1:=⟨cap - 1,by omega⟩;generalize hzc:Builtin.zeroCells z.cells (cap+1 - ys.length)=zc at a8;have sn:zc.size=(cap+1 - ys.length) * i.size:=by rw [← hzc,size_zeroCells,gq]
 have hfy:(flat ys).length=ys.length * i.size:=z6 h2;have t8:Below w.heap.size w w.drew:=⟨rfl,rfl,rfl,Nat.le_refl _,fun _ _=>rfl⟩
 have hr:=y9 (G:=G) (cs:=flat ys) (ds:=zc.toList.map AV.v) (vs:=news) (us:=zc.toList) (by rw [hfy,h1.count]) h3 (fun j a b h1 h2=>by
  rw [List.getElem?_map,h2] at h1;simp at h1;subst h1
  exact .v _)
 have hA:=(hI.agree.fresh t8).newCells T' (([]:List Value).toArray++news.toArray++zc) (flat ys++zc.toList.map AV.v) (by simp [hfy,h1.count]) (fun j a b q1 q2=>hr j a b q1 (by rw [← q2];simp [← Array.getElem?_toList]));have hn:=hI.agree.n;refine⟨_,_,_,_,_,?_,G.le_new _ _ _ _,hA,.os _ _ _ _ _ _ (by simp [Gh.new,hn]) (Nat.zero_le _) (fun _=>by simp [Gh.new,hn];rfl),h cap (zc.toList.map AV.v) ?_ h2 dj d6⟩
 ·generalize a0.eval = ρ at a8 hv ⊢
  simp [execOp,resolve,invoke,builtin,hv,a8]
 ·have h1:zc.toList.length=(cap+1 - ys.length) * i.size:=by rw [← sn];simp
  rw [List.length_append,hfy,List.length_map,h1,← Nat.add_mul];congr 1;omega
theorem qv8 {x y:Operand} {t u T':TypeId} {sz bytes o:Nat} {xs ys:List AV} {a:AV} {ob:AObj} (hx:qg N s x=a) (hy:∀ (G:Gh) (v:Value),Rel G (qg N s y) v→Rel G (.sl sz ys none) v) (hV:Vec sz T' o xs a ob) (ho:s.st[o]? = some ob)
  (ht:E.P.underlying t=some (.slice T')) (hu:E.P.underlying u=some (.slice T')) (hT:yb E.P T' sz bytes) (m8:kr (flat ys)=true) (t7:xs.length+ys.length≤maxLen) (hb:(xs.length+ys.length) * bytes≤140737488355328)
  (h:∀ a' ob',Vec sz T' o (xs++ys) a' ob'→AOps E rd N ops rest K (AS.put ⟨s.t,s.st.set o ob',s.df⟩ d a')):AOps E rd N ops (⟨d,.call ⟨.builtin .append,#[x,y],#[t,u]⟩,T,p,af,none⟩::rest) K s:=by
 refine qz rfl (qw nofun fun B0 w0 G a0 w _ hI=>?_);obtain⟨news,h1,h2,h3⟩:=yq (P:=E.P) hI.agree (hy _ _ (hI.eval y)) (by simpa [kr] using m8);obtain⟨v',w',G',a',ob',e1,e2,e3,e4,e5⟩:=qv7 (ty:=T) hI.agree ht hu (.inr ⟨_,rfl⟩) hT hV ho (hI.eval_of hx) h1 h2 h3 t7 hb;refine⟨v',w',G',_,_,?_,e2,e3,e4,h a' ob' e5⟩;generalize a0.eval = ρ at e1;simp [execOp,resolve,invoke,builtin,e1]
theorem qw9 {x y:Operand} {t u T':TypeId} {sz bytes:Nat} {c:AV} (hx:qg N s x=c) (hc:∀ G v,Rel G c v→∃ b n cp,v = .slice b n cp∧n≤cp) (hy:∀ (G:Gh) (v:Value),Rel G (qg N s y) v→Rel G (.sl sz [] none) v)
  (ht:E.P.underlying t=some (.slice T')) (hu:E.P.underlying u=some (.slice T')) (hT:yb E.P T' sz bytes) (h:AOps E rd N ops rest K (s.put d c)):AOps E rd N ops (⟨d,.call ⟨.builtin .append,#[x,y],#[t,u]⟩,T,p,af,none⟩::rest) K s:=by
 refine qz rfl (qw nofun fun B0 w0 G a0 w _ hI=>?_);obtain⟨i,z,hi,hz,rfl,rfl,gq⟩:=hT.ex;obtain⟨news,h1,h2,h3⟩:=yq (P:=E.P) hI.agree (hy _ _ (hI.eval y)) (by simp [flat]);have mg:news=[]:=List.eq_nil_of_length_eq_zero (by simpa using h1.count);subst mg;have hv:=hI.eval_of hx;obtain⟨b,n,cp,px,d6⟩:=hc _ _ hv;have a8:=qbn (ty:=T) ht hu (.inr ⟨_,rfl⟩) hi h1 b n cp d6;refine⟨_,w,G,c,s.st,?_,.refl G,hI.agree,hv,h⟩;rw [px];generalize a0.eval = ρ at a8 px;simp [execOp,resolve,invoke,builtin,px,a8]
end
end Go.Av
namespace Go.Av
open Go Go.RowKit
theorem qqn {P:Program} (w:World) (tS tR e:TypeId) (ht:P.underlying tS=some (.slice e)) (size:Nat) (hz:∀ w,(Go.sizeOf e).run P w = .ok size w)
  (a b:Addr) (la ca lb cb:Nat) (b9:a.block≠b.block) (tA tB:TypeId) (kA kB:Nat)
  (hsa:w.shape? a.block=some (tA,kA)) (hsb:w.shape? b.block=some (tB,kB)) (hkA:kA≠0)
  (hfb:w.frozen? b=false) (rq:w.frozen? { block:=b.block,off:=kB }=false) :
  (Extern.SlicesOverlaps.overlaps #[tS,tS] #[tR] #[.slice (some a) la ca,.slice (some b) lb cb]).run P w = .ok (.bool false) w:=by
 have hnb:(a.block != b.block)=true:=by simpa using b9
 have hnb':(a.block == b.block)=false:=by simpa using b9
 change Sem.run P (α:=Value) (do
  let some t := (#[tS, tS] : Array TypeId)[0]? | stuck "slices.overlaps: no parameter types"
  let .slice elem ← underlying t | stuck "slices.overlaps: slice type expected"
  let size ← sizeOf elem
  match (some a:Option Addr),(some b:Option Addr) with
  |some a,some b=>
   if la=0∨lb=0∨size=0 then pure (Value.bool false)
   else if a.block != b.block && (← frozen a) && (← frozen b) then unsupported .addressObserved
   else do
    if a.block != b.block then do
     noView a;noView b
     if ← mayBeOne a b then return Value.bool ((← choose (.extern "sameAddr.stringBytes" 2)) == 1)
    pure (Value.bool (a.block == b.block && a.off<b.off+lb * size && b.off<a.off+la * size))
  | _,_=>pure (Value.bool false)) w=_
 by_cases h0:la=0∨lb=0∨size=0
 ·simp [run_underlying ht,hz,h0]
 ·cases kA with
  |zero=>exact absurd rfl hkA
  |succ kA=>
   cases hA:w.frozen? a <;> cases fb:w.frozen? { block:=a.block,off:=kA+1 } <;>
    simp [run_underlying ht,hz,h0,hnb,hnb',frozen,noView,viewAt,mayBeOne,stringish,shape,Sem.run,hsa,hsb,hfb,rq,hA,fb]
section
variable {E : Env} {rd : Option Nat} {N : Nat} {ops : Array Oper} {K : AS → Prop} {s : AS} {rest : List Oper} {d : Option Tmp} {T : TypeId} {p : String} {af : Array Edge}
theorem qq9 {x:Operand} {t0 e:TypeId} {ts:Array TypeId} {o ver off len cap:Nat} (hx:qg N s x = .os o ver off len cap) (ht:ts[0]? = some t0) (hu:E.P.underlying t0=some (.slice e))
  (h:AOps E rd N ops rest K (s.put d (Iv cap))):AOps E rd N ops (⟨d,.call ⟨.builtin .cap,#[x],ts⟩,T,p,af,none⟩::rest) K s:=by
 refine qz rfl (qw nofun fun B0 w0 G a w _ hI=>?_);have he:=hI.eval_of hx;generalize hv:a.eval x=v at he
 cases he with
 |os _ _ _ _ b _ hn hvr hb=>
  refine⟨_,w,G,_,s.st,?_,.refl G,hI.agree,.v _,h⟩;generalize a.eval = ρ at hv ⊢;simp [execOp,resolve,invoke,builtin,hv,Builtin.cap_,ht,run_underlying hu,goInt]
theorem qpq {x y:Operand} {t u T':TypeId} {kn:IntKind} {sz bytes o ver n cap k:Nat} {cs:List AV} (hx:qg N s x = .os o ver 0 n cap) (hy:qg N s y=Iv (k:Nat)) (ho:s.st[o]? = some (.cells ver T' cs))
  (ht:E.P.underlying t=some (.slice T')) (hu:E.P.underlying u=some (.int kn)) (hT:yb E.P T' sz bytes) (m9:cap<n+k) (hk:0<k) (i5:0<sz) (i4:n * sz≤cs.length) (t7:n+k≤maxLen) (hb:(n+k) * bytes≤140737488355328)
  (h:∀ cap' (zs:List AV),zs.length=(cap' - n) * sz→n+k≤cap'→cap'≤maxLen→AOps E rd N ops rest K (AS.put ⟨s.t,s.st++[.cells 0 T' (cs.take (n * sz)++zs)],s.df⟩ d (.os s.st.length 0 0 (n+k) cap'))):AOps E rd N ops (⟨d,.call ⟨.builtin .append,#[x,y],#[t,u]⟩,T,p,af,none⟩::rest) K s:=by
 refine qz rfl (qw nofun fun B0 w0 G a0 w _ hI=>?_);obtain⟨i,z,hi,hz,rfl,rfl,gq⟩:=hT.ex;have hyv:=hI.evalv hy;have hv:=hI.eval_of hx;generalize bv:a0.eval x=v at hv;obtain⟨g0,g1,g2,g3,c,g4,g5,g6⟩:=hI.agree.ob o _ ho
 cases hv with
 |os _ _ _ _ b _ hn hv mw=>
  have mw:=mw g1;subst mw
  have e8:(Builtin.firstCells i.size n (.slice (some ⟨(G.ob o).blk,0,none⟩) n cap)).run E.P w.drew = .ok (c.toList.take (n * i.size)).toArray w.drew:=by
   refine run_firstCells_some w.drew i.size n ⟨(G.ob o).blk,0,none⟩ n cap _ (by simp;omega) fun j y hy=>?_;have e1':w.drew.heap[(G.ob o).blk]? = some (.cells c T' (0,0)):=g4;rw [Addr.add_lit];rw [List.getElem?_take] at hy;split at hy
   ·simp only [Array.getElem?_toList] at hy
    simp [World.cell?,e1',hy]
   ·simp at hy
  have rz:k * i.bytes≤(n+k) * i.bytes:=Nat.mul_le_mul_right _ (by omega);have a8:=Lib.run_append_grow_zeros w t u T T' i z .i64 kn ht hu hi hz (some ⟨(G.ob o).blk,0,none⟩) n cap _ e8 k hk i5 m9 (by simp only [maxLen] at t7;omega) (by omega) (growslice_fits (by omega) hb);have dj:=grownCap_ge w (n+k) cap T';have d6:=grownCap_le_maxLen w (n+k) cap T' t7;generalize grownCap w (n+k) cap T'=cap' at a8 dj d6;have sn:(Builtin.zeroCells z.cells k).size=k * i.size:=by rw [size_zeroCells,gq]
  have hzl2:(Builtin.zeroCells z.cells (cap' - (n+k))).size=(cap' - (n+k)) * i.size:=by rw [size_zeroCells,gq]
  generalize Builtin.zeroCells z.cells k=zc at a8 sn;generalize Builtin.zeroCells z.cells (cap' - (n+k))=zd at a8 hzl2;have t8:Below w.heap.size w w.drew:=⟨rfl,rfl,rfl,Nat.le_refl _,fun _ _=>rfl⟩
  have e1:∀ (j:Nat) (a:AV) (b:Value),(cs.take (n * i.size))[j]? = some a→(c.toList.take (n * i.size))[j]? = some b→Rel G a b:=fun j a b h1 h2=>by
   rw [List.getElem?_take] at h1 h2;split at h1
   ·rename_i hj
    rw [if_pos hj] at h2;exact g6 j a b h1 (by simpa using h2)
   ·simp at h1
  have hr:=y9 (G:=G) (cs:=cs.take (n * i.size)) (ds:=(zc.toList++zd.toList).map AV.v) (vs:=c.toList.take (n * i.size)) (us:=zc.toList++zd.toList) (by simp;omega) e1 (fun j a b h1 h2=>by
   rw [List.getElem?_map,h2] at h1;simp at h1;subst h1
   exact .v _)
  have hA:=(hI.agree.fresh t8).newCells T' ((c.toList.take (n * i.size)).toArray++zc++zd) (cs.take (n * i.size)++(zc.toList++zd.toList).map AV.v) (by simp;omega) (fun j a b q1 q2=>hr j a b q1 (by rw [← q2];simp [← Array.getElem?_toList]));have hn:=hI.agree.n;refine⟨_,_,_,_,_,?_,G.le_new _ _ _ _,hA,.os _ _ _ _ _ _ (by simp [Gh.new,hn]) (Nat.zero_le _) (fun _=>by simp [Gh.new,hn];rfl),h cap' _ ?_ dj d6⟩
  ·generalize a0.eval = ρ at a8 bv hyv ⊢
   simp [execOp,resolve,invoke,builtin,bv,hyv,a8]
  ·have h1:zc.toList.length=k * i.size:=by rw [← sn];simp
   have h2:zd.toList.length=(cap' - (n+k)) * i.size:=by rw [← hzl2];simp
   rw [List.length_map,List.length_append,h1,h2,← Nat.add_mul];congr 1;omega
theorem qwa {f:FuncId} {x y:Operand} {ts:Array TypeId} {T':TypeId} {sz o ver off n c:Nat} {xs cs:List AV} {tip:Option Nat} (hx:qg N s x = .sl sz xs tip) (hy:qg N s y = .os o ver off n c) (ho:s.st[o]? = some (.cells ver T' cs)) (lj:flat xs≠[])
  (a8:∀ (w:World) (a b:Addr) (la ca lb cb:Nat) (tA tB:TypeId) (kA kB:Nat),a.block≠b.block→w.shape? a.block=some (tA,kA)→w.shape? b.block=some (tB,kB)→kA≠0→w.frozen? b=false→w.frozen? { block:=b.block,off:=kB }=false→(callFunc f #[.slice (some a) la ca,.slice (some b) lb cb]).run E.P w = .ok (.value (.bool false)) w)
  (h:AOps E rd N ops rest K (s.put d (Bv false))):AOps E rd N ops (⟨d,.call ⟨.value (.func f),#[x,y],ts⟩,T,p,af,none⟩::rest) K s:=by
 refine qz rfl (qw nofun fun B0 w0 G a w _ hI=>?_);have h1:=hI.eval_of hx;have h2:=hI.eval_of hy;generalize hvx:a.eval x=v at h1;generalize hvy:a.eval y=u at h2;obtain⟨g0,g1,g2,g3,cc,g4,g5,g6⟩:=hI.agree.ob o _ ho
 cases h1 with
 |sl0=>exact absurd rfl lj
 |sl _ _ _ b off2 cap pub hp hw d5 hr pt rk=>
  cases h2 with
  |os _ _ _ _ b2 _ hn hv hb=>
   have hb:=hb g1;subst hb;obtain⟨c2,T2,fz,q1,q2⟩:=hI.agree.pub b pub hp;have b9:b≠(G.ob o).blk:=fun e=>by rw [e,g3] at hp;simp at hp
   have hc2:c2.size≠0:=fun e=>by
    have h0:0<(flat xs).length:=List.length_pos_iff.2 lj;have h3:pub[off2]? = some pub[off2]:=List.getElem?_eq_getElem (by omega);have:=q2 off2 _ h3;rw [Array.getElem?_eq_none (by omega)] at this;simp at this
   have hq:=a8 w ⟨b,off2,none⟩ ⟨(G.ob o).blk,off,none⟩ xs.length cap n c T2 T' c2.size cc.size b9 (by simp [World.shape?,q1]) (by simp [World.shape?,g4]) hc2 (by simp [World.frozen?,g4]) (by simp [World.frozen?,g4]);refine⟨_,w,G,_,s.st,?_,.refl G,hI.agree,.v _,h⟩;have he:a.eval (.func f) = .func (.func f) #[] #[]:=rfl;generalize a.eval = ρ at he hvx hvy ⊢;simp [execOp,resolve,Deferred.ofValue,he,invoke,hvx,hvy,hq]
theorem qxh {x y:Operand} {t e:TypeId} {sz:Nat} {agg:Bool} {c:AV} (hx:qg N s x=c) (hc:∀ (G:Gh) (v:Value),Rel G c v→∃ base,v = .slice base 0 0) (hu:E.P.underlying t=some (.slice e)) (ht:tyOf E.P e=some (sz,agg)) (hy:∃ k,qg N s y = .v (.int k 0))
  (h:AOps E rd N ops rest K (s.put d c)):AOps E rd N ops (⟨d,.slice t x (some y) none none,T,p,af,none⟩::rest) K s:=by
 refine qz rfl (qw nofun fun B0 w0 G a w _ hI=>?_);have he:=hI.eval_of hx;obtain⟨base,hv⟩:=hc _ _ he;have a8:=qsx hu ht base 0 0 (some (a.eval y)) none none 0 0 0 w (by obtain⟨k,hy⟩:=hy;exact⟨k,hI.evalv hy⟩) ⟨rfl,rfl⟩ rfl (Nat.le_refl _) (Nat.le_refl _) (Nat.le_refl _);refine⟨.slice base 0 0,w,G,c,s.st,?_,.refl G,hI.agree,by rw [← hv];exact he,h⟩;generalize a.eval = ρ at hv a8 ⊢;simp only [execOp,hv];simp [Instr.sliceAt,run_underlying hu,a8]
theorem qre {l:List Oper} (L:List (Nat×AV)) (st':List AObj) (df':List Nat) (h:HasL s.t L) (d8:s.st=st') (i8:s.df=df') (k:∀ t,AOps E rd N ops l K ⟨puts t L,st',df'⟩):AOps E rd N ops l K s:=by
 have:=k s.t;rw [qhp h,← d8,← i8] at this;exact this
end
end Go.Av
namespace Go.Av
open Go Go.RowKit
def qeg (o:Oper):Bool:=match o.op with
 | .defer _=>false
 | _=>true
theorem qsi {o:Oper} (h:qeg o=true):∀ c,o.op≠.defer c:=fun c e=>by
 unfold qeg at h;rw [e] at h;simp at h
theorem q9l {P:Program} {ops:Array Oper} {Q:Exit→Act→World→Prop} {l i:Nat} {K:Act→World→Prop} {a:Act} {w:World} (br:∀ o,ops[i]? = some o→qeg o=true) (h:wpOpIn (fw none) 0 P ops Q i K a w):wpOpIn (fw (some l)) 0 P ops Q i K a w:=by
 unfold wpOpIn at *
 cases ho:ops[i]? with
 |none=>simp only [ho] at h ⊢;exact h
 |some o=>
  simp only [ho] at h ⊢;split
  ·rename_i hw
   rw [if_pos hw] at h;unfold Oper.wpIn at *;rw [qd6 (rd:=none) (qsi (br o ho))] at h;rw [qd6 (rd:=some l) (qsi (br o ho))];exact h
  ·rename_i hw
   rw [if_neg hw] at h;exact h
theorem qs8 {P:Program} {ops:Array Oper} {Q:Exit→Act→World→Prop} {l:Nat} {md:Region.Mode} (br:ops.all qeg=true):∀ (fuel:Nat) (listed:Array Bool) (a:Act) (w:World),wpAnyIn (fw none) 0 P md ops Q fuel listed a w→wpAnyIn (fw (some l)) 0 P md ops Q fuel listed a w
 | 0,_,_,_,h=>h
 |fuel+1,listed,a,w,h=>⟨h.1,fun i hi=>q9l (fun o ho=>by
   rw [Array.all_eq_true] at br;obtain⟨h1,h2⟩:=Array.getElem?_eq_some_iff.1 ho;rw [← h2]
   exact br i h1) (wpOpIn_mono (fun a w=>qs8 br fuel _ a w) (h.2 i hi))⟩
theorem q3y {E:Env} {rd:Option Nat} {N:Nat} {ops:Array Oper} {s:AS} {id:Nat} {Q:Exit→AS→Prop} {n:Nat} (hm:E.P.follows .mixedOrders=true) (hd:ops.all qeg=true) (hn:ops.size=n) (h:AZ E N ops n (Array.replicate n false) (Q .normal) s):AWp E rd N (.region id ops true) Q s:=by
 cases rd with
 |none=>exact qiw hm hn h
 |some l=>
  subst hn;refine⟨fun B0 w0 G a w hL hI=>?_⟩;have hBl:Below w.heap.size w { w with drawn:=w.drawn+1 }:=⟨rfl,rfl,rfl,Nat.le_refl _,fun _ _=>rfl⟩;have nt:Inv B0 w0 N G s a { w with drawn:=w.drawn+1 }:=⟨hI.agree.fresh hBl,hI.defers,hI.size,hI.tmps⟩;have:=h.run B0 w0 G a _ hL nt (fun a' w'=>∃ (G':Gh) (s':AS),G.le G'∧Inv B0 w0 N G' s' a' w'∧Q .normal s') fun G' s' a' w' hG r7 hk=>⟨G',s',hG,r7,hk⟩;refine wpIn_mono (wpIn_region_any hm (qs8 hd _ _ _ _ this)) fun e a' w' hq=>?_
  cases e with
  |normal=>exact hq
  | _=>exact hq.elim
def qcl (o:Oper):List Nat:=(o.after.toList.filter fun e=>Region.binds .any e).map (·.on)
def addL (L:Nat→Bool) (i:Nat):Nat→Bool:=fun k=>Nat.beq k i ||L k
def qf9:Nat→List Oper→Bool
 | _,[]=>true
 |i,o::r=>(qcl o).all (fun j=>Nat.blt j i) && qf9 (i+1) r
def qmm (E:Env) (N:Nat) (ops:Array Oper) (J:(Nat→Bool)→AS→Prop):Nat→List Oper→Prop
 | _,[]=>True
 |i,o::r=>(∀ L s,L i=false→(∀ j,(qcl o).contains j=true→L j=true)→J L s→AOps E none N ops [o] (J (addL L i)) s)∧qmm E N ops J (i+1) r
theorem qs1 {E:Env} {N:Nat} {ops:Array Oper} {J:(Nat→Bool)→AS→Prop}:∀ {l:List Oper} {i0 k:Nat} {o:Oper},qmm E N ops J i0 l→l[k]? = some o →
  ∀ L s,L (i0+k)=false→(∀ j,(qcl o).contains j=true→L j=true)→J L s→AOps E none N ops [o] (J (addL L (i0+k))) s
 | [],_,_,_,_,h=>by simp at h
 |o'::r,i0,0,o,hs,h=>by
  simp only [List.getElem?_cons_zero,Option.some.injEq] at h;subst h
  exact hs.1
 |o'::r,i0,k+1,o,hs,h=>by
  have:=qs1 hs.2 (by simpa using h);rw [show i0+1+k=i0+(k+1) by omega] at this;exact this
theorem qry:∀ {l:List Oper} {i0 k:Nat} {o:Oper},qf9 i0 l=true→l[k]? = some o→∀ j∈qcl o,j<i0+k
 | [],_,_,_,_,h=>by simp at h
 |o'::r,i0,0,o,hs,h=>by
  simp only [List.getElem?_cons_zero,Option.some.injEq] at h;subst h;simp only [qf9,Bool.and_eq_true] at hs;intro j hj;have:=List.all_eq_true.1 hs.1 j hj
  simpa [Nat.blt_eq] using this
 |o'::r,i0,k+1,o,hs,h=>by
  simp only [qf9,Bool.and_eq_true] at hs;have:=qry hs.2 (show r[k]? = some o by simpa using h);intro j hj;have:=this j hj;omega
def lof (listed:Array Bool):Nat→Bool:=fun k=>listed.getD k false
theorem zeb {listed:Array Bool} {i:Nat} (hi:i<listed.size):lof (listed.setIfInBounds i true)=addL (lof listed) i:=by
 funext k;unfold lof addL;by_cases h:k=i
 ·subst h
  simp [Array.getD,hi]
 ·have hb:Nat.beq k i=false:=ji h
  rw [hb,Bool.false_or];simp only [Array.getD_eq_getD_getElem?,Array.getElem?_setIfInBounds];rw [if_neg (fun e=>h e.symm)]
theorem qur:∀ {l:List Bool} {i:Nat},l[i]? = some false→(l.set i true).count false+1=l.count false
 | [],_,h=>by simp at h
 |b::l,0,h=>by
  simp only [List.getElem?_cons_zero,Option.some.injEq] at h;subst h
  simp
 |b::l,i+1,h=>by
  have:=qur (l:=l) (i:=i) (by simpa using h);rw [List.set_cons_succ,List.count_cons,List.count_cons];omega
theorem qnr {l:List Oper} {listed:Array Bool} {i:Nat}:i∈Region.ready .any l.toArray listed↔listed.getD i true=false∧∃ o,l[i]? = some o∧∀ j∈qcl o,lof listed j=true:=by
 unfold Region.ready;simp only [List.mem_filter,List.mem_range,Bool.and_eq_true,Bool.not_eq_true',List.size_toArray,List.getElem?_toArray];constructor
 ·rintro⟨h1,h2,h3⟩
  refine⟨h2,l[i],List.getElem?_eq_getElem h1,fun j hj=>?_⟩;rw [List.getElem?_eq_getElem h1] at h3;simp only [Option.map_some,Option.getD_some] at h3;unfold qcl at hj;obtain⟨e,he,rfl⟩:=List.mem_map.1 hj;obtain⟨he1,he2⟩:=List.mem_filter.1 he;have:=Array.all_eq_true'.1 h3 e (by simpa using he1);rw [he2] at this
  simpa [lof] using this
 ·rintro⟨h2,o,ho,h3⟩
  refine⟨lt_of_getElem? ho,h2,?_⟩;rw [ho];simp only [Option.map_some,Option.getD_some];rw [Array.all_eq_true'];intro e he
  cases hb:Region.binds .any e with
  |false=>rfl
  |true=>
   have:=h3 e.on (by
    unfold qcl
    exact List.mem_map.2 ⟨e,List.mem_filter.2 ⟨by simpa using he,hb⟩,rfl⟩)
   simpa [lof] using this
theorem qw5 {P:Nat→Prop}:∀ {l:List Nat},(∀ i∈l,P i)→qwo P l
 | [],_=>trivial
 |i::r,h=>⟨h i (by simp),qw5 fun j hj=>h j (by simp [hj])⟩
theorem AOps.mono' {E:Env} {rd:Option Nat} {N:Nat} {ops:Array Oper} {K K':AS→Prop} {s:AS} {l:List Oper} (h:AOps E rd N ops l K' s) (hk:∀ s,K' s→K s):AOps E rd N ops l K s:=
 ⟨fun B0 w0 G a w hL hI Q hQ=>h.run B0 w0 G a w hL hI Q fun G' s' a' w' hG r7 hK=>hQ G' s' a' w' hG r7 (hk _ hK)⟩
theorem az_J {E:Env} {N:Nat} {l:List Oper} {J:(Nat→Bool)→AS→Prop} {K:AS→Prop} (hd:qf9 0 l=true) (hs:qmm E N l.toArray J 0 l) (gv:∀ L s,(∀ i,i<l.length→L i=true)→J L s→K s) :
  ∀ (fuel:Nat) (listed:Array Bool) (s:AS),listed.size=l.length→listed.toList.count false≤fuel→J (lof listed) s→AZ E N l.toArray fuel listed K s:=by
 intro fuel
 induction fuel with
 |zero=>
  intro listed s i5 hc hJ
  have s6:∀ i,i<l.length→lof listed i=true:=fun i hi=>by
   have h0:listed.toList.count false=0:=by omega
   have hi':i<listed.size:=by omega
   have ck:lof listed i=listed[i]:=by simp [lof,hi']
   rw [ck]
   cases hb:listed[i] with
   |true=>rfl
   |false=>exact absurd (by rw [← hb];simp) (List.count_eq_zero.1 h0)
  have hr:Region.ready .any l.toArray listed=[]:=by
   rw [List.eq_nil_iff_forall_not_mem];intro i hi;obtain⟨h1,o,ho,_⟩:=qnr.1 hi;have hi':=lt_of_getElem? ho;have:=s6 i hi';unfold lof at this;have dt:i<listed.size:=by omega
   simp only [Array.getD,dt,dite_true] at this h1;rw [this] at h1;simp at h1
  exact qcd hr (gv _ s s6 hJ)
 |succ fuel ih=>
  intro listed s i5 hc hJ;by_cases hr:Region.ready .any l.toArray listed=[]
  ·refine qcd hr (gv _ s (fun i=>?_) hJ)
   induction i using Nat.strongRecOn with
   | _ i ihi=>
    intro hi
    cases hb:lof listed i with
    |true=>rfl
    |false=>
     exfalso
     have hm:i∈Region.ready .any l.toArray listed:=by
      refine qnr.2 ⟨?_,l[i],List.getElem?_eq_getElem hi,fun j hj=>?_⟩
      ·have dt:i<listed.size:=by omega
       unfold lof at hb;simp only [Array.getD,dt,dite_true] at hb ⊢;exact hb
      ·have:=qry hd (List.getElem?_eq_getElem hi) j hj
       exact ihi j (by omega) (by omega)
     rw [hr] at hm;simp at hm
  ·refine wn _ rfl ?_ (qw5 fun i hi=>?_)
   ·cases h:Region.ready .any l.toArray listed with
    |nil=>exact absurd h hr
    |cons a r=>rfl
   ·obtain⟨h1,o,ho,h3⟩:=qnr.1 hi
    have rx:=lt_of_getElem? ho;have dt:i<listed.size:=by omega
    refine⟨o,by simpa using ho,?_⟩
    have hl:lof listed i=false:=by
     unfold lof;simp only [Array.getD,dt,dite_true] at h1 ⊢;exact h1
    have:=qs1 hs ho (lof listed) s (by rw [Nat.zero_add];exact hl) (fun j hj=>h3 j (by simpa using hj)) hJ;rw [Nat.zero_add] at this;refine this.mono' fun s' hJ'=>ih _ s' (by simpa using i5) ?_ (by rw [zeb dt];exact hJ')
    have hg:listed.toList[i]? = some false:=by
     have:listed[i]=false:=by
      simp only [Array.getD,dt,dite_true] at h1;exact h1
     simp [dt,this]
    have:=qur hg;rw [Array.toList_setIfInBounds];omega
theorem q6a {E:Env} {rd:Option Nat} {N:Nat} {s:AS} {id:Nat} {l:List Oper} {Q:Exit→AS→Prop} (hm:E.P.follows .mixedOrders=true) (br:l.toArray.all qeg=true) (hd:qf9 0 l=true) (J:(Nat→Bool)→AS→Prop)
  (h0:J (fun _=>false) s) (gv:∀ L s,(∀ i,i<l.length→L i=true)→J L s→Q .normal s) (hs:qmm E N l.toArray J 0 l):AWp E rd N (.region id l.toArray true) Q s:=by
 refine q3y hm br (n:=l.length) (by simp) (az_J hd hs gv _ _ _ (by simp) ?_ ?_)
 ·simp only [Array.toList_replicate,List.count_replicate]
  split <;> omega
 ·have:lof (Array.replicate l.length false)=fun _=>false:=by
   funext k;unfold lof;simp only [Array.getD_eq_getD_getElem?,Array.getElem?_replicate];split <;> rfl
  rw [this];exact h0
inductive SV where
 |a (x:AV)
 |i (n:Int)
 |s (l:List UInt8)
 |tt
 |ff
 |b (c:Bool)
 |p (q:Prop) (h:Decidable q)
 |bx (k off:Nat)
 |tp (k:Nat)
 |ag (cs:List SV)
 |tu (cs:List SV)
 |fn (f:Fn) (xs ys:List SV)
 |ifc (t:TypeId) (x:SV)
def bxAt:AV→Nat→AV
 | .bx o v _,off=>.bx o v off
 | .os o v _ _ _,off=>.bx o v off
 | _,off=>.bx 0 0 off
def tpAt (x:AV):AV:=bif x.one then x else Bv false
mutual
def SV.ev (ρ : Nat→AV):SV→AV
 | .a x=>x
 | .i n=>Iv n
 | .s l=>Sv l
 | .tt=>Bv true
 | .ff=>Bv false
 | .b c=>Bv c
 | .p q h=>Bv (@decide q h)
 | .bx k off=>bxAt (ρ k) off
 | .tp k=>tpAt (ρ k)
 | .ag cs=>.ag (SV.evs ρ cs)
 | .tu cs=>.tu (SV.evs ρ cs)
 | .fn f xs ys=>.fn f (SV.evs ρ xs) (SV.evs ρ ys)
 | .ifc t x=>.ifc t (SV.ev ρ x)
def SV.evs (ρ : Nat→AV):List SV→List AV
 | []=>[]
 |x::r=>SV.ev ρ x::SV.evs ρ r
end
mutual
def SV.all (f:Nat→Bool):SV→Bool
 | .bx k _=>f k
 | .tp k=>f k
 | .ag cs=>SV.alls f cs
 | .tu cs=>SV.alls f cs
 | .fn _ xs ys=>SV.alls f xs && SV.alls f ys
 | .ifc _ x=>SV.all f x
 | _=>true
def SV.alls (f:Nat→Bool):List SV→Bool
 | []=>true
 |x::r=>SV.all f x && SV.alls f r
end
theorem wi (ρ : Nat→AV):∀ l:List SV,SV.evs ρ l=l.map (SV.ev ρ)
 | []=>rfl
 |x::r=>by rw [SV.evs,wi ρ r];rfl
mutual
theorem yy {f:Nat→Bool} {ρ ρ':Nat→AV} (h:∀ k,f k=true→ρ' k = ρ k):∀ v:SV,v.all f=true→v.ev ρ'=v.ev ρ
 | .a _,_=>rfl
 | .i _,_=>rfl
 | .s _,_=>rfl
 | .tt,_=>rfl
 | .ff,_=>rfl
 | .b _,_=>rfl
 | .p _ _,_=>rfl
 | .bx k off,hv=>by simp only [SV.all] at hv;simp only [SV.ev,h k hv]
 | .tp k,hv=>by simp only [SV.all] at hv;simp only [SV.ev,h k hv]
 | .ag cs,hv=>by simp only [SV.all] at hv;simp only [SV.ev,y8 h cs hv]
 | .tu cs,hv=>by simp only [SV.all] at hv;simp only [SV.ev,y8 h cs hv]
 | .fn f xs ys,hv=>by simp only [SV.all,Bool.and_eq_true] at hv;simp only [SV.ev,y8 h xs hv.1,y8 h ys hv.2]
 | .ifc t x,hv=>by simp only [SV.all] at hv;simp only [SV.ev,yy h x hv]
theorem y8 {f:Nat→Bool} {ρ ρ':Nat→AV} (h:∀ k,f k=true→ρ' k = ρ k):∀ l:List SV,SV.alls f l=true→SV.evs ρ' l=SV.evs ρ l
 | [],_=>rfl
 |x::r,hv=>by simp only [SV.alls,Bool.and_eq_true] at hv;simp only [SV.evs,yy h x hv.1,y8 h r hv.2]
end
mutual
theorem all_mono {f g:Nat→Bool} (h:∀ k,f k=true→g k=true):∀ v:SV,v.all f=true→v.all g=true
 | .a _,_=>rfl
 | .i _,_=>rfl
 | .s _,_=>rfl
 | .tt,_=>rfl
 | .ff,_=>rfl
 | .b _,_=>rfl
 | .p _ _,_=>rfl
 | .bx k off,hv=>h k hv
 | .tp k,hv=>h k hv
 | .ag cs,hv=>qcp h cs hv
 | .tu cs,hv=>qcp h cs hv
 | .fn f xs ys,hv=>by simp only [SV.all,Bool.and_eq_true] at hv ⊢;exact⟨qcp h xs hv.1,qcp h ys hv.2⟩
 | .ifc t x,hv=>all_mono h x hv
theorem qcp {f g:Nat→Bool} (h:∀ k,f k=true→g k=true):∀ l:List SV,SV.alls f l=true→SV.alls g l=true
 | [],_=>rfl
 |x::r,hv=>by simp only [SV.alls,Bool.and_eq_true] at hv ⊢;exact⟨all_mono h x hv.1,qcp h r hv.2⟩
end
inductive SR where
 |cells (T:TypeId) (cs:List SV)
 |tip (sz:Nat) (T:TypeId) (xs:List AV)
 |own (sz:Nat) (T:TypeId) (xs:List AV)
 |obj (P:AObj→AV→Prop)
  |rows (T:TypeId) (ys:List AV) (cs:List SV)
def SR.all (f:Nat→Bool):SR→Bool
 | .cells _ cs=>SV.alls f cs
 | .tip _ _ _=>true
 | .own _ _ _=>true
 | .obj _=>true
 | .rows _ _ cs=>SV.alls f cs
structure qb8 (c:AV):Prop where
 val:∀ (G:Gh) (v:Value),Rel G c v→∃ base,v = .slice base 0 0
 one:c.one=true
 len:lenA c=some 0
 bx:∀ (o ver off len cap:Nat),c≠.os o ver off len (cap+1)
 nb:∀ (o ver off:Nat),c≠.bx o ver off
 ns:∀ (sz:Nat) (xs:List AV) (t:Nat),c≠.sl sz xs (some t)
theorem qqf (base:Option Addr):qb8 (.v (.slice base 0 0)):=⟨fun G v h=>by cases h;exact⟨base,rfl⟩,rfl,rfl,by simp,by simp,by simp⟩
theorem qni (o v f:Nat):qb8 (.os o v f 0 0):=⟨fun G v h=>by cases h;exact⟨_,rfl⟩,rfl,rfl,by simp,by simp,by simp⟩
def OwnS (S:List AObj) (sz:Nat) (T:TypeId) (xs:List AV) (c:AV):Prop:=
 (xs=[]∧qb8 c)∨∃ o ver cap pad,c = .os o ver 0 xs.length (cap+1)∧S[o]? = some (.cells ver T (flat xs++pad))∧(flat xs++pad).length=(cap+1) * sz∧(∀ x∈xs,x.cells.length=sz)∧xs.length≤cap+1∧cap+1≤maxLen
def zm:AV→Option Nat
 | .bx o _ _=>some o
 | .sl _ _ (some t)=>some t
 | .os o _ _ _ (_+1)=>some o
 | .mp o=>some o
 | _=>none
def SR.ok (ρ : Nat→AV) (S:List AObj) (c:AV):SR→Prop
 | .cells T cs=>∃ o v,c = .bx o v 0∧S[o]? = some (.cells v T (SV.evs ρ cs))∧v=0
 | .tip sz T xs=>TipO 0 S sz T xs c
 | .own sz T xs=>OwnS S sz T xs c
 | .obj P=>∃ o x,zm c=some o∧S[o]? = some x∧x≠.dfr∧P x c
 | .rows T ys cs=>OwnS S 1 T (ys++SV.evs ρ cs) c
theorem SR.all_mono {f g:Nat→Bool} (h:∀ k,f k=true→g k=true):∀ r:SR,r.all f=true→r.all g=true
 | .cells _ cs,hr=>qcp h cs hr
 | .tip _ _ _,_=>rfl
 | .own _ _ _,_=>rfl
 | .obj _,_=>rfl
 | .rows _ _ cs,hr=>qcp h cs hr
theorem qb8.nm {o:Nat} (h:qb8 (.mp o)):False:=by
 obtain⟨_,e⟩:=h.val ⟨fun _=>none,fun _=>⟨0,0,0,true⟩,o+1⟩ (.map (some 0)) (.mp _ _ (Nat.lt_succ_self _) rfl rfl)
 cases e
theorem OwnS.loc {S:List AObj} {sz:Nat} {T:TypeId} {xs:List AV} {c:AV} (h:OwnS S sz T xs c) {o:Nat} (ho:zm c=some o):∃ ver cap pad,c = .os o ver 0 xs.length (cap+1)∧S[o]? = some (.cells ver T (flat xs++pad))∧(flat xs++pad).length=(cap+1) * sz∧(∀ x∈xs,x.cells.length=sz)∧xs.length≤cap+1∧cap+1≤maxLen:=by
 rcases h with⟨_,h⟩ | ⟨o',ver,cap,pad,rfl,h⟩
 ·unfold zm at ho
  split at ho
  ·exact absurd rfl (h.nb _ _ _)
  ·exact absurd rfl (h.ns _ _ _)
  ·exact absurd rfl (h.bx _ _ _ _ _)
  ·exact h.nm.elim
  ·simp at ho
 ·simp only [zm,Option.some.injEq] at ho
  subst ho;exact⟨ver,cap,pad,rfl,h⟩
theorem qb8.loc {c:AV} (h:qb8 c):zm c=none:=by
 unfold zm;split
 ·exact absurd rfl (h.nb _ _ _)
 ·exact absurd rfl (h.ns _ _ _)
 ·exact absurd rfl (h.bx _ _ _ _ _)
 ·exact h.nm.elim
 ·rfl
theorem qb8.wk {c:AV} (h:qb8 c) (sz:Nat):∀ (G:Gh) (v:Value),Rel G c v→Rel G (.sl sz [] none) v:=fun G v hv=>by
 obtain⟨base,rfl⟩:=h.val G v hv;exact .sl0 sz none _ _ (by simp)
theorem OwnS.of {S S':List AObj} {sz:Nat} {T:TypeId} {xs:List AV} {c:AV} (h:OwnS S sz T xs c) (hs:∀ o,zm c=some o→S'[o]? = S[o]?):OwnS S' sz T xs c:=by
 rcases h with h | ⟨o,ver,cap,pad,rfl,h1,h2⟩
 ·exact .inl h
 ·exact .inr ⟨o,ver,cap,pad,rfl,(hs o rfl).trans h1,h2⟩
theorem SR.ok_lt {ρ : Nat→AV} {S:List AObj} {c:AV} {r:SR} (h:r.ok ρ S c) {o:Nat} (ho:zm c=some o):o<S.length:=by
 cases r with
 |cells T cs=>
  obtain⟨o',v,rfl,h,_⟩:=h;simp only [zm,Option.some.injEq] at ho;subst ho
  exact lt_of_getElem? h
 |tip sz T xs=>
  rcases h with (⟨_,rfl⟩ | ⟨t,rfl,ht,_⟩) | ⟨_,o',v,f,rfl⟩
  ·simp [zm] at ho
  ·simp only [zm,Option.some.injEq] at ho
   subst ho;exact lt_of_getElem? ht
  ·simp [zm] at ho
 |own sz T xs=>
  obtain⟨_,_,_,_,h,_⟩:=OwnS.loc h ho
  exact lt_of_getElem? h
 |obj P=>
  obtain⟨o',x,h1,h2,_⟩:=h;rw [h1,Option.some.injEq] at ho;subst ho
  exact lt_of_getElem? h2
 |rows T ys cs=>
  obtain⟨_,_,_,_,h,_⟩:=OwnS.loc h ho;exact lt_of_getElem? h
theorem SR.ok_of {ρ ρ':Nat→AV} {S S':List AObj} {c:AV} {r:SR} {f:Nat→Bool} (hf:r.all f=true) (hr:∀ k,f k=true→ρ' k = ρ k) (h:r.ok ρ S c) (hs:∀ o,zm c=some o→S'[o]? = S[o]?):r.ok ρ' S' c:=by
 cases r with
 |cells T cs=>
  obtain⟨o,v,rfl,h,h0⟩:=h;refine⟨o,v,rfl,?_,h0⟩;rw [hs o rfl,y8 hr cs hf]
  exact h
 |tip sz T xs=>
  rcases h with (⟨h1,h2⟩ | ⟨t,rfl,ht,h0⟩)|h
  ·exact .inl (.inl ⟨h1,h2⟩)
  ·exact .inl (.inr ⟨t,rfl,(hs t rfl).trans ht,h0⟩)
  ·exact .inr h
 |own sz T xs=>exact OwnS.of h hs
 |obj P=>
  obtain⟨o,x,h1,h2,h3⟩:=h
  exact⟨o,x,h1,(hs o h1).trans h2,h3⟩
 |rows T ys cs=>
  have h2:=OwnS.of (S':=S') (show OwnS S 1 T (ys++SV.evs ρ cs) c from h) hs
  show OwnS S' 1 T (ys++SV.evs ρ' cs) c
  rw [y8 hr cs hf];exact h2
structure SatF (S:List AObj) (ρ : Nat→AV) (H:Nat→Option SR):Prop where
 ok:∀ k r,H k=some r→r.ok ρ S (ρ k)
 sep:∀ k k' r r',k≠k'→H k=some r→H k'=some r'→∀ o,zm (ρ k)=some o→zm (ρ k')≠some o
def lkS {α : Type}:List (Nat×α)→Nat→Option α
 | [],_=>none
 |(i,v)::r,k=>bif Nat.beq i k then some v else lkS r k
theorem qc2 {α : Type}:∀ (l r:List (Nat×α)) (k:Nat),lkS (l++r) k=match lkS l k with|some v=>some v|none=>lkS r k
 | [],_,_=>rfl
 |(i,v)::l,r,k=>by
  simp only [List.cons_append,lkS]
  cases Nat.beq i k
  ·simp only [cond_false];exact qc2 l r k
  ·rfl
def hpF (hp:List (Nat×Option SR)) (k:Nat):Option SR:=match lkS hp k with|some r=>r|none=>none
def chF (ch:List (Nat×Option SR)) (H:Nat→Option SR) (k:Nat):Option SR:=match lkS ch k with|some r=>r|none=>H k
theorem q2i (ch hp:List (Nat×Option SR)):hpF (ch++hp)=chF ch (hpF hp):=by
 funext k;unfold hpF chF;rw [qc2]
 cases lkS ch k <;> rfl
def memN (ks:List Nat) (k:Nat):Bool:=ks.any (Nat.beq k)
def resF (ks:List Nat) (H:Nat→Option SR) (k:Nat):Option SR:=bif memN ks k then H k else none
theorem wd {ks:List Nat} {H:Nat→Option SR} {k:Nat} {r:SR} (h:resF ks H k=some r):memN ks k=true∧H k=some r:=by
 unfold resF at h
 cases hm:memN ks k with
 |true=>rw [hm] at h;exact⟨rfl,h⟩
 |false=>rw [hm] at h;simp at h
theorem SatF.res {S:List AObj} {ρ : Nat→AV} {H:Nat→Option SR} (h:SatF S ρ H) (ks:List Nat):SatF S ρ (resF ks H):=
 ⟨fun k r hk=>h.ok k r (wd hk).2,fun k k' r r' b9 h1 h2=>h.sep k k' r r' b9 (wd h1).2 (wd h2).2⟩
structure Ef where
 val:SV
 ks:List Nat
 ch:List (Nat×Option SR)
 nx:Nat
def Ef.wf (e:Ef) (nx:Nat):Bool:=Nat.ble nx e.nx && e.val.all (fun k=>Nat.blt k e.nx) && e.ch.all (fun p=>Nat.blt p.1 e.nx && (memN e.ks p.1 ||Nat.ble nx p.1) && match p.2 with|some r=>r.all (fun k=>Nat.blt k e.nx)|none=>true)
def SlOk (ρ : Nat→AV) (t:Nat→AV) (sl:List (Nat×SV)):Prop:=∀ d v,lkS sl d=some v→t d=v.ev ρ
structure qgx (ρ : Nat→AV) (S:List AObj) (nx:Nat) (H:Nat→Option SR) (e:Ef) (ρ':Nat→AV) (S':List AObj):Prop where
 old:∀ k,(k<nx∨e.nx≤k)→ρ' k = ρ k
 sat:SatF S' ρ' (chF e.ch (resF e.ks H))
 len:S.length≤S'.length
 fr:∀ j,j<S.length→(∀ k r,resF e.ks H k=some r→zm (ρ k)≠some j)→S'[j]? = S[j]?
 loc:∀ k r,chF e.ch (resF e.ks H) k=some r→∀ o,zm (ρ' k)=some o→S.length≤o∨∃ k' r',resF e.ks H k'=some r'∧zm (ρ k')=some o
def Loc (E:Env) (N:Nat) (ops:Array Oper) (o:Oper) (nx:Nat) (sl:List (Nat×SV)) (H:Nat→Option SR) (e:Ef):Prop:=
 ∀ (df:List Nat) (rd:Option Nat) (K:AS→Prop) (rest:List Oper) (ρ : Nat→AV) (t:Nat→AV) (S:List AObj),SlOk ρ t sl→SatF S ρ (resF e.ks H) →
  (∀ ρ' S',qgx ρ S nx H e ρ' S'→AOps E rd N ops rest K (AS.put ⟨t,S',df⟩ o.dst (e.val.ev ρ')))→AOps E rd N ops (o::rest) K ⟨t,S,df⟩
structure Conf where
 sl:List (Nat×SV)
 hp:List (Nat×Option SR)
 nx:Nat
def Conf.app (C:Conf) (d:Option Tmp) (e:Ef):Conf:=⟨match d with|some d=>(d,e.val)::C.sl|none=>C.sl,e.ch++C.hp,e.nx⟩
structure SatR (S0:List AObj) (F:Nat→Prop) (C:Conf) (ρ : Nat→AV) (t:Nat→AV) (S:List AObj):Prop where
 sl:SlOk ρ t C.sl
 hp:SatF S ρ (hpF C.hp)
 own:∀ k r,hpF C.hp k=some r→∀ o,zm (ρ k)=some o→S0.length≤o∨F o
 low:∀ j,j<S0.length→¬ F j→S[j]? = S0[j]?
 len:S0.length≤S.length
 wsl:∀ d v,lkS C.sl d=some v→v.all (fun k=>Nat.blt k C.nx)=true
 whp:∀ k r,hpF C.hp k=some r→k<C.nx∧r.all (fun k=>Nat.blt k C.nx)=true
structure Bs where
 S0:List AObj
 F:Nat→Prop
 ρ0:Nat→AV
 n0:Nat
 dz:Prop
structure Frm (B:Bs) (C:Conf) (ρ : Nat→AV) (df:List Nat) (S:List AObj):Prop where
 dm:∀ d∈df,S[d]? = some .dfr∧B.S0.length≤d
 nd:df.Nodup
 rig:∀ k,k<B.n0→ρ k=B.ρ0 k
 le:B.n0≤C.nx
 dz:B.dz→df=[]
def SatC (B:Bs) (C:Conf) (s:AS):Prop:=∃ ρ,Frm B C ρ s.df s.st∧SatR B.S0 B.F C ρ s.t s.st
theorem SR.ok_dfr {ρ : Nat→AV} {S:List AObj} {c:AV} {r:SR} (h:r.ok ρ S c) {o:Nat} (ho:zm c=some o):S[o]?≠some .dfr:=by
 cases r with
 |cells T cs=>
  obtain⟨o',v,rfl,h,_⟩:=h;simp only [zm,Option.some.injEq] at ho;subst ho;rw [h]
  simp
 |tip sz T xs=>
  rcases h with (⟨_,rfl⟩ | ⟨t,rfl,ht,_⟩) | ⟨_,o',v,f,rfl⟩
  ·simp [zm] at ho
  ·simp only [zm,Option.some.injEq] at ho
   subst ho;rw [ht];simp
  ·simp [zm] at ho
 |own sz T xs=>
  obtain⟨_,_,_,_,h,_⟩:=OwnS.loc h ho;rw [h]
  simp
 |obj P=>
  obtain⟨o',x,h1,h2,h3,_⟩:=h;rw [h1,Option.some.injEq] at ho;subst ho;rw [h2]
  simpa using h3
 |rows T ys cs=>
  obtain⟨_,_,_,_,h,_⟩:=OwnS.loc h ho;rw [h];simp
theorem ku {a b:Nat} (h:Nat.blt a b=true):a<b:=by simpa [Nat.blt_eq] using h
theorem qav {a b:Nat} (h:a<b):Nat.blt a b=true:=by simpa [Nat.blt_eq] using h
theorem qfr {e:Ef} {nx:Nat} (h:e.wf nx=true):nx≤e.nx∧e.val.all (fun k=>Nat.blt k e.nx)=true∧∀ p∈e.ch,p.1<e.nx∧(memN e.ks p.1=true∨nx≤p.1)∧∀ r,p.2=some r→r.all (fun k=>Nat.blt k e.nx)=true:=by
 simp only [Ef.wf,Bool.and_eq_true] at h;refine⟨Nat.le_of_ble_eq_true h.1.1,h.1.2,fun p hp=>?_⟩;have:=List.all_eq_true.1 h.2 p hp;simp only [Bool.and_eq_true,Bool.or_eq_true] at this;refine⟨ku this.1.1,this.1.2.imp_right Nat.le_of_ble_eq_true,fun r hr=>?_⟩;have h3:=this.2;rw [hr] at h3;exact h3
theorem ko {α : Type}:∀ {l:List (Nat×α)} {k:Nat} {v : α},lkS l k=some v→(k,v)∈l
 | [],_,_,h=>by simp [lkS] at h
 |(i,x)::r,k,v,h=>by
  unfold lkS at h
  cases hb:Nat.beq i k with
  |true=>
   rw [hb] at h;simp only [cond_true,Option.some.injEq] at h;have:=Nat.eq_of_beq_eq_true hb;subst this;subst h
   simp
  |false=>
   rw [hb] at h;exact List.mem_cons_of_mem _ (ko h)
theorem SatR.stepG {S0:List AObj} {F:Nat→Prop} {C:Conf} {ρ ρ' t:Nat→AV} {S S':List AObj} {e:Ef} {d:Option Tmp} {nx NX:Nat} (h:SatR S0 F C ρ t S) (hN:C.nx≤NX) (w2:e.val.all (fun k=>Nat.blt k NX)=true) (w3:∀ p∈e.ch,p.1<NX∧∀ r,p.2=some r→r.all (fun k=>Nat.blt k NX)=true)
  (a1:∀ d v,lkS C.sl d=some v→v.all (fun k=>Nat.blt k nx ||Nat.ble e.nx k)=true) (a2:∀ k r,hpF C.hp k=some r→(k<nx∨e.nx≤k)∧r.all (fun k=>Nat.blt k nx ||Nat.ble e.nx k)=true) (hp:qgx ρ S nx (hpF C.hp) e ρ' S') :
  SatR S0 F ⟨match d with|some d=>(d,e.val)::C.sl|none=>C.sl,e.ch++C.hp,NX⟩ ρ' (AS.put ⟨t,S',[]⟩ d (e.val.ev ρ')).t S':=by
 have hav:∀ k,(Nat.blt k nx ||Nat.ble e.nx k)=true→ρ' k = ρ k:=fun k hk=>by
  rcases Bool.or_eq_true_iff.1 hk with hk|hk
  ·exact hp.old k (.inl (ku hk))
  ·exact hp.old k (.inr (Nat.le_of_ble_eq_true hk))
 have hev:∀ d v,lkS C.sl d=some v→v.ev ρ'=v.ev ρ:=fun d v hd=>yy hav v (a1 d v hd);have hres:∀ k r,hpF C.hp k=some r→memN e.ks k=true→resF e.ks (hpF C.hp) k=some r:=fun k r h1 h2=>by unfold resF;rw [h2];exact h1
 -- what lies at a name behind the operation
 have key:∀ k r,hpF (e.ch++C.hp) k=some r→chF e.ch (resF e.ks (hpF C.hp)) k=some r∨(memN e.ks k=false∧lkS e.ch k=none∧hpF C.hp k=some r):=fun k r hk=>by
  rw [q2i] at hk;unfold chF at hk ⊢
  cases hl:lkS e.ch k with
  |some x=>rw [hl] at hk;exact .inl hk
  |none=>
   rw [hl] at hk;simp only at hk ⊢
   cases hm:memN e.ks k with
   |true=>exact .inl (hres k r hk hm)
   |false=>exact .inr ⟨rfl,trivial,hk⟩
 have d8:∀ k r,memN e.ks k=false→hpF C.hp k=some r→∀ o,zm (ρ k)=some o→S'[o]? = S[o]?∧o<S.length:=fun k r hm hk o ho=>by
  have d9:=SR.ok_lt (h.hp.ok k r hk) ho;refine⟨hp.fr o d9 fun k' r' s8=>?_,d9⟩;obtain⟨hm',s8⟩:=wd s8;have b9:k≠k':=fun e=>by subst e;rw [hm] at hm';simp at hm'
  exact h.hp.sep k k' r r' b9 hk s8 o ho
 have hρ : ∀ k r,hpF C.hp k=some r→ρ' k = ρ k:=fun k r hk=>hp.old k (a2 k r hk).1
 have sepx:∀ k k' r r',memN e.ks k=false→hpF C.hp k=some r→chF e.ch (resF e.ks (hpF C.hp)) k'=some r'→∀ o,zm (ρ' k)=some o→zm (ρ' k')≠some o:=fun k k' r r' hm hk s8 o ho d7=>by
  rw [hρ k r hk] at ho;obtain⟨_,d9⟩:=d8 k r hm hk o ho;rcases hp.loc k' r' s8 o d7 with h1 | ⟨k2,r2,h2,h3⟩
  ·omega
  ·obtain⟨pj,bq⟩:=wd h2
   have b9:k≠k2:=fun e=>by subst e;rw [hm] at pj;simp at pj
   exact h.hp.sep k k2 r r2 b9 hk bq o ho h3
 refine⟨?_,⟨?_,?_⟩,?_,?_,Nat.le_trans h.len hp.len,?_,?_⟩
 ·cases d with
  |none=>exact fun x v hx=>(h.sl x v hx).trans (hev x v hx).symm
  |some d=>
   intro x v hx;simp only [lkS] at hx;by_cases hd:x=d
   ·subst hd
    have hb:Nat.beq x x=true:=by simp
    rw [hb] at hx;simp only [cond_true,Option.some.injEq] at hx;subst hx;exact wz _ _ _
   ·rw [ji (fun e=>hd e.symm)] at hx
    simp only [cond_false] at hx;exact (y3 _ _ _ _ hd).trans ((h.sl x v hx).trans (hev x v hx).symm)
 ·intro k r hk
  rcases key k r hk with h1 | ⟨hm,_,h1⟩
  ·exact hp.sat.ok k r h1
  ·rw [hρ k r h1]
   exact SR.ok_of (a2 k r h1).2 hav (h.hp.ok k r h1) fun o ho=>(d8 k r hm h1 o ho).1
 ·intro k k' r r' b9 hk s8 o ho
  rcases key k r hk with h1 | ⟨hm,_,h1⟩
  ·rcases key k' r' s8 with h2 | ⟨pj,_,h2⟩
   ·exact hp.sat.sep k k' r r' b9 h1 h2 o ho
   ·exact fun d7=>sepx k' k r' r pj h2 h1 o d7 ho
  ·rcases key k' r' s8 with h2 | ⟨pj,_,h2⟩
   ·exact sepx k k' r r' hm h1 h2 o ho
   ·rw [hρ k r h1] at ho
    rw [hρ k' r' h2];exact h.hp.sep k k' r r' b9 h1 h2 o ho
 ·intro k r hk o ho
  rcases key k r hk with h1 | ⟨hm,_,h1⟩
  ·rcases hp.loc k r h1 o ho with h2 | ⟨k',r',h2,h3⟩
   ·exact .inl (Nat.le_trans h.len h2)
   ·exact h.own k' r' (wd h2).2 o h3
  ·rw [hρ k r h1] at ho
   exact h.own k r h1 o ho
 ·intro j hj hF
  refine (hp.fr j (Nat.lt_of_lt_of_le hj h.len) fun k r hk ho=>?_).trans (h.low j hj hF);rcases h.own k r (wd hk).2 j ho with h1|h1
  ·omega
  ·exact hF h1
 ·intro x v hx
  have e8:lkS C.sl x=some v→v.all (fun k=>Nat.blt k NX)=true:=fun hx=>all_mono (fun k hk=>qav (by have:=ku hk;omega)) v (h.wsl x v hx)
  cases d with
  |none=>exact e8 hx
  |some d=>
   simp only [lkS] at hx
   cases hb:Nat.beq d x with
   |true=>
    rw [hb] at hx;simp only [cond_true,Option.some.injEq] at hx;subst hx
    exact w2
   |false=>
    rw [hb] at hx;exact e8 hx
 ·intro k r hk
  have e8:hpF C.hp k=some r→k<NX∧r.all (fun k=>Nat.blt k NX)=true:=fun hk=>⟨by have:=(h.whp k r hk).1;omega,SR.all_mono (fun k hk=>qav (by have:=ku hk;omega)) r (h.whp k r hk).2⟩;rcases key k r hk with h1 | ⟨_,_,h1⟩
  ·unfold chF at h1
   cases hl:lkS e.ch k with
   |some x=>
    rw [hl] at h1;simp only at h1;obtain⟨h2,h3⟩:=w3 _ (ko hl)
    exact⟨h2,h3 r h1⟩
   |none=>
    rw [hl] at h1;exact e8 (wd h1).2
  ·exact e8 h1
theorem SatR.step {S0:List AObj} {F:Nat→Prop} {C:Conf} {ρ ρ' t:Nat→AV} {S S':List AObj} {e:Ef} {d:Option Tmp} (h:SatR S0 F C ρ t S) (hw:e.wf C.nx=true) (hp:qgx ρ S C.nx (hpF C.hp) e ρ' S') :
  SatR S0 F (C.app d e) ρ' (AS.put ⟨t,S',[]⟩ d (e.val.ev ρ')).t S':=by
 obtain⟨w1,w2,w3⟩:=qfr hw;exact h.stepG w1 w2 (fun p hp=>⟨(w3 p hp).1,(w3 p hp).2.2⟩) (fun d v hd=>all_mono (fun k hk=>by rw [hk];rfl) v (h.wsl d v hd)) (fun k r hk=>⟨.inl (h.whp k r hk).1,SR.all_mono (fun k hk=>by rw [hk];rfl) r (h.whp k r hk).2⟩) hp
theorem Frm.nx {B:Bs} {C C':Conf} {ρ : Nat→AV} {S:List AObj} {df:List Nat} (h:Frm B C ρ df S) (hn:B.n0≤C'.nx):Frm B C' ρ df S:=⟨h.dm,h.nd,h.rig,hn,h.dz⟩
theorem Frm.stepG {B:Bs} {C C':Conf} {ρ ρ':Nat→AV} {S S':List AObj} {df:List Nat} {e:Ef} {nx:Nat} {H:Nat→Option SR} (h:Frm B C ρ df S) (hS:SatF S ρ H) (hp:qgx ρ S nx H e ρ' S') (hn:B.n0≤nx) (mf:B.n0≤C'.nx):Frm B C' ρ' df S':=by
 refine⟨fun x hx=>?_,h.nd,fun k hk=>?_,mf,h.dz⟩
 ·have hm:=h.dm x hx
  refine⟨?_,hm.2⟩;rw [hp.fr x (lt_of_getElem? hm.1) fun k r hk hl=>?_]
  ·exact hm.1
  ·exact SR.ok_dfr (hS.ok k r (wd hk).2) hl hm.1
 ·rw [hp.old k (.inl (Nat.lt_of_lt_of_le hk hn))]
  exact h.rig k hk
theorem Frm.step {B:Bs} {C:Conf} {ρ ρ':Nat→AV} {S S':List AObj} {df:List Nat} {e:Ef} {d:Option Tmp} (h:Frm B C ρ df S) (hS:SatF S ρ (hpF C.hp)) (hw:e.wf C.nx=true) (hp:qgx ρ S C.nx (hpF C.hp) e ρ' S'):Frm B (C.app d e) ρ' df S':=
 h.stepG hS hp h.le (Nat.le_trans h.le (qfr hw).1)
theorem SatR.dead {S0:List AObj} {F:Nat→Prop} {C:Conf} {ρ t:Nat→AV} {S:List AObj} {d:Nat} (h:SatR S0 F C ρ t S) (hd:S[d]? = some .dfr) (hl:S0.length≤d):SatR S0 F C ρ t (S.set d .dead):=by
 refine⟨h.sl,⟨fun k r hk=>?_,h.hp.sep⟩,h.own,fun j hj hF=>?_,by simpa using h.len,h.wsl,h.whp⟩
 ·refine SR.ok_of (f:=fun _=>true) (SR.all_mono (fun _ _=>rfl) r (h.whp k r hk).2) (fun _ _=>rfl) (h.hp.ok k r hk) fun o ho=>?_
  have b9:d≠o:=fun e=>SR.ok_dfr (h.hp.ok k r hk) ho (e▸hd);rw [List.getElem?_set_ne b9]
 ·rw [List.getElem?_set_ne (by omega)]
  exact h.low j hj hF
theorem SR.ok_ct {ρ : Nat→AV} {S:List AObj} {c:AV} {r:SR} (h:r.ok ρ S c) {o:Nat} (ho:zm c=some o):(∃ T cs v,S[o]? = some (.cells v T cs)∧∃ T' cs',r = .cells T' cs')∨(∃ m sz T,S[o]? = some (.tip m sz T))∨(∃ sz T xs,r = .own sz T xs)∨(∃ P,r = .obj P)∨∃ T ys cs,r = .rows T ys cs:=by
 cases r with
 |cells T cs=>
  obtain⟨o',v,rfl,h,_⟩:=h;simp only [zm,Option.some.injEq] at ho;subst ho
  exact .inl ⟨_,_,_,h,_,_,rfl⟩
 |tip sz T xs=>
  rcases h with (⟨_,rfl⟩ | ⟨t,rfl,ht,_⟩) | ⟨_,o',v,f,rfl⟩
  ·simp [zm] at ho
  ·simp only [zm,Option.some.injEq] at ho
   subst ho;exact .inr (.inl ⟨_,_,_,ht⟩)
  ·simp [zm] at ho
 |own sz T xs=>exact .inr (.inr (.inl ⟨_,_,_,rfl⟩))
 |obj P=>exact .inr (.inr (.inr (.inl ⟨_,rfl⟩)))
 |rows T ys cs=>exact .inr (.inr (.inr (.inr ⟨_,_,_,rfl⟩)))
def x9 (hp:List (Nat×Option SR)) (ρ : Nat→AV) (o:Nat):Prop:=∃ k r,hpF hp k=some r∧zm (ρ k)=some o
theorem SatR.rebase {S0:List AObj} {F:Nat→Prop} {C:Conf} {ρ t:Nat→AV} {S S':List AObj} (h:SatR S0 F C ρ t S) (hs:∀ o,x9 C.hp ρ o→S'[o]? = S[o]?):SatR S' (x9 C.hp ρ) C ρ t S':=
 ⟨h.sl,⟨fun k r hk=>SR.ok_of (f:=fun _=>true) (SR.all_mono (fun _ _=>rfl) r (h.whp k r hk).2) (fun _ _=>rfl) (h.hp.ok k r hk) fun o ho=>hs o ⟨k,r,hk,ho⟩,h.hp.sep⟩,
  fun k r hk o ho=>.inr ⟨k,r,hk,ho⟩,fun _ _ _=>rfl,Nat.le_refl _,h.wsl,h.whp⟩
def Wk (x r:AV):Prop:=∀ (G:Gh) (v:Value),Rel G x v→Rel G r v
theorem wj (x:AV):Wk x x:=fun _ _ h=>h
theorem zg4 {x y:AV} (h:x=y):Wk x y:=h▸wj x
theorem zci (sz:Nat) (xs:List AV) (tip:Option Nat):Wk (.sl sz xs tip) (.sl sz xs none):=fun _ _ h=>qns h
theorem q5v {xs ys:List AV} (hl:xs.length=ys.length) (h:∀ (i:Nat) (x y:AV),xs[i]? = some x→ys[i]? = some y→Wk x y):Wk (.ag xs) (.ag ys):=fun G v hr=>by
 cases hr with
 |ag _ vs s4 hr=>
  refine .ag _ vs (by omega) fun i y b hy hb=>?_;have hi:=lt_of_getElem? hy;have hx:xs[i]? = some (xs[i]'(by omega)):=List.getElem?_eq_getElem (by omega);exact h i _ y hx hy G b (hr i _ b hx hb)
theorem zcx {xs ys:List AV} (hl:xs.length=ys.length) (h:∀ (i:Nat) (x y:AV),xs[i]? = some x→ys[i]? = some y→Wk x y):Wk (.tu xs) (.tu ys):=fun G v hr=>by
 cases hr with
 |tu _ vs s4 hr=>
  refine .tu _ vs (by omega) fun i y b hy hb=>?_;have hi:=lt_of_getElem? hy;have hx:xs[i]? = some (xs[i]'(by omega)):=List.getElem?_eq_getElem (by omega);exact h i _ y hx hy G b (hr i _ b hx hb)
theorem zgp {t:TypeId} {x y:AV} (h:Wk x y):Wk (.ifc t x) (.ifc t y):=fun G v hr=>by
 cases hr with
 |ifc _ _ z hz=>exact .ifc t y z (h G z hz)
theorem zg5 {f:Fn} {a b c d:List AV} (h1:a.length=c.length) (h2:∀ (i:Nat) (x y:AV),a[i]? = some x→c[i]? = some y→Wk x y) (h3:b.length=d.length) (h4:∀ (i:Nat) (x y:AV),b[i]? = some x→d[i]? = some y→Wk x y):Wk (.fn f a b) (.fn f c d):=fun G v hr=>by
 cases hr with
 |fn _ _ _ a' b' g1 g2 g3 g4=>
  refine .fn f c d a' b' (by omega) (by omega) (fun i x y hx hy=>?_) (fun i x y hx hy=>?_)
  ·have hi:i<a.length:=by have:=lt_of_getElem? hx;omega
   have hz:a[i]? = some a[i]:=List.getElem?_eq_getElem hi;exact h2 i _ x hz hx G y (g3 i _ y hz hy)
  ·have hi:i<b.length:=by have:=lt_of_getElem? hx;omega
   have hz:b[i]? = some b[i]:=List.getElem?_eq_getElem hi;exact h4 i _ x hz hx G y (g4 i _ y hz hy)
mutual
def frz (H:Nat→Option SR):SV→Option AV
 | .a x=>some x
 | .i n=>some (Iv n)
 | .s l=>some (Sv l)
 | .tt=>some (Bv true)
 | .ff=>some (Bv false)
 | .b c=>some (Bv c)
 | .p q h=>some (Bv (@decide q h))
 | .bx _ _=>none
 | .tp k=>match H k with
  |some (.tip sz _ xs)=>some (.sl sz xs none)
  | _=>none
 | .ag cs=>match frzs H cs with
  |some l=>some (.ag l)
  |none=>none
 | .tu cs=>match frzs H cs with
  |some l=>some (.tu l)
  |none=>none
 | .fn f xs ys=>match frzs H xs,frzs H ys with
  |some a,some b=>some (.fn f a b)
  | _,_=>none
 | .ifc t x=>match frz H x with
  |some y=>some (.ifc t y)
  |none=>none
def frzs (H:Nat→Option SR):List SV→Option (List AV)
 | []=>some []
 |x::r=>match frz H x,frzs H r with
  |some y,some l=>some (y::l)
  | _,_=>none
end
theorem q74 {x:AV} (h:x.one=true):x.cells=[x]:=by
 cases x <;> first|rfl|simp [AV.one] at h
theorem qt6 {b:Nat} {S:List AObj} {sz:Nat} {T:TypeId} {xs:List AV} {c:AV} (h:TipO b S sz T xs c):Wk (tpAt c) (.sl sz xs none)∧c.one=true:=by
 have h1:c.one=true:=by rcases h with (⟨_,rfl⟩ | ⟨t,rfl,_⟩) | ⟨_,o,v,f,rfl⟩ <;> rfl
 refine⟨?_,h1⟩;unfold tpAt;rw [h1];exact qlx h
mutual
theorem qh8 {S:List AObj} {ρ : Nat→AV} {H:Nat→Option SR} (hS:SatF S ρ H):∀ (v:SV) (x:AV),frz H v=some x→Wk (v.ev ρ) x
 | .a y,x,h=>by simp only [frz,Option.some.injEq] at h;subst h;exact wj _
 | .i y,x,h=>by simp only [frz,Option.some.injEq] at h;subst h;exact wj _
 | .s y,x,h=>by simp only [frz,Option.some.injEq] at h;subst h;exact wj _
 | .tt,x,h=>by simp only [frz,Option.some.injEq] at h;subst h;exact wj _
 | .ff,x,h=>by simp only [frz,Option.some.injEq] at h;subst h;exact wj _
 | .b y,x,h=>by simp only [frz,Option.some.injEq] at h;subst h;exact wj _
 | .p q d,x,h=>by simp only [frz,Option.some.injEq] at h;subst h;exact wj _
 | .bx _ _,x,h=>by simp [frz] at h
 | .tp k,x,h=>by
  simp only [frz] at h;split at h
  ·rename_i sz T xs hk
   simp only [Option.some.injEq] at h;subst h;exact (qt6 (hS.ok k _ hk)).1
  ·simp at h
 | .ag cs,x,h=>by
  simp only [frz] at h;split at h
  ·rename_i l hl
   simp only [Option.some.injEq] at h;subst h;obtain⟨h1,h2⟩:=qed hS cs l hl;exact q5v h1 h2
  ·simp at h
 | .tu cs,x,h=>by
  simp only [frz] at h;split at h
  ·rename_i l hl
   simp only [Option.some.injEq] at h;subst h;obtain⟨h1,h2⟩:=qed hS cs l hl;exact zcx h1 h2
  ·simp at h
 | .fn f xs ys,x,h=>by
  simp only [frz] at h;split at h
  ·rename_i a b ha hb
   simp only [Option.some.injEq] at h;subst h;obtain⟨h1,h2⟩:=qed hS xs a ha;obtain⟨h3,h4⟩:=qed hS ys b hb;exact zg5 h1 h2 h3 h4
  ·simp at h
 | .ifc t y,x,h=>by
  simp only [frz] at h;split at h
  ·rename_i z hz
   simp only [Option.some.injEq] at h;subst h;exact zgp (qh8 hS y z hz)
  ·simp at h
theorem qed {S:List AObj} {ρ : Nat→AV} {H:Nat→Option SR} (hS:SatF S ρ H):∀ (l:List SV) (ys:List AV),frzs H l=some ys→(SV.evs ρ l).length=ys.length∧∀ (i:Nat) (x y:AV),(SV.evs ρ l)[i]? = some x→ys[i]? = some y→Wk x y
 | [],ys,h=>by simp only [frzs,Option.some.injEq] at h;subst h;exact⟨rfl,by simp [SV.evs]⟩
 |v::r,ys,h=>by
  simp only [frzs] at h;split at h
  ·rename_i y l hy hl
   simp only [Option.some.injEq] at h;subst h;obtain⟨h1,h2⟩:=qed hS r l hl;have h3:=qh8 hS v y hy;refine⟨by simp [SV.evs,h1],fun i a b ha hb=>?_⟩
   cases i with
   |zero=>simp [SV.evs] at ha hb;subst ha;subst hb;exact h3
   |succ i=>exact h2 i a b (by simpa [SV.evs] using ha) (by simpa using hb)
  ·simp at h
end
mutual
def SV.ks:SV→List Nat
 | .bx k _=>[k]
 | .tp k=>[k]
 | .ag cs=>SV.kss cs
 | .tu cs=>SV.kss cs
 | .fn _ xs ys=>SV.kss xs++SV.kss ys
 | .ifc _ x=>SV.ks x
 | _=>[]
def SV.kss:List SV→List Nat
 | []=>[]
 |x::r=>SV.ks x++SV.kss r
end
mutual
def nf:AV→SV
 | .v (.int .i64 n)=>.i n
 | .v (.string ⟨⟨l⟩⟩)=>.s l
 | .v (.bool c)=>.b c
 | .ag cs=>.ag (nfs cs)
 | .tu cs=>.tu (nfs cs)
 |x=>.a x
def nfs:List AV→List SV
 | []=>[]
 |x::r=>nf x::nfs r
end
mutual
theorem qli (ρ : Nat→AV):∀ x:AV,(nf x).ev ρ = x
 | .v x=>by
  unfold nf
  split <;> first|rfl|(rename_i h;cases h;done)|(rename_i h;cases h;rfl)
 | .ag cs=>by simp only [nf,SV.ev,qig ρ cs]
 | .tu cs=>by simp only [nf,SV.ev,qig ρ cs]
 | .ifc _ _=>rfl
 | .fn _ _ _=>rfl
 | .sl _ _ _=>rfl
 | .pp _=>rfl
 | .bx _ _ _=>rfl
 | .os _ _ _ _ _=>rfl
 | .mp _=>rfl
 | .yd _=>rfl
theorem qig (ρ : Nat→AV):∀ l:List AV,SV.evs ρ (nfs l)=l
 | []=>rfl
 |x::r=>by simp only [nfs,SV.evs,qli ρ x,qig ρ r]
end
mutual
theorem zf3 {f:Nat→Bool}:∀ x:AV,(nf x).all f=true
 | .v x=>by unfold nf;split <;> first|rfl|(rename_i h;cases h)
 | .ag cs=>by simp only [nf,SV.all];exact qod cs
 | .tu cs=>by simp only [nf,SV.all];exact qod cs
 | .ifc _ _=>rfl
 | .fn _ _ _=>rfl
 | .sl _ _ _=>rfl
 | .pp _=>rfl
 | .bx _ _ _=>rfl
 | .os _ _ _ _ _=>rfl
 | .mp _=>rfl
 | .yd _=>rfl
theorem qod {f:Nat→Bool}:∀ l:List AV,SV.alls f (nfs l)=true
 | []=>rfl
 |x::r=>by simp only [nfs,SV.alls,zf3 x,qod r];rfl
end
def cst:Value→SV
 | .bool true=>.tt
 | .bool false=>.ff
 |x=>nf (.v x)
theorem zfl (ρ : Nat→AV) (x:Value):(cst x).ev ρ = .v x:=by
 unfold cst;split
 ·rfl
 ·rfl
 ·exact qli ρ _
def SV.cells:SV→List SV
 | .ag cs=>cs
 | .a x=>nfs x.cells
 |v=>[v]
theorem qpx (ρ : Nat→AV) (v:SV):SV.evs ρ v.cells=(v.ev ρ).cells:=by
 cases v with
 |a x=>exact qig ρ _
 |bx k off=>simp only [SV.cells,SV.evs,SV.ev];cases ρ k <;> rfl
 |tp k=>simp only [SV.cells,SV.evs,SV.ev,tpAt];cases h:(ρ k).one <;> first|rfl|(simp only [cond_true];exact (q74 h).symm)
 | _=>rfl
def SV.okc:SV→Bool
 | .a x=>x.okc
 | _=>true
theorem qze (ρ : Nat→AV) (v:SV) (h:v.okc=true):(v.ev ρ).okc=true:=by
 cases v with
 |a x=>exact h
 |bx k off=>simp only [SV.ev];cases ρ k <;> rfl
 |tp k=>
  simp only [SV.ev,tpAt]
  cases h:(ρ k).one
  ·rfl
  ·simp only [cond_true]
   cases hk : ρ k with
   |v x=>rw [hk] at h;cases x <;> first|rfl|simp [AV.one] at h
   | _=>rfl
 | _=>rfl
def SV.one:SV→Bool
 | .a x=>x.one
 | .ag _=>false
 | .tu _=>false
 | _=>true
theorem zez (ρ : Nat→AV) (v:SV) (h:v.one=true):(v.ev ρ).one=true:=by
 cases v with
 |a x=>exact h
 |bx k off=>simp only [SV.ev];cases ρ k <;> rfl
 |tp k=>simp only [SV.ev,tpAt];cases h:(ρ k).one <;> first|rfl|exact h
 |ag _=>simp [SV.one] at h
 |tu _=>simp [SV.one] at h
 | _=>rfl
def ones (l:List SV):Bool:=l.all SV.one
theorem q2y (ρ : Nat→AV):∀ l:List SV,ones l=true→∀ z∈SV.evs ρ l,z.one=true
 | [],_,z,hz=>by simp [SV.evs] at hz
 |x::r,h,z,hz=>by
  simp only [ones,List.all_cons,Bool.and_eq_true] at h;simp only [SV.evs,List.mem_cons] at hz;rcases hz with rfl|hz
  ·exact zez ρ x h.1
  ·exact q2y ρ r h.2 z hz
def sval (N:Nat) (sl:List (Nat×SV)):Operand→Option SV
 | .tmp i=>bif Nat.blt i N then lkS sl i else none
 | .const x=>some (cst x)
 | .global g=>some (.a (.v (.pointer (some ⟨g,0,none⟩))))
 | .func f=>some (.a (.fn (.func f) [] []))
theorem qv {N:Nat} {sl:List (Nat×SV)} {ρ t:Nat→AV} {S:List AObj} {df:List Nat} (h:SlOk ρ t sl) {x:Operand} {v:SV} (hx:sval N sl x=some v):qg N ⟨t,S,df⟩ x=v.ev ρ:=by
 cases x with
 |tmp i=>
  simp only [sval] at hx;simp only [qg]
  cases hb:Nat.blt i N with
  |true=>rw [hb] at hx;exact h i v hx
  |false=>rw [hb] at hx;simp at hx
 |const x=>simp only [sval,Option.some.injEq] at hx;subst hx;exact (zfl ρ x).symm
 |global g=>simp only [sval,Option.some.injEq] at hx;subst hx;rfl
 |func f=>simp only [sval,Option.some.injEq] at hx;subst hx;rfl
def ql0 (N:Nat) (sl:List (Nat×SV)):List Operand→Option (List SV)
 | []=>some []
 |x::r=>match sval N sl x,ql0 N sl r with
  |some v,some l=>some (v::l)
  | _,_=>none
theorem ql1 {N:Nat} {sl:List (Nat×SV)} {ρ t:Nat→AV} {S:List AObj} {df:List Nat} (h:SlOk ρ t sl):∀ {xs:List Operand} {l:List SV},ql0 N sl xs=some l→xs.map (qg N ⟨t,S,df⟩)=SV.evs ρ l
 | [],l,hx=>by simp only [ql0,Option.some.injEq] at hx;subst hx;rfl
 |x::r,l,hx=>by
  simp only [ql0] at hx;split at hx
  ·rename_i v l' h1 h2
   simp only [Option.some.injEq] at hx;subst hx;simp only [List.map_cons,SV.evs,qv h h1,ql1 h h2]
  ·simp at hx
section
variable {E : Env} {N : Nat} {ops : Array Oper} {o : Oper} {nx : Nat} {sl : List (Nat × SV)} {H : Nat → Option SR}
theorem xz {v:SV} {ks:List Nat} (h:∀ (df:List Nat) (rd:Option Nat) (K:AS→Prop) (rest:List Oper) (ρ t:Nat→AV) (S:List AObj),SlOk ρ t sl→SatF S ρ (resF ks H)→AOps E rd N ops rest K (AS.put ⟨t,S,df⟩ o.dst (v.ev ρ))→AOps E rd N ops (o::rest) K ⟨t,S,df⟩) :
  Loc E N ops o nx sl H ⟨v,ks,[],nx⟩:=fun df rd K rest ρ t S hs hS hk=>
 h df rd K rest ρ t S hs hS (hk ρ S ⟨fun _ _=>rfl,⟨fun k r hk=>hS.ok k r hk,fun k k' r r' b9 h1 h2=>hS.sep k k' r r' b9 h1 h2⟩,Nat.le_refl _,fun _ _ _=>rfl,fun k r hk o ho=>.inr ⟨k,r,hk,ho⟩⟩)
theorem jc {v:SV} (h:∀ (df:List Nat) (rd:Option Nat) (K:AS→Prop) (rest:List Oper) (ρ t:Nat→AV) (S:List AObj),SlOk ρ t sl→AOps E rd N ops rest K (AS.put ⟨t,S,df⟩ o.dst (v.ev ρ))→AOps E rd N ops (o::rest) K ⟨t,S,df⟩) :
  Loc E N ops o nx sl H ⟨v,[],[],nx⟩:=xz fun df rd K rest ρ t S hs _ hk=>h df rd K rest ρ t S hs hk
def upd (ρ : Nat→AV) (n:Nat) (c:AV):Nat→AV:=fun k=>bif Nat.beq k n then c else ρ k
theorem ve (ρ : Nat→AV) (n:Nat) (c:AV):upd ρ n c n=c:=by simp [upd]
theorem ye (ρ : Nat→AV) {n k:Nat} (c:AV) (h:k≠n):upd ρ n c k = ρ k:=by simp [upd,ji h]
theorem qkg {v:SV} {r:SR} {ks:List Nat} (dv:∀ k r,resF ks H k=some r→k≠nx∧r.all (fun k=> !Nat.beq k nx)=true) (h:∀ (df:List Nat) (rd:Option Nat) (K:AS→Prop) (rest:List Oper) (ρ t:Nat→AV) (S:List AObj),SlOk ρ t sl→SatF S ρ (resF ks H) →
   (∀ c l,r.ok (upd ρ nx c) (S++l) c→(∀ o,zm c=some o→S.length≤o)→AOps E rd N ops rest K (AS.put ⟨t,S++l,df⟩ o.dst (v.ev (upd ρ nx c))))→AOps E rd N ops (o::rest) K ⟨t,S,df⟩) :
  Loc E N ops o nx sl H ⟨v,ks,[(nx,some r)],nx+1⟩:=fun df rd K rest ρ t S hs hS hk=>by
 refine h df rd K rest ρ t S hs hS fun c l hc hl=>hk _ _ ⟨fun k hk=>ye _ _ (by simp only at hk;omega),?_,by simp,fun j hj _=>List.getElem?_append_left hj,?_⟩
 ·have key:∀ k r',chF [(nx,some r)] (resF ks H) k=some r'→(k=nx∧r'=r)∨(k≠nx∧resF ks H k=some r'):=fun k r' hk=>by
   simp only [chF,lkS] at hk;by_cases e:nx=k
   ·subst e
    have:Nat.beq nx nx=true:=by simp
    rw [this] at hk;simp only [cond_true,Option.some.injEq] at hk;exact .inl ⟨rfl,hk.symm⟩
   ·rw [ji e] at hk
    exact .inr ⟨fun h=>e h.symm,hk⟩
  refine⟨fun k r' hk=>?_,fun k k' r1 r2 b9 h1 h2 o ho=>?_⟩
  ·rcases key k r' hk with⟨rfl,rfl⟩ | ⟨h1,h2⟩
   ·rw [ve];exact hc
   ·rw [ye _ _ h1]
    have h3:=hS.ok k r' h2;exact SR.ok_of (dv k r' h2).2 (fun k hk=>ye _ _ (fun e=>by subst e;simp at hk)) h3 fun o ho=>List.getElem?_append_left (SR.ok_lt h3 ho)
  ·rcases key k r1 h1 with⟨rfl,rfl⟩ | ⟨g1,g2⟩
   ·rcases key k' r2 h2 with⟨rfl,rfl⟩ | ⟨f1,f2⟩
    ·exact absurd rfl b9
    ·rw [ve] at ho
     rw [ye _ _ f1];intro d7;have:=SR.ok_lt (hS.ok k' r2 f2) d7;have:=hl o ho;omega
   ·rcases key k' r2 h2 with⟨rfl,rfl⟩ | ⟨f1,f2⟩
    ·rw [ye _ _ g1] at ho
     rw [ve];intro d7;have:=SR.ok_lt (hS.ok k r1 g2) ho;have:=hl o d7;omega
    ·rw [ye _ _ g1] at ho
     rw [ye _ _ f1];exact hS.sep k k' r1 r2 b9 g2 f2 o ho
 ·intro k r' hk o ho
  simp only [chF,lkS] at hk;by_cases e:nx=k
  ·subst e
   rw [ve] at ho;exact .inl (hl o ho)
  ·rw [ji e] at hk
   rw [ye _ _ (fun h=>e h.symm)] at ho;exact .inr ⟨k,r',hk,ho⟩
end
end Go.Av
namespace Go.Av
open Go Go.RowKit
section
variable {E : Env} {N : Nat} {ops : Array Oper} {nx : Nat} {sl : List (Nat × SV)} {H : Nat → Option SR} {k : Ef → Prop} {d : Option Tmp} {T : TypeId} {p : String} {af : Array Edge}
def wc (nx:Nat) (v:SV):Ef:=⟨v,[],[],nx⟩
def mvW (nx:Nat) (k:Ef→Prop):Option SV→Prop
 |some v=>k (wc nx v)
 |none=>False
theorem zef {x:Operand} (h:mvW nx k (sval N sl x)):∃ e,Loc E N ops ⟨d,.move x,T,p,af,none⟩ nx sl H e∧k e:=by
 cases hv:sval N sl x with
 |none=>rw [hv] at h;exact h.elim
 |some v=>rw [hv] at h;exact⟨_,jc fun df rd K rest ρ t S hs hk=>qj (by rw [qv hs hv];exact hk),h⟩
theorem q58 {x:Operand} (h:mvW nx k (sval N sl x)):∃ e,Loc E N ops ⟨d,.assign x,T,p,af,none⟩ nx sl H e∧k e:=by
 cases hv:sval N sl x with
 |none=>rw [hv] at h;exact h.elim
 |some v=>rw [hv] at h;exact⟨_,jc fun df rd K rest ρ t S hs hk=>qh (by rw [qv hs hv];exact hk),h⟩
def wayW (x y:Prop):SV→Prop
 | .tt=>x
 | .ff=>y
 | .p q _=>(q→x)∧(¬ q→y)
 | .b c=>(c=true→x)∧(c=false→y)
 | _=>False
theorem q9h {x y:Prop} {v:SV} (h:wayW x y v):∃ c:Bool,(∀ ρ,v.ev ρ = Bv c)∧((c=true∧x)∨(c=false∧y)):=by
 cases v with
 |tt=>exact⟨true,fun _=>rfl,.inl ⟨rfl,h⟩⟩
 |ff=>exact⟨false,fun _=>rfl,.inr ⟨rfl,h⟩⟩
 |p q i=>
  by_cases hq:q
  ·exact⟨_,fun _=>rfl,.inl ⟨by simp [hq],h.1 hq⟩⟩
  ·exact⟨_,fun _=>rfl,.inr ⟨by simp [hq],h.2 hq⟩⟩
 |b c=>
  cases c with
  |true=>exact⟨true,fun _=>rfl,.inl ⟨rfl,h.1 rfl⟩⟩
  |false=>exact⟨false,fun _=>rfl,.inr ⟨rfl,h.2 rfl⟩⟩
 | _=>exact h.elim
def q45 (N:Nat) (sl:List (Nat×SV)) (nx:Nat) (k:Ef→Prop) (c x y:Operand):Prop:=
 match sval N sl c with
 |some v=>wayW (mvW nx k (sval N sl x)) (mvW nx k (sval N sl y)) v
 |none=>False
theorem zen {c x y:Operand} (h:q45 N sl nx k c x y):∃ e,Loc E N ops ⟨d,.pick c x y,T,p,af,none⟩ nx sl H e∧k e:=by
 unfold q45 at h;split at h
 ·rename_i v hv
  obtain⟨b,hb,h⟩:=q9h h;rcases h with⟨hc,h⟩ | ⟨hc,h⟩
  ·cases hx:sval N sl x with
   |none=>rw [hx] at h;exact h.elim
   |some u=>rw [hx] at h;exact⟨_,jc fun df rd K rest ρ t S hs hk=>qot ((qv hs hv).trans (hb ρ)) hc (by rw [qv hs hx];exact hk),h⟩
  ·cases hx:sval N sl y with
   |none=>rw [hx] at h;exact h.elim
   |some u=>rw [hx] at h;exact⟨_,jc fun df rd K rest ρ t S hs hk=>qos ((qv hs hv).trans (hb ρ)) hc (by rw [qv hs hx];exact hk),h⟩
 ·exact h.elim
def qw6 (P:Program) (nx:Nat) (k:Ef→Prop) (t:TypeId):Prop:=
 match qhm P t with
 |some cs=>k ⟨.bx nx 0,[],[(nx,some (.cells t (nfs cs)))],nx+1⟩
 |none=>False
theorem qik (k:Nat):resF [] H k=none:=rfl
theorem w6 (k:Nat):resF [k] H k=H k:=by simp [resF,memN]
theorem q9p {t:TypeId} (h:qw6 E.P nx k t):∃ e,Loc E N ops ⟨d,.alloc t,T,p,af,none⟩ nx sl H e∧k e:=by
 unfold qw6 at h;split at h
 ·rename_i cs hz
  refine⟨_,qkg (fun k r hk=>by rw [qik] at hk;simp at hk) fun df rd K rest ρ t' S hs _ hk=>qjo rfl hz ?_,h⟩;have:=hk (.bx S.length 0 0) [.cells 0 t cs] ⟨S.length,0,rfl,by rw [qig];exact xc,rfl⟩ (fun o ho=>by simp only [zm,Option.some.injEq] at ho;omega)
  simpa only [SV.ev,ve,bxAt] using this
 ·exact h.elim
theorem q3o {rd:Option Nat} {K:AS→Prop} {rest:List Oper} {s:AS} {t:TypeId} {x:Operand} {r:AV} {cs:List AV} (hx:Wk (qg N s x) r) (hok:r.okc=true) (hc:r.cells=cs)
  (h:AOps E rd N ops rest K (s.put d (.pp cs))):AOps E rd N ops (⟨d,.box t x,T,p,af,none⟩::rest) K s:=by
 refine qz rfl (qw nofun fun B0 w0 G a w _ hI=>?_);have hr:=(hx _ _ (hI.eval x)).cells hok;rw [hc] at hr;obtain⟨d6,hA⟩:=hI.agree.newPub t (a.eval x).cells (0,0) (a.eval x).cells.toList (fun i y hy=>by simpa using hy)
 have a8:(execOp a.eval ⟨d,.box t x,T,p,af,none⟩).run E.P w = .ok (.value (.pointer (some ⟨w.heap.size,0,none⟩))) (w.alloc (.cells (a.eval x).cells t)):=by
  generalize a.eval = ρ;simp [execOp,Instr.box,newVar,newRow,newObj,Sem.run]
 refine⟨_,_,_,.pp cs,s.st,a8,d6,hA,.pp cs w.heap.size 0 (a.eval x).cells.toList (by simp [Gh.publish]) (by rw [hr.1];simp) fun i x y hx hy=>(hr.2 i x y hx (by simpa using hy)).mono d6,h⟩
def qsc (bxs:List Nat):Option Tmp→Bool
 |some d=>memN bxs d
 |none=>false
def boxW (bxs:List Nat) (H:Nat→Option SR) (nx:Nat) (k:Ef→Prop) (d:Option Tmp) (t:TypeId):Option SV→Prop
 |some v=>bif qsc bxs d then (bif v.okc && v.all (fun k=> !Nat.beq k nx) then k ⟨.bx nx 0,[],[(nx,some (.cells t v.cells))],nx+1⟩ else False)
  else match frz (resF v.ks H) v with
   |some y=>bif y.okc then k ⟨.a (.pp y.cells),v.ks,[],nx⟩ else False
   |none=>False
 |none=>False
theorem q6p {f:Nat→Bool}:∀ v:SV,v.all f=true→SV.alls f v.cells=true
 | .ag cs,h=>h
 | .a x,_=>qod _
 | .i _,_=>rfl
 | .s _,_=>rfl
 | .tt,_=>rfl
 | .ff,_=>rfl
 | .b _,_=>rfl
 | .p _ _,_=>rfl
 | .bx k _,h=>by simpa [SV.cells,SV.alls] using h
 | .tp k,h=>by simpa [SV.cells,SV.alls] using h
 | .tu cs,h=>by simpa [SV.cells,SV.alls] using h
 | .fn _ _ _,h=>by simpa [SV.cells,SV.alls] using h
 | .ifc _ _,h=>by simpa [SV.cells,SV.alls] using h
theorem zfh {bxs:List Nat} {t:TypeId} {x:Operand} (h:boxW bxs H nx k d t (sval N sl x)):∃ e,Loc E N ops ⟨d,.box t x,T,p,af,none⟩ nx sl H e∧k e:=by
 cases hv:sval N sl x with
 |none=>rw [hv] at h;exact h.elim
 |some v=>
  rw [hv] at h;unfold boxW at h
  cases hb:qsc bxs d with
  |true=>
   rw [hb] at h;simp only [cond_true] at h
   cases hc:(v.okc && v.all (fun k=> !Nat.beq k nx)) with
   |false=>rw [hc] at h;exact h.elim
   |true=>
    rw [hc] at h;simp only [Bool.and_eq_true] at hc;refine⟨_,qkg (fun k r hk=>by rw [qik] at hk;simp at hk) fun df rd K rest ρ t' S hs _ hk=>q52 rfl (qv hs hv) (qze ρ v hc.1) (qpx ρ v).symm ?_,h⟩;have he:SV.evs (upd ρ nx (.bx S.length 0 0)) v.cells=SV.evs ρ v.cells:=y8 (f:=fun k=> !Nat.beq k nx) (fun k hk=>ye _ _ (fun e=>by subst e;simp at hk)) _ (q6p v hc.2);have:=hk (.bx S.length 0 0) [.cells 0 t (SV.evs ρ v.cells)] ⟨S.length,0,rfl,by rw [he];exact xc,rfl⟩ (fun o ho=>by simp only [zm,Option.some.injEq] at ho;omega)
    simpa only [SV.ev,ve,bxAt] using this
  |false=>
   rw [hb] at h;simp only [cond_false] at h;split at h
   ·rename_i y hy
    cases hc:y.okc with
    |false=>rw [hc] at h;exact h.elim
    |true=>
     rw [hc] at h;exact⟨_,xz (v:=.a (.pp y.cells)) fun df rd K rest ρ t' S hs hS hk=>q3o (by rw [qv hs hv];exact qh8 hS v y hy) hc rfl hk,h⟩
   ·exact h.elim
def spl {α : Type} (cs:List α) (off:Nat) (xs:List α):List α:=cs.take off++xs++cs.drop (off+xs.length)
theorem q8z (ρ : Nat→AV) (cs xs:List SV) (off:Nat):SV.evs ρ (spl cs off xs)=zr (SV.evs ρ cs) off (SV.evs ρ xs):=by
 simp [spl,zr,wi]
def qr3 (place:Nat→Option (Nat×Nat)) (cells:List SV):List (Nat×SV)→Option (List SV)
 | []=>some cells
 |(i,x)::rest=>
  match place i with
  |none=>none
  |some (off,size)=>bif x.okc && Nat.beq x.cells.length size && Nat.ble (off+size) cells.length then qr3 place (spl cells off x.cells) rest else none
theorem qyd (ρ : Nat→AV) (place:Nat→Option (Nat×Nat)):∀ (ps:List (Nat×SV)) (cells cs:List SV),qr3 place cells ps=some cs→qb1 place (SV.evs ρ cells) (ps.map fun q=>(q.1,q.2.ev ρ))=some (SV.evs ρ cs)
 | [],cells,cs,h=>by simp only [qr3,Option.some.injEq] at h;subst h;rfl
 |(i,x)::rest,cells,cs,h=>by
  simp only [qr3] at h;simp only [List.map_cons,qb1]
  cases hp:place i with
  |none=>rw [hp] at h;simp at h
  |some q=>
   obtain⟨off,size⟩:=q;rw [hp] at h;simp only at h ⊢
   cases hb:(x.okc && Nat.beq x.cells.length size && Nat.ble (off+size) cells.length) with
   |false=>rw [hb] at h;simp at h
   |true=>
    rw [hb] at h;simp only [Bool.and_eq_true] at hb;have hl:∀ l:List SV,(SV.evs ρ l).length=l.length:=fun l=>by simp [wi]
    rw [qze ρ x hb.1.1,← qpx,hl,hl,hb.1.2,hb.2,← q8z];exact qyd ρ place rest _ cs h
def qoj (N:Nat) (sl:List (Nat×SV)):List (Nat×Operand)→Option (List (Nat×SV))
 | []=>some []
 |(i,x)::r=>match sval N sl x,qoj N sl r with
  |some v,some l=>some ((i,v)::l)
  | _,_=>none
theorem qim {ρ t:Nat→AV} {S:List AObj} {df:List Nat} (h:SlOk ρ t sl):∀ {xs:List (Nat×Operand)} {l:List (Nat×SV)},qoj N sl xs=some l→(xs.map fun x=>(x.1,qg N ⟨t,S,df⟩ x.2))=l.map fun q=>(q.1,q.2.ev ρ)
 | [],l,hx=>by simp only [qoj,Option.some.injEq] at hx;subst hx;rfl
 |(i,x)::r,l,hx=>by
  simp only [qoj] at hx;split at hx
  ·rename_i v l' h1 h2
   simp only [Option.some.injEq] at hx;subst hx;simp only [List.map_cons,qv h h1,qim h h2]
  ·simp at hx
def qxt (P:Program) (N:Nat) (sl:List (Nat×SV)) (nx:Nat) (k:Ef→Prop) (t:TypeId) (parts:Array (Nat×Operand)):Prop:=
 match qhm P t,qtu P t,qoj N sl parts.toList with
 |some zs,some pl,some ps=>(match qr3 (pl[·]?) (nfs zs) ps with
  |some cs=>k (wc nx (.ag cs))
  |none=>False)
 | _,_,_=>False
theorem q95 {t:TypeId} {parts:Array (Nat×Operand)} (h:qxt E.P N sl nx k t parts):∃ e,Loc E N ops ⟨d,.build t parts,T,p,af,none⟩ nx sl H e∧k e:=by
 unfold qxt at h;split at h
 ·rename_i zs pl ps hz hp hs
  split at h
  ·rename_i cs hf
   refine⟨_,jc (v:=.ag cs) fun df rd K rest ρ t' S ho hk=>yl hz hp (cs:=SV.evs ρ cs) ?_ hk,h⟩;have:=qyd ρ _ _ _ _ hf;rw [qig] at this;unfold vz;rw [qim ho hs];exact this
  ·exact h.elim
 ·exact h.elim
def qld (sz:Nat) (agg:Bool) (off:Nat) (cs:List SV):Option SV:=
 bif agg then (bif Nat.ble (off+sz) cs.length then some (.ag ((cs.drop off).take sz)) else none) else cs[off]?
theorem qqc (ρ : Nat→AV) {sz:Nat} {agg:Bool} {off:Nat} {cs:List SV} {v:SV} (h:qld sz agg off cs=some v):jo sz agg off (SV.evs ρ cs)=some (v.ev ρ):=by
 unfold qld at h;unfold jo
 cases agg with
 |true=>
  simp only [cond_true] at h ⊢;rw [wi,List.length_map]
  cases hb:Nat.ble (off+sz) cs.length with
  |false=>rw [hb] at h;simp at h
  |true=>
   rw [hb] at h;simp only [cond_true,Option.some.injEq] at h ⊢;subst h
   simp [SV.ev,wi]
 |false=>
  simp only [cond_false] at h ⊢;rw [wi,List.getElem?_map,h];rfl
def optW (nx:Nat) (ks:List Nat) (k:Ef→Prop):Option SV→Prop
 |some v=>k ⟨v,ks,[],nx⟩
 |none=>False
def q4x (P:Program) (H:Nat→Option SR) (nx:Nat) (k:Ef→Prop) (t:TypeId):Option SV→Prop
 |some (.bx b off)=>(match H b,tyOf P t with
  |some (.cells _ cs),some (sz,agg)=>optW nx [b] k (qld sz agg off cs)
  | _,_=>False)
 |some (.a (.pp cs))=>(match tyOf P t with
  |some (sz,agg)=>(match jo sz agg 0 cs with
   |some r=>k (wc nx (nf r))
   |none=>False)
  |none=>False)
 | _=>False
theorem zea {t:TypeId} {x:Operand} (h:q4x E.P H nx k t (sval N sl x)):∃ e,Loc E N ops ⟨d,.load t x,T,p,af,none⟩ nx sl H e∧k e:=by
 unfold q4x at h;split at h
 ·rename_i b off hv
  split at h
  ·rename_i T' cs sz agg hH ht
   cases hl:qld sz agg off cs with
   |none=>rw [hl] at h;exact h.elim
   |some v=>
    rw [hl] at h;refine⟨_,xz fun df rd K rest ρ t' S hs hS hk=>?_,h⟩;obtain⟨o,ver,h1,h2,h0⟩:=hS.ok b _ ((w6 b).trans hH);exact j9 (o:=o) (ver:=ver) (off:=off) ((qv hs hv).trans (by simp only [SV.ev,h1,bxAt])) h2 ht (qqc ρ hl) hk
  ·exact h.elim
 ·rename_i cs hv
  split at h
  ·rename_i sz agg ht
   split at h
   ·rename_i r hr
    exact⟨_,jc fun df rd K rest ρ t' S hs hk=>js (qv hs hv) ht hr (by rw [← qli ρ r];exact hk),h⟩
   ·exact h.elim
  ·exact h.elim
 ·exact h.elim
def qz8 (P:Program) (H:Nat→Option SR) (nx:Nat) (k:Ef→Prop) (t:TypeId):Option SV→Option SV→Prop
 |some (.bx b off),some v=>(match H b,tyOf P t with
  |some (.cells T cs),some (sz,agg)=>bif v.okc && Nat.beq v.cells.length sz && ones v.cells && Nat.ble (off+sz) cs.length then k ⟨.a (.v undef),[b],[(b,some (.cells T (spl cs off v.cells)))],nx⟩ else False
  | _,_=>False)
 | _,_=>False
theorem zcb {t:TypeId} {x y:Operand} (h:qz8 E.P H nx k t (sval N sl x) (sval N sl y)):∃ e,Loc E N ops ⟨d,.store t x y,T,p,af,none⟩ nx sl H e∧k e:=by
 unfold qz8 at h;split at h
 ·rename_i b off v hv hy
  split at h
  ·rename_i T' cs sz agg hH ht
   cases hb:(v.okc && Nat.beq v.cells.length sz && ones v.cells && Nat.ble (off+sz) cs.length) with
   |false=>rw [hb] at h;exact h.elim
   |true=>
    rw [hb] at h;simp only [Bool.and_eq_true] at hb;refine⟨_,fun df rd K rest ρ t' S hs hS hk=>?_,h⟩;obtain⟨o,ver,h1,h2,h0⟩:=hS.ok b _ ((w6 b).trans hH);have hl:∀ l:List SV,(SV.evs ρ l).length=l.length:=fun l=>by simp [wi]
    refine qgz (o:=o) (ver:=ver) (off:=off) (xs:=SV.evs ρ v.cells) ((qv hs hv).trans (by simp only [SV.ev,h1,bxAt])) (qv hs hy) h2 ht (qze ρ v hb.1.1.1) (qpx ρ v).symm (by rw [hl];exact Nat.eq_of_beq_eq_true hb.1.1.2) (q2y ρ _ hb.1.2) (by rw [hl];exact Nat.le_of_ble_eq_true hb.2) ?_;rw [← q8z]
    have key:∀ k r,chF [(b,some (.cells T' (spl cs off v.cells)))] (resF [b] H) k=some r→k=b∧r = .cells T' (spl cs off v.cells):=fun k r hk=>by
     simp only [chF,lkS] at hk;by_cases e:b=k
     ·subst e
      have:Nat.beq b b=true:=by simp
      rw [this] at hk;simp only [cond_true,Option.some.injEq] at hk;exact⟨rfl,hk.symm⟩
     ·rw [ji e] at hk
      have:=(wd hk).1;simp only [memN,List.any_cons,List.any_nil,Bool.or_false] at this;exact absurd (Nat.eq_of_beq_eq_true this).symm e
    refine hk ρ _ ⟨fun _ _=>rfl,⟨fun k r hk=>?_,fun k k' r r' b9 g1 g2=>?_⟩,by simp,fun j hj b9=>?_,fun k r hk o' d7=>?_⟩
    ·obtain⟨rfl,rfl⟩:=key k r hk
     exact⟨o,ver,h1,qbl h2,h0⟩
    ·exact absurd ((key k r g1).1.trans (key k' r' g2).1.symm) b9
    ·have:=b9 b _ ((w6 b).trans hH)
     rw [h1] at this;exact List.getElem?_set_ne (fun e=>this (by rw [e];rfl))
    ·obtain⟨rfl,rfl⟩:=key k r hk
     exact .inr ⟨k,_,(w6 k).trans hH,d7⟩
  ·exact h.elim
 ·exact h.elim
def qy3 (nx:Nat) (k:Ef→Prop):Option SV→Prop
 |some (.bx b off)=>k (wc nx (.bx b off))
 |some (.a (.pp cs))=>k (wc nx (.a (.pp cs)))
 | _=>False
theorem zbf {x:Operand} (h:qy3 nx k (sval N sl x)):∃ e,Loc E N ops ⟨d,.nilCheck x,T,p,af,none⟩ nx sl H e∧k e:=by
 unfold qy3 at h;split at h
 ·rename_i b off hv
  exact⟨_,jc fun df rd K rest ρ t' S hs hk=>wt (qv hs hv) (by simp only [SV.ev];cases ρ b <;> rfl) hk,h⟩
 ·rename_i cs hv
  exact⟨_,jc fun df rd K rest ρ t' S hs hk=>wt (qv hs hv) rfl hk,h⟩
 ·exact h.elim
end
end Go.Av
namespace Go.Av
open Go Go.RowKit
def qe0:SV→Option (IntKind×Int)
 | .i n=>some (.i64,n)
 | .a (.v (.int k n))=>some (k,n)
 | _=>none
theorem qb5 {v:SV} {k:IntKind} {n:Int} (h:qe0 v=some (k,n)) (ρ : Nat→AV):v.ev ρ = .v (.int k n):=by
 unfold qe0 at h;split at h
 ·simp only [Option.some.injEq,Prod.mk.injEq] at h;obtain⟨rfl,rfl⟩:=h;rfl
 ·simp only [Option.some.injEq,Prod.mk.injEq] at h;obtain⟨rfl,rfl⟩:=h;rfl
 ·simp at h
def cmpW (op:BinOp) (m n:Int) (k:SV→Prop):Prop:=
 match op with
 | .eql=>k (.p (m=n) inferInstance)
 | .neq=>k (.p (¬ m=n) inferInstance)
 | .lss=>k (.p (m<n) inferInstance)
 | .leq=>k (.p (m≤n) inferInstance)
 | .gtr=>k (.p (n<m) inferInstance)
 | .geq=>k (.p (n≤m) inferInstance)
 | _=>False
theorem zdg {op:BinOp} {m n:Int} {k:SV→Prop} (h:cmpW op m n k):∃ v b,cmpI op m n=some b∧(∀ ρ,SV.ev ρ v=Bv b)∧k v:=by
 cases op <;> first|exact h.elim|exact⟨_,_,rfl,fun _=>rfl,h⟩
def rngW (r:Int) (k:SV→Prop):Prop:=(-9223372036854775808≤r∧r≤9223372036854775807)∧k (.i r)
def arW (kd:IntKind) (r:Int) (k:SV→Prop):Prop:=
 match kd with
 | .i64=>rngW r k
 |kd=>k (.a (.v (.int kd (kd.wrap r))))
theorem qrl {kd:IntKind} {r:Int} {k:SV→Prop} (h:arW kd r k):∃ v,(∀ ρ,SV.ev ρ v = .v (.int kd (kd.wrap r)))∧k v:=by
 cases kd <;> first|exact⟨.i r,fun ρ=>by rw [zn h.1.1 h.1.2];rfl,h.2⟩|exact⟨_,fun _=>rfl,h⟩
def remW (kd:IntKind) (r:Int) (k:SV→Prop):Prop:=
 match kd with
 | .i64=>k (.i r)
 |kd=>k (.a (.v (.int kd r)))
theorem zeq {kd:IntKind} {r:Int} {k:SV→Prop} (h:remW kd r k):∃ v,(∀ ρ,SV.ev ρ v = .v (.int kd r))∧k v:=by
 cases kd <;> exact⟨_,fun _=>rfl,h⟩
def intW (op:BinOp) (kd:IntKind) (m n:Int) (k:SV→Prop):Prop:=
 match op with
 | .add=>arW kd (m+n) k
 | .sub=>arW kd (m - n) k
 | .mul=>arW kd (m * n) k
 | .quo=>n≠0∧arW kd (m.tdiv n) k
 | .rem=>n≠0∧remW kd (m.tmod n) k
 |op=>cmpW op m n k
def strW (op:BinOp) (m n:List UInt8) (k:SV→Prop):Prop:=
 match op with
 | .add=>m.length+n.length<9223372036854775808∧k (.s (m++n))
 | .eql=>k (.p (m=n) inferInstance)
 | .neq=>k (.p (¬ m=n) inferInstance)
 |op=>match cmpS op m n with
  |some b=>k (.b b)
  |none=>False
def qro:SV→Option Bool
 | .tt=>some true
 | .ff=>some false
 | .b c=>some c
 | .p q h=>some (@decide q h)
 | _=>none
theorem qiz {v:SV} {b:Bool} (h:qro v=some b) (ρ : Nat→AV):v.ev ρ = Bv b:=by
 unfold qro at h;split at h <;> first|(simp only [Option.some.injEq] at h;subst h;rfl)|simp at h
def nilQ:SV→Option Bool
 | .ifc _ _=>some false
 | .a (.ifc _ _)=>some false
 | .a (.v .nilIface)=>some true
 | _=>none
def nilP:SV→Option Bool
 | .bx _ _=>some false
 | .a (.pp _)=>some false
 | .a (.bx _ _ _)=>some false
 | .a (.v (.pointer none))=>some true
 | _=>none
def tf:Bool→SV
 |true=>.tt
 |false=>.ff
def eqW (op:BinOp) (b:Bool) (k:SV→Prop):Prop:=
 match op with
 | .eql=>k (tf b)
 | .neq=>k (tf (!b))
 | _=>False
def qys:Option TypeDesc→Bool
 |some (.interface _)=>true
 | _=>false
def qyt:Option TypeDesc→Bool
 |some (.pointer _)=>true
 | _=>false
def binW (P:Program) (op:BinOp) (t:TypeId) (y:Operand) (k:SV→Prop) (vx vy:SV):Prop:=
 match y with
 | .const .nilIface=>(match nilQ vx with
  |some b=>bif qys (P.underlying t) then eqW op b k else False
  |none=>False)
 | .const (.pointer none)=>(match nilP vx with
  |some b=>bif qyt (P.underlying t) then eqW op b k else False
  |none=>False)
 | _=>match qe0 vx,qe0 vy with
  |some (kd,m),some (kd',n)=>bif decide (kd=kd') then intW op kd m n k else False
  | _,_=>match vx,vy with
   | .s m,.s n=>strW op m n k
   |vx,vy=>match qro vx,qro vy,P.underlying t,op with
    |some a,some b,some .bool,.eql=>k (.b (a == b))
    |some a,some b,some .bool,.neq=>k (.b (!(a == b)))
    | _,_,_,_=>False
section
variable {E : Env} {N : Nat} {ops : Array Oper} {nx : Nat} {sl : List (Nat × SV)} {H : Nat → Option SR} {k : Ef → Prop} {d : Option Tmp} {T : TypeId} {p : String} {af : Array Edge}
def Rule (E:Env) (N:Nat) (ops:Array Oper) (o:Oper) (sl:List (Nat×SV)) (v:SV):Prop:=∀ (df:List Nat) (rd:Option Nat) (K:AS→Prop) (rest:List Oper) (ρ t:Nat→AV) (S:List AObj),SlOk ρ t sl→AOps E rd N ops rest K (AS.put ⟨t,S,df⟩ o.dst (v.ev ρ))→AOps E rd N ops (o::rest) K ⟨t,S,df⟩
theorem zfv {op:BinOp} {t t':TypeId} {x y:Operand} {vx vy:SV} {kd:IntKind} {m n:Int} {q:SV→Prop} (hx:sval N sl x=some vx) (hy:sval N sl y=some vy) (h1:qe0 vx=some (kd,m)) (h2:qe0 vy=some (kd,n)) (h:intW op kd m n q) :
  ∃ v,Rule E N ops ⟨d,.binOp op t x y t',T,p,af,none⟩ sl v∧q v:=by
 have e1:∀ {ρ t:Nat→AV} {S:List AObj} {df:List Nat},SlOk ρ t sl→qg N ⟨t,S,df⟩ x = .v (.int kd m):=fun hs=>(qv hs hx).trans (qb5 h1 _);have e2:∀ {ρ t:Nat→AV} {S:List AObj} {df:List Nat},SlOk ρ t sl→qg N ⟨t,S,df⟩ y = .v (.int kd n):=fun hs=>(qv hs hy).trans (qb5 h2 _)
 have cmp:cmpW op m n q→∃ v,Rule E N ops ⟨d,.binOp op t x y t',T,p,af,none⟩ sl v∧q v:=fun h=>by
  obtain⟨v,b,hb,hv,hq⟩:=zdg h;exact⟨v,fun df rd K rest ρ t S hs hk=>qy (e1 hs) (e2 hs) hb (by rw [← hv ρ];exact hk),hq⟩
 cases op with
 |add=>
  obtain⟨v,hv,hq⟩:=qrl h
  exact⟨v,fun df rd K rest ρ t S hs hk=>z7 (e1 hs) (e2 hs) rfl (by rw [← hv ρ];exact hk),hq⟩
 |sub=>
  obtain⟨v,hv,hq⟩:=qrl h
  exact⟨v,fun df rd K rest ρ t S hs hk=>qa6 (e1 hs) (e2 hs) rfl (by rw [← hv ρ];exact hk),hq⟩
 |mul=>
  obtain⟨v,hv,hq⟩:=qrl h
  exact⟨v,fun df rd K rest ρ t S hs hk=>qxg (e1 hs) (e2 hs) rfl (by rw [← hv ρ];exact hk),hq⟩
 |quo=>
  obtain⟨hn,h⟩:=h;obtain⟨v,hv,hq⟩:=qrl h
  exact⟨v,fun df rd K rest ρ t S hs hk=>q9t (e1 hs) (e2 hs) hn rfl (by rw [← hv ρ];exact hk),hq⟩
 |rem=>
  obtain⟨hn,h⟩:=h;obtain⟨v,hv,hq⟩:=zeq h
  exact⟨v,fun df rd K rest ρ t S hs hk=>q9u (e1 hs) (e2 hs) hn (by rw [← hv ρ];exact hk),hq⟩
 | _=>exact cmp h
theorem zgj {op:BinOp} {t t':TypeId} {x y:Operand} {m n:List UInt8} {q:SV→Prop} (hx:sval N sl x=some (.s m)) (hy:sval N sl y=some (.s n)) (h:strW op m n q):∃ v,Rule E N ops ⟨d,.binOp op t x y t',T,p,af,none⟩ sl v∧q v:=by
 have cmp:(match cmpS op m n with|some b=>q (.b b)|none=>False)→∃ v,Rule E N ops ⟨d,.binOp op t x y t',T,p,af,none⟩ sl v∧q v:=fun h=>by
  cases hc:cmpS op m n with
  |none=>rw [hc] at h;exact h.elim
  |some b=>rw [hc] at h;exact⟨.b b,fun df rd K rest ρ t S hs hk=>jv (qv hs hx) (qv hs hy) hc hk,h⟩
 cases op with
 |add=>exact⟨.s (m++n),fun df rd K rest ρ t S hs hk=>vh (qv hs hx) (qv hs hy) h.1 hk,h.2⟩
 |eql=>exact⟨.p (m=n) inferInstance,fun df rd K rest ρ t S hs hk=>jv (b:=decide (m=n)) (qv hs hx) (qv hs hy) rfl hk,h⟩
 |neq=>exact⟨.p (¬ m=n) inferInstance,fun df rd K rest ρ t S hs hk=>jv (b:=decide (¬ m=n)) (qv hs hx) (qv hs hy) rfl hk,h⟩
 | _=>exact cmp h
theorem zct (ρ : Nat→AV) (b:Bool):(tf b).ev ρ = Bv b:=by cases b <;> rfl
theorem zfg {op:BinOp} {t t':TypeId} {x y:Operand} {vx vy:SV} {q:SV→Prop} (hx:sval N sl x=some vx) (hy:sval N sl y=some vy) (h:binW E.P op t y q vx vy):∃ v,Rule E N ops ⟨d,.binOp op t x y t',T,p,af,none⟩ sl v∧q v:=by
 unfold binW at h;split at h
 ·split at h
  ·rename_i b hb
   cases hu:qys (E.P.underlying t) with
   |false=>rw [hu] at h;exact h.elim
   |true=>
    rw [hu] at h
    have hu':∃ ms,E.P.underlying t=some (.interface ms):=by
     unfold qys at hu;split at hu
     ·rename_i ms he;exact⟨ms,he⟩
     ·simp at hu
    obtain⟨ms,hu'⟩:=hu';simp only [cond_true] at h
    have rl:(∃ (u:TypeId) (z:(Nat→AV)→AV),∀ ρ,vx.ev ρ = .ifc u (z ρ))∧b=false∨(∀ ρ,vx.ev ρ = .v .nilIface)∧b=true:=by
     unfold nilQ at hb;split at hb <;> simp only [Option.some.injEq,reduceCtorEq] at hb <;> subst hb
     ·rename_i u z;exact .inl ⟨⟨u,fun ρ=>z.ev ρ,fun _=>rfl⟩,rfl⟩
     ·rename_i u z;exact .inl ⟨⟨u,fun _=>z,fun _=>rfl⟩,rfl⟩
     ·exact .inr ⟨fun _=>rfl,rfl⟩
    rcases rl with⟨⟨u,z,hz⟩,rfl⟩ | ⟨hz,rfl⟩
    ·cases op with
     |eql=>exact⟨.ff,fun df rd K rest ρ t S hs hk=>qam ((qv hs hx).trans (hz ρ)) hu' hk,h⟩
     |neq=>exact⟨.tt,fun df rd K rest ρ t S hs hk=>wr ((qv hs hx).trans (hz ρ)) hu' hk,h⟩
     | _=>exact h.elim
    ·cases op with
     |eql=>exact⟨.tt,fun df rd K rest ρ t S hs hk=>qdw ((qv hs hx).trans (hz ρ)) hu' hk,h⟩
     |neq=>exact⟨.ff,fun df rd K rest ρ t S hs hk=>v7 ((qv hs hx).trans (hz ρ)) hu' hk,h⟩
     | _=>exact h.elim
  ·exact h.elim
 ·split at h
  ·rename_i b hb
   cases hu:qyt (E.P.underlying t) with
   |false=>rw [hu] at h;exact h.elim
   |true=>
    rw [hu] at h
    have hu':∃ ms,E.P.underlying t=some (.pointer ms):=by
     unfold qyt at hu;split at hu
     ·rename_i ms he;exact⟨ms,he⟩
     ·simp at hu
    obtain⟨ms,hu'⟩:=hu';simp only [cond_true] at h
    have rl:∀ ρ,qbm (vx.ev ρ)=some b:=fun ρ=>by
     unfold nilP at hb;split at hb <;> simp only [Option.some.injEq,reduceCtorEq] at hb <;> subst hb
     ·rename_i kk off;simp only [SV.ev];cases ρ kk <;> rfl
     ·rfl
     ·rfl
     ·rfl
    cases op with
    |eql=>exact⟨tf b,fun df rd K rest ρ t S hs hk=>qan (b:=b) rfl (by rw [qv hs hx];exact rl ρ) hu' (by rw [← zct ρ];exact hk),h⟩
    |neq=>exact⟨tf (!b),fun df rd K rest ρ t S hs hk=>qmb (b:=b) rfl (by rw [qv hs hx];exact rl ρ) hu' (by rw [← zct ρ];exact hk),h⟩
    | _=>exact h.elim
  ·exact h.elim
 ·split at h
  ·rename_i kd m kd' n h1 h2
   cases hd:decide (kd=kd') with
   |false=>rw [hd] at h;exact h.elim
   |true=>
    rw [hd] at h;have:kd=kd':=of_decide_eq_true hd;subst this;exact zfv hx hy h1 h2 h
  ·split at h
   ·exact zgj hx hy h
   ·split at h
    ·rename_i a b h1 h2 h3
     exact⟨.b (a == b),fun df rd K rest ρ t S hs hk=>q9r ((qv hs hx).trans (qiz h1 ρ)) ((qv hs hy).trans (qiz h2 ρ)) h3 hk,h⟩
    ·rename_i a b h1 h2 h3
     exact⟨.b (!(a == b)),fun df rd K rest ρ t S hs hk=>q9s ((qv hs hx).trans (qiz h1 ρ)) ((qv hs hy).trans (qiz h2 ρ)) h3 hk,h⟩
    ·exact h.elim
def notW (nx:Nat) (k:Ef→Prop):Option SV→Prop
 |some .tt=>k (wc nx .ff)
 |some .ff=>k (wc nx .tt)
 |some (.b c)=>k (wc nx (.b (!c)))
 |some (.p q h)=>k (wc nx (.p (¬ q) (@instDecidableNot q h)))
 | _=>False
theorem zf4 {t:TypeId} {x:Operand} (h:notW nx k (sval N sl x)):∃ e,Loc E N ops ⟨d,.unOp .not t x,T,p,af,none⟩ nx sl H e∧k e:=by
 unfold notW at h;split at h
 ·rename_i hv;exact⟨_,jc (v:=.ff) fun df rd K rest ρ t' S hs hk=>jb (m:=true) (qv hs hv) hk,h⟩
 ·rename_i hv;exact⟨_,jc (v:=.tt) fun df rd K rest ρ t' S hs hk=>jb (m:=false) (qv hs hv) hk,h⟩
 ·rename_i c hv;exact⟨_,jc (v:=.b (!c)) fun df rd K rest ρ t' S hs hk=>jb (qv hs hv) hk,h⟩
 ·rename_i q i hv;exact⟨_,jc (v:=.p (¬ q) (@instDecidableNot q i)) fun df rd K rest ρ t' S hs hk=>qrd (q:=q) (qv hs hv) hk,h⟩
 ·exact h.elim
def q39 (P:Program) (t t':TypeId) (nx:Nat) (k:Ef→Prop):Option SV→Prop
 |some v=>(match qe0 v,P.underlying t,P.underlying t' with
  |some (_,m),some _,some (.int kd)=>(match kd with
   | .i64=>(-9223372036854775808≤m∧m≤9223372036854775807)∧k (wc nx (.i m))
   |kd=>k (wc nx (.a (.v (.int kd (kd.wrap m))))))
  | _,_,_=>False)
 |none=>False
theorem zdh {t t':TypeId} {x:Operand} (h:q39 E.P t t' nx k (sval N sl x)):∃ e,Loc E N ops ⟨d,.convert t t' x,T,p,af,none⟩ nx sl H e∧k e:=by
 unfold q39 at h;split at h
 ·rename_i v hv
  split at h
  ·rename_i kk m e kd h1 h2 h3
   have:∃ v,(∀ ρ,SV.ev ρ v = .v (.int kd (kd.wrap m)))∧k (wc nx v):=by
    cases kd <;> first|exact⟨.i m,fun ρ=>by rw [zn h.1.1 h.1.2];rfl,h.2⟩|exact⟨_,fun _=>rfl,h⟩
   obtain⟨u,hu,hk⟩:=this;exact⟨_,jc fun df rd K rest ρ t' S hs hk=>qra ((qv hs hv).trans (qb5 h1 ρ)) h2 h3 rfl (by rw [← hu ρ];exact hk),hk⟩
  ·exact h.elim
 ·exact h.elim
def qyy (P:Program) (t:TypeId) (nx:Nat) (k:Ef→Prop):Option SV→Prop
 |some v=>(match P.underlying t with
  |some dsc=>bif qob dsc then False else k (wc nx (.ifc t v))
  |none=>False)
 |none=>False
theorem zbd {t:TypeId} {x:Operand} (h:qyy E.P t nx k (sval N sl x)):∃ e,Loc E N ops ⟨d,.makeInterface t x,T,p,af,none⟩ nx sl H e∧k e:=by
 unfold qyy at h;split at h
 ·rename_i v hv
  split at h
  ·rename_i dsc hd
   cases hi:qob dsc with
   |true=>rw [hi] at h;exact h.elim
   |false=>rw [hi] at h;exact⟨_,jc fun df rd K rest ρ t' S hs hk=>vn hd hi (by rw [qv hs hv];exact hk),h⟩
  ·exact h.elim
 ·exact h.elim
def q4z (N:Nat) (sl:List (Nat×SV)) (fn:Fn) (xs ys:Array Operand) (nx:Nat) (k:Ef→Prop):Prop:=
 match ql0 N sl xs.toList,ql0 N sl ys.toList with
 |some a,some b=>k (wc nx (.fn fn a b))
 | _,_=>False
theorem zee {fn:Fn} {xs ys:Array Operand} (h:q4z N sl fn xs ys nx k):∃ e,Loc E N ops ⟨d,.makeFunc fn xs ys,T,p,af,none⟩ nx sl H e∧k e:=by
 unfold q4z at h;split at h
 ·rename_i a b ha hb
  exact⟨_,jc fun df rd K rest ρ t' S hs hk=>qgo (by rw [ql1 hs ha,ql1 hs hb];exact hk),h⟩
 ·exact h.elim
def qk2 (P:Program) (t:TypeId) (f:Nat) (nx:Nat) (k:Ef→Prop):Option SV→Prop
 |some (.bx b off)=>(match qap P t f with
  |some (o,sz,_)=>bif Nat.beq sz 0 then False else k (wc nx (.bx b (off+o)))
  |none=>False)
 |some (.a (.pp cs))=>(match qap P t f with
  |some (o,sz,_)=>bif !Nat.beq sz 0 && Nat.ble o cs.length then k (wc nx (.a (.pp (cs.drop o)))) else False
  |none=>False)
 | _=>False
theorem q97 (x:AV) (off o:Nat):∃ a b,bxAt x off = .bx a b off∧bxAt x (off+o) = .bx a b (off+o):=by
 cases x <;> exact⟨_,_,rfl,rfl⟩
theorem qyb {t:TypeId} {f:Nat} {x:Operand} (h:qk2 E.P t f nx k (sval N sl x)):∃ e,Loc E N ops ⟨d,.fieldAddr t x f,T,p,af,none⟩ nx sl H e∧k e:=by
 unfold qk2 at h;split at h
 ·rename_i b off hv
  split at h
  ·rename_i o sz agg hf
   cases hz:Nat.beq sz 0 with
   |true=>rw [hz] at h;exact h.elim
   |false=>
    rw [hz] at h;refine⟨_,jc fun df rd K rest ρ t' S hs hk=>?_,h⟩;obtain⟨a1,b1,g1,g2⟩:=q97 (ρ b) off o;exact zk ((qv hs hv).trans g1) hf hz (by rw [← g2];exact hk)
  ·exact h.elim
 ·rename_i cs hv
  split at h
  ·rename_i o sz agg hf
   cases hz:(!Nat.beq sz 0 && Nat.ble o cs.length) with
   |false=>rw [hz] at h;exact h.elim
   |true=>
    rw [hz] at h;simp only [Bool.and_eq_true,Bool.not_eq_true'] at hz;exact⟨_,jc (v:=.a (.pp (cs.drop o))) fun df rd K rest ρ t' S hs hk=>yz (qv hs hv) hf hz.1 hz.2 hk,h⟩
  ·exact h.elim
 ·exact h.elim
def qyc (P:Program) (t:TypeId) (f:Nat) (nx:Nat) (k:Ef→Prop):Option SV→Prop
 |some (.ag cs)=>(match qap P t f with
  |some (o,sz,agg)=>optW nx [] k (qld sz agg o cs)
  |none=>False)
 |some (.a (.ag cs))=>(match qap P t f with
  |some (o,sz,agg)=>(match jo sz agg o cs with
   |some r=>k (wc nx (nf r))
   |none=>False)
  |none=>False)
 | _=>False
theorem zar {t:TypeId} {f:Nat} {x:Operand} (h:qyc E.P t f nx k (sval N sl x)):∃ e,Loc E N ops ⟨d,.field t x f,T,p,af,none⟩ nx sl H e∧k e:=by
 unfold qyc at h;split at h
 ·rename_i cs hv
  split at h
  ·rename_i o sz agg hf
   cases hl:qld sz agg o cs with
   |none=>rw [hl] at h;exact h.elim
   |some v=>
    rw [hl] at h;exact⟨_,jc fun df rd K rest ρ t' S hs hk=>qko (qv hs hv) hf (qqc ρ hl) hk,h⟩
  ·exact h.elim
 ·rename_i cs hv
  split at h
  ·rename_i o sz agg hf
   split at h
   ·rename_i r hr
    exact⟨_,jc fun df rd K rest ρ t' S hs hk=>qko (qv hs hv) hf hr (by rw [← qli ρ r];exact hk),h⟩
   ·exact h.elim
  ·exact h.elim
 ·exact h.elim
def qp1 (i:Nat) (nx:Nat) (k:Ef→Prop):Option SV→Prop
 |some (.tu vs)=>optW nx [] k vs[i]?
 |some (.a (.tu vs))=>(match vs[i]? with
  |some r=>k (wc nx (nf r))
  |none=>False)
 | _=>False
theorem q4m {i:Nat} {x:Operand} (h:qp1 i nx k (sval N sl x)):∃ e,Loc E N ops ⟨d,.extract x i,T,p,af,none⟩ nx sl H e∧k e:=by
 unfold qp1 at h;split at h
 ·rename_i vs hv
  cases hl:vs[i]? with
  |none=>rw [hl] at h;exact h.elim
  |some v=>
   rw [hl] at h;exact⟨_,jc fun df rd K rest ρ t' S hs hk=>zh (xs:=SV.evs ρ vs) (qv hs hv) (by rw [wi,List.getElem?_map,hl];rfl) hk,h⟩
 ·rename_i vs hv
  split at h
  ·rename_i r hr
   exact⟨_,jc fun df rd K rest ρ t' S hs hk=>zh (qv hs hv) hr (by rw [← qli ρ r];exact hk),h⟩
  ·exact h.elim
 ·exact h.elim
def qk0 (H:Nat→Option SR) (sz:Nat):SV→Option (List AV×List Nat)
 | .a (.sl z xs _)=>bif Nat.beq z sz then some (xs,[]) else none
 | .a (.v (.slice none 0 0))=>some ([],[])
 | .tp b=>(match H b with
  |some (.tip z _ xs)=>bif Nat.beq z sz then some (xs,[b]) else none
  | _=>none)
 | _=>none
theorem qff {S:List AObj} {ρ : Nat→AV} {v:SV} {sz:Nat} {xs:List AV} {ks:List Nat} (h:qk0 H sz v=some (xs,ks)) (hS:SatF S ρ (resF ks H)):Wk (v.ev ρ) (.sl sz xs none):=by
 unfold qk0 at h;split at h
 ·rename_i z ys tip
  cases hz:Nat.beq z sz with
  |false=>rw [hz] at h;simp at h
  |true=>
   rw [hz] at h;simp only [cond_true,Option.some.injEq,Prod.mk.injEq] at h;obtain⟨rfl,rfl⟩:=h;rw [← Nat.eq_of_beq_eq_true hz];exact zci _ _ _
 ·simp only [Option.some.injEq,Prod.mk.injEq] at h
  obtain⟨rfl,rfl⟩:=h;exact fun _ _ h=>qbt h
 ·rename_i b
  split at h
  ·rename_i z T' ys hb
   cases hz:Nat.beq z sz with
   |false=>rw [hz] at h;simp at h
   |true=>
    rw [hz] at h;simp only [cond_true,Option.some.injEq,Prod.mk.injEq] at h;obtain⟨rfl,rfl⟩:=h;rw [← Nat.eq_of_beq_eq_true hz];exact (qt6 (hS.ok b _ ((w6 b).trans hb))).1
  ·simp at h
 ·simp at h
end
end Go.Av
namespace Go.Av
open Go Go.RowKit
section
variable {E : Env} {rd : Option Nat} {N : Nat} {ops : Array Oper} {K : AS → Prop} {s : AS} {rest : List Oper} {d : Option Tmp} {T : TypeId} {p : String} {af : Array Edge}
theorem qes {x:Operand} {t e:TypeId} {lo hi:Option Operand} {sz:Nat} {agg:Bool} {xs:List AV} {i j:Nat} (hx:Wk (qg N s x) (.sl sz xs none)) (hu:E.P.underlying t=some (.slice e)) (ht:tyOf E.P e=some (sz,agg))
  (ck:match lo with|none=>i=0|some y=>∃ k,qg N s y = .v (.int k (i:Int))) (bg:match hi with|none=>j=xs.length|some y=>∃ k,qg N s y = .v (.int k (j:Int))) (h1:i≤j) (h2:j≤xs.length)
  (h:AOps E rd N ops rest K (s.put d (.sl sz ((xs.take j).drop i) none))):AOps E rd N ops (⟨d,.slice t x lo hi none,T,p,af,none⟩::rest) K s:=by
 refine qz rfl (qw nofun fun B0 w0 G a w _ hI=>?_);have he:=hx _ _ (hI.eval x);generalize hv:a.eval x=v at he;have gb:∃ b len cap,v = .slice b len cap:=by cases he <;> exact⟨_,_,_,rfl⟩
 obtain⟨b,len,cap,rfl⟩:=gb;obtain⟨hl,hlc,hr⟩:=qsu he h1 h2;refine⟨_,w,G,_,s.st,?_,.refl G,hI.agree,hr,h⟩
 have a8:=qsy hu ht b len cap (lo.map a.eval) (hi.map a.eval) i j w (by
  cases lo with
  |none=>exact ck
  |some y=>obtain⟨k,hy⟩:=ck;exact⟨k,hI.evalv hy⟩) (by
  cases hi with
  |none=>simp only at bg;simp only [Option.map_none];omega
  |some y=>obtain⟨k,hy⟩:=bg;exact⟨⟨k,hI.evalv hy⟩,by omega⟩) h1
 generalize a.eval = ρ at hv a8;simp only [execOp,hv];simp [Instr.sliceAt,run_underlying hu,a8]
theorem qrc {x y:Operand} {t e:TypeId} {sz:Nat} {agg:Bool} {xs:List AV} {k:IntKind} {i:Int} {n:Nat} {z:AV} (hx:Wk (qg N s x) (.sl sz xs none)) (hy:qg N s y = .v (.int k i)) (hu:E.P.underlying t=some (.slice e)) (ht:tyOf E.P e=some (sz,agg)) (hi:i=n) (hz:xs[n]? = some z)
  (h:AOps E rd N ops rest K (s.put d (.pp z.cells))):AOps E rd N ops (⟨d,.indexAddr t x y,T,p,af,none⟩::rest) K s:=by
 refine qz rfl (qw nofun fun B0 w0 G a w _ hI=>?_);subst hi;have he:=hx _ _ (hI.eval x);have dg:=hI.evalv hy;generalize hv:a.eval x=v at he;have d9:=lt_of_getElem? hz
 cases he with
 |sl0=>simp at hz
 |sl _ _ _ b off cap pub hp hw d5 g9 htip m9=>
  have gq:z.cells.length=sz:=hw z (List.mem_of_getElem? hz);have p7:=z6 hw;have d6:(n+1) * sz≤xs.length * sz:=Nat.mul_le_mul_right _ d9;rw [Nat.succ_mul] at d6;refine⟨.pointer (some ⟨b,off+n * sz,none⟩),w,G,.pp z.cells,s.st,?_,.refl G,hI.agree,?_,h⟩
  ·generalize a.eval = ρ at hv dg
   simp only [execOp,hv,dg];simp [Instr.indexAt,asIntOf,run_underlying hu,d9,(vg ht w).1,Addr.add_lit]
  ·refine .pp _ b _ pub hp (by omega) fun j q r h1 h2=>?_
   have hj:j<sz:=by have:=lt_of_getElem? h1;omega
   have hf:=qk3 hw hz j hj;exact g9 (n * sz+j) q r (by rw [hf];exact h1) (by rw [← h2];congr 1;omega)
theorem qxc {x y:Operand} {t u T':TypeId} {sz bytes:Nat} {xs ys:List AV} {c:AV} (hx:qg N s x=c) (hy:Wk (qg N s y) (.sl sz ys none))
  (ht:E.P.underlying t=some (.slice T')) (hu:E.P.underlying u=some (.slice T')) (hT:yb E.P T' sz bytes) (hc:TipO 0 s.st sz T' xs c) (m8:kr (flat ys)=true) (t7:xs.length+ys.length≤maxLen) (hby:(xs.length+ys.length) * bytes≤140737488355328)
  (h:∀ c' st' t1,TipO 0 st' sz T' (xs++ys) c'→Fr s.st st' t1→(c = .sl sz xs (some t1)∨s.st.length≤t1)→(∀ o,zm c'=some o→o=t1)→AOps E rd N ops rest K (AS.put ⟨s.t,st',s.df⟩ d c')):AOps E rd N ops (⟨d,.call ⟨.builtin .append,#[x,y],#[t,u]⟩,T,p,af,none⟩::rest) K s:=by
 refine qz rfl (qw nofun fun B0 w0 G a w _ hI=>?_);have hyr:Rel G (.sl sz ys none) (a.eval y):=hy _ _ (hI.eval y);rcases hc with (⟨lj,hcn⟩ | ⟨t1,h1,h2,h3⟩) | ⟨lj,o,ver,f,hco⟩
 ·subst lj
  have d6:=G.le_new 0 0 0 false;have hA:=hI.agree.newTip sz T';have hv:a.eval x = .slice none 0 0:=hI.evalv (hx.trans hcn);have hn:=hI.agree.n;obtain⟨news,k1,k2,k3⟩:=yq (P:=E.P) hA (hyr.mono d6) (by simpa [kr] using m8)
  have hr:Rel (G.new 0 0 0 false) (.sl sz [] (some s.st.length)) (a.eval x):=by
   rw [hv];exact .sl0 sz _ none 0 fun t ht=>by simp only [Option.some.injEq] at ht;subst ht;exact⟨by simp [Gh.new,hn],rfl,rfl⟩
  obtain⟨v',w',G',e1,e2,e3,e4⟩:=qbh (ty:=T) hA ht hu (.inr ⟨_,rfl⟩) hT (t:=s.st.length) (n:=0) (by simp) hr rfl rfl k1 k2 k3 (by simpa using t7) (by simpa using hby);refine⟨v',w',G',_,_,?_,d6.trans e2,e3,e4,h _ _ s.st.length (.inl (.inr ⟨s.st.length,rfl,?_,Nat.zero_le _⟩)) ⟨by simp,fun k hk d9=>?_⟩ (.inr (Nat.le_refl _)) (fun o ho=>by simp only [zm,Option.some.injEq] at ho;exact ho.symm)⟩
  ·generalize a.eval = ρ at e1
   simp [execOp,resolve,invoke,builtin,e1]
  ·simp
  ·rw [List.getElem?_set_ne (Ne.symm hk),List.getElem?_append_left d9]
 ·obtain⟨news,k1,k2,k3⟩:=yq (P:=E.P) hI.agree hyr (by simpa [kr] using m8)
  obtain⟨v',w',G',e1,e2,e3,e4⟩:=qbh (ty:=T) hI.agree ht hu (.inr ⟨_,rfl⟩) hT h2 (hI.eval_of (hx.trans h1)) rfl rfl k1 k2 k3 t7 hby;refine⟨v',w',G',_,_,?_,e2,e3,e4,h _ _ t1 (.inl (.inr ⟨t1,rfl,?_,Nat.zero_le _⟩)) ⟨by simp,fun k hk d9=>?_⟩ (.inl h1) (fun o ho=>by simp only [zm,Option.some.injEq] at ho;exact ho.symm)⟩
  ·generalize a.eval = ρ at e1
   simp [execOp,resolve,invoke,builtin,e1]
  ·rw [List.length_append]
   exact jq h2
  ·rw [List.getElem?_set_ne (Ne.symm hk)]
 ·subst lj
  have he:=hI.eval_of (hx.trans hco);obtain⟨news,k1,k2,k3⟩:=yq (P:=E.P) hI.agree hyr (by simpa [kr] using m8);have hex:=hT.ex;obtain⟨i,z,hi,hz,i5,hbt,gq⟩:=hex;generalize hv:a.eval x=v at he
  cases he with
  |os _ _ _ _ blk _ hn hvv hbb=>
   by_cases fp:ys.length=0
   ·have hy0:ys=[]:=List.eq_nil_of_length_eq_zero fp
    subst hy0
    have hk1':Src E.P w (a.eval y) 0 i.size []:=by
     have:news=[]:=List.eq_nil_of_length_eq_zero (by simpa using k1.count);rw [i5];rw [this] at k1;exact k1
    refine⟨_,w,G,_,s.st,?_,.refl G,hI.agree,.os o ver f 0 blk 0 hn hvv hbb,h _ s.st s.st.length (.inr ⟨rfl,o,ver,f,rfl⟩) ⟨Nat.le_refl _,fun _ _ _=>rfl⟩ (.inr (Nat.le_refl _)) (fun o ho=>by simp [zm] at ho)⟩;have:=qbn (ty:=T) ht hu (.inr ⟨_,rfl⟩) hi hk1' (some ⟨blk,f,none⟩) 0 0 (Nat.le_refl _);generalize a.eval = ρ at hv this;simp [execOp,resolve,invoke,builtin,hv,this]
   ·have d6:=G.le_new 0 0 0 false
    have hA:=hI.agree.newTip sz T';have hz63:0+ys.length≤maxLen:=by simpa using t7
    obtain⟨v',w',G',e1,e2,e3,e4⟩:=qq4 (ty:=T) hA ht hu (.inr ⟨_,rfl⟩) hT (t:=s.st.length) (n:=0) (xs:=[]) (by simp) rfl rfl k1 k2 (fun i a b h1 h2=>(k3 i a b h1 h2).mono d6) hz63 (some ⟨blk,f,none⟩) 0 []
     (run_firstCells_some w.drew sz 0 ⟨blk,f,none⟩ 0 0 [] (by simp) (by simp)) (by omega) (by simp) (by simp [flat]) (by simp) (by simp [flat]) (by rw [Nat.zero_add,nextslicecap_zero (by omega)];have:=hby;simp at this;omega) fp
    refine⟨v',w',G',_,_,?_,d6.trans e2,e3,e4,h _ _ s.st.length (.inl (.inr ⟨s.st.length,rfl,?_,Nat.zero_le _⟩)) ⟨by simp,fun k hk d9=>?_⟩ (.inr (Nat.le_refl _)) (fun o ho=>by simp only [zm,Option.some.injEq] at ho;exact ho.symm)⟩
    ·generalize a.eval = ρ at e1 hv
     simp [execOp,resolve,invoke,builtin,hv,e1]
    ·simp
    ·rw [List.getElem?_set_ne (Ne.symm hk),List.getElem?_append_left d9]
theorem qpr {t e:TypeId} {len sz:Nat} {agg:Bool} {parts:Array (Nat×Operand)} {zs cs xs:List AV} (ps:List (Nat×AV)) (fc:(vz N s parts).length=ps.length) (hps:∀ (i:Nat) (q p:Nat×AV),(vz N s parts)[i]? = some q→ps[i]? = some p→q.1=p.1∧Wk q.2 p.2)
  (hu:E.P.underlying t=some (.slice e)) (ht:tyOf E.P e=some (sz,agg)) (hz:qfb E.P e len=some zs)
  (hf:qb1 (fun i=>some (i * sz,sz)) zs ps=some cs) (d5:xs.length=len) (p7:flat xs=cs) (hw:∀ x∈xs,x.cells.length=sz) (i5:Nat.ble (len * sz) 16777216=true)
  (h:AOps E rd N ops rest K (s.put d (.sl sz xs none))):AOps E rd N ops (⟨d,.buildSlice t len parts,T,p,af,none⟩::rest) K s:=by
 refine qz rfl (qw nofun fun B0 w0 G a w _ hI=>?_)
 have hparts:∀ (i:Nat) (p:Nat×AV) (v:Nat×Value),ps[i]? = some p→(parts.toList.map fun x=>(x.1,a.eval x.2))[i]? = some v→p.1=v.1∧Rel G p.2 v.2:=fun i p v hp hv=>by
  have hi:i<(vz N s parts).length:=by rw [fc];exact lt_of_getElem? hp
  have hq:(vz N s parts)[i]? = some (vz N s parts)[i]:=List.getElem?_eq_getElem hi;obtain⟨h1,h2⟩:=hps i _ p hq hp;obtain⟨h3,h4⟩:=qjg hI parts i _ v hq hv;exact⟨h1.symm.trans h3,h2 _ _ h4⟩
 have cg:=(vg ht w).1;have i5:=Nat.le_of_ble_eq_true i5
 have hrunE:∃ c':Array Value,(execOp a.eval ⟨d,.buildSlice t len parts,T,p,af,none⟩).run E.P w = .ok (.value (.slice (some ⟨w.heap.size,0,none⟩) len len)) (w.alloc (.cells c' e))∧RelC G cs c':=by
  unfold qfb at hz
  cases hi:E.P.info? e with
  |none=>rw [hi] at hz;simp at hz
  |some i=>
   rw [hi] at hz;simp only at hz;have hs:i.size=sz:=by simpa [sizeOf,typeInfo,hi] using cg
   rw [hs] at hz
   have key:∃ c0:Array Value,RelC G zs c0∧∀ (Q:Array Value→Sem Value),((do
     let zero ← if len * sz=0 then pure #[] else do pure (← zeroValue e).cells
     Q ((Array.range (len * sz)).map (zero[· % zero.size]!)):Sem Value)).run E.P w=(Q c0).run E.P w:=by
    by_cases h0:len * sz=0
    ·rw [h0] at hz
     simp at hz;subst hz;exact⟨#[],⟨rfl,by simp⟩,fun Q=>by have e:Array.range 0 = #[]:=(by simp [Array.range]);simp [h0,e]⟩
    ·have:Nat.beq (len * sz) 0=false:=ji h0
     rw [this] at hz;simp only [cond_false] at hz
     cases hzr:i.zero with
     |none=>rw [hzr] at hz;simp at hz
     |some z=>
      rw [hzr] at hz;simp only [Option.map_some,Option.some.injEq] at hz;subst hz;refine⟨(Array.range (len * sz)).map (z.cells[· % z.cells.size]!),⟨by simp,fun k x y h1 h2=>?_⟩,fun Q=>by simp [h0,zeroValue,typeInfo,hi,hzr]⟩;have hk:k<len * sz:=by have:=lt_of_getElem? h1;simpa using this
      simp [hk] at h1 h2;subst h1;subst h2;exact .v _
   obtain⟨c0,hc0,hrun0⟩:=key;obtain⟨c',h1,h2⟩:=qh4 (fun i=>some (i * sz,sz)) ps (parts.toList.map fun x=>(x.1,a.eval x.2)) zs c0 cs (by rw [← fc];simp [vz]) hparts hc0 hf;refine⟨c',?_,h2⟩;generalize a.eval = ρ at h1;have hb:¬ 16777216<len * sz:=by omega
   have hg:∃ m:String,(execOp ρ ⟨d,.buildSlice t len parts,T,p,af,none⟩).run E.P w=(((do
    let zero ← if len * sz=0 then pure #[] else do pure (← zeroValue e).cells
    (fun c=>(do
    let some cells:=Instr.fill (fun i=>some (i * sz,sz)) c (parts.map fun x=>(x.1,ρ x.2)).toList|stuck m
    pure (Value.slice (some (← newRow e cells)) len len):Sem Value)) ((Array.range (len * sz)).map (zero[· % zero.size]!)):Sem Value)).run E.P w).andThen fun v w'=>.ok (.value v) w':=by
    apply Exists.intro;simp only [execOp,Instr.buildSlice];simp [run_underlying hu,cg,hb];rfl
   obtain⟨m,hg⟩:=hg
   have hQ:=hrun0 (fun c=>do
    let some cells:=Instr.fill (fun i=>some (i * sz,sz)) c (parts.map fun x=>(x.1,ρ x.2)).toList|stuck m
    pure (.slice (some (← newRow e cells)) len len))
   rw [hg,hQ];simp [h1,newRow,newObj,Sem.run]
 obtain⟨c',a8,h2⟩:=hrunE;obtain⟨d6,hA⟩:=hI.agree.newPub e c' (0,0) c'.toList (fun i y hy=>by simpa using hy);refine⟨.slice (some ⟨w.heap.size,0,none⟩) len len,w.alloc (.cells c' e),_,.sl sz xs none,s.st,a8,d6,hA,?_,h⟩;rw [← d5]
 cases xs with
 |nil=>exact .sl0 sz none _ _ (by simp)
 |cons x0 xr=>
  refine .sl sz _ none w.heap.size 0 _ c'.toList (by simp [Gh.publish]) hw (by rw [p7,h2.1];simp) (fun k x y g1 g2=>?_) (fun t ht=>by simp at ht) (Nat.le_refl _);rw [p7] at g1;exact (h2.2 k x y g1 (by simpa using g2)).mono d6
end
def jd {α : Type}:Nat→List α→List (Nat×α)
 | _,[]=>[]
 |i,x::r=>(i,x)::jd (i+1) r
theorem qp2 {sz:Nat}:∀ (ys:List AV) (k:Nat) (done zs:List AV),(∀ y∈ys,y.okc=true∧y.cells.length=sz)→done.length=k * sz→zs.length=ys.length * sz →
  qb1 (fun i=>some (i * sz,sz)) (done++zs) (jd k ys)=some (done++flat ys)
 | [],k,done,zs,_,_,hz=>by
  have:zs=[]:=List.eq_nil_of_length_eq_zero (by simpa using hz);subst this
  rfl
 |y::r,k,done,zs,hy,hd,hz=>by
  obtain⟨h1,h2⟩:=hy y (by simp);simp only [List.length_cons,Nat.succ_mul] at hz;simp only [jd,qb1,h1,h2];have hb:Nat.beq sz sz=true:=by simp
  have hl:Nat.ble (k * sz+sz) (done++zs).length=true:=Nat.ble_eq_true_of_le (by simp;omega);rw [hb,hl]
  have e:zr (done++zs) (k * sz) y.cells=(done++y.cells)++zs.drop sz:=by
   unfold zr;rw [← hd,List.take_left,h2,List.drop_append];simp
  simp only [Bool.and_self,cond_true];rw [e,qp2 r (k+1) (done++y.cells) (zs.drop sz) (fun y' hy'=>hy y' (by simp [hy'])) (by simp [hd,h2,Nat.succ_mul]) (by simp;omega)];simp [flat]
def qkb (P:Program):Nat→TypeId→List (Option Nat)
 | 0,_=>[none]
 |n+1,t=>match P.underlying t with
  |some (.struct fs)=>fs.toList.flatMap fun f=>qkb P n f.type
  |some (.slice e)=>(match tyOf P e with
   |some (sz,_)=>[some sz]
   |none=>[none])
  | _=>[none]
def nrm1:Option Nat→AV→AV
 |some sz,.v (.slice none 0 0)=>.sl sz [] none
 | _,x=>x
def nrmL:List (Option Nat)→List AV→List AV
 |k::r,x::s=>nrm1 k x::nrmL r s
 | _,l=>l
def nrmT (P:Program) (t:TypeId) (x:AV):AV:=
 match x with
 | .ag cs=>.ag (nrmL (qkb P 4 t) cs)
 | .v (.slice none 0 0)=>(match qkb P 1 t with
  | [k]=>nrm1 k (.v (.slice none 0 0))
  | _=>.v (.slice none 0 0))
 |x=>x
def zipT (P:Program):List TypeId→List AV→List AV
 |t::r,x::s=>nrmT P t x::zipT P r s
 | _,l=>l
theorem q3f (k:Option Nat) (x:AV):Wk x (nrm1 k x):=by
 unfold nrm1;split
 ·exact fun _ _ h=>qbt h
 ·exact wj _
theorem q2v:∀ (ks:List (Option Nat)) (l:List AV),l.length=(nrmL ks l).length∧∀ (i:Nat) (x y:AV),l[i]? = some x→(nrmL ks l)[i]? = some y→Wk x y
 | [],l=>⟨by simp [nrmL],fun i x y hx hy=>by simp only [nrmL] at hy;rw [hx] at hy;simp only [Option.some.injEq] at hy;subst hy;exact wj _⟩
 |k::r,[]=>⟨by simp [nrmL],fun i x y hx=>by simp at hx⟩
 |k::r,z::s=>by
  obtain⟨h1,h2⟩:=q2v r s;refine⟨by simp [nrmL,h1],fun i x y hx hy=>?_⟩;simp only [nrmL] at hy
  cases i with
  |zero=>simp at hx hy;subst hx;subst hy;exact q3f k _
  |succ i=>exact h2 i x y (by simpa using hx) (by simpa using hy)
theorem ze7 (P:Program) (t:TypeId) (x:AV):Wk x (nrmT P t x):=by
 unfold nrmT;split
 ·obtain⟨h1,h2⟩:=q2v (qkb P 4 t) (by assumption)
  exact q5v h1 h2
 ·split
  ·exact q3f _ _
  ·exact wj _
 ·exact wj _
theorem q3k (P:Program):∀ (ts:List TypeId) (l:List AV),l.length=(zipT P ts l).length∧∀ (i:Nat) (x y:AV),l[i]? = some x→(zipT P ts l)[i]? = some y→Wk x y
 | [],l=>⟨by simp [zipT],fun i x y hx hy=>by simp only [zipT] at hy;rw [hx] at hy;simp only [Option.some.injEq] at hy;subst hy;exact wj _⟩
 |t::r,[]=>⟨by simp [zipT],fun i x y hx=>by simp at hx⟩
 |t::r,z::s=>by
  obtain⟨h1,h2⟩:=q3k P r s;refine⟨by simp [zipT,h1],fun i x y hx hy=>?_⟩;simp only [zipT] at hy
  cases i with
  |zero=>simp at hx hy;subst hx;subst hy;exact ze7 P t _
  |succ i=>exact h2 i x y (by simpa using hx) (by simpa using hy)
def qsd:AV→Bool
 | .v (.slice none 0 0)=>true
 | _=>false
theorem qu8 {x:AV} (h:qsd x=true):x=zj:=by
 unfold qsd at h;split at h
 ·rfl
 ·simp at h
def fcN (n:Nat) (k:Nat→Prop):Prop:=
 bif Nat.beq n 1 then k 1 else bif Nat.beq n 2 then k 2 else bif Nat.beq n 3 then k 3 else bif Nat.beq n 4 then k 4 else bif Nat.beq n 5 then k 5 else k n
theorem qm2 (n:Nat) (k:Nat→Prop):fcN n k=k n:=by
 unfold fcN;by_cases h1:n=1
 ·subst h1;rfl
 rw [ji h1];by_cases h2:n=2
 ·subst h2;rfl
 rw [ji h2];by_cases h3:n=3
 ·subst h3;rfl
 rw [ji h3];by_cases h4:n=4
 ·subst h4;rfl
 rw [ji h4];by_cases h5:n=5
 ·subst h5;rfl
 rw [ji h5];rfl
def qsj:List (Option Nat)→List AV→(List AV→Prop)→Prop
 |c::r,x::s,k=>(match qsd x,c with
  |true,some sz=>fcN sz fun sz=>qsj r s fun l=>k (.sl sz [] none::l)
  | _,_=>qsj r s fun l=>k (x::l))
 | _,l,k=>k l
def q40:List AV→Bool
 | []=>false
 |x::r=>qsd x ||q40 r
def nrmK (P:Program) (t:TypeId) (x:AV) (k:AV→Prop):Prop:=
 match q40 x.cells with
 |false=>k x
 |true=>(match x with
  | .ag cs=>qsj (qkb P 4 t) cs fun l=>k (.ag l)
  |x=>(match qkb P 1 t with
   | [some sz]=>fcN sz fun sz=>k (.sl sz [] none)
   | _=>k x))
def WkL (l m:List AV):Prop:=l.length=m.length∧∀ (i:Nat) (x y:AV),l[i]? = some x→m[i]? = some y→Wk x y
theorem qom:WkL [] []:=⟨rfl,fun i x y h=>by simp at h⟩
theorem qir {x y:AV} {l m:List AV} (h:Wk x y) (hl:WkL l m):WkL (x::l) (y::m):=⟨by simp [hl.1],fun i a b ha hb=>by
 cases i with
 |zero=>simp at ha hb;subst ha;subst hb;exact h
 |succ i=>exact hl.2 i a b (by simpa using ha) (by simpa using hb)⟩
theorem qqz:∀ l:List AV,WkL l l
 | []=>qom
 |x::r=>qir (wj x) (qqz r)
theorem qqg:∀ (cs:List (Option Nat)) (l:List AV) (k:List AV→Prop),qsj cs l k→∃ m,WkL l m∧k m
 | [],l,k,h=>⟨l,qqz l,by cases l <;> exact h⟩
 |c::r,[],k,h=>⟨[],qom,h⟩
 |c::r,x::s,k,h=>by
  simp only [qsj] at h;split at h
  ·rename_i sz hx
   rw [qm2] at h;obtain⟨m,h1,h2⟩:=qqg r s _ h;exact⟨_,qir (by rw [qu8 hx];exact fun _ _ h=>qbt h) h1,h2⟩
  ·obtain⟨m,h1,h2⟩:=qqg r s _ h
   exact⟨_,qir (wj x) h1,h2⟩
theorem qtr {P:Program} {t:TypeId} {x:AV} {k:AV→Prop} (h:nrmK P t x k):∃ y,Wk x y∧k y:=by
 unfold nrmK at h;split at h
 ·exact⟨x,wj x,h⟩
 ·rename_i hn
  split at h
  ·rename_i cs
   obtain⟨m,h1,h2⟩:=qqg _ _ _ h;exact⟨_,q5v h1.1 h1.2,h2⟩
  ·rename_i hx
   split at h
   ·rename_i sz _
    rw [qm2] at h
    have:x=zj:=by
     have hc:x.cells=[x]:=by cases x <;> first|rfl|exact absurd rfl (hx _)
     rw [hc] at hn;simp only [q40,Bool.or_false] at hn;exact qu8 hn
    exact⟨_,by rw [this];exact fun _ _ h=>qbt h,h⟩
   ·exact⟨x,wj x,h⟩
def q42 (P:Program) (t:TypeId):List AV→(List AV→Prop)→Prop
 | [],k=>k []
 |x::r,k=>nrmK P t x fun x=>q42 P t r fun r=>k (x::r)
theorem qy6 {P:Program} {t:TypeId}:∀ {l:List AV} {k:List AV→Prop},q42 P t l k→∃ m,WkL l m∧k m
 | [],k,h=>⟨[],qom,h⟩
 |x::r,k,h=>by
  obtain⟨y,h1,h2⟩:=qtr h;obtain⟨m,h3,h4⟩:=qy6 h2;exact⟨_,qir h1 h3,h4⟩
def zipK (P:Program):List TypeId→List AV→(List AV→Prop)→Prop
 |t::r,x::s,k=>nrmK P t x fun x=>zipK P r s fun l=>k (x::l)
 | _,l,k=>k l
theorem q3j {P:Program}:∀ {ts:List TypeId} {l:List AV} {k:List AV→Prop},zipK P ts l k→∃ m,WkL l m∧k m
 | [],l,k,h=>⟨l,qqz l,by cases l <;> exact h⟩
 |t::r,[],k,h=>⟨[],qom,h⟩
 |t::r,x::s,k,h=>by
  obtain⟨y,h1,h2⟩:=qtr h;obtain⟨m,h3,h4⟩:=q3j h2;exact⟨_,qir h1 h3,h4⟩
def q4j (P:Program) (T:TypeId):Option (Nat×Nat):=
 match P.info? T with
 |some i=>(match i.zero with
  |some z=>bif Nat.beq z.cells.size i.size then some (i.size,i.bytes) else none
  |none=>none)
 |none=>none
theorem zam {P:Program} {T:TypeId} {sz bytes:Nat} (h:q4j P T=some (sz,bytes)):yb P T sz bytes:=by
 unfold q4j at h;split at h
 ·rename_i i hi
  split at h
  ·rename_i z hz
   cases hb:Nat.beq z.cells.size i.size with
   |false=>rw [hb] at h;simp at h
   |true=>
    rw [hb] at h;simp only [cond_true,Option.some.injEq,Prod.mk.injEq] at h;exact⟨i,z,hi,hz,h.1,h.2,(Nat.eq_of_beq_eq_true hb).trans h.1⟩
  ·simp at h
 ·simp at h
end Go.Av
namespace Go.Av
open Go Go.RowKit
section
variable {E : Env} {N : Nat} {ops : Array Oper} {nx : Nat} {sl : List (Nat × SV)} {H : Nat → Option SR} {k : Ef → Prop} {d : Option Tmp} {T : TypeId} {p : String} {af : Array Edge}
def bndW (v:Option SV) (q:Nat→Prop):Prop:=
 match v with
 |some v=>(match qe0 v with
  |some (_,n)=>∃ i:Nat,n=(i:Int)∧q i
  |none=>False)
 |none=>False
theorem qce {x:Operand} {q:Nat→Prop} (h:bndW (sval N sl x) q):∃ (i:Nat) (kd:IntKind),(∀ {ρ t:Nat→AV} {S:List AObj} {df:List Nat},SlOk ρ t sl→qg N ⟨t,S,df⟩ x = .v (.int kd (i:Int)))∧q i:=by
 unfold bndW at h;split at h
 ·rename_i v hv
  split at h
  ·rename_i kd n hn
   obtain⟨i,rfl,h⟩:=h;exact⟨i,kd,fun hs=>(qv hs hv).trans (qb5 hn _),h⟩
  ·exact h.elim
 ·exact h.elim
def qi8:Option TypeDesc→Bool
 |some .string=>true
 | _=>false
theorem qqa {u:Option TypeDesc} (h:qi8 u=true):u=some .string:=by
 unfold qi8 at h;split at h
 ·rfl
 ·simp at h
def elT:Option TypeDesc→Option TypeId
 |some (.slice e)=>some e
 | _=>none
theorem qct {u:Option TypeDesc} {e:TypeId} (h:elT u=some e):u=some (.slice e):=by
 unfold elT at h;split at h
 ·simp only [Option.some.injEq] at h;subst h;rfl
 ·simp at h
def qz5 (P:Program) (N:Nat) (sl:List (Nat×SV)) (H:Nat→Option SR) (nx:Nat) (k:Ef→Prop) (t:TypeId) (x:Operand) (lo hi:Option Operand):Prop:=
 match sval N sl x with
 |some (.s l)=>bif qi8 (P.underlying t) then (match lo,hi with
  |none,none=>k (wc nx (.s l))
  |some y,none=>bndW (sval N sl y) fun i=>i≤l.length∧k (wc nx (.s (l.drop i)))
  |none,some z=>bndW (sval N sl z) fun j=>j≤l.length∧k (wc nx (.s (l.take j)))
  |some y,some z=>bndW (sval N sl y) fun i=>bndW (sval N sl z) fun j=>i≤j∧j≤l.length∧k (wc nx (.s ((l.take j).drop i)))) else False
 |some v=>(match elT (P.underlying t) with
  |some e=>(match tyOf P e with
   |some (sz,_)=>(match qk0 H sz v with
    |some (xs,ks)=>(match lo,hi with
     |none,none=>k ⟨.a (.sl sz xs none),ks,[],nx⟩
     |some y,none=>bndW (sval N sl y) fun i=>i≤xs.length∧k ⟨.a (.sl sz (xs.drop i) none),ks,[],nx⟩
     |none,some z=>bndW (sval N sl z) fun j=>j≤xs.length∧k ⟨.a (.sl sz (xs.take j) none),ks,[],nx⟩
     |some y,some z=>bndW (sval N sl y) fun i=>bndW (sval N sl z) fun j=>i≤j∧j≤xs.length∧k ⟨.a (.sl sz ((xs.take j).drop i) none),ks,[],nx⟩)
    |none=>False)
   |none=>False)
  |none=>False)
 |none=>False
theorem zb8 {t:TypeId} {x:Operand} {lo hi:Option Operand} (h:qz5 E.P N sl H nx k t x lo hi):∃ e,Loc E N ops ⟨d,.slice t x lo hi none,T,p,af,none⟩ nx sl H e∧k e:=by
 unfold qz5 at h;split at h
 ·rename_i l hv
  cases hu:qi8 (E.P.underlying t) with
  |false=>rw [hu] at h;exact h.elim
  |true=>
   rw [hu] at h;simp only [cond_true] at h;have hu:=qqa hu;split at h
   ·exact⟨_,jc (v:=.s l) fun df rd K rest ρ t' S hs hk=>qdp (i:=0) (j:=l.length) (qv hs hv) hu rfl rfl (by omega) (by omega) (by omega) (by simpa [SV.ev] using hk),h⟩
   ·obtain⟨i,kd,hi,h1,h⟩:=qce h
    exact⟨_,jc (v:=.s (l.drop i)) fun df rd K rest ρ t' S hs hk=>quc (qv hs hv) (hi hs) hu h1 hk,h⟩
   ·obtain⟨j,kd,hj,h1,h⟩:=qce h
    exact⟨_,jc (v:=.s (l.take j)) fun df rd K rest ρ t' S hs hk=>qmo (qv hs hv) (hj hs) hu h1 hk,h⟩
   ·obtain⟨i,kd,hi,h⟩:=qce h
    obtain⟨j,kd',hj,h1,h2,h⟩:=qce h;exact⟨_,jc (v:=.s ((l.take j).drop i)) fun df rd K rest ρ t' S hs hk=>qud (qv hs hv) (hi hs) (hj hs) hu h1 h2 hk,h⟩
 ·rename_i v hns hv
  split at h
  ·rename_i e he
   have hu:=qct he;split at h
   ·rename_i sz agg ht
    split at h
    ·rename_i xs ks mb
     split at h
     ·exact⟨_,xz (v:=.a (.sl sz xs none)) fun df rd K rest ρ t' S hs hS hk=>qes (i:=0) (j:=xs.length) (by rw [qv hs hv];exact qff mb hS) hu ht rfl rfl (by omega) (by omega) (by simpa [SV.ev] using hk),h⟩
     ·obtain⟨i,kd,hi,h1,h⟩:=qce h
      exact⟨_,xz (v:=.a (.sl sz (xs.drop i) none)) fun df rd K rest ρ t' S hs hS hk=>qes (i:=i) (j:=xs.length) (by rw [qv hs hv];exact qff mb hS) hu ht ⟨kd,hi hs⟩ rfl h1 (by omega) (by simpa [SV.ev] using hk),h⟩
     ·obtain⟨j,kd,hj,h1,h⟩:=qce h
      exact⟨_,xz (v:=.a (.sl sz (xs.take j) none)) fun df rd K rest ρ t' S hs hS hk=>qes (i:=0) (j:=j) (by rw [qv hs hv];exact qff mb hS) hu ht rfl ⟨kd,hj hs⟩ (by omega) h1 (by simpa [SV.ev] using hk),h⟩
     ·obtain⟨i,kd,hi,h⟩:=qce h
      obtain⟨j,kd',hj,h1,h2,h⟩:=qce h;exact⟨_,xz (v:=.a (.sl sz ((xs.take j).drop i) none)) fun df rd K rest ρ t' S hs hS hk=>qes (i:=i) (j:=j) (by rw [qv hs hv];exact qff mb hS) hu ht ⟨kd,hi hs⟩ ⟨kd',hj hs⟩ h1 h2 (by simpa [SV.ev] using hk),h⟩
    ·exact h.elim
   ·exact h.elim
  ·exact h.elim
 ·exact h.elim
def qyq (P:Program) (N:Nat) (sl:List (Nat×SV)) (nx:Nat) (k:Ef→Prop) (t:TypeId) (x y:Operand):Prop:=
 match sval N sl x with
 |some (.s l)=>bif qi8 (P.underlying t) then bndW (sval N sl y) fun i=>i<l.length∧k (wc nx (.a (Uv (l.getD i 0)))) else False
 | _=>False
theorem za0 {t:TypeId} {x y:Operand} (h:qyq E.P N sl nx k t x y):∃ e,Loc E N ops ⟨d,.index t x y,T,p,af,none⟩ nx sl H e∧k e:=by
 unfold qyq at h;split at h
 ·rename_i l hv
  cases hu:qi8 (E.P.underlying t) with
  |false=>rw [hu] at h;exact h.elim
  |true=>
   rw [hu] at h;simp only [cond_true] at h;obtain⟨i,kd,hi,h1,h⟩:=qce h;exact⟨_,jc (v:=.a (Uv (l.getD i 0))) fun df rd K rest ρ t' S hs hk=>qps (qv hs hv) (hi hs) (qqa hu) h1 hk,h⟩
 ·exact h.elim
def qk7 (P:Program) (N:Nat) (sl:List (Nat×SV)) (H:Nat→Option SR) (nx:Nat) (k:Ef→Prop) (t:TypeId) (x y:Operand):Prop:=
 match sval N sl x,elT (P.underlying t) with
 |some v,some e=>(match tyOf P e with
  |some (sz,_)=>(match qk0 H sz v with
   |some (xs,ks)=>bndW (sval N sl y) fun i=>∃ z,xs[i]? = some z∧k ⟨.a (.pp z.cells),ks,[],nx⟩
   |none=>False)
  |none=>False)
 | _,_=>False
theorem qyp {t:TypeId} {x y:Operand} (h:qk7 E.P N sl H nx k t x y):∃ e,Loc E N ops ⟨d,.indexAddr t x y,T,p,af,none⟩ nx sl H e∧k e:=by
 unfold qk7 at h;split at h
 ·rename_i v e hv he
  split at h
  ·rename_i sz agg ht
   split at h
   ·rename_i xs ks mb
    obtain⟨i,kd,hi,z,hz,h⟩:=qce h;exact⟨_,xz (v:=.a (.pp z.cells)) fun df rd K rest ρ t' S hs hS hk=>qrc (by rw [qv hs hv];exact qff mb hS) (hi hs) (qct he) ht rfl hz hk,h⟩
   ·exact h.elim
  ·exact h.elim
 ·exact h.elim
def lenW (P:Program) (H:Nat→Option SR) (nx:Nat) (k:Ef→Prop) (t:TypeId):Option SV→Prop
 |some (.s l)=>bif qi8 (P.underlying t) then k (wc nx (.i l.length)) else False
 |some (.tp b)=>(match H b,elT (P.underlying t) with
  |some (.tip _ _ xs),some _=>k ⟨.i xs.length,[b],[],nx⟩
  |some (.own _ _ xs),some _=>k ⟨.i xs.length,[b],[],nx⟩
  | _,_=>False)
 |some (.a x)=>(match lenA x,elT (P.underlying t) with
  |some n,some _=>k (wc nx (.i n))
  | _,_=>False)
 | _=>False
theorem q9c {b sz:Nat} {T:TypeId} {xs:List AV} {c:AV} {S:List AObj} (h:TipO b S sz T xs c):lenA c=some xs.length:=by
 rcases h with (⟨rfl,rfl⟩ | ⟨t,rfl,_⟩) | ⟨rfl,o,v,f,rfl⟩ <;> rfl
theorem qqx {b sz:Nat} {T:TypeId} {xs:List AV} {c:AV} {S:List AObj} (h:TipO b S sz T xs c):tpAt c=c:=by
 unfold tpAt;rw [(qt6 h).2];rfl
theorem zbi {sz:Nat} {T:TypeId} {xs:List AV} {c:AV} {S:List AObj} (h:OwnS S sz T xs c):lenA c=some xs.length:=by
 rcases h with⟨rfl,h⟩ | ⟨_,_,_,_,rfl,_⟩
 ·exact h.len
 ·rfl
theorem qqw {sz:Nat} {T:TypeId} {xs:List AV} {c:AV} {S:List AObj} (h:OwnS S sz T xs c):tpAt c=c:=by
 rcases h with⟨_,h⟩ | ⟨_,_,_,_,rfl,_⟩
 ·unfold tpAt
  rw [h.one];rfl
 ·rfl
theorem zfy {t:TypeId} {ts:Array TypeId} {x:Operand} (ht:ts[0]? = some t) (h:lenW E.P H nx k t (sval N sl x)):∃ e,Loc E N ops ⟨d,.call ⟨.builtin .len,#[x],ts⟩,T,p,af,none⟩ nx sl H e∧k e:=by
 unfold lenW at h;split at h
 ·rename_i l hv
  cases hu:qi8 (E.P.underlying t) with
  |false=>rw [hu] at h;exact h.elim
  |true=>rw [hu] at h;exact⟨_,jc (v:=.i l.length) fun df rd K rest ρ t' S hs hk=>wl (qv hs hv) ht (qqa hu) hk,h⟩
 ·rename_i b hv
  split at h
  ·rename_i sz T' xs e hb he
   refine⟨_,xz (v:=.i xs.length) fun df rd K rest ρ t' S hs hS hk=>?_,h⟩;have:=hS.ok b _ ((w6 b).trans hb);exact jl (v:= ρ b) ((qv hs hv).trans (qqx this)) (q9c this) ht (qct he) hk
  ·rename_i sz T' xs e hb he
   refine⟨_,xz (v:=.i xs.length) fun df rd K rest ρ t' S hs hS hk=>?_,h⟩;have:=hS.ok b _ ((w6 b).trans hb);exact jl (v:= ρ b) ((qv hs hv).trans (qqw this)) (zbi this) ht (qct he) hk
  ·exact h.elim
 ·rename_i y hv
  split at h
  ·rename_i n e hn he
   exact⟨_,jc (v:=.i n) fun df rd K rest ρ t' S hs hk=>jl (qv hs hv) hn ht (qct he) hk,h⟩
  ·exact h.elim
 ·exact h.elim
def qm6 (H:Nat→Option SR) (sz:Nat) (T:TypeId):SV→Option (List AV×List Nat)
 | .tp b=>(match H b with
  |some (.tip z T' xs)=>bif Nat.beq z sz && Nat.beq T' T then some (xs,[b]) else none
  | _=>none)
 | .a (.v (.slice none 0 0))=>some ([],[])
 | _=>none
theorem q7f {S:List AObj} {ρ : Nat→AV} {v:SV} {sz:Nat} {T:TypeId} {xs:List AV} {ks ks':List Nat} (h:qm6 H sz T v=some (xs,ks)) (hS:SatF S ρ (resF (ks++ks') H)):TipO 0 S sz T xs (v.ev ρ)∧∀ o,zm (v.ev ρ)=some o→∃ b,ks=[b]∧zm (ρ b)=some o:=by
 unfold qm6 at h;split at h
 ·rename_i b
  split at h
  ·rename_i z T' ys hb
   cases hz:(Nat.beq z sz && Nat.beq T' T) with
   |false=>rw [hz] at h;simp at h
   |true=>
    rw [hz] at h;simp only [cond_true,Option.some.injEq,Prod.mk.injEq] at h;obtain⟨rfl,rfl⟩:=h;simp only [Bool.and_eq_true] at hz;have e1:=Nat.eq_of_beq_eq_true hz.1;have e2:=Nat.eq_of_beq_eq_true hz.2;subst e1;subst e2;have:=hS.ok b _ (by unfold resF;simp [memN];exact hb);have e:(SV.tp b).ev ρ = ρ b:=qqx this;rw [e];exact⟨this,fun o ho=>⟨b,rfl,ho⟩⟩
  ·simp at h
 ·simp only [Option.some.injEq,Prod.mk.injEq] at h
  obtain⟨rfl,rfl⟩:=h;exact⟨.inl (.inl ⟨rfl,rfl⟩),fun o ho=>by simp [SV.ev,zm] at ho⟩
 ·simp at h
theorem q4s {v:SV} {sz:Nat} {T:TypeId} {xs:List AV} {ks:List Nat} (h:qm6 H sz T v=some (xs,ks)):∀ b,ks=[b]→∃ z T ys,H b=some (.tip z T ys):=fun b hb=>by
 unfold qm6 at h;split at h
 ·split at h
  ·rename_i b' z T' ys hk
   cases hz:(Nat.beq z sz && Nat.beq T' T) with
   |false=>rw [hz] at h;simp at h
   |true=>
    rw [hz] at h;simp only [cond_true,Option.some.injEq,Prod.mk.injEq] at h;rw [hb] at h;simp only [List.cons.injEq,and_true] at h;exact⟨z,T',ys,by rw [← h.2];exact hk⟩
  ·simp at h
 ·simp only [Option.some.injEq,Prod.mk.injEq] at h
  rw [hb] at h;simp at h
 ·simp at h
theorem qu1 {v:SV} {sz:Nat} {xs:List AV} {ks:List Nat} (h:qk0 H sz v=some (xs,ks)):∀ b,memN ks b=true→∃ z T ys,H b=some (.tip z T ys):=fun b hb=>by
 unfold qk0 at h;split at h
 ·rename_i z ys tip
  cases hz:Nat.beq z sz with
  |false=>rw [hz] at h;simp at h
  |true=>
   rw [hz] at h;simp only [cond_true,Option.some.injEq,Prod.mk.injEq] at h;rw [← h.2] at hb;simp [memN] at hb
 ·simp only [Option.some.injEq,Prod.mk.injEq] at h
  rw [← h.2] at hb;simp [memN] at hb
 ·rename_i b'
  split at h
  ·rename_i z T' ys hk
   cases hz:Nat.beq z sz with
   |false=>rw [hz] at h;simp at h
   |true=>
    rw [hz] at h;simp only [cond_true,Option.some.injEq,Prod.mk.injEq] at h;rw [← h.2] at hb;simp only [memN,List.any_cons,List.any_nil,Bool.or_false] at hb;rw [Nat.eq_of_beq_eq_true hb];exact⟨z,T',ys,hk⟩
  ·simp at h
 ·simp at h
def appW (P:Program) (H:Nat→Option SR) (nx:Nat) (k:Ef→Prop) (t u:TypeId):Option SV→Option SV→Prop
 |some vx,some vy=>(match elT (P.underlying t),elT (P.underlying u) with
  |some e,some e'=>(match q4j P e with
   |some (sz,bytes)=>(match qm6 H sz e vx,qk0 H sz vy with
    |some (xs,kx),some (ys,ky)=>bif Nat.beq e e' && Nat.blt 0 bytes && Nat.ble bytes 140737 && (kx++ky).all (fun b=> !Nat.beq b nx) then ((xs.length+ys.length≤1000000000∨(xs.length+ys.length) * bytes≤140737488355328)∧kr (flat ys)=true)∧k ⟨.tp nx,kx++ky,kx.map (fun b=>(b,none))++[(nx,some (.tip sz e (xs++ys)))],nx+1⟩ else False
    | _,_=>False)
   |none=>False)
  | _,_=>False)
 | _,_=>False
theorem q7t (l:List Nat) (k:Nat):lkS (l.map fun b=>(b,(none:Option SR))) k=bif memN l k then some none else none:=by
 induction l with
 |nil=>rfl
 |cons b r ih=>
  simp only [List.map_cons,lkS,memN,List.any_cons] at ih ⊢;by_cases h:b=k
  ·subst h
   have:Nat.beq b b=true:=by simp
   simp only [this,cond_true,Bool.true_or]
  ·rw [ji h,ji (fun e=>h e.symm),Bool.false_or]
   simp only [cond_false];exact ih
theorem qif (a b:List Nat) (k:Nat):memN (a++b) k=(memN a k ||memN b k):=by simp [memN]
theorem ze9 {t u:TypeId} {x y:Operand} (h:appW E.P H nx k t u (sval N sl x) (sval N sl y)):∃ e,Loc E N ops ⟨d,.call ⟨.builtin .append,#[x,y],#[t,u]⟩,T,p,af,none⟩ nx sl H e∧k e:=by
 unfold appW at h;split at h
 ·rename_i vx vy hvx hvy
  split at h
  ·rename_i e e' he db
   split at h
   ·rename_i sz bytes hb
    split at h
    ·rename_i xs kx ys ky hg mb
     cases hc:(Nat.beq e e' && Nat.blt 0 bytes && Nat.ble bytes 140737 && (kx++ky).all (fun b=> !Nat.beq b nx)) with
     |false=>rw [hc] at h;exact h.elim
     |true=>
      rw [hc] at h;simp only [Bool.and_eq_true] at hc;have ee:=Nat.eq_of_beq_eq_true hc.1.1.1;subst ee;have hbp:=ku hc.1.1.2;have gf:=Nat.le_of_ble_eq_true hc.1.2
      have dk:∀ b∈kx++ky,b≠nx:=fun b hb e=>by
       have:=List.all_eq_true.1 hc.2 b hb;subst e;simp at this
      obtain⟨⟨h1,h2⟩,h⟩:=h;refine⟨_,fun df rd K rest ρ t' S hs hS hk=>?_,h⟩;simp only at hS hk;obtain⟨hT,hl⟩:=q7f hg hS;have hSy:SatF S ρ (resF ky H):=⟨fun k r hk=>hS.ok k r (by have:=wd hk;unfold resF;rw [qif,this.1,Bool.or_true];exact this.2),fun k k' r r' b9 g1 g2=>hS.sep k k' r r' b9 (by have:=wd g1;unfold resF;rw [qif,this.1,Bool.or_true];exact this.2) (by have:=wd g2;unfold resF;rw [qif,this.1,Bool.or_true];exact this.2)⟩;have h47:(xs.length+ys.length) * bytes≤140737488355328:=h1.elim (fun h=>Nat.le_trans (Nat.mul_le_mul h gf) (by omega)) id;have t7:xs.length+ys.length≤maxLen:=Nat.le_trans (Nat.le_trans (Nat.le_mul_of_pos_right _ hbp) h47) (by decide);refine qxc (qv hs hvx) (by rw [qv hs hvy];exact qff mb hSy) (qct he) (qct db) (zam hb) hT h2 t7 h47 fun c' S' t1 g1 g2 g3 g4=>?_;simp only at g2 g3
      have hresE:∀ b,kx=[b]→∃ r,resF (kx++ky) H b=some r:=fun b p6=>by
       obtain⟨z,T2,ys2,q⟩:=q4s hg b p6;refine⟨.tip z T2 ys2,?_⟩;unfold resF;rw [p6];simp [memN];exact q
      have key:∀ k r,chF (kx.map (fun b=>(b,none))++[(nx,some (.tip sz e (xs++ys)))]) (resF (kx++ky) H) k=some r→(k=nx∧r = .tip sz e (xs++ys))∨(k≠nx∧memN kx k=false∧resF (kx++ky) H k=some r):=fun k r hk=>by
       unfold chF at hk;rw [qc2] at hk;rw [q7t] at hk
       cases hm:memN kx k with
       |true=>rw [hm] at hk;simp at hk
       |false=>
        rw [hm] at hk;simp only [cond_false,lkS] at hk;by_cases hn:nx=k
        ·subst hn
         have:Nat.beq nx nx=true:=by simp
         rw [this] at hk;simp only [cond_true,Option.some.injEq] at hk;exact .inl ⟨rfl,hk.symm⟩
        ·rw [ji hn] at hk
         exact .inr ⟨fun e=>hn e.symm,rfl,hk⟩
      have e8:∀ k r,k≠nx→memN kx k=false→resF (kx++ky) H k=some r→∀ o,zm (ρ k)=some o→o≠t1∧o<S.length:=fun k r b9 hm hk o ho=>by
       have d9:=SR.ok_lt (hS.ok k r hk) ho;refine⟨fun e=>?_,d9⟩;subst e;rcases g3 with g3|g3
       ·obtain⟨b,p6,cn⟩:=hl o (by rw [g3];rfl)
        have mw:b≠k:=fun e=>by subst e;rw [p6] at hm;simp [memN] at hm
        have cr:=hresE b p6;obtain⟨r',cr⟩:=cr;exact hS.sep b k r' r mw cr hk o cn ho
       ·omega
      have:=hk (upd ρ nx c') S' ⟨fun k hk=>ye _ _ (by simp only at hk;omega),⟨fun k r hk=>?_,fun k k' r1 r2 b9 q1 q2 o ho d7=>?_⟩,g2.len,fun j hj b9=>?_,fun k r hk o ho=>?_⟩
      ·simpa only [SV.ev,ve,qqx g1] using this
      ·rcases key k r hk with⟨rfl,rfl⟩ | ⟨q1,q2,q3⟩
       ·rw [ve];exact g1
       ·rw [ye _ _ q1]
        have h3:=hS.ok k r q3
        cases r with
        |cells T1 cs=>
         exfalso;have:=(wd q3)
         have hmy:memN ky k=true:=by
          have h5:=this.1;rw [qif,q2,Bool.false_or] at h5;exact h5
         obtain⟨z,T2,ys2,q⟩:=qu1 mb k hmy;rw [this.2] at q
         simp at q
        |tip z T1 zs=>exact SR.ok_of (f:=fun _=>false) (r:=.tip z T1 zs) (ρ:= ρ) rfl (fun k hk=>by simp at hk) h3 fun o ho=>g2.same o (e8 k _ q1 q2 q3 o ho).1 (e8 k _ q1 q2 q3 o ho).2
        |own z T1 zs=>exact SR.ok_of (f:=fun _=>false) (r:=.own z T1 zs) (ρ:= ρ) rfl (fun k hk=>by simp at hk) h3 fun o ho=>g2.same o (e8 k _ q1 q2 q3 o ho).1 (e8 k _ q1 q2 q3 o ho).2
        |obj P1=>exact SR.ok_of (f:=fun _=>false) (r:=.obj P1) (ρ:= ρ) rfl (fun k hk=>by simp at hk) h3 fun o ho=>g2.same o (e8 k _ q1 q2 q3 o ho).1 (e8 k _ q1 q2 q3 o ho).2
        |rows T1 ys cs=>
         exfalso;have:=(wd q3)
         have hmy:memN ky k=true:=by
          have h5:=this.1;rw [qif,q2,Bool.false_or] at h5;exact h5
         obtain⟨z,T2,ys2,q⟩:=qu1 mb k hmy;rw [this.2] at q;simp at q
      ·rcases key k r1 q1 with⟨rfl,rfl⟩ | ⟨f1,f2,f3⟩
       ·rcases key k' r2 q2 with⟨rfl,rfl⟩ | ⟨e1,e2,e3⟩
        ·exact b9 rfl
        ·rw [ve] at ho
         rw [ye _ _ e1] at d7;exact (e8 k' r2 e1 e2 e3 o d7).1 (g4 o ho)
       ·rw [ye _ _ f1] at ho
        rcases key k' r2 q2 with⟨rfl,rfl⟩ | ⟨e1,e2,e3⟩
        ·rw [ve] at d7
         exact (e8 k r1 f1 f2 f3 o ho).1 (g4 o d7)
        ·rw [ye _ _ e1] at d7
         exact hS.sep k k' r1 r2 b9 f3 e3 o ho d7
      ·refine g2.same j (fun e=>?_) hj
       subst e;rcases g3 with g3|g3
       ·obtain⟨b,p6,cn⟩:=hl j (by rw [g3];rfl)
        obtain⟨r2,hr2⟩:=hresE b p6;exact b9 b r2 hr2 cn
       ·omega
      ·rcases key k r hk with⟨rfl,rfl⟩ | ⟨q1,q2,q3⟩
       ·rw [ve] at ho
        have:=g4 o ho;subst this;rcases g3 with g3|g3
        ·obtain⟨b,p6,cn⟩:=hl o (by rw [g3];rfl)
         obtain⟨r2,hr2⟩:=hresE b p6;exact .inr ⟨b,r2,hr2,cn⟩
        ·exact .inl g3
       ·rw [ye _ _ q1] at ho
        exact .inr ⟨k,r,q3,ho⟩
    ·exact h.elim
   ·exact h.elim
  ·exact h.elim
 ·exact h.elim
end
end Go.Av
namespace Go.Av
open Go Go.RowKit
structure zgr (E:Env) (f:FuncId):Prop where
 run:∀ vs w,(callFunc f vs).run E.P w = .ok (.enter f vs) w
def j8 (E:Env) (f:FuncId) (vs:List SV) (nx:Nat) (H:Nat→Option SR) (e:Ef):Prop:=
 ∀ (ρ : Nat→AV) (S:List AObj),SatF S ρ (resF e.ks H)→qn E f (SV.evs ρ vs) S fun r S'=>∃ ρ',r=e.val.ev ρ'∧qgx ρ S nx H e ρ' S'
def nums:Nat→List (Nat×SV)→Bool
 | _,[]=>true
 |i,(j,_)::r=>Nat.beq j i && nums (i+1) r
section
variable {E : Env} {N : Nat} {ops : Array Oper} {nx : Nat} {sl : List (Nat × SV)} {H : Nat → Option SR} {k : Ef → Prop} {d : Option Tmp} {T : TypeId} {p : String} {af : Array Edge}
theorem qwz {f:FuncId} {xs ys:List AV} {st:List AObj} {R:AV→List AObj→Prop} (hl:xs.length=ys.length) (hw:∀ (i:Nat) (x y:AV),xs[i]? = some x→ys[i]? = some y→Wk x y) (h:qn E f ys st R):qn E f xs st R:=
 ⟨fun B0 w0 G vals w hL hA hR=>h.run B0 w0 G vals w hL hA ⟨by rw [← hl];exact hR.1,fun i a b ha hb=>by
  have hi:=lt_of_getElem? ha;have hx:xs[i]? = some (xs[i]'(by omega)):=List.getElem?_eq_getElem (by omega)
  exact hw i _ a hx ha G b (hR.2 i _ b hx hb)⟩⟩
def parT (P:Program) (f:FuncId):List TypeId:=match P.funcs[f]? with
 |some fn=>fn.params.toList
 |none=>[]
def qwr (P:Program) (f:FuncId):Option (List AV)→Option (List AV)
 |some xs=>some (zipT P (parT P f) xs)
 |none=>none
theorem zdi {f:FuncId} {vs:List SV} {args:List AV} {r0:AV} (hc:∀ S,qn E f args S fun r S'=>r=r0∧S'=S) (ha:qwr E.P f (frzs (resF (SV.kss vs) H) vs)=some args):j8 E f vs nx H ⟨nf r0,SV.kss vs,[],nx⟩:=fun ρ S hS=>by
 cases hf:frzs (resF (SV.kss vs) H) vs with
 |none=>rw [hf] at ha;simp [qwr] at ha
 |some xs=>
 rw [hf] at ha;simp only [qwr,Option.some.injEq] at ha;obtain⟨h1,h2⟩:=qed hS vs xs hf;obtain⟨h3,h4⟩:=q3k E.P (parT E.P f) xs;rw [ha] at h3 h4;refine qwz (h1.trans h3) (fun i x y hx hy=>?_) ((hc S).mono ?_)
 ·have hi:i<xs.length:=by rw [← h1];exact lt_of_getElem? hx
  have hz:xs[i]? = some xs[i]:=List.getElem?_eq_getElem hi;exact fun G v hv=>h4 i _ y hz hy G v (h2 i x _ hx hz G v hv)
 rintro r S' ⟨rfl,rfl⟩;exact⟨ρ,(qli ρ _).symm,fun _ _=>rfl,⟨fun k r hk=>hS.ok k r hk,fun k k' r r' b9 h1 h2=>hS.sep k k' r r' b9 h1 h2⟩,Nat.le_refl _,fun _ _ _=>rfl,fun k r hk o ho=>.inr ⟨k,r,hk,ho⟩⟩
def fnOf:SV→Option (FuncId×List SV×List SV)
 | .fn (.func f) a b=>some (f,a,b)
 | .a (.fn (.func f) a b)=>some (f,nfs a,nfs b)
 | _=>none
theorem zdy {v:SV} {f:FuncId} {a b:List SV} (h:fnOf v=some (f,a,b)) (ρ : Nat→AV):v.ev ρ = .fn (.func f) (SV.evs ρ a) (SV.evs ρ b):=by
 unfold fnOf at h;split at h
 ·simp only [Option.some.injEq,Prod.mk.injEq] at h;obtain⟨rfl,rfl,rfl⟩:=h;rfl
 ·simp only [Option.some.injEq,Prod.mk.injEq] at h;obtain⟨rfl,rfl,rfl⟩:=h;simp only [SV.ev,qig]
 ·simp at h
def q35 (E:Env) (N:Nat) (sl:List (Nat×SV)) (H:Nat→Option SR) (nx:Nat) (k:Ef→Prop) (x:Operand) (xs:Array Operand):Prop:=
 match sval N sl x,ql0 N sl xs.toList with
 |some v,some vs=>(match fnOf v with
  |some (f,a,b)=>zgr E f∧∃ e,j8 E f (a++(vs++b)) nx H e∧k e
  |none=>False)
 | _,_=>False
theorem zdf {x:Operand} {xs:Array Operand} {ts:Array TypeId} (h:q35 E N sl H nx k x xs):∃ e,Loc E N ops ⟨d,.call ⟨.value x,xs,ts⟩,T,p,af,none⟩ nx sl H e∧k e:=by
 unfold q35 at h;split at h
 ·rename_i v vs hv hvs
  split at h
  ·rename_i f a b hf
   obtain⟨hE,e,hc,h⟩:=h;refine⟨e,fun df rd K rest ρ t S hs hS hk=>q3p ((qv hs hv).trans (zdy hf ρ)) hE.run ?_,h⟩;have:=hc ρ S hS;rw [ql1 hs hvs];have he:SV.evs ρ (a++(vs++b))=SV.evs ρ a++SV.evs ρ vs++SV.evs ρ b:=by simp [wi]
   rw [he] at this;refine this.mono ?_;rintro r S' ⟨ρ',rfl,hp⟩;exact hk ρ' S' hp
  ·exact h.elim
 ·exact h.elim
def bslW (P:Program) (N:Nat) (bxs:List Nat) (d:Option Tmp) (sl:List (Nat×SV)) (H:Nat→Option SR) (nx:Nat) (k:Ef→Prop) (t:TypeId) (len:Nat) (parts:Array (Nat×Operand)):Prop:=
 match elT (P.underlying t) with
 |some e=>(match tyOf P e,qfb P e len,qoj N sl parts.toList with
  |some (sz,_),some zs,some ps=>(match len with
   | 0=>(match ps with
    | []=>k ⟨.tp nx,[],[(nx,some (.tip sz e []))],nx+1⟩
    | _=>False)
   |len=>bif qsc bxs d then (bif ps.all (fun q=>q.2.all fun _=>false) && nums 0 ps && Nat.beq ps.length len && (SV.evs (fun _=>zj) (ps.map Prod.snd)).all (fun y=>y.okc && Nat.beq y.cells.length sz) && Nat.beq zs.length (len * sz) && Nat.ble (len * sz) 16777216 && Nat.blt 0 len && Nat.ble len 16777216 then
     k ⟨.tp nx,[],[(nx,some (.tip sz e (SV.evs (fun _=>zj) (ps.map Prod.snd))))],nx+1⟩ else False) else (match frzs (resF (SV.kss (ps.map Prod.snd)) H) (ps.map Prod.snd) with
    |some ys=>q42 P e ys fun ys=>fcN sz fun sz=>bif nums 0 ps && Nat.beq ys.length len && ys.all (fun y=>y.okc && Nat.beq y.cells.length sz) && Nat.beq zs.length (len * sz) && Nat.ble (len * sz) 16777216 then k ⟨.a (.sl sz ys none),SV.kss (ps.map Prod.snd),[],nx⟩ else False
    |none=>False))
  | _,_,_=>False)
 |none=>False
theorem qza:∀ {ps:List (Nat×SV)} {i0:Nat} {ys:List AV},nums i0 ps=true→ps.length=ys.length→∀ (i:Nat) (q:Nat×SV) (r:Nat×AV),ps[i]? = some q→(jd i0 ys)[i]? = some r→q.1=r.1∧(ps.map Prod.snd)[i]? = some q.2∧ys[i]? = some r.2
 | [],_,_,_,_,i,_,_,h,_=>by simp at h
 |(j,v)::ps,i0,[],_,hl,_,_,_,_,_=>by simp at hl
 |(j,v)::ps,i0,y::ys,h,hl,i,q,r,hq,hr=>by
  simp only [nums,Bool.and_eq_true] at h;simp only [jd] at hr
  cases i with
  |zero=>
   simp only [List.getElem?_cons_zero,Option.some.injEq] at hq hr;subst hq;subst hr
   exact⟨Nat.eq_of_beq_eq_true h.1,rfl,rfl⟩
  |succ i=>
   have:=qza h.2 (by simpa using hl) i q r (by simpa using hq) (by simpa using hr)
   simpa using this
theorem qnk {α : Type}:∀ (l:List α) (i:Nat),(jd i l).length=l.length
 | [],_=>rfl
 |x::r,i=>by simp [jd,qnk r]
theorem q8i (t:Nat→AV) (i:Nat) (a b:AV):put (put t i a) i b=put t i b:=by
 funext j;by_cases h:j=i
 ·subst h;rw [wz,wz]
 ·rw [y3 _ _ _ _ h,y3 _ _ _ _ h,y3 _ _ _ _ h]
theorem qnl:∀ (ps:List (Nat×SV)) (i:Nat),nums i ps=true→(ps.map fun q=>(q.1,q.2.ev fun _=>zj))=jd i (SV.evs (fun _=>zj) (ps.map Prod.snd))
 | [],_,_=>rfl
 |(j,v)::r,i,h=>by
  simp only [nums,Bool.and_eq_true] at h;simp only [List.map_cons,SV.evs,jd,qnl r (i+1) h.2];rw [Nat.eq_of_beq_eq_true h.1]
theorem zfi {bxs:List Nat} {t:TypeId} {len:Nat} {parts:Array (Nat×Operand)} (h:bslW E.P N bxs d sl H nx k t len parts):∃ e,Loc E N ops ⟨d,.buildSlice t len parts,T,p,af,none⟩ nx sl H e∧k e:=by
 unfold bslW at h;split at h
 ·rename_i e he
  split at h
  ·rename_i sz agg zs ps ht hz hp
   split at h
   ·split at h
    ·refine⟨_,qkg (fun k r hk=>by rw [qik] at hk;simp at hk) fun df rd K rest ρ t' S hs _ hk=>?_,h⟩
     have mj:vz N ⟨t',S,df⟩ parts=[]:=by unfold vz;rw [qim hs hp];rfl
     have p7:zs=[]:=by
      unfold qfb at hz;split at hz
      ·simp at hz;exact hz
      ·simp at hz
     subst p7;refine qbv (loc:=[]) (st:=S) (by simp) (qct he) ht hz (by rw [mj];rfl) (by simp) ?_;have:=hk (.os S.length 0 0 0 0) [.cells 0 e []] (.inr ⟨rfl,_,_,_,rfl⟩) (fun o ho=>by simp [zm] at ho)
     simpa [SV.ev,ve,tpAt,AV.one] using this
    ·exact h.elim
   ·rename_i b9
    cases p8:qsc bxs d with
    |true=>
     rw [p8] at h;simp only [cond_true] at h
     cases hc:(ps.all (fun q=>q.2.all fun _=>false) && nums 0 ps && Nat.beq ps.length len && (SV.evs (fun _=>zj) (ps.map Prod.snd)).all (fun y=>y.okc && Nat.beq y.cells.length sz) && Nat.beq zs.length (len * sz) && Nat.ble (len * sz) 16777216 && Nat.blt 0 len && Nat.ble len 16777216) with
     |false=>rw [hc] at h;exact h.elim
     |true=>
      rw [hc] at h;simp only [Bool.and_eq_true] at hc;obtain⟨⟨⟨⟨⟨⟨⟨c0,c1⟩,c2⟩,c3⟩,c4⟩,c5⟩,c6⟩,c7⟩:=hc;have c2:=Nat.eq_of_beq_eq_true c2;have c4:=Nat.eq_of_beq_eq_true c4;have hyl:(SV.evs (fun _=>zj) (ps.map Prod.snd)).length=len:=by rw [wi];simpa using c2
      have c3:∀ y∈SV.evs (fun _=>zj) (ps.map Prod.snd),y.okc=true∧y.cells.length=sz:=fun y hy=>by
       have:=List.all_eq_true.1 c3 y hy;simp only [Bool.and_eq_true] at this;exact⟨this.1,Nat.eq_of_beq_eq_true this.2⟩
      refine⟨_,qkg (fun k r hk=>by rw [qik] at hk;simp at hk) fun df rd K rest ρ t' S hs _ hk=>?_,h⟩
      have hev:(ps.map fun q=>(q.1,q.2.ev ρ))=jd 0 (SV.evs (fun _=>zj) (ps.map Prod.snd)):=by
       rw [← qnl ps 0 c1];refine List.map_congr_left fun q hq=>?_;rw [yy (f:=fun _=>false) (ρ:=fun _=>zj) (ρ':= ρ) (fun k hk=>by simp at hk) q.2 (List.all_eq_true.1 c0 q hq)]
      have mj:vz N ⟨t',S,df⟩ parts=jd 0 (SV.evs (fun _=>zj) (ps.map Prod.snd)):=by rw [← hev];unfold vz;exact qim hs hp
      have hfill:=qp2 (sz:=sz) _ 0 [] zs c3 (by simp) (by rw [c4,hyl]);have p7:(flat (SV.evs (fun _=>zj) (ps.map Prod.snd))).length=len * sz:=by rw [z6 fun x hx=>(c3 x hx).2,hyl]
      refine qbv (loc:=[]) (st:=S) (by simp) (qct he) ht hz (by rw [mj];simpa using hfill) c5 ?_
      cases d with
      |none=>simp [qsc] at p8
      |some x=>
       refine q3t x (o:=S.length) (sz:=sz) (len:=len) (cap:=len) (T':=e) (xs:=SV.evs (fun _=>zj) (ps.map Prod.snd)) (by simp [AS.put,wz]) (by simp [AS.put]) p7 hyl (ku c6) (Nat.le_refl _) (by have:=Nat.le_of_ble_eq_true c7;simp only [maxLen];omega) (fun x hx=>(c3 x hx).2) (by rw [← p7,List.take_length]) ?_;have:=hk (.sl sz (SV.evs (fun _=>zj) (ps.map Prod.snd)) (some S.length)) [.tip len sz e] (.inl (.inr ⟨S.length,rfl,by rw [hyl];exact xc,Nat.zero_le _⟩)) (fun o ho=>by simp only [zm,Option.some.injEq] at ho;omega);simp only [SV.ev,ve,tpAt,AV.one,cond_true,AS.put] at this
       simpa [AS.put,q8i] using this
    |false=>
    rw [p8] at h;simp only [cond_false] at h;split at h
    ·rename_i ys0 hys
     obtain⟨ys,hyn,h⟩:=qy6 h;rw [qm2] at h
     cases hc:(nums 0 ps && Nat.beq ys.length len && ys.all (fun y=>y.okc && Nat.beq y.cells.length sz) && Nat.beq zs.length (len * sz) && Nat.ble (len * sz) 16777216) with
     |false=>rw [hc] at h;exact h.elim
     |true=>
      rw [hc] at h;simp only [Bool.and_eq_true] at hc;obtain⟨⟨⟨⟨c1,c2⟩,c3⟩,c4⟩,c5⟩:=hc;have c2:=Nat.eq_of_beq_eq_true c2;have c4:=Nat.eq_of_beq_eq_true c4
      have c3:∀ y∈ys,y.okc=true∧y.cells.length=sz:=fun y hy=>by
       have:=List.all_eq_true.1 c3 y hy;simp only [Bool.and_eq_true] at this;exact⟨this.1,Nat.eq_of_beq_eq_true this.2⟩
      refine⟨_,xz (v:=.a (.sl sz ys none)) fun df rd K rest ρ t' S hs hS hk=>?_,h⟩;obtain⟨w1,w2⟩:=qed hS _ _ hys;have hlp:ps.length=ys.length:=by rw [← hyn.1,← w1];simp [wi]
      have mj:vz N ⟨t',S,df⟩ parts=ps.map fun q=>(q.1,q.2.ev ρ):=by unfold vz;exact qim hs hp
      have hfill:=qp2 (sz:=sz) ys 0 [] zs c3 (by simp) (by rw [c4,c2]);refine qpr (jd 0 ys) (by rw [mj,qnk];simpa using hlp) (fun i q r hq hr=>?_) (qct he) ht hz (by simpa using hfill) c2 (by simp) (fun x hx=>(c3 x hx).2) c5 hk;rw [mj,List.getElem?_map] at hq
      cases hpi:ps[i]? with
      |none=>rw [hpi] at hq;simp at hq
      |some q'=>
       rw [hpi] at hq;simp only [Option.map_some,Option.some.injEq] at hq;subst hq;obtain⟨g1,g2,g3⟩:=qza c1 hlp i q' r hpi hr;have hi:i<ys0.length:=by rw [hyn.1];exact lt_of_getElem? g3
       have hy0:ys0[i]? = some ys0[i]:=List.getElem?_eq_getElem hi;exact⟨g1,fun G v hv=>hyn.2 i _ _ hy0 g3 G v (w2 i _ _ (by rw [wi,List.getElem?_map,g2];rfl) hy0 G v hv)⟩
    ·exact h.elim
  ·exact h.elim
 ·exact h.elim
def mmW (nx:Nat) (k:Ef→Prop) (f:Int→Int→Int):Option SV→Option SV→Prop
 |some a,some b=>(match qe0 a,qe0 b with
  |some (.i64,m),some (.i64,n)=>k (wc nx (.i (f m n)))
  | _,_=>False)
 | _,_=>False
theorem zf2 {ts:Array TypeId} {x y:Operand} (h:mmW nx k min (sval N sl x) (sval N sl y)):∃ e,Loc E N ops ⟨d,.call ⟨.builtin .min,#[x,y],ts⟩,T,p,af,none⟩ nx sl H e∧k e:=by
 unfold mmW at h;split at h
 ·rename_i a b ha hb
  split at h
  ·rename_i m n hm hn
   exact⟨_,jc (v:=.i (min m n)) fun df rd K rest ρ t' S hs hk=>z4 (.int .i64 (min m n)) rfl nofun (fun a w he=>by
    have e1:=he _ _ ((qv hs ha).trans (qb5 hm ρ));have e2:=he _ _ ((qv hs hb).trans (qb5 hn ρ));have e:min m n=if n<m then n else m:=by simp only [Int.min_def];split <;> split <;> omega
    simp [execOp,resolve,invoke,builtin,Builtin.min_,Builtin.min2,e1,e2,e]) hk,h⟩
  ·exact h.elim
 ·exact h.elim
theorem zf1 {ts:Array TypeId} {x y:Operand} (h:mmW nx k max (sval N sl x) (sval N sl y)):∃ e,Loc E N ops ⟨d,.call ⟨.builtin .max,#[x,y],ts⟩,T,p,af,none⟩ nx sl H e∧k e:=by
 unfold mmW at h;split at h
 ·rename_i a b ha hb
  split at h
  ·rename_i m n hm hn
   exact⟨_,jc (v:=.i (max m n)) fun df rd K rest ρ t' S hs hk=>z4 (.int .i64 (max m n)) rfl nofun (fun a w he=>by
    have e1:=he _ _ ((qv hs ha).trans (qb5 hm ρ));have e2:=he _ _ ((qv hs hb).trans (qb5 hn ρ));have e:max m n=if n > m then n else m:=by simp only [Int.max_def];split <;> split <;> omega
    simp [execOp,resolve,invoke,builtin,Builtin.max_,Builtin.max2,e1,e2,e]) hk,h⟩
  ·exact h.elim
 ·exact h.elim
def qww (H:Nat→Option SR):Option SV→Bool
 |some (.tp b)=>(match H b with
  |some (.own _ _ _)=>true
  |some (.obj _)=>true
  |some (.rows _ _ _)=>true
  | _=>false)
 |some (.bx b _)=>(match H b with
  |some (.own _ _ _)=>true
  |some (.obj _)=>true
  |some (.rows _ _ _)=>true
  | _=>false)
 | _=>false
def zgx (H:Nat→Option SR):Option SV→Bool
 |some (.tp b)=>(match H b with
  |some (.obj _)=>true
  | _=>false)
 | _=>false
def orW (c:Bool) (x y:Prop):Prop:=
 match c with
 |true=>x
 |false=>y
theorem qih {c:Bool} {x y:Prop} (h:orW c x y) (hy:y→x):x:=by
 cases c with
 |true=>exact h
 |false=>exact hy h
def oddT (u:Option TypeDesc) (y:Operand):Bool:=
 match u with
 |some (.struct _)=>true
 |some (.array _ _)=>true
 |some (.interface _)=>(match y with
  | .const .nilIface=>false
  | _=>true)
 | _=>false
def oddB (P:Program) (op:BinOp) (t:TypeId) (y:Operand):Bool:=
 match op with
 | .and=>true
 | .or=>true
 | .xor=>true
 | .shl=>true
 | .shr=>true
 | .andNot=>true
 | .eql=>oddT (P.underlying t) y
 | .neq=>oddT (P.underlying t) y
 | _=>false
def slT:Option TypeDesc→Bool
 |some (.slice _)=>true
 | _=>false
def opW (E:Env) (N:Nat) (ops:Array Oper) (bxs:List Nat) (nx:Nat) (sl:List (Nat×SV)) (H:Nat→Option SR) (k:Ef→Prop) (o:Oper):Prop:=
 match o.op with
 | .move x=>mvW nx k (sval N sl x)
 | .assign x=>mvW nx k (sval N sl x)
 | .pick c x y=>q45 N sl nx k c x y
 | .alloc t=>qw6 E.P nx k t
 | .box t x=>boxW bxs H nx k o.dst t (sval N sl x)
 | .build t ps=>qxt E.P N sl nx k t ps
 | .buildSlice t len ps=>bslW E.P N bxs o.dst sl H nx k t len ps
 | .load t x=>orW (qww H (sval N sl x)) (∃ e,Loc E N ops o nx sl H e∧k e) (q4x E.P H nx k t (sval N sl x))
 | .store t x y=>orW (qww H (sval N sl x)) (∃ e,Loc E N ops o nx sl H e∧k e) (qz8 E.P H nx k t (sval N sl x) (sval N sl y))
 | .nilCheck x=>qy3 nx k (sval N sl x)
 | .binOp op t x y _=>orW (oddB E.P op t y) (∃ e,Loc E N ops o nx sl H e∧k e) (match sval N sl x,sval N sl y with
  |some vx,some vy=>binW E.P op t y (fun v=>k (wc nx v)) vx vy
  | _,_=>False)
 | .unOp .not _ x=>notW nx k (sval N sl x)
 | .convert t t' x=>orW (slT (E.P.underlying t) ||slT (E.P.underlying t')) (∃ e,Loc E N ops o nx sl H e∧k e) (q39 E.P t t' nx k (sval N sl x))
 | .makeInterface t x=>qyy E.P t nx k (sval N sl x)
 | .makeFunc fn xs ys=>q4z N sl fn xs ys nx k
 | .slice t x lo hi none=>qz5 E.P N sl H nx k t x lo hi
 | .fieldAddr t x f=>qk2 E.P t f nx k (sval N sl x)
 | .field t x f=>qyc E.P t f nx k (sval N sl x)
 | .indexAddr t x y=>orW (qww H (sval N sl x)) (∃ e,Loc E N ops o nx sl H e∧k e) (qk7 E.P N sl H nx k t x y)
 | .index t x y=>qyq E.P N sl nx k t x y
 | .extract x i=>qp1 i nx k (sval N sl x)
 | .call c=>(match c.callee,c.args,c.argTypes with
  | .value x,xs,_=>q35 E N sl H nx k x xs
  | .builtin .len,⟨[x]⟩,⟨t::_⟩=>orW (zgx H (sval N sl x)) (∃ e,Loc E N ops o nx sl H e∧k e) (lenW E.P H nx k t (sval N sl x))
  | .builtin .append,⟨[x,y]⟩,⟨[t,u]⟩=>orW (qww H (sval N sl x)) (∃ e,Loc E N ops o nx sl H e∧k e) (appW E.P H nx k t u (sval N sl x) (sval N sl y))
  | .builtin .min,⟨[x,y]⟩,_=>mmW nx k min (sval N sl x) (sval N sl y)
  | .builtin .max,⟨[x,y]⟩,_=>mmW nx k max (sval N sl x) (sval N sl y)
  | _,_,_=>∃ e,Loc E N ops o nx sl H e∧k e)
 | _=>∃ e,Loc E N ops o nx sl H e∧k e
theorem q76 {bxs:List Nat} {o:Oper} (hg:o.guard=none) (h:opW E N ops bxs nx sl H k o):∃ e,Loc E N ops o nx sl H e∧k e:=by
 obtain⟨d,op,T,p,af,g⟩:=o;subst hg;unfold opW at h;split at h
 ·rename_i he;simp only at he;subst he;exact zef h
 ·rename_i he;simp only at he;subst he;exact q58 h
 ·rename_i he;simp only at he;subst he;exact zen h
 ·rename_i he;simp only at he;subst he;exact q9p h
 ·rename_i he;simp only at he;subst he;exact zfh h
 ·rename_i he;simp only at he;subst he;exact q95 h
 ·rename_i he;simp only at he;subst he;exact zfi h
 ·rename_i he;simp only at he;subst he;exact qih h zea
 ·rename_i he;simp only at he;subst he;exact qih h zcb
 ·rename_i he;simp only at he;subst he;exact zbf h
 ·rename_i he
  simp only at he;subst he;refine qih h fun h=>?_;split at h
  ·rename_i hx hy
   obtain⟨v,hv,hk⟩:=zfg hx hy h;exact⟨_,jc hv,hk⟩
  ·exact h.elim
 ·rename_i he;simp only at he;subst he;exact zf4 h
 ·rename_i he;simp only at he;subst he;exact qih h zdh
 ·rename_i he;simp only at he;subst he;exact zbd h
 ·rename_i he;simp only at he;subst he;exact zee h
 ·rename_i he;simp only at he;subst he;exact zb8 h
 ·rename_i he;simp only at he;subst he;exact qyb h
 ·rename_i he;simp only at he;subst he;exact zar h
 ·rename_i he;simp only at he;subst he;exact qih h qyp
 ·rename_i he;simp only at he;subst he;exact za0 h
 ·rename_i he;simp only at he;subst he;exact q4m h
 ·rename_i c he
  simp only at he;subst he;obtain⟨cl,xs,ts⟩:=c;split at h
  ·rename_i e1;simp only at e1;subst e1;exact zdf h
  ·rename_i e1 e2 e3;simp only at e1 e2 e3;subst e1;subst e2;subst e3;exact qih h (zfy rfl)
  ·rename_i e1 e2 e3;simp only at e1 e2 e3;subst e1;subst e2;subst e3;exact qih h ze9
  ·rename_i e1 e2;simp only at e1 e2;subst e1;subst e2;exact zf2 h
  ·rename_i e1 e2;simp only at e1 e2;subst e1;subst e2;exact zf1 h
  ·exact h
 ·exact h
end
end Go.Av
