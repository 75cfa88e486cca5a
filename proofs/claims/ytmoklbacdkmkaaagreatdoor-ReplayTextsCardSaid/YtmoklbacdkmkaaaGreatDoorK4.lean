/- Contracts and plain facts that the closing text leans on (part 4). No condition of their own beyond those that each states. -/
import Derived.Test.YtmoklbacdkmkaaaGreatDoorK3
set_option maxRecDepth 100000
set_option linter.unusedVariables false
set_option linter.unusedSimpArgs false
namespace Go.Av
open Go Go.RowKit
inductive Vec (sz:Nat) (T:TypeId) (o:Nat) (xs:List AV):AV→AObj→Prop
 |nil (h:xs=[]):Vec sz T o xs zk (.tip 0 sz T)
 |os (ver cap:Nat) (pad:List AV) (hl:(flat xs++pad).length=cap * sz) (hw:∀ x∈xs,x.cells.length=sz) (hle:xs.length≤cap) (hcm:cap≤maxLen):Vec sz T o xs (.os o ver 0 xs.length cap) (.cells ver T (flat xs++pad))
section
variable {B0 : Nat} {w0 : World} {G : Gh} {st : List AObj} {w : World}
theorem zi.setCells (h:zi B0 w0 G st w) {t k cap v':Nat} {T:TypeId} {cs:List AV} (ht:st[t]? = some .dead) (hraw:(G.ob t).raw=false) (hver:(G.ob t).ver<v')
  {c:Array Value} (hc:w.heap[k]? = some (.cells c T (0,0))) (hp:G.pub k=none) (hl:cs.length=c.size) (hr:∀ (i:Nat) (x:AV) (y:Value),cs[i]? = some x→c[i]? = some y→Rel G x y) (hk:B0≤k) (hs:∀ o x,st[o]? = some x→x.live→(G.ob o).blk≠k) :
  G.le (G.setOb t ⟨v',k,cap,false⟩)∧zi B0 w0 (G.setOb t ⟨v',k,cap,false⟩) (st.set t (.cells v' T cs)) w:=by
 have hle:=G.le_setOb t ⟨v',k,cap,false⟩ hver hraw
 have hob:∀ o,o≠t→(G.setOb t ⟨v',k,cap,false⟩).ob o=G.ob o:=fun o ho=>by simp [Gh.setOb,ho]
 have hobt:(G.setOb t ⟨v',k,cap,false⟩).ob t=⟨v',k,cap,false⟩:=by simp [Gh.setOb]
 refine⟨hle,h.below,h.hB,by simp [h.n,Gh.setOb],h.pub,fun o x hx=>?_,fun o o' x x' hne hx hx' hl1 hl2=>?_⟩
 ·rcases getElem?_set' _ _ _ _ _ hx with⟨rfl,rfl⟩ | ⟨ho,hx⟩
  ·exact⟨by rw [hobt],by rw [hobt],by rw [hobt];exact hk,by rw [hobt];exact hp,c,by rw [hobt];exact hc,hl,fun i x y h1 h2=>(hr i x y h1 h2).mono hle⟩
  ·exact (h.ob o x hx).mono hle (hob o ho) (fun _=>rfl) (fun _=>rfl)
 ·rcases getElem?_set' _ _ _ _ _ hx with⟨e1,e2⟩ | ⟨ho,hx⟩
  ·rcases getElem?_set' _ _ _ _ _ hx' with⟨e3,_⟩ | ⟨ho',hx'⟩
   ·exact absurd (e1.trans e3.symm) hne
   ·rw [e1,hobt,hob o' ho']
    exact (hs o' x' hx' hl2).symm
  ·rcases getElem?_set' _ _ _ _ _ hx' with⟨e3,_⟩ | ⟨ho',hx'⟩
   ·rw [e3,hobt,hob o ho]
    exact hs o x hx hl1
   ·rw [hob o ho,hob o' ho']
    exact h.sep o o' x x' hne hx hx' hl1 hl2
theorem qas {G:Gh} {cs ds:List AV} {vs us:List Value} (hl:cs.length=vs.length) (h1:∀ (i:Nat) (x:AV) (y:Value),cs[i]? = some x→vs[i]? = some y→Rel G x y) (h2:∀ (i:Nat) (x:AV) (y:Value),ds[i]? = some x→us[i]? = some y→Rel G x y) :
  ∀ (i:Nat) (x:AV) (y:Value),(cs++ds)[i]? = some x→(vs++us)[i]? = some y→Rel G x y:=fun i x y hx hy=>by
 by_cases hi:i<cs.length
 ·rw [List.getElem?_append_left hi] at hx
  rw [List.getElem?_append_left (by omega)] at hy
  exact h1 i x y hx hy
 ·rw [List.getElem?_append_right (by omega)] at hx
  rw [List.getElem?_append_right (by omega),← hl] at hy
  exact h2 _ x y hx hy
theorem qmy {P:Program} (hA:zi B0 w0 G st w) {tt u ty T:TypeId} {du:TypeDesc} (htt:P.underlying tt=some (.slice T)) (hu:P.underlying u=some du) (hd:qil du)
  {sz bytes:Nat} (hT:x7 P T sz bytes) {o:Nat} {xs ys:List AV} {a:AV} {ob:AObj} {v x:Value} (hV:Vec sz T o xs a ob) (ho:st[o]? = some ob) (hv:Rel G a v)
  {news:List Value} (hx:Src P w x ys.length sz news) (hys:∀ y∈ys,y.cells.length=sz) (hrel:∀ (i:Nat) (a:AV) (b:Value),(flat ys)[i]? = some a→news[i]? = some b→Rel G a b)
  (h63:xs.length+ys.length≤maxLen) (hbytes:(xs.length+ys.length) * bytes≤140737488355328) :
  ∃ v' w' G' a' ob',(Builtin.append_ #[tt,u] ty #[v,x]).run P w = .ok v' w'∧G.le G'∧zi B0 w0 G' (st.set o ob') w'∧Rel G' a' v'∧Vec sz T o (xs++ys) a' ob':=by
 obtain⟨i,z,hi,hz,rfl,rfl,hzs⟩:=hT.ex
 have hon:=lt_of_getElem? ho
 have htn:o<G.n:=by rw [hA.n];exact hon
 have hraw:(G.ob o).raw=false:=by
  have:=hA.ob o _ ho
  cases hV with
  |nil h=>exact this.1
  |os=>exact this.1
 have hk:=hA.kill o
 have hkt:(st.set o .dead)[o]? = some .dead:=qaz ho
 have hother:∀ k x,(st.set o .dead)[k]? = some x→x.live→k≠o∧st[k]? = some x:=fun k x hx hl=>by
  rcases getElem?_set' _ _ _ _ _ hx with⟨_,e⟩ | ⟨h1,h2⟩
  ·subst e;exact hl.elim
  ·exact⟨h1,h2⟩
 have hself:st.set o ob=st:=by
  apply List.ext_getElem?
  intro k
  by_cases e:o=k
  ·subst e;rw [List.getElem?_set_self hon];exact ho.symm
  ·rw [List.getElem?_set_ne e]
 have hfy:(flat ys).length=ys.length * i.size:=zr hys
 have grow:∀ (base:Option Addr) (c:Nat) (olds:List Value),(Builtin.firstCells i.size xs.length (.slice base xs.length c)).run P w.drew = .ok olds.toArray w.drew→c<xs.length+ys.length→olds.length=xs.length * i.size→(∀ x∈xs,x.cells.length=i.size) →
   (∀ (j:Nat) (a:AV) (b:Value),(flat xs)[j]? = some a→olds[j]? = some b→Rel G a b)→Builtin.nextslicecap (xs.length+ys.length) c * i.bytes≤281474976710656 →
   ∃ v' w' G' a' ob',(Builtin.append_ #[tt,u] ty #[.slice base xs.length c,x]).run P w = .ok v' w'∧G.le G'∧zi B0 w0 G' (st.set o ob') w'∧Rel G' a' v'∧Vec i.size T o (xs++ys) a' ob':=by
  intro base c olds hold hc hol hwx hrx hfit
  have hfx:(flat xs).length=xs.length * i.size:=zr hwx
  have hrun:=qf3 (ty:=ty) htt hu hd hi hz hx base xs.length c olds hold hc (by simp only [maxLen] at h63;omega) hfit
  have hge:=grownCap_ge w (xs.length+ys.length) c T
  have hle:=grownCap_le_maxLen w (xs.length+ys.length) c T h63
  generalize grownCap w (xs.length+ys.length) c T=cap at hrun hge hle
  generalize hzc:(Builtin.zeroCells z.cells (cap - (xs.length+ys.length)))=zc at hrun
  have hzl:zc.size=(cap - (xs.length+ys.length)) * i.size:=by rw [← hzc,size_zeroCells,hzs]
  have hdrew:Below w.heap.size w w.drew:=⟨rfl,rfl,rfl,Nat.le_refl _,fun _ _=>rfl⟩
  have hcl:(flat (xs++ys)++zc.toList.map AV.v).length=(olds.toArray++news.toArray++zc).size:=by
   rw [xu]
   simp [hfx,hfy,hol,hx.count]
   omega
  have hA1:=(hk.fresh hdrew).fresh (w':=w.drew.alloc (.cells (olds.toArray++news.toArray++zc) T)) ⟨rfl,rfl,rfl,by simp [World.alloc],fun b hb=>y0 _ _ _ hb⟩
  have hnp:G.pub w.heap.size=none:=by
   cases hp:G.pub w.heap.size with
   |none=>rfl
   |some vs=>exact absurd (hA.pub_lt hp) (Nat.lt_irrefl _)
  obtain⟨hle2,hA2⟩:=hA1.setCells (t:=o) (k:=w.heap.size) (cap:=0) (v':=(G.ob o).ver+1) (T:=T) (cs:=flat (xs++ys)++zc.toList.map AV.v) hkt hraw (Nat.lt_succ_self _) (yz w.drew _) hnp hcl (by
   have h1:=qas (G:=G) (cs:=flat xs) (ds:=flat ys) (vs:=olds) (us:=news) (by omega) hrx hrel
   have h2:=qas (G:=G) (cs:=flat xs++flat ys) (ds:=zc.toList.map AV.v) (vs:=olds++news) (us:=zc.toList) (by simp [hfx,hfy,hol,hx.count]) h1 (fun j a b h1 h2=>by
    rw [List.getElem?_map,h2] at h1
    simp at h1
    subst h1
    exact .v _)
   rw [xu]
   intro j a b g1 g2
   exact h2 j a b g1 (by rw [← g2];simp [← Array.getElem?_toList])) hA.hB (fun k x hx hl=>by
   obtain⟨_,hx'⟩:=hother k x hx hl
   exact Nat.ne_of_lt ((hA.ob k x hx').lt hl))
  rw [List.set_set] at hA2
  refine⟨_,_,_,_,_,hrun,hle2,hA2,.os o ((G.ob o).ver+1) 0 (xs.length+ys.length) w.heap.size cap (by simpa [Gh.setOb] using htn) (by simp [Gh.setOb]) (fun _=>by simp [Gh.setOb]),?_⟩
  have:=Vec.os (o:=o) (T:=T) (xs:=xs++ys) ((G.ob o).ver+1) cap (zc.toList.map AV.v) (sz:=i.size) (by
   have h1:zc.toList.length=(cap - (xs.length+ys.length)) * i.size:=by rw [← hzl];simp
   rw [List.length_append,xu,List.length_append,hfx,hfy,List.length_map,h1,← Nat.add_mul,← Nat.add_mul]
   congr 1
   omega) (fun y hy=>by
   rcases List.mem_append.1 hy with h|h
   ·exact hwx y h
   ·exact hys y h) (by simpa using hge) hle
  rw [List.length_append] at this
  exact this
 cases hV with
 |nil h=>
  subst h
  cases hv with
  |v _=>
  by_cases hm0:ys.length=0
  ·have hy0:ys=[]:=List.eq_nil_of_length_eq_zero hm0
   subst hy0
   have hn0:news=[]:=List.eq_nil_of_length_eq_zero (by simpa using hx.count)
   subst hn0
   exact⟨_,_,G,_,_,qcc htt hu hd hi hx none 0 0 (Nat.le_refl _),.refl G,by rw [hself];exact hA,.v _,.nil (by simp)⟩
  ·exact grow none 0 [] (by simp [run_firstCells_none]) (by simp;omega) (by simp) (by simp) (by simp [flat]) (by
    simp only [List.length_nil,Nat.zero_add] at hbytes ⊢
    rw [nextslicecap_zero (by omega)]
    omega)
 |os ver cap pad hl hw hle hcm=>
  obtain⟨g0,g1,g2,g3,c,g4,g5,g6⟩:=hA.ob o _ ho
  have hfx:(flat xs).length=xs.length * i.size:=zr hw
  cases hv with
  |os _ _ _ _ b _ hn hv' hb=>
  have hb:=hb g1
  subst hb
  have hcs:c.size=cap * i.size:=by rw [← g5,hl]
  by_cases hm0:ys.length=0
  ·have hy0:ys=[]:=List.eq_nil_of_length_eq_zero hm0
   subst hy0
   have hn0:news=[]:=List.eq_nil_of_length_eq_zero (by simpa using hx.count)
   subst hn0
   exact⟨_,_,G,_,_,qcc htt hu hd hi hx _ xs.length cap hle,.refl G,by rw [hself];exact hA,.os _ _ _ _ _ _ hn hv' (fun _=>rfl),by rw [List.append_nil];exact .os ver cap pad hl hw hle hcm⟩
  ·by_cases hroom:xs.length+ys.length≤cap
   ·have hmul:(xs.length+ys.length) * i.size≤cap * i.size:=Nat.mul_le_mul_right _ hroom
    rw [Nat.add_mul] at hmul
    have hfit:xs.length * i.size+news.length≤c.size:=by rw [hx.count,hcs];omega
    have hrun:=qi9 (ty:=ty) htt hu hd hi hx (G.ob o).blk xs.length cap c g4 hroom hfit
    have hpl:pad.length=cap * i.size - xs.length * i.size:=by
     have:=hl
     rw [List.length_append,hfx] at this
     omega
    have hA2:=hA.setRow (cs':=flat (xs++ys)++pad.drop (ys.length * i.size)) (c':=(c.toList.take (xs.length * i.size)++news++c.toList.drop (xs.length * i.size+news.length)).toArray) ho (by
     rw [xu]
     simp [hfx,hfy,hx.count,hpl,hcs,Nat.min_eq_left hle]
     omega) (by
     have e1:∀ (j:Nat) (a:AV) (b:Value),(flat xs)[j]? = some a→(c.toList.take (xs.length * i.size))[j]? = some b→Rel G a b:=fun j a b h1 h2=>by
      have hj:=lt_of_getElem? h1
      rw [List.getElem?_take_of_lt (by omega)] at h2
      exact g6 j a b (by rw [List.getElem?_append_left hj];exact h1) (by simpa using h2)
     have e2:=qas (G:=G) (cs:=flat xs) (ds:=flat ys) (vs:=c.toList.take (xs.length * i.size)) (us:=news) (by simp;omega) e1 hrel
     have e3:=qas (G:=G) (cs:=flat xs++flat ys) (ds:=pad.drop (ys.length * i.size)) (vs:=c.toList.take (xs.length * i.size)++news) (us:=c.toList.drop (xs.length * i.size+news.length)) (by
      simp [hfx,hfy,hx.count]
      omega) e2 (fun j a b h1 h2=>by
      rw [List.getElem?_drop] at h1 h2
      refine g6 (xs.length * i.size+news.length+j) a b ?_ (by simpa using h2)
      rw [List.getElem?_append_right (by rw [hfx];omega),hfx,← h1,hx.count]
      congr 1
      omega)
     rw [xu]
     intro j a b h1 h2
     exact e3 j a b h1 (by simpa using h2))
    refine⟨_,_,G,_,_,hrun,.refl G,hA2,.os o ver 0 (xs.length+ys.length) _ cap hn hv' (fun _=>rfl),?_⟩
    have:=Vec.os (o:=o) (T:=T) (xs:=xs++ys) ver cap (pad.drop (ys.length * i.size)) (sz:=i.size) (by
     rw [List.length_append,xu,List.length_append,hfx,hfy,List.length_drop,hpl]
     omega) (fun y hy=>by
     rcases List.mem_append.1 hy with h|h
     ·exact hw y h
     ·exact hys y h) (by simpa using hroom) hcm
    rw [List.length_append] at this
    exact this
   ·refine grow (some ⟨(G.ob o).blk,0,none⟩) cap (c.toList.take (xs.length * i.size)) ?_ (by omega) (by
     have:xs.length * i.size≤cap * i.size:=Nat.mul_le_mul_right _ hle
     simp
     omega) hw (fun j a b h1 h2=>?_) (growslice_fits (by omega) hbytes)
    ·refine run_firstCells_some w.drew i.size xs.length ⟨(G.ob o).blk,0,none⟩ xs.length cap _ (by
      have:xs.length * i.size≤cap * i.size:=Nat.mul_le_mul_right _ hle
      simp
      omega) fun j y hy=>?_
     have e1':w.drew.heap[(G.ob o).blk]? = some (.cells c T (0,0)):=g4
     rw [Addr.add_lit]
     rw [List.getElem?_take] at hy
     split at hy
     ·simp only [Array.getElem?_toList] at hy
      simp [World.cell?,e1',hy]
     ·simp at hy
    ·have hj:=lt_of_getElem? h1
     rw [List.getElem?_take_of_lt (by omega)] at h2
     exact g6 j a b (by rw [List.getElem?_append_left hj];exact h1) (by simpa using h2)
end
section
variable {E : Env} {rd : Option Nat} {N : Nat} {ops : Array Oper} {K : AS → Prop} {s : AS} {rest : List Oper} {d : Option Tmp} {T : TypeId} {p : String} {af : Array Edge}
theorem qyf {x y:Operand} {t u T':TypeId} {sz bytes o:Nat} {xs ys:List AV} {tip:Option Nat} {a:AV} {ob:AObj} (hx:ql N s x=a) (hy:ql N s y = .sl sz ys tip) (hV:Vec sz T' o xs a ob) (ho:s.st[o]? = some ob)
  (ht:E.P.underlying t=some (.slice T')) (hu:E.P.underlying u=some (.slice T')) (hT:x7 E.P T' sz bytes) (hone:jy (flat ys)=true) (h63:xs.length+ys.length≤maxLen) (hb:(xs.length+ys.length) * bytes≤140737488355328)
  (h:∀ a' ob',Vec sz T' o (xs++ys) a' ob'→AOps E rd N ops rest K (AS.put ⟨s.t,s.st.set o ob',s.df⟩ d a')):AOps E rd N ops (⟨d,.call ⟨.builtin .append,#[x,y],#[t,u]⟩,T,p,af,none⟩::rest) K s:=by
 refine zb rfl (za nofun fun B0 w0 G a0 w _ hI=>?_)
 obtain⟨news,h1,h2,h3⟩:=yr (P:=E.P) hI.agree (hI.eval_of hy) (by simpa [jy] using hone)
 obtain⟨v',w',G',a',ob',e1,e2,e3,e4,e5⟩:=qmy (ty:=T) hI.agree ht hu (.inr ⟨_,rfl⟩) hT hV ho (hI.eval_of hx) h1 h2 h3 h63 hb
 refine⟨v',w',G',_,_,?_,e2,e3,e4,h a' ob' e5⟩
 generalize a0.eval = ρ at e1
 simp [execOp,resolve,invoke,builtin,e1]
theorem q1t {sz:Nat} {T:TypeId} {o:Nat} {xs:List AV} {a:AV} {ob:AObj} (h:Vec sz T o xs a ob):(xs=[]∧a=zk∧ob = .tip 0 sz T)∨∃ ver cap pad,a = .os o ver 0 xs.length cap∧ob = .cells ver T (flat xs++pad)∧(flat xs++pad).length=cap * sz∧(∀ x∈xs,x.cells.length=sz)∧xs.length≤cap∧cap≤maxLen:=by
 cases h with
 |nil h=>exact .inl ⟨h,rfl,rfl⟩
 |os ver cap pad h1 h2 h3 h4=>exact .inr ⟨ver,cap,pad,rfl,rfl,h1,h2,h3,h4⟩
theorem qqs {sz:Nat}:∀ {xs:List AV} {i:Nat} {x:AV},(∀ x∈xs,x.cells.length=sz)→x.cells.length=sz→i<xs.length→∀ pad,zv (flat xs++pad) (0+i * sz) x.cells=flat (xs.set i x)++pad
 | [],_,_,_,_,h,_=>by simp at h
 |y::xs,0,x,hw,hx,_,pad=>by
  have hy:=hw y (by simp)
  simp only [List.set_cons_zero,qbj,zv,Nat.zero_mul,Nat.zero_add,List.take_zero,List.nil_append,hx]
  rw [List.append_assoc,List.drop_append_of_le_length (by omega),← hy,List.drop_length]
  simp
 |y::xs,i+1,x,hw,hx,h,pad=>by
  have hy:=hw y (by simp)
  have ih:=qqs (xs:=xs) (i:=i) (x:=x) (fun z hz=>hw z (by simp [hz])) hx (by simpa using h) pad
  simp only [List.set_cons_succ,qbj,zv,Nat.zero_add] at ih ⊢
  have e:(i+1) * sz=y.cells.length+i * sz:=by rw [Nat.add_mul,hy];omega
  simp only [List.append_assoc] at ih ⊢
  rw [e,List.take_length_add_append,show y.cells.length+i * sz+x.cells.length=y.cells.length+(i * sz+x.cells.length) by omega,List.drop_length_add_append]
  simp only [List.append_assoc]
  rw [ih]
theorem zfz {sz:Nat} {T:TypeId} {o ver cap:Nat} {xs pad:List AV} (hl:(flat xs++pad).length=cap * sz) (hw:∀ x∈xs,x.cells.length=sz) (hle:xs.length≤cap) (hcm:cap≤maxLen) {i:Nat} {x:AV} (hx:x.cells.length=sz) (hi:i<xs.length) :
  Vec sz T o (xs.set i x) (.os o ver 0 xs.length cap) (.cells ver T (zv (flat xs++pad) (0+i * sz) x.cells)):=by
 rw [qqs hw hx hi]
 have hw':∀ y∈xs.set i x,y.cells.length=sz:=fun y hy=>by
  rcases List.mem_or_eq_of_mem_set hy with h|rfl
  ·exact hw y h
  ·exact hx
 have:=Vec.os (o:=o) (T:=T) (xs:=xs.set i x) ver cap pad (sz:=sz) (by
  rw [List.length_append] at hl ⊢
  rw [zr hw',List.length_set,← zr hw]
  exact hl) hw' (by simpa using hle) hcm
 rw [List.length_set] at this
 exact this
theorem q4k {sz:Nat} {xs pad:List AV} (hw:∀ x∈xs,x.cells.length=sz) {i:Nat} {x:AV} (hi:xs[i]? = some x):((flat xs++pad).drop (i * sz)).take sz=x.cells:=by
 have hlt:=lt_of_getElem? hi
 have hx:=hw x (List.mem_of_getElem? hi)
 apply List.ext_getElem?
 intro j
 rw [List.getElem?_take]
 by_cases hj:j<sz
 ·rw [if_pos hj,List.getElem?_drop,← ql1 hw hi j hj]
  have hle:(i+1) * sz≤xs.length * sz:=Nat.mul_le_mul_right _ hlt
  rw [Nat.succ_mul] at hle
  rw [List.getElem?_append_left (by rw [zr hw];omega)]
 ·rw [if_neg hj,List.getElem?_eq_none (by omega)]
end
structure Chg (N:Nat) (s s':AS):Prop where
 run:∀ (B0:Nat) (w0:World) (G:Gh) (a:Act) (w:World),Inv B0 w0 N G s a w→∃ G',G.le G'∧Inv B0 w0 N G' s' a w
theorem Chg.trans {N:Nat} {s s' s'':AS} (h:Chg N s s') (k:Chg N s' s''):Chg N s s'':=⟨fun B0 w0 G a w hI=>let ⟨G1,h1,h2⟩:=h.run B0 w0 G a w hI;let ⟨G2,k1,k2⟩:=k.run B0 w0 G1 a w h2;⟨G2,h1.trans k1,k2⟩⟩
section
variable {E : Env} {rd : Option Nat} {N : Nat} {ops : Array Oper} {K : AS → Prop} {s s' : AS}
theorem zay {fn:Func} {R:AV→List AObj→Prop} (hc:Chg fn.ntmps s s') (h:ARet E fn R s'):ARet E fn R s:=
 ⟨fun B0 w0 G a w hL hI R2 hR2=>let ⟨G1,h1,h2⟩:=hc.run B0 w0 G a w hI;h.run B0 w0 G1 a w hL h2 R2 fun v G' r st' w' hG k1 k2 k3=>hR2 v G' r st' w' (h1.trans hG) k1 k2 k3⟩
theorem za9 (i:Nat) {x r:AV} (hi:s.t i=x) (hw:∀ G v,Rel G x v→Rel G r v):Chg N s ⟨Av.put s.t i r,s.st,s.df⟩:=
 ⟨fun B0 w0 G a w hI=>⟨G,.refl G,hI.agree,hI.defers,hI.size,fun j y hy=>by
  have hj:=hI.tmps j y hy
  by_cases e:j=i
  ·subst e;simp only [wv];rw [hi] at hj;exact hw G y hj
  ·simp only;rw [yw _ _ _ _ e];exact hj⟩⟩
theorem za8 (o:Nat):Chg N s ⟨s.t,s.st.set o .dead,s.df⟩:=⟨fun B0 w0 G a w hI=>⟨G,.refl G,hI.agree.kill o,hI.defers,hI.size,hI.tmps⟩⟩
theorem q49 (i:Nat) {sz o:Nat} {T':TypeId} {xs:List AV} {v:AV} {ob:AObj} (hi:s.t i=v) (hV:Vec sz T' o xs v ob) (ho:s.st[o]? = some ob):Chg N s ⟨Av.put s.t i (.sl sz xs none),s.st.set o .dead,s.df⟩:=by
 cases hV with
 |nil hx=>
  subst hx
  exact (za9 i hi (fun _ _ h=>qbs h)).trans (za8 o)
 |os ver cap pad hl hw hle hcm=>
  have hm:xs.length * sz≤cap * sz:=Nat.mul_le_mul_right _ hle
  refine⟨fun _ _ _ _ _ hI=>hI.osPub hi ho rfl hle hw (by omega) ?_⟩
  rw [List.drop_zero,List.take_append_of_le_length (by rw [zr hw];exact Nat.le_refl _),List.take_of_length_le (by rw [zr hw];exact Nat.le_refl _)]
theorem q2b (i:Nat) {sz k:Nat} {T':TypeId} {xs:List AV} {v:AV} {ob:AObj} {st loc ext new:List AObj} (hs:s.st=((st++loc)++ext)++new) (hi:s.t i=v) (hV:Vec sz T' (st.length+k) xs v ob) (ho:loc[k]? = some ob):Chg N s ⟨Av.put s.t i (.sl sz xs none),((st++loc.set k .dead)++ext)++new,s.df⟩:=by
 have:=q49 (N:=N) i hi hV (by rw [hs];exact qau ho)
 rw [hs,qd5 _ (lt_of_getElem? ho)] at this
 exact this
theorem qxa {rest:List Oper} {d:Option Tmp} {T:TypeId} {p:String} {af:Array Edge} {x y:Operand} {t u T':TypeId} {sz bytes k:Nat} {xs ys:List AV} {tip:Option Nat} {a:AV} {ob:AObj} {st loc ext new:List AObj} (hs:s.st=((st++loc)++ext)++new) (hx:ql N s x=a) (hy:ql N s y = .sl sz ys tip) (hV:Vec sz T' (st.length+k) xs a ob) (ho:loc[k]? = some ob)
  (ht:E.P.underlying t=some (.slice T')) (hu:E.P.underlying u=some (.slice T')) (hT:x7 E.P T' sz bytes) (hone:jy (flat ys)=true) (h63:xs.length+ys.length≤maxLen) (hb:(xs.length+ys.length) * bytes≤140737488355328)
  (h:∀ a' ob',Vec sz T' (st.length+k) (xs++ys) a' ob'→AOps E rd N ops rest K (AS.put ⟨s.t,((st++loc.set k ob')++ext)++new,s.df⟩ d a')):AOps E rd N ops (⟨d,.call ⟨.builtin .append,#[x,y],#[t,u]⟩,T,p,af,none⟩::rest) K s:=
 qyf hx hy hV (by rw [hs];exact qau ho) ht hu hT hone h63 hb fun a' ob' hV'=>by rw [hs,qd5 _ (lt_of_getElem? ho)];exact h a' ob' hV'
end
end Go.Av
namespace Go.Proofs.YtmoklbacdkmkaaaGreatDoor
open Go Go.Av Go.RowKit Go.Proofs Go.Pl
theorem q9z (text:List UInt8) (o kb ver n:Nat) (I:Nat→List UInt8→List AObj→Prop) (D:List AObj→Prop) (st l0:List AObj) (ht:text.length<4294967281) (h0:I 0 text l0)
  (hI:∀ k rest l,I k rest l→l.length=n∧(st++l)[kb]? = some (.cells ver 9 [Sv text]))
  (hY:∀ k rest l own ext,I k rest l→rest≠[]→rest.length≤text.length→yu E o [qdu k text rest] (st++(l++own::ext)) fun b st2=>∃ l' ext',st2=st++(l'++own::ext')∧(b=true→I (k+1) (past 10 rest) l')∧(b=false→D l'∧l'.length=n)) :
  qo E 163 [.yd o,.bx kb ver 0] (st++l0) fun r st'=>∃ l own ext',st'=st++(l++own::ext')∧((∃ k,I k [] l)∨D l):=by
 refine qp Tryz.func163 rfl (Nat.le_of_ble_eq_true rfl) ?_
 obtain⟨hn,hb⟩:=hI 0 text l0 h0
 repeat' (first|apply qm|apply qx|apply qe|apply qg|apply qf|(apply jg;exact rfl;exact rfl)|(apply zu;(iterate 11 exact rfl))|(apply vm;(iterate 3 exact rfl))|(apply qa5;exact rfl;exact rfl;exact hb;exact rfl;exact rfl))
 refine j5 (fun (x:Nat×List UInt8) s=>match x with|(k,rest)=>∃ l at' ta eb ext,I k rest l∧k+rest.length≤text.length∧at'=(text.length:Int) - rest.length∧StA [(0,.yd o),(1,.bx kb ver 0),(3,.bx ((st++l0).length+0) 0 0),(4,Sv rest)] ((st++l)++(.cells 0 181 [Iv k,Iv at',Sv ta,Bv eb]::ext)) [] s) (fun x=>x.2.length) (0,text)
  ⟨l0,0,[],false,[],h0,by simp,by simp,?_⟩ ?_
 ·exact ja ⟨rfl,rfl,rfl,rfl,trivial⟩
 rintro⟨k,rest⟩ _ ⟨l,_,ta,eb,ext,hi,hle,rfl,t,rfl⟩
 obtain⟨hn',hb'⟩:=hI k rest l hi
 have hq:(st++l).length=(st++l0).length:=by simp [hn,hn']
 repeat' (first|apply qm|apply qx|apply qe|apply qg|apply qj|apply qf|(apply zf;exact rfl;exact rfl)|(apply jh;(iterate 3 exact rfl))|(apply qc;exact rfl;apply cd_d <;> intro h)|(apply zg;(iterate 3 exact rfl))|apply qu|apply zz|(apply qi;exact Tryz.call96;exact qir _ _ _ (by omega))|(apply qbc;exact rfl;exact hq;(iterate 10 exact rfl))|(apply qb6;exact rfl;exact hq;(iterate 4 exact rfl)))
 ·refine qdp rfl (q13 (List.append_assoc st l (_::ext)).symm ((hY k rest l _ ext hi h (by omega)).mono ?_))
  rintro b _ ⟨l',ext',rfl,h1,h2⟩
  cases b
  ·skip
   rw [← List.append_assoc]
   repeat' (first|apply qg|(apply z6;exact rfl)|(apply qc;exact rfl;apply qjr;exact cRa)|apply qt)
   refine qn rfl (qac rfl) ⟨l',_,ext',List.append_assoc _ _ _,.inr (h2 rfl).1⟩
  ·have hi3:=h1 rfl
   obtain⟨hn3,hb3⟩:=hI _ _ _ hi3
   have hp:=kp 10 rest
   have hr0:0<rest.length:=List.length_pos_iff.2 h
   have hq3:(st++l').length=(st++l0).length:=by simp [hn,hn3]
   rw [← List.append_assoc]
   repeat' (first|apply qm|apply qe|apply qg|apply qj|(apply z6;exact rfl)|(apply qc;exact rfl;apply qhv;exact cRa)|(apply zl;(iterate 3 exact rfl))|(apply zh;exact rfl;exact rfl;exact qz (by omega) (by omega))|(apply xc;exact rfl;exact rfl;exact qz (by omega) (by omega))|(apply zg;(iterate 3 exact rfl))|apply qu|(apply qa5;exact rfl;exact rfl;exact hb3;exact rfl;exact rfl)|(apply qbc;exact rfl;exact hq3;(iterate 10 exact rfl))|(apply qb6;exact rfl;exact hq3;(iterate 4 exact rfl)))
   exact⟨(k+1,past 10 rest),⟨l',_,_,_,_,hi3,by omega,rfl,ja ⟨rfl,rfl,rfl,rfl,trivial⟩⟩,by simp only;omega⟩
 ·have hr:rest=[]:=Classical.not_not.1 h
  subst hr
  exact qn rfl (qac rfl) ⟨l,_,ext,List.append_assoc _ _ _,.inl ⟨k,hi⟩⟩
theorem qud {N:Nat} {Q:Exit→AS→Prop} {s:AS} {f:Operand} {p:Tmp} {asg body:Code} {st loc:List AObj} {kb ver:Nat} (text:List UInt8) (hst:s.st=st++loc) (hx:ql N s f = .fn (.func 163) [] [.bx (st.length+kb) ver 0]) (ht:text.length<4294967281)
  (I:Nat→List UInt8→List AObj→Prop) (D:Code→List AObj→Prop) (h0:I 0 text loc)
  (hI:∀ k rest l,I k rest l→l.length=loc.length∧l[kb]? = some (.cells ver 9 [Sv text])) (hD:∀ c l,D c l→l.length=loc.length)
  (hb:∀ F own rd k rest l ext m,qli F N s.t #[p] asg body→I k rest l→rest≠[]→rest.length≤text.length→((st++(l++[.dfr,F .ready none,own]))++ext).length=m→((st++(l++[.dfr,F .busy none,own]))++ext).length=m →
   AWp E (some rd) N asg (only fun s1=>∃ new,s1.st=((st++(l++[.dfr,F .ready none,own]))++ext)++new∧s1.df=[]∧AWp E (some rd) N body (q9r F st own (I (k+1) (past 10 rest)) D) ⟨s1.t,((st++(l++[.dfr,F .busy none,own]))++ext)++new,[]⟩) ⟨put s.t p (qdu k text rest),((st++(l++[.dfr,F .ready none,own]))++ext)++[],[]⟩)
  (hn:∀ k l ext,I k [] l→Q .normal ⟨s.t,((st++(l++[.dfr,.dead]))++ext)++[],(st.length+loc.length)::s.df⟩)
  (hd:∀ c l ext,D c l→AWp E none N c Q ⟨s.t,((st++(l++[.dfr,.dead]))++ext)++[],(st.length+loc.length)::s.df⟩):AWp E none N (.rangeFunc f #[p] asg body) Q s:=by
 refine qls hst hx Tryz.call163 fun F hF=>?_
 refine qo.mono (q9z text (st.length+(loc.length+1)) (st.length+kb) ver (loc.length+2) (fun k rest l=>∃ l1,l=l1++[.dfr,F .ready none]∧I k rest l1) (fun l=>∃ l1 c,l=l1++[.dfr,F .done (some c)]∧D c l1) st (loc++[.dfr,F .ready none]) ht ⟨loc,rfl,h0⟩ ?_ ?_) ?_
 ·rintro k rest _ ⟨l,rfl,hi⟩
  obtain⟨h1,h2⟩:=hI k rest l hi
  exact⟨by simp [h1],jl (by rw [List.getElem?_append_left (lt_of_getElem? h2)];exact h2)⟩
 ·rintro k rest _ own ext ⟨l,rfl,hi⟩ hne hle
  obtain⟨h1,h2⟩:=hI k rest l hi
  have hy:=za0 (E:=E) (st:=st) (l:=l) (ext:=ext) (own:=own) (n:=loc.length) (xs:=[qdu k text rest]) (I:=I (k+1) (past 10 rest)) (D:=D) hF h1 rfl (fun l hl=>(hI _ _ l hl).1) hD (fun rd=>hb F own rd k rest l ext _ hF hi hne hle rfl (by simp))
  have e:(st++(l++[.dfr,F .ready none,own]))++ext=st++((l++[.dfr,F .ready none])++own::ext):=by simp
  rw [e] at hy
  refine hy.mono ?_
  rintro b st2 ⟨l',ext',g1,g2⟩
  cases b with
  |true=>
   obtain⟨rfl,g⟩:=g1 rfl
   exact⟨l'++[.dfr,F .ready none],ext',by simp,fun _=>⟨l',rfl,g⟩,nofun⟩
  |false=>
   obtain⟨c,rfl,g⟩:=g2 rfl
   exact⟨l'++[.dfr,F .done (some c)],ext',by simp,nofun,fun _=>⟨⟨l',c,rfl,g⟩,by simp [hD c l' g]⟩⟩
 ·rintro r _ ⟨_,own,ext,rfl,⟨k,l,rfl,hi⟩ | ⟨l,c,rfl,hdl⟩⟩
  ·have h1:=(hI _ _ _ hi).1
   have e:st++((l++[.dfr,F .ready none])++own::ext)=(st++(l++[.dfr,F .ready none,own]))++ext:=by simp
   rw [e]
   refine⟨.ready,none,nofun,qdf h1,?_⟩
   rw [qfh h1]
   have:=hn k l (own::ext) hi
   simpa using this
  ·have h1:=hD _ _ hdl
   have e:st++((l++[.dfr,F .done (some c)])++own::ext)=(st++(l++[.dfr,F .done (some c),own]))++ext:=by simp
   rw [e]
   refine⟨.done,some c,nofun,qdf h1,?_⟩
   rw [qfh h1]
   have:=hd c l (own::ext) hdl
   simpa using this
abbrev Ss (xs:List qa):AV:=.sl 1 (xs.map fun x=>Sv x) none
theorem qje (l m:List UInt8) (st:List AObj):qo E 98 [Sv l,Sv m] st fun r st'=>r=Sv (Lib.trimPrefix l m)∧st'=st:=
 yy (vals:= #[.string ⟨l.toArray⟩,.string ⟨m.toArray⟩]) rfl fun _ _ w _ _=>(Tryz.strings_TrimPrefix ⟨l.toArray⟩ ⟨m.toArray⟩ w).mono fun _ _ ⟨h1,h2⟩=>⟨h1,qec h2⟩
theorem q4j (l:List UInt8) (c:UInt8) (st:List AObj):qo E 98 [Sv l,Sv [c]] st fun r st'=>r=Sv (kg c l)∧st'=st:=by
 rw [← qvg]
 exact qje _ _ _
theorem q6u {B0:Nat} {w0:World} {G:Gh} {st:List AObj} {w:World} (hA:zi B0 w0 G st w) {xs:List qa} {tip:Option Nat} {v:Value} (h:Rel G (.sl 1 (xs.map fun x=>Sv x) tip) v) :
  (xs=[]∧∃ a c,v = .slice a 0 c)∨∃ b off cap,v = .slice (some ⟨b,off,none⟩) xs.length cap∧b<w.heap.size∧xs.length≤cap∧∀ (j:Nat) (x:qa),xs[j]? = some x→w.cell? ⟨b,off+j,none⟩=some (.string ⟨x.toArray⟩):=by
 generalize hq:xs.map (fun x=>Sv x)=q at h
 cases h with
 |sl0 sz tip base cap ht=>exact .inl ⟨by simpa using hq,base,cap,rfl⟩
 |sl _ _ _ b off cap pub hp hw hlen hr ht hcap=>
  subst hq
  obtain⟨c,T,fz,hc,hcc⟩:=hA.pub b pub hp
  refine .inr ⟨b,off,cap,by simp,hA.pub_lt hp,by simpa using hcap,fun j x hx=>?_⟩
  have hfl:flat (xs.map fun x=>Sv x)=xs.map fun x=>Sv x:=by
   clear hx hr hlen hw ht hcap
   induction xs with
   |nil=>rfl
   |cons a xs ih=>rw [List.map_cons,qbj,ih];rfl
  have hj:=lt_of_getElem? hx
  rw [hfl] at hlen
  simp only [List.length_map] at hlen
  have hy:pub[off+j]? = some (pub[off+j]'(by omega)):=List.getElem?_eq_getElem (by omega)
  have hrj:=hr j (Sv x) _ (by rw [hfl,List.getElem?_map,hx];rfl) hy
  generalize hz:pub[off+j]'(by omega)=z at hrj hy
  generalize hSx:Sv x=sx at hrj
  cases hrj <;> simp_all
  subst_vars
  simp [World.cell?,hc,hcc _ _ hy]
theorem q8m (xs:List qa) (tip:Option Nat) (sep:qa) (st:List AObj) (hN:xs.length≤140737488355328) (hl:(Lib.join xs sep).length≤140737488355328):qo E 156 [.sl 1 (xs.map fun x=>Sv x) tip,Sv sep] st fun r st'=>r=Sv (Lib.join xs sep)∧st'=st:=by
 refine⟨fun B0 w0 G vs w hL hA hR=>?_⟩
 have hs:vs.size=2:=by have:=hR.1;simpa using this.symm
 have e0:vs[0]? = some vs[0]:=by simp [hs]
 have e1:vs[1]? = some vs[1]:=by simp [hs]
 have h0:=hR.2 0 _ _ rfl e0
 have h1:=hR.2 1 _ _ rfl e1
 have hv1:vs[1] = .string ⟨sep.toArray⟩:=by generalize vs[1]=y at h1;cases h1;rfl
 have hvs:vs = #[vs[0],.string ⟨sep.toArray⟩]:=by
  apply Array.ext (by simp [hs])
  intro i g1 g2
  match i with
  | 0=>rfl
  | 1=>exact hv1
  |i+2=>simp [hs] at g1;omega
 rw [hvs]
 rcases q6u hA h0 with⟨hx,a,c,hv⟩ | ⟨b,off,cap,hv,hb,hcap,hcell⟩
 ·rw [hv]
  subst hx
  refine (Tryz.strings_Join_none a c ⟨sep.toArray⟩ w).mono ?_
  rintro e w' ⟨rfl,rfl⟩
  exact⟨_,G,Sv [],st,rfl,.refl G,hA,.v _,rfl,rfl⟩
 ·rw [hv]
  have hm:(xs.map fun l:qa=>(⟨l.toArray⟩:ByteArray)).map (·.data.toList)=xs:=by simp [List.map_map,Function.comp_def]
  have hc:=Tryz.strings_Join b off cap (xs.map fun l=>⟨l.toArray⟩) ⟨sep.toArray⟩ w (fun j x hx=>by
   rw [List.getElem?_map] at hx
   cases hq:xs[j]? with
   |none=>rw [hq] at hx;simp at hx
   |some y=>rw [hq] at hx;simp at hx;subst hx;exact hcell j y hq) hb (by simpa using hN) (by simpa using hcap) (by rw [hm];simpa using hl)
  rw [hm] at hc
  simp only [List.length_map] at hc
  refine hc.mono ?_
  rintro e w' ⟨rfl,hbw⟩
  exact⟨_,G,Sv _,st,rfl,.refl G,hA.fresh hbw,.v _,rfl,rfl⟩
def Weak (x r:AV):Prop:=∀ (G:Gh) (v:Value),Rel G x v→Rel G r v
theorem qbv (x:AV):Weak x x:=fun _ _ h=>h
theorem qie (sz:Nat) (xs:List AV) (tip:Option Nat):Weak (.sl sz xs tip) (.sl sz xs none):=fun _ _ h=>qkb h
theorem qf4 (sz:Nat):Weak zk (.sl sz [] none):=fun _ _ h=>qbs h
theorem qe0 {x y x' y':AV} (h1:Weak x x') (h2:Weak y y'):Weak (.tu [x,y]) (.tu [x',y']):=fun G v h=>by
 cases h with
 |tu _ vs hl hr=>
  refine .tu _ vs hl fun i a b ha hb=>?_
  match i with
  | 0=>simp at ha;subst ha;exact h1 G b (hr 0 x b rfl hb)
  | 1=>simp at ha;subst ha;exact h2 G b (hr 1 y b rfl hb)
  |i+2=>simp at ha
theorem zf0 {xs ys:List AV} (hl:xs.length=ys.length) (h:∀ (i:Nat) (x y:AV),xs[i]? = some x→ys[i]? = some y→Weak x y):Weak (.ag xs) (.ag ys):=fun G v hr=>by
 cases hr with
 |ag _ vs hl' hr=>
  refine .ag _ vs (by omega) fun i a b ha hb=>?_
  have hi:=lt_of_getElem? ha
  exact h i _ a (List.getElem?_eq_getElem (by omega)) ha G b (hr i _ b (List.getElem?_eq_getElem (by omega)) hb)
theorem q40 {fn:Func} {s:AS} {t u:Tmp} {x y x' y':AV} (hr:fn.results = #[.tmp t,.tmp u]) (hx:ql fn.ntmps s (.tmp t)=x) (hy:ql fn.ntmps s (.tmp u)=y) (h1:Weak x x') (h2:Weak y y'):ARes E fn s (.tu [x',y']):=
 wr (kc hr) (by rw [hx,hy];exact qe0 h1 h2)
theorem q4z {fn:Func} {s:AS} {t:Tmp} {x x':AV} (hr:fn.results = #[.tmp t]) (hx:ql fn.ntmps s (.tmp t)=x) (h1:Weak x x'):ARes E fn s x':=
 wr (q6 hr) (by rw [hx];exact h1)
def errN (n:Int):AV:=if n=0 then .v .nilIface else .ifc 76 (Iv n)
theorem qjx (n:Int):Pure (errN n):=by
 unfold errN
 split
 ·exact qr _
 ·exact qcs (qr _)
theorem qk4 {n:Int} (h:n≠0):errN n = .ifc 76 (Iv n):=if_neg h
theorem qpy (f:FldV) (st:List AObj) (hl:f.1.length<4294967281):qo E 226 [fldA f] st fun r st'=>r=errN (kw f)∧st'=st:=by
 refine qv (qjx _) (qp Tryz.func226 rfl (Nat.le_of_ble_eq_true rfl) ?_)
 repeat' (first|apply qm|apply qx|apply qe|apply qg|apply qf|(apply qq;(iterate 3 exact rfl))|(apply z6;exact rfl)|(apply qc;exact rfl;apply cd_n <;> intro h)|(apply qc;exact rfl;apply cd_d <;> intro h)|(apply zl;(iterate 3 exact rfl))|(apply ka;exact rfl;exact rfl)|(apply qax;(iterate 4 exact rfl))|(apply zg;(iterate 3 exact rfl))|(apply jd;(iterate 5 exact rfl))|apply qu|apply qt|(apply qi;exact Tryz.call215;exact zdm _ _ hl))
 all_goals refine qn rfl (q6 rfl) ⟨(?_:_=_),_,rfl⟩
 ·have e:kw f=5:=if_pos (by simp_all)
  rw [e];rfl
 ·have e:kw f=6:=(if_neg (by simp_all)).trans (if_pos (by omega))
  rw [e];rfl
 ·have e:kw f=0:=(if_neg (by simp_all)).trans (if_neg (by omega))
  rw [e];rfl
theorem qiv (f:FldV) (st:List AObj) (hl:f.1.length<4294967281) (h:kw f=0):qo E 226 [fldA f] st fun r st'=>r = .v .nilIface∧st'=st:=by
 have:=qpy f st hl
 rw [h] at this
 exact this
theorem qiw (f:FldV) (st:List AObj) (hl:f.1.length<4294967281) (h:kw f≠0):qo E 226 [fldA f] st fun r st'=>r = .ifc 76 (Iv (kw f))∧st'=st:=by
 have:=qpy f st hl
 rw [qk4 h] at this
 exact this
theorem q96 (s:List UInt8) (st:List AObj) (hl:s.length<4294967281):qo E 230 [Sv s] st fun r st'=>r=Sv (vh s)∧st'=st:=by
 refine qv (qr _) (qp Tryz.func230 rfl (Nat.le_of_ble_eq_true rfl) ?_)
 have hb:Lib.trimS s [32,9]=[]↔qby s:=by rw [qov];simp [wd,qby]
 repeat' (first|apply qm|apply qe|apply qg|apply qj|apply qf|(apply jh;(iterate 3 exact rfl))|(apply qw;(iterate 4 exact rfl))|(apply vj;exact cAo)|(apply vo;exact cAo)|(apply jk <;> intro h)|(apply qk;exact rfl;apply wh;exact cAo)|(apply qk;exact rfl;apply wa;exact cAo)|(apply qc;exact rfl;apply cd_t;exact cRa)|(apply qc;exact rfl;apply cd_d <;> intro h)|(apply z7;exact rfl;exact rfl;exact cOs)|apply qu|apply qt|(apply qi;exact Tryz.call213;exact qvf _ _ _ (by omega) rfl rfl)|(apply qi;exact Tryz.call164;exact qfv _ _ _))
 all_goals refine qn rfl (q6 rfl) ⟨congrArg (fun l:qa=>Sv l) (?_:_=vh s),_,rfl⟩
 all_goals unfold vh
 all_goals simp_all
theorem qk9 (xs:List qa):Pure (Ss xs):=q9b xs
theorem q6s (l p:qa) (r:List qa) (st:List AObj) (hl:l.length<4294967281) (h:q5 l=p::r):qo E 154 [Sv l,Sv [10]] st fun x st'=>x = .sl 1 (Sv p::r.map fun x=>Sv x) none∧st'=st:=by
 have:=q9y l st hl
 rw [h] at this
 exact this
def qiy (f:FldV):AV:=.tu [Ss (if kw f=0 then zt f else []),errN (kw f)]
theorem q2j (f:FldV):Pure (qiy f):=qc4 fun x hx=>by
 simp only [List.mem_cons,List.not_mem_nil,or_false] at hx
 rcases hx with rfl|rfl
 ·exact qk9 _
 ·exact qjx _
set_option maxHeartbeats 2000000 in
theorem qpz (f:FldV) (st:List AObj) (hl:f.1.length<4294967281) (hv:f.2.length<1000000):qo E 189 [fldA f] st fun r st'=>r=qiy f∧st'=st:=by
 refine qv (q2j _) (qp Tryz.func189 rfl (Nat.le_of_ble_eq_true rfl) ?_)
 by_cases hc:kw f=0
 ·obtain⟨p,r,hp⟩:∃ p r,q5 f.2=p::r:=⟨_,_,qmj f.2⟩
  have hpl:p.length≤f.2.length:=qek f.2 p (by rw [hp];simp)
  have hrl:∀ x∈r,x.length≤f.2.length:=fun x hx=>qek f.2 x (by rw [hp];simp [hx])
  have hrn:r.length≤f.2.length:=by have:=qb4 _ f.2 (Nat.le_refl _);rw [hp] at this;simpa using this
  repeat' (first|(apply x4;(iterate 6 exact rfl))|(apply qvp;(iterate 5 exact rfl);kernel_rfl)|apply qm|apply qx|apply qe|apply qg|apply qj|apply qf|(apply jh;(iterate 3 exact rfl))|(apply qc;exact rfl;apply cd_f;exact cRa)|(apply qc;exact rfl;apply cd_d <;> intro h)|(apply zy;(iterate 4 exact rfl))|(apply z7;exact rfl;exact rfl;exact cOs)|(apply vl;exact rfl;exact rfl)|(apply qax;(iterate 4 exact rfl))|(apply zg;(iterate 3 exact rfl))|(apply zx;(iterate 3 exact rfl))|(apply jd;(iterate 5 exact rfl))|(apply zu;(iterate 11 exact rfl))|(apply qf8;(iterate 4 exact rfl);(first|assumption|omega|exact Nat.succ_le_succ (Nat.zero_le _)|(simp;omega));exact rfl)|apply qip|(apply qjk;exact rfl;exact rfl;exact cOs)|(apply qlp;(iterate 3 exact rfl))|(apply qpm;(iterate 5 exact rfl))|apply qf9|apply qu|(apply qi;exact Tryz.call226;exact qiv _ _ hl hc)|(apply qi;exact Tryz.call154;exact q6s _ _ _ _ (by omega) hp)|(apply zw (n:=0);(iterate 6 exact rfl))|(apply qni (n:=0);(iterate 6 exact rfl))|(apply qjm (n:=0);(iterate 5 exact rfl);omega))
  all_goals refine qnl 6 (o:=st.length+1) (sz:=1) (len:=1) (cap:=1) (xs:=[Sv (jm f.1 p)]) (T':=9) rfl (jl rfl) rfl rfl (by omega) (Nat.le_refl _) (by decide) (by simp [AV.cells]) ?_ ?_
  ·exact congrArg (fun l:qa=>[Sv l]) (by unfold jm;rw [if_neg h]:jm f.1 p=f.1++[58]++([32]++p))
  rotate_left
  ·exact congrArg (fun l:qa=>[Sv l]) (by unfold jm;rw [if_pos (Classical.not_not.1 h),List.append_nil]:jm f.1 p=f.1++[58])
  all_goals
   have hre:qiy f = .tu [Ss (jm f.1 p::r.map fun s=>[32]++vh s),.v .nilIface]:=by
    unfold qiy zt
    rw [if_pos hc,hc,hp]
    rfl
   rw [hre]
   have hst:∀ s,(vh s).length≤s.length+1:=qot
   refine yp r (fun pre s=>StE [(6,.sl 1 (Sv (jm f.1 p)::pre.map (fun s=>Sv ([32]++vh s))) (some (st.length+1))),(35,.sl 1 (r.map fun x=>Sv x) none),(36,Iv r.length),(37,Iv pre.length)] st [.cells 0 156 [Sv f.1,Sv f.2],.tip (pre.length+1) 1 9] s) (qce ⟨rfl,rfl,congrArg (fun n:Nat=>Iv (n:Int)) (List.length_map ..),rfl,trivial⟩ (xh st _ 1 _)) ?_ ?_
   ·rintro _ ⟨t,ext,rfl⟩
    repeat' (first|apply qm|apply qe|apply qg|apply qj|apply qf|(apply qq;(iterate 3 exact rfl))|(apply qc;exact rfl;apply ku;exact cAo)|apply zz|apply qt)
    refine qn rfl (q40 rfl rfl rfl (qie _ _ _) (qbv _)) ⟨?_,ya _ _ _ _⟩
    simp only [Ss,List.map_cons,List.map_map]
    rfl
   ·rintro pre a rest _ hr ⟨t,ext,rfl⟩
    have hlen:r.length=pre.length+(rest.length+1):=by rw [hr];simp
    have hget:(r.map fun x=>Sv x)[pre.length]? = some (Sv a):=by rw [hr];simp
    have ha:a.length≤f.2.length:=hrl a (by rw [hr];simp)
    have hsa:=hst a
    repeat' (first|apply qm|apply qx|apply qe|apply qg|apply qj|apply qf|(apply qq;(iterate 3 exact rfl))|(apply qc;exact rfl;apply kz;exact cAo)|(apply z7;exact rfl;exact rfl;exact cOs)|(apply zh;exact rfl;exact rfl;exact qz (by omega) (by omega))|(apply zx;(iterate 3 exact rfl))|(apply kl;(iterate 9 exact rfl))|apply qu|(apply qi;exact Tryz.call230;exact q96 _ _ (by omega))|(apply zw (n:=pre.length);(iterate 5 exact rfl);exact hget)|(apply qag (n:=pre.length+1) (m:=1) (sz:=1) (bytes:=16);(iterate 4 exact rfl);simp;exact rfl;exact rfl;exact⟨⟨_,_,rfl,rfl,rfl,rfl,rfl⟩⟩;exact rfl;exact rfl;(unfold maxLen;omega);omega;exact rfl))
    refine xv ⟨?_,rfl,rfl,?_,trivial⟩ ?_
    ·exact qja _ (fun s=>Sv ([32]++vh s)) pre a _ rfl
    ·exact qc1 pre a
    ·rw [y5 pre a];rfl
 ·skip
  repeat' (first|apply qm|apply qe|apply qg|apply qj|apply qf|(apply qc;exact rfl;apply cd_t;exact cRa)|(apply wn;exact rfl;exact rfl)|(apply qax;(iterate 4 exact rfl))|(apply jd;(iterate 5 exact rfl))|apply qt|(apply qi;exact Tryz.call226;exact qiw _ _ hl hc))
  refine qn rfl (wr (r':=.tu [Ss [],.ifc 76 (Iv (kw f))]) (kc rfl) (qe0 (qf4 _) (qbv _))) ⟨?_,_,rfl⟩
  unfold qiy
  rw [if_neg hc,qk4 hc]
theorem qkf {rd:Option Nat} {N:Nat} {ops:Array Oper} {K:AS→Prop} {s:AS} {rest:List Oper} {d:Option Tmp} {T:TypeId} {p:String} {af:Array Edge} {st loc:List AObj} (hst:s.st=st++loc)
  (h:AOps E rd N ops rest K (AS.put ⟨s.t,st++(loc++[bldO 0 (.v (.pointer none)) [] (st.length+(loc.length+1)),.tip 0 1 5]),s.df⟩ d (.bx (st.length+loc.length) 0 0))):AOps E rd N ops (⟨d,.alloc 219,T,p,af,none⟩::rest) K s:=by
 refine jg hst rfl ?_
 have e:∀ (t:Nat→AV) (st':List AObj) (df:List Nat) (x:AV),(AS.put ⟨t,st',df⟩ d x).st=st':=fun t st' df x=>by cases d <;> rfl
 have e2:∀ (t:Nat→AV) (st' st2:List AObj) (df:List Nat) (x:AV),(⟨(AS.put ⟨t,st',df⟩ d x).t,st2,(AS.put ⟨t,st',df⟩ d x).df⟩:AS)=AS.put ⟨t,st2,df⟩ d x:=fun t st' st2 df x=>by cases d <;> rfl
 refine qym (o:=st.length+loc.length) (j:=1) (sz:=1) (T':=5) (T1:=219) (ver:=0) (cs:=[.v (.pointer none),zk]) ?_ rfl ?_
 ·rw [e,← List.append_assoc,List.getElem?_append_right (by simp)]
  simp
  rfl
 ·rw [e,e2]
  have hx:(st++(loc++[AObj.cells 0 219 [.v (.pointer none),zk]])).set (st.length+loc.length) (.cells 0 219 ([AV.v (.pointer none),zk].set 1 (.sl 1 [] (some (st++(loc++[AObj.cells 0 219 [.v (.pointer none),zk]])).length))))++[AObj.tip 0 1 5]
    = st++(loc++[bldO 0 (.v (.pointer none)) [] (st.length+(loc.length+1)),.tip 0 1 5]):=by
   rw [xh,List.append_assoc,List.set_append_right _ _ (Nat.le_refl _)]
   simp
  have h':=h
  rw [← hx] at h'
  exact h'
theorem qlt (st loc ext new loc':List AObj) (k kt ver:Nat) (q:AV) (l m:List UInt8) (hk:loc[k]? = some (bldO ver q l (st.length+kt))) (hkt:loc[kt]? = some (.tip l.length 1 5)) (hq:q = .v (.pointer none)∨q = .bx (st.length+k) ver 0)
  (hlen:l.length+m.length≤140737488355328) (hl:loc'=(loc.set k (bldO ver (.bx (st.length+k) ver 0) (l++m) (st.length+kt))).set kt (.tip (l++m).length 1 5)) :
  qo E 136 [.bx (st.length+k) ver 0,Sv m] (((st++loc)++ext)++new) fun r st'=>r = .tu [Iv m.length,.v .nilIface]∧st'=((st++loc')++ext)++new:=by
 refine (qyt (st.length+k) ver (st.length+kt) q l m _ (qau hk) (qau hkt) hq hlen).mono fun r st' ⟨h1,h2⟩=>⟨h1,?_⟩
 have hk1:=lt_of_getElem? hk
 have hk2:=lt_of_getElem? hkt
 rw [h2,qd5 _ hk1,qd5 _ (by simpa using hk2),hl,List.length_append]
theorem qkj (st loc ext new loc':List AObj) (k kt ver:Nat) (q:AV) (l:List UInt8) (hk:loc[k]? = some (bldO ver q l (st.length+kt))) (hkt:loc[kt]? = some (.tip l.length 1 5)) (hl:loc'=loc.set kt .dead) :
  qo E 139 [.bx (st.length+k) ver 0] (((st++loc)++ext)++new) fun r st'=>r=Sv l∧st'=((st++loc')++ext)++new:=by
 refine (qvr (st.length+k) ver (st.length+kt) q l _ (qau hk) (qau hkt)).mono fun r st' ⟨h1,h2⟩=>⟨h1,?_⟩
 rw [h2,qd5 _ (lt_of_getElem? hkt),hl]
theorem qre:∀ (r:List qa),(zj (r.map fun s=>[32]++vh s)).length≤3 * (r.flatMap fun s=>[10]++s).length
 | []=>by simp [zj]
 |a::r=>by
  have ih:=qre r
  have:=qot a
  simp only [zj,List.map_cons,List.flatMap_cons,List.length_append,List.length_cons,List.length_nil] at ih ⊢
  omega
theorem yc (a b:List qa):zj (a++b)=zj a++zj b:=by simp [zj]
theorem qfl (s:qa):zj [s]=s++[10]:=by simp [zj]
theorem qkw:∀ (l:List qa),l.length≤(zj l).length
 | []=>by simp
 |a::r=>by
  have ih:=qkw r
  simp only [zj,List.flatMap_cons,List.length_append,List.length_cons,List.length_nil] at ih ⊢
  omega
theorem qwa (a b:List Fld):zo (a++b)=zo a++zo b:=by simp [zo]
theorem qwb (f:Fld):zo [f]=zj (zt f):=by simp [zo]
theorem qs1 {f:Fld} (h:jz f):(zj (zt f)).length≤5000:=by
 obtain⟨hk,hv⟩:=h
 have h1:=qre (q5 f.2).tail
 have h2:=congrArg List.length (qh4 _ f.2 (Nat.le_refl _))
 have h3:(jm f.1 ((q5 f.2).headD [])).length≤32+2+((q5 f.2).headD []).length:=by
  have:=hk.2.1
  unfold jm
  split <;> simp <;> omega
 have e:zt f=[jm f.1 ((q5 f.2).headD [])]++(q5 f.2).tail.map fun s=>[32]++vh s:=rfl
 rw [e,yc,qfl]
 simp only [List.length_append,List.length_cons,List.length_nil] at h2 ⊢
 omega
theorem qe6:∀ (xs:List Fld),(∀ f∈xs,jz f)→(zo xs).length≤5000 * xs.length
 | [],_=>by simp [zo]
 |f::r,h=>by
  have ih:=qe6 r fun x hx=>h x (by simp [hx])
  have h1:=qs1 (h f (by simp))
  have e:zo (f::r)=zj (zt f)++zo r:=by simp [zo]
  rw [e,List.length_append,List.length_cons]
  omega
def errF:List Fld→Int
 | []=>0
 |f::r=>if kw f≠0 then kw f else errF r
theorem qnx:∀ (xs:List Fld),errF xs=0↔∀ f∈xs,jz f
 | []=>by simp [errF]
 |f::r=>by
  have ih:=qnx r
  unfold errF
  by_cases h:kw f≠0
  ·rw [if_pos h]
   have hg:¬ jz f:=fun hg=>h ((qcz f).2 hg)
   simp [h,hg]
  ·have hg:=(qcz f).1 (Classical.not_not.1 h)
   rw [if_neg h,ih]
   simp [hg]
theorem q3o:∀ {pre:List Fld} {f:Fld} {r:List Fld},(∀ x∈pre,jz x)→kw f≠0→errF (pre++f::r)=kw f
 | [],f,r,_,h=>by simp [errF,h]
 |x::pre,f,r,hp,h=>by
  have:=(qcz x).2 (hp x (by simp))
  simp only [List.cons_append,errF,this]
  rw [if_neg (by simp)]
  exact q3o (fun y hy=>hp y (by simp [hy])) h
theorem qzn (f:FldV) (st:List AObj) (hl:f.1.length<4294967281) (hv:f.2.length<1000000) (h:kw f=0):qo E 189 [fldA f] st fun r st'=>r = .tu [Ss (zt f),.v .nilIface]∧st'=st:=by
 have:=qpz f st hl hv
 unfold qiy at this
 rw [if_pos h,h] at this
 exact this
theorem qzo (f:FldV) (st:List AObj) (hl:f.1.length<4294967281) (hv:f.2.length<1000000) (h:kw f≠0):qo E 189 [fldA f] st fun r st'=>r = .tu [Ss [],.ifc 76 (Iv (kw f))]∧st'=st:=by
 have:=qpz f st hl hv
 unfold qiy at this
 rw [if_neg h,qk4 h] at this
 exact this
def qsn (xs:List Fld):AV:=.tu [Sv (if errF xs=0 then zo xs else []),errN (errF xs)]
theorem q5t (xs:List Fld):Pure (qsn xs):=qc4 fun x hx=>by
 simp only [List.mem_cons,List.not_mem_nil,or_false] at hx
 rcases hx with rfl|rfl
 ·exact qr _
 ·exact qjx _
structure qxt (xs:List FldV):Prop where
 len:xs.length<1000000
 val:∀ f∈xs,f.1.length<4294967281∧f.2.length<1000000
set_option maxHeartbeats 2000000 in
theorem zgk (xs:List FldV) (st:List AObj) (hx:qxt xs):qo E 135 [jq xs] st fun r st'=>r=qsn xs∧st'=st:=by
 refine qv (q5t _) (qp Tryz.func135 rfl (Nat.le_of_ble_eq_true rfl) ?_)
 have hxl:=hx.len
 repeat' (first|(apply qkf;exact rfl)|apply qm|apply qx|apply qe|apply qg|apply qj|apply qf|(apply zy;(iterate 4 exact rfl)))
 refine yp xs (fun pre s=>(∀ f∈pre,jz f)∧∃ q,(q = .v (.pointer none)∨q = .bx (st.length+0) 0 0)∧StE [(4,.bx (st.length+0) 0 0),(11,jq xs),(12,Iv xs.length),(13,Iv pre.length)] st [bldO 0 q (zo pre) (st.length+1),.tip (zo pre).length 1 5] s) ⟨by simp,_,.inl rfl,qce ⟨rfl,rfl,congrArg (fun n:Nat=>Iv (n:Int)) (List.length_map ..),rfl,trivial⟩ rfl⟩ ?_ ?_
 ·rintro _ ⟨hg,q,hq,t,ext,rfl⟩
  repeat' (first|apply qm|apply qe|apply qg|apply qf|(apply qq;(iterate 3 exact rfl))|(apply qc;exact rfl;apply ku;exact cAo)|apply zz|apply qt|(refine qi Tryz.call139 (qkj st _ _ _ _ 0 1 0 _ _ rfl rfl rfl) ?_))
  refine qn rfl (kc rfl) ⟨?_,ya _ _ _ _⟩
  unfold qsn
  have h0:=(qnx xs).2 hg
  rw [if_pos h0,h0]
  rfl
 ·rintro pre f rest _ hr ⟨hg,q,hq,t,ext,rfl⟩
  have hlen:xs.length=pre.length+(rest.length+1):=by rw [hr];simp
  have hget:(xs.map fldA)[pre.length]? = some (fldA f):=by rw [hr];simp
  obtain⟨hf1,hf2⟩:=hx.val f (by rw [hr];simp)
  by_cases hc:kw f=0
  ·have hgf:=(qcz f).1 hc
   have hb1:=qe6 pre hg
   have hb2:=qs1 hgf
   repeat' (first|apply qm|apply qx|apply qe|apply qg|apply qj|apply qf|(apply zf;exact rfl;exact rfl)|(apply qq;(iterate 3 exact rfl))|(apply qc;exact rfl;apply kz;exact cAo)|(apply qc;exact rfl;apply cd_f;exact cRa)|(apply zy;(iterate 4 exact rfl))|(apply vl;exact rfl;exact rfl)|(apply jg;exact rfl;exact rfl)|(apply zx;(iterate 3 exact rfl))|(apply jd;(iterate 5 exact rfl))|(apply zu;(iterate 11 exact rfl))|apply qu|(apply qi;exact Tryz.call189;exact qzn _ _ hf1 hf2 hc)|(apply zw (n:=pre.length);(iterate 5 exact rfl);exact hget))
   refine yp (zt f) (fun lp s=>∃ q,(q = .v (.pointer none)∨q = .bx (st.length+0) 0 0)∧StE [(4,.bx (st.length+0) 0 0),(11,jq xs),(12,Iv xs.length),(13,Iv pre.length),(25,Ss (zt f)),(26,Iv (zt f).length),(27,Iv lp.length)] st [bldO 0 q (zo pre++zj lp) (st.length+1),.tip (zo pre++zj lp).length 1 5] s) ⟨_,hq,xv ⟨rfl,rfl,rfl,rfl,rfl,congrArg (fun n:Nat=>Iv (n:Int)) (List.length_map ..),rfl,trivial⟩ (by simp [zj])⟩ ?_ ?_
   ·rintro _ ⟨q,hq,t,ext,rfl⟩
    repeat' (first|apply qm|apply qe|apply qg|apply qj|(apply qq;(iterate 3 exact rfl))|(apply qc;exact rfl;apply ku;exact cAo)|(apply zh;exact rfl;exact rfl;exact qz (by omega) (by omega))|apply zz)
    refine⟨fun x hx=>?_,q,hq,xv ⟨rfl,rfl,rfl,?_,trivial⟩ ?_⟩
    ·rcases List.mem_append.1 hx with hx|hx
     ·exact hg x hx
     ·simp at hx;subst hx;exact hgf
    ·rw [y5 pre f];rfl
    ·rw [qwa,qwb]
   ·rintro lp a lr _ hlr ⟨q,hq,t,ext,rfl⟩
    have hlen2:(zt f).length=lp.length+(lr.length+1):=by rw [hlr];simp
    have hget2:((zt f).map fun x=>Sv x)[lp.length]? = some (Sv a):=by rw [hlr];simp
    have hb3:(zj lp).length+(a.length+1)≤5000:=by
     rw [hlr,yc] at hb2
     have:a::lr=[a]++lr:=rfl
     rw [this,yc,qfl] at hb2
     simp only [List.length_append,List.length_cons,List.length_nil] at hb2
     omega
    have hct:=qkw lp
    repeat' (first|apply qm|apply qx|apply qe|apply qg|apply qj|apply qf|(apply qq;(iterate 3 exact rfl))|(apply qc;exact rfl;apply kz;exact cAo)|(apply z7;exact rfl;exact rfl;exact cOs)|(apply zx;(iterate 3 exact rfl))|apply qu|(apply zw (n:=lp.length);(iterate 5 exact rfl);exact hget2))
    refine qi Tryz.call136 (qlt st _ _ _ _ 0 1 0 _ _ _ rfl rfl ?_ ?_ rfl) ?_;(exact hq);(simp only [List.length_append,List.length_cons,List.length_nil];omega)
    repeat' (first|apply qe|apply qg|apply qj|(apply zh;exact rfl;exact rfl;exact qz (by omega) (by omega)))
    refine⟨_,.inr rfl,xv ⟨rfl,rfl,rfl,rfl,rfl,rfl,?_,trivial⟩ ?_⟩
    ·rw [y5 lp a];rfl
    ·have e:zo pre++zj (lp++[a])=(zo pre++zj lp)++(a++[10]):=by rw [yc,qfl,List.append_assoc]
     rw [e];rfl
  ·skip
   repeat' (first|apply qm|apply qx|apply qe|apply qg|apply qj|apply qf|(apply zf;exact rfl;exact rfl)|(apply qq;(iterate 3 exact rfl))|(apply qc;exact rfl;apply kz;exact cAo)|(apply qc;exact rfl;apply cd_t;exact cRa)|(apply wn;exact rfl;exact rfl)|(apply jg;exact rfl;exact rfl)|(apply zx;(iterate 3 exact rfl))|(apply jd;(iterate 5 exact rfl))|(apply zu;(iterate 11 exact rfl))|apply qu|apply qt|(apply qi;exact Tryz.call189;exact qzo _ _ hf1 hf2 hc)|(apply zw (n:=pre.length);(iterate 5 exact rfl);exact hget))
   refine qn rfl (kc rfl) ⟨?_,ya _ _ _ _⟩
   unfold qsn
   have h0:errF xs=kw f:=by rw [hr];exact q3o hg hc
   rw [h0,if_neg hc,qk4 hc]
   rfl
theorem qwp:∀ (n:Nat) (l:qa),l.length≤n→q5 (l++[10])=q5 l++[[]]
 |n,l,hn=>by
  by_cases h:10∈l
  ·have hne:l≠[]:=fun e=>by subst e;simp at h
   have hlt:=w9 (c:=10) hne
   cases n with
   |zero=>omega
   |succ n=>
    have ih:=qwp n (past 10 l) (by omega)
    have e:=v7 h
    have e2:l++[10]=upto 10 l++10::(past 10 l++[10]):=(congrArg (· ++ [10]) e).trans (by simp)
    rw [yg (by simp [h]),yg h,e2,vu _ (y7 10 l),xk _ (y7 10 l),ih]
    rfl
  ·rw [yg (by simp),yh h,vu [] h,xk [] h]
   rw [yh (by simp)]
   rfl
theorem qdy:∀ (n:Nat) (l:qa) (c:UInt8),l.length≤n→c≠10→q5 (l++[c])=(q5 l).set ((q5 l).length - 1) ((q5 l).getD ((q5 l).length - 1) []++[c])
 |n,l,c,hn,hc=>by
  by_cases h:10∈l
  ·have hne:l≠[]:=fun e=>by subst e;simp at h
   have hlt:=w9 (c:=10) hne
   cases n with
   |zero=>omega
   |succ n=>
    have ih:=qdy n (past 10 l) c (by omega) hc
    have e:=v7 h
    have e2:l++[c]=upto 10 l++10::(past 10 l++[c]):=(congrArg (· ++ [c]) e).trans (by simp)
    have hp:=qfy (past 10 l)
    have hpl:0<(q5 (past 10 l)).length:=List.length_pos_iff.2 hp
    rw [yg (by simp [h]),yg h,e2,vu _ (y7 10 l),xk _ (y7 10 l),ih]
    have e3:(upto 10 l::q5 (past 10 l)).length - 1=(q5 (past 10 l)).length - 1+1:=by simp;omega
    rw [e3,List.set_cons_succ]
    simp
  ·have h2:10∉l++[c]:=by simp [h,Ne.symm hc]
   rw [yh h,yh h2]
   simp
theorem q2r (l:qa):(q5 l).length≤l.length+1:=qb4 _ l (Nat.le_refl _)
theorem q95 (xs:List qa):flat (xs.map fun x=>Sv x)=xs.map fun x=>Sv x:=by
 induction xs with
 |nil=>rfl
 |cons a xs ih=>rw [List.map_cons,qbj,ih];rfl
set_option maxHeartbeats 2000000 in
theorem q6m (l:qa) (st:List AObj) (hl:l.length<1000000):qo E 260 [Sv l] st fun r st'=>r=Ss (q5 l)∧st'=st:=by
 refine qv (qk9 _) (qp Tryz.func260 rfl (Nat.le_of_ble_eq_true rfl) ?_)
 have h0:Vec 1 9 (st.length+0) ((q5 []).map fun x=>Sv x) (.os (st.length+0) 0 0 1 1) (.cells 0 9 [Sv []]):=by
  rw [yh (by simp)]
  exact .os 0 1 [] rfl (by simp [AV.cells]) (Nat.le_refl _) (by decide)
 repeat' (first|(apply x4;(iterate 6 exact rfl))|apply qm|apply qx|apply qe|apply qg|apply qf)
 refine yp l (fun pre s=>∃ v ob,Vec 1 9 (st.length+0) ((q5 pre).map fun x=>Sv x) v ob∧StE [(0,Sv l),(3,v),(4,Iv pre.length)] st [ob] s) ⟨_,_,h0,qce ⟨rfl,rfl,rfl,trivial⟩ rfl⟩ ?_ ?_
 ·rintro _ ⟨v,ob,hV,t,ext,rfl⟩
  repeat' (first|apply qm|apply qe|apply qg|apply qj|apply qf|(apply qq;(iterate 3 exact rfl))|(apply qc;exact rfl;apply ku;exact cAo)|(apply zl;(iterate 3 exact rfl))|apply zz|apply qt)
  exact zay (q2b 2 rfl rfl hV rfl) (qn rfl (q6 rfl) ⟨rfl,ya _ _ _ _⟩)
 ·rintro pre c rest _ hr ⟨v,ob,hV,t,ext,rfl⟩
  have hlen:l.length=pre.length+(rest.length+1):=by rw [hr];simp
  have hget:l.getD pre.length 0=c:=by rw [hr];simp
  have hsp:(l.take (pre.length+1)).drop pre.length=[c]:=by rw [hr,show pre++c::rest=(pre++[c])++rest by simp,List.take_left' (by simp),List.drop_left' rfl]
  have hpc:=q2r pre
  rcases q1t hV with⟨h0,_⟩ | ⟨ver,cap,pad,rfl,rfl,hvl,hvw,hvle,hvm⟩
  ·exact absurd (List.map_eq_nil_iff.1 h0) (qfy pre)
  simp only [List.length_map] at hvle
  have hpos:0<(q5 pre).length:=List.length_pos_iff.2 (qfy pre)
  have hml:((q5 pre).map fun x=>Sv x).length=(q5 pre).length:=by simp
  have hpl:((q5 pre).getD ((q5 pre).length - 1) []).length≤pre.length:=by
   have hlt:(q5 pre).length - 1<(q5 pre).length:=by omega
   have e:(q5 pre).getD ((q5 pre).length - 1) []=(q5 pre)[(q5 pre).length - 1]:=by simp [List.getD,hlt]
   rw [e]
   exact qek pre _ (List.getElem_mem _)
  have hdl:((l.take (pre.length+1)).drop pre.length).length=1:=by rw [hsp];rfl
  have hld:(flat ((q5 pre).map fun x=>Sv x)++pad)[0+((q5 pre).length - 1) * 1]? = some (Sv ((q5 pre).getD ((q5 pre).length - 1) [])):=by
   rw [q95,Nat.zero_add,Nat.mul_one,List.getElem?_append_left (by simp;omega),List.getElem?_map]
   have:(q5 pre)[(q5 pre).length - 1]? = some ((q5 pre).getD ((q5 pre).length - 1) []):=by
    have:(q5 pre).length - 1<(q5 pre).length:=by omega
    simp [List.getD,this]
   rw [this]
   rfl
  repeat' (first|(apply qvp;(iterate 5 exact rfl);kernel_rfl)|apply qm|apply qx|apply qe|apply qg|apply qj|(apply qq;(iterate 3 exact rfl))|(apply qc;exact rfl;apply kz;exact cAo)|(apply qc;exact rfl;apply cd_d <;> intro h)|(apply zl;(iterate 3 exact rfl))|(apply vr;(iterate 3 exact rfl);exact cAs)|(apply kl;(iterate 9 exact rfl))|apply qip|(apply q3f;(iterate 4 exact rfl))|(apply q7c;exact rfl;exact rfl;exact qz (by omega) (by omega))|(apply q3h;(iterate 4 exact rfl);exact cAs;exact cAs)|(apply qjk;exact rfl;exact rfl;exact cOs)|apply qf9|(apply qyn;exact rfl;exact rfl;exact qz (by omega) (by omega))|apply qu|(apply qjm (n:=(q5 pre).length - 1);(iterate 4 exact rfl);(simp;omega);(simp;omega))|(apply qpn;(iterate 4 exact rfl);exact hld))
  ·refine qxa (xs:=(q5 pre).map fun x=>Sv x) (ys:=[Sv []]) (sz:=1) (bytes:=16) rfl rfl rfl hV rfl rfl rfl ⟨⟨_,_,rfl,rfl,rfl,rfl,rfl⟩⟩ rfl ?_ ?_ ?_
   ·simp [maxLen];omega
   ·simp;omega
   intro a' ob' hV'
   repeat' (first|apply qe|apply qg|apply qj|apply qf|(apply zh;exact rfl;exact rfl;exact qz (by omega) (by omega)))
   have hc:c=10:=by rw [hget] at h;exact (qa4 c).1 h
   refine⟨a',ob',?_,xv ⟨rfl,rfl,?_,trivial⟩ rfl⟩
   ·rw [hc,qwp _ pre (Nat.le_refl _),List.map_append]
    exact hV'
   ·rw [y5 pre c];rfl
  ·refine qrx (k:=0) (sz:=1) rfl rfl rfl rfl rfl rfl rfl rfl rfl (by show 0+((q5 pre).length - 1) * 1+1≤_;rw [hvl];omega) ?_
   repeat' (first|apply qe|apply qg|apply qj|apply qf|(apply zh;exact rfl;exact rfl;exact qz (by omega) (by omega)))
   have hc:c≠10:=fun e=>by rw [hget] at h;exact h ((qa4 c).2 e)
   refine⟨_,_,?_,xv ⟨rfl,rfl,?_,trivial⟩ rfl⟩
   ·rw [qdy _ pre c (Nat.le_refl _) hc,← hsp]
    have:=zfz (o:=st.length+0) (T:=9) (ver:=ver) (sz:=1) hvl hvw (by simpa using hvle) hvm (i:=(q5 pre).length - 1) (x:=Sv ((q5 pre).getD ((q5 pre).length - 1) []++(l.take (pre.length+1)).drop pre.length)) rfl (by simp;omega)
    rw [← List.map_set] at this
    exact this
   ·rw [y5 pre c];rfl
theorem q0z (f:FldV) (st:List AObj) (hl:f.1.length<4294967281):qo E 259 [fldA f] st fun r st'=>r=Iv (kw f)∧st'=st:=by
 refine qv (qr _) (qp Tryz.func259 rfl (Nat.le_of_ble_eq_true rfl) ?_)
 repeat' (first|apply qm|apply qe|apply qg|apply qf|(apply qq;(iterate 3 exact rfl))|(apply z6;exact rfl)|(apply qc;exact rfl;apply cd_n <;> intro h)|(apply qc;exact rfl;apply cd_d <;> intro h)|(apply zl;(iterate 3 exact rfl))|(apply qax;(iterate 4 exact rfl))|(apply zg;(iterate 3 exact rfl))|(apply jd;(iterate 5 exact rfl))|apply qu|apply qt|(apply qi;exact Tryz.call223;exact q05 _ _ hl))
 all_goals refine qn rfl (q6 rfl) ⟨congrArg Iv (?_:_=kw f),_,rfl⟩
 ·exact (if_pos (by simp_all):kw f=5).symm
 ·exact ((if_neg (by simp_all)).trans (if_pos (by omega)):kw f=6).symm
 ·exact ((if_neg (by simp_all)).trans (if_neg (by omega)):kw f=0).symm
theorem zbz {s:qa} (h:10∉s):qy s=1↔qby s:=by
 unfold qy qby
 rw [if_neg h]
 by_cases hb:∀ c∈s,wd c
 ·rw [if_pos hb]
  exact⟨fun _=>hb,fun _=>rfl⟩
 ·rw [if_neg hb]
  refine⟨fun h=>?_,fun h=>absurd h hb⟩
  exfalso
  revert h
  repeat' split
  all_goals decide
theorem zch (l p:qa) (r:List qa) (st:List AObj) (hl:l.length<1000000) (h:q5 l=p::r):qo E 260 [Sv l] st fun x st'=>x = .sl 1 (Sv p::r.map fun x=>Sv x) none∧st'=st:=by
 have:=q6m l st hl
 rw [h] at this
 exact this
theorem q2l {f:Fld} {p:qa} {r:List qa} (h:q5 f.2=p::r):zt f=jm f.1 p::r.map fun s=>[32]++vh s:=by
 unfold zt
 rw [h]
 rfl
set_option maxHeartbeats 2000000 in
theorem q2v (f:FldV) (st:List AObj) (hl:f.1.length<4294967281) (hv:f.2.length<1000000):qo E 225 [fldA f] st fun r st'=>r=Ss (zt f)∧st'=st:=by
 refine qv (qk9 _) (qp Tryz.func225 rfl (Nat.le_of_ble_eq_true rfl) ?_)
 obtain⟨p,r,hp⟩:∃ p r,q5 f.2=p::r:=⟨_,_,qmj f.2⟩
 have hpl:p.length≤f.2.length:=qek f.2 p (by rw [hp];simp)
 have hrl:∀ x∈r,x.length≤f.2.length:=fun x hx=>qek f.2 x (by rw [hp];simp [hx])
 have hr10:∀ x∈r,10∉x:=fun x hx=>qdz f.2 x (by rw [hp];simp [hx])
 have hrn:r.length≤f.2.length:=by have:=qb4 _ f.2 (Nat.le_refl _);rw [hp] at this;simpa using this
 have hlen:(Sv p::r.map fun x=>Sv x).length=r.length+1:=by simp
 repeat' (first|(apply x4;(iterate 6 exact rfl))|apply qm|apply qx|apply qe|apply qg|apply qj|apply qf|(apply jh;(iterate 3 exact rfl))|(apply qc;exact rfl;apply cd_d <;> intro h)|(apply z7;exact rfl;exact rfl;exact cOs)|(apply qax;(iterate 4 exact rfl))|(apply zg;(iterate 3 exact rfl))|(apply zx;(iterate 3 exact rfl))|(apply jd;(iterate 5 exact rfl))|apply qu|(apply qi;exact Tryz.call260;exact zch _ _ _ _ hv hp)|(apply zw (n:=0);(iterate 6 exact rfl)))
 all_goals refine qnl 5 (o:=st.length+1) (sz:=1) (len:=1) (cap:=1) (xs:=[Sv (jm f.1 p)]) (T':=9) rfl (jl rfl) rfl rfl (by omega) (Nat.le_refl _) (by decide) (by simp [AV.cells]) ?_ ?_
 ·exact congrArg (fun l:qa=>[Sv l]) (by unfold jm;rw [if_neg (by assumption)];simp:jm f.1 p=f.1++[58]++[32]++p)
 rotate_left
 ·exact congrArg (fun l:qa=>[Sv l]) (by unfold jm;rw [if_pos (Classical.not_not.1 (by assumption)),List.append_nil]:jm f.1 p=f.1++[58])
 all_goals
  rw [q2l hp]
  refine yp r (fun pre s=>StE [(3,.sl 1 (Sv p::r.map fun x=>Sv x) none),(5,.sl 1 (Sv (jm f.1 p)::pre.map (fun s=>Sv ([32]++vh s))) (some (st.length+1))),(6,Iv (pre.length+1))] st [.cells 0 156 [Sv f.1,Sv f.2],.tip (pre.length+1) 1 9] s) (qce ⟨rfl,rfl,rfl,trivial⟩ (xh st _ 1 _)) ?_ ?_
  ·rintro _ ⟨t,ext,rfl⟩
   repeat' (first|apply qm|apply qe|apply qg|apply qj|apply qf|(apply qq;(iterate 3 exact rfl))|(apply qc;exact rfl;apply ku;exact cAo)|(apply zy;(iterate 4 exact rfl))|apply zz|apply qt)
   refine qn rfl (q4z rfl rfl (qie _ _ _)) ⟨?_,ya _ _ _ _⟩
   simp only [Ss,List.map_cons,List.map_map]
   rfl
  ·rintro pre a rest _ hr ⟨t,ext,rfl⟩
   have hrlen:r.length=pre.length+(rest.length+1):=by rw [hr];simp
   have hget:(Sv p::r.map fun x=>Sv x)[pre.length+1]? = some (Sv a):=by rw [hr];simp
   have ha:a.length≤f.2.length:=hrl a (by rw [hr];simp)
   have ha10:10∉a:=hr10 a (by rw [hr];simp)
   have hk:=zbz ha10
   have hsa:=qot a
   by_cases hb:qy a=1
   ·have hs:vh a=46::a:=if_pos (.inl (hk.1 hb))
    repeat' (first|apply qm|apply qx|apply qe|apply qg|apply qj|apply qf|(apply qq;(iterate 3 exact rfl))|(apply qw;(iterate 4 exact rfl))|(apply vo;exact cAo)|(apply qk;exact rfl;apply wh;exact cAo)|(apply qc;exact rfl;apply kz;exact cAo)|(apply qc;exact rfl;apply cd_t;exact cRa)|(apply zy;(iterate 4 exact rfl))|(apply z7;exact rfl;exact rfl;exact cOs)|(apply zh;exact rfl;exact rfl;exact qz (by omega) (by omega))|(apply zx;(iterate 3 exact rfl))|(apply kl;(iterate 9 exact rfl))|apply qu|(apply qi;exact Tryz.call108;exact qff _ _ (by omega))|(apply zw (n:=pre.length+1);(iterate 5 exact rfl);exact hget)|(apply qag (n:=pre.length+1) (m:=1) (sz:=1) (bytes:=16);(iterate 4 exact rfl);simp;exact rfl;exact rfl;exact⟨⟨_,_,rfl,rfl,rfl,rfl,rfl⟩⟩;exact rfl;exact rfl;(unfold maxLen;omega);omega;exact rfl))
    refine xv ⟨rfl,?_,?_,trivial⟩ ?_
    ·exact qja _ (fun s=>Sv ([32]++vh s)) pre a _ (congrArg (fun l:qa=>Sv ([32]++l)) hs.symm:Sv ([32,46]++a)=_)
    ·exact qq1 pre a
    ·rw [y5 pre a];rfl
   ·have hne:a≠[]:=fun e=>hb (hk.2 (by subst e;intro c hc;simp at hc))
    have hpos:0<a.length:=List.length_pos_iff.2 hne
    have hh:a.head? = some (a.getD 0 0):=by cases a with|nil=>exact absurd rfl hne|cons x y=>rfl
    have hs:vh a=if a.getD 0 0=46 then 46::a else a:=by
     unfold vh
     have hnb:¬ qby a:=fun h=>hb (hk.2 h)
     rw [hh]
     simp [hnb]
    have h46:((a.getD 0 0).toNat:Int)=46↔a.getD 0 0=46:=u8i _ 46 (by omega)
    repeat' (first|apply qm|apply qx|apply qe|apply qg|apply qj|apply qf|(apply qq;(iterate 3 exact rfl))|(apply qw;(iterate 4 exact rfl))|(apply vj;exact cAo)|(apply qk;exact rfl;apply wa;exact cAo)|(apply qc;exact rfl;apply kz;exact cAo)|(apply qc;exact rfl;apply cd_d <;> intro h)|(apply zy;(iterate 4 exact rfl))|(apply z7;exact rfl;exact rfl;exact cOs)|(apply zh;exact rfl;exact rfl;exact qz (by omega) (by omega))|(apply zx;(iterate 3 exact rfl))|(apply vr;(iterate 3 exact rfl);exact cAs)|(apply kl;(iterate 9 exact rfl))|apply qu|(apply qi;exact Tryz.call108;exact qff _ _ (by omega))|(apply zw (n:=pre.length+1);(iterate 5 exact rfl);exact hget)|(apply qag (n:=pre.length+1) (m:=1) (sz:=1) (bytes:=16);(iterate 4 exact rfl);simp;exact rfl;exact rfl;exact⟨⟨_,_,rfl,rfl,rfl,rfl,rfl⟩⟩;exact rfl;exact rfl;(unfold maxLen;omega);omega;exact rfl))
    ·have hq:((a.getD 0 0).toNat:Int)=46:=by assumption
     refine xv ⟨rfl,?_,?_,trivial⟩ ?_
     ·exact qja _ (fun s=>Sv ([32]++vh s)) pre a _ (congrArg (fun l:qa=>Sv ([32]++l)) (hs.trans (if_pos (h46.1 hq))).symm:Sv ([32,46]++a)=_)
     ·exact qq1 pre a
     ·rw [y5 pre a];rfl
    ·have hq:¬ ((a.getD 0 0).toNat:Int)=46:=by assumption
     refine xv ⟨rfl,?_,?_,trivial⟩ ?_
     ·exact qja _ (fun s=>Sv ([32]++vh s)) pre a _ (congrArg (fun l:qa=>Sv ([32]++l)) (hs.trans (if_neg (fun e=>hq (h46.2 e)))).symm:Sv ([32]++a)=_)
     ·exact qq1 pre a
     ·rw [y5 pre a];rfl
theorem qp6 (f:Fld):(zj (zt f)).length≤f.1.length+3 * f.2.length+3:=by
 have h1:=qre (q5 f.2).tail
 have h2:=congrArg List.length (qh4 _ f.2 (Nat.le_refl _))
 have h3:(jm f.1 ((q5 f.2).headD [])).length≤f.1.length+2+((q5 f.2).headD []).length:=by
  unfold jm
  split <;> simp <;> omega
 have e:zt f=[jm f.1 ((q5 f.2).headD [])]++(q5 f.2).tail.map fun s=>[32]++vh s:=rfl
 rw [e,yc,qfl]
 simp only [List.length_append,List.length_cons,List.length_nil] at h2 ⊢
 omega
theorem qso:∀ (xs:List Fld),(∀ f∈xs,f.1.length<4294967281∧f.2.length<1000000)→(zo xs).length≤5000000000 * xs.length
 | [],_=>by simp [zo]
 |f::r,h=>by
  have ih:=qso r fun x hx=>h x (by simp [hx])
  have h1:=qp6 f
  have h2:=h f (by simp)
  have e:zo (f::r)=zj (zt f)++zo r:=by simp [zo]
  rw [e,List.length_append,List.length_cons]
  omega
set_option maxHeartbeats 2000000 in
theorem qwz (xs:List FldV) (st:List AObj) (hx:qxt xs):qo E 184 [jq xs] st fun r st'=>r=Sv (zo xs)∧st'=st:=by
 refine qv (qr _) (qp Tryz.func184 rfl (Nat.le_of_ble_eq_true rfl) ?_)
 have hxl:=hx.len
 have hml:(xs.map fldA).length=xs.length:=by simp
 repeat' (first|apply qm|apply qx|apply qe|apply qg|apply qf)
 refine yp xs (fun pre s=>StE [(0,jq xs),(3,Sv (zo pre)),(4,Iv pre.length)] st [] s) (qce ⟨rfl,rfl,rfl,trivial⟩ rfl) ?_ ?_
 ·rintro _ ⟨t,ext,rfl⟩
  repeat' (first|apply qm|apply qe|apply qg|apply qj|apply qf|(apply qq;(iterate 3 exact rfl))|(apply qc;exact rfl;apply ku;exact cAo)|(apply zy;(iterate 4 exact rfl))|apply zz|apply qt)
  exact qn rfl (q6 rfl) ⟨rfl,ya _ _ _ _⟩
 ·rintro pre f rest _ hr ⟨t,ext,rfl⟩
  have hlen:xs.length=pre.length+(rest.length+1):=by rw [hr];simp
  have hget:(xs.map fldA)[pre.length]? = some (fldA f):=by rw [hr];simp
  obtain⟨hf1,hf2⟩:=hx.val f (by rw [hr];simp)
  have hb1:=qso pre fun g hg=>hx.val g (by rw [hr];simp [hg])
  have hb2:=qp6 f
  repeat' (first|apply qm|apply qx|apply qe|apply qg|apply qj|(apply qq;(iterate 3 exact rfl))|(apply qc;exact rfl;apply kz;exact cAo)|(apply zy;(iterate 4 exact rfl))|(apply zx;(iterate 3 exact rfl))|apply qu|(apply qi;exact Tryz.call225;exact q2v _ _ hf1 hf2)|(apply zw (n:=pre.length);(iterate 5 exact rfl);exact hget))
  refine yp (zt f) (fun lp s=>StE [(0,jq xs),(3,Sv (zo pre++zj lp)),(4,Iv pre.length),(17,Ss (zt f)),(18,Iv (zt f).length),(19,Iv lp.length)] st [] s) ?_ ?_ ?_
  ·refine xv ⟨rfl,?_,rfl,rfl,congrArg (fun n:Nat=>Iv (n:Int)) (List.length_map ..),rfl,trivial⟩ rfl
   exact (congrArg (fun l:qa=>Sv l) (by simp [zj]):Sv (zo pre)=Sv (zo pre++zj []))
  ·rintro _ ⟨t,ext,rfl⟩
   repeat' (first|apply qm|apply qe|apply qg|apply qj|apply qf|(apply qq;(iterate 3 exact rfl))|(apply qc;exact rfl;apply ku;exact cAo)|(apply zh;exact rfl;exact rfl;exact qz (by omega) (by omega))|apply zz)
   refine xv ⟨rfl,?_,?_,trivial⟩ rfl
   ·exact (congrArg (fun l:qa=>Sv l) (by rw [qwa,qwb]):Sv (zo pre++zj (zt f))=Sv (zo (pre++[f])))
   ·exact qc1 pre f
  ·rintro lp a lr _ hlr ⟨t,ext,rfl⟩
   have hlen2:(zt f).length=lp.length+(lr.length+1):=by rw [hlr];simp
   have hget2:((zt f).map fun x=>Sv x)[lp.length]? = some (Sv a):=by rw [hlr];simp
   have hct:=qkw lp
   have hb3:(zj lp).length+(a.length+1)≤f.1.length+3 * f.2.length+3:=by
    rw [hlr,yc] at hb2
    have:a::lr=[a]++lr:=rfl
    rw [this,yc,qfl] at hb2
    simp only [List.length_append,List.length_cons,List.length_nil] at hb2
    omega
   repeat' (first|apply qm|apply qx|apply qe|apply qg|apply qj|apply qf|(apply qq;(iterate 3 exact rfl))|(apply qc;exact rfl;apply kz;exact cAo)|(apply z7;exact rfl;exact rfl;exact cOs)|(apply zh;exact rfl;exact rfl;exact qz (by omega) (by omega))|(apply zx;(iterate 3 exact rfl))|apply qu|(apply zw (n:=lp.length);(iterate 5 exact rfl);exact hget2))
   refine xv ⟨rfl,?_,rfl,rfl,rfl,?_,trivial⟩ rfl
   ·exact (congrArg (fun l:qa=>Sv l) (by rw [yc,qfl];simp):Sv (((zo pre++zj lp)++a)++[10])=Sv (zo pre++zj (lp++[a])))
   ·exact qc1 lp a
end Go.Proofs.YtmoklbacdkmkaaaGreatDoor
namespace Go.Av
open Go Go.RowKit
@[reducible] def qta (K : Act → World → Prop) : Exit → Act → World → Prop
 | .normal,a,w=>K a w
 | _,_,_=>False
structure AZ (E:Env) (N:Nat) (ops:Array Oper) (fuel:Nat) (listed:Array Bool) (K:AS→Prop) (s:AS):Prop where
 run:∀ (B0:Nat) (w0:World) (G:Gh) (a:Act) (w:World),E.L B0 w0→Inv B0 w0 N G s a w→∀ K':Act→World→Prop,(∀ G' s' a' w',G.le G'→Inv B0 w0 N G' s' a' w'→K s'→K' a' w')→wpAnyIn (fw none) 0 E.P .any ops (qta K') fuel listed a w
structure AY (E:Env) (N:Nat) (o:Oper) (s:AS) (r:AV):Prop where
 run:∀ (B0:Nat) (w0:World) (G:Gh) (a:Act) (w:World),Inv B0 w0 N G s a w→∃ v,(∀ w',(execOp a.eval o).run E.P w' = .ok (.value v) w')∧(∀ w',o.about E.P w' a.eval=none)∧Rel G r v
section
variable {E : Env} {N : Nat} {ops : Array Oper} {K : AS → Prop} {s : AS} {fuel : Nat} {listed : Array Bool}
theorem qjn {id:Nat} {Q:Exit→AS→Prop} {n:Nat} (hm:E.P.follows .mixedOrders=true) (hn:ops.size=n) (h:AZ E N ops n (Array.replicate n false) (Q .normal) s):AWp E none N (.region id ops true) Q s:=by
 subst hn
 refine⟨fun B0 w0 G a w hL hI=>?_⟩
 have hBl:Below w.heap.size w { w with drawn:=w.drawn+1 }:=⟨rfl,rfl,rfl,Nat.le_refl _,fun _ _=>rfl⟩
 have hI2:Inv B0 w0 N G s a { w with drawn:=w.drawn+1 }:=⟨hI.agree.fresh hBl,hI.defers,hI.size,hI.tmps⟩
 have:=h.run B0 w0 G a _ hL hI2 (fun a' w'=>∃ (G':Gh) (s':AS),G.le G'∧Inv B0 w0 N G' s' a' w'∧Q .normal s') fun G' s' a' w' hG hI' hk=>⟨G',s',hG,hI',hk⟩
 refine wpIn_mono (wpIn_region_any hm this) fun e a' w' hq=>?_
 cases e with
 |normal=>exact hq
 | _=>exact hq.elim
theorem qcx (hr:Region.ready .any ops listed=[]) (h:K s):AZ E N ops fuel listed K s:=
 ⟨fun B0 w0 G a w hL hI K' hK=>wpAnyIn_done hr (hK G s a w (.refl G) hI h) fuel⟩
theorem yn (i:Nat) {oi:Oper} {r:AV} (hi:ops[i]? = some oi) (hs:Region.noSelect ops=true) (hf:Region.free .any ops listed i=true) (hr:(Region.ready .any ops listed).contains i=true) (hg:oi.guard=none) (hy:AY E N oi s r)
  (h:AZ E N ops fuel (listed.setIfInBounds i true) K (s.put oi.dst r)):AZ E N ops (fuel+1) listed K s:=by
 refine⟨fun B0 w0 G a w hL hI K' hK=>?_⟩
 obtain⟨v,h1,h2,h3⟩:=hy.run B0 w0 G a w hI
 have hwn:Region.wanted oi (yielded ops a.tmps)=true:=by simp [Region.wanted,hg]
 refine wpAnyIn_take (v:=v) rfl hi hs hf hr (fun c a w hq=>hq.elim) ⟨.inl ⟨hwn,h1⟩,h2⟩ (h.run B0 w0 G _ w hL (hI.put (.refl G) hI.agree oi.dst h3) K' fun G' s' a' w' hG hI' hk=>hK G' s' a' w' hG hI' hk)
theorem q2n {F:Fence} {n:Nat} {P:Program} {o:Oper} {a:Act} {w:World} {next X Y:Act→World→Prop} (h:o.wpIn F n P a w next (qta X)):o.wpIn F n P a w next (qta Y):=by
 unfold Oper.wpIn at *
 refine⟨h.1,?_⟩
 have h:=h.2
 generalize (o.semAt F.round a.eval).run P w=r at *
 cases r with
 |ok x w'=>
  cases x <;> simp only [Oper.uponIn] at h ⊢
  case value u=>exact h
  case skip=>exact h
  case defer d=>exact h
  case enter f args=>
   refine⟨h.1,CallsIn.mono h.2 fun e w'' he=>?_⟩
   cases e with
   |returned u=>exact he
   |panicked c=>exact he.elim
   |outgrown=>exact absurd he (by simp [LetsOut])
  case row row args=>exact h
  case round l f tmps assign body=>
   refine⟨h.1,RoundIn.mono h.2 fun e w'' he=>?_⟩
   cases e with
   |returned u=>exact he
   |panicked c=>exact he.elim
   |outgrown=>exact absurd he (by simp [LetsOut])
 |halt x w'=>
  cases x <;> simp only [Oper.uponIn] at h ⊢
  case panic u=>exact h.elim
def qxr (P:Nat→Prop):List Nat→Prop
 | []=>True
 |i::r=>P i∧qxr P r
theorem qvk {P:Nat→Prop}:∀ {l:List Nat},qxr P l→∀ i∈l,P i
 | [],_,_,h=>by simp at h
 |j::l,h,i,hi=>by
  rcases List.mem_cons.1 hi with rfl|hi
  ·exact h.1
  ·exact qvk h.2 i hi
theorem wx (rs:List Nat) (hr:Region.ready .any ops listed=rs) (hne:Nat.blt 0 rs.length=true)
  (h:qxr (fun i=>∃ o,ops[i]? = some o∧AOps E none N ops [o] (AZ E N ops fuel (listed.setIfInBounds i true) K) s) rs):AZ E N ops (fuel+1) listed K s:=by
 refine⟨fun B0 w0 G a w hL hI K' hK=>wpAnyIn_all hr (fun e=>by subst e;simp at hne) fun i hi=>?_⟩
 obtain⟨o,ho,h⟩:=qvk h i hi
 have hrun:=h.run B0 w0 G a w hL hI (qta fun a' w'=>wpAnyIn (fw none) 0 E.P .any ops (qta K') fuel (listed.setIfInBounds i true) a' w') fun G' s' a' w' hG hI' hk=>hk.run B0 w0 G' a' w' hL hI' K' fun G2 s2 a2 w2 hG2 hI2 hk2=>hK G2 s2 a2 w2 (hG.trans hG2) hI2 hk2
 unfold wpOpIn
 rw [ho]
 simp only [wpListIn] at hrun ⊢
 split
 ·rename_i hw
  rw [if_pos hw] at hrun
  exact q2n hrun
 ·rename_i hw
  rw [if_neg hw] at hrun
  exact hrun
variable {d : Option Tmp} {T : TypeId} {p : String} {af : Array Edge}
theorem zdh {op:Op} {r:AV} (hnc:∀ c,op≠.call c) (h:∀ (G:Gh) (ρ : Operand→Value),(∀ x,Rel G (ql N s x) (ρ x))→∃ v,(∀ w',(execOp ρ ⟨d,op,T,p,af,none⟩).run E.P w' = .ok (.value v) w')∧Rel G r v):AY E N ⟨d,op,T,p,af,none⟩ s r:=
 ⟨fun B0 w0 G a w hI=>let ⟨v,h1,h2⟩:=h G a.eval hI.eval;⟨v,h1,fun w'=>by unfold Oper.about;cases op <;> first|rfl|exact absurd rfl (hnc _),h2⟩⟩
theorem qah {x:Operand}:AY E N ⟨d,.move x,T,p,af,none⟩ s (ql N s x):=zdh nofun fun G ρ hρ=>⟨ρ x,fun w'=>by simp [execOp],hρ x⟩
theorem qvq {x:Operand}:AY E N ⟨d,.assign x,T,p,af,none⟩ s (ql N s x):=zdh nofun fun G ρ hρ=>⟨ρ x,fun w'=>by simp [execOp],hρ x⟩
end
theorem quc {E:Env} {rd:Option Nat} {N:Nat} {c:Code} {Q:Exit→AS→Prop} {s:AS} (I:AS→Prop) (h:AWp E rd N c (only I) s) (hk:∀ s',I s'→Q .normal s'):AWp E rd N c Q s:=h.mono fun e s' h=>by
 cases e <;> first|exact hk _ h|exact h.elim
end Go.Av
namespace Go.Proofs.YtmoklbacdkmkaaaGreatDoor
open Go Go.Av Go.RowKit Go.Proofs Go.Pl
theorem qj5 {l:qa}:qy l=4↔10∉l∧58∈l∧y6 (z4 l):=by
 unfold qy
 by_cases h10:10∈l
 ·simp [h10]
 ·rw [if_neg h10]
  constructor
  ·intro h
   split at h
   ·simp at h
   ·split at h
    ·simp at h
    ·split at h
     ·simp at h
     ·split at h
      ·rename_i hk;exact⟨h10,hk.1,hk.2⟩
      ·simp at h
  ·rintro⟨_,h58,hk⟩
   obtain⟨c,hc,hb,h35⟩:=qj4 hk
   have hh:l.head? = some c:=by
    cases l with
    |nil=>simp at h58
    |cons a r=>
     unfold z4 at hc
     rw [List.takeWhile_cons] at hc
     split at hc
     ·simpa using hc
     ·simp at hc
   have hmem:c∈l:=List.mem_of_head? hh
   rw [if_neg (fun h'=>hb (h' c hmem)),if_neg (by rw [hh];simpa using h35),if_neg (fun ⟨d,hd,hd'⟩=>by rw [hh] at hd;cases hd;exact hb hd'),if_pos ⟨h58,hk⟩]
theorem qxl {s:qa} (h:qy s=3):s≠[]:=fun e=>by subst e;revert h;decide
theorem q5z (l:qa) (st:List AObj) (hl:l.length<4294967281) (h:qy l=4):qo E 255 [Sv l] st fun r st'=>r = .tu [Sv (z4 l),Sv (ju l),Bv true]∧st'=st:=by
 refine qv (qbp _ _ _) (qp Tryz.func255 rfl (Nat.le_of_ble_eq_true rfl) ?_)
 have hc:Lib.cut l [58]=(z4 l,ju l,true):=by rw [qvz,if_pos (qj5.1 h).2.1]
 repeat' (first|apply qm|apply qe|apply qg|apply qj|apply qf|(apply zf;exact rfl;exact rfl)|(apply qq;(iterate 3 exact rfl))|(apply qc;exact rfl;apply ku;exact cAo)|apply qu|apply qt|(apply qi;exact Tryz.call165;exact qix _ _ hl)|(apply qi;exact Tryz.call96;exact qsa _ _ _ hl))
 refine qn rfl (xx rfl) ⟨q1r (?_:_=_),_,rfl⟩
 rw [hc]
theorem q2k (l:qa) (st:List AObj) (hl:l.length<4294967281) (h:qy l≠4):qo E 255 [Sv l] st fun r st'=>r = .tu [Sv [],Sv [],Bv false]∧st'=st:=by
 refine qv (qbp _ _ _) (qp Tryz.func255 rfl (Nat.le_of_ble_eq_true rfl) ?_)
 repeat' (first|apply qm|apply qe|apply qg|apply qj|apply qf|(apply qq;(iterate 3 exact rfl))|(apply qc;exact rfl;apply kz;exact cAo)|apply qt|(apply qi;exact Tryz.call165;exact qix _ _ hl))
 exact qn rfl (xx rfl) ⟨rfl,_,rfl⟩
theorem q3i {fn:Func} {s:AS} {t u:Tmp} {Ta:TypeId} {o1 v1 f1 sz1:Nat} {agg1:Bool} {T1:TypeId} {cs1:List AV} {r1:AV} (hr:fn.results = #[.cell t Ta,.tmp u]) (hx1:ql fn.ntmps s (.tmp t) = .bx o1 v1 f1) (ho1:s.st[o1]? = some (.cells v1 T1 cs1)) (ht1:tyOf E.P Ta=some (sz1,agg1)) (hl1:jw sz1 agg1 f1 cs1=some r1) :
  ARes E fn s (.tu [r1,ql fn.ntmps s (.tmp u)]):=by
 refine⟨fun B0 w0 G a w hL hI=>?_⟩
 obtain⟨b,v,h1,h2,h3⟩:=qgw hI hx1 ho1 ht1 hl1
 have hu:=hI.rd u
 refine⟨.tuple #[v,a.tmps.getD u undef],?_,qld h3 hu⟩
 simp only [Act.eval,Array.getD_eq_getD_getElem?] at h1
 simp [results,hr,h1,asAddr,h2]
def qfm (ls:List qa):AV:=.tu [fldA (zn ls).1,errN (zn ls).2]
theorem q1s (ls:List qa):Pure (qfm ls):=qc4 fun x hx=>by
 simp only [List.mem_cons,List.not_mem_nil,or_false] at hx
 rcases hx with rfl|rfl
 ·exact qla fun x hx=>by
   simp only [List.mem_cons,List.not_mem_nil,or_false] at hx
   rcases hx with rfl|rfl <;> exact qr _
 ·exact qjx _
theorem qea {fn:Func} {s:AS} {t u:Tmp} {Ta:TypeId} {st loc ext new:List AObj} {k1 v1 f1 sz1:Nat} {agg1:Bool} {T1:TypeId} {cs1:List AV} {r1:AV} (hr:fn.results = #[.cell t Ta,.tmp u]) (hs:s.st=((st++loc)++ext)++new) (hx1:ql fn.ntmps s (.tmp t) = .bx (st.length+k1) v1 f1) (ho1:loc[k1]? = some (.cells v1 T1 cs1)) (ht1:tyOf E.P Ta=some (sz1,agg1)) (hl1:jw sz1 agg1 f1 cs1=some r1) :
  ARes E fn s (.tu [r1,ql fn.ntmps s (.tmp u)]):=q3i hr hx1 (by rw [hs];exact qau ho1) ht1 hl1
theorem qpo {fn:Func} {s:AS} {t u:Tmp} {Ta:TypeId} {st loc:List AObj} {k1 v1 f1 sz1:Nat} {agg1:Bool} {T1:TypeId} {cs1:List AV} {r1:AV} (hr:fn.results = #[.cell t Ta,.tmp u]) (hs:s.st=st++loc) (hx1:ql fn.ntmps s (.tmp t) = .bx (st.length+k1) v1 f1) (ho1:loc[k1]? = some (.cells v1 T1 cs1)) (ht1:tyOf E.P Ta=some (sz1,agg1)) (hl1:jw sz1 agg1 f1 cs1=some r1) :
  ARes E fn s (.tu [r1,ql fn.ntmps s (.tmp u)]):=q3i hr hx1 (by rw [hs];exact jl ho1) ht1 hl1
structure LsB (ls:List qa):Prop where
 len:ls.length<1000000
 val:∀ s∈ls,s.length<1000000
theorem qrd:∀ (r:List qa),(∀ s∈r,s.length<1000000)→(r.flatMap fun s=>[10]++kg 46 (s.drop 1)).length≤1000001 * r.length
 | [],_=>by simp
 |a::r,h=>by
  have ih:=qrd r fun s hs=>h s (by simp [hs])
  have ha:=h a (by simp)
  have ht:(kg 46 (a.drop 1)).length≤a.length:=by unfold kg;split <;> simp <;> omega
  simp only [List.flatMap_cons,List.length_append,List.length_cons,List.length_nil]
  omega
theorem q8n (v:qa) (r:List qa):Lib.join (v::r.map fun s=>kg 46 (s.drop 1)) [10]=v++r.flatMap fun s=>[10]++kg 46 (s.drop 1):=by
 rw [Lib.join_cons]
 unfold Lib.joinTail
 rw [List.map_map,List.flatMap_def]
 rfl
theorem quq (xs:List qa) (tip:Option Nat) (sep v:qa) (st:List AObj) (h:Lib.join xs sep=v) (hN:xs.length≤140737488355328) (hl:v.length≤140737488355328):qo E 156 [.sl 1 (xs.map fun x=>Sv x) tip,Sv sep] st fun r st'=>r=Sv v∧st'=st:=by
 subst h
 exact q8m xs tip sep st hN hl
set_option maxHeartbeats 4000000 in
theorem qn1 (ls:List qa) (st:List AObj) (hB:LsB ls):qo E 216 [Ss ls] st fun r st'=>r=qfm ls∧st'=st:=by
 refine qv (q1s _) (qp Tryz.func216 rfl (Nat.le_of_ble_eq_true rfl) ?_)
 have hL:=hB.len
 have hml:(ls.map fun x=>Sv x).length=ls.length:=by simp
 cases ls with
 |nil=>
  repeat' (first|apply qm|apply qe|apply qg|apply qj|apply qf|(apply qq;(iterate 3 exact rfl))|(apply qc;exact rfl;apply cd_t;exact cRa)|(apply zy;(iterate 4 exact rfl))|(apply ka;exact rfl;exact rfl)|(apply jg;exact rfl;exact rfl)|(apply zu;(iterate 11 exact rfl))|(apply vm;(iterate 3 exact rfl))|apply qt)
  exact qn rfl (qpo rfl rfl rfl rfl rfl rfl) ⟨rfl,_,rfl⟩
 |cons l r=>
  have hl:=hB.val l (by simp)
  by_cases h4:qy l=4
  ·have hk:=qj5.1 h4
   have htr:(kg 32 (ju l)).length≤l.length:=by unfold kg ju;split <;> simp <;> omega
   simp only [List.length_cons] at hL
   repeat' (first|(apply x4;(iterate 6 exact rfl))|apply qm|apply qx|apply qe|apply qg|apply qj|apply qf|(apply zf;exact rfl;exact rfl)|(apply qq;(iterate 3 exact rfl))|(apply z6;exact rfl)|(apply qc;exact rfl;apply qhv;exact cRa)|(apply qc;exact rfl;apply cd_f;exact cRa)|(apply zy;(iterate 4 exact rfl))|(apply jg;exact rfl;exact rfl)|(apply zx;(iterate 3 exact rfl))|(apply qf8;(iterate 4 exact rfl);(first|assumption|omega|exact Nat.succ_le_succ (Nat.zero_le _)|(simp;omega));exact rfl)|apply qu|(apply qi;exact Tryz.call255;exact q5z _ _ (by omega) h4)|(apply qi;exact Tryz.call98;exact q4j _ _ _)|(apply zw (n:=0);(iterate 6 exact rfl)))
   refine qnl 7 (o:=st.length+1) (sz:=1) (len:=1) (cap:=1) (xs:=[Sv (kg 32 (ju l))]) (T':=9) rfl (jl rfl) rfl rfl (by omega) (Nat.le_refl _) (by decide) (by simp [AV.cells]) rfl ?_
   have hrm:(r.map fun x=>Sv x).length=r.length:=by simp
   refine yp r (fun pre s=>(∀ x∈pre,qy x=3)∧StE [(2,.bx (st.length+0) 0 0),(4,Sv (z4 l)),(7,.sl 1 (Sv (kg 32 (ju l))::pre.map (fun s=>Sv (kg 46 (s.drop 1)))) (some (st.length+1))),(33,.sl 1 (r.map fun x=>Sv x) none),(34,Iv r.length),(35,Iv pre.length)] st [.cells 0 156 [Sv [],Sv []],.tip (pre.length+1) 1 9] s) ⟨by simp,qce ⟨rfl,rfl,rfl,rfl,congrArg (fun n:Nat=>Iv (n:Int)) hrm,rfl,trivial⟩ (xh st _ 1 _)⟩ ?_ ?_
   ·rintro _ ⟨h3,t,ext,rfl⟩
    have hok:qrk (l::r):=⟨by simp,h4,h3⟩
    have hjl:=qrd r fun s hs=>hB.val s (by simp [hs])
    have hj:=q8n (kg 32 (ju l)) r
    have hjv:Lib.join (kg 32 (ju l)::r.map fun s=>kg 46 (s.drop 1)) [10]=qbu l r:=hj
    have hvl:(qbu l r).length≤140737488355328:=by
     unfold qbu
     rw [List.length_append]
     omega
    have hmm:(Sv (kg 32 (ju l))::r.map fun s=>Sv (kg 46 (s.drop 1)))=(kg 32 (ju l)::r.map fun s=>kg 46 (s.drop 1)).map fun x=>Sv x:=by simp [List.map_map]
    rw [hmm]
    have hkl:(z4 l).length<4294967281:=by have:=hk.2.2.2.1;omega
    have hun:zn (l::r)=if 1000<(qbu l r).length then (([],[]),6) else ((z4 l,qbu l r),0):=if_pos hok
    by_cases hv:1000<(qbu l r).length
    ·have hcf:kw (z4 l,qbu l r)=6:=(if_neg (by simpa using hk.2.2)).trans (if_pos hv)
     repeat' (first|apply qm|apply qe|apply qg|apply qj|(apply qq;(iterate 3 exact rfl))|(apply qc;exact rfl;apply ku;exact cAo)|apply zz)
     refine qi Tryz.call156 (quq (kg 32 (ju l)::r.map fun s:qa=>kg 46 (s.drop 1)) _ _ _ _ hjv ?_ hvl) ?_
     ·simp;omega
     repeat' (first|apply qm|apply qe|apply qg|apply qj|apply qf|(apply qc;exact rfl;apply cd_t;exact cRa)|(apply wn;exact rfl;exact rfl)|(apply jg;exact rfl;exact rfl)|(apply qat;(iterate 11 exact rfl))|(apply jd;(iterate 5 exact rfl))|(apply zu;(iterate 11 exact rfl))|(apply vm;(iterate 3 exact rfl))|apply qt|(apply qi;exact Tryz.call226;exact qiw (z4 l,qbu l r) _ hkl (by rw [hcf];decide)))
     refine qn rfl (qea rfl rfl rfl rfl rfl rfl) ⟨?_,ya _ _ _ _⟩
     unfold qfm
     rw [hun,if_pos hv]
     exact congrArg (fun n:Int=>AV.tu [fldA ([],[]),.ifc 76 (Iv n)]) hcf
    ·have hcf:kw (z4 l,qbu l r)=0:=(if_neg (by simpa using hk.2.2)).trans (if_neg hv)
     repeat' (first|apply qm|apply qe|apply qg|apply qj|apply qf|(apply qq;(iterate 3 exact rfl))|(apply qc;exact rfl;apply ku;exact cAo)|(apply qc;exact rfl;apply cd_f;exact cRa)|(apply vl;exact rfl;exact rfl)|(apply jg;exact rfl;exact rfl)|(apply qat;(iterate 11 exact rfl))|(apply jd;(iterate 5 exact rfl))|(apply zu;(iterate 11 exact rfl))|(apply vm;(iterate 3 exact rfl))|apply qu|apply zz|apply qt|(refine qi Tryz.call156 (quq (kg 32 (ju l)::r.map fun s:qa=>kg 46 (s.drop 1)) _ _ _ _ hjv ?_ hvl) ?_;(simp;omega))|(apply qi;exact Tryz.call226;exact qiv (z4 l,qbu l r) _ hkl hcf))
     refine qn rfl (qea rfl rfl rfl rfl rfl rfl) ⟨?_,ya _ _ _ _⟩
     unfold qfm
     rw [hun,if_neg hv]
     rfl
   ·rintro pre a rest _ hr ⟨h3,t,ext,rfl⟩
    have hrlen:r.length=pre.length+(rest.length+1):=by rw [hr];simp
    have hget:(r.map fun x=>Sv x)[pre.length]? = some (Sv a):=by rw [hr];simp
    have ha:=hB.val a (by rw [hr];simp)
    by_cases hka:qy a=3
    ·have hpos:1≤a.length:=List.length_pos_iff.2 (qxl hka)
     repeat' (first|apply qm|apply qx|apply qe|apply qg|apply qj|apply qf|(apply qq;(iterate 3 exact rfl))|(apply qc;exact rfl;apply kz;exact cAo)|(apply qc;exact rfl;apply ku;exact cAo)|(apply zh;exact rfl;exact rfl;exact qz (by omega) (by omega))|(apply zx;(iterate 3 exact rfl))|(apply qe3;(iterate 3 exact rfl);exact cAs)|(apply kl;(iterate 9 exact rfl))|apply qu|(apply qi;exact Tryz.call165;exact qix _ _ (by omega))|(apply qi;exact Tryz.call98;exact q4j _ _ _)|(apply zw (n:=pre.length);(iterate 5 exact rfl);exact hget)|(apply qag (n:=pre.length+1) (m:=1) (sz:=1) (bytes:=16);(iterate 4 exact rfl);simp;exact rfl;exact rfl;exact⟨⟨_,_,rfl,rfl,rfl,rfl,rfl⟩⟩;exact rfl;exact rfl;(unfold maxLen;omega);omega;exact rfl))
     refine⟨fun x hx=>?_,xv ⟨rfl,rfl,?_,rfl,rfl,?_,trivial⟩ ?_⟩
     ·rcases List.mem_append.1 hx with hx|hx
      ·exact h3 x hx
      ·simp at hx;subst hx;exact hka
     ·exact qja _ (fun s:qa=>Sv (kg 46 (s.drop 1))) pre a _ rfl
     ·exact qc1 pre a
     ·rw [y5 pre a];rfl
    ·skip
     repeat' (first|apply qm|apply qx|apply qe|apply qg|apply qj|apply qf|(apply qq;(iterate 3 exact rfl))|(apply qc;exact rfl;apply kz;exact cAo)|(apply ka;exact rfl;exact rfl)|(apply zx;(iterate 3 exact rfl))|(apply qat;(iterate 11 exact rfl))|(apply vm;(iterate 3 exact rfl))|apply qu|apply qt|(apply qi;exact Tryz.call165;exact qix _ _ (by omega))|(apply zw (n:=pre.length);(iterate 5 exact rfl);exact hget))
     have hno:zn (l::r)=(([],[]),2):=if_neg fun h=>hka (h.2.2 a (by rw [hr];simp))
     refine qn rfl (qea rfl rfl rfl rfl rfl rfl) ⟨?_,ya _ _ _ _⟩
     unfold qfm
     rw [hno]
     rfl
  ·have hno:zn (l::r)=(([],[]),2):=if_neg fun h=>h4 h.2.1
   simp only [List.length_cons] at hL
   repeat' (first|apply qm|apply qe|apply qg|apply qj|apply qf|(apply zf;exact rfl;exact rfl)|(apply qq;(iterate 3 exact rfl))|(apply z6;exact rfl)|(apply qc;exact rfl;apply qjr;exact cRa)|(apply qc;exact rfl;apply cd_f;exact cRa)|(apply zy;(iterate 4 exact rfl))|(apply ka;exact rfl;exact rfl)|(apply jg;exact rfl;exact rfl)|(apply zx;(iterate 3 exact rfl))|(apply zu;(iterate 11 exact rfl))|(apply vm;(iterate 3 exact rfl))|apply qu|apply qt|(apply qi;exact Tryz.call255;exact q2k _ _ (by omega) h4)|(apply zw (n:=0);(iterate 6 exact rfl)))
   refine qn rfl (qpo rfl rfl rfl rfl rfl rfl) ⟨?_,_,rfl⟩
   unfold qfm
   rw [hno]
   rfl
theorem q9f (l:qa) (st:List AObj) (hl:l.length<4294967281) (h:qy l=4):qo E 179 [Sv l] st fun r st'=>r = .tu [Sv (z4 l),Sv (ju l),Bv true]∧st'=st:=by
 have:=q00 l st hl
 have e:qem l=(z4 l,ju l,true):=if_pos (qj5.1 h)
 rw [e] at this
 exact this
theorem qur {s:qa} (h:qy s=3):2≤s.length∧10∉s:=by
 have h10:10∉s:=fun h'=>by unfold qy at h;rw [if_pos h'] at h;simp at h
 refine⟨?_,h10⟩
 unfold qy at h
 rw [if_neg h10] at h
 split at h
 ·simp at h
 ·rename_i hb
  split at h
  ·simp at h
  ·split at h
   ·rename_i hbl
    obtain⟨c,hc,hcb⟩:=hbl
    match s,hc with
    | [a],hc=>
     simp at hc
     subst hc
     exact absurd (by simpa using hcb) hb
    |a::b::r,_=>simp
   ·split at h <;> simp at h
def qbr (ls:List qa):AV:=.tu [fldA (zn ls).1,Iv (zn ls).2]
theorem qtm (ls:List qa):Pure (qbr ls):=qc4 fun x hx=>by
 simp only [List.mem_cons,List.not_mem_nil,or_false] at hx
 rcases hx with rfl|rfl
 ·exact qla fun x hx=>by
   simp only [List.mem_cons,List.not_mem_nil,or_false] at hx
   rcases hx with rfl|rfl <;> exact qr _
 ·exact qr _
def accU (l:qa) (pre:List qa):qa:=kg 32 (ju l)++pre.flatMap fun s=>[10]++kg 46 (s.drop 1)
theorem q64 (l:qa) (pre:List qa) (a:qa):accU l (pre++[a])=(accU l pre++[10])++kg 46 (a.drop 1):=by
 unfold accU
 rw [List.flatMap_append]
 simp
theorem zaq (l:qa) (pre:List qa) (h:∀ s∈pre,s.length<1000000):(accU l pre).length≤l.length+1000001 * pre.length:=by
 have htr:(kg 32 (ju l)).length≤l.length:=by unfold kg ju;split <;> simp <;> omega
 have:=qrd pre h
 unfold accU
 rw [List.length_append]
 omega
theorem zdt (c:UInt8):((c.toNat:Nat):Int)=46↔c=46:=u8i c 46 (by omega)
theorem qq4 {α : Type} {P : α→Prop} {pre:List α} {a : α} (h:∀ x∈pre,P x) (ha:P a):∀ x∈pre++[a],P x:=fun x hx=>by
 rcases List.mem_append.1 hx with hx|hx
 ·exact h x hx
 ·simp at hx;subst hx;exact ha
end Go.Proofs.YtmoklbacdkmkaaaGreatDoor
namespace Go.Pl
open Go Go.Proofs
structure LnV where
 no:Nat
 at':Nat
 text:qa
 ended : Bool
def vd (k a:Nat) (l:qa):List LnV:=if h:l=[] then [] else⟨k,a,upto 10 l,decide (10∈l)⟩::vd (k+1) (a+(upto 10 l).length+1) (past 10 l)
 termination_by l.length
 decreasing_by exact w9 h
def lns (l:qa):List LnV:=vd 0 0 l
theorem qaj (k a:Nat):vd k a []=[]:=by unfold vd;simp
theorem qak {k a:Nat} {l:qa} (h:l≠[]):vd k a l=⟨k,a,upto 10 l,decide (10∈l)⟩::vd (k+1) (a+(upto 10 l).length+1) (past 10 l):=by
 conv=>lhs;unfold vd
 rw [dif_neg h]
def whole (l:qa):Prop:=l=[]∨l.getLast? = some 10
theorem q60 {l:qa} (h:whole l) (hne:l≠[]):10∈l∧whole (past 10 l):=by
 have hl:l.getLast? = some 10:=h.resolve_left hne
 have h10:10∈l:=List.mem_of_getLast? hl
 refine⟨h10,?_⟩
 by_cases hp:past 10 l=[]
 ·exact .inl hp
 ·refine .inr ?_
  have e:=v7 h10
  rw [e] at hl
  rw [List.getLast?_append,List.getLast?_cons] at hl
  cases hg:(past 10 l).getLast? with
  |none=>exact absurd (List.getLast?_eq_none_iff.1 hg) hp
  |some c=>rw [hg] at hl;simpa using hl
theorem qus:∀ (n:Nat) (d x:qa) (k a:Nat),d.length≤n→whole d→vd k a (d++x)=vd k a d++vd (k+(vd k a d).length) (a+d.length) x
 |n,d,x,k,a,hn,hw=>by
  by_cases hd:d=[]
  ·subst hd
   simp [qaj]
  ·obtain⟨h10,hw'⟩:=q60 hw hd
   have e:=v7 h10
   have hlt:=w9 (c:=10) hd
   cases n with
   |zero=>omega
   |succ n=>
    have e2:d++x=upto 10 d++10::(past 10 d++x):=(congrArg (· ++ x) e).trans (by simp)
    have hu:upto 10 (d++x)=upto 10 d:=by rw [e2];exact vu _ (y7 10 d)
    have hp:past 10 (d++x)=past 10 d++x:=by rw [e2];exact xk _ (y7 10 d)
    have hdl:d.length=(upto 10 d).length+1+(past 10 d).length:=by
     have:=congrArg List.length e
     simp at this
     omega
    rw [qak (l:=d++x) (by simp [hd]),qak hd,hu,hp,qus n (past 10 d) x _ _ (by omega) hw']
    have h1:10∈d++x:=by simp [h10]
    simp only [h1,h10,List.cons_append,List.length_cons]
    congr 2
    have e3:∀ m:Nat,k+1+m=k+(m+1):=fun m=>by omega
    rw [e3]
    congr 1
    omega
theorem ze2 {c:qa} (k a:Nat) (h:10∉c):vd k a (c++[10])=[⟨k,a,c,true⟩]:=by
 rw [qak (by simp),vu [] h,xk [] h,qaj]
 simp
theorem zb3 {c:qa} (k a:Nat) (h:10∉c) (hne:c≠[]):vd k a c=[⟨k,a,c,false⟩]:=by
 rw [qak hne,ww h]
 have:past 10 c=[]:=by
  unfold past
  rw [ww h]
  simp
 rw [this,qaj]
 simp [h]
theorem qch:∀ (n:Nat) (l:qa) (k a:Nat),l.length≤n→(vd k a l).length≤l.length
 |n,l,k,a,hn=>by
  by_cases h:l=[]
  ·subst h;simp [qaj]
  ·have hlt:=w9 (c:=10) h
   cases n with
   |zero=>omega
   |succ n=>
    rw [qak h,List.length_cons]
    have:=qch n (past 10 l) (k+1) (a+(upto 10 l).length+1) (by omega)
    omega
theorem qwk:∀ (n:Nat) (l:qa) (k a:Nat),l.length≤n→(vd k a l).map (fun x=>(x.text,x.ended))=zq l
 |n,l,k,a,hn=>by
  by_cases h:l=[]
  ·subst h;simp [qaj,vt]
  ·have hlt:=w9 (c:=10) h
   cases n with
   |zero=>omega
   |succ n=>rw [qak h,wp h,List.map_cons,qwk n _ _ _ (by omega)]
end Go.Pl
namespace Go.Proofs.YtmoklbacdkmkaaaGreatDoor
open Go Go.Av Go.RowKit Go.Proofs Go.Pl
@[reducible] def lnA (x : LnV) : AV := .ag [Iv x.no, Iv x.at', Sv x.text, Bv x.ended]
@[reducible] def lnsA (xs : List LnV) : AV := .sl 4 (xs.map lnA) none
theorem zcn (xs:List LnV):Pure (lnsA xs):=qa9 fun x hx=>by
 simp only [List.mem_map] at hx
 obtain⟨f,_,rfl⟩:=hx
 intro y hy
 simp [AV.cells] at hy
 rcases hy with rfl|rfl|rfl|rfl <;> exact qr _
set_option maxHeartbeats 4000000 in
theorem qh7 (l:qa) (st:List AObj) (hl:l.length<100000000):qo E 61 [Sv l] st fun r st'=>r=lnsA (lns l)∧st'=st:=by
 refine qv (zcn _) (qp Tryz.func61 rfl (Nat.le_of_ble_eq_true rfl) ?_)
 repeat' (first|apply qm|apply qx|apply qe|apply qg|apply qf)
 refine q44 (i:=3) (sz:=4) (T':=122) rfl ?_
 refine yp l (fun pre s=>∃ d c,pre=d++c∧whole d∧10∉c∧StE [(0,Sv l),(3,.sl 4 ((lns d).map lnA) (some (st.length+0))),(4,Iv d.length),(5,Iv pre.length)] st [.tip (lns d).length 4 122] s) ⟨[],[],rfl,.inl rfl,by simp,qce ⟨rfl,?_,rfl,rfl,trivial⟩ ?_⟩ ?_ ?_
 ·rw [show lns []=[] from qaj 0 0];simp;rfl
 ·rw [show lns []=[] from qaj 0 0];show (st++[])++[AObj.tip 0 4 _]=_;simp
 ·rintro _ ⟨d,c,hdc,hw,hc,t,ext,rfl⟩
  have hll:l.length=d.length+c.length:=by rw [hdc];simp
  have hcnt:=qch _ d 0 0 (Nat.le_refl _)
  have hcnt':(lns d).length≤d.length:=hcnt
  have hml:((lns d).map lnA).length=(lns d).length:=by simp
  have happ:lns l=lns d++vd (lns d).length d.length c:=by
   unfold lns
   rw [hdc,qus _ d c 0 0 (Nat.le_refl _) hw]
   simp
  have hfrom:l.drop d.length=c:=by rw [hdc];simp
  repeat' (first|apply qm|apply qe|apply qg|apply qj|apply qf|(apply qq;(iterate 3 exact rfl))|(apply qc;exact rfl;apply ku;exact cAo)|(apply qc;exact rfl;apply cd_d <;> intro h)|(apply zl;(iterate 3 exact rfl))|(apply zy;(iterate 4 exact rfl))|(apply qe3;(iterate 3 exact rfl);exact cAs)|(apply vm;(iterate 3 exact rfl))|(apply kl;(iterate 9 exact rfl))|apply qu|apply zz|apply qt|(apply qag (n:=(lns d).length) (m:=1) (sz:=4) (bytes:=40);(iterate 4 exact rfl);exact hml;exact rfl;exact rfl;exact⟨⟨_,_,rfl,rfl,rfl,rfl,rfl⟩⟩;exact rfl;exact rfl;(unfold maxLen;omega);omega;exact rfl))
  ·have hne:c≠[]:=fun e=>by subst e;simp at hll;omega
   have e:AV.sl 4 ((lns d).map lnA++[AV.ag [Iv ((lns d).map lnA).length,Iv d.length,Sv (l.drop d.length),Bv false]]) none=AV.sl 4 ((lns l).map lnA) none:=by
    rw [happ,zb3 _ _ hc hne,hml,hfrom,List.map_append]
    rfl
   exact qn rfl (qr2 rfl rfl) ⟨e,ya _ _ _ _⟩
  ·have hce:c=[]:=List.length_eq_zero_iff.1 (by omega)
   refine qn rfl (qr2 rfl rfl) ⟨?_,ya _ _ _ _⟩
   rw [happ,hce,qaj,List.append_nil]
 ·rintro pre a rest _ hr ⟨d,c,hdc,hw,hc,t,ext,rfl⟩
  have hlen:l.length=pre.length+(rest.length+1):=by rw [hr];simp
  have hpl:pre.length=d.length+c.length:=by rw [hdc];simp
  have hget:l.getD pre.length 0=a:=by rw [hr];simp
  have hcnt:=qch _ d 0 0 (Nat.le_refl _)
  have hcnt':(lns d).length≤d.length:=hcnt
  have hml:((lns d).map lnA).length=(lns d).length:=by simp
  have hsp:(l.take pre.length).drop d.length=c:=by rw [hr,List.take_left' rfl,hdc,List.drop_left' rfl]
  repeat' (first|apply qm|apply qx|apply qe|apply qg|apply qj|apply qf|(apply qq;(iterate 3 exact rfl))|(apply qc;exact rfl;apply kz;exact cAo)|(apply qc;exact rfl;apply cd_d <;> intro h)|(apply zl;(iterate 3 exact rfl))|(apply zy;(iterate 4 exact rfl))|(apply zh;exact rfl;exact rfl;exact qz (by omega) (by omega))|(apply vr;(iterate 3 exact rfl);exact cAs)|(apply qg5;(iterate 4 exact rfl);exact cAs;exact cAs)|(apply vm;(iterate 3 exact rfl))|(apply kl;(iterate 9 exact rfl))|apply qu|(apply qag (n:=(lns d).length) (m:=1) (sz:=4) (bytes:=40);(iterate 4 exact rfl);exact hml;exact rfl;exact rfl;exact⟨⟨_,_,rfl,rfl,rfl,rfl,rfl⟩⟩;exact rfl;exact rfl;(unfold maxLen;omega);omega;exact rfl))
  ·have ha:a=10:=by have h:=(qa4 _).1 (by assumption:((l.getD pre.length 0).toNat:Int)=10);rw [hget] at h;exact h
   have happ:lns (d++(c++[10]))=lns d++[⟨(lns d).length,d.length,c,true⟩]:=by
    unfold lns
    rw [qus _ d (c++[10]) 0 0 (Nat.le_refl _) hw,ze2 _ _ hc]
    simp
   refine⟨d++(c++[10]),[],by rw [ha,hdc];simp,.inr (by simp),by simp,xv ⟨rfl,?_,?_,qc1 pre a,trivial⟩ ?_⟩
   ·have e:AV.sl 4 ((lns d).map lnA++[AV.ag [Iv ((lns d).map lnA).length,Iv d.length,Sv ((l.take pre.length).drop d.length),Bv true]]) (some (st.length+0))=AV.sl 4 ((lns (d++(c++[10]))).map lnA) (some (st.length+0)):=by
     rw [happ,hml,hsp,List.map_append]
     rfl
    exact e
   ·have e:Iv ((pre.length:Int)+1)=Iv ((d++(c++[10])).length:Nat):=by
     have:(d++(c++[10])).length=pre.length+1:=by simp;omega
     rw [this]
     rfl
    exact e
   ·rw [happ,y5];rfl
  ·have ha:a≠10:=fun e=>absurd (by rw [hget];exact (qa4 _).2 e:((l.getD pre.length 0).toNat:Int)=10) (by assumption)
   exact⟨d,c++[a],by rw [hdc];simp,hw,by simp [hc,Ne.symm ha],xv ⟨rfl,rfl,rfl,qc1 pre a,trivial⟩ rfl⟩
end Go.Proofs.YtmoklbacdkmkaaaGreatDoor
namespace Go.Pl
open Go Go.Proofs
def indF (by':qa) (ls:List (qa×Bool)):qa:=ls.flatMap fun x=>by'++x.1++w8 x.2
def y3 (by' l:qa):qa:=indF by' (zq l)
theorem ql4 (by':qa) (a b:List (qa×Bool)):indF by' (a++b)=indF by' a++indF by' b:=by simp [indF]
theorem ql6 (by':qa) (x:qa×Bool):indF by' [x]=by'++x.1++w8 x.2:=by simp [indF]
def lsum (ls:List (qa×Bool)):Nat:=(ls.map fun x=>x.1.length+(w8 x.2).length).sum
theorem qe9:∀ (n:Nat) (l:qa),l.length≤n→lsum (zq l)=l.length∧(zq l).length≤l.length
 |n,l,hn=>by
  by_cases h:l=[]
  ·subst h;simp [vt,lsum]
  ·have hlt:=w9 (c:=10) h
   cases n with
   |zero=>omega
   |succ n=>
    obtain⟨h1,h2⟩:=qe9 n (past 10 l) (by omega)
    rw [wp h]
    unfold lsum at h1 ⊢
    simp only [List.map_cons,List.sum_cons,List.length_cons]
    rw [h1]
    have hp:=kp 10 l
    have hu:=ko 10 l
    by_cases h10:10∈l
    ·have:=qd7 h10
     simp [h10,w8]
     omega
    ·have hu2:(upto 10 l).length=l.length:=by rw [ww h10]
     have hpos:=List.length_pos_iff.2 h
     simp [h10,w8]
     omega
theorem ql5 (by':qa):∀ (ls:List (qa×Bool)),(indF by' ls).length=lsum ls+by'.length * ls.length
 | []=>by simp [indF,lsum]
 |x::r=>by
  have ih:=ql5 by' r
  simp only [indF,lsum,List.flatMap_cons,List.length_append,List.map_cons,List.sum_cons,List.length_cons] at ih ⊢
  rw [ih,Nat.mul_add]
  omega
theorem qz2 (a b:List (qa×Bool)):lsum (a++b)=lsum a+lsum b:=by simp [lsum]
end Go.Pl
namespace Go.Proofs.YtmoklbacdkmkaaaGreatDoor
open Go Go.Av Go.RowKit Go.Proofs Go.Pl
theorem q91 (text:List UInt8) (st loc:List AObj) (n:Nat) (hn:loc.length=n):qo E 100 [Sv text] (st++loc) fun r st1=>r = .fn (.func 163) [] [.bx (st.length+n) 0 0]∧st1=st++(loc++[.cells 0 9 [Sv text]]):=
 qu6 text (st++loc) _ (st.length+n) (by simp [hn]) (by rw [List.append_assoc])
theorem q8l (b sep:qa) (st:List AObj) (hl:b.length≤140737488355328):qo E 156 [.sl 1 [Sv b] none,Sv sep] st fun r st'=>r=Sv b∧st'=st:=
 quq [b] none sep b st (by simp [Lib.join,List.intercalate]) (by simp) hl
theorem zgq {st a b ext:List AObj} {m:Nat} (h:((st++a)++ext).length=m) (e:b.length=a.length):((st++b)++ext).length=m:=by
 simp only [List.length_append] at h ⊢
 omega
set_option maxHeartbeats 2000000 in
theorem zbw (text by':qa) (st:List AObj) (hl:text.length<100000000) (hb:by'.length<1000):qo E 138 [Sv text,.sl 1 [Sv by'] none] st fun r st'=>r=Sv (y3 by' text)∧st'=st:=by
 refine qv (qr _) (qp Tryz.func138 rfl (Nat.le_of_ble_eq_true rfl) ?_)
 obtain⟨hsum,hcnt⟩:=qe9 _ text (Nat.le_refl _)
 repeat' (first|(apply qkf;exact rfl)|apply qm|apply qx|apply qe|apply qg|apply qj|apply qf|(apply jg;exact rfl;exact rfl)|(apply zu;(iterate 11 exact rfl))|(apply qi;exact Tryz.call156;exact q8l _ _ _ (by omega))|(refine qi Tryz.call100 (q91 _ _ _ _ rfl) ?_))
 refine qud (st:=st) text rfl rfl (by omega) (fun k rest l=>∃ q don,(q = .v (.pointer none)∨q = .bx (st.length+0) 0 0)∧zq text=don++zq rest∧l=[bldO 0 q (indF by' don) (st.length+1),.tip (indF by' don).length 1 5,.cells 0 9 [Sv by'],.cells 0 9 [Sv text]]) (fun _ _=>False)
  ⟨_,[],.inl rfl,rfl,rfl⟩ (fun k rest l ⟨q,don,_,_,e⟩=>by subst e;exact⟨rfl,rfl⟩) (fun _ _ h=>h.elim) ?_ ?_ (fun _ _ _ h=>h.elim)
 ·rintro F own rd k rest _ ext m hF ⟨q,don,hq,hd,rfl⟩ hne hle hm1 hm2
  have hmem:zq rest=(upto 10 rest,decide (10∈rest))::zq (past 10 rest):=wp hne
  have hu:=ko 10 rest
  have hlen:=ql5 by' (don++[(upto 10 rest,decide (10∈rest))])
  have he:zq text=(don++[(upto 10 rest,decide (10∈rest))])++zq (past 10 rest):=by rw [hd,hmem];simp
  have hs2:lsum (don++[(upto 10 rest,decide (10∈rest))])+lsum (zq (past 10 rest))=text.length:=by rw [← qz2,← he];exact hsum
  have hc2:(don++[(upto 10 rest,decide (10∈rest))]).length+(zq (past 10 rest)).length≤text.length:=by rw [← List.length_append,← he];exact hcnt
  have hm:by'.length * (don++[(upto 10 rest,decide (10∈rest))]).length≤1000 * 100000000:=Nat.mul_le_mul (by omega) (by omega)
  rw [ql4,ql6] at hlen
  simp only [List.length_append] at hlen hm hc2
  repeat' (first|(apply q1x;exact rfl;assumption;exact rfl)|(apply qbc;exact rfl;assumption;(iterate 10 exact rfl))|apply qe|apply qg)
  refine⟨_,rfl,rfl,?_⟩
  repeat' (first|apply qm|apply qx|apply qe|apply qg|(apply qc;exact rfl;apply cd_d <;> intro h)|(apply z7;exact rfl;exact rfl;exact cOs)|(apply zg;(iterate 3 exact rfl))|(apply qm1;(iterate 5 exact rfl))|apply qu|(apply qb6;exact rfl;exact zgq hm2 rfl;(iterate 4 exact rfl))|(refine qi Tryz.call136 (qlt st _ _ _ _ 0 1 0 _ _ _ rfl rfl ?_ ?_ rfl) ?_;(first|exact hq|exact .inr rfl);(simp only [List.length_append,List.length_cons,List.length_nil];omega)))
  all_goals
   have hx:indF by' (don++[(upto 10 rest,decide (10∈rest))])=(indF by' don++(by'++upto 10 rest))++w8 (decide (10∈rest)):=by
    rw [ql4,ql6];simp
   refine⟨[bldO 0 (.bx (st.length+0) 0 0) (indF by' (don++[(upto 10 rest,decide (10∈rest))])) (st.length+1),.tip (indF by' (don++[(upto 10 rest,decide (10∈rest))])).length 1 5,.cells 0 9 [Sv by'],.cells 0 9 [Sv text]],ext,[.cells 0 181 (qdu k text rest).cells],?_,_,_,.inr rfl,he,rfl⟩
  ·have h10:10∈rest:=by simp_all
   rw [hx,show w8 (decide (10∈rest))=[10] by simp [h10,w8]]
   rfl
  ·have h10:10∉rest:=by simp_all
   have hx2:indF by' (don++[(upto 10 rest,decide (10∈rest))])=indF by' don++(by'++upto 10 rest):=by
    rw [hx];simp [h10,w8]
   rw [hx2]
   rfl
 ·rintro k _ ext ⟨q,don,hq,hd,rfl⟩
  repeat' (first|apply qm|apply qe|apply qg|apply qf|apply qt|(refine qi Tryz.call139 (qkj st _ _ _ _ 0 1 0 _ _ rfl rfl rfl) ?_))
  refine qxe (k:=4) rfl rfl rfl (qn rfl (q6 rfl) ⟨congrArg (fun l:qa=>Sv l) (?_:_=y3 by' text),ya _ _ _ _⟩)
  rw [vt,List.append_nil] at hd
  unfold y3
  rw [hd]
end Go.Proofs.YtmoklbacdkmkaaaGreatDoor
namespace Go.Pl
open Go Go.Proofs
def vz (x:LnV):qa×Bool:=(x.text,x.ended)
theorem qoa (l:qa):(lns l).map vz=zq l:=qwk _ l 0 0 (Nat.le_refl _)
end Go.Pl
namespace Go.Proofs.YtmoklbacdkmkaaaGreatDoor
open Go Go.Av Go.RowKit Go.Proofs Go.Pl
set_option maxHeartbeats 2000000 in
theorem q2z (text by':qa) (st:List AObj) (hl:text.length<100000000) (hb:by'.length<1000):qo E 183 [Sv text,Sv by'] st fun r st'=>r=Sv (y3 by' text)∧st'=st:=by
 refine qv (qr _) (qp Tryz.func183 rfl (Nat.le_of_ble_eq_true rfl) ?_)
 obtain⟨hsum,hcnt⟩:=qe9 _ text (Nat.le_refl _)
 have hp:=qoa text
 have hpl:(lns text).length=(zq text).length:=by rw [← hp,List.length_map]
 have hml:((lns text).map lnA).length=(lns text).length:=by simp
 repeat' (first|apply qm|apply qx|apply qe|apply qg|apply qj|apply qf|(apply zy;(iterate 4 exact rfl))|(apply qi;exact Tryz.call61;exact qh7 _ _ hl))
 refine yp (lns text) (fun pre s=>StE [(1,Sv by'),(5,Sv (indF by' (pre.map vz))),(9,lnsA (lns text)),(10,Iv (lns text).length),(11,Iv pre.length)] st [] s) (qce ⟨rfl,rfl,rfl,congrArg (fun n:Nat=>Iv (n:Int)) hml,rfl,trivial⟩ rfl) ?_ ?_
 ·rintro _ ⟨t,ext,rfl⟩
  repeat' (first|apply qm|apply qe|apply qg|apply qj|apply qf|(apply qq;(iterate 3 exact rfl))|(apply qc;exact rfl;apply ku;exact cAo)|apply zz|apply qt)
  refine qn rfl (q6 rfl) ⟨congrArg (fun l:qa=>Sv l) (?_:indF by' ((lns text).map vz)=_),ya _ _ _ _⟩
  rw [hp]
  rfl
 ·rintro pre a rest _ hr ⟨t,ext,rfl⟩
  have hlen:(lns text).length=pre.length+(rest.length+1):=by rw [hr];simp
  have hget:((lns text).map lnA)[pre.length]? = some (lnA a):=by rw [hr];simp
  have he:zq text=(pre.map vz++[vz a])++rest.map vz:=by rw [← hp,hr];simp
  have hs2:lsum (pre.map vz++[vz a])+lsum (rest.map vz)=text.length:=by rw [← qz2,← he];exact hsum
  have hil:=ql5 by' (pre.map vz++[vz a])
  have hm:by'.length * (pre.map vz++[vz a]).length≤1000 * 100000000:=Nat.mul_le_mul (by omega) (by rw [List.length_append,List.length_map];simp;omega)
  rw [ql4,ql6] at hil
  have e1:(vz a).1=a.text:=rfl
  have e2:(vz a).2=a.ended:=rfl
  rw [e1,e2] at hil
  simp only [List.length_append] at hil hm
  have hx:indF by' ((pre++[a]).map vz)=((indF by' (pre.map vz)++by')++a.text)++w8 a.ended:=by
   rw [List.map_append,List.map_singleton,ql4,ql6,e1,e2];simp
  cases hae:a.ended
  ·have hx2:indF by' ((pre++[a]).map vz)=(indF by' (pre.map vz)++by')++a.text:=by rw [hx,hae];simp [w8]
   rw [hae] at hil
   repeat' (first|apply qm|apply qx|apply qe|apply qg|apply qj|apply qf|(apply qq;(iterate 3 exact rfl))|(apply qc;exact rfl;apply kz;exact cAo)|(apply qc;exact rfl;apply cd_f;exact cRa)|(apply z7;exact rfl;exact rfl;exact cOs)|(apply zh;exact rfl;exact rfl;exact qz (by omega) (by omega))|(apply jg;exact rfl;exact rfl)|(apply zg;(iterate 3 exact rfl))|(apply zx;(iterate 3 exact rfl))|(apply jd;(iterate 5 exact rfl))|(apply zu;(iterate 11 exact rfl))|apply qu|(apply zw (n:=pre.length);(iterate 5 exact rfl);exact hget))
   exact xv ⟨rfl,congrArg (fun l:qa=>Sv l) hx2.symm,rfl,rfl,qc1 pre a,trivial⟩ rfl
  ·have hx2:indF by' ((pre++[a]).map vz)=((indF by' (pre.map vz)++by')++a.text)++[10]:=by rw [hx,hae];simp [w8]
   rw [hae] at hil
   have hle:(w8 true).length=1:=rfl
   repeat' (first|apply qm|apply qx|apply qe|apply qg|apply qj|apply qf|(apply qq;(iterate 3 exact rfl))|(apply qc;exact rfl;apply kz;exact cAo)|(apply qc;exact rfl;apply cd_t;exact cRa)|(apply z7;exact rfl;exact rfl;exact cOs)|(apply zh;exact rfl;exact rfl;exact qz (by omega) (by omega))|(apply jg;exact rfl;exact rfl)|(apply zg;(iterate 3 exact rfl))|(apply zx;(iterate 3 exact rfl))|(apply jd;(iterate 5 exact rfl))|(apply zu;(iterate 11 exact rfl))|apply qu|(apply zw (n:=pre.length);(iterate 5 exact rfl);exact hget))
   exact xv ⟨rfl,congrArg (fun l:qa=>Sv l) hx2.symm,rfl,rfl,qc1 pre a,trivial⟩ rfl
end Go.Proofs.YtmoklbacdkmkaaaGreatDoor
namespace Go.Av
open Go Go.RowKit
def TipC (b:Nat) (st:List AObj) (sz:Nat) (T:TypeId) (xs:List AV) (c:AV):Prop:=(xs=[]∧c=zk)∨∃ t,c = .sl sz xs (some t)∧st[t]? = some (.tip xs.length sz T)∧b≤t
structure Fr (st st':List AObj) (t:Nat):Prop where
 len:st.length≤st'.length
 same:∀ k,k≠t→k<st.length→st'[k]? = st[k]?
theorem zdb (b:Nat) (st:List AObj) (sz:Nat) (T:TypeId):TipC b st sz T [] zk:=.inl ⟨rfl,rfl⟩
theorem qjd {b:Nat} {st l:List AObj} {sz:Nat} {T:TypeId} {xs:List AV} {c:AV} (h:TipC b st sz T xs c):TipC b (st++l) sz T xs c:=by
 rcases h with h | ⟨t,h1,h2,h3⟩
 ·exact .inl h
 ·exact .inr ⟨t,h1,by rw [List.getElem?_append_left (lt_of_getElem? h2)];exact h2,h3⟩
section
variable {E : Env} {rd : Option Nat} {N : Nat} {ops : Array Oper} {K : AS → Prop} {s : AS} {rest : List Oper} {d : Option Tmp} {T : TypeId} {p : String} {af : Array Edge}
theorem qye {x y:Operand} {t u T':TypeId} {sz bytes b:Nat} {xs ys:List AV} {tip:Option Nat} {c:AV} {st:List AObj} (hst:s.st=st) (hx:ql N s x=c) (hc:TipC b st sz T' xs c) (hb:b≤st.length) (hy:ql N s y = .sl sz ys tip)
  (ht:E.P.underlying t=some (.slice T')) (hu:E.P.underlying u=some (.slice T')) (hT:x7 E.P T' sz bytes) (hone:jy (flat ys)=true) (h63:xs.length+ys.length≤maxLen) (hby:(xs.length+ys.length) * bytes≤140737488355328)
  (h:∀ t1 st',st'[t1]? = some (.tip (xs++ys).length sz T')→b≤t1→Fr st st' t1→(c = .sl sz xs (some t1)∨st.length≤t1)→AOps E rd N ops rest K (AS.put ⟨s.t,st',s.df⟩ d (.sl sz (xs++ys) (some t1)))):AOps E rd N ops (⟨d,.call ⟨.builtin .append,#[x,y],#[t,u]⟩,T,p,af,none⟩::rest) K s:=by
 subst hst
 refine zb rfl (za nofun fun B0 w0 G a w _ hI=>?_)
 rcases hc with⟨hxs,hcn⟩ | ⟨t1,h1,h2,h3⟩
 ·subst hxs
  have hle:=G.le_new 0 0 0 false
  have hA:=hI.agree.newTip sz T'
  have hv:a.eval x = .slice none 0 0:=hI.evalv (hx.trans hcn)
  have hn:=hI.agree.n
  obtain⟨news,k1,k2,k3⟩:=yr (P:=E.P) hA ((hI.eval_of hy).mono hle) (by simpa [jy] using hone)
  have hr:Rel (G.new 0 0 0 false) (.sl sz [] (some s.st.length)) (a.eval x):=by
   rw [hv]
   exact .sl0 sz _ none 0 fun t ht=>by simp only [Option.some.injEq] at ht;subst ht;exact⟨by simp [Gh.new,hn],rfl,rfl⟩
  obtain⟨v',w',G',e1,e2,e3,e4⟩:=qb5 (ty:=T) hA ht hu (.inr ⟨_,rfl⟩) hT (t:=s.st.length) (n:=0) (by simp) hr rfl rfl k1 k2 k3 (by simpa using h63) (by simpa using hby)
  refine⟨v',w',G',_,_,?_,hle.trans e2,e3,e4,h s.st.length _ ?_ hb ⟨by simp,fun k hk hlt=>?_⟩ (.inr (Nat.le_refl _))⟩
  ·generalize a.eval = ρ at e1
   simp [execOp,resolve,invoke,builtin,e1]
  ·simp
  ·rw [List.getElem?_set_ne (Ne.symm hk),List.getElem?_append_left hlt]
 ·obtain⟨news,k1,k2,k3⟩:=yr (P:=E.P) hI.agree (hI.eval_of hy) (by simpa [jy] using hone)
  obtain⟨v',w',G',e1,e2,e3,e4⟩:=qb5 (ty:=T) hI.agree ht hu (.inr ⟨_,rfl⟩) hT h2 (hI.eval_of (hx.trans h1)) rfl rfl k1 k2 k3 h63 hby
  refine⟨v',w',G',_,_,?_,e2,e3,e4,h t1 _ ?_ h3 ⟨by simp,fun k hk hlt=>?_⟩ (.inl h1)⟩
  ·generalize a.eval = ρ at e1
   simp [execOp,resolve,invoke,builtin,e1]
  ·rw [List.length_append]
   exact kh h2
  ·rw [List.getElem?_set_ne (Ne.symm hk)]
theorem qng {t:TypeId} {x:Operand} {r:AV} {cs:List AV} (hx:ql N s x=r) (hok:r.okc=true) (hc:r.cells=cs)
  (h:AOps E rd N ops rest K (s.put d (.pp cs))):AOps E rd N ops (⟨d,.box t x,T,p,af,none⟩::rest) K s:=by
 refine zb rfl (za nofun fun B0 w0 G a w _ hI=>?_)
 have hr:=(hI.eval_of hx).cells hok
 rw [hc] at hr
 obtain⟨hle,hA⟩:=hI.agree.newPub t (a.eval x).cells (0,0) (a.eval x).cells.toList (fun i y hy=>by simpa using hy)
 have hrun:(execOp a.eval ⟨d,.box t x,T,p,af,none⟩).run E.P w = .ok (.value (.pointer (some ⟨w.heap.size,0,none⟩))) (w.alloc (.cells (a.eval x).cells t)):=by
  generalize a.eval = ρ
  simp [execOp,Instr.box,newVar,newRow,newObj,Sem.run]
 refine⟨_,_,_,.pp cs,s.st,hrun,hle,hA,.pp cs w.heap.size 0 (a.eval x).cells.toList (by simp [Gh.publish]) (by rw [hr.1];simp) fun i x y hx hy=>(hr.2 i x y hx (by simpa using hy)).mono hle,h⟩
end
theorem qpg {E:Env} {f:FuncId} {x x':AV} {us:List AV} {st:List AObj} {R:AV→List AObj→Prop} (hw:∀ G v,Rel G x v→Rel G x' v) (h:qo E f (x'::us) st R):qo E f (x::us) st R:=
 ⟨fun B0 w0 G vals w hL hA hR=>h.run B0 w0 G vals w hL hA ⟨by have:=hR.1;simpa using this,fun i a b ha hb=>by
  cases i with
  |zero=>simp at ha;subst ha;exact hw G b (hR.2 0 x b rfl hb)
  |succ i=>exact hR.2 (i+1) a b (by simpa using ha) hb⟩⟩
theorem qb0 {st l:List AObj} {o:Nat} {x:AObj} (h:st[o]? = some x):(st++l)[o]? = some x:=by
 rw [List.getElem?_append_left (lt_of_getElem? h)];exact h
theorem xp {st:List AObj} {x:AObj}:(st++[x])[st.length]? = some x:=by simp
section
variable {E : Env} {rd : Option Nat} {N : Nat} {ops : Array Oper} {K : AS → Prop} {s : AS} {rest : List Oper} {d : Option Tmp} {T : TypeId} {p : String} {af : Array Edge}
theorem qkg {t:TypeId} {st:List AObj} {cs:List AV} (hst:s.st=st) (hz:qif E.P t=some cs)
  (h:AOps E rd N ops rest K (AS.put ⟨s.t,st++[.cells 0 t cs],s.df⟩ d (.bx st.length 0 0))):AOps E rd N ops (⟨d,.alloc t,T,p,af,none⟩::rest) K s:=
 jg (loc:=[]) (by rw [hst];simp) hz h
theorem q68 {t:TypeId} {x:Operand} {st:List AObj} {r:AV} {cs:List AV} (hst:s.st=st) (hx:ql N s x=r) (hok:r.okc=true) (hc:r.cells=cs)
  (h:AOps E rd N ops rest K (AS.put ⟨s.t,st++[.cells 0 t cs],s.df⟩ d (.bx st.length 0 0))):AOps E rd N ops (⟨d,.box t x,T,p,af,none⟩::rest) K s:=
 qax (loc:=[]) (by rw [hst];simp) hx hok hc h
end
theorem qly {st st':List AObj} (hl:st.length≤st'.length) (h:∀ k,k<st.length→st'[k]? = st[k]?):∃ ext,st'=st++ext:=by
 refine⟨st'.drop st.length,?_⟩
 apply List.ext_getElem?
 intro k
 by_cases hk:k<st.length
 ·rw [h k hk,List.getElem?_append_left hk]
 ·rw [List.getElem?_append_right (by omega),List.getElem?_drop]
  congr 1
  omega
end Go.Av
namespace Go.Proofs.YtmoklbacdkmkaaaGreatDoor
open Go Go.Av Go.RowKit Go.Proofs
def qi0 (x:Option AObj):Prop:=∀ n sz T,x≠some (.tip n sz T)
theorem qae {ver:Nat} {T:TypeId} {cs:List AV} {x:Option AObj} (h:x=some (.cells ver T cs)):qi0 x:=fun n sz T' e=>by
 rw [h] at e
 simp at e
end Go.Proofs.YtmoklbacdkmkaaaGreatDoor
namespace Go.Proofs.YtmoklbacdkmkaaaGreatDoor
open Go Go.Av Go.RowKit Go.Proofs Go.Pl
structure Ext (n:Nat) (S S':List AObj):Prop where
 len:S.length≤S'.length
 low:∀ k,k<n→S'[k]? = S[k]?
 tips:∀ (t m sz:Nat) (T:TypeId),S[t]? = some (AObj.tip m sz T)→S'[t]? = S[t]?
theorem qig {n:Nat} {S l:List AObj} (h:n≤S.length):Ext n S (S++l):=⟨by simp,fun k hk=>List.getElem?_append_left (by omega),fun t m sz T ht=>List.getElem?_append_left (lt_of_getElem? ht)⟩
theorem qdt {n o:Nat} {S:List AObj} {x:AObj} (h:n≤o) (hn:qi0 S[o]?):Ext n S (S.set o x):=⟨by simp,fun k hk=>List.getElem?_set_ne (by omega),fun t m sz T ht=>List.getElem?_set_ne (fun e=>by subst e;exact hn _ _ _ ht)⟩
theorem Ext.weak {n m:Nat} {S S':List AObj} (h:Ext n S S') (hm:m≤n):Ext m S S':=⟨h.len,fun k hk=>h.low k (by omega),h.tips⟩
theorem Ext.trans {n:Nat} {S S' S'':List AObj} (h:Ext n S S') (k:Ext n S' S''):Ext n S S'':=⟨Nat.le_trans h.len k.len,fun i hi=>(k.low i hi).trans (h.low i hi),fun t m sz T ht=>(k.tips t m sz T ((h.tips t m sz T ht).trans ht)).trans (h.tips t m sz T ht)⟩
theorem q90 (text:List UInt8) (o kb ver n m:Nat) (I:Nat→List UInt8→List AObj→Prop) (D:List AObj→Prop) (S:List AObj) (hm:S.length=m) (hn:n≤m) (ht:text.length<4294967281) (h0:I 0 text S)
  (hI:∀ k rest S',I k rest S'→S'[kb]? = some (.cells ver 9 [Sv text]))
  (hst:∀ k rest S' S'',Ext n S' S''→I k rest S'→I k rest S'')
  (hY:∀ k rest S' cs,I k rest S'→S'[m]? = some (.cells 0 181 cs)→rest≠[]→rest.length≤text.length→yu E o [qdu k text rest] S' fun b S''=>S''[m]? = some (.cells 0 181 cs)∧(b=true→I (k+1) (past 10 rest) S'')∧(b=false→D S'')) :
  qo E 163 [.yd o,.bx kb ver 0] S fun r S'=>(∃ k,I k [] S')∨D S':=by
 subst hm
 refine qp Tryz.func163 rfl (Nat.le_of_ble_eq_true rfl) ?_
 have hb:=hI 0 text S h0
 repeat' (first|apply qm|apply qx|apply qe|apply qg|apply qf|(apply jg;exact rfl;exact rfl)|(apply zu;(iterate 11 exact rfl))|(apply vm;(iterate 3 exact rfl))|(apply qa5;exact rfl;exact rfl;exact hb;exact rfl;exact rfl))
 refine j5 (fun (x:Nat×List UInt8) s=>match x with|(k,rest)=>∃ S' at' ta eb,I k rest S'∧k+rest.length≤text.length∧at'=(text.length:Int) - rest.length∧S'[S.length]? = some (.cells 0 181 [Iv k,Iv at',Sv ta,Bv eb])∧StA [(0,.yd o),(1,.bx kb ver 0),(3,.bx S.length 0 0),(4,Sv rest)] S' [] s) (fun x=>x.2.length) (0,text)
  ⟨_,0,[],false,hst _ _ _ _ (qig hn) h0,by simp,by simp,jl (k:=0) rfl,ja ⟨rfl,rfl,rfl,rfl,trivial⟩⟩ ?_
 rintro⟨k,rest⟩ _ ⟨S',_,ta,eb,hi,hle,rfl,hown,t,rfl⟩
 have hb':=hI k rest S' hi
 repeat' (first|apply qm|apply qx|apply qe|apply qg|apply qj|apply qf|(apply zf;exact rfl;exact rfl)|(apply jh;(iterate 3 exact rfl))|(apply qc;exact rfl;apply cd_d <;> intro h)|(apply zg;(iterate 3 exact rfl))|apply qu|apply zz|(apply qi;exact Tryz.call96;exact qir _ _ _ (by omega))|(apply kv;exact rfl;(focus first|assumption|(repeat' (first|assumption|exact xp|exact jl rfl|apply kh|apply va|omega|apply qb0)));exact rfl;exact rfl)|(apply yo;exact rfl;exact rfl;(focus first|assumption|(repeat' (first|assumption|exact xp|exact jl rfl|apply kh|apply va|omega|apply qb0)));(iterate 6 exact rfl)))
 ·have e1:Ext n S' ((S'.set S.length (.cells 0 181 [Iv k,Iv ((text.length:Int) - rest.length),Sv (upto 10 rest),Bv eb])).set S.length (.cells 0 181 [Iv k,Iv ((text.length:Int) - rest.length),Sv (upto 10 rest),Bv (decide (10∈rest))])):=
   (qdt hn (qae hown)).trans (qdt hn (qae (kh hown)))
  apply qdp (o:=o) rfl
  refine yu.mono (hY k rest _ _ (hst _ _ _ _ e1 hi) (kh (kh hown)) h (by omega)) ?_
  rintro b S2 ⟨hown2,h1,h2⟩
  show AOps _ _ _ _ _ _ _
  cases b
  ·skip
   repeat' (first|apply qg|(apply z6;exact rfl)|(apply qc;exact rfl;apply qjr;exact cRa)|apply qt)
   exact qn rfl (qac rfl) (.inr (h2 rfl))
  ·have hi3:=h1 rfl
   have hb3:=hI _ _ _ hi3
   have hp:=kp 10 rest
   have hr0:0<rest.length:=List.length_pos_iff.2 h
   have hkb:kb≠S.length:=fun e=>by
    rw [e,hown2] at hb3
    simp at hb3
   repeat' (first|apply qm|apply qe|apply qg|apply qj|(apply z6;exact rfl)|(apply qc;exact rfl;apply qhv;exact cRa)|(apply zl;(iterate 3 exact rfl))|(apply zh;exact rfl;exact rfl;exact qz (by omega) (by omega))|(apply xc;exact rfl;exact rfl;exact qz (by omega) (by omega))|(apply zg;(iterate 3 exact rfl))|apply qu|(apply kv;exact rfl;exact va hb3 (Ne.symm hkb);exact rfl;exact rfl)|(apply kv;exact rfl;(focus first|assumption|(repeat' (first|assumption|exact xp|exact jl rfl|apply kh|apply va|omega|apply qb0)));exact rfl;exact rfl)|(apply yo;exact rfl;exact rfl;(focus first|assumption|(repeat' (first|assumption|exact xp|exact jl rfl|apply kh|apply va|omega|apply qb0)));(iterate 6 exact rfl)))
   have e2:Ext n S2 _:=(qdt hn (qae hown2)).trans (qdt (x:=.cells 0 181 [Iv ((k:Int)+1),Iv ((text.length:Int) - (past 10 rest).length),Sv (upto 10 rest),Bv (decide (10∈rest))]) hn (qae (kh (y:=.cells 0 181 [Iv ((k:Int)+1),Iv ((text.length:Int) - rest.length),Sv (upto 10 rest),Bv (decide (10∈rest))]) hown2)))
   exact⟨(k+1,past 10 rest),⟨_,_,_,_,hst _ _ _ _ e2 hi3,by omega,rfl,kh (kh hown2),ja ⟨rfl,rfl,rfl,rfl,trivial⟩⟩,by simp only;omega⟩
 ·have hr:rest=[]:=Classical.not_not.1 h
  subst hr
  exact qn rfl (qac rfl) (.inl ⟨k,hi⟩)
structure ItC (g:FuncId) (T:TypeId) (cs:List AV) {ι : Type} (Y : ι→Option (AV×ι)) (i0 : ι):Prop where
 run:∀ (o kb n m:Nat) (I : ι→List AObj→Prop) (D:List AObj→Prop) (S:List AObj),S.length=m→n≤m→I i0 S →
  (∀ i S',I i S'→S'[kb]? = some (.cells 0 T cs))→(∀ i S' S'',Ext n S' S''→I i S'→I i S'') →
  (∀ i x j S' (own:List AObj),I i S'→(∀ k y,own[k]? = some y→S'[m+k]? = some y∧qi0 (some y))→Y i=some (x,j)→yu E o [x] S' fun b S''=>(∀ k y,own[k]? = some y→S''[m+k]? = some y)∧(b=true→I j S'')∧(b=false→D S'')) →
  qo E g [.yd o,.bx kb 0 0] S fun r S'=>(∃ i,Y i=none∧I i S')∨D S'
def qos (text:List UInt8):Nat×List UInt8→Option (AV×(Nat×List UInt8))
 |(k,rest)=>if rest=[]∨text.length<rest.length then none else some (qdu k text rest,(k+1,past 10 rest))
theorem zc6 (text:List UInt8) (ht:text.length<4294967281):ItC 163 9 [Sv text] (qos text) (0,text):=⟨fun o kb n m I D S hm hn h0 hI hst hY=>by
 refine (q90 text o kb 0 n m (fun k rest S=>I (k,rest) S∧rest.length≤text.length) D S hm hn ht ⟨h0,Nat.le_refl _⟩ (fun k rest S' h=>hI _ _ h.1) (fun k rest S' S'' hE h=>⟨hst _ _ _ hE h.1,h.2⟩) (fun k rest S' cs hi hown hne hle=>?_)).mono ?_
 ·refine (hY (k,rest) (qdu k text rest) (k+1,past 10 rest) S' [.cells 0 181 cs] hi.1 (fun j y hy=>?_) (if_neg fun h=>h.elim hne (by omega))).mono fun b S'' ⟨h1,h2,h3⟩=>⟨by have:=h1 0 _ rfl;simpa using this,fun hb=>⟨h2 hb,by have:=kp 10 rest;omega⟩,h3⟩
  match j with
  | 0=>
   simp only [List.getElem?_cons_zero,Option.some.injEq] at hy
   subst hy
   exact⟨hown,qae rfl⟩
  |j+1=>simp at hy
 ·rintro r S' (⟨k,h⟩|h)
  ·exact .inl ⟨(k,[]),by simp [qos],h.1⟩
  ·exact .inr h⟩
@[reducible] def zg7 (n : Nat) (F : LoopState → Option Code → AObj) (own : List AObj) (I : List AObj → Prop) (D : Code → List AObj → Prop) : Exit → AS → Prop
 | .normal,s=>s.st[n]? = some .dfr∧s.st[n+1]? = some (F .busy none)∧(∀ k y,own[k]? = some y→s.st[n+2+k]? = some y)∧I s.st
 | .ret,s=>s.st[n]? = some .dfr∧s.st[n+1]? = some (F .busy none)∧(∀ k y,own[k]? = some y→s.st[n+2+k]? = some y)∧D .ret s.st
 | .exit id,s=>s.st[n]? = some .dfr∧s.st[n+1]? = some (F .busy none)∧(∀ k y,own[k]? = some y→s.st[n+2+k]? = some y)∧D (.exit id) s.st
 | _,_=>False
theorem qi1 {N:Nat} {t:Nat→AV} {ps:Array Tmp} {asg body:Code} {F:LoopState→Option Code→AObj} (hF:qli F N t ps asg body) (ls:LoopState) (pend:Option Code) {x:Option AObj} (h:x=some (F ls pend)):qi0 x:=fun n sz T' e=>by
 rw [h,hF] at e
 simp at e
theorem qyr {N:Nat} {Q:Exit→AS→Prop} {s:AS} {f:Operand} {p:Tmp} {asg body:Code} {S0:List AObj} {kb:Nat} {g:FuncId} {T:TypeId} {cs:List AV} {ι : Type} {Y : ι→Option (AV×ι)} {i0 : ι} (hit:ItC g T cs Y i0) (hst:s.st=S0) (hx:ql N s f = .fn (.func g) [] [.bx kb 0 0])
  (hrun:∀ vs w,(callFunc g vs).run E.P w = .ok (.enter g vs) w)
  (I : ι→List AObj→Prop) (D:Code→List AObj→Prop) (h0:I i0 S0)
  (hI:∀ i S,I i S→S[kb]? = some (.cells 0 T cs))
  (hs1:∀ i S S',Ext S0.length S S'→I i S→I i S') (hs2:∀ c S S',Ext S0.length S S'→D c S→D c S')
  (hb:∀ F (own:List AObj) rd i x j S,qli F N s.t #[p] asg body→I i S→Y i=some (x,j)→S[S0.length]? = some .dfr→S[S0.length+1]? = some (F .ready none)→(∀ k y,own[k]? = some y→S[S0.length+2+k]? = some y∧qi0 (some y)) →
   AWp E (some rd) N asg (only fun s1=>s1.st[S0.length+1]? = some (F .ready none)∧s1.df=[]∧AWp E (some rd) N body (zg7 S0.length F own (I j) D) ⟨s1.t,s1.st.set (S0.length+1) (F .busy none),[]⟩) ⟨put s.t p x,S,[]⟩)
  (hn:∀ i S,Y i=none→I i S→S[S0.length]? = some .dfr→Q .normal ⟨s.t,S,S0.length::s.df⟩)
  (hd:∀ c S,D c S→S[S0.length]? = some .dfr→AWp E none N c Q ⟨s.t,S,S0.length::s.df⟩):AWp E none N (.rangeFunc f #[p] asg body) Q s:=by
 refine qls (st:=S0) (loc:=[]) (by rw [hst];simp) hx hrun fun F hF=>?_
 have hl:(S0++([]++[AObj.dfr,F .ready none])).length=S0.length+2:=by simp
 have g1:(S0++([]++[AObj.dfr,F .ready none]))[S0.length]? = some .dfr:=by simp
 have g2:(S0++([]++[AObj.dfr,F .ready none]))[S0.length+1]? = some (F .ready none):=by simp
 have hz:S0.length+(([]:List AObj).length+1)=S0.length+1:=by simp
 rw [hz,show S0.length+([]:List AObj).length=S0.length from rfl]
 refine qo.mono (hit.run (S0.length+1) kb (S0.length+2) (S0.length+2) (fun i S=>I i S∧S[S0.length]? = some .dfr∧S[S0.length+1]? = some (F .ready none)) (fun S=>∃ c,D c S∧S[S0.length]? = some .dfr∧S[S0.length+1]? = some (F .done (some c))) (S0++([]++[.dfr,F .ready none])) hl (Nat.le_refl _) ⟨hs1 _ _ _ (qig (Nat.le_refl _)) h0,g1,g2⟩ (fun i S h=>hI i S h.1) (fun i S S' hE h=>⟨hs1 _ _ _ (hE.weak (by omega)) h.1,(hE.low _ (by omega)).trans h.2.1,(hE.low _ (by omega)).trans h.2.2⟩) ?_) ?_
 ·rintro i x j S' own ⟨hi,hd1,hf1⟩ hown hy
  refine qqk hF hf1 rfl fun rd=>?_
  refine (hb F own rd i x j S' hF hi hy hd1 hf1 hown).mono fun e s1 hq=>?_
  have fin:∀ {S:List AObj} {z:AObj},(∀ k y,own[k]? = some y→S[S0.length+2+k]? = some y)→∀ k y,own[k]? = some y→(S.set (S0.length+1) z)[S0.length+2+k]? = some y:=fun h k y hk=>va (h k y hk) (by omega)
  cases e with
  |normal=>
   obtain⟨q1,q2,q3⟩:=hq
   refine⟨q1,q2,q3.mono fun e s2 hq2=>?_⟩
   cases e with
   |normal=>
    obtain⟨k1,k2,k3,k4⟩:=hq2
    exact⟨k2,fin k3,fun _=>⟨hs1 _ _ _ (qdt (by omega) (qi1 hF _ _ k2)) k4,va k1 (by omega),kh k2⟩,nofun⟩
   |ret=>
    obtain⟨k1,k2,k3,k4⟩:=hq2
    exact⟨k2,fin k3,nofun,fun _=>⟨_,hs2 _ _ _ (qdt (by omega) (qi1 hF _ _ k2)) k4,va k1 (by omega),kh k2⟩⟩
   |exit id=>
    obtain⟨k1,k2,k3,k4⟩:=hq2
    exact⟨k2,fin k3,nofun,fun _=>⟨_,hs2 _ _ _ (qdt (by omega) (qi1 hF _ _ k2)) k4,va k1 (by omega),kh k2⟩⟩
   | _=>exact hq2.elim
  | _=>exact hq.elim
 ·rintro r S' (⟨i,hy,hi,hd1,hf1⟩ | ⟨c,hi,hd1,hf1⟩)
  ·exact⟨.ready,none,nofun,hf1,hn i _ hy (hs1 _ _ _ (qdt (by omega) (qi1 hF _ _ hf1)) hi) (va hd1 (by omega))⟩
  ·exact⟨.done,some c,nofun,hf1,hd c _ (hs2 _ _ _ (qdt (by omega) (qi1 hF _ _ hf1)) hi) (va hd1 (by omega))⟩
end Go.Proofs.YtmoklbacdkmkaaaGreatDoor
namespace Go.Av
open Go Go.RowKit
theorem qro {P:Program} {B0:Nat} {w0:World} {G:Gh} {st:List AObj} {w:World} (hA:zi B0 w0 G st w) {tt u ty T:TypeId} {du:TypeDesc} (htt:P.underlying tt=some (.slice T)) (hu:P.underlying u=some du) (hd:qil du)
  {sz bytes:Nat} (hT:x7 P T sz bytes) {t n m:Nat} (ht:st[t]? = some (.tip n sz T)) {xs ys:List AV} {x:Value} (hn:xs.length=n) (hm:ys.length=m)
  {news:List Value} (hx:Src P w x m sz news) (hys:∀ y∈ys,y.cells.length=sz) (hrel:∀ (i:Nat) (a:AV) (b:Value),(flat ys)[i]? = some a→news[i]? = some b→Rel G a b)
  (h63:n+m≤maxLen) (base:Option Addr) (c:Nat) (olds:List Value) (ho:(Builtin.firstCells sz n (.slice base n c)).run P w.drew = .ok olds.toArray w.drew) (hc:c<n+m) (hol:olds.length=n * sz) (hfx:(flat xs).length=n * sz) (hwx:∀ x∈xs,x.cells.length=sz)
  (hrx:∀ (j:Nat) (a:AV) (b:Value),(flat xs)[j]? = some a→olds[j]? = some b→Rel G a b) (hfit:Builtin.nextslicecap (n+m) c * bytes≤281474976710656) (hm0:m≠0) :
  ∃ v' w' G',(Builtin.append_ #[tt,u] ty #[.slice base n c,x]).run P w = .ok v' w'∧G.le G'∧zi B0 w0 G' (st.set t (.tip (n+m) sz T)) w'∧Rel G' (.sl sz (xs++ys) (some t)) v':=by
 obtain⟨i,z,hi,hz,rfl,rfl,hzs⟩:=hT.ex
 obtain⟨hraw,hver,htip⟩:=hA.ob t _ ht
 have htn:t<G.n:=by rw [hA.n];exact lt_of_getElem? ht
 have hlt:G.n=st.length:=hA.n
 have hk:=hA.kill t
 have hkt:(st.set t .dead)[t]? = some .dead:=qaz ht
 have hother:∀ o x,(st.set t .dead)[o]? = some x→x.live→o≠t∧st[o]? = some x:=fun o x hx hl=>by
  rcases getElem?_set' _ _ _ _ _ hx with⟨_,e⟩ | ⟨h1,h2⟩
  ·subst e;exact hl.elim
  ·exact⟨h1,h2⟩
 have hset:(st.set t AObj.dead).set t (.tip (n+m) i.size T)=st.set t (.tip (n+m) i.size T):=by rw [List.set_set]
 have hself:st.set t (.tip n i.size T)=st:=by
  apply List.ext_getElem?
  intro k
  by_cases e:t=k
  ·subst e;rw [List.getElem?_set_self (lt_of_getElem? ht)];exact ht.symm
  ·rw [List.getElem?_set_ne e]
 have hrun:=qf3 (ty:=ty) htt hu hd hi hz hx base n c olds ho hc (by simp only [maxLen] at h63;omega) hfit
 have hge:=grownCap_ge w (n+m) c T
 have hle:=grownCap_le_maxLen w (n+m) c T h63
 generalize grownCap w (n+m) c T=cap at hrun hge hle
 have hsz:(olds.toArray++news.toArray++Builtin.zeroCells z.cells (cap - (n+m))).size=cap * i.size:=by
  simp only [Array.size_append,List.size_toArray,size_zeroCells,hzs,hol,hx.count,← Nat.add_mul]
  congr 1
  omega
 generalize hcv:olds.toArray++news.toArray++Builtin.zeroCells z.cells (cap - (n+m))=c' at hrun hsz
 have hdrew:Below w.heap.size w w.drew:=⟨rfl,rfl,rfl,Nat.le_refl _,fun _ _=>rfl⟩
 have hA1:=hk.fresh hdrew
 have hpre:∀ (j:Nat) (y:Value),(olds++news)[j]? = some y→c'[j]? = some y:=fun j y hy=>by
  have hj:=lt_of_getElem? hy
  rw [← hcv,Array.getElem?_append_left (by simp at hj ⊢;omega),List.append_toArray]
  simpa using hy
 obtain⟨hle1,hA2⟩:=hA1.newPub T c' (0,0) (olds++news) hpre
 have hnp:G.pub w.heap.size=none:=by
  cases hp:G.pub w.heap.size with
  |none=>rfl
  |some vs=>exact absurd (hA.pub_lt hp) (Nat.lt_irrefl _)
 obtain⟨hle2,hA3⟩:=hA2.setTip (n':=n+m) (vs:=olds++news) (k:=w.heap.size) (cap:=cap * i.size) (sz:=i.size) (T:=T) hkt (by simpa [Gh.publish] using hraw) (by simpa [Gh.publish] using hver) (by omega) (yz w.drew _) (by simp [Gh.publish]) (by simp [hol,hx.count,Nat.add_mul]) hsz hA.hB (fun o x hx hl=>by
  obtain⟨_,hx'⟩:=hother o x hx hl
  exact Nat.ne_of_lt ((hA.ob o x hx').lt hl))
 rw [hset] at hA3
 refine⟨_,_,_,hrun,hle1.trans hle2,hA3,?_⟩
 have hmono:∀ {a b},Rel G a b→Rel ((G.publish w.drew.heap.size (olds++news)).setOb t ⟨n+m,w.heap.size,cap * i.size,false⟩) a b:=fun h=>(h.mono hle1).mono hle2
 refine qve (n:=n) (m:=m) (cap:=cap) (k:=w.heap.size) (vs:=olds) (news:=news) (by simp [Gh.setOb]) (by simp [Gh.setOb]) (by simp [Gh.setOb]) hle hge (by simpa [Gh.setOb,Gh.publish] using htn) (by omega) hn hm (by simp [Gh.setOb,Gh.publish]) (fun y hy=>?_) hol hx.count hfx (fun j a b h1 h2=>hmono (hrx j a b h1 h2)) (fun j a b h1 h2=>hmono (hrel j a b h1 h2))
 rcases List.mem_append.1 hy with h|h
 ·exact hwx y h
 ·exact hys y h
def TipO (b:Nat) (st:List AObj) (sz:Nat) (T:TypeId) (xs:List AV) (c:AV):Prop:=TipC b st sz T xs c∨(xs=[]∧∃ o v f,c = .os o v f 0 0)
theorem q1p (b:Nat) (st:List AObj) (sz:Nat) (T:TypeId):TipO b st sz T [] zk:=.inl (zdb ..)
theorem q4i (b:Nat) (st:List AObj) (sz:Nat) (T:TypeId) (o v f:Nat):TipO b st sz T [] (.os o v f 0 0):=.inr ⟨rfl,_,_,_,rfl⟩
theorem zfh {G:Gh} {o v f:Nat} {sz:Nat} {x:Value} (h:Rel G (.os o v f 0 0) x):Rel G (.sl sz [] none) x:=by
 cases h with
 |os _ _ _ _ b _ hn hv h=>exact .sl0 sz none _ _ (by simp)
section
variable {E : Env} {rd : Option Nat} {N : Nat} {ops : Array Oper} {K : AS → Prop} {s : AS} {rest : List Oper} {d : Option Tmp} {T : TypeId} {p : String} {af : Array Edge}
theorem qin {x y:Operand} {t u T':TypeId} {sz bytes b:Nat} {xs ys:List AV} {tip:Option Nat} {c:AV} {st:List AObj} (hst:s.st=st) (hx:ql N s x=c) (hy:ql N s y = .sl sz ys tip)
  (ht:E.P.underlying t=some (.slice T')) (hu:E.P.underlying u=some (.slice T')) (hT:x7 E.P T' sz bytes) (hc:TipO b st sz T' xs c) (hb:b≤st.length) (hone:jy (flat ys)=true) (h63:xs.length+ys.length≤maxLen) (hby:(xs.length+ys.length) * bytes≤140737488355328)
  (h:∀ c' st' t1,TipO b st' sz T' (xs++ys) c'→Fr st st' t1→b≤t1→(c = .sl sz xs (some t1)∨st.length≤t1)→AOps E rd N ops rest K (AS.put ⟨s.t,st',s.df⟩ d c')):AOps E rd N ops (⟨d,.call ⟨.builtin .append,#[x,y],#[t,u]⟩,T,p,af,none⟩::rest) K s:=by
 rcases hc with hc | ⟨hxs,o,ver,f,hco⟩
 ·refine qye hst hx hc hb hy ht hu hT hone h63 hby fun t1 st' g1 g2 g3 g4=>h _ st' t1 (.inl (.inr ⟨t1,rfl,g1,g2⟩)) g3 g2 g4
 ·subst hst
  subst hxs
  refine zb rfl (za nofun fun B0 w0 G a w _ hI=>?_)
  have he:=hI.eval_of (hx.trans hco)
  obtain⟨news,k1,k2,k3⟩:=yr (P:=E.P) hI.agree (hI.eval_of hy) (by simpa [jy] using hone)
  have hex:=hT.ex
  obtain⟨i,z,hi,hz,hsz,hbt,hzs⟩:=hex
  generalize hv:a.eval x=v at he
  cases he with
  |os _ _ _ _ blk _ hn hvv hbb=>
   by_cases hm0:ys.length=0
   ·have hy0:ys=[]:=List.eq_nil_of_length_eq_zero hm0
    subst hy0
    have hk1':Src E.P w (a.eval y) 0 i.size []:=by
     have:news=[]:=List.eq_nil_of_length_eq_zero (by simpa using k1.count)
     rw [hsz]
     rw [this] at k1
     exact k1
    refine⟨_,w,G,_,s.st,?_,.refl G,hI.agree,.os o ver f 0 blk 0 hn hvv hbb,h _ s.st s.st.length (.inr ⟨rfl,o,ver,f,rfl⟩) ⟨Nat.le_refl _,fun _ _ _=>rfl⟩ hb (.inr (Nat.le_refl _))⟩
    have:=qcc (ty:=T) ht hu (.inr ⟨_,rfl⟩) hi hk1' (some ⟨blk,f,none⟩) 0 0 (Nat.le_refl _)
    generalize a.eval = ρ at hv this
    simp [execOp,resolve,invoke,builtin,hv,this]
   ·have hle:=G.le_new 0 0 0 false
    have hA:=hI.agree.newTip sz T'
    have hz63:0+ys.length≤maxLen:=by simpa using h63
    obtain⟨v',w',G',e1,e2,e3,e4⟩:=qro (ty:=T) hA ht hu (.inr ⟨_,rfl⟩) hT (t:=s.st.length) (n:=0) (xs:=[]) (by simp) rfl rfl k1 k2 (fun i a b h1 h2=>(k3 i a b h1 h2).mono hle) hz63 (some ⟨blk,f,none⟩) 0 []
     (run_firstCells_some w.drew sz 0 ⟨blk,f,none⟩ 0 0 [] (by simp) (by simp)) (by omega) (by simp) (by simp [flat]) (by simp) (by simp [flat]) (by rw [Nat.zero_add,nextslicecap_zero (by omega)];have:=hby;simp at this;omega) hm0
    refine⟨v',w',G',_,_,?_,hle.trans e2,e3,e4,h _ _ s.st.length (.inl (.inr ⟨s.st.length,rfl,?_,hb⟩)) ⟨by simp,fun k hk hlt=>?_⟩ hb (.inr (Nat.le_refl _))⟩
    ·generalize a.eval = ρ at e1 hv
     simp [execOp,resolve,invoke,builtin,hv,e1]
    ·simp
    ·rw [List.getElem?_set_ne (Ne.symm hk),List.getElem?_append_left hlt]
end
theorem qcj {α : Type} {g : α→AV} {l:List α} (h:∀ a,jy (g a).cells=true):jy (flat (l.map g))=true:=by
 induction l with
 |nil=>rfl
 |cons a r ih=>
  have h1:=h a
  unfold jy flat at *
  rw [List.map_cons,List.flatMap_cons,List.all_append,h1,ih]
  rfl
theorem qmq {b:Nat} {st:List AObj} {sz:Nat} {T:TypeId} {xs:List AV} {c:AV} (h:TipO b st sz T xs c):∀ G v,Rel G c v→Rel G (.sl sz xs none) v:=by
 rcases h with (⟨rfl,rfl⟩ | ⟨t,rfl,_⟩) | ⟨rfl,o,v,f,rfl⟩
 ·exact fun G v h=>qbs h
 ·exact fun G v h=>qkb h
 ·exact fun G v h=>zfh h
end Go.Av
namespace Go.Av
open Go Go.RowKit
inductive SrcA (st:List AObj) (sz:Nat):AV→Nat→Nat→List AV→Prop
 |sl (ys:List AV) (tip:Option Nat) (hone:jy (flat ys)=true):SrcA st sz (.sl sz ys tip) ys.length ys.length (flat ys)
 |os (o ver off L cap m:Nat) (T:TypeId) (cs:List AV) (ho:st[o]? = some (.cells ver T cs)) (hfit:off+m * sz≤cs.length) (hone:jy ((cs.drop off).take (m * sz))=true):SrcA st sz (.os o ver off L cap) L m ((cs.drop off).take (m * sz))
structure SrcP (P:Program) (w:World) (x:Value) (L m size:Nat) (news:List Value):Prop where
 len:∀ w',(Builtin.lenOf x).run P w' = .ok L w'
 cells:∀ w',Below w.heap.size w w'→(Builtin.firstCells size m x).run P w' = .ok news.toArray w'
 count:news.length=m * size
 one:∀ u∈news,u.oneCell'=true
section
variable {B0 : Nat} {w0 : World} {G : Gh} {st : List AObj} {w : World}
theorem q4g {P:Program} (hA:zi B0 w0 G st w) {sz L m:Nat} {a:AV} {zs:List AV} {x:Value} (h:SrcA st sz a L m zs) (hr:Rel G a x) :
  ∃ news,SrcP P w x L m sz news∧zs.length=m * sz∧∀ (i:Nat) (a:AV) (b:Value),zs[i]? = some a→news[i]? = some b→Rel G a b:=by
 cases h with
 |sl ys tip hone=>
  obtain⟨news,h1,h2,h3⟩:=yr (P:=P) hA hr (by simpa [jy] using hone)
  exact⟨news,⟨h1.len,h1.cells,h1.count,h1.one⟩,zr h2,h3⟩
 |os o ver off _ cap _ T cs ho hfit hone=>
  obtain⟨g0,g1,g2,g3,c,g4,g5,g6⟩:=hA.ob o _ ho
  cases hr with
  |os _ _ _ _ b _ hn hv hb=>
   have hb:=hb g1
   subst hb
   have hget:∀ (j:Nat) (y:Value),((c.toList.drop off).take (m * sz))[j]? = some y→j<m * sz∧c[off+j]? = some y:=fun j y hy=>by
    rw [List.getElem?_take] at hy
    split at hy
    ·rename_i hj
     rw [List.getElem?_drop] at hy
     exact⟨hj,by simpa using hy⟩
    ·simp at hy
   have hnl:((c.toList.drop off).take (m * sz)).length=m * sz:=by
    simp
    omega
   refine⟨(c.toList.drop off).take (m * sz),⟨fun w'=>by simp [Builtin.lenOf],fun w' hw'=>?_,hnl,fun u hu=>?_⟩,by simp;omega,fun i a b h1 h2=>?_⟩
   ·refine run_firstCells_some w' sz m ⟨(G.ob o).blk,off,none⟩ L cap _ hnl fun j y hy=>?_
    obtain⟨hj,hy⟩:=hget j y hy
    have hlt:(G.ob o).blk<w.heap.size:=by
     rcases Nat.lt_or_ge (G.ob o).blk w.heap.size with h'|h'
     ·exact h'
     ·simp [Array.getElem?_eq_none h'] at g4
    have e1:w'.heap[(G.ob o).blk]? = some (.cells c T (0,0)):=by rw [hw'.block _ hlt];exact g4
    rw [Addr.add_lit]
    simp [World.cell?,e1,hy]
   ·obtain⟨j,hj⟩:=List.getElem?_of_mem hu
    obtain⟨h1,h2⟩:=hget j u hj
    have hlc:off+j<cs.length:=by omega
    have hx:cs[off+j]? = some cs[off+j]:=List.getElem?_eq_getElem hlc
    have hz:((cs.drop off).take (m * sz))[j]? = some cs[off+j]:=by rw [List.getElem?_take_of_lt h1,List.getElem?_drop];exact hx
    exact (g6 _ _ u hx h2).one (List.all_eq_true.1 hone _ (List.mem_of_getElem? hz))
   ·obtain⟨h3,h4⟩:=hget i b h2
    rw [List.getElem?_take_of_lt h3,List.getElem?_drop] at h1
    exact g6 _ a b h1 h4
theorem qim (hA:zi B0 w0 G st w) {o ver off:Nat} {T:TypeId} {cs zs:List AV} {news:List Value} {c:Array Value} (ho:st[o]? = some (.cells ver T cs)) (g4:w.heap[(G.ob o).blk]? = some (.cells c T (0,0))) (hfit:off+zs.length≤cs.length) (hl:zs.length=news.length)
  (hr:∀ (i:Nat) (a:AV) (b:Value),zs[i]? = some a→news[i]? = some b→Rel G a b):zi B0 w0 G (st.set o (.cells ver T (zv cs off zs))) (w.setRow (G.ob o).blk (c.toList.take off++news++c.toList.drop (off+news.length)).toArray):=by
 obtain⟨_,_,_,_,c',h4,g5,g6⟩:=hA.ob o _ ho
 rw [g4] at h4
 simp only [Option.some.injEq,Obj.cells.injEq,and_true] at h4
 subst h4
 refine hA.setRow ho (by simp [zv];omega) ?_
 have e1:∀ (j:Nat) (a:AV) (b:Value),(cs.take off)[j]? = some a→(c.toList.take off)[j]? = some b→Rel G a b:=fun j a b h1 h2=>by
  rw [List.getElem?_take] at h1 h2
  split at h1
  ·rename_i hj
   rw [if_pos hj] at h2
   exact g6 j a b h1 (by simpa using h2)
  ·simp at h1
 have e2:=qas (G:=G) (cs:=cs.take off) (ds:=zs) (vs:=c.toList.take off) (us:=news) (by simp;omega) e1 hr
 have e3:=qas (G:=G) (cs:=cs.take off++zs) (ds:=cs.drop (off+zs.length)) (vs:=c.toList.take off++news) (us:=c.toList.drop (off+news.length)) (by simp;omega) e2 (fun j a b h1 h2=>by
  rw [List.getElem?_drop] at h1 h2
  rw [hl] at h1
  exact g6 _ a b h1 (by simpa using h2))
 unfold zv
 intro j a b h1 h2
 exact e3 j a b h1 (by simpa using h2)
end
section
variable {E : Env} {rd : Option Nat} {N : Nat} {ops : Array Oper} {K : AS → Prop} {s : AS} {rest : List Oper} {d : Option Tmp} {T : TypeId} {p : String} {af : Array Edge}
theorem qmz {x y:Operand} {t u T':TypeId} {sz bytes o ver n cap m:Nat} {cs zs:List AV} {a:AV} (hx:ql N s x = .os o ver 0 n cap) (hy:ql N s y=a) (ho:s.st[o]? = some (.cells ver T' cs)) (hsrc:SrcA s.st sz a m m zs)
  (ht:E.P.underlying t=some (.slice T')) (hu:E.P.underlying u=some (.slice T')) (hT:x7 E.P T' sz bytes) (hroom:n+m≤cap) (hcs:cs.length=cap * sz)
  (h:AOps E rd N ops rest K (AS.put ⟨s.t,s.st.set o (.cells ver T' (zv cs (n * sz) zs)),s.df⟩ d (.os o ver 0 (n+m) cap))):AOps E rd N ops (⟨d,.call ⟨.builtin .append,#[x,y],#[t,u]⟩,T,p,af,none⟩::rest) K s:=by
 refine zb rfl (za nofun fun B0 w0 G a0 w _ hI=>?_)
 obtain⟨i,z,hi,hz,rfl,rfl,hzs⟩:=hT.ex
 obtain⟨news,h1,h2,h3⟩:=q4g (P:=E.P) hI.agree hsrc (hI.eval_of hy)
 have hv:=hI.eval_of hx
 generalize hv':a0.eval x=v at hv
 obtain⟨g0,g1,g2,g3,c,g4,g5,g6⟩:=hI.agree.ob o _ ho
 have hmul:n * i.size+m * i.size≤cap * i.size:=by rw [← Nat.add_mul];exact Nat.mul_le_mul_right _ hroom
 cases hv with
 |os _ _ _ _ b _ hn hv hb=>
  have hb:=hb g1
  subst hb
  have hrun:=qi9 (ty:=T) ht hu (.inr ⟨_,rfl⟩) hi ⟨h1.len,h1.cells,h1.count,h1.one⟩ (G.ob o).blk n cap c g4 hroom (by rw [h1.count];omega)
  refine⟨_,_,G,_,_,?_,.refl G,qim hI.agree ho g4 (by omega) (by rw [h1.count];exact h2) h3,.os o ver 0 (n+m) _ cap hn hv (fun _=>rfl),h⟩
  generalize a0.eval = ρ at hrun hv' ⊢
  simp [execOp,resolve,invoke,builtin,hv',hrun]
theorem qap {x y:Operand} {t u T':TypeId} {sz bytes o ver off dl dc L m:Nat} {cs zs:List AV} {a:AV} (hx:ql N s x = .os o ver off dl dc) (hy:ql N s y=a) (ho:s.st[o]? = some (.cells ver T' cs)) (hsrc:SrcA s.st sz a L m zs) (hm:Nat.min L dl=m)
  (ht:E.P.underlying t=some (.slice T')) (hT:x7 E.P T' sz bytes) (hfit:off+m * sz≤cs.length)
  (h:AOps E rd N ops rest K (AS.put ⟨s.t,s.st.set o (.cells ver T' (zv cs off zs)),s.df⟩ d (Iv (m:Nat)))):AOps E rd N ops (⟨d,.call ⟨.builtin .copy,#[x,y],#[t,u]⟩,T,p,af,none⟩::rest) K s:=by
 refine zb rfl (za nofun fun B0 w0 G a0 w _ hI=>?_)
 obtain⟨i,z,hi,hz,rfl,rfl,hzs⟩:=hT.ex
 obtain⟨news,h1,h2,h3⟩:=q4g (P:=E.P) hI.agree hsrc (hI.eval_of hy)
 have hv:=hI.eval_of hx
 generalize hv':a0.eval x=v at hv
 obtain⟨g0,g1,g2,g3,c,g4,g5,g6⟩:=hI.agree.ob o _ ho
 cases hv with
 |os _ _ _ _ b _ hn hv hb=>
  have hb:=hb g1
  subst hb
  have hst:=run_storeCells_at E.P (G.ob o).blk off T' news 0 c w g4 (by rw [h1.count];omega) h1.one
  simp only [Nat.add_zero] at hst
  have hcl:=h1.cells w (Below.refl _ _)
  refine⟨_,_,G,_,_,?_,.refl G,qim hI.agree ho g4 (by omega) (by rw [h1.count];exact h2) h3,.v _,h⟩
  have hl:=h1.len w
  generalize a0.eval = ρ at hv' hst hcl hl ⊢
  simp [execOp,resolve,invoke,builtin,hv',Builtin.copy_,run_underlying ht,sizeOf,typeInfo,hi,hl,hm,hcl,hst,goInt]
def q4o (P:Program) (T:TypeId):Bool:=
 match P.info? T with
 |some i=>(match i.zero with
  |some z=>z.cells.toList.all Value.oneCell'
  |none=>false)
 |none=>false
theorem qyh {x:Operand} {t T':TypeId} {sz bytes o ver off n cap:Nat} {cs:List AV} (hx:ql N s x = .os o ver off n cap) (ho:s.st[o]? = some (.cells ver T' cs))
  (ht:E.P.underlying t=some (.slice T')) (hT:x7 E.P T' sz bytes) (hz1:q4o E.P T'=true) (hfit:off+n * sz≤cs.length)
  (h:∀ zs:List AV,zs.length=n * sz→AOps E rd N ops rest K (AS.put ⟨s.t,s.st.set o (.cells ver T' (zv cs off zs)),s.df⟩ d (.v undef))):AOps E rd N ops (⟨d,.call ⟨.builtin .clear,#[x],#[t]⟩,T,p,af,none⟩::rest) K s:=by
 refine zb rfl (za nofun fun B0 w0 G a0 w _ hI=>?_)
 obtain⟨i,z,hi,hz,rfl,rfl,hzs⟩:=hT.ex
 have hv:=hI.eval_of hx
 generalize hv':a0.eval x=v at hv
 obtain⟨g0,g1,g2,g3,c,g4,g5,g6⟩:=hI.agree.ob o _ ho
 cases hv with
 |os _ _ _ _ b _ hn hv hb=>
  have hb:=hb g1
  subst hb
  by_cases h0:n=0
  ·subst h0
   have hself:s.st.set o (.cells ver T' (zv cs off []))=s.st:=by
    have e:zv cs off []=cs:=by simp [zv]
    rw [e]
    apply List.ext_getElem?
    intro k
    by_cases e:o=k
    ·subst e;rw [List.getElem?_set_self (lt_of_getElem? ho)];exact ho.symm
    ·rw [List.getElem?_set_ne e]
   have hh:=h [] (by simp)
   refine⟨_,_,G,_,_,?_,.refl G,hI.agree,.v _,by rw [hself] at hh;exact hh⟩
   generalize a0.eval = ρ at hv' ⊢
   simp [execOp,resolve,invoke,builtin,hv',Builtin.clear_,run_underlying ht,undef]
  ·have hzl:(Builtin.zeroCells z.cells n).toList.length=n * i.size:=by simp [size_zeroCells,hzs]
   have hz1:∀ u∈(Builtin.zeroCells z.cells n).toList,u.oneCell'=true:=fun u hu=>by
    unfold q4o at hz1
    rw [hi] at hz1
    simp only [hz] at hz1
    refine List.all_eq_true.1 hz1 u ?_
    simp only [Builtin.zeroCells,Array.toList_map,List.mem_map,Array.toList_range,List.mem_range] at hu
    obtain⟨q,hq,rfl⟩:=hu
    have hp:q % z.cells.size<z.cells.size:=Nat.mod_lt _ (by
     rcases Nat.eq_zero_or_pos z.cells.size with h|h
     ·rw [h] at hq;omega
     ·exact h)
    rw [getElem!_pos z.cells _ hp]
    simp
   have hst:=run_storeCells_at E.P (G.ob o).blk off T' (Builtin.zeroCells z.cells n).toList 0 c w g4 (by rw [hzl];omega) hz1
   simp only [Nat.add_zero] at hst
   have hh:=h ((Builtin.zeroCells z.cells n).toList.map AV.v) (by simpa using hzl)
   refine⟨_,_,G,_,_,?_,.refl G,qim (news:=(Builtin.zeroCells z.cells n).toList) hI.agree ho g4 (by rw [List.length_map,hzl];exact hfit) (by simp) (fun j a b h1 h2=>?_),.v _,hh⟩
   ·generalize a0.eval = ρ at hv' hst ⊢
    obtain⟨n',rfl⟩:∃ n',n=n'+1:=⟨n - 1,by omega⟩
    simp [execOp,resolve,invoke,builtin,hv',Builtin.clear_,run_underlying ht,zeroValue,typeInfo,hi,hz,hst,undef]
   ·rw [List.getElem?_map,h2] at h1
    simp at h1
    subst h1
    exact .v _
theorem qtr {P:Program} {t e:TypeId} {sz:Nat} {agg:Bool} (hu:P.underlying t=some (.slice e)) (ht:tyOf P e=some (sz,agg)) (a:Option Addr) (len cap:Nat) (lo hi mx:Option Value) (i j m:Nat) (w:World)
  (hlo:match lo with|none=>i=0|some v=>∃ k,v = .int k (i:Int)) (hhi:match hi with|none=>j=len∧mx=none|some v=>∃ k,v = .int k (j:Int)) (hmx:match mx with|none=>m=cap|some v=>∃ k,v = .int k (m:Int)) (h1:i≤j) (h2:j≤m) (h3:m≤cap) :
  (Instr.slice t (.slice a len cap) lo hi mx).run P w = .ok (.slice (if m=i then a else a.map (·.add (i * sz))) (j - i) (m - i)) w:=by
 have hs:=(vc ht w).1
 cases lo with
 |none=>
  simp only at hlo
  subst hlo
  cases hi with
  |none=>
   obtain⟨rfl,rfl⟩:=hhi
   simp only at hmx
   subst hmx
   simp [Instr.slice,run_underlying hu,Instr.sliceBounds,hs]
  |some v=>
   obtain⟨k,rfl⟩:=hhi
   cases mx with
   |none=>
    simp only at hmx
    subst hmx
    simp [Instr.slice,run_underlying hu,Instr.sliceBounds,Instr.sliceBound,asIntOf,hs,h2]
   |some u=>
    obtain⟨k',rfl⟩:=hmx
    simp [Instr.slice,run_underlying hu,Instr.sliceBounds,Instr.sliceBound,asIntOf,hs,h2,h3]
 |some u=>
  obtain⟨k',rfl⟩:=hlo
  cases hi with
  |none=>
   obtain⟨rfl,rfl⟩:=hhi
   simp only at hmx
   subst hmx
   simp [Instr.slice,run_underlying hu,Instr.sliceBounds,Instr.sliceBound,asIntOf,hs,h1]
  |some v=>
   obtain⟨k,rfl⟩:=hhi
   cases mx with
   |none=>
    simp only at hmx
    subst hmx
    simp [Instr.slice,run_underlying hu,Instr.sliceBounds,Instr.sliceBound,asIntOf,hs,h1,h2]
   |some u=>
    obtain⟨k'',rfl⟩:=hmx
    simp [Instr.slice,run_underlying hu,Instr.sliceBounds,Instr.sliceBound,asIntOf,hs,h1,h2,h3]
theorem z0 {x:Operand} {t e:TypeId} {lo hi mx:Option Operand} {sz:Nat} {agg:Bool} {o ver off len cap i j m:Nat} (hx:ql N s x = .os o ver off len cap) (hu:E.P.underlying t=some (.slice e)) (ht:tyOf E.P e=some (sz,agg))
  (hlo:match lo with|none=>i=0|some y=>∃ k,ql N s y = .v (.int k (i:Int))) (hhi:match hi with|none=>j=len∧mx=none|some y=>∃ k,ql N s y = .v (.int k (j:Int))) (hmx:match mx with|none=>m=cap|some y=>∃ k,ql N s y = .v (.int k (m:Int))) (h1:i≤j) (h2:j≤m) (h3:m≤cap)
  (h:AOps E rd N ops rest K (s.put d (.os o ver (if m=i then off else off+i * sz) (j - i) (m - i)))):AOps E rd N ops (⟨d,.slice t x lo hi mx,T,p,af,none⟩::rest) K s:=by
 refine zb rfl (za nofun fun B0 w0 G a w _ hI=>?_)
 have he:=hI.eval_of hx
 generalize hv:a.eval x=v at he
 cases he with
 |os _ _ _ _ b _ hn hvr hb=>
  have hrun:=qtr hu ht (some ⟨b,off,none⟩) len cap (lo.map a.eval) (hi.map a.eval) (mx.map a.eval) i j m w (by
   cases lo with
   |none=>exact hlo
   |some y=>obtain⟨k,hy⟩:=hlo;exact⟨k,hI.evalv hy⟩) (by
   cases hi with
   |none=>obtain⟨q1,q2⟩:=hhi;subst q2;exact⟨q1,rfl⟩
   |some y=>obtain⟨k,hy⟩:=hhi;exact⟨k,hI.evalv hy⟩) (by
   cases mx with
   |none=>exact hmx
   |some y=>obtain⟨k,hy⟩:=hmx;exact⟨k,hI.evalv hy⟩) h1 h2 h3
  refine⟨.slice (if m=i then some ⟨b,off,none⟩ else (some ⟨b,off,none⟩:Option Addr).map (·.add (i * sz))) (j - i) (m - i),w,G,_,s.st,?_,.refl G,hI.agree,?_,h⟩
  ·generalize a.eval = ρ at hv hrun ⊢
   simp only [execOp,hv]
   simp [Instr.sliceAt,run_underlying hu,hrun]
  ·have hadd:Addr.add ⟨b,off,none⟩ (i * sz)=⟨b,off+i * sz,none⟩:=Addr.add_lit ..
   by_cases hmi:m=i
   ·rw [if_pos hmi,if_pos hmi]
    exact .os o ver off (j - i) b (m - i) hn hvr hb
   ·rw [if_neg hmi,if_neg hmi,Option.map_some,hadd]
    exact .os o ver (off+i * sz) (j - i) b (m - i) hn hvr hb
theorem qet {x y:Operand} {t u T':TypeId} {sz bytes:Nat} {ys:List AV} (hx:∀ (G:Gh) (v:Value),Rel G (ql N s x) v→∃ base,v = .slice base 0 0) (hy:∀ (G:Gh) (v:Value),Rel G (ql N s y) v→Rel G (.sl sz ys none) v)
  (ht:E.P.underlying t=some (.slice T')) (hu:E.P.underlying u=some (.slice T')) (hT:x7 E.P T' sz bytes) (hone:jy (flat ys)=true) (h0:ys≠[]) (h63:ys.length≤maxLen) (hb:ys.length * bytes≤140737488355328)
  (h:∀ cap pad,(flat ys++pad).length=(cap+1) * sz→(∀ y∈ys,y.cells.length=sz)→ys.length≤cap+1→cap+1≤maxLen→AOps E rd N ops rest K (AS.put ⟨s.t,s.st++[.cells 0 T' (flat ys++pad)],s.df⟩ d (.os s.st.length 0 0 ys.length (cap+1)))):AOps E rd N ops (⟨d,.call ⟨.builtin .append,#[x,y],#[t,u]⟩,T,p,af,none⟩::rest) K s:=by
 refine zb rfl (za nofun fun B0 w0 G a0 w _ hI=>?_)
 obtain⟨i,z,hi,hz,rfl,rfl,hzs⟩:=hT.ex
 obtain⟨news,h1,h2,h3⟩:=yr (P:=E.P) hI.agree (hy _ _ (hI.eval y)) (by simpa [jy] using hone)
 obtain⟨base,hv⟩:=hx _ _ (hI.eval x)
 have hlen:0<ys.length:=List.length_pos_iff.2 h0
 have hold:(Builtin.firstCells i.size 0 (.slice base 0 0)).run E.P w.drew = .ok ([]:List Value).toArray w.drew:=by
  cases base with
  |none=>simp [run_firstCells_none]
  |some a=>exact run_firstCells_some w.drew i.size 0 a 0 0 [] (by simp) (by simp)
 have hrun:=qf3 (ty:=T) ht hu (.inr ⟨_,rfl⟩) hi hz h1 base 0 0 [] hold (by omega) (by simp only [maxLen] at h63;omega) (by simp only [Nat.zero_add];rw [nextslicecap_zero (by omega)];omega)
 simp only [Nat.zero_add] at hrun
 have hge:=grownCap_ge w ys.length 0 T'
 have hle:=grownCap_le_maxLen w ys.length 0 T' h63
 generalize grownCap w ys.length 0 T'=cap at hrun hge hle
 obtain⟨cap,rfl⟩:∃ c,cap=c+1:=⟨cap - 1,by omega⟩
 generalize hzc:Builtin.zeroCells z.cells (cap+1 - ys.length)=zc at hrun
 have hzl:zc.size=(cap+1 - ys.length) * i.size:=by rw [← hzc,size_zeroCells,hzs]
 have hfy:(flat ys).length=ys.length * i.size:=zr h2
 have hdrew:Below w.heap.size w w.drew:=⟨rfl,rfl,rfl,Nat.le_refl _,fun _ _=>rfl⟩
 have hr:=qas (G:=G) (cs:=flat ys) (ds:=zc.toList.map AV.v) (vs:=news) (us:=zc.toList) (by rw [hfy,h1.count]) h3 (fun j a b h1 h2=>by
  rw [List.getElem?_map,h2] at h1
  simp at h1
  subst h1
  exact .v _)
 have hA:=(hI.agree.fresh hdrew).newCells T' (([]:List Value).toArray++news.toArray++zc) (flat ys++zc.toList.map AV.v) (by simp [hfy,h1.count]) (fun j a b q1 q2=>hr j a b q1 (by rw [← q2];simp [← Array.getElem?_toList]))
 have hn:=hI.agree.n
 refine⟨_,_,_,_,_,?_,G.le_new _ _ _ _,hA,.os _ _ _ _ _ _ (by simp [Gh.new,hn]) (Nat.zero_le _) (fun _=>by simp [Gh.new,hn];rfl),h cap (zc.toList.map AV.v) ?_ h2 hge hle⟩
 ·generalize a0.eval = ρ at hrun hv ⊢
  simp [execOp,resolve,invoke,builtin,hv,hrun]
 ·have h1:zc.toList.length=(cap+1 - ys.length) * i.size:=by rw [← hzl];simp
  rw [List.length_append,hfy,List.length_map,h1,← Nat.add_mul]
  congr 1
  omega
theorem qm0 {x y:Operand} {t u T':TypeId} {sz bytes o:Nat} {xs ys:List AV} {a:AV} {ob:AObj} (hx:ql N s x=a) (hy:∀ (G:Gh) (v:Value),Rel G (ql N s y) v→Rel G (.sl sz ys none) v) (hV:Vec sz T' o xs a ob) (ho:s.st[o]? = some ob)
  (ht:E.P.underlying t=some (.slice T')) (hu:E.P.underlying u=some (.slice T')) (hT:x7 E.P T' sz bytes) (hone:jy (flat ys)=true) (h63:xs.length+ys.length≤maxLen) (hb:(xs.length+ys.length) * bytes≤140737488355328)
  (h:∀ a' ob',Vec sz T' o (xs++ys) a' ob'→AOps E rd N ops rest K (AS.put ⟨s.t,s.st.set o ob',s.df⟩ d a')):AOps E rd N ops (⟨d,.call ⟨.builtin .append,#[x,y],#[t,u]⟩,T,p,af,none⟩::rest) K s:=by
 refine zb rfl (za nofun fun B0 w0 G a0 w _ hI=>?_)
 obtain⟨news,h1,h2,h3⟩:=yr (P:=E.P) hI.agree (hy _ _ (hI.eval y)) (by simpa [jy] using hone)
 obtain⟨v',w',G',a',ob',e1,e2,e3,e4,e5⟩:=qmy (ty:=T) hI.agree ht hu (.inr ⟨_,rfl⟩) hT hV ho (hI.eval_of hx) h1 h2 h3 h63 hb
 refine⟨v',w',G',_,_,?_,e2,e3,e4,h a' ob' e5⟩
 generalize a0.eval = ρ at e1
 simp [execOp,resolve,invoke,builtin,e1]
theorem qnf {x y:Operand} {t u T':TypeId} {sz bytes:Nat} {c:AV} (hx:ql N s x=c) (hc:∀ G v,Rel G c v→∃ b n cp,v = .slice b n cp∧n≤cp) (hy:∀ (G:Gh) (v:Value),Rel G (ql N s y) v→Rel G (.sl sz [] none) v)
  (ht:E.P.underlying t=some (.slice T')) (hu:E.P.underlying u=some (.slice T')) (hT:x7 E.P T' sz bytes) (h:AOps E rd N ops rest K (s.put d c)):AOps E rd N ops (⟨d,.call ⟨.builtin .append,#[x,y],#[t,u]⟩,T,p,af,none⟩::rest) K s:=by
 refine zb rfl (za nofun fun B0 w0 G a0 w _ hI=>?_)
 obtain⟨i,z,hi,hz,rfl,rfl,hzs⟩:=hT.ex
 obtain⟨news,h1,h2,h3⟩:=yr (P:=E.P) hI.agree (hy _ _ (hI.eval y)) (by simp [flat])
 have hn0:news=[]:=List.eq_nil_of_length_eq_zero (by simpa using h1.count)
 subst hn0
 have hv:=hI.eval_of hx
 obtain⟨b,n,cp,hv2,hle⟩:=hc _ _ hv
 have hrun:=qcc (ty:=T) ht hu (.inr ⟨_,rfl⟩) hi h1 b n cp hle
 refine⟨_,w,G,c,s.st,?_,.refl G,hI.agree,hv,h⟩
 rw [hv2]
 generalize a0.eval = ρ at hrun hv2
 simp [execOp,resolve,invoke,builtin,hv2,hrun]
end
end Go.Av
