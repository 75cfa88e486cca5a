/- Contracts and plain facts that the closing text leans on (part 2). No condition of their own beyond those that each states. -/
import Derived.Test.YtneejjefekdgjaaGreatDoorK1
import Derived.Lib.Builder
import Derived.Laws.Pointers
import Derived.Laws.Externs
import Derived.Laws.Tables
import Derived.Test.YtneejjefekdgjaaGreatDoorK0
import Derived.Test.YtneejjefekdgjaaGreatDoorRows
import Derived.LaidHandle
import Derived.ProofKit
import Derived.OpenShut
import Derived.ShutString
import Derived.Deep.DeepHandedRow
import Derived.Deep.DeepWitnessRowRef
import Derived.Lib.LaidU8
import Derived.Lib.SmallJoins
import Derived.ChangeSame
import Derived.ChangeAgain
import Derived.Lay
import Derived.Lib.Index
import Derived.Lib.SlTrimSet
import Derived.Shelf.Strings.Prefix
import Derived.Shelf.Strings.Cut
import Derived.Lib.ItoaNum
import Derived.Lib.AtoiAll
import Derived.Lib.Repeat
import Derived.Lib.SplitLaws
import Derived.Shelf.Strings.SplitShaped
set_option maxRecDepth 100000
set_option linter.unusedVariables false
set_option linter.unusedSimpArgs false
namespace Go.Av
open Go Go.RowKit
section
variable {E : Env} {rd : Option Nat} {N : Nat} {ops : Array Oper} {K : AS → Prop} {s : AS} {rest : List Oper} {d : Option Tmp} {T : TypeId} {p : String} {af : Array Edge}
def q2y:AV→Bool
 | .bx _ _ _=>true
 | .pp _=>true
 | _=>false
theorem zi {x:Operand} {r:AV} (hx:qh N s x=r) (hr:q2y r=true) (h:AOps E rd N ops rest K (s.put d r)):AOps E rd N ops (⟨d,.nilCheck x,T,p,af,none⟩::rest) K s:=by
 refine qt rfl (qs nofun fun B0 w0 G a w _ hI=>?_)
 have he:=hI.eval_of hx
 have key:∃ q,a.eval x = .pointer (some q):=by
  generalize a.eval x=u at he
  cases he <;> simp [q2y] at hr
  ·exact⟨_,rfl⟩
  ·exact⟨_,rfl⟩
 obtain⟨q,hv⟩:=key
 refine⟨_,w,G,r,s.st,?_,.refl G,hI.agree,hv▸he,h⟩
 generalize a.eval = ρ at hv
 simp [execOp,hv]
end
section
variable {B0 : Nat} {w0 : World} {G : Gh} {st : List AObj} {w : World}
theorem q5.refroze (h:q5 B0 w0 G st w) {w':World} {g:Nat} {c:Array Value} {T:TypeId} {fz fz':Nat×Nat} (hg:w.heap[g]? = some (.cells c T fz)) (hg':w'.heap[g]? = some (.cells c T fz')) (ho:∀ k,k≠g→w'.heap[k]? = w.heap[k]?) (hB:B0≤g)
  (hsz:w'.heap.size=w.heap.size) (hos:w'.os=w.os) (htape:w'.tape=w.tape) (hout:w'.output=w.output) (hs:∀ o x,st[o]? = some x→x.live→(G.ob o).blk≠g):q5 B0 w0 G st w':=by
 refine⟨h.below.trans ⟨hos,htape,hout,by omega,fun k hk=>ho k (by omega)⟩,by rw [hsz];exact h.hB,h.n,fun b vs hb=>?_,fun o x hx=>(h.ob o x hx).mono (.refl G) rfl (fun _=>rfl) (fun hl=>ho _ (hs o x hx hl)),h.sep⟩
 by_cases e:b=g
 ·subst e
  obtain⟨c2,T2,fz2,e1,e2⟩:=h.pub b vs hb
  rw [hg] at e1
  simp only [Option.some.injEq,Obj.cells.injEq] at e1
  exact⟨c,T,fz',hg',by rw [e1.1];exact e2⟩
 ·rw [ho b e]
  exact h.pub b vs hb
theorem q5.tipCell (h:q5 B0 w0 G st w) {o ver j sz:Nat} {T T':TypeId} {cs:List AV} (ho:st[o]? = some (.cells ver T cs)) (hj:cs[j]? = some jp) :
  q5 B0 w0 (G.new 0 0 0 false) (st.set o (.cells ver T (cs.set j (.sl sz [] (some st.length))))++[AObj.tip 0 sz T']) w:=by
 have h1:=h.newTip sz T'
 have hle:=G.le_new 0 0 0 false
 have hlt:=lt_of_getElem? ho
 have e:st.set o (.cells ver T (cs.set j (.sl sz [] (some st.length))))++[AObj.tip 0 sz T']=(st++[AObj.tip 0 sz T']).set o (.cells ver T (cs.set j (.sl sz [] (some st.length)))):=by
  rw [List.set_append_left _ _ hlt]
 rw [e]
 have ho':(st++[AObj.tip 0 sz T'])[o]? = some (.cells ver T cs):=by rw [List.getElem?_append_left hlt];exact ho
 generalize hG:G.new 0 0 0 false=G' at h1 hle
 have hn:st.length<G'.n:=by rw [h1.n];simp
 refine⟨h1.below,h1.hB,by simp [h1.n],h1.pub,fun k x hx=>?_,fun k k' x x' hne hx hx' hl hl'=>?_⟩
 ·rcases getElem?_set' _ _ _ _ _ hx with⟨rfl,rfl⟩ | ⟨hne,hx⟩
  ·obtain⟨g0,g1,g2,g3,c,g4,g5,g6⟩:=h1.ob k _ ho'
   refine⟨g0,g1,g2,g3,c,g4,by simpa using g5,fun i x y hx hy=>?_⟩
   rcases getElem?_set' _ _ _ _ _ hx with⟨rfl,rfl⟩ | ⟨_,hx⟩
   ·have:=g6 i _ y hj hy
    cases this
    exact .sl0 sz (some st.length) none 0 fun t ht=>by simp at ht;subst ht;exact⟨hn,rfl,rfl⟩
   ·exact g6 i x y hx hy
  ·exact h1.ob k x hx
 ·have key:∀ (k:Nat) (x:AObj),((st++[AObj.tip 0 sz T']).set o (.cells ver T (cs.set j (.sl sz [] (some st.length)))))[k]? = some x→∃ x0:AObj,(st++[AObj.tip 0 sz T'])[k]? = some x0∧(x.live→x0.live):=fun k x hx=>by
   rcases getElem?_set' _ _ _ _ _ hx with⟨rfl,rfl⟩ | ⟨_,hx⟩
   ·exact⟨_,ho',fun _=>trivial⟩
   ·exact⟨x,hx,id⟩
  obtain⟨x0,e1,e2⟩:=key k x hx
  obtain⟨x1,e3,e4⟩:=key k' x' hx'
  exact h1.sep k k' x0 x1 hne e1 e3 (e2 hl) (e4 hl')
end
section
variable {E : Env} {rd : Option Nat} {N : Nat} {ops : Array Oper} {K : AS → Prop} {s : AS} {rest : List Oper} {d : Option Tmp} {T : TypeId} {p : String} {af : Array Edge}
def qbf:AV→Option Bool
 | .bx _ _ _=>some false
 | .pp _=>some false
 | .v (.pointer none)=>some true
 | _=>none
theorem zq {x:Operand} {t t' te:TypeId} {r:AV} {b:Bool} (hx:qh N s x=r) (hr:qbf r=some b) (hu:E.P.underlying t=some (.pointer te)) (h:AOps E rd N ops rest K (s.put d (Bv b))):AOps E rd N ops (⟨d,.binOp .eql t x (.const (.pointer none)) t',T,p,af,none⟩::rest) K s:=by
 refine qt rfl (qs nofun fun B0 w0 G a w _ hI=>?_)
 have he:=hI.eval_of hx
 have key:∃ q:Option Addr,a.eval x = .pointer q∧q.isNone=b:=by
  generalize a.eval x=u at he
  cases he <;> try (simp [qbf] at hr;done)
  case v=>
   cases u <;> try (simp [qbf] at hr;done)
   case pointer q=>
    cases q <;> simp [qbf] at hr
    subst hr
    exact⟨_,rfl,rfl⟩
  case pp=>simp [qbf] at hr;subst hr;exact⟨_,rfl,rfl⟩
  case bx=>simp [qbf] at hr;subst hr;exact⟨_,rfl,rfl⟩
 obtain⟨q,hv,rfl⟩:=key
 have hc:a.eval (.const (.pointer none)) = .pointer none:=rfl
 have hq:=run_eql_pointer_nil (P:=E.P) w t q (by simp [Program.pointee,hu])
 refine⟨_,w,G,_,s.st,?_,.refl G,hI.agree,.v _,h⟩
 generalize a.eval = ρ at hv hc
 simp [execOp,hv,hc,eqGuard_at_pointer,hq]
theorem ji {x:Operand} {t t' te:TypeId} {r:AV} {b:Bool} (hx:qh N s x=r) (hr:qbf r=some b) (hu:E.P.underlying t=some (.pointer te)) (h:AOps E rd N ops rest K (s.put d (Bv !b))):AOps E rd N ops (⟨d,.binOp .neq t x (.const (.pointer none)) t',T,p,af,none⟩::rest) K s:=by
 refine qt rfl (qs nofun fun B0 w0 G a w _ hI=>?_)
 have he:=hI.eval_of hx
 have key:∃ q:Option Addr,a.eval x = .pointer q∧q.isNone=b:=by
  generalize a.eval x=u at he
  cases he <;> try (simp [qbf] at hr;done)
  case v=>
   cases u <;> try (simp [qbf] at hr;done)
   case pointer q=>
    cases q <;> simp [qbf] at hr
    subst hr
    exact⟨_,rfl,rfl⟩
  case pp=>simp [qbf] at hr;subst hr;exact⟨_,rfl,rfl⟩
  case bx=>simp [qbf] at hr;subst hr;exact⟨_,rfl,rfl⟩
 obtain⟨q,hv,rfl⟩:=key
 have hc:a.eval (.const (.pointer none)) = .pointer none:=rfl
 have hq:=run_neq_pointer_nil (P:=E.P) w t q (by simp [Program.pointee,hu])
 refine⟨_,w,G,_,s.st,?_,.refl G,hI.agree,.v _,h⟩
 generalize a.eval = ρ at hv hc
 simp [execOp,hv,hc,eqGuard_at_pointer,hq]
theorem Inv.ptr {B0:Nat} {w0:World} {G:Gh} {a:Act} {w:World} (hI:Inv B0 w0 N G s a w) {x:Operand} {o ver off:Nat} {T1:TypeId} {cs:List AV} (hx:qh N s x = .bx o ver off) (ho:s.st[o]? = some (.cells ver T1 cs)):a.eval x = .pointer (some ⟨(G.ob o).blk,off,none⟩):=by
 have he:=hI.eval_of hx
 obtain⟨_,h1,_⟩:=hI.agree.ob o _ ho
 generalize a.eval x=v at he
 cases he with
 |bx _ _ _ b hn hv hb=>rw [hb h1]
theorem qnx {x y:Operand} {t t' te:TypeId} {o ver off:Nat} {T1:TypeId} {cs:List AV} (hx:qh N s x = .bx o ver off) (hy:qh N s y = .bx o ver off) (ho:s.st[o]? = some (.cells ver T1 cs)) (hu:E.P.underlying t=some (.pointer te)) (hi:(E.P.info? te).isSome=true)
  (h:AOps E rd N ops rest K (s.put d (Bv false))):AOps E rd N ops (⟨d,.binOp .neq t x y t',T,p,af,none⟩::rest) K s:=by
 refine qt rfl (qs nofun fun B0 w0 G a w _ hI=>?_)
 obtain⟨j,hj⟩:=Option.isSome_iff_exists.1 hi
 have h1:=hI.ptr hx ho
 have h2:=hI.ptr hy ho
 have hq:=Lib.run_neq_ptr_same (P:=E.P) w ⟨(G.ob o).blk,off,none⟩ hu hj
 refine⟨_,w,G,_,s.st,?_,.refl G,hI.agree,.v _,h⟩
 generalize a.eval = ρ at h1 h2
 simp [execOp,h1,h2,eqGuard_at_pointer,hq]
theorem qpw {x:Operand} {t t' te:TypeId} {o ver:Nat} {T1:TypeId} {cs:List AV} (hx:qh N s x = .bx o ver 0) (ho:s.st[o]? = some (.cells ver T1 cs)) (hne:0<cs.length) (hs:E.P.underlying t=some (.pointer te)) (hd:E.P.underlying t'=some .unsafePointer) (hi:(match E.P.info? te with|some j=>Nat.beq j.size 0|none=>true)=false)
  (h:AOps E rd N ops rest K (s.put d (.bx o ver 0))):AOps E rd N ops (⟨d,.convert t t' x,T,p,af,none⟩::rest) K s:=by
 refine qt rfl (qs nofun fun B0 w0 G a w _ hI=>?_)
 obtain⟨_,h1,h2,h3,c,h4,h5,h6⟩:=hI.agree.ob o _ ho
 have he:=hI.eval_of hx
 have hv:=hI.ptr hx ho
 cases hj:E.P.info? te with
 |none=>rw [hj] at hi;simp at hi
 |some j=>
  rw [hj] at hi
  have hj0:j.size≠0:=fun e=>by simp [e] at hi
  have hq:=Lib.run_to_unsafe (P:=E.P) w ⟨(G.ob o).blk,0,none⟩ hs hd hj hj0 (e:=T1) (cells:=c.size) (by simp [World.shape?,h4]) (by simpa [← h5] using hne)
  refine⟨_,w,G,_,s.st,?_,.refl G,hI.agree,hv▸he,h⟩
  generalize a.eval = ρ at hv
  simp [execOp,hv,hq]
theorem ql3 {x:Operand} {t t' te:TypeId} {o ver:Nat} {T1:TypeId} {cs:List AV} (hx:qh N s x = .bx o ver 0) (ho:s.st[o]? = some (.cells ver T1 cs)) (hs:E.P.underlying t=some .unsafePointer) (hd:E.P.underlying t'=some (.pointer te)) (hi:(E.P.info? te).isSome=true) (hl:liesAt E.P E.P.depth T1 (cs.length / E.P.cellsOf T1) 0 te 1=true)
  (h:AOps E rd N ops rest K (s.put d (.bx o ver 0))):AOps E rd N ops (⟨d,.convert t t' x,T,p,af,none⟩::rest) K s:=by
 refine qt rfl (qs nofun fun B0 w0 G a w _ hI=>?_)
 obtain⟨_,h1,h2,h3,c,h4,h5,h6⟩:=hI.agree.ob o _ ho
 obtain⟨j,hj⟩:=Option.isSome_iff_exists.1 hi
 have he:=hI.eval_of hx
 have hv:=hI.ptr hx ho
 have hq:=Lib.run_from_unsafe (P:=E.P) w ⟨(G.ob o).blk,0,none⟩ hs hd hj (e:=T1) (cells:=c.size) (by simp [World.shape?,h4]) (by rw [← h5];exact hl)
 refine⟨_,w,G,_,s.st,?_,.refl G,hI.agree,hv▸he,h⟩
 generalize a.eval = ρ at hv
 simp [execOp,hv,hq]
theorem qpu {f:FuncId} {x:Operand} {ts:Array TypeId} {r:AV} (hrun:∀ v w,(callFunc f #[v]).run E.P w = .ok (.value v) w) (hx:qh N s x=r)
  (h:AOps E rd N ops rest K (s.put d r)):AOps E rd N ops (⟨d,.call ⟨.value (.func f),#[x],ts⟩,T,p,af,none⟩::rest) K s:=by
 refine qt rfl (qs nofun fun B0 w0 G a w _ hI=>?_)
 refine⟨a.eval x,w,G,_,s.st,?_,.refl G,hI.agree,hI.eval_of hx,h⟩
 have he:a.eval (.func f) = .func (.func f) #[] #[]:=rfl
 generalize a.eval = ρ at he
 simp [execOp,resolve,Deferred.ofValue,he,invoke,hrun]
theorem Inv.restate {B0:Nat} {w0:World} {G G':Gh} {a:Act} {w:World} {st':List AObj} (h:Inv B0 w0 N G s a w) (hG:G.le G') (hA:q5 B0 w0 G' st' w):Inv B0 w0 N G' ⟨s.t,st',s.df⟩ a w:=
 ⟨hA,h.defers_mono hG,h.size,fun i y hy=>(h.tmps i y hy).mono hG⟩
theorem qq1 {o ver j sz:Nat} {T1 T':TypeId} {cs:List AV} {l:List Oper} (ho:s.st[o]? = some (.cells ver T1 cs)) (hj:cs[j]? = some jp)
  (h:AOps E rd N ops l K ⟨s.t,s.st.set o (.cells ver T1 (cs.set j (.sl sz [] (some s.st.length))))++[AObj.tip 0 sz T'],s.df⟩):AOps E rd N ops l K s:=
 ⟨fun B0 w0 G a w hL hI Q hQ=>h.run B0 w0 _ a w hL (hI.restate (G.le_new 0 0 0 false) (hI.agree.tipCell ho hj)) Q fun G' s' a' w' hG=>hQ G' s' a' w' ((G.le_new 0 0 0 false).trans hG)⟩
theorem Inv.newTip {B0:Nat} {w0:World} {G:Gh} {a:Act} {w:World} (h:Inv B0 w0 N G s a w) {i sz:Nat} {T':TypeId} (hi:s.t i=jp):Inv B0 w0 N (G.new 0 0 0 false) ⟨Av.put s.t i (.sl sz [] (some s.st.length)),s.st++[AObj.tip 0 sz T'],s.df⟩ a w:=by
 have hA:=h.agree.newTip sz T'
 have h2:=h.restate (G.le_new 0 0 0 false) hA
 refine⟨h2.agree,h2.defers,h2.size,fun k y hy=>?_⟩
 by_cases e:k=i
 ·subst e
  show Rel _ (Av.put s.t k _ k) y
  rw [yl]
  have:=h2.tmps k y hy
  simp only [hi] at this
  cases this
  exact .sl0 sz _ none 0 fun t ht=>by simp at ht;subst ht;exact⟨by rw [hA.n];simp,rfl,rfl⟩
 ·show Rel _ (Av.put s.t i _ k) y
  rw [qav _ _ _ _ e]
  exact h2.tmps k y hy
theorem qv8 {i sz:Nat} {T':TypeId} {c:Code} {Q:Exit→AS→Prop} (hi:s.t i=jp)
  (h:AWp E rd N c Q ⟨Av.put s.t i (.sl sz [] (some s.st.length)),s.st++[AObj.tip 0 sz T'],s.df⟩):AWp E rd N c Q s:=
 ⟨fun B0 w0 G a w hL hI=>wpIn_mono (h.run B0 w0 _ a w hL (hI.newTip hi)) fun _ _ _ ⟨G',s',hG,h1,h2⟩=>⟨G',s',(G.le_new 0 0 0 false).trans hG,h1,h2⟩⟩
end
end Go.Av
namespace Go.Av
open Go Go.RowKit
theorem qrt:∀ (vs:List Value) (off n:Nat) (c:Array Value),off+n+vs.length≤c.size →
  ((vs.zipIdx n).foldl (fun (cs:Array Value) (x:Value×Nat)=>cs.setIfInBounds (off+x.2) x.1) c).size=c.size ∧
  ∀ k,((vs.zipIdx n).foldl (fun (cs:Array Value) (x:Value×Nat)=>cs.setIfInBounds (off+x.2) x.1) c)[k]? = if off+n≤k∧k<off+n+vs.length then vs[k - (off+n)]? else c[k]?
 | [],off,n,c,_=>⟨by simp,fun k=>by simp;intro h1 h2;omega⟩
 |v::vs,off,n,c,h=>by
  simp only [List.zipIdx_cons,List.foldl_cons,List.length_cons] at h ⊢
  obtain⟨h1,h2⟩:=qrt vs off (n+1) (c.setIfInBounds (off+n) v) (by simp;omega)
  refine⟨by rw [h1];simp,fun k=>?_⟩
  rw [h2 k]
  by_cases hk:k=off+n
  ·subst hk
   rw [if_neg (by omega),if_pos (by omega),Array.getElem?_setIfInBounds_self,if_pos (by omega)]
   simp
  ·by_cases hr:off+n≤k∧k<off+n+(vs.length+1)
   ·rw [if_pos (by omega),if_pos hr]
    rw [show k - (off+n)=(k - (off+(n+1)))+1 by omega]
    simp
   ·rw [if_neg (by omega),if_neg hr]
    rw [Array.getElem?_setIfInBounds,if_neg (by omega)]
def qbo (place:Nat→Option (Nat×Nat)) (cells:List AV):List (Nat×AV)→Option (List AV)
 | []=>some cells
 |(i,x)::rest=>
  match place i with
  |none=>none
  |some (off,size)=>bif x.okc && Nat.beq x.cells.length size && Nat.ble (off+size) cells.length then qbo place (jd cells off x.cells) rest else none
theorem qfq {G:Gh} (place:Nat→Option (Nat×Nat)):∀ (ps:List (Nat×AV)) (vs:List (Nat×Value)) (cs:List AV) (c:Array Value) (cs':List AV),ps.length=vs.length→(∀ (i:Nat) (p:Nat×AV) (v:Nat×Value),ps[i]? = some p→vs[i]? = some v→p.1=v.1∧Rel G p.2 v.2) →
  RelC G cs c→qbo place cs ps=some cs'→∃ c',Instr.fill place c vs=some c'∧RelC G cs' c'
 | [],[],cs,c,cs',_,_,hc,h=>by
  simp only [qbo,Option.some.injEq] at h
  subst h
  exact⟨c,rfl,hc⟩
 | [],v::vs,_,_,_,hl,_,_,_=>by simp at hl
 |p::ps,[],_,_,_,hl,_,_,_=>by simp at hl
 |(i,x)::ps,(j,v)::vs,cs,c,cs',hl,hr,hc,h=>by
  obtain⟨e,hx⟩:=hr 0 _ _ rfl rfl
  simp only at e hx
  subst e
  simp only [qbo] at h
  simp only [Instr.fill]
  cases hp:place i with
  |none=>simp [hp] at h
  |some q=>
   obtain⟨off,size⟩:=q
   simp only [hp] at h ⊢
   cases hb:(x.okc && Nat.beq x.cells.length size && Nat.ble (off+size) cs.length) with
   |false=>simp [hb] at h
   |true=>
    simp only [hb,cond_true] at h
    simp only [Bool.and_eq_true] at hb
    obtain⟨⟨hok,hsz⟩,hle⟩:=hb
    have hsz:=Nat.eq_of_beq_eq_true hsz
    have hle:=Nat.le_of_ble_eq_true hle
    have hcx:=hx.cells hok
    have hcs:v.cells.size=size:=by rw [← hcx.1];exact hsz
    have hfit:off+v.cells.size≤c.size:=by rw [hcs,← hc.1];exact hle
    rw [if_neg (by simp [hcs];rw [← hc.1];exact hle)]
    have hfold:v.cells.zipIdx.foldl (fun cs (x:Value×Nat)=>cs.setIfInBounds (off+x.2) x.1) c=(v.cells.toList.zipIdx 0).foldl (fun (cs:Array Value) (x:Value×Nat)=>cs.setIfInBounds (off+x.2) x.1) c:=by
     rw [← Array.foldl_toList,Array.toList_zipIdx]
    obtain⟨g1,g2⟩:=qrt v.cells.toList off 0 c (by simpa using hfit)
    have hnew:RelC G (jd cs off x.cells) ((v.cells.toList.zipIdx 0).foldl (fun (cs:Array Value) (x:Value×Nat)=>cs.setIfInBounds (off+x.2) x.1) c):=by
     refine⟨?_,fun k a y h1 h2=>?_⟩
     ·rw [g1,← hc.1]
      simp [jd]
      omega
     ·rw [g2] at h2
      have e1:(cs.take off).length=off:=by simp;omega
      simp only [jd,List.append_assoc] at h1
      by_cases hk:k<off
      ·rw [List.getElem?_append_left (by omega),List.getElem?_take,if_pos hk] at h1
       rw [if_neg (by omega)] at h2
       exact hc.2 k a y h1 h2
      ·rw [List.getElem?_append_right (by omega),e1] at h1
       by_cases hk2:k - off<x.cells.length
       ·rw [List.getElem?_append_left hk2] at h1
        rw [if_pos ⟨by omega,by simp;omega⟩] at h2
        exact hcx.2 (k - off) a y h1 (by simpa using h2)
       ·rw [List.getElem?_append_right (by omega),List.getElem?_drop] at h1
        rw [if_neg (by simp;omega)] at h2
        rw [show off+x.cells.length+(k - off - x.cells.length)=k by omega] at h1
        exact hc.2 k a y h1 h2
    have:=qfq place ps vs _ _ cs' (by simpa using hl) (fun i p v h1 h2=>hr (i+1) p v (by simpa using h1) (by simpa using h2)) hnew h
    rw [← hfold] at this
    exact this
section
variable {E : Env} {rd : Option Nat} {N : Nat} {ops : Array Oper} {K : AS → Prop} {s : AS} {rest : List Oper} {d : Option Tmp} {T : TypeId} {p : String} {af : Array Edge}
def ww (N:Nat) (s:AS) (parts:Array (Nat×Operand)):List (Nat×AV):=parts.toList.map fun x=>(x.1,qh N s x.2)
def qoc (P:Program) (t:TypeId):Option (List (Nat×Nat)):=
 match P.underlying t with
 |some (.struct fs)=>fs.toList.mapM (fun f=>(P.info? f.type).map fun i=>(f.offset,i.size))
 | _=>none
theorem qgl {B0:Nat} {w0:World} {G:Gh} {a:Act} {w:World} (hI:Inv B0 w0 N G s a w) (parts:Array (Nat×Operand)):∀ (i:Nat) (p:Nat×AV) (v:Nat×Value),(ww N s parts)[i]? = some p→(parts.toList.map fun x=>(x.1,a.eval x.2))[i]? = some v→p.1=v.1∧Rel G p.2 v.2:=fun i p v h1 h2=>by
 simp only [ww,List.getElem?_map] at h1 h2
 cases hq:parts.toList[i]? with
 |none=>simp [hq] at h1
 |some z=>simp [hq] at h1 h2;subst h1;subst h2;exact⟨rfl,hI.eval _⟩
theorem jt {t:TypeId} {parts:Array (Nat×Operand)} {zs cs:List AV} {pl:List (Nat×Nat)} (hz:qgo E.P t=some zs) (hp:qoc E.P t=some pl) (hf:qbo (pl[·]?) zs (ww N s parts)=some cs)
  (h:AOps E rd N ops rest K (s.put d (.ag cs))):AOps E rd N ops (⟨d,.build t parts,T,p,af,none⟩::rest) K s:=by
 refine qt rfl (qs nofun fun B0 w0 G a w _ hI=>?_)
 obtain⟨z,hrun,hr⟩:=qjs hz w
 obtain⟨c',h1,h2⟩:=qfq (pl[·]?) (ww N s parts) (parts.toList.map fun x=>(x.1,a.eval x.2)) zs z.cells cs (by simp [ww]) (qgl hI parts) (hr G) hf
 unfold qoc at hp
 split at hp
 ·rename_i fs hu
  refine⟨.agg c',w,G,.ag cs,s.st,?_,.refl G,hI.agree,.ag _ _ h2.1 h2.2,h⟩
  generalize a.eval = ρ at h1
  simp [execOp,Instr.build,run_underlying hu,hrun,Array.mapM_eq_mapM_toList,run_places w _ _ hp,h1]
 ·simp at hp
def qd1 (P:Program) (e:TypeId) (n:Nat):Option (List AV):=
 match P.info? e with
 |some i=>bif Nat.beq (n * i.size) 0 then some [] else i.zero.map fun z=>(List.range (n * i.size)).map fun k=>.v (z.cells[k % z.cells.size]!)
 |none=>none
theorem qg2 {B0:Nat} {w0:World} {G:Gh} {a:Act} {w:World} (hI:Inv B0 w0 N G s a w) {t e:TypeId} {len sz:Nat} {agg:Bool} {parts:Array (Nat×Operand)} {zs cs:List AV} (hu:E.P.underlying t=some (.slice e)) (ht:tyOf E.P e=some (sz,agg)) (hz:qd1 E.P e len=some zs)
  (hf:qbo (fun i=>some (i * sz,sz)) zs (ww N s parts)=some cs) (hsz:Nat.ble (len * sz) 16777216=true) :
  ∃ c':Array Value,(execOp a.eval ⟨d,.buildSlice t len parts,T,p,af,none⟩).run E.P w = .ok (.value (.slice (some ⟨w.heap.size,0,none⟩) len len)) (w.alloc (.cells c' e))∧RelC G cs c':=by
 have hsizeOf:=(wg ht w).1
 have hsz:=Nat.le_of_ble_eq_true hsz
 unfold qd1 at hz
 cases hi:E.P.info? e with
 |none=>rw [hi] at hz;simp at hz
 |some i=>
  rw [hi] at hz
  simp only at hz
  have hs:i.size=sz:=by simpa [sizeOf,typeInfo,hi] using hsizeOf
  rw [hs] at hz
  -- the array that the run starts from
  have key:∃ c0:Array Value,RelC G zs c0∧∀ (Q:Array Value→Sem Value),((do
    let zero ← if len * sz=0 then pure #[] else do pure (← zeroValue e).cells
    Q ((Array.range (len * sz)).map (zero[· % zero.size]!)):Sem Value)).run E.P w=(Q c0).run E.P w:=by
   by_cases h0:len * sz=0
   ·rw [h0] at hz
    simp at hz
    subst hz
    exact⟨#[],⟨rfl,by simp⟩,fun Q=>by have e:Array.range 0 = #[]:=(by simp [Array.range]);simp [h0,e]⟩
   ·have:Nat.beq (len * sz) 0=false:=ka h0
    rw [this] at hz
    simp only [cond_false] at hz
    cases hzr:i.zero with
    |none=>rw [hzr] at hz;simp at hz
    |some z=>
     rw [hzr] at hz
     simp only [Option.map_some,Option.some.injEq] at hz
     subst hz
     refine⟨(Array.range (len * sz)).map (z.cells[· % z.cells.size]!),⟨by simp,fun k x y h1 h2=>?_⟩,fun Q=>by simp [h0,zeroValue,typeInfo,hi,hzr]⟩
     have hk:k<len * sz:=by have:=lt_of_getElem? h1;simpa using this
     simp [hk] at h1 h2
     subst h1;subst h2
     exact .v _
  obtain⟨c0,hc0,hrun0⟩:=key
  obtain⟨c',h1,h2⟩:=qfq (fun i=>some (i * sz,sz)) (ww N s parts) (parts.toList.map fun x=>(x.1,a.eval x.2)) zs c0 cs (by simp [ww]) (qgl hI parts) hc0 hf
  refine⟨c',?_,h2⟩
  ·generalize a.eval = ρ at h1
   have hb:¬ 16777216<len * sz:=by omega
   have hg:∃ m:String,(execOp ρ ⟨d,.buildSlice t len parts,T,p,af,none⟩).run E.P w=(((do
    let zero ← if len * sz=0 then pure #[] else do pure (← zeroValue e).cells
    (fun c=>(do
    let some cells:=Instr.fill (fun i=>some (i * sz,sz)) c (parts.map fun x=>(x.1,ρ x.2)).toList|stuck m
    pure (Value.slice (some (← newRow e cells)) len len):Sem Value)) ((Array.range (len * sz)).map (zero[· % zero.size]!)):Sem Value)).run E.P w).andThen fun v w'=>.ok (.value v) w':=by
    apply Exists.intro
    simp only [execOp,Instr.buildSlice]
    simp [run_underlying hu,hsizeOf,hb]
    rfl
   obtain⟨m,hg⟩:=hg
   have hQ:=hrun0 (fun c=>do
    let some cells:=Instr.fill (fun i=>some (i * sz,sz)) c (parts.map fun x=>(x.1,ρ x.2)).toList|stuck m
    pure (.slice (some (← newRow e cells)) len len))
   rw [hg,hQ]
   simp [h1,newRow,newObj,Sem.run]
theorem zo {t e:TypeId} {len sz:Nat} {agg:Bool} {parts:Array (Nat×Operand)} {zs cs xs:List AV} (hu:E.P.underlying t=some (.slice e)) (ht:tyOf E.P e=some (sz,agg)) (hz:qd1 E.P e len=some zs)
  (hf:qbo (fun i=>some (i * sz,sz)) zs (ww N s parts)=some cs) (hxs:(ww N s parts).map Prod.snd=xs) (hlen:xs.length=len) (hfl:flat xs=cs) (hw:xs.all (fun x=>Nat.beq x.cells.length sz)=true) (hsz:Nat.ble (len * sz) 16777216=true)
  (h:AOps E rd N ops rest K (s.put d (.sl sz xs none))):AOps E rd N ops (⟨d,.buildSlice t len parts,T,p,af,none⟩::rest) K s:=by
 refine qt rfl (qs nofun fun B0 w0 G a w _ hI=>?_)
 obtain⟨c',hrun,h2⟩:=qg2 (d:=d) (T:=T) (p:=p) (af:=af) hI hu ht hz hf hsz
 obtain⟨hle,hA⟩:=hI.agree.newPub e c' (0,0) c'.toList (fun i y hy=>by simpa using hy)
 refine⟨.slice (some ⟨w.heap.size,0,none⟩) len len,w.alloc (.cells c' e),_,.sl sz xs none,s.st,hrun,hle,hA,?_,h⟩
 rw [← hlen]
 cases xs with
 |nil=>exact .sl0 sz none _ _ (by simp)
 |cons x0 xr=>
  refine .sl sz _ none w.heap.size 0 _ c'.toList (by simp [Gh.publish]) (fun x hx=>?_) (by rw [hfl,h2.1];simp) (fun k x y g1 g2=>?_) (fun t ht=>by simp at ht) (Nat.le_refl _)
  ·exact Nat.eq_of_beq_eq_true (List.all_eq_true.1 hw x hx)
  ·rw [hfl] at g1
   exact (h2.2 k x y g1 (by simpa using g2)).mono hle
end
end Go.Av
namespace Go.Av
open Go Go.RowKit
inductive qez (n:Nat):List AObj→List AObj→Prop
 |nil:qez n [] []
 |same {l l':List AObj} (x:AObj) (h:qez n l l'):qez n (x::l) (x::l')
 |cut {l l':List AObj} {x x':AObj} (hx:qlv n x') (h:qez n l l'):qez n (x::l) (x'::l')
 |loop {l l':List AObj} {ls ls':LoopState} {pend pend':Option Code} {N:Nat} {t:Nat→AV} {ps:Array Tmp} {asg body:Code} (h:qez n l l'):qez n (.loop ls pend N t ps asg body::l) (.loop ls' pend' N t ps asg body::l')
theorem qez.length {n:Nat} {l l':List AObj} (h:qez n l l'):l'.length=l.length:=by
 induction h with
 |nil=>rfl
 | _=>simpa
def qqc (F:LoopState→Option Code→AObj) (N:Nat) (t:Nat→AV) (ps:Array Tmp) (asg body:Code):Prop:=∀ ls pend,F ls pend=AObj.loop ls pend N t ps asg body
@[reducible] def q6f (o : Nat) (F : LoopState → Option Code → AObj) (R : Bool → List AObj → Prop) : Exit → AS → Prop
 | .normal,s=>s.st[o]? = some (F .busy none)∧R true (s.st.set o (F .ready none))
 | .ret,s=>s.st[o]? = some (F .busy none)∧R false (s.st.set o (F .done (some .ret)))
 | .exit id,s=>s.st[o]? = some (F .busy none)∧R false (s.st.set o (F .done (some (.exit id))))
 | _,_=>False
theorem q00 {E:Env} {o N:Nat} {t:Nat→AV} {ps:Array Tmp} {asg body:Code} {st:List AObj} {R:Bool→List AObj→Prop} {xs:List AV} {F:LoopState→Option Code→AObj} (hF:qqc F N t ps asg body) (ho:st[o]? = some (F .ready none)) (hps:ps.size=xs.length)
  (h:∀ l,AWp E (some l) N asg (only fun s1=>s1.st[o]? = some (F .ready none)∧s1.df=[]∧AWp E (some l) N body (q6f o F R) ⟨s1.t,s1.st.set o (F .busy none),[]⟩) ⟨qia t (ps.toList.zip xs),st,[]⟩):qb9 E o xs st R:=by
 refine qtt (N:=N) (t:=t) (ps:=ps) (asg:=asg) (body:=body) (by rw [ho,hF]) hps fun l=>(h l).mono fun e s1 hq=>?_
 cases e with
 |normal=>
  obtain⟨h1,h2,h3⟩:=hq
  refine⟨by rw [h1,hF],h2,?_⟩
  rw [hF] at h3
  refine h3.mono fun e s2 hq2=>?_
  cases e with
  |normal=>obtain⟨k1,k2⟩:=hq2;exact⟨by rw [k1,hF],by rw [hF] at k2;exact k2⟩
  |ret=>obtain⟨k1,k2⟩:=hq2;exact⟨by rw [k1,hF],by rw [hF] at k2;exact k2⟩
  |exit id=>obtain⟨k1,k2⟩:=hq2;exact⟨by rw [k1,hF],by rw [hF] at k2;exact k2⟩
  | _=>exact hq2.elim
 | _=>exact hq.elim
theorem qv9 {E:Env} {N:Nat} {Q:Exit→AS→Prop} {s:AS} {f:Operand} {ps:Array Tmp} {asg body:Code} {st loc:List AObj} {g:FuncId} {fs cs:List AV} (hst:s.st=st++loc) (hx:qh N s f = .fn (.func g) fs cs)
  (hrun:∀ vs w,(callFunc g vs).run E.P w = .ok (.enter g vs) w)
  (h:∀ F,qqc F N s.t ps asg body→qn E g (fs++[.yd (st.length+(loc.length+1))]++cs) (st++(loc++[.dfr,F .ready none])) fun _ st'=>∃ ls pend,ls≠LoopState.busy∧st'[st.length+(loc.length+1)]? = some (F ls pend) ∧
   match pend with
   |none=>Q .normal ⟨s.t,st'.set (st.length+(loc.length+1)) .dead,(st.length+loc.length)::s.df⟩
   |some c=>AWp E none N c Q ⟨s.t,st'.set (st.length+(loc.length+1)) .dead,(st.length+loc.length)::s.df⟩):AWp E none N (.rangeFunc f ps asg body) Q s:=
 qpx hst hx hrun ((h (fun ls pend=>.loop ls pend N s.t ps asg body) (fun _ _=>rfl)).mono fun _ _ ⟨ls,pend,h1,h2,h3⟩=>⟨ls,pend,h1,h2,h3⟩)
theorem qov {E:Env} {rd:Option Nat} {N:Nat} {c:Code} {Q:Exit→AS→Prop} {s:AS} (L:List (Nat×AV)) (st':List AObj) (df':List Nat) (h:HasL s.t L) (hst:s.st=st') (hdf:s.df=df') (k:∀ t,AWp E rd N c Q ⟨puts t L,st',df'⟩):AWp E rd N c Q s:=by
 have:=k s.t
 rw [qfj h,← hst,← hdf] at this
 exact this
@[reducible] def Wv (x : BitVec 32) : AV := .v (.int .u32 (x.toNat : Nat))
theorem qlu (n:Nat):IntKind.u32.wrap (n:Int)=((n % 4294967296:Nat):Int):=by
 simp [IntKind.wrap,IntKind.bits,IntKind.signed]
theorem qg (x:BitVec 32):BitVec.ofInt 32 (x.toNat:Int)=x:=by
 rw [BitVec.ofInt_natCast,BitVec.ofNat_toNat]
 simp
theorem qfe (x:BitVec 32):IntKind.u32.wrap (x.toNat:Int)=(x.toNat:Int):=by
 rw [qlu,Nat.mod_eq_of_lt x.isLt]
section
variable {E : Env} {rd : Option Nat} {N : Nat} {ops : Array Oper} {K : AS → Prop} {s : AS} {rest : List Oper} {d : Option Tmp} {T : TypeId} {p : String} {af : Array Edge}
theorem kp {x y:Operand} {t t':TypeId} {m n:Int} {a b:BitVec 32} (hx:qh N s x = .v (.int .u32 m)) (hy:qh N s y = .v (.int .u32 n)) (ha:BitVec.ofInt 32 m=a) (hb:BitVec.ofInt 32 n=b) (h:AOps E rd N ops rest K (s.put d (Wv (a ^^^ b)))):AOps E rd N ops (⟨d,.binOp .xor t x y t',T,p,af,none⟩::rest) K s:=
 q0y hx hy (by subst ha;subst hb;simp only [qbk,IntKind.bits];rw [qfe];rfl) h
theorem kl {x y:Operand} {t t':TypeId} {m n:Int} {a b:BitVec 32} (hx:qh N s x = .v (.int .u32 m)) (hy:qh N s y = .v (.int .u32 n)) (ha:BitVec.ofInt 32 m=a) (hb:BitVec.ofInt 32 n=b) (h:AOps E rd N ops rest K (s.put d (Wv (a &&& b)))):AOps E rd N ops (⟨d,.binOp .and t x y t',T,p,af,none⟩::rest) K s:=
 q0q hx hy (by subst ha;subst hb;simp only [qbk,IntKind.bits];rw [qfe];rfl) h
theorem v6 {x y:Operand} {t t':TypeId} {m n:Int} {a b:BitVec 32} (hx:qh N s x = .v (.int .u32 m)) (hy:qh N s y = .v (.int .u32 n)) (ha:BitVec.ofInt 32 m=a) (hb:BitVec.ofInt 32 n=b) (h:AOps E rd N ops rest K (s.put d (Wv (a |||b)))):AOps E rd N ops (⟨d,.binOp .or t x y t',T,p,af,none⟩::rest) K s:=
 q3a hx hy (by subst ha;subst hb;simp only [qbk,IntKind.bits];rw [qfe];rfl) h
theorem jw {x:Operand} {t:TypeId} {a:BitVec 32} (hx:qh N s x=Wv a) (h:AOps E rd N ops rest K (s.put d (Wv (~~~ a)))):AOps E rd N ops (⟨d,.unOp .xor t x,T,p,af,none⟩::rest) K s:=
 qvx hx (by
  simp only [qbk,IntKind.bits,IntKind.signed,Bool.false_eq_true,if_false]
  rw [qg]
  have h1:BitVec.ofInt 32 IntKind.u32.max=BitVec.allOnes 32:=by decide
  have h2:BitVec.ofInt 32 IntKind.u32.max ^^^ a = ~~~ a:=by rw [h1,BitVec.xor_comm,BitVec.xor_allOnes]
  exact (congrArg (fun z:BitVec 32=>IntKind.u32.wrap (z.toNat:Int)) h2).trans (qfe _)) h
theorem km {x y:Operand} {t t':TypeId} {yk:IntKind} {a:BitVec 32} {n:Nat} (hx:qh N s x=Wv a) (hy:qh N s y = .v (.int yk (n:Int))) (hn:Nat.ble n 32=true) (h:AOps E rd N ops rest K (s.put d (Wv (a <<< n)))):AOps E rd N ops (⟨d,.binOp .shl t x y t',T,p,af,none⟩::rest) K s:=
 q0w hx hy (by omega) (by
  have hn:=Nat.le_of_ble_eq_true hn
  have:min (n:Int).toNat IntKind.u32.bits=n:=by simp [IntKind.bits];omega
  rw [this]
  have e:(a.toNat:Int) * 2 ^ n=((a.toNat * 2 ^ n:Nat):Int):=by simp
  rw [e,qlu,BitVec.toNat_shiftLeft,Nat.shiftLeft_eq]) h
theorem ko {x y:Operand} {t t':TypeId} {yk:IntKind} {a:BitVec 32} {n:Nat} (hx:qh N s x=Wv a) (hy:qh N s y = .v (.int yk (n:Int))) (hn:Nat.ble n 32=true) (h:AOps E rd N ops rest K (s.put d (Wv (a >>> n)))):AOps E rd N ops (⟨d,.binOp .shr t x y t',T,p,af,none⟩::rest) K s:=
 q0x hx hy (by omega) (by
  have hn:=Nat.le_of_ble_eq_true hn
  have:min (n:Int).toNat IntKind.u32.bits=n:=by simp [IntKind.bits];omega
  rw [this,BitVec.toNat_ushiftRight,Nat.shiftRight_eq_div_pow]
  have h0:(0:Int)≤2 ^ n:=by
   have:((2 ^ n:Nat):Int)=(2:Int) ^ n:=by simp
   rw [← this]
   exact Int.natCast_nonneg _
  rw [Int.fdiv_eq_ediv_of_nonneg _ h0]
  simp) h
theorem j6 {x y:Operand} {t e:TypeId} {len sz:Nat} {agg:Bool} {k:IntKind} {n:Nat} {cs:List AV} {r:AV} (hx:qh N s x = .ag cs) (hy:qh N s y = .v (.int k (n:Int))) (hu:E.P.underlying t=some (.array len e)) (ht:tyOf E.P e=some (sz,agg)) (hn:n<len) (hr:wi sz agg (n * sz) cs=some r)
  (h:AOps E rd N ops rest K (s.put d r)):AOps E rd N ops (⟨d,.index t x y,T,p,af,none⟩::rest) K s:=by
 refine qt rfl (qs nofun fun B0 w0 G a w _ hI=>?_)
 have he:=hI.eval_of hx
 have hey:=hI.evalv hy
 generalize hv:a.eval x=v at he
 cases he with
 |ag _ vs hl hrel=>
  obtain⟨i1,i2⟩:=wg ht w
  cases agg with
  |false=>
   simp only [wi,cond_false] at hr
   obtain⟨z,hz⟩:=xl hr (Nat.le_of_eq hl)
   refine⟨z,w,G,r,s.st,?_,.refl G,hI.agree,hrel _ r z hr hz,h⟩
   generalize a.eval = ρ at hv hey
   simp only [execOp,hv,hey]
   simp [Instr.index,asIntOf,run_underlying hu,hn,part,i1,i2,hz]
  |true=>
   simp only [wi,cond_true] at hr
   cases hb:Nat.ble (n * sz+sz) cs.length with
   |false=>rw [hb] at hr;simp at hr
   |true=>
    rw [hb] at hr
    simp only [cond_true,Option.some.injEq] at hr
    have hle:n * sz+sz≤cs.length:=Nat.le_of_ble_eq_true hb
    refine⟨.agg (vs.extract (n * sz) (n * sz+sz)),w,G,r,s.st,?_,.refl G,hI.agree,?_,h⟩
    ·generalize a.eval = ρ at hv hey
     simp only [execOp,hv,hey]
     simp [Instr.index,asIntOf,run_underlying hu,hn,part,i1,i2]
    ·subst hr
     refine .ag _ _ (by simp;omega) fun i x y h1 h2=>?_
     have hi:i<sz:=by have:=lt_of_getElem? h1;simp at this;omega
     simp [hi,List.getElem?_drop] at h1
     rw [Array.getElem?_extract] at h2
     split at h2
     ·exact hrel (n * sz+i) x y h1 h2
     ·simp at h2
theorem zt {x y:Operand} {t e:TypeId} {len sz:Nat} {agg:Bool} {k:IntKind} {n o ver off:Nat} (hx:qh N s x = .bx o ver off) (hy:qh N s y = .v (.int k (n:Int))) (hu:E.P.underlying t=some (.array len e)) (ht:tyOf E.P e=some (sz,agg)) (hn:n<len)
  (h:AOps E rd N ops rest K (s.put d (.bx o ver (off+n * sz)))):AOps E rd N ops (⟨d,.indexAddr t x y,T,p,af,none⟩::rest) K s:=by
 refine qt rfl (qs nofun fun B0 w0 G a w _ hI=>?_)
 have he:=hI.eval_of hx
 have hey:=hI.evalv hy
 generalize hv:a.eval x=v at he
 cases he with
 |bx _ _ _ b hn' hver hb=>
  refine⟨.pointer (some ⟨b,off+n * sz,none⟩),w,G,_,s.st,?_,.refl G,hI.agree,.bx o ver _ b hn' hver hb,h⟩
  generalize a.eval = ρ at hv hey
  simp only [execOp,hv,hey]
  simp [Instr.indexAt,asIntOf,run_underlying hu,Instr.sureAddr,hn,(wg ht w).1,Addr.add_lit]
def qny (P:Program) (t:TypeId):Option Nat:=
 match P.underlying t with
 |some (.array _ e)=>match P.info? e with
  |some i=>some i.size
  |none=>none
 | _=>none
theorem qts {P:Program} {t:TypeId} {sz:Nat} (h:qny P t=some sz):∃ len e i,P.underlying t=some (.array len e)∧P.info? e=some i∧i.size=sz:=by
 unfold qny at h
 split at h
 ·rename_i len e hu
  split at h
  ·rename_i i hi
   simp only [Option.some.injEq] at h
   exact⟨len,e,i,hu,hi,h⟩
  ·simp at h
 ·simp at h
theorem v8 {t:TypeId} {parts:Array (Nat×Operand)} {zs cs:List AV} {sz:Nat} (hz:qgo E.P t=some zs) (hp:qny E.P t=some sz) (hf:qbo (fun i=>some (i * sz,sz)) zs (ww N s parts)=some cs)
  (h:AQ E N ops rest K (s.put d (.ag cs))):AQ E N ops (⟨d,.build t parts,T,p,af,none⟩::rest) K s:=by
 refine qc4 rfl nofun fun B0 w0 G a w _ hI=>?_
 obtain⟨len,e,i,hu,hi,rfl⟩:=qts hp
 obtain⟨z,hrun,hr⟩:=qjs hz w
 obtain⟨c',h1,h2⟩:=qfq (fun k=>some (k * i.size,i.size)) (ww N s parts) (parts.toList.map fun x=>(x.1,a.eval x.2)) zs z.cells cs (by simp [ww]) (qgl hI parts) (hr G) hf
 have hz':∃ ti,E.P.info? t=some ti∧ti.zero=some z:=by
  unfold zeroValue at hrun
  simp [typeInfo] at hrun
  cases hti:E.P.info? t with
  |none=>simp [hti] at hrun
  |some ti=>
   simp [hti] at hrun
   cases htz:ti.zero with
   |none=>simp [htz] at hrun
   |some y=>simp [htz] at hrun;exact⟨ti,rfl,by rw [htz,hrun]⟩
 obtain⟨ti,g1,g2⟩:=hz'
 refine⟨.agg c',.ag cs,fun w' _=>?_,.ag _ _ h2.1 h2.2,h⟩
 generalize a.eval = ρ at h1
 simp [execOp,Instr.build,run_underlying hu,zeroValue,typeInfo,g1,g2,sizeOf,hi,h1]
theorem yn {x y:Operand} {t:TypeId} {m:List UInt8} {k:IntKind} {n:Nat} (hx:qh N s x=Sv m) (hy:qh N s y = .v (.int k (n:Int))) (hu:E.P.underlying t=some .string) (h1:n<m.length)
  (h:AQ E N ops rest K (s.put d (Uv (m.getD n 0)))):AQ E N ops (⟨d,.index t x y,T,p,af,none⟩::rest) K s:=
 qa1 _ rfl nofun (fun a w he=>by
  have hg:(⟨m.toArray⟩:ByteArray)[n]? = some (m.getD n 0):=by
   simp only [getElem?_def,qaq,h1,dite_true,List.getD,Option.getD_some]
   rfl
  simp [execOp,Instr.index,he _ _ hx,he _ _ hy,asIntOf,run_underlying hu,hg]) h
theorem w6 {x:Operand} {t t':TypeId} {k:IntKind} {n:Nat} {e:TypeDesc} (hx:qh N s x = .v (.int k (n:Int))) (hs:E.P.underlying t=some e) (hd:E.P.underlying t'=some (.int .u32)) (hn:n<4294967296)
  (h:AQ E N ops rest K (s.put d (Wv (BitVec.ofNat 32 n)))):AQ E N ops (⟨d,.convert t t' x,T,p,af,none⟩::rest) K s:=by
 have hr:IntKind.u32.wrap (n:Int)=(((BitVec.ofNat 32 n).toNat:Nat):Int):=by rw [qlu,Nat.mod_eq_of_lt hn,BitVec.toNat_ofNat,Nat.mod_eq_of_lt hn]
 exact qa1 _ rfl nofun (fun a w he=>by rw [← hr];simp [execOp,he _ _ hx,convert,run_underlying hs,run_underlying hd,Conv.intToInt]) h
theorem xu {x y:Operand} {t t':TypeId} {yk:IntKind} {c:UInt8} (hx:qh N s x=Uv c) (hy:qh N s y = .v (.int yk 4)) (h:AQ E N ops rest K (s.put d (.v (.int .u8 ((c.toNat / 16:Nat):Int))))):AQ E N ops (⟨d,.binOp .shr t x y t',T,p,af,none⟩::rest) K s:=
 qa1 _ rfl nofun (fun a w he=>by
  have:(c.toNat:Int).fdiv (2 ^ (min (4:Int).toNat IntKind.u8.bits))=((c.toNat / 16:Nat):Int):=by
   rw [Int.fdiv_eq_ediv_of_nonneg _ (by decide)]
   simp [IntKind.bits]
  rw [← this]
  simp [execOp,he _ _ hx,he _ _ hy,eqGuard_at_int,binOp_shr,Op.shift]) h
theorem wz {x y:Operand} {t t':TypeId} {c:UInt8} (hx:qh N s x=Uv c) (hy:qh N s y = .v (.int .u8 15)) (h:AQ E N ops rest K (s.put d (.v (.int .u8 ((c.toNat % 16:Nat):Int))))):AQ E N ops (⟨d,.binOp .and t x y t',T,p,af,none⟩::rest) K s:=
 q48 hx hy (by
  simp only [qbk,IntKind.bits]
  have h1:BitVec.ofInt 8 (c.toNat:Int)=c.toBitVec:=by rw [BitVec.ofInt_natCast];simp
  have h2:(BitVec.ofInt 8 (c.toNat:Int) &&& BitVec.ofInt 8 15).toNat=c.toNat % 16:=by
   rw [h1,BitVec.toNat_and]
   exact Nat.and_two_pow_sub_one_eq_mod c.toNat 4
  have h3:IntKind.u8.wrap ((c.toNat % 16:Nat):Int)=((c.toNat % 16:Nat):Int):=by
   simp [IntKind.wrap,IntKind.bits,IntKind.signed]
   omega
  exact (congrArg (fun z:Nat=>IntKind.u8.wrap (z:Int)) h2).trans h3) h
theorem and15_lt (x:BitVec 32):(x &&& BitVec.ofInt 32 15).toNat<16:=by
 rw [BitVec.toNat_and]
 exact Nat.lt_of_le_of_lt Nat.and_le_right (by decide)
end
end Go.Av
namespace Go.Proofs.YtneejjefekdgjaaGreatDoor
open Go Go.Av Go.RowKit Go.Proofs
structure Laid (w:World):Prop where
 shaped:World.ShapedOpen Tryz.prog w
 pow : Lib.TabIs Tryz.prog w "internal/strconv.uint64pow10" .u64 Lib.pow10Tab
 syn : ∃ tp p, World.var? Tryz.prog w "strconv.ErrSyntax" = some #[.iface tp p]
 ran : ∃ tp p, World.var? Tryz.prog w "strconv.ErrRange" = some #[.iface tp p]
 ert:w.cell? ⟨3,0,none⟩=some (.iface 381 (.agg #[.pointer (some ⟨9,24,none⟩)]))
@[reducible] noncomputable def E : Env := ⟨Tryz.prog, fun B0 w0 => ∀ w, Below B0 w0 w → Laid w⟩
theorem qmf (l m:List UInt8) (st:List AObj) (hl:l.length<4294967281):qn E 165 [Sv l,Sv m] st fun r st'=>r=Bv (Lib.contains l m)∧st'=st:=
 qa9 (vals:= #[.string ⟨l.toArray⟩,.string ⟨m.toArray⟩]) rfl fun _ _ w hL hb=>(Tryz.strings_Contains_shaped ⟨l.toArray⟩ ⟨m.toArray⟩ w (hL w hb).shaped (by simpa [ByteArray.size] using hl)).mono fun _ _ ⟨h1,h2⟩=>⟨h1,qgr h2⟩
theorem qt3 (l m:List UInt8) (st:List AObj):qn E 164 [Sv l,Sv m] st fun r st'=>r=Bv (Lib.hasPrefix l m)∧st'=st:=
 qa9 (vals:= #[.string ⟨l.toArray⟩,.string ⟨m.toArray⟩]) rfl fun _ _ w _ _=>(Tryz.strings_HasPrefix ⟨l.toArray⟩ ⟨m.toArray⟩ w).mono fun _ _ ⟨h1,h2⟩=>⟨h1,qgr h2⟩
theorem qwh (l m:List UInt8) (st:List AObj) (hl:l.length<4294967281):qn E 72 [Sv l,Sv m] st fun r st'=>r = .tu [Sv (Lib.cut l m).1,Sv (Lib.cut l m).2.1,Bv (Lib.cut l m).2.2]∧st'=st:=
 qj7 (vals:= #[.string ⟨l.toArray⟩,.string ⟨m.toArray⟩]) (rs:= #[.string ⟨(Lib.cut l m).1.toArray⟩,.string ⟨(Lib.cut l m).2.1.toArray⟩,.bool (Lib.cut l m).2.2]) rfl fun _ _ w hL hb=>(Tryz.strings_Cut_shaped ⟨l.toArray⟩ ⟨m.toArray⟩ w (hL w hb).shaped (by simpa [ByteArray.size] using hl)).mono fun _ _ ⟨h1,n,h2⟩=>⟨h1,h2▸qtw w n⟩
theorem q5y (n:Int) (st:List AObj) (h0 : -9223372036854775808≤n) (h1:n≤9223372036854775807):qn E 133 [Iv n] st fun r st'=>r=Sv (Lib.itoa n)∧st'=st:=
 qa9 (vals:= #[.int .i64 n]) rfl fun _ _ w hL hb=>(Tryz.strconv_Itoa n h0 h1 w (hL w hb).pow).mono fun _ _ ⟨h1,k,os,h2⟩=>⟨h1,h2▸qwb w k os⟩
theorem q0g (l m:List UInt8) (st:List AObj) (hl:l.length≤9223372036854775807) (hm:m.length<4294967281) (ha:∀ (j:Nat) (b:UInt8),m[j]? = some b→b.toNat<128):qn E 209 [Sv l,Sv m] st fun r st'=>r=Sv (Lib.trimS l m)∧st'=st:=
 qa9 (vals:= #[.string ⟨l.toArray⟩,.string ⟨m.toArray⟩]) rfl fun _ _ w _ _=>(Any.strings_Trim_laid Tryz.lays160t (by kernel_rfl) ⟨l.toArray⟩ ⟨m.toArray⟩ w (by simpa [ByteArray.size] using hl) (by simpa [ByteArray.size] using hm) (by simpa using ha)).mono fun _ _ ⟨h1,h2⟩=>⟨h1,h2⟩
theorem qtv {w w':World} {T:TypeId} {s:ByteArray} (h:w'=w∨∃ t,w'=Lib.bytesWorld w T t):Below w.heap.size w w':=by
 rcases h with rfl | ⟨t,rfl⟩
 ·exact Below.refl _ _
 ·unfold Lib.bytesWorld
  exact Lib.below_freeze ((Below.drew (Below.refl w.heap.size w)).alloc (Nat.le_refl _) _) (p:=⟨w.heap.size,_,none⟩) (Nat.le_refl _) _
theorem qlw {f:FuncId} {st:List AObj} {args:List AV} {vals:Array Value} {R:Int→Option (TypeId×Value)→Prop} (ha:args=vals.toList.map .v)
  (h:∀ B0 w0 w,E.L B0 w0→Below B0 w0 w→Calls E.P f vals w fun e w'=>∃ n x,e = .returned (.tuple #[.int .i64 n,match x with|none=>.nilIface|some (t,y)=>.iface t y])∧R n x∧Below w.heap.size w w') :
  qn E f args st fun r st'=>st'=st∧∃ n x,r = .tu [Iv n,match x with|none=>.v .nilIface|some (t,y)=>.ifc t (.v y)]∧R n x:=by
 subst ha
 refine⟨fun B0 w0 G vs w hL hA hR=>?_⟩
 have hv:vs=vals:=by
  have hs:vs.size=vals.size:=by have:=hR.1;simpa using this.symm
  apply Array.ext hs
  intro i h1 h2
  have:=hR.2 i (.v vals[i]) vs[i] (by simp [h2]) (by simp [h1])
  generalize vs[i]=y at this
  cases this
  rfl
 subst hv
 refine (h B0 w0 w hL hA.below).mono ?_
 rintro e w' ⟨n,x,rfl,hRR,hb⟩
 refine⟨_,G,_,st,rfl,.refl G,hA.fresh hb,qoe (.v _) ?_,rfl,n,x,rfl,hRR⟩
 cases x with
 |none=>exact .v _
 |some p=>exact .ifc _ _ _ (.v _)
theorem q5a (l:List UInt8) (st:List AObj) (hl:l.length≤281474976710656):qn E 73 [Sv l] st fun r st'=>st'=st∧∃ n x,r = .tu [Iv n,match x with|none=>.v .nilIface|some (t,y)=>.ifc t (.v y)]∧match x with|none=>Lib.atoiAll l = .ok n|some _=>∀ v,Lib.atoiAll l≠.ok v:=by
 refine qlw (vals:= #[.string ⟨l.toArray⟩]) (R:=fun n x=>match x with|none=>Lib.atoiAll l = .ok n|some _=>∀ v,Lib.atoiAll l≠.ok v) rfl fun B0 w0 w hL hb=>?_
 have hls:(⟨l.toArray⟩:ByteArray).data.toList=l:=rfl
 rcases ho:Lib.atoiAll l with v | _ | _
 ·
  refine (Tryz.strconv_Atoi_ok ⟨l.toArray⟩ (by simp [ByteArray.size];omega) v (by rw [hls];exact ho) w).mono ?_
  rintro e w' ⟨rfl,hw⟩
  exact⟨v,none,rfl,rfl,qtv (s:=⟨l.toArray⟩) hw⟩
 ·
  obtain⟨tp,p,hv⟩:=(hL w hb).syn
  refine (Any.strconv_Atoi_syntax_var Tryz.laysC172 ⟨l.toArray⟩ (by simpa [ByteArray.size] using hl) (by rw [hls];exact ho) tp p w hv).mono ?_
  rintro e w' ⟨N,rfl,_,_,hw⟩
  exact⟨_,some (_,_),rfl,by simp,hw⟩
 ·
  obtain⟨tp,p,hv⟩:=(hL w hb).ran
  refine (Tryz.strconv_Atoi_range_var ⟨l.toArray⟩ (by simpa [ByteArray.size] using hl) (by rw [hls];exact ho) tp p w hv).mono ?_
  rintro e w' ⟨N,rfl,_,_,hw⟩
  exact⟨_,some (_,_),rfl,by simp,hw⟩
theorem q42 (l m:List UInt8) (st:List AObj) (hl:l.length≤9223372036854775807) (hm:Nat.blt m.length 4294967281=true) (ha:m.all (fun b=>Nat.blt b.toNat 128)=true):qn E 209 [Sv l,Sv m] st fun r st'=>r=Sv (Lib.trimS l m)∧st'=st:=
 q0g l m st hl (by simpa [Nat.blt_eq] using hm) fun j b h=>by
  have:=List.all_eq_true.1 ha b (List.mem_of_getElem? h)
  simpa [Nat.blt_eq] using this
end Go.Proofs.YtneejjefekdgjaaGreatDoor
namespace Go.Av
open Go Go.RowKit Go.WideShapes Go.ChangeShapes
theorem qon {P:Program} {W:World} {name:String} {k:IntKind} {zs:List Int} {g:Nat} {t e:TypeId} {n:Nat}
  (hg:P.globalNamed name=some g) (hty:(P.globals[g]?).map (·.type)=some t) (ht:P.underlying t=some (.array n e)) (he:P.underlying e=some (.int k)) (hce:P.cellsOf e=1) (hct:P.cellsOf t=n)
  (h:Lib.VarReads P W name (Lib.tabData k zs)):Lib.TabIs P W name k zs:=by
 obtain⟨g',t',cs,fuel,p,hg',ht',hvar,hd⟩:=h
 obtain rfl:=Option.some.inj (hg.symm.trans hg')
 obtain rfl:=Option.some.inj (hty.symm.trans ht')
 unfold Lib.TabIs
 rw [hvar,← Lib.cells_of_tab ht he hce hct hd]
theorem qio {P:Program} {W:World} {name s:String} {d:DataW Unit} {g:Nat} {t:TypeId} {ms:Array (String×TypeId)}
  (hg:P.globalNamed name=some g) (hty:(P.globals[g]?).map (·.type)=some t) (ht:P.underlying t=some (.interface ms))
  (h:Lib.VarReads P W name (.iface s d)):∃ tp p,W.var? P name=some #[.iface tp p]:=by
 obtain⟨g',t',cs,fuel,p,hg',ht',hvar,hd⟩:=h
 obtain rfl:=Option.some.inj (hg.symm.trans hg')
 obtain rfl:=Option.some.inj (hty.symm.trans ht')
 cases fuel with
 |zero=>simp [DataW.trod] at hd
 |succ fuel=>
  obtain⟨l⟩:=cs
  simp only [DataW.trod,ht] at hd
  split at hd
  all_goals simp_all
section
variable {H : Type} {enc : TypeId × Value → H} {P : Program}
theorem qp4 {f:Func} {s:ChangeSpec} {qb3 fresh handsOn again:Bool} {W W':World} {args:Array Value} {v:Value} {ds gs:List (DataW H)} {before pa pv:List MemPlace}
  (hW:DataW.Whole enc P f.params.toList s.vars qb3 W args.toList ds gs before)
  (hres:∀ (b:Nat) (sp:Nat→Bool) (hd:Bool),DataW.TrodAll enc P W' b sp hd f.resultTypes.toList (v.resultList f.resultTypes.size) (s.fn H (ds++gs)).results [])
  (hargs:∀ sp:Nat→Bool,(∀ p∈before,sp p.block=true)→DataW.TrodAll enc P W' 0 sp true f.params.toList args.toList (s.fn H (ds++gs)).args pa)
  (hvars:∀ sp:Nat→Bool,(∀ p∈before,sp p.block=true)→DataW.TrodVars enc P W' sp s.vars (s.fn H (ds++gs)).vars pv)
  (hps:before=pa++pv) (hb:Below W.heap.size W W')
  (hok:∀ (j:Nat) (t:TypeId) (r:Value),f.resultTypes[j]? = some t→(v.resultList f.resultTypes.size)[j]? = some r→Value.okWide P W' .any 0 t r) :
  s.post enc P f qb3 fresh handsOn again W args v W':=by
 have hlt:∀ p∈before,p.block<W.heap.size:=fun p hp=>hW.lt p hp
 have hold:∀ p∈before,(fun b=>decide (b<W.heap.size)) p.block=true:=fun p hp=>by simpa using hlt p hp
 refine⟨ds,gs,before,[],pa,pv,hW,hres _ _ _,hargs _ hold,hvars _ hold,World.keptBut_mono (fun p hp=>⟨hp,?_⟩) (hb.frame (·∈before)),fun _=>?_⟩
 ·rw [hps,List.mem_append] at hp
  exact Or.inr hp
 ·obtain⟨_,_,_,_,_,hz,hn⟩:=hW
  refine⟨hok,_,_,([]++pa)++pv,⟨[]++pa,pv,trodAll_append (hargs _ (fun _ _=>rfl)) (hres _ _ _),hvars _ (fun _ _=>rfl),rfl,?_,?_⟩,?_⟩
  ·intro b off hp
   have hin:MemPlace.cell b off∈before:=by rw [hps];simpa using hp
   rw [hb.frozen (hlt _ hin)]
   exact hz b off hin
  ·intro ha
   have:=hn ha
   rw [hps] at this
   simpa using this
  ·intro p hp _
   rw [hps]
   simpa using hp
end
end Go.Av
open Go in
theorem Go.Av.lit_i64 {n:Int} (h:(Lit.int .i64 n).wf=true) : -9223372036854775808≤n∧n≤9223372036854775807:=by
 simpa [Lit.wf,IntKind.min,IntKind.max,IntKind.signed,IntKind.bits] using h
namespace Go.Proofs.YtneejjefekdgjaaGreatDoor
open Go Go.Av Go.RowKit
theorem q6a:((List.range 436).filter fun t=>Tryz.prog.rowNamed t [101,114,114,111,114])=[24]:=by kernel_rfl
theorem q6y : (Tryz.prog.cutTypes.find? (·.1 == "internal/reflectlite.rtype")).map (·.2) = some 381 := by kernel_rfl
theorem q60:Tryz.prog.types.size=436:=by kernel_rfl
theorem q6u:typeHandle Tryz.prog 24 = .pointer (some ⟨9,24,none⟩):=by kernel_rfl
theorem q2x : Tryz.prog.globalNamed "errors.errorType" = some 3 := by kernel_rfl
theorem qsg {l : List (String × DataW Unit)} (h : (l.all fun x => x.1 == "errors.errorType" || x.2.handleName?.isNone) = true) {x : String × DataW Unit} (hx : x ∈ l) (hn : (x.1 == "errors.errorType") = false) : x.2.handleName?.isNone = true := by
 have:=List.all_eq_true.1 h x hx
 rw [hn] at this
 simpa using this
theorem qr4 {P:Program} {w0:World} {laid:List (String×DataW Unit)} (args:Array Value) (hf:w0.layFits P laid []=true) (hi:w0.layIfaces P laid (w0.layVars P laid)=true) :
  laidMet P laid ((w0.layVars P laid).forCall (fun _ _=>0) ⟨#[],args,[]⟩).memory:=by
 have e1:(laid.filter fun x=>(laid.map Prod.fst).contains x.1)=laid:=List.filter_eq_self.2 fun x hx=>List.contains_iff_mem.2 (List.mem_map_of_mem hx)
 have e2:(laid.filter fun x=> !(laid.map Prod.fst).contains x.1)=[]:=List.filter_eq_nil_iff.2 fun x hx=>by
  rw [List.contains_iff_mem.2 (List.mem_map_of_mem (f:=Prod.fst) hx)]
  simp
 have h:laidMet P laid (w0.layVars P laid):=laidMet_layVars (w0:=w0) (laid.map Prod.fst) [] (by rw [e1]) (by rw [e1];exact hf) (by rw [e1];exact hi) (by rw [e2];exact LaidIn.none)
 exact h.of_heap (by simp [World.memory,World.forCall,Input.heap])
noncomputable def q6t (os:Os):World:={ World.holding Tryz.prog os ⟨#[],#[],[]⟩ with heap:=(World.holding Tryz.prog os ⟨#[],#[],[]⟩).heap.modify 3 fun
 | .cells _ t fz=>.cells #[.iface 381 (.agg #[.pointer (some ⟨9,24,none⟩)])] t fz
 |o=>o }
theorem q32 {l:List (String×DataW Unit)} {W:World}
  (hp : (l.filter fun x => x.2.handleName?.isSome) = [("errors.errorType", Rows.laid_errors_errorType)] ∧ (l.all fun x => x.1 == "errors.errorType" || x.2.handleName?.isNone) = true)
  (hL:laidMetH Tryz.prog l W) (hs:W.ShapedOpen Tryz.prog)
  (h1 : ("internal/strconv.uint64pow10", Rows.laid_internal_strconv_uint64pow10) ∈ l) (h2 : ("strconv.ErrSyntax", Rows.laid_strconv_ErrSyntax) ∈ l) (h3 : ("strconv.ErrRange", Rows.laid_strconv_ErrRange) ∈ l) : E.L W.heap.size W := by
 unfold laidMetH at hL
 rw [hp.1] at hL
 simp only at hL
 intro w hb
 obtain⟨hL,hH⟩:=hL
 have h1:=(List.mem_filter (p:=fun x=>x.2.handleName?.isNone)).2 ⟨h1,qsg hp.2 h1 (by decide)⟩
 have h2:=(List.mem_filter (p:=fun x=>x.2.handleName?.isNone)).2 ⟨h2,qsg hp.2 h2 (by decide)⟩
 have h3:=(List.mem_filter (p:=fun x=>x.2.handleName?.isNone)).2 ⟨h3,qsg hp.2 h3 (by decide)⟩
 obtain⟨name,u,ty,e1,e2,e3,e4,e5⟩:=hH _ (List.mem_singleton.2 rfl)
 have en:name=[101,114,114,111,114]:=(Option.some.inj e1).symm
 subst en
 obtain rfl:=Option.some.inj (q6y.symm.trans e2)
 have hm:ty∈(List.range 436).filter fun t=>Tryz.prog.rowNamed t [101,114,114,111,114]:=List.mem_filter.2 ⟨List.mem_range.2 (by rw [← q60];exact e3),e4⟩
 rw [q6a] at hm
 obtain rfl:=List.mem_singleton.1 hm
 rw [q6u] at e5
 have hv:=World.var?_cell q2x (Go.Joins.var_stays q2x e5 hb (Nat.le_refl _)) 0
 have g1 : Tryz.prog.globalNamed "internal/strconv.uint64pow10" = some 4 := by kernel_rfl
 have g2 : Tryz.prog.globalNamed "strconv.ErrSyntax" = some 1 := by kernel_rfl
 have g3 : Tryz.prog.globalNamed "strconv.ErrRange" = some 2 := by kernel_rfl
 have t1:=qon (k:=.u64) (zs:=Lib.pow10Tab) (t:=399) (e:=262) (n:=20) g1 (by kernel_rfl) (by kernel_rfl) (by kernel_rfl) (by kernel_rfl) (by kernel_rfl) (Lib.laidMet.reads hL h1)
 obtain⟨tp2,p2,v2⟩:=qio (t:=24) g2 (by kernel_rfl) rfl (Lib.laidMet.reads hL h2)
 obtain⟨tp3,p3,v3⟩:=qio (t:=24) g3 (by kernel_rfl) rfl (Lib.laidMet.reads hL h3)
 exact⟨hs.keptBut (hb.frame (fun _=>False)) (fun _ h=>h.elim),Go.Joins.var_stays g1 t1 hb (Nat.le_refl _),⟨tp2,p2,Go.Joins.var_stays g2 v2 hb (Nat.le_refl _)⟩,⟨tp3,p3,Go.Joins.var_stays g3 v3 hb (Nat.le_refl _)⟩,by simpa using hv⟩
end Go.Proofs.YtneejjefekdgjaaGreatDoor
namespace Go.Pl
open Go
abbrev qd:=List UInt8
theorem qcg (l:qd) (c:UInt8):0≤Lib.index l [c]↔c∈l:=by
 induction l with
 |nil=>simp [Lib.index]
 |cons b l ih=>
  have hge:=Lib.index_ge l [c]
  unfold Lib.index
  by_cases hb:c=b
  ·subst hb
   simp [List.isPrefixOf]
  ·have hp:([c]:qd).isPrefixOf (b::l)=false:=by simp [List.isPrefixOf,hb]
   rw [hp]
   by_cases hm:Lib.index l [c] = -1
   ·have:c∉l:=fun h=>by have:=ih.2 h;omega
    simp [hm,hb,this]
   ·have:c∈l:=ih.1 (by omega)
    simp [hm,this]
    omega
theorem qiz (l:qd) (c:UInt8):Lib.contains l [c]=decide (c∈l):=by
 unfold Lib.contains
 by_cases h:c∈l
 ·simp [h,(qcg l c).2 h]
 ·have:¬ 0≤Lib.index l [c]:=fun h'=>h ((qcg l c).1 h')
  simp [h,this]
theorem qin (l:qd) (c:UInt8):Lib.hasPrefix l [c]=decide (l.head? = some c):=by
 cases l with
 |nil=>simp [Lib.hasPrefix]
 |cons b l=>
  by_cases h:c=b
  ·simp [Lib.hasPrefix,List.isPrefixOf,h]
  ·simp [Lib.hasPrefix,List.isPrefixOf,h,Ne.symm h]
def yt (c:UInt8):Prop:=c=32∨c=9
instance (c:UInt8):Decidable (yt c):=inferInstanceAs (Decidable (c=32∨c=9))
def qel (l:qd):Prop:=∃ c,l.head? = some c∧yt c
instance (l:qd):Decidable (qel l):=
 match l with
 | []=>.isFalse (by rintro⟨c,h,_⟩;simp at h)
 |c::r=>decidable_of_iff (yt c) ⟨fun h=>⟨c,rfl,h⟩,fun ⟨d,h,hd⟩=>by simp at h;subst h;exact hd⟩
def qbq (l:qd):Prop:=l≠[]∧l.length≤32∧¬ qel l∧¬ l.head? = some 35∧58∉l∧10∉l
instance (l:qd):Decidable (qbq l):=inferInstanceAs (Decidable (_∧_∧_∧_∧_∧_))
theorem qn1 (c:UInt8) (l:qd):Lib.contains [32,9] [c]=decide (qel (c::l)):=by
 rw [qiz]
 have:qel (c::l)↔yt c:=⟨fun ⟨d,h,hd⟩=>by simp at h;subst h;exact hd,fun h=>⟨c,rfl,h⟩⟩
 simp [this,yt]
def upto (c:UInt8) (l:qd):qd:=l.takeWhile (·≠c)
def past (c:UInt8) (l:qd):qd:=l.drop ((upto c l).length+1)
theorem qmt (c:UInt8) (l:qd) (h:c∈l):Lib.index l [c]=((upto c l).length:Int):=by
 induction l with
 |nil=>simp at h
 |cons b l ih=>
  unfold Lib.index upto
  by_cases hb:b=c
  ·subst hb;simp [List.isPrefixOf]
  ·have hp:([c]:qd).isPrefixOf (b::l)=false:=by simp [List.isPrefixOf,Ne.symm hb]
   have hl:c∈l:=by simpa [Ne.symm hb] using h
   have e:=ih hl
   rw [hp]
   have:(Lib.index l [c] == -1)=false:=by rw [e];simp
   simp only [this]
   rw [e]
   simp [hb,upto]
theorem qgn (c:UInt8) (l:qd):l.take (upto c l).length=upto c l:=by
 induction l with
 |nil=>simp [upto]
 |cons b l ih=>
  by_cases hb:b=c
  ·simp [upto,hb]
  ·have:upto c (b::l)=b::upto c l:=by simp [upto,hb]
   rw [this]
   simp [ih]
theorem qf7 {c:UInt8} {l:qd} (h:c∉l):upto c l=l:=by
 induction l with
 |nil=>rfl
 |cons b l ih=>
  have hb:b≠c:=fun e=>h (by simp [e])
  have:upto c (b::l)=b::upto c l:=by simp [upto,hb]
  rw [this,ih (fun h'=>h (by simp [h']))]
theorem qeb (c:UInt8) (l:qd):(upto c l).length≤l.length:=by
 have:=congrArg List.length (qgn c l)
 simp at this
 omega
theorem qor {c:UInt8} {l:qd} (h:c∈l):(upto c l).length<l.length:=by
 induction l with
 |nil=>simp at h
 |cons b l ih=>
  by_cases hb:b=c
  ·simp [upto,hb]
  ·have:upto c (b::l)=b::upto c l:=by simp [upto,hb]
   rw [this]
   have:=ih (by simpa [Ne.symm hb] using h)
   simp
   omega
theorem qb1 (c:UInt8) (l:qd):(past c l).length=l.length - ((upto c l).length+1):=by simp [past]
theorem q3l (c:UInt8) (l:qd):Lib.cut l [c]=(upto c l,past c l,decide (c∈l)):=by
 unfold Lib.cut
 by_cases h:c∈l
 ·rw [if_pos ((qcg l c).2 h),qmt c l h]
  simp [qgn,past,h]
 ·rw [if_neg (fun h'=>h ((qcg l c).1 h'))]
  simp [qf7 h,past,h]
theorem qcq {c:UInt8} {l:qd} (h:l≠[]):(past c l).length<l.length:=by
 rw [qb1]
 have:=List.length_pos_iff.2 h
 omega
def kf (l:qd):List (qd×Bool):=
 if h:l=[] then [] else (upto 10 l,decide (10∈l))::kf (past 10 l)
 termination_by l.length
 decreasing_by exact qcq h
theorem qap:kf []=[]:=by rw [kf];simp
theorem qbe {l:qd} (h:l≠[]):kf l=(upto 10 l,decide (10∈l))::kf (past 10 l):=by rw [kf];simp [h]
def qn8 (b:Bool):qd:=if b then [10] else []
def qhl (by' l:qd):qd×Bool:=
 if ∀ x∈kf l,by' <+: x.1 then ((kf l).flatMap fun x=>x.1.drop by'.length++qn8 x.2,true) else ([],false)
theorem qp2 (l m:qd):Lib.hasPrefix l m=true↔m <+: l:=by
 unfold Lib.hasPrefix
 exact List.isPrefixOf_iff_prefix
theorem qp9 {l m:qd} (h:m <+: l):Lib.trimPrefix l m=l.drop m.length:=by
 unfold Lib.trimPrefix
 rw [if_pos ((qp2 l m).2 h)]
theorem qea {c:UInt8} {a:qd} (r:qd) (h:c∉a):upto c (a++c::r)=a:=by
 induction a with
 |nil=>simp [upto]
 |cons b a ih=>
  have hb:b≠c:=fun e=>h (by simp [e])
  have h2:c∉a:=fun e=>h (by simp [e])
  have e:upto c (b::(a++c::r))=b::upto c (a++c::r):=by simp [upto,hb]
  rw [List.cons_append,e,ih h2]
theorem qh3 {c:UInt8} {a:qd} (r:qd) (h:c∉a):past c (a++c::r)=r:=by
 unfold past
 rw [qea r h,show a++c::r=(a++[c])++r by simp,show a.length+1=(a++[c]).length by simp,List.drop_left]
theorem qdo {c:UInt8} {l:qd} (h:c∈l):l=upto c l++c::past c l:=by
 induction l with
 |nil=>simp at h
 |cons b l ih=>
  by_cases hb:b=c
  ·subst hb;simp [upto,past]
  ·have h2:c∈l:=by simpa [Ne.symm hb] using h
   have e1:upto c (b::l)=b::upto c l:=by simp [upto,hb]
   have e2:past c (b::l)=past c l:=by simp [past,e1]
   rw [e1,e2,List.cons_append,← ih h2]
theorem qm8 (c:UInt8) (l:qd):c∉upto c l:=by
 induction l with
 |nil=>simp [upto]
 |cons b l ih=>
  by_cases hb:b=c
  ·simp [upto,hb]
  ·have e1:upto c (b::l)=b::upto c l:=by simp [upto,hb]
   rw [e1]
   simp [Ne.symm hb,ih]
def ke (l:qd):qd:=l.takeWhile (·≠58)
theorem qt6 (l:qd) (h:58∈l):Lib.index l [58]=((ke l).length:Int):=by
 induction l with
 |nil=>simp at h
 |cons b l ih=>
  unfold Lib.index ke
  by_cases hb:b=58
  ·subst hb;simp [List.isPrefixOf]
  ·have hp:([58]:qd).isPrefixOf (b::l)=false:=by simp [List.isPrefixOf,Ne.symm hb]
   have hl:58∈l:=by simpa [Ne.symm hb] using h
   have e:=ih hl
   rw [hp]
   have:(Lib.index l [58] == -1)=false:=by rw [e];simp
   simp only [this]
   rw [e]
   simp [hb,ke]
theorem qtd (l:qd):l.take (ke l).length=ke l:=by
 induction l with
 |nil=>simp [ke]
 |cons b l ih=>
  by_cases hb:b=58
  ·simp [ke,hb]
  ·have:ke (b::l)=b::ke l:=by simp [ke,hb]
   rw [this]
   simp [ih]
def y8 (l:qd):qd:=l.drop ((ke l).length+1)
theorem qoy (l:qd):Lib.cut l [58]=if 58∈l then (ke l,y8 l,true) else (l,[],false):=by
 unfold Lib.cut
 by_cases h:58∈l
 ·rw [if_pos ((qcg l 58).2 h),if_pos h,qt6 l h]
  simp [qtd,y8]
 ·rw [if_neg (fun h'=>h ((qcg l 58).1 h')),if_neg h]
def qq (l:qd):Int:=
 if 10∈l then 5 else if ∀ c∈l,yt c then 1 else if l.head? = some 35 then 2 else if qel l then 3
 else if 58∈l∧qbq (ke l) then 4 else 5
theorem qt8 {l:qd} (h:10∉l) (hb:¬ ∀ c∈l,yt c):0<l.length∧qq l=if l.getD 0 0=35 then 2 else if yt (l.getD 0 0) then 3 else if 58∈l∧qbq (ke l) then 4 else 5:=by
 cases l with
 |nil=>simp at hb
 |cons c l=>
  have e:qel (c::l)↔yt c:=⟨fun ⟨d,h,hd⟩=>by simp at h;subst h;exact hd,fun h=>⟨c,rfl,h⟩⟩
  refine⟨by simp,?_⟩
  unfold qq
  rw [if_neg h,if_neg hb]
  simp [e]
theorem qil {α : Type} (p : α→Bool) (l:List α):l.dropWhile p=[]↔∀ x∈l,p x=true:=by
 induction l with
 |nil=>simp
 |cons a l ih=>
  by_cases h:p a=true
  ·simp [h,ih]
  ·simp [h]
theorem q07 {α : Type} (p : α→Bool) (l:List α):(l.reverse.dropWhile p).reverse.dropWhile p=[]↔∀ x∈l,p x=true:=by
 rw [qil]
 constructor
 ·intro h x hx
  by_cases hq:∀ y∈l,p y=true
  ·exact hq x hx
  ·have hr:¬ ∀ y∈l.reverse,p y=true:=fun h'=>hq fun y hy=>h' y (by simpa using hy)
   rw [← qil] at hr
   obtain⟨a,r,hd⟩:=List.exists_cons_of_ne_nil hr
   have h1:=List.head?_dropWhile_not p l.reverse
   rw [hd] at h1
   have h2:=h a (by simp [hd])
   simp [h2] at h1
 ·intro h x hx
  exact h x (by
   have:=(List.dropWhile_sublist (l:=l.reverse) p).subset (by simpa using hx)
   simpa using this)
theorem qpq (l m:qd):Lib.trimS l m=[]↔∀ c∈l,c∈m:=by
 unfold Lib.trimS Lib.trimLeftS Lib.trimRightS
 rw [q07]
 simp
theorem qwi (l m:qd):(Lib.cut l m).1.length≤l.length:=by
 unfold Lib.cut
 split
 ·simp;omega
 ·simp
def qeh (l:qd):Prop:=2≤l.length∧l.length≤50000∧l.getLast? = some 10∧(qhl [32] l).2=true
instance (l:qd):Decidable (qeh l):=inferInstanceAs (Decidable (_∧_∧_∧_))
def qqf (n:Nat) (fig:qd):qd:=[37,97,109,101,110,100,32]++Lib.itoa n++[32]++fig++[10]
def qfd (n:Nat):qd:=[37,101,110,100,32]++Lib.itoa n++[10]
theorem qg0 {l:qd} {v:Int} (h:Lib.atoiAll l = .ok v) : -9223372036854775808≤v∧v≤9223372036854775807:=by
 unfold Lib.atoiAll at h
 cases l with
 |nil=>simp at h
 |cons c r=>
  simp only at h
  split at h
  ·simp at h
  ·simp at h
  ·split at h
   ·simp at h
   ·split at h
    ·simp at h
    ·rename_i h1 h2
     simp only [Lib.NumEnd.ok.injEq] at h
     subst h
     by_cases hn:c.toNat=45
     ·simp only [hn,true_and,not_true,if_true] at *
      omega
     ·simp only [hn,not_false_iff,true_and,if_false] at *
      omega
def yy (l:qd):Nat:=
 match Lib.atoiAll l with
 | .ok v=>if Lib.itoa v=l∧1≤v∧v≤50000 then v.toNat else 0
 | _=>0
def xz:qd:=[37,97,109,101,110,100,32]
def hexL:qd:=[48,49,50,51,52,53,54,55,56,57,97,98,99,100,101,102]
def qbc (l:qd):Prop:=∀ c∈l,c∈hexL
instance (l:qd):Decidable (qbc l):=inferInstanceAs (Decidable (∀ c∈l,c∈hexL))
def yc (l:qd):Nat×qd×Bool:=
 (yy (upto 32 (Lib.trimPrefix l xz)),past 32 (Lib.trimPrefix l xz),
  decide (xz <+: l∧32∈Lib.trimPrefix l xz∧2≤yy (upto 32 (Lib.trimPrefix l xz))∧(past 32 (Lib.trimPrefix l xz)).length=8∧qbc (past 32 (Lib.trimPrefix l xz))))
def qf1 (l:qd):Bool:=
 if xz <+: l then decide (¬ (32∈l.drop 7∧yy (upto 32 (l.drop 7))<2)∧¬ (upto 32 (l.drop 7)≠[]∧yy (upto 32 (l.drop 7))=0)∧(past 32 (l.drop 7)).length≤8∧qbc (past 32 (l.drop 7)))
 else decide (l <+: xz)
theorem qw9 {l:qd} {v:Int} (h:Lib.atoiAll l = .ok v):(yy l:Int)=if Lib.itoa v=l∧1≤v∧v≤50000 then v else 0:=by
 unfold yy
 rw [h]
 simp only
 split
 ·omega
 ·rfl
theorem qdv (l:qd):yy l≤50000:=by
 unfold yy
 split
 ·split
  ·omega
  ·omega
 ·omega
def q34 (n:Int):Int:=if n<2∨50000<n then 0 else (qqf n.toNat [48,48,48,48,48,48,48,48]).length+n+(qfd n.toNat).length
def qj3 (body:qd) (lack:Int):Int:=
 if (qhl [32] body).2=true∧¬ ((body=[]∨body.getLast? = some 10)∧lack<2) then 2 else 3
theorem qta (n:Nat):(qfd n).length=(Lib.itoa n).length+6:=by simp [qfd] <;> omega
theorem qbu {u:Nat} (h:¬ u<10):Lib.decDigits u=Lib.decDigits (u / 10)++Lib.decDigits (u % 10):=by
 rw [Lib.decDigits,dif_neg h,Lib.decDigits_one (Nat.mod_lt u (by omega))]
end Go.Pl
namespace Go.Proofs.YtneejjefekdgjaaGreatDoor
open Go Go.Av Go.RowKit Go.Proofs Go.Pl
theorem qke (l:List UInt8) (c:UInt8) (st:List AObj) (hl:l.length<4294967281):qn E 165 [Sv l,Sv [c]] st fun r st'=>r=Bv (decide (c∈l))∧st'=st:=by
 rw [← qiz];exact qmf l [c] st hl
theorem qfw (l:List UInt8) (c:UInt8) (st:List AObj):qn E 164 [Sv l,Sv [c]] st fun r st'=>r=Bv (decide (l.head? = some c))∧st'=st:=by
 rw [← qin];exact qt3 l [c] st
theorem quv (l:List UInt8) (st:List AObj):qn E 163 [Sv l] st fun r st'=>r=Bv (decide (qel l))∧st'=st:=by
 refine zz (zm _) (qx Tryz.func163 rfl (Nat.le_of_ble_eq_true rfl) ?_)
 cases l with
 |nil=>
  repeat' (first|apply qv|apply qm|apply qk|apply qp|apply qo|(apply jn;(iterate 3 exact rfl))|(apply q6;(iterate 4 exact rfl))|(apply ve;exact cRa)|(apply qe;exact rfl;apply pk_f;exact cRa)|apply zj)
  refine qu rfl (zp rfl) ⟨congrArg Bv (?_:_=_),_,rfl⟩
  simp [qel]
 |cons c l=>
  have hne:¬ (c::l)=[]:=by simp
  repeat' (first|apply qv|apply qm|apply qk|apply qp|apply qo|(apply jn;(iterate 3 exact rfl))|(apply q6;(iterate 4 exact rfl))|(apply vg;exact cAo)|(apply qe;exact rfl;apply yj;exact cAo)|apply zj|refine qcx rfl rfl rfl ⟨_,rfl⟩ (by omega) (by omega) (by simp;omega) ?_|(apply qz;exact Tryz.call165;exact qmf _ _ _ (by simp)))
  refine qu rfl (zp rfl) ⟨congrArg Bv (?_:_=_),_,rfl⟩
  exact qn1 c l
theorem qw0 (l:List UInt8) (st:List AObj) (hl:l.length<4294967281):qn E 99 [Sv l] st fun r st'=>r=Bv (decide (qbq l))∧st'=st:=by
 refine zz (zm _) (qx Tryz.func99 rfl (Nat.le_of_ble_eq_true rfl) ?_)
 repeat' (first|apply qv|apply qm|apply qk|apply qp|apply qo|(apply zb;(iterate 3 exact rfl))|(apply jn;(iterate 3 exact rfl))|(apply ju;exact rfl)|(apply q6;(iterate 4 exact rfl))|(apply wl;exact cAo)|(apply vd;exact cAo)|(apply vl;exact cRa)|(apply ki;exact cRa)|(apply kj <;> intro h)|(apply vn;exact cRa)|(apply j9 <;> intro h)|(apply qe;exact rfl;apply yj;exact cAo)|(apply qe;exact rfl;apply yw;exact cAo)|(apply qe;exact rfl;apply qaa;exact cRa)|(apply qe;exact rfl;apply y9;exact cRa)|(apply qe;exact rfl;apply pk_t;exact cRa)|(apply qc;exact rfl;apply cd_t;exact cRa)|(apply qc;exact rfl;apply cd_d <;> intro h)|(apply j5;(iterate 3 exact rfl))|apply q9|apply zj|(apply qz;exact Tryz.call165;exact qke _ _ _ hl)|(apply qz;exact Tryz.call164;exact qfw _ _ _)|(apply qz;exact Tryz.call163;exact quv _ _))
 all_goals refine qu rfl (zp rfl) ⟨congrArg Bv (?_:_=_),_,rfl⟩
 all_goals simp [qbq, *]
 all_goals omega
theorem qi8 (l:List UInt8) (st:List AObj) (hl:l.length<4294967281):qn E 122 [Sv l] st fun r st'=>r=Iv (qq l)∧st'=st:=by
 refine zz (zm _) (qx Tryz.func122 rfl (Nat.le_of_ble_eq_true rfl) ?_)
 repeat' (first|apply qv|apply zw|apply qm|apply qk|apply qp|apply qo|(apply zn;exact rfl;exact rfl)|(apply jn;(iterate 3 exact rfl))|(apply q6;(iterate 4 exact rfl))|(apply wo;exact cRa)|(apply ve;exact cRa)|(apply wp <;> intro h)|(apply qe;exact rfl;apply pk_t;exact cRa)|(apply qe;exact rfl;apply pk_f;exact cRa)|(apply qc;exact rfl;apply cd_f;exact cRa)|(apply qc;exact rfl;apply cd_d <;> intro h)|apply q9|apply zj|(apply qz;exact Tryz.call165;exact qke _ _ _ hl)|(apply qz;exact Tryz.call209;exact q0g _ _ _ (by omega) (by simp) (by intro j b h;match j with | 0=>simp at h;subst h;decide | 1=>simp at h;subst h;decide|j+2=>simp at h))|(apply qz;exact Tryz.call164;exact qfw _ _ _)|(apply qz;exact Tryz.call163;exact quv _ _)|(apply qz;exact Tryz.call72;exact qwh _ _ _ hl)|(apply qz;exact Tryz.call99;exact qw0 _ _ (Nat.lt_of_le_of_lt (qwi _ _) hl)))
 all_goals refine qu rfl (zp rfl) ⟨congrArg Iv (?_:_=_),_,rfl⟩
 all_goals have hb:Lib.trimS l [32,9]=[]↔∀ c∈l,yt c:=by rw [qpq];simp [yt]
 all_goals by_cases hA:∀ c∈l,yt c <;> by_cases hC:58∈l <;> by_cases hK:qbq (ke l) <;> simp_all [qq,qoy]
end Go.Proofs.YtneejjefekdgjaaGreatDoor
namespace Go.Proofs
open Go.Shelf Go.RowKit
variable {P : Program} {ρ : Ren}
set_option maxHeartbeats 4000000 in
theorem qmb (L:Lays.n169 P ρ) (X:Builder.Extra P ρ) (b n c:Nat) (ad:Option Addr) (q:Value) (str:ByteArray) (w w2:World) (c1:w.drew.cell? ⟨b,1,none⟩=some (.slice ad n c))
  (hSD:(Builtin.unsafeSliceData_ #[(ρ.t 37)] (ρ.t 127) #[.slice ad n c]).run P w.drew = .ok q w.drew)
  (hUS:(Builtin.unsafeString_ #[(ρ.t 127),(ρ.t 3)] (ρ.t 9) #[q,.int .i64 n]).run P w.drew = .ok (.string str) w2) :
  Calls P (ρ.f 169) #[.pointer (some ⟨b,0,none⟩)] w fun e w'=>e = .returned (.string str)∧w'=w2:=by
 have mixed:=L.mixed
 have t72:=L.t72;have a72:=L.a72;have z72:=L.z72;have v72:=L.v72;have u72:=run_underlying L.t72
 have t70:=L.t70;have a70:=L.a70;have z70:=L.z70;have v70:=L.v70;have u70:=run_underlying L.t70
 have t37:=L.t37;have a37:=L.a37;have z37:=L.z37;have v37:=L.v37;have u37:=run_underlying L.t37
 have t127:=L.t127;have a127:=L.a127;have z127:=L.z127;have v127:=L.v127;have u127:=run_underlying L.t127
 have t3:=L.t3;have a3:=L.a3;have z3:=L.z3;have v3:=L.v3;have u3:=run_underlying L.t3
 have t9:=L.t9;have a9:=L.a9;have z9:=L.z9;have v9:=L.v9;have u9:=run_underlying L.t9
 have t5:=X.t5;have a5:=X.a5;have z5:=X.z5;have v5:=X.v5;have u5:=run_underlying X.t5
 go_enter L.f169,Body.n169_ntmps ρ
 go_wp2
 go_region_o
 all_goals (go_wp2;go_ret;exact⟨rfl,rfl⟩)
end Go.Proofs
namespace Go.Proofs.YtneejjefekdgjaaGreatDoor
open Go Go.Av Go.RowKit Go.Proofs
@[reducible] def bldO (ver : Nat) (q : AV) (l : List UInt8) (tp : Nat) : AObj := .cells ver 246 [q, .sl 1 (l.map Uv) (some tp)]
theorem qse (v:Value) (w:World):(callFunc 295 #[v]).run E.P w = .ok (.value v) w:=by
 have h:=run_callFunc_extern (P:=E.P) Tryz.func295 (by kernel_rfl) (by kernel_rfl) (by kernel_rfl) (e:=Extern.AbiNoEscape.same) (by kernel_rfl) #[v] w
 rw [h,Lib.run_noEscape]
 rfl
theorem q3h (o ver:Nat) (q buf:AV) (st:List AObj) (ho:st[o]? = some (.cells ver 246 [q,buf])) (hq:q = .v (.pointer none)∨q = .bx o ver 0) :
  qn E 238 [.bx o ver 0] st fun r st'=>r = .tu []∧st'=st.set o (.cells ver 246 [.bx o ver 0,buf]):=by
 have ho':(st++[])[o]? = some (.cells ver 246 [q,buf]):=by rw [List.append_nil];exact ho
 refine qx Tryz.func238 rfl (Nat.le_of_ble_eq_true rfl) ?_
 rcases hq with rfl|rfl
 ·skip
  repeat' (first|apply qv|apply qm|apply qk|apply qp|(apply qc;exact rfl;apply cd_t;exact cRa)|(apply qw;(iterate 3 exact rfl))|(apply zi;exact rfl;exact rfl)|(apply zq;(iterate 3 exact rfl))|(apply wy;exact rfl;exact ho';exact rfl;exact rfl)|(apply qbt;exact rfl;exact rfl;exact ho';(iterate 6 exact rfl))|(apply qpw;exact rfl;exact ho';(simp);exact rfl;exact rfl;kernel_rfl)|(apply ql3;exact rfl;exact ho';(iterate 3 exact rfl);kernel_rfl)|(apply qpu;exact qse;exact rfl))
  refine qu rfl (qcc rfl) ⟨rfl,?_⟩
  show (st++[]).set o _=_
  rw [List.append_nil]
  rfl
 ·skip
  repeat' (first|apply qv|apply qm|apply qk|apply qp|(apply qc;exact rfl;apply cd_f;exact cRa)|(apply qw;(iterate 3 exact rfl))|(apply zi;exact rfl;exact rfl)|(apply zq;(iterate 3 exact rfl))|apply q9|(apply wy;exact rfl;exact ho';exact rfl;exact rfl)|(apply qnx;exact rfl;exact rfl;exact ho';exact rfl;exact rfl))
  refine qu rfl (qcc rfl) ⟨rfl,?_⟩
  show st++[]=_
  rw [List.append_nil,q2g ho]
theorem q3p:y4 E.P 5 1 1:=⟨_,_,rfl,rfl,rfl,rfl,rfl⟩
theorem q01 (o ver tp:Nat) (q:AV) (l m:List UInt8) (st:List AObj) (ho:st[o]? = some (bldO ver q l tp)) (ht:st[tp]? = some (.tip l.length 1 5)) (hq:q = .v (.pointer none)∨q = .bx o ver 0) (hlen:l.length+m.length≤140737488355328) :
  qn E 168 [.bx o ver 0,Sv m] st fun r st'=>r = .tu [Iv m.length,.v .nilIface]∧st'=(st.set o (bldO ver (.bx o ver 0) (l++m) tp)).set tp (.tip (l.length+m.length) 1 5):=by
 have hne:tp≠o:=fun e=>by rw [e,ho] at ht;simp at ht
 have ho':(st++[])[o]? = some (bldO ver q l tp):=by rw [List.append_nil];exact ho
 have ht':(st++[])[tp]? = some (.tip l.length 1 5):=by rw [List.append_nil];exact ht
 have h2:=we (y:=.cells ver 246 [.bx o ver 0,.sl 1 (l.map Uv) (some tp)]) ho'
 have h3:=xh (y:=.cells ver 246 [.bx o ver 0,.sl 1 (l.map Uv) (some tp)]) ht' (Ne.symm hne)
 have h4:=xh (y:=.tip (l.length+m.length) 1 5) h2 hne
 have h5:maxLen=140737488351232∨True:=.inr trivial
 refine qx Tryz.func168 rfl (Nat.le_of_ble_eq_true rfl) ?_
 repeat' (first|apply qv|apply qm|apply qk|apply qp|apply qo|(apply j5;(iterate 3 exact rfl))|(apply qw;(iterate 3 exact rfl))|(apply zi;exact rfl;exact rfl)|apply zj|(apply qz;exact Tryz.call238;exact q3h o ver q _ (st++[]) ho' hq)|(apply wy;exact rfl;exact h2;exact rfl;exact rfl)|(apply qqv;exact rfl;exact rfl;exact h3;(simp);exact rfl;exact rfl;exact q3p;(simp only [maxLen];omega);omega)|(apply qbt;exact rfl;exact rfl;exact h4;(iterate 6 exact rfl)))
 refine qu rfl (qfn rfl) ⟨rfl,?_⟩
 show (((st++[]).set o _).set tp _).set o (.cells ver 246 [.bx o ver 0,.sl 1 (l.map Uv++m.map Uv) (some tp)])=_
 rw [List.append_nil,List.set_comm _ _ hne,List.set_set,← List.map_append]
theorem qyc (o ver tp:Nat) (q:AV) (l:List UInt8) (st:List AObj) (ho:st[o]? = some (bldO ver q l tp)) (ht:st[tp]? = some (.tip l.length 1 5)) :
  qn E 171 [.bx o ver 0] st fun r st'=>r=Sv l∧st'=st.set tp .dead:=by
 refine⟨fun B0 w0 G vals w hL hA hR=>?_⟩
 obtain⟨h0,h1,h2,h3,c,h4,h5,h6⟩:=hA.ob o _ ho
 obtain⟨g0,g1,g2⟩:=hA.ob tp _ ht
 have hne:tp≠o:=fun e=>by rw [e,ho] at ht;simp at ht
 have hvals:vals = #[.pointer (some ⟨(G.ob o).blk,0,none⟩)]:=by
  have hs:vals.size=1:=by have:=hR.1;simpa using this.symm
  have h:=hR.2 0 (.bx o ver 0) vals[0] rfl (by simp [hs])
  apply Array.ext
  ·simp [hs]
  ·intro i hi1 hi2
   have:i=0:=by simp at hi2;omega
   subst this
   have e:vals[0] = .pointer (some ⟨(G.ob o).blk,0,none⟩):=by
    generalize vals[0]=v at h
    cases h with
    |bx _ _ _ b hn e1 e2=>rw [e2 h1]
   simpa using e
 subst hvals
 have hc2:c.size=2:=by rw [← h5];rfl
 have hrel:=h6 1 (.sl 1 (l.map Uv) (some tp)) c[1] rfl (by simp [hc2])
 have hcell:w.drew.cell? ⟨(G.ob o).blk,1,none⟩=some c[1]:=by
  have h4':w.drew.heap[(G.ob o).blk]? = some (.cells c 246 (0,0)):=h4
  simp [World.cell?,h4',hc2]
 generalize hv:c[1]=v at hrel hcell
 have hdrew:Below w.heap.size w w.drew:=⟨rfl,rfl,rfl,Nat.le_refl _,fun _ _=>rfl⟩
 have hA1:=(hA.kill tp).fresh hdrew
 have hl:(l.map Uv).length=l.length:=by simp
 generalize hxs:l.map Uv=xs at hrel
 cases hrel with
 |sl0 _ _ base cap hto=>
  obtain⟨_,rfl,rfl⟩:=hto tp rfl
  have hl0:l=[]:=by simpa using hxs
  subst hl0
  refine (qmb Tryz.lays169 Tryz.Builder_Extra_169 (G.ob o).blk 0 0 none (.pointer none) .empty w w.drew hcell rfl (Lib.run_unsafeString_none w.drew _ _ _ none)).mono ?_
  rintro e w' ⟨rfl,rfl⟩
  exact⟨_,G,Sv [],_,rfl,.refl G,hA1,.v _,rfl,rfl⟩
 |sl _ _ _ b off cap pub hp hw hlen hr hto hcap0=>
  subst hxs
  rw [hl] at hto hcell
  obtain⟨_,hn0,_,hcur⟩:=hto tp rfl
  obtain⟨hb,rfl,hcp,hcm,hcl⟩:=hcur g1
  obtain⟨hB,c2,vs,e1,e2,e3,e4⟩:=g2 hn0
  rw [hb] at e1 e2 hB
  have hcells:∀ j x,l[j]? = some x→w.drew.cell? ((⟨b,0,none⟩:Addr).add j)=some (.int .u8 x.toNat):=fun j x hx=>by
   obtain⟨c3,T3,fz3,k1,k2⟩:=hA.pub b pub hp
   have k1':w.drew.heap[b]? = some (.cells c3 T3 fz3):=k1
   have hj:j<(flat (l.map Uv)).length:=by rw [qhr];simpa using lt_of_getElem? hx
   have hy:pub[0+j]? = some (pub[0+j]'(by omega)):=List.getElem?_eq_getElem (by omega)
   have hrj:=hr j (Uv x) _ (by rw [qhr];simp [hx]) hy
   have:pub[0+j]'(by omega) = .int .u8 x.toNat:=by
    generalize pub[0+j]'(by omega)=y at hrj
    cases hrj;rfl
   rw [this] at hy
   rw [Addr.add_lit]
   simp only [World.cell?,k1']
   simpa using k2 _ _ hy
  have hle:l.length≤c2.size:=by rw [e4,← hcp];omega
  have e1':w.drew.heap[b]? = some (.cells c2 5 (0,0)):=e1
  have hUS:=Lib.run_unsafeString_row (P:=E.P) w.drew 311 3 9 5 rfl (by kernel_rfl) b c2.size (by simp [World.shape?,e1']) l (by rintro rfl;exact hn0 rfl) hle (by simp only [maxLen] at hcm;omega) hcells
  have hSD:(Builtin.unsafeSliceData_ #[244] 311 #[.slice (some ⟨b,0,none⟩) l.length cap]).run E.P w.drew = .ok (.pointer (some ⟨b,0,none⟩)) w.drew:=Lib.run_unsafeSliceData_row _ _ _ _ _ _ (by omega)
  refine (qmb Tryz.lays169 Tryz.Builder_Extra_169 (G.ob o).blk l.length cap (some ⟨b,0,none⟩) _ _ w _ hcell hSD hUS).mono ?_
  rintro e w' ⟨rfl,rfl⟩
  have hfz:∃ fz',(w.drew.freeze ⟨b,0,none⟩ l.length).heap[b]? = some (.cells c2 5 fz'):=by
   unfold World.freeze
   rw [if_neg hn0]
   simp [Array.getElem?_modify,e1']
  obtain⟨fz',hfz⟩:=hfz
  have hoth:∀ k,k≠b→(w.drew.freeze ⟨b,0,none⟩ l.length).heap[k]? = w.drew.heap[k]?:=fun k hk=>by
   unfold World.freeze
   rw [if_neg hn0]
   simp [Array.getElem?_modify,Ne.symm hk]
  refine⟨_,G,Sv l,_,rfl,.refl G,hA1.refroze e1' hfz hoth hB (by unfold World.freeze;rw [if_neg hn0];simp) (by unfold World.freeze;rw [if_neg hn0]) (by unfold World.freeze;rw [if_neg hn0]) (by unfold World.freeze;rw [if_neg hn0]) (fun k x hx hlv=>?_),.v _,rfl,rfl⟩
  rcases getElem?_set' _ _ _ _ _ hx with⟨_,e⟩ | ⟨k1,k2⟩
  ·subst e;exact hlv.elim
  ·have:=hA.sep k tp x _ k1 k2 ht hlv hn0
   rwa [hb] at this
end Go.Proofs.YtneejjefekdgjaaGreatDoor
namespace Go.Proofs.YtneejjefekdgjaaGreatDoor
open Go Go.Av Go.RowKit Go.Proofs Go.Pl
theorem q5m (l:List UInt8) (c:UInt8) (st:List AObj) (hl:l.length<4294967281):qn E 72 [Sv l,Sv [c]] st fun r st'=>r = .tu [Sv (upto c l),Sv (past c l),Bv (decide (c∈l))]∧st'=st:=by
 have:=qwh l [c] st hl
 rw [q3l] at this
 exact this
@[reducible] def qqg (k : Nat) (text rest : List UInt8) : AV := .ag [Iv k, Iv ((text.length : Int) - rest.length), Sv (upto 10 rest), Bv (decide (10 ∈ rest))]
theorem q4w (text:List UInt8) (st st':List AObj) (n:Nat) (hn:st.length=n) (hst:st++[.cells 0 9 [Sv text]]=st'):qn E 67 [Sv text] st fun r st1=>r = .fn (.func 121) [] [.bx n 0 0]∧st1=st':=by
 subst hn
 subst hst
 refine qx Tryz.func67 rfl (Nat.le_of_ble_eq_true rfl) ?_
 repeat' (first|apply qv|apply qm|apply qk|apply qo|apply z7|(apply vc;(iterate 4 exact rfl))|apply zj)
 exact qu rfl (zp rfl) ⟨rfl,rfl⟩
def q5k (x:BitVec 32):BitVec 32:=if x &&& 2147483648#32≠0#32 then (x <<< 1) ^^^ 79764919#32 else x <<< 1
def quz:Nat→BitVec 32→BitVec 32
 | 0,x=>x
 |n+1,x=>q5k (quz n x)
def rowT (i:Nat):BitVec 32:=quz 4 (BitVec.ofNat 32 i <<< 28)
def crcN (x:BitVec 32) (n:Nat):BitVec 32:=(x <<< 4) ^^^ rowT ((x >>> 28) ^^^ BitVec.ofNat 32 n).toNat
def crcP (x:BitVec 32) (c:UInt8):BitVec 32:=crcN (crcN x (c.toNat / 16)) (c.toNat % 16)
def addP (s:BitVec 32) (l:List UInt8):BitVec 32:= ~~~ (l.foldl crcP (~~~ s))
def figP (s:BitVec 32) (j:Nat):UInt8:=[48,49,50,51,52,53,54,55,56,57,97,98,99,100,101,102].getD ((s >>> (4 * (7 - j))) &&& BitVec.ofInt 32 15).toNat 0
def qwn (s:BitVec 32) (n:Nat):List UInt8:=(List.range n).map (figP s)
def sumF (l:List UInt8):List UInt8:=qwn (addP 0 l) 8
def qux (rest body sums:List UInt8) (size:Int):Int×List UInt8×Int:=
 if rest.length<(qfd body.length).length∧rest <+: qfd body.length then (2,[],0)
 else if qfd body.length <+: rest∧sums=sumF body then (1,body,size) else (3,[],0)
def qdy (l:List UInt8):Int×List UInt8×Int:=
 if 10∈l then
  if (yc (upto 10 l)).2.2=true then
   if (past 10 l).length<(yc (upto 10 l)).1 then (qj3 (past 10 l) ((yc (upto 10 l)).1 - (past 10 l).length),[],0)
   else if qeh ((past 10 l).take (yc (upto 10 l)).1) then qux ((past 10 l).drop (yc (upto 10 l)).1) ((past 10 l).take (yc (upto 10 l)).1) (yc (upto 10 l)).2.1 (q34 (yc (upto 10 l)).1)
   else (3,[],0)
  else (3,[],0)
 else if qf1 l=true then (2,[],0) else (3,[],0)
def recF (l:List UInt8):List UInt8:=qqf l.length (sumF l)++l++qfd l.length
def qmu (c:UInt8):Bool:=decide (48≤c.toNat∧c.toNat≤57)
end Go.Proofs.YtneejjefekdgjaaGreatDoor
namespace Go.Pl
open Go
theorem x6:∀ (n u:Nat),u≤n→∀ c∈Lib.decDigits u,48≤c.toNat∧c.toNat≤57
 |n,u,hn,c,hc=>by
  by_cases h:u<10
  ·rw [Lib.decDigits_one h] at hc
   simp only [List.mem_singleton] at hc
   subst hc
   rw [UInt8.toNat_ofNat']
   omega
  ·rw [qbu h,List.mem_append] at hc
   cases n with
   |zero=>omega
   |succ n=>
    rcases hc with hc|hc
    ·exact x6 n (u / 10) (by omega) c hc
    ·exact x6 n (u % 10) (by omega) c hc
theorem qev (u:Nat):1≤(Lib.decDigits u).length:=by
 rw [Lib.decDigits_length]
 exact Lib.nDigits_pos u
theorem qhv {v:Int} (h:v<0):Lib.itoa v=45::Lib.decDigits v.natAbs:=by
 unfold Lib.itoa
 rw [if_pos h]
theorem qhw {v:Int} (h:0≤v):Lib.itoa v=Lib.decDigits v.toNat:=by
 unfold Lib.itoa
 rw [if_neg (by omega)]
theorem qpf:∀ (a:Nat) (l m:qd) (b:Nat),Lib.parseUint10 a l = .ok b→Lib.parseUint10 a (l++m)=Lib.parseUint10 b m
 |a,[],m,b,h=>by
  simp only [Lib.parseUint10,Lib.NumEnd.ok.injEq] at h
  subst h;rfl
 |a,c::l,m,b,h=>by
  simp only [List.cons_append,Lib.parseUint10] at h ⊢
  split at h
  ·rename_i hd
   rw [if_pos hd]
   split at h
   ·cases h
   ·rename_i h1
    rw [if_neg h1]
    split at h
    ·cases h
    ·rename_i h2
     rw [if_neg h2]
     exact qpf _ l m b h
  ·cases h
theorem qh1:∀ (n u:Nat),u≤n→u≤9223372036854775808→Lib.parseUint10 0 (Lib.decDigits u) = .ok u
 |n,u,hn,hu=>by
  have key:∀ (a d:Nat),a≤922337203685477580→d<10→Lib.parseUint10 a (Lib.decDigits d) = .ok (a * 10+d):=by
   intro a d ha hd
   have e:(UInt8.ofNat (48+d)).toNat=48+d:=by rw [UInt8.toNat_ofNat'];omega
   rw [Lib.decDigits_one hd]
   simp only [Lib.parseUint10,e]
   rw [if_pos (by omega),if_neg (by omega),if_neg (by omega)]
   congr 1
   omega
  by_cases h:u<10
  ·have:=key 0 u (by omega) h
   simpa using this
  ·cases n with
   |zero=>omega
   |succ n=>
    rw [qbu h,qpf 0 _ _ (u / 10) (qh1 n (u / 10) (by omega) (by omega)),key _ _ (by omega) (by omega)]
    congr 1
    omega
theorem qv4 {v:Int} (h1 : -9223372036854775808≤v) (h2:v≤9223372036854775807):Lib.atoiAll (Lib.itoa v) = .ok v:=by
 by_cases h:v<0
 ·have hp:=qh1 v.natAbs v.natAbs (Nat.le_refl _) (by omega)
  rw [qhv h]
  have hm:Lib.parseMag (Lib.decDigits v.natAbs) = .ok v.natAbs:=by
   unfold Lib.parseMag
   rw [if_neg (fun e=>by have:=qev v.natAbs;rw [e] at this;simp at this)]
   exact hp
  have e45:(45:UInt8).toNat=45:=rfl
  simp only [Lib.atoiAll,e45]
  rw [if_pos (Or.inr trivial),hm]
  simp only [not_true,false_and,if_false,true_and]
  rw [if_neg (by omega)]
  simp only [if_true]
  congr 1
  omega
 ·have hp:=qh1 v.toNat v.toNat (Nat.le_refl _) (by omega)
  have hd:=x6 v.toNat v.toNat (Nat.le_refl _)
  rw [qhw (by omega)]
  cases hl:Lib.decDigits v.toNat with
  |nil=>have:=qev v.toNat;rw [hl] at this;simp at this
  |cons c r=>
   rw [hl] at hp hd
   have hc:=hd c (by simp)
   simp only [Lib.atoiAll]
   have g1:¬ (c.toNat=43∨c.toNat=45):=by omega
   rw [if_neg g1]
   have hm:Lib.parseMag (c::r) = .ok v.toNat:=by unfold Lib.parseMag;rw [if_neg (by simp)];exact hp
   rw [hm]
   have g2:¬ c.toNat=45:=by omega
   simp only [g2,not_false_iff,true_and,false_and,if_false]
   rw [if_neg (by omega)]
   congr 1
   omega
def numZ (l:qd):Option Int:=
 match Lib.atoiAll l with
 | .ok v=>if Lib.itoa v=l then some v else none
 | _=>none
theorem qzg {v:Int} (h1 : -9223372036854775808≤v) (h2:v≤9223372036854775807):numZ (Lib.itoa v)=some v:=by
 unfold numZ
 rw [qv4 h1 h2]
 simp
theorem qzh {l:qd} {v:Int} (h:numZ l=some v):l=Lib.itoa v∧-9223372036854775808≤v∧v≤9223372036854775807:=by
 unfold numZ at h
 split at h
 ·rename_i u hu
  split at h
  ·rename_i he
   simp only [Option.some.injEq] at h
   subst h
   exact⟨he.symm,qg0 hu⟩
  ·simp at h
 ·simp at h
end Go.Pl
namespace Go.Proofs.YtneejjefekdgjaaGreatDoor
open Go Go.Av Go.RowKit Go.Proofs Go.Pl
theorem qy5 {l:qd} {v:Int} (h:l=Lib.itoa v):(v<0→(l.getD 0 0).toNat=45∧l.drop 1=Lib.decDigits v.natAbs)∧(0≤v→(l.getD 0 0).toNat≠45∧l=Lib.decDigits v.toNat):=by
 subst h
 refine⟨fun h=>?_,fun h=>?_⟩
 ·rw [qhv h];exact⟨rfl,rfl⟩
 ·rw [qhw h]
  refine⟨?_,rfl⟩
  have hp:=qev v.toNat
  have hd:=x6 v.toNat v.toNat (Nat.le_refl _)
  cases hl:Lib.decDigits v.toNat with
  |nil=>rw [hl] at hp;simp at hp
  |cons c r=>
   rw [hl] at hd
   have:=hd c (by simp)
   simp
   omega
def sgn (l:qd):Nat:=if (l.getD 0 0).toNat=45 then 1 else 0
theorem qko {l:qd} {v:Int} (h:l=Lib.itoa v):l.drop (sgn l)=Lib.decDigits v.natAbs:=by
 obtain⟨h1,h2⟩:=qy5 h
 unfold sgn
 by_cases hv:v<0
 ·obtain⟨a,b⟩:=h1 hv
  rw [if_pos a,b]
 ·obtain⟨a,b⟩:=h2 (by omega)
  rw [if_neg a,List.drop_zero,show v.natAbs=v.toNat by omega]
  exact b
end Go.Proofs.YtneejjefekdgjaaGreatDoor
namespace Go.Pl
open Go
def sp:Bool→qd→Bool
 | _,[]=>true
 |f,c::l=>(!f ||decide (c=32)) && sp (decide (c=10)) l
theorem qip:∀ l,sp false l=sp true (past 10 l)
 | []=>rfl
 |c::l=>by
  by_cases h:c=10
  ·subst h;simp [sp,past,upto]
  ·have e:past 10 (c::l)=past 10 l:=by simp [past,upto,h]
   rw [e,← qip l]
   simp [sp,h]
theorem qs6 {l:qd} (h:l≠[]):sp true l=(decide ([32] <+: upto 10 l) && sp true (past 10 l)):=by
 cases l with
 |nil=>exact absurd rfl h
 |cons c r=>
  by_cases hc:c=10
  ·subst hc;simp [sp,upto]
  ·have e:past 10 (c::r)=past 10 r:=by simp [past,upto,hc]
   have e2:upto 10 (c::r)=c::upto 10 r:=by simp [upto,hc]
   rw [e,e2,← qip]
   simp [sp,hc,eq_comm]
theorem qhx:∀ (n:Nat) (l:qd),l.length≤n→((∀ x∈kf l,[32] <+: x.1)↔sp true l=true)
 | 0,l,h=>by
  have:l=[]:=List.length_eq_zero_iff.1 (by omega)
  subst this
  simp [qap,sp]
 |n+1,l,h=>by
  by_cases hl:l=[]
  ·subst hl;simp [qap,sp]
  ·rw [qbe hl,qs6 hl,Bool.and_eq_true,← qhx n (past 10 l) (by have:=qcq (c:=10) hl;omega)]
   simp only [List.mem_cons,forall_eq_or_imp,decide_eq_true_eq]
theorem qge (l:qd):(qhl [32] l).2=sp true l:=by
 unfold qhl
 by_cases h:sp true l=true
 ·rw [if_pos ((qhx _ l (Nat.le_refl _)).2 h),h]
 ·rw [if_neg (fun h'=>h ((qhx _ l (Nat.le_refl _)).1 h'))]
  simp only [Bool.not_eq_true] at h
  rw [h]
def qgf (f:Bool) (l:qd):Bool:=match l.getLast? with|none=>f|some c=>decide (c=10)
theorem qwk (f:Bool) (c:UInt8) (l:qd):qgf f (c::l)=qgf (decide (c=10)) l:=by
 cases l with
 |nil=>simp [qgf]
 |cons b l=>
  unfold qgf
  rw [List.getLast?_cons_cons]
  cases hb:(b::l).getLast? with
  |none=>simp at hb
  |some x=>rfl
theorem qs5:∀ (f:Bool) (l m:qd),sp f (l++m)=(sp f l && sp (qgf f l) m)
 |f,[],m=>by simp [sp,qgf]
 |f,c::l,m=>by
  simp only [List.cons_append,sp]
  rw [qs5 _ l m,qwk,Bool.and_assoc]
theorem qo7 (l:qd):qeh l↔2≤l.length∧l.length≤50000∧l.getLast? = some 10∧sp true l=true:=by
 unfold qeh
 rw [qge]
theorem qc5:∀ (n u:Nat),u≤n→∀ c∈Lib.decDigits u,48≤c.toNat∧c.toNat≤57
 |n,u,hn,c,hc=>by
  by_cases h:u<10
  ·rw [Lib.decDigits_one h] at hc
   simp only [List.mem_singleton] at hc
   subst hc
   rw [UInt8.toNat_ofNat']
   omega
  ·rw [qbu h,List.mem_append] at hc
   cases n with
   |zero=>omega
   |succ n=>
    rcases hc with hc|hc
    ·exact qc5 n (u / 10) (by omega) c hc
    ·exact qc5 n (u % 10) (by omega) c hc
theorem qhu (n:Nat):Lib.itoa (n:Int)=Lib.decDigits n:=by
 unfold Lib.itoa
 rw [if_neg (by omega)]
 simp
theorem q1o (n:Nat):∀ c∈Lib.itoa (n:Int),48≤c.toNat∧c.toNat≤57:=by
 rw [qhu]
 exact qc5 n n (Nat.le_refl _)
theorem qrd (u:Nat):Lib.decDigits u≠[]:=by
 intro h
 have:=congrArg List.length h
 rw [Lib.decDigits_length] at this
 have:=Lib.nDigits_pos u
 simp at *
 omega
theorem qpe:∀ (a:Nat) (l m:qd) (b:Nat),Lib.parseUint10 a l = .ok b→Lib.parseUint10 a (l++m)=Lib.parseUint10 b m
 |a,[],m,b,h=>by
  simp only [Lib.parseUint10,Lib.NumEnd.ok.injEq] at h
  subst h;rfl
 |a,c::l,m,b,h=>by
  simp only [List.cons_append,Lib.parseUint10] at h ⊢
  split at h
  ·rename_i hd
   rw [if_pos hd]
   split at h
   ·cases h
   ·rename_i h1
    rw [if_neg h1]
    split at h
    ·cases h
    ·rename_i h2
     rw [if_neg h2]
     exact qpe _ l m b h
  ·cases h
theorem qpg:∀ (n u:Nat),u≤n→u<1000000000000000000→Lib.parseUint10 0 (Lib.decDigits u) = .ok u
 |n,u,hn,hu=>by
  have key:∀ (a d:Nat),a<100000000000000000→d<10→Lib.parseUint10 a (Lib.decDigits d) = .ok (a * 10+d):=by
   intro a d ha hd
   have e:(UInt8.ofNat (48+d)).toNat=48+d:=by rw [UInt8.toNat_ofNat'];omega
   rw [Lib.decDigits_one hd]
   simp only [Lib.parseUint10,e]
   rw [if_pos (by omega),if_neg (by omega),if_neg (by omega)]
   congr 1
   omega
  by_cases h:u<10
  ·have:=key 0 u (by omega) h
   simpa using this
  ·cases n with
   |zero=>omega
   |succ n=>
    rw [qbu h,qpe 0 _ _ (u / 10) (qpg n (u / 10) (by omega) (by omega)),key _ _ (by omega) (by omega)]
    congr 1
    omega
theorem qx6 {n:Nat} (h:n<1000000000000000000):Lib.atoiAll (Lib.itoa (n:Int)) = .ok (n:Int):=by
 have hp:=qpg n n (Nat.le_refl _) h
 have hd:=qc5 n n (Nat.le_refl _)
 rw [qhu]
 cases hl:Lib.decDigits n with
 |nil=>exact absurd hl (qrd n)
 |cons c r=>
  rw [hl] at hp hd
  have hc:=hd c (by simp)
  simp only [Lib.atoiAll]
  have h1:¬ (c.toNat=43∨c.toNat=45):=by omega
  rw [if_neg h1]
  have hm:Lib.parseMag (c::r) = .ok n:=by unfold Lib.parseMag;rw [if_neg (by simp)];exact hp
  rw [hm]
  have h2:¬ c.toNat=45:=by omega
  simp only [h2,not_false_iff,true_and,false_and,if_false]
  rw [if_neg (by omega)]
theorem qsj {n:Nat} (h1:1≤n) (h2:n≤50000):yy (Lib.itoa (n:Int))=n:=by
 have:=qw9 (qx6 (n:=n) (by omega))
 rw [if_pos ⟨rfl,by omega,by omega⟩] at this
 omega
theorem qgv {l:qd} {n:Nat} (h:yy l=n) (hn:1≤n):l=Lib.itoa (n:Int):=by
 unfold yy at h
 split at h
 ·split at h
  ·rename_i v _ hv
   have:v=(n:Int):=by omega
   rw [← this,hv.1]
  ·omega
 ·omega
end Go.Pl
namespace Go.Proofs.YtneejjefekdgjaaGreatDoor
open Go Go.Pl
def qah (n:Nat) (fig:qd):qd:=xz++(Lib.itoa n++32::fig)
theorem q1j (n:Nat) (fig:qd):qqf n fig=qah n fig++[10]:=by simp [qqf,qah,xz]
theorem qm7 (n:Nat) {c:UInt8} (h:¬ (48≤c.toNat∧c.toNat≤57)):c∉Lib.itoa (n:Int):=fun hc=>h (q1o n c hc)
theorem qi6 {f:qd} (h:qbc f) {c:UInt8} (hc:c∉hexL):c∉f:=fun h'=>hc (h c h')
theorem qdt (n:Nat) {fig:qd} (h:qbc fig):10∉qah n fig:=by
 unfold qah
 simp only [List.mem_append,List.mem_cons,not_or]
 exact⟨by decide,qm7 n (by decide),by decide,qi6 h (by decide)⟩
theorem qxq (l:qd):Lib.trimPrefix (xz++l) xz=l:=by
 rw [qp9 (List.prefix_append _ _),List.drop_left]
structure q27 (n:Nat) (fig body:qd):Prop where
 two:2≤n
 most:n≤50000
 len:body.length=n
 good:qeh body
 figs:fig.length=8
 hex:qbc fig
def recL (n:Nat) (fig body:qd):qd:=qah n fig++10::(body++qfd n)
theorem q4l (l:qd):recF l=recL l.length (sumF l) l:=by
 unfold recF recL
 rw [q1j]
 simp
theorem qph {l a b:qd} (h:l <+: a++b):l <+: a∨∃ r,l=a++r∧r <+: b:=by
 rcases Nat.le_total l.length a.length with hl|hl
 ·exact .inl (List.prefix_of_prefix_length_le h (List.prefix_append _ _) hl)
 ·obtain⟨r,hr⟩:=List.prefix_of_prefix_length_le (List.prefix_append a b) h hl
  exact .inr ⟨r,hr.symm,by rw [← hr] at h;exact (List.prefix_append_right_inj a).1 h⟩
theorem qod {a b:qd} {c:UInt8} (h:a <+: b) (hc:c∉b):c∉a:=fun h'=>hc (h.subset h')
theorem qxd (f:qd) (hl:f.length≤8) (hx:qbc f):∃ g:qd,g.length=8∧qbc g∧f <+: g:=
 ⟨f++List.replicate (8 - f.length) 48,by simp;omega,fun c hc=>by
  rw [List.mem_append,List.mem_replicate] at hc
  rcases hc with hc | ⟨_,rfl⟩
  ·exact hx c hc
  ·decide,List.prefix_append _ _⟩
theorem qoi:∀ (k:Nat),sp false (List.replicate k 97++[10])=true
 | 0=>by simp [sp]
 |k+1=>by rw [List.replicate_succ,List.cons_append];simp only [sp];exact by simpa using qoi k
theorem qq7 {n:Nat} {r:qd} (hn:n≤50000) (hlt:r.length<n) (h2:2≤n) (hp:qj3 r ((n:Int) - r.length)=2):∃ body:qd,body.length=n∧qeh body∧r <+: body:=by
 unfold qj3 at hp
 split at hp
 ·rename_i h
  obtain⟨hs,hfr⟩:=h
  rw [qge] at hs
  by_cases hf:r=[]∨r.getLast? = some 10
  ·have hk:r.length+2≤n:=by
    rcases Nat.lt_or_ge (r.length+1) n with h|h
    ·omega
    ·exact absurd ⟨hf,by omega⟩ hfr
   refine⟨r++(32::(List.replicate (n - r.length - 2) 97++[10])),by simp;omega,?_,List.prefix_append _ _⟩
   rw [qo7]
   refine⟨by simp;omega,by simp;omega,by simp [List.getLast?_append,List.getLast?_cons],?_⟩
   rw [qs5,hs]
   simp only [sp,Bool.true_and]
   have:=qoi (n - r.length - 2)
   simpa using this
  ·refine⟨r++(List.replicate (n - r.length - 1) 97++[10]),by simp;omega,?_,List.prefix_append _ _⟩
   rw [qo7]
   refine⟨by simp;omega,by simp;omega,by simp [List.getLast?_append],?_⟩
   rw [qs5,hs]
   have e:qgf true r=false:=by
    unfold qgf
    cases hq:r.getLast? with
    |none=>exact absurd (.inl (List.getLast?_eq_none_iff.1 hq)) hf
    |some c=>
     refine decide_eq_false fun h=>hf (.inr ?_)
     rw [hq,h]
   rw [e,qoi]
   rfl
 ·simp at hp
theorem qet {n:Nat} (h2:2≤n) (hn:n≤50000):∃ body:qd,body.length=n∧qeh body:=by
 obtain⟨b,h1,h3,_⟩:=qq7 (n:=n) (r:=[]) hn (by simp;omega) h2 (by
  unfold qj3
  rw [qge]
  rw [if_pos ⟨rfl,by rintro⟨_,h⟩;simp at h;omega⟩])
 exact⟨b,h1,h3⟩
theorem qex {a b c:qd} (h:a <+: b):a <+: b++c:=h.trans (List.prefix_append _ _)
theorem qeq {n:Nat} {fig body l:qd} (h:l <+: qah n fig):l <+: recL n fig body∧l.length<(recL n fig body).length:=by
 refine⟨qex h,?_⟩
 have:=h.length_le
 unfold recL
 simp
 omega
theorem q4g {l:qd} (h:(qdy l).1=2):∃ n fig body,q27 n fig body∧l <+: recL n fig body∧l.length<(recL n fig body).length:=by
 unfold qdy at h
 split at h
 ·rename_i h10
  split at h
  ·rename_i ho
   generalize hr:past 10 l=r at *
   have hl:=qdo h10
   rw [hr] at hl
   generalize hu:upto 10 l=u at *
   -- the first line
   have hop:u=qah (yc u).1 (yc u).2.1∧2≤(yc u).1∧(yc u).1≤50000∧(yc u).2.1.length=8∧qbc (yc u).2.1:=by
    simp only [yc,decide_eq_true_eq] at ho ⊢
    obtain⟨o1,o2,o3,o4,o5⟩:=ho
    refine⟨?_,o3,qdv _,o4,o5⟩
    obtain⟨t,rfl⟩:=o1
    rw [qxq] at *
    have:=qgv rfl (Nat.le_trans (by decide) o3)
    unfold qah
    rw [← this,← qdo o2]
   generalize (yc u).1=n at *
   generalize (yc u).2.1=fig at *
   obtain⟨rfl,h2,hn,hf,hx⟩:=hop
   split at h
   ·rename_i hlt
    obtain⟨body,b1,b2,b3⟩:=qq7 hn hlt h2 h
    refine⟨n,fig,body,⟨h2,hn,b1,b2,hf,hx⟩,?_,?_⟩
    ·rw [hl]
     unfold recL
     rw [List.prefix_append_right_inj,List.cons_prefix_cons]
     exact⟨rfl,qex b3⟩
    ·rw [hl]
     unfold recL
     have:=b3.length_le
     have:=qta n
     simp
     omega
   ·rename_i hge
    split at h
    ·rename_i hg
     have hlen:(r.take n).length=n:=by simp;omega
     refine⟨n,fig,r.take n,⟨h2,hn,hlen,hg,hf,hx⟩,?_⟩
     unfold qux at h
     rw [hlen] at h
     split at h
     ·rename_i hc
      rw [hl]
      unfold recL
      constructor
      ·rw [List.prefix_append_right_inj,List.cons_prefix_cons]
       refine⟨rfl,?_⟩
       conv=>lhs;rw [← List.take_append_drop n r]
       rw [List.prefix_append_right_inj]
       exact hc.2
      ·have:=hc.1
       simp at this ⊢
       omega
     ·split at h <;> simp at h
    ·simp at h
  ·simp at h
 ·rename_i h10
  split at h
  ·rename_i ho
   unfold qf1 at ho
   split at ho
   ·rename_i hb
    obtain⟨t,rfl⟩:=hb
    have ed:(xz++t).drop 7=t:=by rw [show (7:Nat)=xz.length by rfl,List.drop_left]
    rw [ed] at ho
    obtain⟨o1,o2,o3,o4⟩:=of_decide_eq_true ho
    by_cases h32:32∈t
    ·have hn2:2≤yy (upto 32 t):=by
      rcases Nat.lt_or_ge (yy (upto 32 t)) 2 with h|h
      ·exact absurd ⟨h32,h⟩ o1
      ·exact h
     obtain⟨fig,f1,f2,f3⟩:=qxd _ o3 o4
     obtain⟨body,b1,b2⟩:=qet hn2 (qdv _)
     refine⟨_,fig,body,⟨hn2,qdv _,b1,b2,f1,f2⟩,qeq ?_⟩
     unfold qah
     rw [List.prefix_append_right_inj]
     conv=>lhs;rw [qdo h32]
     rw [qgv (l:=upto 32 t) rfl (by omega)]
     rw [qsj (by omega) (qdv _),List.prefix_append_right_inj,List.cons_prefix_cons]
     exact⟨rfl,f3⟩
    ·rw [qf7 h32] at o2
     by_cases ht:t=[]
     ·subst ht
      obtain⟨body,b1,b2⟩:=qet (n:=2) (by omega) (by omega)
      refine⟨2,List.replicate 8 48,body,⟨by omega,by omega,b1,b2,by simp,by decide⟩,qeq ?_⟩
      unfold qah
      simp
     ·have hpos:1≤yy t:=by
       rcases Nat.eq_zero_or_pos (yy t) with h|h
       ·exact absurd ⟨ht,h⟩ o2
       ·exact h
      have hle:=qdv t
      have ht2:=qgv (l:=t) rfl hpos
      generalize yy t=m at *
      subst ht2
      by_cases hm:m=1
      ·subst hm
       obtain⟨body,b1,b2⟩:=qet (n:=10) (by omega) (by omega)
       refine⟨10,List.replicate 8 48,body,⟨by omega,by omega,b1,b2,by simp,by decide⟩,qeq ?_⟩
       unfold qah
       rw [List.prefix_append_right_inj]
       have e1:Lib.itoa ((1:Nat):Int)=[49]:=by rw [qhu,Lib.decDigits_one (by decide)];rfl
       have e2:Lib.itoa ((10:Nat):Int)=[49,48]:=by rw [qhu,qbu (by decide),Lib.decDigits_one (by decide),Lib.decDigits_one (by decide)];rfl
       rw [e1,e2]
       exact⟨_,rfl⟩
      ·obtain⟨body,b1,b2⟩:=qet (n:=m) (by omega) (by omega)
       refine⟨m,List.replicate 8 48,body,⟨by omega,by omega,b1,b2,by simp,by decide⟩,qeq ?_⟩
       unfold qah
       rw [List.prefix_append_right_inj]
       exact List.prefix_append _ _
   ·rename_i hb
    have hp:=of_decide_eq_true ho
    obtain⟨body,b1,b2⟩:=qet (n:=2) (by omega) (by omega)
    refine⟨2,List.replicate 8 48,body,⟨by omega,by omega,b1,b2,by simp,by decide⟩,qeq ?_⟩
    unfold qah
    exact qex hp
  ·simp at h
theorem qt4 (s:BitVec 32):qbc (qwn s 8):=by
 intro c hc
 simp only [qwn,List.mem_map] at hc
 obtain⟨j,_,rfl⟩:=hc
 unfold figP
 have h:=Go.Av.and15_lt (s >>> (4 * (7 - j)))
 generalize ((s >>> (4 * (7 - j))) &&& BitVec.ofInt 32 15).toNat=k at h
 have key:∀ i:Fin 16,([48,49,50,51,52,53,54,55,56,57,97,98,99,100,101,102]:qd).getD i.val 0∈hexL:=by decide
 exact key ⟨k,h⟩
theorem q57 {l:qd} (h1:10∈l→(yc (upto 10 l)).2.2=false) (h2:10∉l→qf1 l=false):qdy l=(3,[],0):=by
 unfold qdy
 by_cases h:10∈l
 ·rw [if_pos h,if_neg (by rw [h1 h];simp)]
 ·rw [if_neg h,if_neg (by rw [h2 h];simp)]
theorem R2 {l:qd} (hl:l.length≤7) (h:¬ l <+: xz):qdy l=(3,[],0):=by
 refine q57 (fun h10=>decide_eq_false fun h'=>?_) (fun h10=>?_)
 ·have:=h'.1.length_le
  have:=qor h10
  have e:xz.length=7:=rfl
  omega
 ·unfold qf1
  by_cases hb:xz <+: l
  ·have:=hb.eq_of_length_le hl
   exact absurd (this▸List.prefix_refl _) h
  ·rw [if_neg hb];exact decide_eq_false h
theorem q4x {p:UInt8→Bool} (s:qd):s.take (s.takeWhile p).length=s.takeWhile p:=by
 induction s with
 |nil=>rfl
 |cons b s ih=>
  by_cases h:p b=true
  ·rw [List.takeWhile_cons_of_pos h];simp [ih]
  ·rw [List.takeWhile_cons_of_neg h];rfl
theorem q6n {p:UInt8→Bool} {l m:qd} (hm:m <+: l) (h:∀ c∈m,p c=true):m.length≤(l.takeWhile p).length:=by
 obtain⟨r,rfl⟩:=hm
 rw [List.takeWhile_append_of_pos h]
 simp
end Go.Proofs.YtneejjefekdgjaaGreatDoor
namespace Go.Proofs.YtneejjefekdgjaaGreatDoor
open Go Go.Av Go.RowKit Go.Proofs Go.Pl
structure q2t (l S:qd) (K n:Nat):Prop where
 hl:l=xz++S
 hK:(S.takeWhile qmu).length=K
 hD:S.take K=Lib.itoa (n:Int)
 h1:1≤n
 h2:n≤50000
theorem q2t.split {l S:qd} {K n:Nat} (A:q2t l S K n) (h:K<S.length):S=Lib.itoa (n:Int)++S.getD K 0::S.drop (K+1)∧qmu (S.getD K 0)=false:=by
 have e:S=S.take K++S.getD K 0::S.drop (K+1):=by
  conv=>lhs;rw [← List.take_append_drop K S]
  rw [List.drop_eq_getElem_cons h]
  congr 2
  simp [List.getD,h]
 refine⟨by rw [← A.hD];exact e,?_⟩
 cases hc:qmu (S.getD K 0) with
 |false=>rfl
 |true=>
  have hp:S.take (K+1) <+: S:=List.take_prefix _ _
  have:=q6n (p:=qmu) hp (fun c hc'=>by
   rw [qpo h,List.mem_append,List.mem_singleton] at hc'
   rcases hc' with hc'|rfl
   ·rw [← A.hK,q4x] at hc'
    have ha:=List.all_takeWhile (p:=qmu) (l:=S)
    rw [List.all_eq_true] at ha
    exact ha c hc'
   ·exact hc)
  rw [A.hK] at this
  simp at this
  omega
end Go.Proofs.YtneejjefekdgjaaGreatDoor
namespace Go.Av
open Go Go.RowKit
def StE (L:List (Nat×AV)) (st loc:List AObj) (s:AS):Prop:=∃ t ext,s=⟨puts t L,((st++loc)++ext)++[],[]⟩
theorem qhe {t:Nat→AV} {L:List (Nat×AV)} {st loc loc' ext new:List AObj} (h:HasL t L) (e:loc'=loc):StE L st loc ⟨t,((st++loc')++ext)++new,[]⟩:=
 ⟨t,ext++new,by rw [qfj h,e];simp⟩
theorem qok {t:Nat→AV} {L:List (Nat×AV)} {st loc st':List AObj} (h:HasL t L) (e:st'=st++loc):StE L st loc ⟨t,st',[]⟩:=
 ⟨t,[],by rw [qfj h,e];simp⟩
theorem qjx (st loc ext new:List AObj):∃ x,((st++loc)++ext)++new=st++x:=⟨loc++ext++new,by simp⟩
theorem qdj {st loc ext new:List AObj} {k:Nat} {x:AObj} (h:loc[k]? = some x):(((st++loc)++ext)++new)[st.length+k]? = some x:=by
 have hk:=lt_of_getElem? h
 rw [List.append_assoc,List.append_assoc,List.getElem?_append_right (Nat.le_add_right _ _),Nat.add_sub_cancel_left,List.getElem?_append_left hk]
 exact h
theorem qhd {st loc ext new:List AObj} {k:Nat} (x:AObj) (hk:k<loc.length):(((st++loc)++ext)++new).set (st.length+k) x=((st++loc.set k x)++ext)++new:=by
 rw [List.append_assoc,List.append_assoc,List.set_append_right _ _ (Nat.le_add_right _ _),Nat.add_sub_cancel_left,List.set_append_left _ _ hk]
 simp
theorem qgm {G:Gh} {sz:Nat} {xs:List AV} {tip:Option Nat} {v:Value} (h:Rel G (.sl sz xs tip) v):Rel G (.sl sz xs none) v:=by
 cases h with
 |sl0 _ _ base cap ht=>exact .sl0 sz none base cap (by simp)
 |sl _ _ _ b off cap pub hp hw hlen hr ht hcap=>exact .sl sz xs none b off cap pub hp hw hlen hr (fun t ht=>by simp at ht) hcap
theorem qa7 {G:Gh} {sz:Nat} {v:Value} (h:Rel G jp v):Rel G (.sl sz [] none) v:=by
 cases h
 exact .sl0 sz none none 0 (by simp)
section
variable {E : Env} {rd : Option Nat} {N : Nat} {ops : Array Oper} {K : AS → Prop} {s : AS} {rest : List Oper} {d : Option Tmp} {T : TypeId} {p : String} {af : Array Edge}
theorem qam {fn:Func} {r r':AV} (h:ARes E fn s r) (hw:∀ (G:Gh) (v:Value),Rel G r v→Rel G r' v):ARes E fn s r':=
 ⟨fun B0 w0 G a w hL hI=>let ⟨v,h1,h2⟩:=h.run B0 w0 G a w hL hI;⟨v,h1,hw G v h2⟩⟩
theorem qv2 {fn:Func} {t:Tmp} {sz:Nat} {xs:List AV} {tip:Option Nat} (hr:fn.results = #[.tmp t]) (hx:qh fn.ntmps s (.tmp t) = .sl sz xs tip):ARes E fn s (.sl sz xs none):=
 qam (zp hr) fun G v h=>by rw [hx] at h;exact qgm h
theorem qv1 {fn:Func} {t:Tmp} {sz:Nat} (hr:fn.results = #[.tmp t]) (hx:qh fn.ntmps s (.tmp t)=jp):ARes E fn s (.sl sz [] none):=
 qam (zp hr) fun G v h=>by rw [hx] at h;exact qa7 h
theorem qga {x y:Operand} {t u T':TypeId} {sz bytes k n m:Nat} {xs ys zs:List AV} {tip:Option Nat} {st loc ext new:List AObj} (hs:s.st=((st++loc)++ext)++new) (hx:qh N s x = .sl sz xs (some (st.length+k))) (hy:qh N s y = .sl sz ys tip) (ho:loc[k]? = some (.tip n sz T')) (hn:xs.length=n)
  (ht:E.P.underlying t=some (.slice T')) (hu:E.P.underlying u=some (.slice T')) (hT:y4 E.P T' sz bytes) (hone:wh (flat ys)=true) (hm:ys.length=m) (h63:n+m≤maxLen) (hb:(n+m) * bytes≤140737488355328) (hz:xs++ys=zs)
  (h:AOps E rd N ops rest K (AS.put ⟨s.t,((st++loc.set k (.tip (n+m) sz T'))++ext)++new,s.df⟩ d (.sl sz zs (some (st.length+k))))):AOps E rd N ops (⟨d,.call ⟨.builtin .append,#[x,y],#[t,u]⟩,T,p,af,none⟩::rest) K s:=by
 subst hz
 have hk:=lt_of_getElem? ho
 exact qtn hx hy (by rw [hs];exact qdj ho) hn ht hu hT hone hm h63 hb (by rw [hs,qhd _ hk];exact h)
theorem jq {x:Operand} {t:TypeId} {sz:Nat} {agg:Bool} {st loc ext new:List AObj} {k ver off:Nat} {T':TypeId} {cs:List AV} {r:AV} (hs:s.st=((st++loc)++ext)++new) (hx:qh N s x = .bx (st.length+k) ver off) (ho:loc[k]? = some (.cells ver T' cs)) (ht:tyOf E.P t=some (sz,agg)) (hr:wi sz agg off cs=some r)
  (h:AOps E rd N ops rest K (s.put d r)):AOps E rd N ops (⟨d,.load t x,T,p,af,none⟩::rest) K s:=
 wy hx (by rw [hs];exact qdj ho) ht hr h
end
end Go.Av
namespace Go.Pl
open Go
def je (l:qd):List qd:=
 if h:10∈l then upto 10 l::je (past 10 l) else [l]
 termination_by l.length
 decreasing_by exact qcq (fun e=>by rw [e] at h;simp at h)
theorem qc2 {l:qd} (h:10∈l):je l=upto 10 l::je (past 10 l):=by rw [je,dif_pos h]
theorem qc3 {l:qd} (h:10∉l):je l=[l]:=by rw [je,dif_neg h]
theorem qvk:∀ (n:Nat) (l:qd),l.length≤n→Lib.splitK [10] 0 (Lib.count l [10]) l=je l
 |n,l,hn=>by
  by_cases h:10∈l
  ·have hi:=qmt 10 l h
   have hne:l≠[]:=fun e=>by rw [e] at h;simp at h
   have hlt:=qcq (c:=10) hne
   rw [qc2 h,Lib.count_hit (i:=(upto 10 l).length) (by simp) hi,Nat.add_comm,Lib.splitK]
   rw [if_neg (by rw [hi];simp),hi]
   cases n with
   |zero=>exact absurd (List.length_eq_zero_iff.1 (by omega)) hne
   |succ n=>
    have:=qvk n (past 10 l) (by omega)
    simp only [Int.toNat_natCast,Nat.add_zero,List.length_cons,List.length_nil,Nat.zero_add,qgn]
    rw [show List.drop ((upto 10 l).length+1) l=past 10 l from rfl,this]
  ·have hi:Lib.index l [10] = -1:=by
    have:=Lib.index_ge l [10]
    have h2:¬ 0≤Lib.index l [10]:=fun h'=>h ((qcg l 10).1 h')
    omega
   rw [qc3 h,Lib.count_miss hi]
   rfl
theorem qcw:∀ (n:Nat) (l:qd),l.length≤n→(je l).length≤l.length+1
 |n,l,hn=>by
  by_cases h:10∈l
  ·have hne:l≠[]:=fun e=>by rw [e] at h;simp at h
   have hlt:=qcq (c:=10) hne
   rw [qc2 h]
   cases n with
   |zero=>exact absurd (List.length_eq_zero_iff.1 (by omega)) hne
   |succ n=>
    have:=qcw n (past 10 l) (by omega)
    simp only [List.length_cons]
    omega
  ·rw [qc3 h];simp
theorem qew:∀ (n:Nat) (l:qd),l.length≤n→∀ x∈je l,x.length≤l.length∧10∉x
 |n,l,hn,x,hx=>by
  by_cases h:10∈l
  ·have hne:l≠[]:=fun e=>by rw [e] at h;simp at h
   have hlt:=qcq (c:=10) hne
   rw [qc2 h,List.mem_cons] at hx
   rcases hx with rfl|hx
   ·exact⟨qeb 10 l,qm8 10 l⟩
   ·cases n with
    |zero=>exact absurd (List.length_eq_zero_iff.1 (by omega)) hne
    |succ n=>
     have:=qew n (past 10 l) (by omega) x hx
     exact⟨by omega,this.2⟩
  ·rw [qc3 h,List.mem_singleton] at hx
   subst hx
   exact⟨Nat.le_refl _,h⟩
end Go.Pl
namespace Go.Proofs.YtneejjefekdgjaaGreatDoor
open Go Go.Av Go.RowKit Go.Proofs Go.Pl
theorem qiq {f:FuncId} {st:List AObj} {args:List AV} {vals:Array Value} {xs:List qd} {T:TypeId} (ha:args=vals.toList.map .v) (hne:xs≠[])
  (h:∀ B0 w0 w,E.L B0 w0→Below B0 w0 w→Calls E.P f vals w fun e w'=>e = .returned (.slice (some ⟨w.heap.size,0,none⟩) xs.length xs.length)∧w'=w.alloc (.cells (xs.map fun l=>Value.string ⟨l.toArray⟩).toArray T)) :
  qn E f args st fun r st'=>r = .sl 1 (xs.map fun l=>Sv l) none∧st'=st:=by
 subst ha
 refine⟨fun B0 w0 G vs w hL hA hR=>?_⟩
 have hv:vs=vals:=by
  have hs:vs.size=vals.size:=by have:=hR.1;simpa using this.symm
  apply Array.ext hs
  intro i h1 h2
  have:=hR.2 i (.v vals[i]) vs[i] (by simp [h2]) (by simp [h1])
  generalize vs[i]=y at this
  cases this
  rfl
 subst hv
 refine (h B0 w0 w hL hA.below).mono ?_
 rintro e w' ⟨rfl,rfl⟩
 obtain⟨hle,hA'⟩:=hA.newPub T (xs.map fun l=>Value.string ⟨l.toArray⟩).toArray (0,0) (xs.map fun l=>Value.string ⟨l.toArray⟩) (fun i y hy=>by simpa using hy)
 refine⟨_,_,_,st,rfl,hle,hA',?_,rfl,rfl⟩
 have hfl:flat (xs.map fun l=>Sv l)=xs.map fun l=>Sv l:=by
  clear hne h hle hA'
  induction xs with
  |nil=>rfl
  |cons a xs ih=>rw [List.map_cons,qbi,ih];rfl
 have:=Rel.sl (G:=G.publish w.heap.size (xs.map fun l=>Value.string ⟨l.toArray⟩)) 1 (xs.map fun l=>Sv l) none w.heap.size 0 xs.length (xs.map fun l=>Value.string ⟨l.toArray⟩) (by simp [Gh.publish]) (fun x hx=>by
  simp only [List.mem_map] at hx
  obtain⟨l,_,rfl⟩:=hx
  rfl) (by rw [hfl];simp) (fun i x y h1 h2=>by
  rw [hfl,List.getElem?_map] at h1
  rw [Nat.zero_add,List.getElem?_map] at h2
  cases hx:xs[i]? with
  |none=>rw [hx] at h1;simp at h1
  |some l=>
   rw [hx] at h1 h2
   simp at h1 h2
   subst h1;subst h2
   exact .v _) (fun t ht=>by simp at ht) (by simp)
 simpa using this
theorem qpk (l:List UInt8) (st:List AObj) (hl:l.length<4294967281):qn E 285 [Sv l,Sv [10]] st fun r st'=>r = .sl 1 ((je l).map fun x=>Sv x) none∧st'=st:=by
 have hd:=Lib.splitB_data ⟨#[10]⟩ 0 (Lib.countB ⟨l.toArray⟩ ⟨#[10]⟩) ⟨l.toArray⟩
 have hs:Lib.splitK [10] 0 (Lib.count l [10]) l=je l:=qvk _ l (Nat.le_refl _)
 have hn:=Lib.splitB_all ⟨#[10]⟩ (by simp [ByteArray.size]) 0 _ ⟨l.toArray⟩ rfl
 have hd2:(Lib.splitB ⟨#[10]⟩ 0 (Lib.countB ⟨l.toArray⟩ ⟨#[10]⟩) ⟨l.toArray⟩).map (·.data.toList)=je l:=hd.trans hs
 have hlen:(je l).length=Lib.countB ⟨l.toArray⟩ ⟨#[10]⟩+1:=by rw [← hd2,List.length_map,hn]
 refine qiq (T:=9) (vals:= #[.string ⟨l.toArray⟩,.string ⟨#[10]⟩]) rfl (fun e=>by rw [e] at hlen;simp at hlen) fun _ _ w hL hb=>(Tryz.strings_Split_shaped ⟨l.toArray⟩ ⟨#[10]⟩ w (hL w hb).shaped (by simpa [ByteArray.size] using hl) (by simp [ByteArray.size])).mono fun e w' ⟨h1,h2⟩=>?_
 refine⟨by rw [h1,hlen],?_⟩
 rw [h2,← hd2,List.map_map]
 rfl
end Go.Proofs.YtneejjefekdgjaaGreatDoor
namespace Go.Av
open Go Go.RowKit
section
variable {E : Env} {N : Nat} {ops : Array Oper} {K : AS → Prop} {s : AS} {rest : List Oper} {d : Option Tmp} {T : TypeId} {p : String} {af : Array Edge}
theorem ql7 {x:Operand} {t:TypeId} {sz:Nat} {agg:Bool} {o ver off:Nat} {T':TypeId} {cs:List AV} {r:AV} (hx:qh N s x = .bx o ver off) (ho:s.st[o]? = some (.cells ver T' cs)) (ht:tyOf E.P t=some (sz,agg)) (hr:wi sz agg off cs=some r)
  (h:AQ E N ops rest K (s.put d r)):AQ E N ops (⟨d,.load t x,T,p,af,none⟩::rest) K s:=by
 refine qc4 rfl nofun fun B0 w0 G a w _ hI=>?_
 have he:=hI.eval_of hx
 generalize hv:a.eval x=v at he
 cases he with
 |bx _ _ _ b hn hv' hb=>
  obtain⟨_,h1,h2,h3,c,h4,h5,h6⟩:=hI.agree.ob o _ ho
  have hb:=hb h1
  subst hb
  have hlt:(G.ob o).blk<w.heap.size:=by
   rcases Nat.lt_or_ge (G.ob o).blk w.heap.size with h'|h'
   ·exact h'
   ·rw [Array.getElem?_eq_none h'] at h4;simp at h4
  -- the value is read out of the cells, whatever is drawn behind them
  have key:∀ w',Below w.heap.size w w'→∃ v,(loadVar t ⟨(G.ob o).blk,off,none⟩).run E.P w' = .ok v w'∧Rel G r v:=fun w' hw'=>by
   have h4':w'.heap[(G.ob o).blk]? = some (.cells c T' (0,0)):=by rw [hw'.block _ hlt];exact h4
   exact qbh (w:=w') (G:=G) (b:=(G.ob o).blk) (off:=off) (off':=off) ht (fun i x hx hi=>by
    obtain⟨y,hy⟩:=xl hx (Nat.le_of_eq h5)
    refine⟨y,?_,h6 i x y hx hy⟩
    simp [World.cell?,h4',show off+(i - off)=i by omega,hy]) hr
  have hsame:∀ w',Below w.heap.size w w'→∀ v,(loadVar t ⟨(G.ob o).blk,off,none⟩).run E.P w = .ok v w→(loadVar t ⟨(G.ob o).blk,off,none⟩).run E.P w' = .ok v w':=fun w' hw' v hr1=>by
   obtain⟨i1,i2⟩:=wg ht w
   obtain⟨j1,j2⟩:=wg ht w'
   have hc:∀ k,w'.cell? ⟨(G.ob o).blk,k,none⟩=w.cell? ⟨(G.ob o).blk,k,none⟩:=fun k=>by simp [World.cell?,hw'.block _ hlt]
   obtain⟨v',h1',_⟩:=key w' hw'
   rw [h1']
   congr 1
   cases agg with
   |false=>
    simp only [wi,cond_false] at hr
    obtain⟨y,hy⟩:=xl hr (Nat.le_of_eq h5)
    have e1:w.cell? ⟨(G.ob o).blk,off,none⟩=some y:=by simp [World.cell?,h4,hy]
    have e2:w'.cell? ⟨(G.ob o).blk,off,none⟩=some y:=by rw [hc,e1]
    simp [loadVar,i2,run_load,e1] at hr1
    simp [loadVar,j2,run_load,e2] at h1'
    rw [← h1',hr1]
   |true=>
    simp only [wi,cond_true] at hr
    cases hb2:Nat.ble (off+sz) cs.length with
    |false=>rw [hb2] at hr;simp at hr
    |true=>
     have hle:off+sz≤cs.length:=Nat.le_of_ble_eq_true hb2
     have e1:∀ j,j<sz→w.cell? ⟨(G.ob o).blk,off+j,none⟩=some (c.getD (off+j) undef):=fun j hj=>by
      have:off+j<c.size:=by omega
      simp [World.cell?,h4,this]
     have e2:∀ j,j<sz→w'.cell? ⟨(G.ob o).blk,off+j,none⟩=some (c.getD (off+j) undef):=fun j hj=>by rw [hc,e1 j hj]
     have l1:=run_loadCells (P:=E.P) (w:=w) ⟨(G.ob o).blk,off,none⟩ sz (fun j=>c.getD (off+j) undef) (fun j hj=>by rw [Addr.add_lit];exact e1 j hj)
     have l2:=run_loadCells (P:=E.P) (w:=w') ⟨(G.ob o).blk,off,none⟩ sz (fun j=>c.getD (off+j) undef) (fun j hj=>by rw [Addr.add_lit];exact e2 j hj)
     simp [loadVar,i1,i2,l1] at hr1
     simp [loadVar,j1,j2,l2] at h1'
     rw [← h1',hr1]
  obtain⟨v,hrun,hR⟩:=key w (Below.refl _ _)
  exact⟨v,r,fun w' hw'=>by simp only [execOp,hv,Instr.loadAt,Instr.sureAddr];simp [hsame w' hw' v hrun],hR,h⟩
end
end Go.Av
namespace Go.Av
open Go Go.RowKit
section
variable {E : Env} {rd : Option Nat} {N : Nat} {ops : Array Oper} {K : AS → Prop} {s : AS} {rest : List Oper} {d : Option Tmp} {T : TypeId} {p : String} {af : Array Edge}
theorem jz {x:Operand} {t:TypeId} {sz:Nat} {agg:Bool} {st loc:List AObj} {k ver off:Nat} {T':TypeId} {cs:List AV} {r:AV} (hs:s.st=st++loc) (hx:qh N s x = .bx (st.length+k) ver off) (ho:loc[k]? = some (.cells ver T' cs)) (ht:tyOf E.P t=some (sz,agg)) (hr:wi sz agg off cs=some r)
  (h:AQ E N ops rest K (s.put d r)):AQ E N ops (⟨d,.load t x,T,p,af,none⟩::rest) K s:=
 ql7 hx (by rw [hs];exact qag ho) ht hr h
end
end Go.Av
namespace Go.Proofs.YtneejjefekdgjaaGreatDoor
open Go Go.Av Go.RowKit Go.Proofs Go.Pl
structure jo where
 kind:Int
 key:qd
 text:qd
 lo:Int
 hi:Int
@[reducible] def qxg (r : jo) : List AV := [Iv r.kind, Sv r.key, Sv r.text, Iv r.lo, Iv r.hi]
@[reducible] def vz (r : jo) : AV := .ag (qxg r)
abbrev FldV:=qd×qd
@[reducible] def fldA (f : FldV) : AV := .ag [Sv f.1, Sv f.2]
@[reducible] def vq (l : List FldV) : AV := .sl 2 (l.map fldA) none
def yi (r:jo):Prop:=1≤r.kind∧r.kind≤7∧(r.kind=6∨qbq r.key)
instance (r:jo):Decidable (yi r):=inferInstanceAs (Decidable (_∧_∧_))
theorem qg8 (r:jo) (st:List AObj) (hl:r.key.length<4294967281):qn E 50 [vz r] st fun x st'=>x=Bv (decide (yi r))∧st'=st:=by
 refine zz (zm _) (qx Tryz.func50 rfl (Nat.le_of_ble_eq_true rfl) ?_)
 repeat' (first|(apply w7;first|apply qv|apply zw|apply qm|(apply qc;exact rfl;apply xi;exact cAo)|(apply qc;exact rfl;apply xg;exact cAo)|(apply qc;exact rfl;apply yu;exact cRa)|(apply qc;exact rfl;apply y0;exact cRa)|(apply qc;exact rfl;apply cd_n <;> intro h)|(apply qc;exact rfl;apply cd_t;exact cRa)|(apply qc;exact rfl;apply cd_f;exact cRa)|(apply qc;exact rfl;apply cd_d <;> intro h)|(apply qc;exact rfl;apply cd_s <;> intro h)|(apply xf;exact rfl;kernel_rfl)|apply q9|apply kc|apply zj)|(apply ku;first|(apply q6;(iterate 4 exact rfl))|(apply zk;(iterate 4 exact rfl)))|(apply xy;first|(apply vg;exact cAo)|(apply wl;exact cAo)|(apply vd;exact cAo)|(apply vm;exact cAo)|(apply vl;exact cRa)|(apply wd;exact cRa)|(apply va;exact cRa)|(apply ki;exact cRa)|(apply kj <;> intro h)|(apply wo;exact cRa)|(apply xa;exact cRa)|(apply vn;exact cRa)|(apply ve;exact cRa)|(apply j9 <;> intro h)|(apply wp <;> intro h))|(apply xx;first|apply ye|(apply xq;(iterate 4 exact rfl))|(apply yo;exact rfl;exact rfl;exact ql (by omega) (by omega))|(apply xv;(iterate 4 exact rfl);exact cAs;exact cAs)|(apply j7;(iterate 5 exact rfl))|(apply vk;exact rfl;exact rfl;exact cOs)|(apply kh;(iterate 3 exact rfl))|(apply jz;(iterate 5 exact rfl))|(apply zv;(iterate 4 exact rfl))|(apply zu;(iterate 3 exact rfl))|(apply yn;(iterate 3 exact rfl);exact cAs)|(apply xu;exact rfl;exact rfl)|(apply wz;exact rfl;exact rfl)|(apply w6;(iterate 3 exact rfl);omega)|(apply v8;(iterate 3 exact rfl))|apply xk|apply v7|(apply ym;exact rfl;exact rfl;exact ql (by omega) (by omega))|(apply xt;(iterate 3 exact rfl))|(apply xw;(iterate 3 exact rfl);exact cAs)|(apply xp;(iterate 3 exact rfl);exact cAs)|(apply kq;exact rfl;exact rfl))|(apply kr;first|(apply zb;(iterate 3 exact rfl))|(apply jn;(iterate 3 exact rfl))|(apply jf;exact rfl;exact rfl;exact cOs)|(apply z8;exact rfl;exact rfl;exact ql (by omega) (by omega))|(apply vr;exact rfl;exact rfl;exact ql (by omega) (by omega))|(apply zx;exact rfl;exact rfl)|(apply zy;exact rfl;exact rfl)|(apply jg;exact rfl;exact rfl)|(apply jh;exact rfl;exact rfl)|(apply zq;(iterate 3 exact rfl))|(apply ji;(iterate 3 exact rfl))|(apply kp;exact rfl;exact rfl;(first|exact qg _|exact rfl);first|exact qg _|exact rfl)|(apply kl;exact rfl;exact rfl;(first|exact qg _|exact rfl);first|exact qg _|exact rfl)|(apply v6;exact rfl;exact rfl;(first|exact qg _|exact rfl);first|exact qg _|exact rfl)|(apply km;(iterate 3 exact rfl))|(apply ko;(iterate 3 exact rfl)))|(apply wb;first|(apply zf;(iterate 3 exact rfl))|(apply jq;(iterate 5 exact rfl))|(apply zh;(iterate 5 exact rfl)))|(apply wc;first|(apply kg;exact rfl)|(apply ju;exact rfl)|(apply jw;exact rfl))|(apply kw;first|(apply vj;(iterate 3 exact rfl);exact cAs)|(apply vh;(iterate 3 exact rfl);exact cAs)|(apply vi;(iterate 4 exact rfl);exact cAs;exact cAs)|(apply z0;(iterate 4 exact rfl);(first|assumption|omega|exact Nat.succ_le_succ (Nat.zero_le _)|(simp;omega));exact rfl))|(apply wa;first|(apply j5;(iterate 3 exact rfl))|(apply zl;(iterate 4 exact rfl)))|(apply jc;first|(apply qw;(iterate 3 exact rfl))|(apply q7;(iterate 4 exact rfl)))|(apply kz;first|(apply jb;(iterate 11 exact rfl))|(apply ze;(iterate 11 exact rfl)))|(apply w8;first|apply qk|apply qp|apply qo|(apply zn;exact rfl;exact rfl)|(apply qe;exact rfl;apply yj;exact cAo)|(apply qe;exact rfl;apply yw;exact cAo)|(apply qe;exact rfl;apply qaa;exact cRa)|(apply qe;exact rfl;apply y9;exact cRa)|(apply qe;exact rfl;apply pk_t;exact cRa)|(apply qe;exact rfl;apply pk_f;exact cRa)|(apply qy;exact rfl;exact rfl)|apply z7|(apply z4;exact rfl;exact rfl)|(apply vc;(iterate 4 exact rfl))|(apply j8;(iterate 3 exact rfl))|(apply wn;(iterate 3 exact rfl);exact cAs)|(apply jt;(iterate 3 exact rfl))|(apply zo;(iterate 9 exact rfl))|(apply zi;exact rfl;exact rfl)|(apply j6;(iterate 4 exact rfl);(first|assumption|omega|decide);exact rfl)|(apply zt;(iterate 4 exact rfl);first|assumption|omega|decide))|(apply qz;exact Tryz.call99;exact qw0 _ _ hl))
 all_goals refine qu rfl (zp rfl) ⟨congrArg Bv (?_:_=decide (yi r)),_,rfl⟩
 ·exact (decide_eq_false (fun h=>by have:=h.1;omega)).symm
 ·exact (decide_eq_false (fun h=>by have:=h.2.1;omega)).symm
 ·exact (decide_eq_true (⟨by omega,by omega,.inl (by assumption)⟩:yi r)).symm
 ·have e:yi r↔qbq r.key:=⟨fun h=>h.2.2.resolve_left (by assumption),fun h=>⟨by omega,by omega,.inr h⟩⟩
  simp [e]
def qdp (l:qd):List qd:=if l=[] then [] else je l
theorem qjj (xs:List qd):Pure (.sl 1 (xs.map fun x=>Sv x) none):=qdl fun x hx=>by
 simp only [List.mem_map] at hx
 obtain⟨l,_,rfl⟩:=hx
 intro y hy
 simp [AV.cells] at hy
 subst hy
 exact zm _
theorem q44 (l:List UInt8) (st:List AObj) (hl:l.length<4294967281):qn E 226 [Sv l] st fun r st'=>r = .sl 1 ((qdp l).map fun x=>Sv x) none∧st'=st:=by
 refine zz (qjj _) (qx Tryz.func226 rfl (Nat.le_of_ble_eq_true rfl) ?_)
 repeat' (first|(apply w7;first|apply qv|apply zw|apply qm|(apply qc;exact rfl;apply xi;exact cAo)|(apply qc;exact rfl;apply xg;exact cAo)|(apply qc;exact rfl;apply yu;exact cRa)|(apply qc;exact rfl;apply y0;exact cRa)|(apply qc;exact rfl;apply cd_n <;> intro h)|(apply qc;exact rfl;apply cd_t;exact cRa)|(apply qc;exact rfl;apply cd_f;exact cRa)|(apply qc;exact rfl;apply cd_d <;> intro h)|(apply qc;exact rfl;apply cd_s <;> intro h)|(apply xf;exact rfl;kernel_rfl)|apply q9|apply kc|apply zj)|(apply ku;first|(apply q6;(iterate 4 exact rfl))|(apply zk;(iterate 4 exact rfl)))|(apply xy;first|(apply vg;exact cAo)|(apply wl;exact cAo)|(apply vd;exact cAo)|(apply vm;exact cAo)|(apply vl;exact cRa)|(apply wd;exact cRa)|(apply va;exact cRa)|(apply ki;exact cRa)|(apply kj <;> intro h)|(apply wo;exact cRa)|(apply xa;exact cRa)|(apply vn;exact cRa)|(apply ve;exact cRa)|(apply j9 <;> intro h)|(apply wp <;> intro h))|(apply xx;first|apply ye|(apply xq;(iterate 4 exact rfl))|(apply yo;exact rfl;exact rfl;exact ql (by omega) (by omega))|(apply xv;(iterate 4 exact rfl);exact cAs;exact cAs)|(apply j7;(iterate 5 exact rfl))|(apply vk;exact rfl;exact rfl;exact cOs)|(apply kh;(iterate 3 exact rfl))|(apply jz;(iterate 5 exact rfl))|(apply zv;(iterate 4 exact rfl))|(apply zu;(iterate 3 exact rfl))|(apply yn;(iterate 3 exact rfl);exact cAs)|(apply xu;exact rfl;exact rfl)|(apply wz;exact rfl;exact rfl)|(apply w6;(iterate 3 exact rfl);omega)|(apply v8;(iterate 3 exact rfl))|apply xk|apply v7|(apply ym;exact rfl;exact rfl;exact ql (by omega) (by omega))|(apply xt;(iterate 3 exact rfl))|(apply xw;(iterate 3 exact rfl);exact cAs)|(apply xp;(iterate 3 exact rfl);exact cAs)|(apply kq;exact rfl;exact rfl))|(apply kr;first|(apply zb;(iterate 3 exact rfl))|(apply jn;(iterate 3 exact rfl))|(apply jf;exact rfl;exact rfl;exact cOs)|(apply z8;exact rfl;exact rfl;exact ql (by omega) (by omega))|(apply vr;exact rfl;exact rfl;exact ql (by omega) (by omega))|(apply zx;exact rfl;exact rfl)|(apply zy;exact rfl;exact rfl)|(apply jg;exact rfl;exact rfl)|(apply jh;exact rfl;exact rfl)|(apply zq;(iterate 3 exact rfl))|(apply ji;(iterate 3 exact rfl))|(apply kp;exact rfl;exact rfl;(first|exact qg _|exact rfl);first|exact qg _|exact rfl)|(apply kl;exact rfl;exact rfl;(first|exact qg _|exact rfl);first|exact qg _|exact rfl)|(apply v6;exact rfl;exact rfl;(first|exact qg _|exact rfl);first|exact qg _|exact rfl)|(apply km;(iterate 3 exact rfl))|(apply ko;(iterate 3 exact rfl)))|(apply wb;first|(apply zf;(iterate 3 exact rfl))|(apply jq;(iterate 5 exact rfl))|(apply zh;(iterate 5 exact rfl)))|(apply wc;first|(apply kg;exact rfl)|(apply ju;exact rfl)|(apply jw;exact rfl))|(apply kw;first|(apply vj;(iterate 3 exact rfl);exact cAs)|(apply vh;(iterate 3 exact rfl);exact cAs)|(apply vi;(iterate 4 exact rfl);exact cAs;exact cAs)|(apply z0;(iterate 4 exact rfl);(first|assumption|omega|exact Nat.succ_le_succ (Nat.zero_le _)|(simp;omega));exact rfl))|(apply wa;first|(apply j5;(iterate 3 exact rfl))|(apply zl;(iterate 4 exact rfl)))|(apply jc;first|(apply qw;(iterate 3 exact rfl))|(apply q7;(iterate 4 exact rfl)))|(apply kz;first|(apply jb;(iterate 11 exact rfl))|(apply ze;(iterate 11 exact rfl)))|(apply w8;first|apply qk|apply qp|apply qo|(apply zn;exact rfl;exact rfl)|(apply qe;exact rfl;apply yj;exact cAo)|(apply qe;exact rfl;apply yw;exact cAo)|(apply qe;exact rfl;apply qaa;exact cRa)|(apply qe;exact rfl;apply y9;exact cRa)|(apply qe;exact rfl;apply pk_t;exact cRa)|(apply qe;exact rfl;apply pk_f;exact cRa)|(apply qy;exact rfl;exact rfl)|apply z7|(apply z4;exact rfl;exact rfl)|(apply vc;(iterate 4 exact rfl))|(apply j8;(iterate 3 exact rfl))|(apply wn;(iterate 3 exact rfl);exact cAs)|(apply jt;(iterate 3 exact rfl))|(apply zo;(iterate 9 exact rfl))|(apply zi;exact rfl;exact rfl)|(apply j6;(iterate 4 exact rfl);(first|assumption|omega|decide);exact rfl)|(apply zt;(iterate 4 exact rfl);first|assumption|omega|decide))|(apply qz;exact Tryz.call285;exact qpk _ _ hl))
 ·refine qu rfl (qv1 (sz:=1) rfl rfl) ⟨?_,_,rfl⟩
  unfold qdp
  rw [if_pos (by assumption)]
  rfl
 ·refine qu rfl (zp rfl) ⟨?_,_,rfl⟩
  unfold qdp
  rw [if_neg (by assumption)]
  rfl
def qhq (xs:List qd) (y:qd):Int:=match xs.findIdx? (· = y) with|some k=>k|none=> -1
theorem q1g {xs:List qd} {y:qd} {k:Nat} (hk:k<xs.length) (h1:∀ x∈xs.take k,x≠y) (h2:xs.getD k []=y):qhq xs y=k:=by
 unfold qhq
 have:xs.findIdx? (· = y)=some k:=by
  rw [List.findIdx?_eq_some_iff_getElem]
  refine⟨hk,by simpa [List.getD,hk] using h2,fun j hj=>?_⟩
  have:=h1 xs[j] (by rw [List.mem_take_iff_getElem];exact⟨j,by omega,rfl⟩)
  simpa using this
 rw [this]
theorem qwp {xs:List qd} {y:qd} (h:∀ x∈xs,x≠y):qhq xs y = -1:=by
 unfold qhq
 have:xs.findIdx? (· = y)=none:=by
  rw [List.findIdx?_eq_none_iff]
  intro x hx
  simpa using h x hx
 rw [this]
theorem q2n {xs:List qd} {k:Nat} (hk:k<xs.length):(xs.map fun x=>Sv x)[k]? = some (Sv (xs.getD k [])):=by
 simp [List.getD,hk]
theorem qxp {xs:List qd} {k:Nat} {y:qd} (hk:k<xs.length) (h1:∀ x∈xs.take k,x≠y) (h2:xs.getD k []≠y):∀ x∈xs.take (k+1),x≠y:=by
 intro x hx
 rw [List.take_succ_eq_append_getElem hk,List.mem_append,List.mem_singleton] at hx
 rcases hx with hx|rfl
 ·exact h1 x hx
 ·simpa [List.getD,hk] using h2
theorem qwz (xs:List qd) (y:qd) (st:List AObj) (hx:xs.length<9223372036854775807):qn E 284 [.sl 1 (xs.map fun x=>Sv x) none,Sv y] st fun r st'=>r=Iv (qhq xs y)∧st'=st:=by
 refine zz (zm _) (qx Tryz.func284 rfl (Nat.le_of_ble_eq_true rfl) ?_)
 have hlen:(xs.map fun x=>Sv x).length=xs.length:=by simp
 repeat' (first|(apply w7;first|apply qv|apply zw|apply qm|(apply qc;exact rfl;apply xi;exact cAo)|(apply qc;exact rfl;apply xg;exact cAo)|(apply qc;exact rfl;apply yu;exact cRa)|(apply qc;exact rfl;apply y0;exact cRa)|(apply qc;exact rfl;apply cd_n <;> intro h)|(apply qc;exact rfl;apply cd_t;exact cRa)|(apply qc;exact rfl;apply cd_f;exact cRa)|(apply qc;exact rfl;apply cd_d <;> intro h)|(apply qc;exact rfl;apply cd_s <;> intro h)|(apply xf;exact rfl;kernel_rfl)|apply q9|apply kc|apply zj)|(apply ku;first|(apply q6;(iterate 4 exact rfl))|(apply zk;(iterate 4 exact rfl)))|(apply xy;first|(apply vg;exact cAo)|(apply wl;exact cAo)|(apply vd;exact cAo)|(apply vm;exact cAo)|(apply vl;exact cRa)|(apply wd;exact cRa)|(apply va;exact cRa)|(apply ki;exact cRa)|(apply kj <;> intro h)|(apply wo;exact cRa)|(apply xa;exact cRa)|(apply vn;exact cRa)|(apply ve;exact cRa)|(apply j9 <;> intro h)|(apply wp <;> intro h))|(apply xx;first|apply ye|(apply xq;(iterate 4 exact rfl))|(apply yo;exact rfl;exact rfl;exact ql (by omega) (by omega))|(apply xv;(iterate 4 exact rfl);exact cAs;exact cAs)|(apply j7;(iterate 5 exact rfl))|(apply vk;exact rfl;exact rfl;exact cOs)|(apply kh;(iterate 3 exact rfl))|(apply jz;(iterate 5 exact rfl))|(apply zv;(iterate 4 exact rfl))|(apply zu;(iterate 3 exact rfl))|(apply yn;(iterate 3 exact rfl);exact cAs)|(apply xu;exact rfl;exact rfl)|(apply wz;exact rfl;exact rfl)|(apply w6;(iterate 3 exact rfl);omega)|(apply v8;(iterate 3 exact rfl))|apply xk|apply v7|(apply ym;exact rfl;exact rfl;exact ql (by omega) (by omega))|(apply xt;(iterate 3 exact rfl))|(apply xw;(iterate 3 exact rfl);exact cAs)|(apply xp;(iterate 3 exact rfl);exact cAs)|(apply kq;exact rfl;exact rfl))|(apply kr;first|(apply zb;(iterate 3 exact rfl))|(apply jn;(iterate 3 exact rfl))|(apply jf;exact rfl;exact rfl;exact cOs)|(apply z8;exact rfl;exact rfl;exact ql (by omega) (by omega))|(apply vr;exact rfl;exact rfl;exact ql (by omega) (by omega))|(apply zx;exact rfl;exact rfl)|(apply zy;exact rfl;exact rfl)|(apply jg;exact rfl;exact rfl)|(apply jh;exact rfl;exact rfl)|(apply zq;(iterate 3 exact rfl))|(apply ji;(iterate 3 exact rfl))|(apply kp;exact rfl;exact rfl;(first|exact qg _|exact rfl);first|exact qg _|exact rfl)|(apply kl;exact rfl;exact rfl;(first|exact qg _|exact rfl);first|exact qg _|exact rfl)|(apply v6;exact rfl;exact rfl;(first|exact qg _|exact rfl);first|exact qg _|exact rfl)|(apply km;(iterate 3 exact rfl))|(apply ko;(iterate 3 exact rfl)))|(apply wb;first|(apply zf;(iterate 3 exact rfl))|(apply jq;(iterate 5 exact rfl))|(apply zh;(iterate 5 exact rfl)))|(apply wc;first|(apply kg;exact rfl)|(apply ju;exact rfl)|(apply jw;exact rfl))|(apply kw;first|(apply vj;(iterate 3 exact rfl);exact cAs)|(apply vh;(iterate 3 exact rfl);exact cAs)|(apply vi;(iterate 4 exact rfl);exact cAs;exact cAs)|(apply z0;(iterate 4 exact rfl);(first|assumption|omega|exact Nat.succ_le_succ (Nat.zero_le _)|(simp;omega));exact rfl))|(apply wa;first|(apply j5;(iterate 3 exact rfl))|(apply zl;(iterate 4 exact rfl)))|(apply jc;first|(apply qw;(iterate 3 exact rfl))|(apply q7;(iterate 4 exact rfl)))|(apply kz;first|(apply jb;(iterate 11 exact rfl))|(apply ze;(iterate 11 exact rfl)))|(apply w8;first|apply qk|apply qp|apply qo|(apply zn;exact rfl;exact rfl)|(apply qe;exact rfl;apply yj;exact cAo)|(apply qe;exact rfl;apply yw;exact cAo)|(apply qe;exact rfl;apply qaa;exact cRa)|(apply qe;exact rfl;apply y9;exact cRa)|(apply qe;exact rfl;apply pk_t;exact cRa)|(apply qe;exact rfl;apply pk_f;exact cRa)|(apply qy;exact rfl;exact rfl)|apply z7|(apply z4;exact rfl;exact rfl)|(apply vc;(iterate 4 exact rfl))|(apply j8;(iterate 3 exact rfl))|(apply wn;(iterate 3 exact rfl);exact cAs)|(apply jt;(iterate 3 exact rfl))|(apply zo;(iterate 9 exact rfl))|(apply zi;exact rfl;exact rfl)|(apply j6;(iterate 4 exact rfl);(first|assumption|omega|decide);exact rfl)|(apply zt;(iterate 4 exact rfl);first|assumption|omega|decide)))
 refine qcd (fun (k:Nat) s=>k≤xs.length∧(∀ x∈xs.take k,x≠y)∧StA [(0,.sl 1 (xs.map fun x=>Sv x) none),(1,Sv y),(7,Iv xs.length),(8,Iv k)] (st++[]) [] s) (fun k=>xs.length - k) 0 ⟨by omega,by simp,qac ⟨rfl,rfl,by simp;rfl,rfl,trivial⟩⟩ ?_
 rintro k _ ⟨hk,h1,t,rfl⟩
 repeat' (first|(apply w7;first|apply qv|apply zw|apply qm|(apply qc;exact rfl;apply xi;exact cAo)|(apply qc;exact rfl;apply xg;exact cAo)|(apply qc;exact rfl;apply yu;exact cRa)|(apply qc;exact rfl;apply y0;exact cRa)|(apply qc;exact rfl;apply cd_n <;> intro h)|(apply qc;exact rfl;apply cd_t;exact cRa)|(apply qc;exact rfl;apply cd_f;exact cRa)|(apply qc;exact rfl;apply cd_d <;> intro h)|(apply qc;exact rfl;apply cd_s <;> intro h)|(apply xf;exact rfl;kernel_rfl)|apply q9|apply kc|apply zj)|(apply ku;first|(apply q6;(iterate 4 exact rfl))|(apply zk;(iterate 4 exact rfl)))|(apply xy;first|(apply vg;exact cAo)|(apply wl;exact cAo)|(apply vd;exact cAo)|(apply vm;exact cAo)|(apply vl;exact cRa)|(apply wd;exact cRa)|(apply va;exact cRa)|(apply ki;exact cRa)|(apply kj <;> intro h)|(apply wo;exact cRa)|(apply xa;exact cRa)|(apply vn;exact cRa)|(apply ve;exact cRa)|(apply j9 <;> intro h)|(apply wp <;> intro h))|(apply xx;first|apply ye|(apply xq;(iterate 4 exact rfl))|(apply yo;exact rfl;exact rfl;exact ql (by omega) (by omega))|(apply xv;(iterate 4 exact rfl);exact cAs;exact cAs)|(apply j7;(iterate 5 exact rfl))|(apply vk;exact rfl;exact rfl;exact cOs)|(apply kh;(iterate 3 exact rfl))|(apply jz;(iterate 5 exact rfl))|(apply zv;(iterate 4 exact rfl))|(apply zu;(iterate 3 exact rfl))|(apply yn;(iterate 3 exact rfl);exact cAs)|(apply xu;exact rfl;exact rfl)|(apply wz;exact rfl;exact rfl)|(apply w6;(iterate 3 exact rfl);omega)|(apply v8;(iterate 3 exact rfl))|apply xk|apply v7|(apply ym;exact rfl;exact rfl;exact ql (by omega) (by omega))|(apply xt;(iterate 3 exact rfl))|(apply xw;(iterate 3 exact rfl);exact cAs)|(apply xp;(iterate 3 exact rfl);exact cAs)|(apply kq;exact rfl;exact rfl))|(apply kr;first|(apply zb;(iterate 3 exact rfl))|(apply jn;(iterate 3 exact rfl))|(apply jf;exact rfl;exact rfl;exact cOs)|(apply z8;exact rfl;exact rfl;exact ql (by omega) (by omega))|(apply vr;exact rfl;exact rfl;exact ql (by omega) (by omega))|(apply zx;exact rfl;exact rfl)|(apply zy;exact rfl;exact rfl)|(apply jg;exact rfl;exact rfl)|(apply jh;exact rfl;exact rfl)|(apply zq;(iterate 3 exact rfl))|(apply ji;(iterate 3 exact rfl))|(apply kp;exact rfl;exact rfl;(first|exact qg _|exact rfl);first|exact qg _|exact rfl)|(apply kl;exact rfl;exact rfl;(first|exact qg _|exact rfl);first|exact qg _|exact rfl)|(apply v6;exact rfl;exact rfl;(first|exact qg _|exact rfl);first|exact qg _|exact rfl)|(apply km;(iterate 3 exact rfl))|(apply ko;(iterate 3 exact rfl)))|(apply wb;first|(apply zf;(iterate 3 exact rfl))|(apply jq;(iterate 5 exact rfl))|(apply zh;(iterate 5 exact rfl)))|(apply wc;first|(apply kg;exact rfl)|(apply ju;exact rfl)|(apply jw;exact rfl))|(apply kw;first|(apply vj;(iterate 3 exact rfl);exact cAs)|(apply vh;(iterate 3 exact rfl);exact cAs)|(apply vi;(iterate 4 exact rfl);exact cAs;exact cAs)|(apply z0;(iterate 4 exact rfl);(first|assumption|omega|exact Nat.succ_le_succ (Nat.zero_le _)|(simp;omega));exact rfl))|(apply wa;first|(apply j5;(iterate 3 exact rfl))|(apply zl;(iterate 4 exact rfl)))|(apply jc;first|(apply qw;(iterate 3 exact rfl))|(apply q7;(iterate 4 exact rfl)))|(apply kz;first|(apply jb;(iterate 11 exact rfl))|(apply ze;(iterate 11 exact rfl)))|(apply w8;first|apply qk|apply qp|apply qo|(apply zn;exact rfl;exact rfl)|(apply qe;exact rfl;apply yj;exact cAo)|(apply qe;exact rfl;apply yw;exact cAo)|(apply qe;exact rfl;apply qaa;exact cRa)|(apply qe;exact rfl;apply y9;exact cRa)|(apply qe;exact rfl;apply pk_t;exact cRa)|(apply qe;exact rfl;apply pk_f;exact cRa)|(apply qy;exact rfl;exact rfl)|apply z7|(apply z4;exact rfl;exact rfl)|(apply vc;(iterate 4 exact rfl))|(apply j8;(iterate 3 exact rfl))|(apply wn;(iterate 3 exact rfl);exact cAs)|(apply jt;(iterate 3 exact rfl))|(apply zo;(iterate 9 exact rfl))|(apply zi;exact rfl;exact rfl)|(apply j6;(iterate 4 exact rfl);(first|assumption|omega|decide);exact rfl)|(apply zt;(iterate 4 exact rfl);first|assumption|omega|decide))|(apply xj (n:=k);(iterate 5 exact rfl);exact q2n (by omega)))
 ·refine qu rfl (zp rfl) ⟨congrArg Iv (?_:(k:Int)=_),_,rfl⟩
  exact (q1g (by omega) h1 (Eq.symm (by assumption))).symm
 ·exact⟨k+1,⟨by omega,qxp (by omega) h1 (fun e=>absurd e.symm (by assumption)),qac ⟨rfl,rfl,rfl,rfl,trivial⟩⟩,by omega⟩
 ·have e:k=xs.length:=by omega
  subst e
  rw [List.take_length] at h1
  exact qu rfl (zp rfl) ⟨congrArg Iv (qwp h1).symm,_,rfl⟩
theorem qyw (xs:List qd) (y:qd):0≤qhq xs y↔y∈xs:=by
 unfold qhq
 cases h:xs.findIdx? (· = y) with
 |none=>
  rw [List.findIdx?_eq_none_iff] at h
  constructor
  ·intro h';simp at h'
  ·intro h';have:=h y h';simp at this
 |some k=>
  rw [List.findIdx?_eq_some_iff_getElem] at h
  obtain⟨hk,h1,_⟩:=h
  constructor
  ·intro _
   have:xs[k]=y:=by simpa using h1
   exact this▸List.getElem_mem hk
  ·intro _;simp
theorem qpz (xs:List qd) (y:qd) (st:List AObj) (hx:xs.length<9223372036854775807):qn E 225 [.sl 1 (xs.map fun x=>Sv x) none,Sv y] st fun r st'=>r=Bv (decide (y∈xs))∧st'=st:=by
 refine zz (zm _) (qx Tryz.func225 rfl (Nat.le_of_ble_eq_true rfl) ?_)
 repeat' (first|(apply w7;first|apply qv|apply zw|apply qm|(apply qc;exact rfl;apply xi;exact cAo)|(apply qc;exact rfl;apply xg;exact cAo)|(apply qc;exact rfl;apply yu;exact cRa)|(apply qc;exact rfl;apply y0;exact cRa)|(apply qc;exact rfl;apply cd_n <;> intro h)|(apply qc;exact rfl;apply cd_t;exact cRa)|(apply qc;exact rfl;apply cd_f;exact cRa)|(apply qc;exact rfl;apply cd_d <;> intro h)|(apply qc;exact rfl;apply cd_s <;> intro h)|(apply xf;exact rfl;kernel_rfl)|apply q9|apply kc|apply zj)|(apply ku;first|(apply q6;(iterate 4 exact rfl))|(apply zk;(iterate 4 exact rfl)))|(apply xy;first|(apply vg;exact cAo)|(apply wl;exact cAo)|(apply vd;exact cAo)|(apply vm;exact cAo)|(apply vl;exact cRa)|(apply wd;exact cRa)|(apply va;exact cRa)|(apply ki;exact cRa)|(apply kj <;> intro h)|(apply wo;exact cRa)|(apply xa;exact cRa)|(apply vn;exact cRa)|(apply ve;exact cRa)|(apply j9 <;> intro h)|(apply wp <;> intro h))|(apply xx;first|apply ye|(apply xq;(iterate 4 exact rfl))|(apply yo;exact rfl;exact rfl;exact ql (by omega) (by omega))|(apply xv;(iterate 4 exact rfl);exact cAs;exact cAs)|(apply j7;(iterate 5 exact rfl))|(apply vk;exact rfl;exact rfl;exact cOs)|(apply kh;(iterate 3 exact rfl))|(apply jz;(iterate 5 exact rfl))|(apply zv;(iterate 4 exact rfl))|(apply zu;(iterate 3 exact rfl))|(apply yn;(iterate 3 exact rfl);exact cAs)|(apply xu;exact rfl;exact rfl)|(apply wz;exact rfl;exact rfl)|(apply w6;(iterate 3 exact rfl);omega)|(apply v8;(iterate 3 exact rfl))|apply xk|apply v7|(apply ym;exact rfl;exact rfl;exact ql (by omega) (by omega))|(apply xt;(iterate 3 exact rfl))|(apply xw;(iterate 3 exact rfl);exact cAs)|(apply xp;(iterate 3 exact rfl);exact cAs)|(apply kq;exact rfl;exact rfl))|(apply kr;first|(apply zb;(iterate 3 exact rfl))|(apply jn;(iterate 3 exact rfl))|(apply jf;exact rfl;exact rfl;exact cOs)|(apply z8;exact rfl;exact rfl;exact ql (by omega) (by omega))|(apply vr;exact rfl;exact rfl;exact ql (by omega) (by omega))|(apply zx;exact rfl;exact rfl)|(apply zy;exact rfl;exact rfl)|(apply jg;exact rfl;exact rfl)|(apply jh;exact rfl;exact rfl)|(apply zq;(iterate 3 exact rfl))|(apply ji;(iterate 3 exact rfl))|(apply kp;exact rfl;exact rfl;(first|exact qg _|exact rfl);first|exact qg _|exact rfl)|(apply kl;exact rfl;exact rfl;(first|exact qg _|exact rfl);first|exact qg _|exact rfl)|(apply v6;exact rfl;exact rfl;(first|exact qg _|exact rfl);first|exact qg _|exact rfl)|(apply km;(iterate 3 exact rfl))|(apply ko;(iterate 3 exact rfl)))|(apply wb;first|(apply zf;(iterate 3 exact rfl))|(apply jq;(iterate 5 exact rfl))|(apply zh;(iterate 5 exact rfl)))|(apply wc;first|(apply kg;exact rfl)|(apply ju;exact rfl)|(apply jw;exact rfl))|(apply kw;first|(apply vj;(iterate 3 exact rfl);exact cAs)|(apply vh;(iterate 3 exact rfl);exact cAs)|(apply vi;(iterate 4 exact rfl);exact cAs;exact cAs)|(apply z0;(iterate 4 exact rfl);(first|assumption|omega|exact Nat.succ_le_succ (Nat.zero_le _)|(simp;omega));exact rfl))|(apply wa;first|(apply j5;(iterate 3 exact rfl))|(apply zl;(iterate 4 exact rfl)))|(apply jc;first|(apply qw;(iterate 3 exact rfl))|(apply q7;(iterate 4 exact rfl)))|(apply kz;first|(apply jb;(iterate 11 exact rfl))|(apply ze;(iterate 11 exact rfl)))|(apply w8;first|apply qk|apply qp|apply qo|(apply zn;exact rfl;exact rfl)|(apply qe;exact rfl;apply yj;exact cAo)|(apply qe;exact rfl;apply yw;exact cAo)|(apply qe;exact rfl;apply qaa;exact cRa)|(apply qe;exact rfl;apply y9;exact cRa)|(apply qe;exact rfl;apply pk_t;exact cRa)|(apply qe;exact rfl;apply pk_f;exact cRa)|(apply qy;exact rfl;exact rfl)|apply z7|(apply z4;exact rfl;exact rfl)|(apply vc;(iterate 4 exact rfl))|(apply j8;(iterate 3 exact rfl))|(apply wn;(iterate 3 exact rfl);exact cAs)|(apply jt;(iterate 3 exact rfl))|(apply zo;(iterate 9 exact rfl))|(apply zi;exact rfl;exact rfl)|(apply j6;(iterate 4 exact rfl);(first|assumption|omega|decide);exact rfl)|(apply zt;(iterate 4 exact rfl);first|assumption|omega|decide))|(apply qz;exact Tryz.call284;exact qwz _ _ _ hx))
 refine qu rfl (zp rfl) ⟨congrArg Bv (?_:_=_),_,rfl⟩
 simp [qyw]
theorem q0k (l:qd):(qdp l).length≤l.length+1:=by
 unfold qdp
 split
 ·simp
 ·exact qcw _ l (Nat.le_refl _)
theorem q29 (l y:List UInt8) (st:List AObj) (hl:l.length<4294967281):qn E 148 [Sv l,Sv y] st fun r st'=>r=Bv (decide (y∈qdp l))∧st'=st:=by
 refine zz (zm _) (qx Tryz.func148 rfl (Nat.le_of_ble_eq_true rfl) ?_)
 have h1:=q0k l
 repeat' (first|(apply w7;first|apply qv|apply zw|apply qm|(apply qc;exact rfl;apply xi;exact cAo)|(apply qc;exact rfl;apply xg;exact cAo)|(apply qc;exact rfl;apply yu;exact cRa)|(apply qc;exact rfl;apply y0;exact cRa)|(apply qc;exact rfl;apply cd_n <;> intro h)|(apply qc;exact rfl;apply cd_t;exact cRa)|(apply qc;exact rfl;apply cd_f;exact cRa)|(apply qc;exact rfl;apply cd_d <;> intro h)|(apply qc;exact rfl;apply cd_s <;> intro h)|(apply xf;exact rfl;kernel_rfl)|apply q9|apply kc|apply zj)|(apply ku;first|(apply q6;(iterate 4 exact rfl))|(apply zk;(iterate 4 exact rfl)))|(apply xy;first|(apply vg;exact cAo)|(apply wl;exact cAo)|(apply vd;exact cAo)|(apply vm;exact cAo)|(apply vl;exact cRa)|(apply wd;exact cRa)|(apply va;exact cRa)|(apply ki;exact cRa)|(apply kj <;> intro h)|(apply wo;exact cRa)|(apply xa;exact cRa)|(apply vn;exact cRa)|(apply ve;exact cRa)|(apply j9 <;> intro h)|(apply wp <;> intro h))|(apply xx;first|apply ye|(apply xq;(iterate 4 exact rfl))|(apply yo;exact rfl;exact rfl;exact ql (by omega) (by omega))|(apply xv;(iterate 4 exact rfl);exact cAs;exact cAs)|(apply j7;(iterate 5 exact rfl))|(apply vk;exact rfl;exact rfl;exact cOs)|(apply kh;(iterate 3 exact rfl))|(apply jz;(iterate 5 exact rfl))|(apply zv;(iterate 4 exact rfl))|(apply zu;(iterate 3 exact rfl))|(apply yn;(iterate 3 exact rfl);exact cAs)|(apply xu;exact rfl;exact rfl)|(apply wz;exact rfl;exact rfl)|(apply w6;(iterate 3 exact rfl);omega)|(apply v8;(iterate 3 exact rfl))|apply xk|apply v7|(apply ym;exact rfl;exact rfl;exact ql (by omega) (by omega))|(apply xt;(iterate 3 exact rfl))|(apply xw;(iterate 3 exact rfl);exact cAs)|(apply xp;(iterate 3 exact rfl);exact cAs)|(apply kq;exact rfl;exact rfl))|(apply kr;first|(apply zb;(iterate 3 exact rfl))|(apply jn;(iterate 3 exact rfl))|(apply jf;exact rfl;exact rfl;exact cOs)|(apply z8;exact rfl;exact rfl;exact ql (by omega) (by omega))|(apply vr;exact rfl;exact rfl;exact ql (by omega) (by omega))|(apply zx;exact rfl;exact rfl)|(apply zy;exact rfl;exact rfl)|(apply jg;exact rfl;exact rfl)|(apply jh;exact rfl;exact rfl)|(apply zq;(iterate 3 exact rfl))|(apply ji;(iterate 3 exact rfl))|(apply kp;exact rfl;exact rfl;(first|exact qg _|exact rfl);first|exact qg _|exact rfl)|(apply kl;exact rfl;exact rfl;(first|exact qg _|exact rfl);first|exact qg _|exact rfl)|(apply v6;exact rfl;exact rfl;(first|exact qg _|exact rfl);first|exact qg _|exact rfl)|(apply km;(iterate 3 exact rfl))|(apply ko;(iterate 3 exact rfl)))|(apply wb;first|(apply zf;(iterate 3 exact rfl))|(apply jq;(iterate 5 exact rfl))|(apply zh;(iterate 5 exact rfl)))|(apply wc;first|(apply kg;exact rfl)|(apply ju;exact rfl)|(apply jw;exact rfl))|(apply kw;first|(apply vj;(iterate 3 exact rfl);exact cAs)|(apply vh;(iterate 3 exact rfl);exact cAs)|(apply vi;(iterate 4 exact rfl);exact cAs;exact cAs)|(apply z0;(iterate 4 exact rfl);(first|assumption|omega|exact Nat.succ_le_succ (Nat.zero_le _)|(simp;omega));exact rfl))|(apply wa;first|(apply j5;(iterate 3 exact rfl))|(apply zl;(iterate 4 exact rfl)))|(apply jc;first|(apply qw;(iterate 3 exact rfl))|(apply q7;(iterate 4 exact rfl)))|(apply kz;first|(apply jb;(iterate 11 exact rfl))|(apply ze;(iterate 11 exact rfl)))|(apply w8;first|apply qk|apply qp|apply qo|(apply zn;exact rfl;exact rfl)|(apply qe;exact rfl;apply yj;exact cAo)|(apply qe;exact rfl;apply yw;exact cAo)|(apply qe;exact rfl;apply qaa;exact cRa)|(apply qe;exact rfl;apply y9;exact cRa)|(apply qe;exact rfl;apply pk_t;exact cRa)|(apply qe;exact rfl;apply pk_f;exact cRa)|(apply qy;exact rfl;exact rfl)|apply z7|(apply z4;exact rfl;exact rfl)|(apply vc;(iterate 4 exact rfl))|(apply j8;(iterate 3 exact rfl))|(apply wn;(iterate 3 exact rfl);exact cAs)|(apply jt;(iterate 3 exact rfl))|(apply zo;(iterate 9 exact rfl))|(apply zi;exact rfl;exact rfl)|(apply j6;(iterate 4 exact rfl);(first|assumption|omega|decide);exact rfl)|(apply zt;(iterate 4 exact rfl);first|assumption|omega|decide))|(apply qz;exact Tryz.call226;exact q44 _ _ hl)|(apply qz;exact Tryz.call225;exact qpz _ _ _ (by omega)))
 exact qu rfl (zp rfl) ⟨rfl,_,rfl⟩
def qed (r:jo) (n:Int):Prop:=r.lo≤n∧n≤r.hi
instance (r:jo) (n:Int):Decidable (qed r n):=inferInstanceAs (Decidable (_∧_))
theorem qti (r:jo) (n:Int) (st:List AObj):qn E 149 [vz r,Iv n] st fun x st'=>x=Bv (decide (qed r n))∧st'=st:=by
 refine zz (zm _) (qx Tryz.func149 rfl (Nat.le_of_ble_eq_true rfl) ?_)
 repeat' (first|(apply w7;first|apply qv|apply zw|apply qm|(apply qc;exact rfl;apply xi;exact cAo)|(apply qc;exact rfl;apply xg;exact cAo)|(apply qc;exact rfl;apply yu;exact cRa)|(apply qc;exact rfl;apply y0;exact cRa)|(apply qc;exact rfl;apply cd_n <;> intro h)|(apply qc;exact rfl;apply cd_t;exact cRa)|(apply qc;exact rfl;apply cd_f;exact cRa)|(apply qc;exact rfl;apply cd_d <;> intro h)|(apply qc;exact rfl;apply cd_s <;> intro h)|(apply xf;exact rfl;kernel_rfl)|apply q9|apply kc|apply zj)|(apply ku;first|(apply q6;(iterate 4 exact rfl))|(apply zk;(iterate 4 exact rfl)))|(apply xy;first|(apply vg;exact cAo)|(apply wl;exact cAo)|(apply vd;exact cAo)|(apply vm;exact cAo)|(apply vl;exact cRa)|(apply wd;exact cRa)|(apply va;exact cRa)|(apply ki;exact cRa)|(apply kj <;> intro h)|(apply wo;exact cRa)|(apply xa;exact cRa)|(apply vn;exact cRa)|(apply ve;exact cRa)|(apply j9 <;> intro h)|(apply wp <;> intro h))|(apply xx;first|apply ye|(apply xq;(iterate 4 exact rfl))|(apply yo;exact rfl;exact rfl;exact ql (by omega) (by omega))|(apply xv;(iterate 4 exact rfl);exact cAs;exact cAs)|(apply j7;(iterate 5 exact rfl))|(apply vk;exact rfl;exact rfl;exact cOs)|(apply kh;(iterate 3 exact rfl))|(apply jz;(iterate 5 exact rfl))|(apply zv;(iterate 4 exact rfl))|(apply zu;(iterate 3 exact rfl))|(apply yn;(iterate 3 exact rfl);exact cAs)|(apply xu;exact rfl;exact rfl)|(apply wz;exact rfl;exact rfl)|(apply w6;(iterate 3 exact rfl);omega)|(apply v8;(iterate 3 exact rfl))|apply xk|apply v7|(apply ym;exact rfl;exact rfl;exact ql (by omega) (by omega))|(apply xt;(iterate 3 exact rfl))|(apply xw;(iterate 3 exact rfl);exact cAs)|(apply xp;(iterate 3 exact rfl);exact cAs)|(apply kq;exact rfl;exact rfl))|(apply kr;first|(apply zb;(iterate 3 exact rfl))|(apply jn;(iterate 3 exact rfl))|(apply jf;exact rfl;exact rfl;exact cOs)|(apply z8;exact rfl;exact rfl;exact ql (by omega) (by omega))|(apply vr;exact rfl;exact rfl;exact ql (by omega) (by omega))|(apply zx;exact rfl;exact rfl)|(apply zy;exact rfl;exact rfl)|(apply jg;exact rfl;exact rfl)|(apply jh;exact rfl;exact rfl)|(apply zq;(iterate 3 exact rfl))|(apply ji;(iterate 3 exact rfl))|(apply kp;exact rfl;exact rfl;(first|exact qg _|exact rfl);first|exact qg _|exact rfl)|(apply kl;exact rfl;exact rfl;(first|exact qg _|exact rfl);first|exact qg _|exact rfl)|(apply v6;exact rfl;exact rfl;(first|exact qg _|exact rfl);first|exact qg _|exact rfl)|(apply km;(iterate 3 exact rfl))|(apply ko;(iterate 3 exact rfl)))|(apply wb;first|(apply zf;(iterate 3 exact rfl))|(apply jq;(iterate 5 exact rfl))|(apply zh;(iterate 5 exact rfl)))|(apply wc;first|(apply kg;exact rfl)|(apply ju;exact rfl)|(apply jw;exact rfl))|(apply kw;first|(apply vj;(iterate 3 exact rfl);exact cAs)|(apply vh;(iterate 3 exact rfl);exact cAs)|(apply vi;(iterate 4 exact rfl);exact cAs;exact cAs)|(apply z0;(iterate 4 exact rfl);(first|assumption|omega|exact Nat.succ_le_succ (Nat.zero_le _)|(simp;omega));exact rfl))|(apply wa;first|(apply j5;(iterate 3 exact rfl))|(apply zl;(iterate 4 exact rfl)))|(apply jc;first|(apply qw;(iterate 3 exact rfl))|(apply q7;(iterate 4 exact rfl)))|(apply kz;first|(apply jb;(iterate 11 exact rfl))|(apply ze;(iterate 11 exact rfl)))|(apply w8;first|apply qk|apply qp|apply qo|(apply zn;exact rfl;exact rfl)|(apply qe;exact rfl;apply yj;exact cAo)|(apply qe;exact rfl;apply yw;exact cAo)|(apply qe;exact rfl;apply qaa;exact cRa)|(apply qe;exact rfl;apply y9;exact cRa)|(apply qe;exact rfl;apply pk_t;exact cRa)|(apply qe;exact rfl;apply pk_f;exact cRa)|(apply qy;exact rfl;exact rfl)|apply z7|(apply z4;exact rfl;exact rfl)|(apply vc;(iterate 4 exact rfl))|(apply j8;(iterate 3 exact rfl))|(apply wn;(iterate 3 exact rfl);exact cAs)|(apply jt;(iterate 3 exact rfl))|(apply zo;(iterate 9 exact rfl))|(apply zi;exact rfl;exact rfl)|(apply j6;(iterate 4 exact rfl);(first|assumption|omega|decide);exact rfl)|(apply zt;(iterate 4 exact rfl);first|assumption|omega|decide)))
 all_goals refine qu rfl (zp rfl) ⟨congrArg Bv (?_:_=_),_,rfl⟩
 all_goals first
  |exact (decide_eq_false fun h=>by have:=h.1;omega).symm
  |(have e:qed r n↔n≤r.hi:=⟨fun h=>h.2,fun h=>⟨by omega,h⟩⟩;simp [e])
def qfh (r:jo) (l:qd):Prop:=∃ n,numZ l=some n∧qed r n
instance (r:jo) (l:qd):Decidable (qfh r l):=
 match h:numZ l with
 |some n=>decidable_of_iff (qed r n) ⟨fun h'=>⟨n,h,h'⟩,fun ⟨m,h1,h2⟩=>by rw [h] at h1;cases h1;exact h2⟩
 |none=>.isFalse fun ⟨m,h1,_⟩=>by rw [h] at h1;cases h1
theorem qzi (r:jo) (l:qd) (st:List AObj) (hl:l.length<4294967281):qn E 147 [vz r,Sv l] st fun x st'=>x=Bv (decide (qfh r l))∧st'=st:=by
 refine zz (zm _) (qx Tryz.func147 rfl (Nat.le_of_ble_eq_true rfl) ?_)
 repeat' (first|(apply w7;first|apply qv|apply zw|apply qm|(apply qc;exact rfl;apply xi;exact cAo)|(apply qc;exact rfl;apply xg;exact cAo)|(apply qc;exact rfl;apply yu;exact cRa)|(apply qc;exact rfl;apply y0;exact cRa)|(apply qc;exact rfl;apply cd_n <;> intro h)|(apply qc;exact rfl;apply cd_t;exact cRa)|(apply qc;exact rfl;apply cd_f;exact cRa)|(apply qc;exact rfl;apply cd_d <;> intro h)|(apply qc;exact rfl;apply cd_s <;> intro h)|(apply xf;exact rfl;kernel_rfl)|apply q9|apply kc|apply zj)|(apply ku;first|(apply q6;(iterate 4 exact rfl))|(apply zk;(iterate 4 exact rfl)))|(apply xy;first|(apply vg;exact cAo)|(apply wl;exact cAo)|(apply vd;exact cAo)|(apply vm;exact cAo)|(apply vl;exact cRa)|(apply wd;exact cRa)|(apply va;exact cRa)|(apply ki;exact cRa)|(apply kj <;> intro h)|(apply wo;exact cRa)|(apply xa;exact cRa)|(apply vn;exact cRa)|(apply ve;exact cRa)|(apply j9 <;> intro h)|(apply wp <;> intro h))|(apply xx;first|apply ye|(apply xq;(iterate 4 exact rfl))|(apply yo;exact rfl;exact rfl;exact ql (by omega) (by omega))|(apply xv;(iterate 4 exact rfl);exact cAs;exact cAs)|(apply j7;(iterate 5 exact rfl))|(apply vk;exact rfl;exact rfl;exact cOs)|(apply kh;(iterate 3 exact rfl))|(apply jz;(iterate 5 exact rfl))|(apply zv;(iterate 4 exact rfl))|(apply zu;(iterate 3 exact rfl))|(apply yn;(iterate 3 exact rfl);exact cAs)|(apply xu;exact rfl;exact rfl)|(apply wz;exact rfl;exact rfl)|(apply w6;(iterate 3 exact rfl);omega)|(apply v8;(iterate 3 exact rfl))|apply xk|apply v7|(apply ym;exact rfl;exact rfl;exact ql (by omega) (by omega))|(apply xt;(iterate 3 exact rfl))|(apply xw;(iterate 3 exact rfl);exact cAs)|(apply xp;(iterate 3 exact rfl);exact cAs)|(apply kq;exact rfl;exact rfl))|(apply kr;first|(apply zb;(iterate 3 exact rfl))|(apply jn;(iterate 3 exact rfl))|(apply jf;exact rfl;exact rfl;exact cOs)|(apply z8;exact rfl;exact rfl;exact ql (by omega) (by omega))|(apply vr;exact rfl;exact rfl;exact ql (by omega) (by omega))|(apply zx;exact rfl;exact rfl)|(apply zy;exact rfl;exact rfl)|(apply jg;exact rfl;exact rfl)|(apply jh;exact rfl;exact rfl)|(apply zq;(iterate 3 exact rfl))|(apply ji;(iterate 3 exact rfl))|(apply kp;exact rfl;exact rfl;(first|exact qg _|exact rfl);first|exact qg _|exact rfl)|(apply kl;exact rfl;exact rfl;(first|exact qg _|exact rfl);first|exact qg _|exact rfl)|(apply v6;exact rfl;exact rfl;(first|exact qg _|exact rfl);first|exact qg _|exact rfl)|(apply km;(iterate 3 exact rfl))|(apply ko;(iterate 3 exact rfl)))|(apply wb;first|(apply zf;(iterate 3 exact rfl))|(apply jq;(iterate 5 exact rfl))|(apply zh;(iterate 5 exact rfl)))|(apply wc;first|(apply kg;exact rfl)|(apply ju;exact rfl)|(apply jw;exact rfl))|(apply kw;first|(apply vj;(iterate 3 exact rfl);exact cAs)|(apply vh;(iterate 3 exact rfl);exact cAs)|(apply vi;(iterate 4 exact rfl);exact cAs;exact cAs)|(apply z0;(iterate 4 exact rfl);(first|assumption|omega|exact Nat.succ_le_succ (Nat.zero_le _)|(simp;omega));exact rfl))|(apply wa;first|(apply j5;(iterate 3 exact rfl))|(apply zl;(iterate 4 exact rfl)))|(apply jc;first|(apply qw;(iterate 3 exact rfl))|(apply q7;(iterate 4 exact rfl)))|(apply kz;first|(apply jb;(iterate 11 exact rfl))|(apply ze;(iterate 11 exact rfl)))|(apply w8;first|apply qk|apply qp|apply qo|(apply zn;exact rfl;exact rfl)|(apply qe;exact rfl;apply yj;exact cAo)|(apply qe;exact rfl;apply yw;exact cAo)|(apply qe;exact rfl;apply qaa;exact cRa)|(apply qe;exact rfl;apply y9;exact cRa)|(apply qe;exact rfl;apply pk_t;exact cRa)|(apply qe;exact rfl;apply pk_f;exact cRa)|(apply qy;exact rfl;exact rfl)|apply z7|(apply z4;exact rfl;exact rfl)|(apply vc;(iterate 4 exact rfl))|(apply j8;(iterate 3 exact rfl))|(apply wn;(iterate 3 exact rfl);exact cAs)|(apply jt;(iterate 3 exact rfl))|(apply zo;(iterate 9 exact rfl))|(apply zi;exact rfl;exact rfl)|(apply j6;(iterate 4 exact rfl);(first|assumption|omega|decide);exact rfl)|(apply zt;(iterate 4 exact rfl);first|assumption|omega|decide)))
 refine qot Tryz.call73 ((q5a l _ (by omega)).mono ?_)
 rintro _ _ ⟨rfl,n,x,rfl,hx⟩
 rcases x with _ | ⟨t',y⟩
 ·simp only at hx
  have hb:=qg0 hx
  have hz:numZ l=if Lib.itoa n=l then some n else none:=by unfold numZ;rw [hx]
  repeat' (first|(apply w7;first|apply qv|apply zw|apply qm|(apply qc;exact rfl;apply xi;exact cAo)|(apply qc;exact rfl;apply xg;exact cAo)|(apply qc;exact rfl;apply yu;exact cRa)|(apply qc;exact rfl;apply y0;exact cRa)|(apply qc;exact rfl;apply cd_n <;> intro h)|(apply qc;exact rfl;apply cd_t;exact cRa)|(apply qc;exact rfl;apply cd_f;exact cRa)|(apply qc;exact rfl;apply cd_d <;> intro h)|(apply qc;exact rfl;apply cd_s <;> intro h)|(apply xf;exact rfl;kernel_rfl)|apply q9|apply kc|apply zj)|(apply ku;first|(apply q6;(iterate 4 exact rfl))|(apply zk;(iterate 4 exact rfl)))|(apply xy;first|(apply vg;exact cAo)|(apply wl;exact cAo)|(apply vd;exact cAo)|(apply vm;exact cAo)|(apply vl;exact cRa)|(apply wd;exact cRa)|(apply va;exact cRa)|(apply ki;exact cRa)|(apply kj <;> intro h)|(apply wo;exact cRa)|(apply xa;exact cRa)|(apply vn;exact cRa)|(apply ve;exact cRa)|(apply j9 <;> intro h)|(apply wp <;> intro h))|(apply xx;first|apply ye|(apply xq;(iterate 4 exact rfl))|(apply yo;exact rfl;exact rfl;exact ql (by omega) (by omega))|(apply xv;(iterate 4 exact rfl);exact cAs;exact cAs)|(apply j7;(iterate 5 exact rfl))|(apply vk;exact rfl;exact rfl;exact cOs)|(apply kh;(iterate 3 exact rfl))|(apply jz;(iterate 5 exact rfl))|(apply zv;(iterate 4 exact rfl))|(apply zu;(iterate 3 exact rfl))|(apply yn;(iterate 3 exact rfl);exact cAs)|(apply xu;exact rfl;exact rfl)|(apply wz;exact rfl;exact rfl)|(apply w6;(iterate 3 exact rfl);omega)|(apply v8;(iterate 3 exact rfl))|apply xk|apply v7|(apply ym;exact rfl;exact rfl;exact ql (by omega) (by omega))|(apply xt;(iterate 3 exact rfl))|(apply xw;(iterate 3 exact rfl);exact cAs)|(apply xp;(iterate 3 exact rfl);exact cAs)|(apply kq;exact rfl;exact rfl))|(apply kr;first|(apply zb;(iterate 3 exact rfl))|(apply jn;(iterate 3 exact rfl))|(apply jf;exact rfl;exact rfl;exact cOs)|(apply z8;exact rfl;exact rfl;exact ql (by omega) (by omega))|(apply vr;exact rfl;exact rfl;exact ql (by omega) (by omega))|(apply zx;exact rfl;exact rfl)|(apply zy;exact rfl;exact rfl)|(apply jg;exact rfl;exact rfl)|(apply jh;exact rfl;exact rfl)|(apply zq;(iterate 3 exact rfl))|(apply ji;(iterate 3 exact rfl))|(apply kp;exact rfl;exact rfl;(first|exact qg _|exact rfl);first|exact qg _|exact rfl)|(apply kl;exact rfl;exact rfl;(first|exact qg _|exact rfl);first|exact qg _|exact rfl)|(apply v6;exact rfl;exact rfl;(first|exact qg _|exact rfl);first|exact qg _|exact rfl)|(apply km;(iterate 3 exact rfl))|(apply ko;(iterate 3 exact rfl)))|(apply wb;first|(apply zf;(iterate 3 exact rfl))|(apply jq;(iterate 5 exact rfl))|(apply zh;(iterate 5 exact rfl)))|(apply wc;first|(apply kg;exact rfl)|(apply ju;exact rfl)|(apply jw;exact rfl))|(apply kw;first|(apply vj;(iterate 3 exact rfl);exact cAs)|(apply vh;(iterate 3 exact rfl);exact cAs)|(apply vi;(iterate 4 exact rfl);exact cAs;exact cAs)|(apply z0;(iterate 4 exact rfl);(first|assumption|omega|exact Nat.succ_le_succ (Nat.zero_le _)|(simp;omega));exact rfl))|(apply wa;first|(apply j5;(iterate 3 exact rfl))|(apply zl;(iterate 4 exact rfl)))|(apply jc;first|(apply qw;(iterate 3 exact rfl))|(apply q7;(iterate 4 exact rfl)))|(apply kz;first|(apply jb;(iterate 11 exact rfl))|(apply ze;(iterate 11 exact rfl)))|(apply w8;first|apply qk|apply qp|apply qo|(apply zn;exact rfl;exact rfl)|(apply qe;exact rfl;apply yj;exact cAo)|(apply qe;exact rfl;apply yw;exact cAo)|(apply qe;exact rfl;apply qaa;exact cRa)|(apply qe;exact rfl;apply y9;exact cRa)|(apply qe;exact rfl;apply pk_t;exact cRa)|(apply qe;exact rfl;apply pk_f;exact cRa)|(apply qy;exact rfl;exact rfl)|apply z7|(apply z4;exact rfl;exact rfl)|(apply vc;(iterate 4 exact rfl))|(apply j8;(iterate 3 exact rfl))|(apply wn;(iterate 3 exact rfl);exact cAs)|(apply jt;(iterate 3 exact rfl))|(apply zo;(iterate 9 exact rfl))|(apply zi;exact rfl;exact rfl)|(apply j6;(iterate 4 exact rfl);(first|assumption|omega|decide);exact rfl)|(apply zt;(iterate 4 exact rfl);first|assumption|omega|decide))|(apply qz;exact Tryz.call133;exact q5y _ _ (by omega) (by omega))|(apply qz;exact Tryz.call149;exact qti _ _ _))
  all_goals refine qu rfl (zp rfl) ⟨congrArg Bv (?_:_=_),_,rfl⟩
  ·have e:qfh r l↔qed r n:=by unfold qfh;rw [hz,if_pos (by assumption)];simp
   simp [e]
  ·refine (decide_eq_false fun h'=>?_).symm
   unfold qfh at h'
   rw [hz,if_neg (by assumption)] at h'
   simp at h'
 ·simp only at hx
  repeat' (first|(apply w7;first|apply qv|apply zw|apply qm|(apply qc;exact rfl;apply xi;exact cAo)|(apply qc;exact rfl;apply xg;exact cAo)|(apply qc;exact rfl;apply yu;exact cRa)|(apply qc;exact rfl;apply y0;exact cRa)|(apply qc;exact rfl;apply cd_n <;> intro h)|(apply qc;exact rfl;apply cd_t;exact cRa)|(apply qc;exact rfl;apply cd_f;exact cRa)|(apply qc;exact rfl;apply cd_d <;> intro h)|(apply qc;exact rfl;apply cd_s <;> intro h)|(apply xf;exact rfl;kernel_rfl)|apply q9|apply kc|apply zj)|(apply ku;first|(apply q6;(iterate 4 exact rfl))|(apply zk;(iterate 4 exact rfl)))|(apply xy;first|(apply vg;exact cAo)|(apply wl;exact cAo)|(apply vd;exact cAo)|(apply vm;exact cAo)|(apply vl;exact cRa)|(apply wd;exact cRa)|(apply va;exact cRa)|(apply ki;exact cRa)|(apply kj <;> intro h)|(apply wo;exact cRa)|(apply xa;exact cRa)|(apply vn;exact cRa)|(apply ve;exact cRa)|(apply j9 <;> intro h)|(apply wp <;> intro h))|(apply xx;first|apply ye|(apply xq;(iterate 4 exact rfl))|(apply yo;exact rfl;exact rfl;exact ql (by omega) (by omega))|(apply xv;(iterate 4 exact rfl);exact cAs;exact cAs)|(apply j7;(iterate 5 exact rfl))|(apply vk;exact rfl;exact rfl;exact cOs)|(apply kh;(iterate 3 exact rfl))|(apply jz;(iterate 5 exact rfl))|(apply zv;(iterate 4 exact rfl))|(apply zu;(iterate 3 exact rfl))|(apply yn;(iterate 3 exact rfl);exact cAs)|(apply xu;exact rfl;exact rfl)|(apply wz;exact rfl;exact rfl)|(apply w6;(iterate 3 exact rfl);omega)|(apply v8;(iterate 3 exact rfl))|apply xk|apply v7|(apply ym;exact rfl;exact rfl;exact ql (by omega) (by omega))|(apply xt;(iterate 3 exact rfl))|(apply xw;(iterate 3 exact rfl);exact cAs)|(apply xp;(iterate 3 exact rfl);exact cAs)|(apply kq;exact rfl;exact rfl))|(apply kr;first|(apply zb;(iterate 3 exact rfl))|(apply jn;(iterate 3 exact rfl))|(apply jf;exact rfl;exact rfl;exact cOs)|(apply z8;exact rfl;exact rfl;exact ql (by omega) (by omega))|(apply vr;exact rfl;exact rfl;exact ql (by omega) (by omega))|(apply zx;exact rfl;exact rfl)|(apply zy;exact rfl;exact rfl)|(apply jg;exact rfl;exact rfl)|(apply jh;exact rfl;exact rfl)|(apply zq;(iterate 3 exact rfl))|(apply ji;(iterate 3 exact rfl))|(apply kp;exact rfl;exact rfl;(first|exact qg _|exact rfl);first|exact qg _|exact rfl)|(apply kl;exact rfl;exact rfl;(first|exact qg _|exact rfl);first|exact qg _|exact rfl)|(apply v6;exact rfl;exact rfl;(first|exact qg _|exact rfl);first|exact qg _|exact rfl)|(apply km;(iterate 3 exact rfl))|(apply ko;(iterate 3 exact rfl)))|(apply wb;first|(apply zf;(iterate 3 exact rfl))|(apply jq;(iterate 5 exact rfl))|(apply zh;(iterate 5 exact rfl)))|(apply wc;first|(apply kg;exact rfl)|(apply ju;exact rfl)|(apply jw;exact rfl))|(apply kw;first|(apply vj;(iterate 3 exact rfl);exact cAs)|(apply vh;(iterate 3 exact rfl);exact cAs)|(apply vi;(iterate 4 exact rfl);exact cAs;exact cAs)|(apply z0;(iterate 4 exact rfl);(first|assumption|omega|exact Nat.succ_le_succ (Nat.zero_le _)|(simp;omega));exact rfl))|(apply wa;first|(apply j5;(iterate 3 exact rfl))|(apply zl;(iterate 4 exact rfl)))|(apply jc;first|(apply qw;(iterate 3 exact rfl))|(apply q7;(iterate 4 exact rfl)))|(apply kz;first|(apply jb;(iterate 11 exact rfl))|(apply ze;(iterate 11 exact rfl)))|(apply w8;first|apply qk|apply qp|apply qo|(apply zn;exact rfl;exact rfl)|(apply qe;exact rfl;apply yj;exact cAo)|(apply qe;exact rfl;apply yw;exact cAo)|(apply qe;exact rfl;apply qaa;exact cRa)|(apply qe;exact rfl;apply y9;exact cRa)|(apply qe;exact rfl;apply pk_t;exact cRa)|(apply qe;exact rfl;apply pk_f;exact cRa)|(apply qy;exact rfl;exact rfl)|apply z7|(apply z4;exact rfl;exact rfl)|(apply vc;(iterate 4 exact rfl))|(apply j8;(iterate 3 exact rfl))|(apply wn;(iterate 3 exact rfl);exact cAs)|(apply jt;(iterate 3 exact rfl))|(apply zo;(iterate 9 exact rfl))|(apply zi;exact rfl;exact rfl)|(apply j6;(iterate 4 exact rfl);(first|assumption|omega|decide);exact rfl)|(apply zt;(iterate 4 exact rfl);first|assumption|omega|decide)))
  refine qu rfl (zp rfl) ⟨congrArg Bv (?_:_=_),_,rfl⟩
  refine (decide_eq_false fun ⟨m,h1,_⟩=>?_).symm
  unfold numZ at h1
  split at h1
  ·rename_i v hv;exact hx v hv
  ·simp at h1
def qeu (r:jo) (f:FldV):Prop:=
 (r.kind=3→f.1=r.key→qfh r f.2)∧(r.kind=4→f.1=r.key→f.2∈qdp r.text)∧(r.kind=5→f.1=r.key→qed r f.2.length)∧(r.kind=6→f.1∈qdp r.text)
instance (r:jo) (f:FldV):Decidable (qeu r f):=inferInstanceAs (Decidable (_∧_∧_∧_))
theorem q4y (r:jo) (f:FldV) (st:List AObj) (h1:r.text.length<4294967281) (h2:f.2.length<4294967281):qn E 86 [vz r,fldA f] st fun x st'=>x=Bv (decide (qeu r f))∧st'=st:=by
 refine zz (zm _) (qx Tryz.func86 rfl (Nat.le_of_ble_eq_true rfl) ?_)
 repeat' (first|(apply w7;first|apply qv|apply zw|apply qm|(apply qc;exact rfl;apply xi;exact cAo)|(apply qc;exact rfl;apply xg;exact cAo)|(apply qc;exact rfl;apply yu;exact cRa)|(apply qc;exact rfl;apply y0;exact cRa)|(apply qc;exact rfl;apply cd_n <;> intro h)|(apply qc;exact rfl;apply cd_t;exact cRa)|(apply qc;exact rfl;apply cd_f;exact cRa)|(apply qc;exact rfl;apply cd_d <;> intro h)|(apply qc;exact rfl;apply cd_s <;> intro h)|(apply xf;exact rfl;kernel_rfl)|apply q9|apply kc|apply zj)|(apply ku;first|(apply q6;(iterate 4 exact rfl))|(apply zk;(iterate 4 exact rfl)))|(apply xy;first|(apply vg;exact cAo)|(apply wl;exact cAo)|(apply vd;exact cAo)|(apply vm;exact cAo)|(apply vl;exact cRa)|(apply wd;exact cRa)|(apply va;exact cRa)|(apply ki;exact cRa)|(apply kj <;> intro h)|(apply wo;exact cRa)|(apply xa;exact cRa)|(apply vn;exact cRa)|(apply ve;exact cRa)|(apply j9 <;> intro h)|(apply wp <;> intro h))|(apply xx;first|apply ye|(apply xq;(iterate 4 exact rfl))|(apply yo;exact rfl;exact rfl;exact ql (by omega) (by omega))|(apply xv;(iterate 4 exact rfl);exact cAs;exact cAs)|(apply j7;(iterate 5 exact rfl))|(apply vk;exact rfl;exact rfl;exact cOs)|(apply kh;(iterate 3 exact rfl))|(apply jz;(iterate 5 exact rfl))|(apply zv;(iterate 4 exact rfl))|(apply zu;(iterate 3 exact rfl))|(apply yn;(iterate 3 exact rfl);exact cAs)|(apply xu;exact rfl;exact rfl)|(apply wz;exact rfl;exact rfl)|(apply w6;(iterate 3 exact rfl);omega)|(apply v8;(iterate 3 exact rfl))|apply xk|apply v7|(apply ym;exact rfl;exact rfl;exact ql (by omega) (by omega))|(apply xt;(iterate 3 exact rfl))|(apply xw;(iterate 3 exact rfl);exact cAs)|(apply xp;(iterate 3 exact rfl);exact cAs)|(apply kq;exact rfl;exact rfl))|(apply kr;first|(apply zb;(iterate 3 exact rfl))|(apply jn;(iterate 3 exact rfl))|(apply jf;exact rfl;exact rfl;exact cOs)|(apply z8;exact rfl;exact rfl;exact ql (by omega) (by omega))|(apply vr;exact rfl;exact rfl;exact ql (by omega) (by omega))|(apply zx;exact rfl;exact rfl)|(apply zy;exact rfl;exact rfl)|(apply jg;exact rfl;exact rfl)|(apply jh;exact rfl;exact rfl)|(apply zq;(iterate 3 exact rfl))|(apply ji;(iterate 3 exact rfl))|(apply kp;exact rfl;exact rfl;(first|exact qg _|exact rfl);first|exact qg _|exact rfl)|(apply kl;exact rfl;exact rfl;(first|exact qg _|exact rfl);first|exact qg _|exact rfl)|(apply v6;exact rfl;exact rfl;(first|exact qg _|exact rfl);first|exact qg _|exact rfl)|(apply km;(iterate 3 exact rfl))|(apply ko;(iterate 3 exact rfl)))|(apply wb;first|(apply zf;(iterate 3 exact rfl))|(apply jq;(iterate 5 exact rfl))|(apply zh;(iterate 5 exact rfl)))|(apply wc;first|(apply kg;exact rfl)|(apply ju;exact rfl)|(apply jw;exact rfl))|(apply kw;first|(apply vj;(iterate 3 exact rfl);exact cAs)|(apply vh;(iterate 3 exact rfl);exact cAs)|(apply vi;(iterate 4 exact rfl);exact cAs;exact cAs)|(apply z0;(iterate 4 exact rfl);(first|assumption|omega|exact Nat.succ_le_succ (Nat.zero_le _)|(simp;omega));exact rfl))|(apply wa;first|(apply j5;(iterate 3 exact rfl))|(apply zl;(iterate 4 exact rfl)))|(apply jc;first|(apply qw;(iterate 3 exact rfl))|(apply q7;(iterate 4 exact rfl)))|(apply kz;first|(apply jb;(iterate 11 exact rfl))|(apply ze;(iterate 11 exact rfl)))|(apply w8;first|apply qk|apply qp|apply qo|(apply zn;exact rfl;exact rfl)|(apply qe;exact rfl;apply yj;exact cAo)|(apply qe;exact rfl;apply yw;exact cAo)|(apply qe;exact rfl;apply qaa;exact cRa)|(apply qe;exact rfl;apply y9;exact cRa)|(apply qe;exact rfl;apply pk_t;exact cRa)|(apply qe;exact rfl;apply pk_f;exact cRa)|(apply qy;exact rfl;exact rfl)|apply z7|(apply z4;exact rfl;exact rfl)|(apply vc;(iterate 4 exact rfl))|(apply j8;(iterate 3 exact rfl))|(apply wn;(iterate 3 exact rfl);exact cAs)|(apply jt;(iterate 3 exact rfl))|(apply zo;(iterate 9 exact rfl))|(apply zi;exact rfl;exact rfl)|(apply j6;(iterate 4 exact rfl);(first|assumption|omega|decide);exact rfl)|(apply zt;(iterate 4 exact rfl);first|assumption|omega|decide))|(apply qz;exact Tryz.call148;exact q29 _ _ _ h1)|(apply qz;exact Tryz.call147;exact qzi r _ _ h2)|(apply qz;exact Tryz.call149;exact qti r _ _))
 all_goals refine qu rfl (zp rfl) ⟨congrArg Bv (?_:_=_),_,rfl⟩
 all_goals simp_all [qeu]
end Go.Proofs.YtneejjefekdgjaaGreatDoor
