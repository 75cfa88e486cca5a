/- Contracts and plain facts that the closing text leans on (part 2). No condition of their own beyond those that each states. -/
import Derived.Test.YtejoahlpbckbeaaGreatDoorK1
import Derived.Lib.Builder
import Derived.Laws.Pointers
import Derived.Laws.Externs
import Derived.Laws.Tables
import Derived.Test.YtejoahlpbckbeaaGreatDoorK0
import Derived.Test.YtejoahlpbckbeaaGreatDoorRows
import Derived.LaidHandle
import Derived.ProofKit
import Derived.OpenShut
import Derived.ShutString
import Derived.Deep.DeepHandedRow
import Derived.Deep.DeepWitnessRowRef
import Derived.Lib.LaidU8
import Derived.Lib.SmallJoins
import Derived.ChangeSame
import Derived.ChangeAgain
import Derived.Lay
import Derived.Lib.Index
import Derived.Lib.SlTrimSet
import Derived.Shelf.Strings.Prefix
import Derived.Shelf.Strings.Cut
import Derived.Lib.ItoaNum
import Derived.Lib.AtoiAll
import Derived.Lib.Repeat
import Derived.Lib.SplitLaws
import Derived.Shelf.Strings.SplitShaped
import Derived.Deep.Slices
import Derived.Deep.Fields
import Derived.WideKeyArgs
import Derived.Lib.ItoaLen
set_option maxRecDepth 100000
set_option linter.unusedVariables false
set_option linter.unusedSimpArgs false
namespace Go.Av
open Go Go.RowKit
section
variable {E : Env} {rd : Option Nat} {N : Nat} {ops : Array Oper} {K : AS → Prop} {s : AS} {rest : List Oper} {d : Option Tmp} {T : TypeId} {p : String} {af : Array Edge}
def q6s:AV→Bool
 | .bx _ _ _=>true
 | .pp _=>true
 | _=>false
theorem wc {x:Operand} {r:AV} (hx:qf N s x=r) (hr:q6s r=true) (h:AOps E rd N ops rest K (s.put d r)):AOps E rd N ops (⟨d,.nilCheck x,T,p,af,none⟩::rest) K s:=by
 refine qs rfl (qq nofun fun B0 w0 G a w _ hI=>?_)
 have he:=hI.eval_of hx
 have key:∃ q,a.eval x = .pointer (some q):=by
  generalize a.eval x=u at he
  cases he <;> simp [q6s] at hr
  ·exact⟨_,rfl⟩
  ·exact⟨_,rfl⟩
 obtain⟨q,hv⟩:=key
 refine⟨_,w,G,r,s.st,?_,.refl G,hI.agree,hv▸he,h⟩
 generalize a.eval = ρ at hv
 simp [execOp,hv]
end
section
variable {B0 : Nat} {w0 : World} {G : Gh} {st : List AObj} {w : World}
theorem qw.refroze (h:qw B0 w0 G st w) {w':World} {g:Nat} {c:Array Value} {T:TypeId} {fz fz':Nat×Nat} (hg:w.heap[g]? = some (.cells c T fz)) (hg':w'.heap[g]? = some (.cells c T fz')) (ho:∀ k,k≠g→w'.heap[k]? = w.heap[k]?) (hB:B0≤g)
  (hsz:w'.heap.size=w.heap.size) (hos:w'.os=w.os) (htape:w'.tape=w.tape) (hout:w'.output=w.output) (hs:∀ o x,st[o]? = some x→x.live→(G.ob o).blk≠g):qw B0 w0 G st w':=by
 refine⟨h.below.trans ⟨hos,htape,hout,by omega,fun k hk=>ho k (by omega)⟩,by rw [hsz];exact h.hB,h.n,fun b vs hb=>?_,fun o x hx=>(h.ob o x hx).mono (.refl G) rfl (fun _=>rfl) (fun hl=>ho _ (hs o x hx hl)),h.sep⟩
 by_cases e:b=g
 ·subst e
  obtain⟨c2,T2,fz2,e1,e2⟩:=h.pub b vs hb
  rw [hg] at e1
  simp only [Option.some.injEq,Obj.cells.injEq] at e1
  exact⟨c,T,fz',hg',by rw [e1.1];exact e2⟩
 ·rw [ho b e]
  exact h.pub b vs hb
theorem qw.tipCell (h:qw B0 w0 G st w) {o ver j sz:Nat} {T T':TypeId} {cs:List AV} (ho:st[o]? = some (.cells ver T cs)) (hj:cs[j]? = some zv) :
  qw B0 w0 (G.new 0 0 0 false) (st.set o (.cells ver T (cs.set j (.sl sz [] (some st.length))))++[AObj.tip 0 sz T']) w:=by
 have h1:=h.newTip sz T'
 have hle:=G.le_new 0 0 0 false
 have hlt:=lt_of_getElem? ho
 have e:st.set o (.cells ver T (cs.set j (.sl sz [] (some st.length))))++[AObj.tip 0 sz T']=(st++[AObj.tip 0 sz T']).set o (.cells ver T (cs.set j (.sl sz [] (some st.length)))):=by
  rw [List.set_append_left _ _ hlt]
 rw [e]
 have ho':(st++[AObj.tip 0 sz T'])[o]? = some (.cells ver T cs):=by rw [List.getElem?_append_left hlt];exact ho
 generalize hG:G.new 0 0 0 false=G' at h1 hle
 have hn:st.length<G'.n:=by rw [h1.n];simp
 refine⟨h1.below,h1.hB,by simp [h1.n],h1.pub,fun k x hx=>?_,fun k k' x x' hne hx hx' hl hl'=>?_⟩
 ·rcases getElem?_set' _ _ _ _ _ hx with⟨rfl,rfl⟩ | ⟨hne,hx⟩
  ·obtain⟨g0,g1,g2,g3,c,g4,g5,g6⟩:=h1.ob k _ ho'
   refine⟨g0,g1,g2,g3,c,g4,by simpa using g5,fun i x y hx hy=>?_⟩
   rcases getElem?_set' _ _ _ _ _ hx with⟨rfl,rfl⟩ | ⟨_,hx⟩
   ·have:=g6 i _ y hj hy
    cases this
    exact .sl0 sz (some st.length) none 0 fun t ht=>by simp at ht;subst ht;exact⟨hn,rfl,rfl⟩
   ·exact g6 i x y hx hy
  ·exact h1.ob k x hx
 ·have key:∀ (k:Nat) (x:AObj),((st++[AObj.tip 0 sz T']).set o (.cells ver T (cs.set j (.sl sz [] (some st.length)))))[k]? = some x→∃ x0:AObj,(st++[AObj.tip 0 sz T'])[k]? = some x0∧(x.live→x0.live):=fun k x hx=>by
   rcases getElem?_set' _ _ _ _ _ hx with⟨rfl,rfl⟩ | ⟨_,hx⟩
   ·exact⟨_,ho',fun _=>trivial⟩
   ·exact⟨x,hx,id⟩
  obtain⟨x0,e1,e2⟩:=key k x hx
  obtain⟨x1,e3,e4⟩:=key k' x' hx'
  exact h1.sep k k' x0 x1 hne e1 e3 (e2 hl) (e4 hl')
end
section
variable {E : Env} {rd : Option Nat} {N : Nat} {ops : Array Oper} {K : AS → Prop} {s : AS} {rest : List Oper} {d : Option Tmp} {T : TypeId} {p : String} {af : Array Edge}
def yu:AV→Option Bool
 | .bx _ _ _=>some false
 | .pp _=>some false
 | .v (.pointer none)=>some true
 | _=>none
theorem x5 {x:Operand} {t t' te:TypeId} {r:AV} {b:Bool} (hx:qf N s x=r) (hr:yu r=some b) (hu:E.P.underlying t=some (.pointer te)) (h:AOps E rd N ops rest K (s.put d (Bv b))):AOps E rd N ops (⟨d,.binOp .eql t x (.const (.pointer none)) t',T,p,af,none⟩::rest) K s:=by
 refine qs rfl (qq nofun fun B0 w0 G a w _ hI=>?_)
 have he:=hI.eval_of hx
 have key:∃ q:Option Addr,a.eval x = .pointer q∧q.isNone=b:=by
  generalize a.eval x=u at he
  cases he <;> try (simp [yu] at hr;done)
  case v=>
   cases u <;> try (simp [yu] at hr;done)
   case pointer q=>
    cases q <;> simp [yu] at hr
    subst hr
    exact⟨_,rfl,rfl⟩
  case pp=>simp [yu] at hr;subst hr;exact⟨_,rfl,rfl⟩
  case bx=>simp [yu] at hr;subst hr;exact⟨_,rfl,rfl⟩
 obtain⟨q,hv,rfl⟩:=key
 have hc:a.eval (.const (.pointer none)) = .pointer none:=rfl
 have hq:=run_eql_pointer_nil (P:=E.P) w t q (by simp [Program.pointee,hu])
 refine⟨_,w,G,_,s.st,?_,.refl G,hI.agree,.v _,h⟩
 generalize a.eval = ρ at hv hc
 simp [execOp,hv,hc,eqGuard_at_pointer,hq]
theorem qip {x:Operand} {t t' te:TypeId} {r:AV} {b:Bool} (hx:qf N s x=r) (hr:yu r=some b) (hu:E.P.underlying t=some (.pointer te)) (h:AOps E rd N ops rest K (s.put d (Bv !b))):AOps E rd N ops (⟨d,.binOp .neq t x (.const (.pointer none)) t',T,p,af,none⟩::rest) K s:=by
 refine qs rfl (qq nofun fun B0 w0 G a w _ hI=>?_)
 have he:=hI.eval_of hx
 have key:∃ q:Option Addr,a.eval x = .pointer q∧q.isNone=b:=by
  generalize a.eval x=u at he
  cases he <;> try (simp [yu] at hr;done)
  case v=>
   cases u <;> try (simp [yu] at hr;done)
   case pointer q=>
    cases q <;> simp [yu] at hr
    subst hr
    exact⟨_,rfl,rfl⟩
  case pp=>simp [yu] at hr;subst hr;exact⟨_,rfl,rfl⟩
  case bx=>simp [yu] at hr;subst hr;exact⟨_,rfl,rfl⟩
 obtain⟨q,hv,rfl⟩:=key
 have hc:a.eval (.const (.pointer none)) = .pointer none:=rfl
 have hq:=run_neq_pointer_nil (P:=E.P) w t q (by simp [Program.pointee,hu])
 refine⟨_,w,G,_,s.st,?_,.refl G,hI.agree,.v _,h⟩
 generalize a.eval = ρ at hv hc
 simp [execOp,hv,hc,eqGuard_at_pointer,hq]
theorem Inv.ptr {B0:Nat} {w0:World} {G:Gh} {a:Act} {w:World} (hI:Inv B0 w0 N G s a w) {x:Operand} {o ver off:Nat} {T1:TypeId} {cs:List AV} (hx:qf N s x = .bx o ver off) (ho:s.st[o]? = some (.cells ver T1 cs)):a.eval x = .pointer (some ⟨(G.ob o).blk,off,none⟩):=by
 have he:=hI.eval_of hx
 obtain⟨_,h1,_⟩:=hI.agree.ob o _ ho
 generalize a.eval x=v at he
 cases he with
 |bx _ _ _ b hn hv hb=>rw [hb h1]
theorem qov {x y:Operand} {t t' te:TypeId} {o ver off:Nat} {T1:TypeId} {cs:List AV} (hx:qf N s x = .bx o ver off) (hy:qf N s y = .bx o ver off) (ho:s.st[o]? = some (.cells ver T1 cs)) (hu:E.P.underlying t=some (.pointer te)) (hi:(E.P.info? te).isSome=true)
  (h:AOps E rd N ops rest K (s.put d (Bv false))):AOps E rd N ops (⟨d,.binOp .neq t x y t',T,p,af,none⟩::rest) K s:=by
 refine qs rfl (qq nofun fun B0 w0 G a w _ hI=>?_)
 obtain⟨j,hj⟩:=Option.isSome_iff_exists.1 hi
 have h1:=hI.ptr hx ho
 have h2:=hI.ptr hy ho
 have hq:=Lib.run_neq_ptr_same (P:=E.P) w ⟨(G.ob o).blk,off,none⟩ hu hj
 refine⟨_,w,G,_,s.st,?_,.refl G,hI.agree,.v _,h⟩
 generalize a.eval = ρ at h1 h2
 simp [execOp,h1,h2,eqGuard_at_pointer,hq]
theorem qrv {x:Operand} {t t' te:TypeId} {o ver:Nat} {T1:TypeId} {cs:List AV} (hx:qf N s x = .bx o ver 0) (ho:s.st[o]? = some (.cells ver T1 cs)) (hne:0<cs.length) (hs:E.P.underlying t=some (.pointer te)) (hd:E.P.underlying t'=some .unsafePointer) (hi:(match E.P.info? te with|some j=>Nat.beq j.size 0|none=>true)=false)
  (h:AOps E rd N ops rest K (s.put d (.bx o ver 0))):AOps E rd N ops (⟨d,.convert t t' x,T,p,af,none⟩::rest) K s:=by
 refine qs rfl (qq nofun fun B0 w0 G a w _ hI=>?_)
 obtain⟨_,h1,h2,h3,c,h4,h5,h6⟩:=hI.agree.ob o _ ho
 have he:=hI.eval_of hx
 have hv:=hI.ptr hx ho
 cases hj:E.P.info? te with
 |none=>rw [hj] at hi;simp at hi
 |some j=>
  rw [hj] at hi
  have hj0:j.size≠0:=fun e=>by simp [e] at hi
  have hq:=Lib.run_to_unsafe (P:=E.P) w ⟨(G.ob o).blk,0,none⟩ hs hd hj hj0 (e:=T1) (cells:=c.size) (by simp [World.shape?,h4]) (by simpa [← h5] using hne)
  refine⟨_,w,G,_,s.st,?_,.refl G,hI.agree,hv▸he,h⟩
  generalize a.eval = ρ at hv
  simp [execOp,hv,hq]
theorem qmt {x:Operand} {t t' te:TypeId} {o ver:Nat} {T1:TypeId} {cs:List AV} (hx:qf N s x = .bx o ver 0) (ho:s.st[o]? = some (.cells ver T1 cs)) (hs:E.P.underlying t=some .unsafePointer) (hd:E.P.underlying t'=some (.pointer te)) (hi:(E.P.info? te).isSome=true) (hl:liesAt E.P E.P.depth T1 (cs.length / E.P.cellsOf T1) 0 te 1=true)
  (h:AOps E rd N ops rest K (s.put d (.bx o ver 0))):AOps E rd N ops (⟨d,.convert t t' x,T,p,af,none⟩::rest) K s:=by
 refine qs rfl (qq nofun fun B0 w0 G a w _ hI=>?_)
 obtain⟨_,h1,h2,h3,c,h4,h5,h6⟩:=hI.agree.ob o _ ho
 obtain⟨j,hj⟩:=Option.isSome_iff_exists.1 hi
 have he:=hI.eval_of hx
 have hv:=hI.ptr hx ho
 have hq:=Lib.run_from_unsafe (P:=E.P) w ⟨(G.ob o).blk,0,none⟩ hs hd hj (e:=T1) (cells:=c.size) (by simp [World.shape?,h4]) (by rw [← h5];exact hl)
 refine⟨_,w,G,_,s.st,?_,.refl G,hI.agree,hv▸he,h⟩
 generalize a.eval = ρ at hv
 simp [execOp,hv,hq]
theorem qrt {f:FuncId} {x:Operand} {ts:Array TypeId} {r:AV} (hrun:∀ v w,(callFunc f #[v]).run E.P w = .ok (.value v) w) (hx:qf N s x=r)
  (h:AOps E rd N ops rest K (s.put d r)):AOps E rd N ops (⟨d,.call ⟨.value (.func f),#[x],ts⟩,T,p,af,none⟩::rest) K s:=by
 refine qs rfl (qq nofun fun B0 w0 G a w _ hI=>?_)
 refine⟨a.eval x,w,G,_,s.st,?_,.refl G,hI.agree,hI.eval_of hx,h⟩
 have he:a.eval (.func f) = .func (.func f) #[] #[]:=rfl
 generalize a.eval = ρ at he
 simp [execOp,resolve,Deferred.ofValue,he,invoke,hrun]
theorem Inv.restate {B0:Nat} {w0:World} {G G':Gh} {a:Act} {w:World} {st':List AObj} (h:Inv B0 w0 N G s a w) (hG:G.le G') (hA:qw B0 w0 G' st' w):Inv B0 w0 N G' ⟨s.t,st',s.df⟩ a w:=
 ⟨hA,h.defers_mono hG,h.size,fun i y hy=>(h.tmps i y hy).mono hG⟩
theorem qs1 {o ver j sz:Nat} {T1 T':TypeId} {cs:List AV} {l:List Oper} (ho:s.st[o]? = some (.cells ver T1 cs)) (hj:cs[j]? = some zv)
  (h:AOps E rd N ops l K ⟨s.t,s.st.set o (.cells ver T1 (cs.set j (.sl sz [] (some s.st.length))))++[AObj.tip 0 sz T'],s.df⟩):AOps E rd N ops l K s:=
 ⟨fun B0 w0 G a w hL hI Q hQ=>h.run B0 w0 _ a w hL (hI.restate (G.le_new 0 0 0 false) (hI.agree.tipCell ho hj)) Q fun G' s' a' w' hG=>hQ G' s' a' w' ((G.le_new 0 0 0 false).trans hG)⟩
theorem Inv.newTip {B0:Nat} {w0:World} {G:Gh} {a:Act} {w:World} (h:Inv B0 w0 N G s a w) {i sz:Nat} {T':TypeId} (hi:s.t i=zv):Inv B0 w0 N (G.new 0 0 0 false) ⟨Av.put s.t i (.sl sz [] (some s.st.length)),s.st++[AObj.tip 0 sz T'],s.df⟩ a w:=by
 have hA:=h.agree.newTip sz T'
 have h2:=h.restate (G.le_new 0 0 0 false) hA
 refine⟨h2.agree,h2.defers,h2.size,fun k y hy=>?_⟩
 by_cases e:k=i
 ·subst e
  show Rel _ (Av.put s.t k _ k) y
  rw [wg]
  have:=h2.tmps k y hy
  simp only [hi] at this
  cases this
  exact .sl0 sz _ none 0 fun t ht=>by simp at ht;subst ht;exact⟨by rw [hA.n];simp,rfl,rfl⟩
 ·show Rel _ (Av.put s.t i _ k) y
  rw [xx _ _ _ _ e]
  exact h2.tmps k y hy
end
end Go.Av
namespace Go.Av
open Go Go.RowKit
theorem qty:∀ (vs:List Value) (off n:Nat) (c:Array Value),off+n+vs.length≤c.size →
  ((vs.zipIdx n).foldl (fun (cs:Array Value) (x:Value×Nat)=>cs.setIfInBounds (off+x.2) x.1) c).size=c.size ∧
  ∀ k,((vs.zipIdx n).foldl (fun (cs:Array Value) (x:Value×Nat)=>cs.setIfInBounds (off+x.2) x.1) c)[k]? = if off+n≤k∧k<off+n+vs.length then vs[k - (off+n)]? else c[k]?
 | [],off,n,c,_=>⟨by simp,fun k=>by simp;intro h1 h2;omega⟩
 |v::vs,off,n,c,h=>by
  simp only [List.zipIdx_cons,List.foldl_cons,List.length_cons] at h ⊢
  obtain⟨h1,h2⟩:=qty vs off (n+1) (c.setIfInBounds (off+n) v) (by simp;omega)
  refine⟨by rw [h1];simp,fun k=>?_⟩
  rw [h2 k]
  by_cases hk:k=off+n
  ·subst hk
   rw [if_neg (by omega),if_pos (by omega),Array.getElem?_setIfInBounds_self,if_pos (by omega)]
   simp
  ·by_cases hr:off+n≤k∧k<off+n+(vs.length+1)
   ·rw [if_pos (by omega),if_pos hr]
    rw [show k - (off+n)=(k - (off+(n+1)))+1 by omega]
    simp
   ·rw [if_neg (by omega),if_neg hr]
    rw [Array.getElem?_setIfInBounds,if_neg (by omega)]
def y7 (place:Nat→Option (Nat×Nat)) (cells:List AV):List (Nat×AV)→Option (List AV)
 | []=>some cells
 |(i,x)::rest=>
  match place i with
  |none=>none
  |some (off,size)=>bif x.okc && Nat.beq x.cells.length size && Nat.ble (off+size) cells.length then y7 place (zh cells off x.cells) rest else none
theorem qe1 {G:Gh} (place:Nat→Option (Nat×Nat)):∀ (ps:List (Nat×AV)) (vs:List (Nat×Value)) (cs:List AV) (c:Array Value) (cs':List AV),ps.length=vs.length→(∀ (i:Nat) (p:Nat×AV) (v:Nat×Value),ps[i]? = some p→vs[i]? = some v→p.1=v.1∧Rel G p.2 v.2) →
  RelC G cs c→y7 place cs ps=some cs'→∃ c',Instr.fill place c vs=some c'∧RelC G cs' c'
 | [],[],cs,c,cs',_,_,hc,h=>by
  simp only [y7,Option.some.injEq] at h
  subst h
  exact⟨c,rfl,hc⟩
 | [],v::vs,_,_,_,hl,_,_,_=>by simp at hl
 |p::ps,[],_,_,_,hl,_,_,_=>by simp at hl
 |(i,x)::ps,(j,v)::vs,cs,c,cs',hl,hr,hc,h=>by
  obtain⟨e,hx⟩:=hr 0 _ _ rfl rfl
  simp only at e hx
  subst e
  simp only [y7] at h
  simp only [Instr.fill]
  cases hp:place i with
  |none=>simp [hp] at h
  |some q=>
   obtain⟨off,size⟩:=q
   simp only [hp] at h ⊢
   cases hb:(x.okc && Nat.beq x.cells.length size && Nat.ble (off+size) cs.length) with
   |false=>simp [hb] at h
   |true=>
    simp only [hb,cond_true] at h
    simp only [Bool.and_eq_true] at hb
    obtain⟨⟨hok,hsz⟩,hle⟩:=hb
    have hsz:=Nat.eq_of_beq_eq_true hsz
    have hle:=Nat.le_of_ble_eq_true hle
    have hcx:=hx.cells hok
    have hcs:v.cells.size=size:=by rw [← hcx.1];exact hsz
    have hfit:off+v.cells.size≤c.size:=by rw [hcs,← hc.1];exact hle
    rw [if_neg (by simp [hcs];rw [← hc.1];exact hle)]
    have hfold:v.cells.zipIdx.foldl (fun cs (x:Value×Nat)=>cs.setIfInBounds (off+x.2) x.1) c=(v.cells.toList.zipIdx 0).foldl (fun (cs:Array Value) (x:Value×Nat)=>cs.setIfInBounds (off+x.2) x.1) c:=by
     rw [← Array.foldl_toList,Array.toList_zipIdx]
    obtain⟨g1,g2⟩:=qty v.cells.toList off 0 c (by simpa using hfit)
    have hnew:RelC G (zh cs off x.cells) ((v.cells.toList.zipIdx 0).foldl (fun (cs:Array Value) (x:Value×Nat)=>cs.setIfInBounds (off+x.2) x.1) c):=by
     refine⟨?_,fun k a y h1 h2=>?_⟩
     ·rw [g1,← hc.1]
      simp [zh]
      omega
     ·rw [g2] at h2
      have e1:(cs.take off).length=off:=by simp;omega
      simp only [zh,List.append_assoc] at h1
      by_cases hk:k<off
      ·rw [List.getElem?_append_left (by omega),List.getElem?_take,if_pos hk] at h1
       rw [if_neg (by omega)] at h2
       exact hc.2 k a y h1 h2
      ·rw [List.getElem?_append_right (by omega),e1] at h1
       by_cases hk2:k - off<x.cells.length
       ·rw [List.getElem?_append_left hk2] at h1
        rw [if_pos ⟨by omega,by simp;omega⟩] at h2
        exact hcx.2 (k - off) a y h1 (by simpa using h2)
       ·rw [List.getElem?_append_right (by omega),List.getElem?_drop] at h1
        rw [if_neg (by simp;omega)] at h2
        rw [show off+x.cells.length+(k - off - x.cells.length)=k by omega] at h1
        exact hc.2 k a y h1 h2
    have:=qe1 place ps vs _ _ cs' (by simpa using hl) (fun i p v h1 h2=>hr (i+1) p v (by simpa using h1) (by simpa using h2)) hnew h
    rw [← hfold] at this
    exact this
section
variable {E : Env} {rd : Option Nat} {N : Nat} {ops : Array Oper} {K : AS → Prop} {s : AS} {rest : List Oper} {d : Option Tmp} {T : TypeId} {p : String} {af : Array Edge}
def j7 (N:Nat) (s:AS) (parts:Array (Nat×Operand)):List (Nat×AV):=parts.toList.map fun x=>(x.1,qf N s x.2)
def qpj (P:Program) (t:TypeId):Option (List (Nat×Nat)):=
 match P.underlying t with
 |some (.struct fs)=>fs.toList.mapM (fun f=>(P.info? f.type).map fun i=>(f.offset,i.size))
 | _=>none
theorem qf7 {B0:Nat} {w0:World} {G:Gh} {a:Act} {w:World} (hI:Inv B0 w0 N G s a w) (parts:Array (Nat×Operand)):∀ (i:Nat) (p:Nat×AV) (v:Nat×Value),(j7 N s parts)[i]? = some p→(parts.toList.map fun x=>(x.1,a.eval x.2))[i]? = some v→p.1=v.1∧Rel G p.2 v.2:=fun i p v h1 h2=>by
 simp only [j7,List.getElem?_map] at h1 h2
 cases hq:parts.toList[i]? with
 |none=>simp [hq] at h1
 |some z=>simp [hq] at h1 h2;subst h1;subst h2;exact⟨rfl,hI.eval _⟩
theorem qa1 {t:TypeId} {parts:Array (Nat×Operand)} {zs cs:List AV} {pl:List (Nat×Nat)} (hz:qgc E.P t=some zs) (hp:qpj E.P t=some pl) (hf:y7 (pl[·]?) zs (j7 N s parts)=some cs)
  (h:AOps E rd N ops rest K (s.put d (.ag cs))):AOps E rd N ops (⟨d,.build t parts,T,p,af,none⟩::rest) K s:=by
 refine qs rfl (qq nofun fun B0 w0 G a w _ hI=>?_)
 obtain⟨z,hrun,hr⟩:=qj3 hz w
 obtain⟨c',h1,h2⟩:=qe1 (pl[·]?) (j7 N s parts) (parts.toList.map fun x=>(x.1,a.eval x.2)) zs z.cells cs (by simp [j7]) (qf7 hI parts) (hr G) hf
 unfold qpj at hp
 split at hp
 ·rename_i fs hu
  refine⟨.agg c',w,G,.ag cs,s.st,?_,.refl G,hI.agree,.ag _ _ h2.1 h2.2,h⟩
  generalize a.eval = ρ at h1
  simp [execOp,Instr.build,run_underlying hu,hrun,Array.mapM_eq_mapM_toList,run_places w _ _ hp,h1]
 ·simp at hp
def qbl (P:Program) (e:TypeId) (n:Nat):Option (List AV):=
 match P.info? e with
 |some i=>bif Nat.beq (n * i.size) 0 then some [] else i.zero.map fun z=>(List.range (n * i.size)).map fun k=>.v (z.cells[k % z.cells.size]!)
 |none=>none
theorem qgy {B0:Nat} {w0:World} {G:Gh} {a:Act} {w:World} (hI:Inv B0 w0 N G s a w) {t e:TypeId} {len sz:Nat} {agg:Bool} {parts:Array (Nat×Operand)} {zs cs:List AV} (hu:E.P.underlying t=some (.slice e)) (ht:tyOf E.P e=some (sz,agg)) (hz:qbl E.P e len=some zs)
  (hf:y7 (fun i=>some (i * sz,sz)) zs (j7 N s parts)=some cs) (hsz:Nat.ble (len * sz) 16777216=true) :
  ∃ c':Array Value,(execOp a.eval ⟨d,.buildSlice t len parts,T,p,af,none⟩).run E.P w = .ok (.value (.slice (some ⟨w.heap.size,0,none⟩) len len)) (w.alloc (.cells c' e))∧RelC G cs c':=by
 have hsizeOf:=(jz ht w).1
 have hsz:=Nat.le_of_ble_eq_true hsz
 unfold qbl at hz
 cases hi:E.P.info? e with
 |none=>rw [hi] at hz;simp at hz
 |some i=>
  rw [hi] at hz
  simp only at hz
  have hs:i.size=sz:=by simpa [sizeOf,typeInfo,hi] using hsizeOf
  rw [hs] at hz
  -- the array that the run starts from
  have key:∃ c0:Array Value,RelC G zs c0∧∀ (Q:Array Value→Sem Value),((do
    let zero ← if len * sz=0 then pure #[] else do pure (← zeroValue e).cells
    Q ((Array.range (len * sz)).map (zero[· % zero.size]!)):Sem Value)).run E.P w=(Q c0).run E.P w:=by
   by_cases h0:len * sz=0
   ·rw [h0] at hz
    simp at hz
    subst hz
    exact⟨#[],⟨rfl,by simp⟩,fun Q=>by have e:Array.range 0 = #[]:=(by simp [Array.range]);simp [h0,e]⟩
   ·have:Nat.beq (len * sz) 0=false:=zp h0
    rw [this] at hz
    simp only [cond_false] at hz
    cases hzr:i.zero with
    |none=>rw [hzr] at hz;simp at hz
    |some z=>
     rw [hzr] at hz
     simp only [Option.map_some,Option.some.injEq] at hz
     subst hz
     refine⟨(Array.range (len * sz)).map (z.cells[· % z.cells.size]!),⟨by simp,fun k x y h1 h2=>?_⟩,fun Q=>by simp [h0,zeroValue,typeInfo,hi,hzr]⟩
     have hk:k<len * sz:=by have:=lt_of_getElem? h1;simpa using this
     simp [hk] at h1 h2
     subst h1;subst h2
     exact .v _
  obtain⟨c0,hc0,hrun0⟩:=key
  obtain⟨c',h1,h2⟩:=qe1 (fun i=>some (i * sz,sz)) (j7 N s parts) (parts.toList.map fun x=>(x.1,a.eval x.2)) zs c0 cs (by simp [j7]) (qf7 hI parts) hc0 hf
  refine⟨c',?_,h2⟩
  ·generalize a.eval = ρ at h1
   have hb:¬ 16777216<len * sz:=by omega
   have hg:∃ m:String,(execOp ρ ⟨d,.buildSlice t len parts,T,p,af,none⟩).run E.P w=(((do
    let zero ← if len * sz=0 then pure #[] else do pure (← zeroValue e).cells
    (fun c=>(do
    let some cells:=Instr.fill (fun i=>some (i * sz,sz)) c (parts.map fun x=>(x.1,ρ x.2)).toList|stuck m
    pure (Value.slice (some (← newRow e cells)) len len):Sem Value)) ((Array.range (len * sz)).map (zero[· % zero.size]!)):Sem Value)).run E.P w).andThen fun v w'=>.ok (.value v) w':=by
    apply Exists.intro
    simp only [execOp,Instr.buildSlice]
    simp [run_underlying hu,hsizeOf,hb]
    rfl
   obtain⟨m,hg⟩:=hg
   have hQ:=hrun0 (fun c=>do
    let some cells:=Instr.fill (fun i=>some (i * sz,sz)) c (parts.map fun x=>(x.1,ρ x.2)).toList|stuck m
    pure (.slice (some (← newRow e cells)) len len))
   rw [hg,hQ]
   simp [h1,newRow,newObj,Sem.run]
theorem qfm {t e:TypeId} {len sz:Nat} {agg:Bool} {parts:Array (Nat×Operand)} {zs cs xs:List AV} (hu:E.P.underlying t=some (.slice e)) (ht:tyOf E.P e=some (sz,agg)) (hz:qbl E.P e len=some zs)
  (hf:y7 (fun i=>some (i * sz,sz)) zs (j7 N s parts)=some cs) (hxs:(j7 N s parts).map Prod.snd=xs) (hlen:xs.length=len) (hfl:flat xs=cs) (hw:xs.all (fun x=>Nat.beq x.cells.length sz)=true) (hsz:Nat.ble (len * sz) 16777216=true)
  (h:AOps E rd N ops rest K (s.put d (.sl sz xs none))):AOps E rd N ops (⟨d,.buildSlice t len parts,T,p,af,none⟩::rest) K s:=by
 refine qs rfl (qq nofun fun B0 w0 G a w _ hI=>?_)
 obtain⟨c',hrun,h2⟩:=qgy (d:=d) (T:=T) (p:=p) (af:=af) hI hu ht hz hf hsz
 obtain⟨hle,hA⟩:=hI.agree.newPub e c' (0,0) c'.toList (fun i y hy=>by simpa using hy)
 refine⟨.slice (some ⟨w.heap.size,0,none⟩) len len,w.alloc (.cells c' e),_,.sl sz xs none,s.st,hrun,hle,hA,?_,h⟩
 rw [← hlen]
 cases xs with
 |nil=>exact .sl0 sz none _ _ (by simp)
 |cons x0 xr=>
  refine .sl sz _ none w.heap.size 0 _ c'.toList (by simp [Gh.publish]) (fun x hx=>?_) (by rw [hfl,h2.1];simp) (fun k x y g1 g2=>?_) (fun t ht=>by simp at ht) (Nat.le_refl _)
  ·exact Nat.eq_of_beq_eq_true (List.all_eq_true.1 hw x hx)
  ·rw [hfl] at g1
   exact (h2.2 k x y g1 (by simpa using g2)).mono hle
end
end Go.Av
namespace Go.Av
open Go Go.RowKit
inductive qd7 (n:Nat):List AObj→List AObj→Prop
 |nil:qd7 n [] []
 |same {l l':List AObj} (x:AObj) (h:qd7 n l l'):qd7 n (x::l) (x::l')
 |cut {l l':List AObj} {x x':AObj} (hx:qmj n x') (h:qd7 n l l'):qd7 n (x::l) (x'::l')
 |loop {l l':List AObj} {ls ls':LoopState} {pend pend':Option Code} {N:Nat} {t:Nat→AV} {ps:Array Tmp} {asg body:Code} (h:qd7 n l l'):qd7 n (.loop ls pend N t ps asg body::l) (.loop ls' pend' N t ps asg body::l')
theorem qd7.length {n:Nat} {l l':List AObj} (h:qd7 n l l'):l'.length=l.length:=by
 induction h with
 |nil=>rfl
 | _=>simpa
def qr6 (F:LoopState→Option Code→AObj) (N:Nat) (t:Nat→AV) (ps:Array Tmp) (asg body:Code):Prop:=∀ ls pend,F ls pend=AObj.loop ls pend N t ps asg body
@[reducible] def za4 (o : Nat) (F : LoopState → Option Code → AObj) (R : Bool → List AObj → Prop) : Exit → AS → Prop
 | .normal,s=>s.st[o]? = some (F .busy none)∧R true (s.st.set o (F .ready none))
 | .ret,s=>s.st[o]? = some (F .busy none)∧R false (s.st.set o (F .done (some .ret)))
 | .exit id,s=>s.st[o]? = some (F .busy none)∧R false (s.st.set o (F .done (some (.exit id))))
 | _,_=>False
theorem q4e {E:Env} {o N:Nat} {t:Nat→AV} {ps:Array Tmp} {asg body:Code} {st:List AObj} {R:Bool→List AObj→Prop} {xs:List AV} {F:LoopState→Option Code→AObj} (hF:qr6 F N t ps asg body) (ho:st[o]? = some (F .ready none)) (hps:ps.size=xs.length)
  (h:∀ l,AWp E (some l) N asg (only fun s1=>s1.st[o]? = some (F .ready none)∧s1.df=[]∧AWp E (some l) N body (za4 o F R) ⟨s1.t,s1.st.set o (F .busy none),[]⟩) ⟨qib t (ps.toList.zip xs),st,[]⟩):qap E o xs st R:=by
 refine qv6 (N:=N) (t:=t) (ps:=ps) (asg:=asg) (body:=body) (by rw [ho,hF]) hps fun l=>(h l).mono fun e s1 hq=>?_
 cases e with
 |normal=>
  obtain⟨h1,h2,h3⟩:=hq
  refine⟨by rw [h1,hF],h2,?_⟩
  rw [hF] at h3
  refine h3.mono fun e s2 hq2=>?_
  cases e with
  |normal=>obtain⟨k1,k2⟩:=hq2;exact⟨by rw [k1,hF],by rw [hF] at k2;exact k2⟩
  |ret=>obtain⟨k1,k2⟩:=hq2;exact⟨by rw [k1,hF],by rw [hF] at k2;exact k2⟩
  |exit id=>obtain⟨k1,k2⟩:=hq2;exact⟨by rw [k1,hF],by rw [hF] at k2;exact k2⟩
  | _=>exact hq2.elim
 | _=>exact hq.elim
theorem qyt {E:Env} {N:Nat} {Q:Exit→AS→Prop} {s:AS} {f:Operand} {ps:Array Tmp} {asg body:Code} {st loc:List AObj} {g:FuncId} {fs cs:List AV} (hst:s.st=st++loc) (hx:qf N s f = .fn (.func g) fs cs)
  (hrun:∀ vs w,(callFunc g vs).run E.P w = .ok (.enter g vs) w)
  (h:∀ F,qr6 F N s.t ps asg body→qn E g (fs++[.yd (st.length+(loc.length+1))]++cs) (st++(loc++[.dfr,F .ready none])) fun _ st'=>∃ ls pend,ls≠LoopState.busy∧st'[st.length+(loc.length+1)]? = some (F ls pend) ∧
   match pend with
   |none=>Q .normal ⟨s.t,st'.set (st.length+(loc.length+1)) .dead,(st.length+loc.length)::s.df⟩
   |some c=>AWp E none N c Q ⟨s.t,st'.set (st.length+(loc.length+1)) .dead,(st.length+loc.length)::s.df⟩):AWp E none N (.rangeFunc f ps asg body) Q s:=
 qrw hst hx hrun ((h (fun ls pend=>.loop ls pend N s.t ps asg body) (fun _ _=>rfl)).mono fun _ _ ⟨ls,pend,h1,h2,h3⟩=>⟨ls,pend,h1,h2,h3⟩)
theorem qqb {E:Env} {rd:Option Nat} {N:Nat} {c:Code} {Q:Exit→AS→Prop} {s:AS} (L:List (Nat×AV)) (st':List AObj) (df':List Nat) (h:HasL s.t L) (hst:s.st=st') (hdf:s.df=df') (k:∀ t,AWp E rd N c Q ⟨puts t L,st',df'⟩):AWp E rd N c Q s:=by
 have:=k s.t
 rw [qet h,← hst,← hdf] at this
 exact this
theorem qwv {E:Env} {B0:Nat} {w0:World} {N:Nat} {G:Gh} {s:AS} {a:Act} {w:World} (hI:Inv B0 w0 N G s a w) {x:Operand} {t:TypeId} {sz:Nat} {agg:Bool} {o ver off:Nat} {T':TypeId} {cs:List AV} {r:AV} (hx:qf N s x = .bx o ver off) (ho:s.st[o]? = some (.cells ver T' cs)) (ht:tyOf E.P t=some (sz,agg)) (hr:jp sz agg off cs=some r) :
  ∃ b v,a.eval x = .pointer (some ⟨b,off,none⟩)∧(loadVar t ⟨b,off,none⟩).run E.P w = .ok v w∧Rel G r v:=by
 have he:=hI.eval_of hx
 generalize hv:a.eval x=v at he
 cases he with
 |bx _ _ _ b hn hv' hb=>
  obtain⟨_,h1,h2,h3,c,h4,h5,h6⟩:=hI.agree.ob o _ ho
  have hb:=hb h1
  rw [hb] at h4
  obtain⟨v,hrun,hR⟩:=xo (w:=w) (G:=G) (b:=b) (off:=off) (off':=off) ht (fun i x hx hi=>by
   obtain⟨y,hy⟩:=kr hx (Nat.le_of_eq h5)
   refine⟨y,?_,h6 i x y hx hy⟩
   simp [World.cell?,h4,show off+(i - off)=i by omega,hy]) hr
  exact⟨b,v,rfl,hrun,hR⟩
@[reducible] def Wv (x : BitVec 32) : AV := .v (.int .u32 (x.toNat : Nat))
theorem qdc (n:Nat):IntKind.u32.wrap (n:Int)=((n % 4294967296:Nat):Int):=by
 simp [IntKind.wrap,IntKind.bits,IntKind.signed]
theorem jh (x:BitVec 32):BitVec.ofInt 32 (x.toNat:Int)=x:=by
 rw [BitVec.ofInt_natCast,BitVec.ofNat_toNat]
 simp
theorem qcu (x:BitVec 32):IntKind.u32.wrap (x.toNat:Int)=(x.toNat:Int):=by
 rw [qdc,Nat.mod_eq_of_lt x.isLt]
section
variable {E : Env} {rd : Option Nat} {N : Nat} {ops : Array Oper} {K : AS → Prop} {s : AS} {rest : List Oper} {d : Option Tmp} {T : TypeId} {p : String} {af : Array Edge}
theorem qoq (x:BitVec 32):((x.toNat:Nat):Int)=0↔x=0#32:=by
 constructor
 ·intro h
  apply BitVec.eq_of_toNat_eq
  simpa using h
 ·rintro rfl
  rfl
theorem qa2 {x y:Operand} {t t':TypeId} {m n:Int} {a b:BitVec 32} (hx:qf N s x = .v (.int .u32 m)) (hy:qf N s y = .v (.int .u32 n)) (ha:BitVec.ofInt 32 m=a) (hb:BitVec.ofInt 32 n=b) (h:AOps E rd N ops rest K (s.put d (Wv (a ^^^ b)))):AOps E rd N ops (⟨d,.binOp .xor t x y t',T,p,af,none⟩::rest) K s:=
 q4b hx hy (by subst ha;subst hb;simp only [y3,IntKind.bits];rw [qcu];rfl) h
theorem qmn {x y:Operand} {t t':TypeId} {m n:Int} {a b:BitVec 32} (hx:qf N s x = .v (.int .u32 m)) (hy:qf N s y = .v (.int .u32 n)) (ha:BitVec.ofInt 32 m=a) (hb:BitVec.ofInt 32 n=b) (h:AOps E rd N ops rest K (s.put d (Wv (a &&& b)))):AOps E rd N ops (⟨d,.binOp .and t x y t',T,p,af,none⟩::rest) K s:=
 q35 hx hy (by subst ha;subst hb;simp only [y3,IntKind.bits];rw [qcu];rfl) h
theorem q01 {x y:Operand} {t t':TypeId} {m n:Int} {a b:BitVec 32} (hx:qf N s x = .v (.int .u32 m)) (hy:qf N s y = .v (.int .u32 n)) (ha:BitVec.ofInt 32 m=a) (hb:BitVec.ofInt 32 n=b) (h:AOps E rd N ops rest K (s.put d (Wv (a |||b)))):AOps E rd N ops (⟨d,.binOp .or t x y t',T,p,af,none⟩::rest) K s:=
 q63 hx hy (by subst ha;subst hb;simp only [y3,IntKind.bits];rw [qcu];rfl) h
theorem qew {x:Operand} {t:TypeId} {a:BitVec 32} (hx:qf N s x=Wv a) (h:AOps E rd N ops rest K (s.put d (Wv (~~~ a)))):AOps E rd N ops (⟨d,.unOp .xor t x,T,p,af,none⟩::rest) K s:=
 qyk hx (by
  simp only [y3,IntKind.bits,IntKind.signed,Bool.false_eq_true,if_false]
  rw [jh]
  have h1:BitVec.ofInt 32 IntKind.u32.max=BitVec.allOnes 32:=by decide
  have h2:BitVec.ofInt 32 IntKind.u32.max ^^^ a = ~~~ a:=by rw [h1,BitVec.xor_comm,BitVec.xor_allOnes]
  exact (congrArg (fun z:BitVec 32=>IntKind.u32.wrap (z.toNat:Int)) h2).trans (qcu _)) h
theorem qci {x y:Operand} {t t':TypeId} {yk:IntKind} {a:BitVec 32} {n:Nat} (hx:qf N s x=Wv a) (hy:qf N s y = .v (.int yk (n:Int))) (hn:Nat.ble n 32=true) (h:AOps E rd N ops rest K (s.put d (Wv (a <<< n)))):AOps E rd N ops (⟨d,.binOp .shl t x y t',T,p,af,none⟩::rest) K s:=
 q39 hx hy (by omega) (by
  have hn:=Nat.le_of_ble_eq_true hn
  have:min (n:Int).toNat IntKind.u32.bits=n:=by simp [IntKind.bits];omega
  rw [this]
  have e:(a.toNat:Int) * 2 ^ n=((a.toNat * 2 ^ n:Nat):Int):=by simp
  rw [e,qdc,BitVec.toNat_shiftLeft,Nat.shiftLeft_eq]) h
theorem qhd {x y:Operand} {t t':TypeId} {yk:IntKind} {a:BitVec 32} {n:Nat} (hx:qf N s x=Wv a) (hy:qf N s y = .v (.int yk (n:Int))) (hn:Nat.ble n 32=true) (h:AOps E rd N ops rest K (s.put d (Wv (a >>> n)))):AOps E rd N ops (⟨d,.binOp .shr t x y t',T,p,af,none⟩::rest) K s:=
 q4a hx hy (by omega) (by
  have hn:=Nat.le_of_ble_eq_true hn
  have:min (n:Int).toNat IntKind.u32.bits=n:=by simp [IntKind.bits];omega
  rw [this,BitVec.toNat_ushiftRight,Nat.shiftRight_eq_div_pow]
  have h0:(0:Int)≤2 ^ n:=by
   have:((2 ^ n:Nat):Int)=(2:Int) ^ n:=by simp
   rw [← this]
   exact Int.natCast_nonneg _
  rw [Int.fdiv_eq_ediv_of_nonneg _ h0]
  simp) h
theorem qgf {x y:Operand} {t e:TypeId} {len sz:Nat} {agg:Bool} {k:IntKind} {n:Nat} {cs:List AV} {r:AV} (hx:qf N s x = .ag cs) (hy:qf N s y = .v (.int k (n:Int))) (hu:E.P.underlying t=some (.array len e)) (ht:tyOf E.P e=some (sz,agg)) (hn:n<len) (hr:jp sz agg (n * sz) cs=some r)
  (h:AOps E rd N ops rest K (s.put d r)):AOps E rd N ops (⟨d,.index t x y,T,p,af,none⟩::rest) K s:=by
 refine qs rfl (qq nofun fun B0 w0 G a w _ hI=>?_)
 have he:=hI.eval_of hx
 have hey:=hI.evalv hy
 generalize hv:a.eval x=v at he
 cases he with
 |ag _ vs hl hrel=>
  obtain⟨i1,i2⟩:=jz ht w
  cases agg with
  |false=>
   simp only [jp,cond_false] at hr
   obtain⟨z,hz⟩:=kr hr (Nat.le_of_eq hl)
   refine⟨z,w,G,r,s.st,?_,.refl G,hI.agree,hrel _ r z hr hz,h⟩
   generalize a.eval = ρ at hv hey
   simp only [execOp,hv,hey]
   simp [Instr.index,asIntOf,run_underlying hu,hn,part,i1,i2,hz]
  |true=>
   simp only [jp,cond_true] at hr
   cases hb:Nat.ble (n * sz+sz) cs.length with
   |false=>rw [hb] at hr;simp at hr
   |true=>
    rw [hb] at hr
    simp only [cond_true,Option.some.injEq] at hr
    have hle:n * sz+sz≤cs.length:=Nat.le_of_ble_eq_true hb
    refine⟨.agg (vs.extract (n * sz) (n * sz+sz)),w,G,r,s.st,?_,.refl G,hI.agree,?_,h⟩
    ·generalize a.eval = ρ at hv hey
     simp only [execOp,hv,hey]
     simp [Instr.index,asIntOf,run_underlying hu,hn,part,i1,i2]
    ·subst hr
     refine .ag _ _ (by simp;omega) fun i x y h1 h2=>?_
     have hi:i<sz:=by have:=lt_of_getElem? h1;simp at this;omega
     simp [hi,List.getElem?_drop] at h1
     rw [Array.getElem?_extract] at h2
     split at h2
     ·exact hrel (n * sz+i) x y h1 h2
     ·simp at h2
theorem qak {x y:Operand} {t e:TypeId} {len sz:Nat} {agg:Bool} {k:IntKind} {n o ver off:Nat} (hx:qf N s x = .bx o ver off) (hy:qf N s y = .v (.int k (n:Int))) (hu:E.P.underlying t=some (.array len e)) (ht:tyOf E.P e=some (sz,agg)) (hn:n<len)
  (h:AOps E rd N ops rest K (s.put d (.bx o ver (off+n * sz)))):AOps E rd N ops (⟨d,.indexAddr t x y,T,p,af,none⟩::rest) K s:=by
 refine qs rfl (qq nofun fun B0 w0 G a w _ hI=>?_)
 have he:=hI.eval_of hx
 have hey:=hI.evalv hy
 generalize hv:a.eval x=v at he
 cases he with
 |bx _ _ _ b hn' hver hb=>
  refine⟨.pointer (some ⟨b,off+n * sz,none⟩),w,G,_,s.st,?_,.refl G,hI.agree,.bx o ver _ b hn' hver hb,h⟩
  generalize a.eval = ρ at hv hey
  simp only [execOp,hv,hey]
  simp [Instr.indexAt,asIntOf,run_underlying hu,Instr.sureAddr,hn,(jz ht w).1,Addr.add_lit]
theorem qms {x:Operand} {t t':TypeId} {k:IntKind} {n:Nat} {e:TypeDesc} (hx:qf N s x = .v (.int k (n:Int))) (hs:E.P.underlying t=some e) (hd:E.P.underlying t'=some (.int .u32)) (hn:n<4294967296)
  (h:AOps E rd N ops rest K (s.put d (Wv (BitVec.ofNat 32 n)))):AOps E rd N ops (⟨d,.convert t t' x,T,p,af,none⟩::rest) K s:=
 qmr hx hs hd (by rw [qdc,Nat.mod_eq_of_lt hn,BitVec.toNat_ofNat,Nat.mod_eq_of_lt hn]) h
theorem qox {x y:Operand} {t:TypeId} {sz:Nat} {agg:Bool} {st loc loc':List AObj} {k ver off:Nat} {T':TypeId} {cs xs:List AV} {r:AV} (hs:s.st=st++loc) (hx:qf N s x = .bx (st.length+k) ver off) (hy:qf N s y=r) (ho:loc[k]? = some (.cells ver T' cs)) (ht:tyOf E.P t=some (sz,agg))
  (hok:r.okc=true) (hc:r.cells=xs) (hsz:Nat.beq xs.length sz=true) (h1:jq xs=true) (hfit:off+sz≤cs.length) (hl:loc'=loc.set k (.cells ver T' (zh cs off xs)))
  (h:AOps E rd N ops rest K (AS.put ⟨s.t,st++loc',s.df⟩ d (.v undef))):AOps E rd N ops (⟨d,.store t x y,T,p,af,none⟩::rest) K s:=
 kp hs hx hy ho ht hok hc hsz h1 (Nat.ble_eq_true_of_le hfit) hl h
theorem q0b {cs:List AV} {off:Nat} {x:AV} (h:off<cs.length):zh cs off [x]=cs.set off x:=by
 rw [List.set_eq_take_append_cons_drop,if_pos h]
 simp [zh]
theorem qbc {t:Nat→AV} {L:List (Nat×AV)} {st st':List AObj} {df:List Nat} (h:HasL t L) (e:st'=st):StA L st df ⟨t,st',df⟩:=by
 subst e
 exact kz h
theorem qoz {fn:Func} {t:Tmp} {Ta:TypeId} {st loc:List AObj} {k1 v1 f1 sz1:Nat} {agg1:Bool} {T1:TypeId} {cs1:List AV} {r1:AV} (hr:fn.results = #[.cell t Ta]) (hs:s.st=st++loc)
  (hx1:qf fn.ntmps s (.tmp t) = .bx (st.length+k1) v1 f1) (ho1:loc[k1]? = some (.cells v1 T1 cs1)) (ht1:tyOf E.P Ta=some (sz1,agg1)) (hl1:jp sz1 agg1 f1 cs1=some r1):ARes E fn s r1:=by
 refine⟨fun B0 w0 G a w _ hI=>?_⟩
 obtain⟨b1,y1,e1,e2,e3⟩:=qwv hI hx1 (by rw [hs];exact xg ho1) ht1 hl1
 simp only [Act.eval,Array.getD_eq_getD_getElem?] at e1
 refine⟨y1,?_,e3⟩
 simp [results,hr,e1,asAddr,e2]
def qo0 (P:Program) (t:TypeId):Option Nat:=
 match P.underlying t with
 |some (.array _ e)=>match P.info? e with
  |some i=>some i.size
  |none=>none
 | _=>none
theorem qv5 {P:Program} {t:TypeId} {sz:Nat} (h:qo0 P t=some sz):∃ len e i,P.underlying t=some (.array len e)∧P.info? e=some i∧i.size=sz:=by
 unfold qo0 at h
 split at h
 ·rename_i len e hu
  split at h
  ·rename_i i hi
   simp only [Option.some.injEq] at h
   exact⟨len,e,i,hu,hi,h⟩
  ·simp at h
 ·simp at h
theorem qp8 {t:TypeId} {parts:Array (Nat×Operand)} {zs cs:List AV} {sz:Nat} (hz:qgc E.P t=some zs) (hp:qo0 E.P t=some sz) (hf:y7 (fun i=>some (i * sz,sz)) zs (j7 N s parts)=some cs)
  (h:AQ E N ops rest K (s.put d (.ag cs))):AQ E N ops (⟨d,.build t parts,T,p,af,none⟩::rest) K s:=by
 refine qbo rfl nofun fun B0 w0 G a w _ hI=>?_
 obtain⟨len,e,i,hu,hi,rfl⟩:=qv5 hp
 obtain⟨z,hrun,hr⟩:=qj3 hz w
 obtain⟨c',h1,h2⟩:=qe1 (fun k=>some (k * i.size,i.size)) (j7 N s parts) (parts.toList.map fun x=>(x.1,a.eval x.2)) zs z.cells cs (by simp [j7]) (qf7 hI parts) (hr G) hf
 have hz':∃ ti,E.P.info? t=some ti∧ti.zero=some z:=by
  unfold zeroValue at hrun
  simp [typeInfo] at hrun
  cases hti:E.P.info? t with
  |none=>simp [hti] at hrun
  |some ti=>
   simp [hti] at hrun
   cases htz:ti.zero with
   |none=>simp [htz] at hrun
   |some y=>simp [htz] at hrun;exact⟨ti,rfl,by rw [htz,hrun]⟩
 obtain⟨ti,g1,g2⟩:=hz'
 refine⟨.agg c',.ag cs,fun w' _=>?_,.ag _ _ h2.1 h2.2,h⟩
 generalize a.eval = ρ at h1
 simp [execOp,Instr.build,run_underlying hu,zeroValue,typeInfo,g1,g2,sizeOf,hi,h1]
theorem q04 {x y:Operand} {t:TypeId} {m:List UInt8} {k:IntKind} {n:Nat} (hx:qf N s x=Sv m) (hy:qf N s y = .v (.int k (n:Int))) (hu:E.P.underlying t=some .string) (h1:n<m.length)
  (h:AQ E N ops rest K (s.put d (Uv (m.getD n 0)))):AQ E N ops (⟨d,.index t x y,T,p,af,none⟩::rest) K s:=
 x9 _ rfl nofun (fun a w he=>by
  have hg:(⟨m.toArray⟩:ByteArray)[n]? = some (m.getD n 0):=by
   simp only [getElem?_def,xp,h1,dite_true,List.getD,Option.getD_some]
   rfl
  simp [execOp,Instr.index,he _ _ hx,he _ _ hy,asIntOf,run_underlying hu,hg]) h
theorem qs4 {x:Operand} {t t':TypeId} {k:IntKind} {n:Nat} {e:TypeDesc} (hx:qf N s x = .v (.int k (n:Int))) (hs:E.P.underlying t=some e) (hd:E.P.underlying t'=some (.int .u32)) (hn:n<4294967296)
  (h:AQ E N ops rest K (s.put d (Wv (BitVec.ofNat 32 n)))):AQ E N ops (⟨d,.convert t t' x,T,p,af,none⟩::rest) K s:=by
 have hr:IntKind.u32.wrap (n:Int)=(((BitVec.ofNat 32 n).toNat:Nat):Int):=by rw [qdc,Nat.mod_eq_of_lt hn,BitVec.toNat_ofNat,Nat.mod_eq_of_lt hn]
 exact x9 _ rfl nofun (fun a w he=>by rw [← hr];simp [execOp,he _ _ hx,convert,run_underlying hs,run_underlying hd,Conv.intToInt]) h
theorem qxh {x y:Operand} {t t':TypeId} {yk:IntKind} {c:UInt8} (hx:qf N s x=Uv c) (hy:qf N s y = .v (.int yk 4)) (h:AQ E N ops rest K (s.put d (.v (.int .u8 ((c.toNat / 16:Nat):Int))))):AQ E N ops (⟨d,.binOp .shr t x y t',T,p,af,none⟩::rest) K s:=
 x9 _ rfl nofun (fun a w he=>by
  have:(c.toNat:Int).fdiv (2 ^ (min (4:Int).toNat IntKind.u8.bits))=((c.toNat / 16:Nat):Int):=by
   rw [Int.fdiv_eq_ediv_of_nonneg _ (by decide)]
   simp [IntKind.bits]
  rw [← this]
  simp [execOp,he _ _ hx,he _ _ hy,eqGuard_at_int,binOp_shr,Op.shift]) h
theorem qs3 {x y:Operand} {t t':TypeId} {c:UInt8} (hx:qf N s x=Uv c) (hy:qf N s y = .v (.int .u8 15)) (h:AQ E N ops rest K (s.put d (.v (.int .u8 ((c.toNat % 16:Nat):Int))))):AQ E N ops (⟨d,.binOp .and t x y t',T,p,af,none⟩::rest) K s:=
 q9z hx hy (by
  simp only [y3,IntKind.bits]
  have h1:BitVec.ofInt 8 (c.toNat:Int)=c.toBitVec:=by rw [BitVec.ofInt_natCast];simp
  have h2:(BitVec.ofInt 8 (c.toNat:Int) &&& BitVec.ofInt 8 15).toNat=c.toNat % 16:=by
   rw [h1,BitVec.toNat_and]
   exact Nat.and_two_pow_sub_one_eq_mod c.toNat 4
  have h3:IntKind.u8.wrap ((c.toNat % 16:Nat):Int)=((c.toNat % 16:Nat):Int):=by
   simp [IntKind.wrap,IntKind.bits,IntKind.signed]
   omega
  exact (congrArg (fun z:Nat=>IntKind.u8.wrap (z:Int)) h2).trans h3) h
theorem and15_lt (x:BitVec 32):(x &&& BitVec.ofInt 32 15).toNat<16:=by
 rw [BitVec.toNat_and]
 exact Nat.lt_of_le_of_lt Nat.and_le_right (by decide)
theorem q02 {x y:Operand} {t t':TypeId} {k:IntKind} {m n:Nat} (hx:qf N s x = .v (.int k (m:Int))) (hy:qf N s y = .v (.int k (n:Int))) (hn:n≠0) (hf:k.wrap ((m / n:Nat):Int)=((m / n:Nat):Int))
  (h:AOps E rd N ops rest K (s.put d (.v (.int k ((m / n:Nat):Int))))):AOps E rd N ops (⟨d,.binOp .quo t x y t',T,p,af,none⟩::rest) K s:=
 qsz hx hy (by omega) (by rw [Int.tdiv_eq_ediv_of_nonneg (by omega),← Int.natCast_ediv];exact hf) h
theorem q9u {n:Nat} (h:n<4294967296):IntKind.u32.wrap (n:Int)=(n:Int):=by
 rw [qdc,Nat.mod_eq_of_lt h]
end
end Go.Av
namespace Go.Av
open Go Go.RowKit
section
variable {E : Env} {rd : Option Nat} {N : Nat} {ops : Array Oper} {K : AS → Prop} {s : AS} {rest : List Oper} {d : Option Tmp} {T : TypeId} {p : String} {af : Array Edge}
def qsg:TypeDesc→Bool
 | .interface _=>false
 | _=>true
def q0u (P:Program) (t:TypeId):Option Value:=match P.info? t with|some i=>i.zero|none=>none
theorem q33 {P:Program} {t:TypeId} {z:Value} (h:q0u P t=some z) (w:World):(zeroValue t).run P w = .ok z w:=by
 unfold q0u at h
 split at h
 ·rename_i i hi
  simp [zeroValue,typeInfo,hi,h]
 ·simp at h
theorem qcv {x:Operand} {xt t:TypeId} {D:TypeDesc} {y:AV} (hx:qf N s x = .ifc t y) (hu:E.P.underlying t=some D) (hn:qsg D=true)
  (h:AOps E rd N ops rest K (s.put d (.tu [y,Bv true]))):AOps E rd N ops (⟨d,.typeAssert x xt t true,T,p,af,none⟩::rest) K s:=by
 refine qs rfl (qq nofun fun B0 w0 G a w _ hI=>?_)
 have he:=hI.eval_of hx
 generalize hv:a.eval x=v at he
 cases he with
 |ifc _ _ z hz=>
  refine⟨.tuple #[z,.bool true],w,G,_,s.st,?_,.refl G,hI.agree,qkl hz (.v _),h⟩
  generalize a.eval = ρ at hv
  cases D <;> first|(simp [qsg] at hn;done)|simp [execOp,Instr.typeAssert,hv,run_underlying hu]
theorem qmp {x:Operand} {xt t u:TypeId} {D:TypeDesc} {y:AV} {z:Value} (hx:qf N s x = .ifc u y) (hu:E.P.underlying t=some D) (hn:qsg D=true) (hne:Nat.beq u t=false) (hz:q0u E.P t=some z)
  (h:AOps E rd N ops rest K (s.put d (.tu [.v z,Bv false]))):AOps E rd N ops (⟨d,.typeAssert x xt t true,T,p,af,none⟩::rest) K s:=by
 refine qs rfl (qq nofun fun B0 w0 G a w _ hI=>?_)
 have he:=hI.eval_of hx
 generalize hv:a.eval x=v at he
 have hne':u≠t:=fun e=>by subst e;simp at hne
 have hz':=q33 hz w
 cases he with
 |ifc _ _ q hq=>
  refine⟨.tuple #[z,.bool false],w,G,_,s.st,?_,.refl G,hI.agree,qkl (.v _) (.v _),h⟩
  generalize a.eval = ρ at hv
  cases D <;> first|(simp [qsg] at hn;done)|simp [execOp,Instr.typeAssert,hv,run_underlying hu,hne',hz']
end
end Go.Av
namespace Go.Proofs.YtejoahlpbckbeaaGreatDoor
open Go Go.Av Go.RowKit Go.Proofs
structure Laid (w:World):Prop where
 shaped:World.ShapedOpen Tryz.prog w
 ert:w.cell? ⟨1,0,none⟩=some (.iface 336 (.agg #[.pointer (some ⟨9,28,none⟩)]))
@[reducible] noncomputable def E : Env := ⟨Tryz.prog, fun B0 w0 => ∀ w, Below B0 w0 w → Laid w⟩
theorem qm8 (l m:List UInt8) (st:List AObj) (hl:l.length<4294967281):qn E 204 [Sv l,Sv m] st fun r st'=>r=Bv (Lib.contains l m)∧st'=st:=
 qa0 (vals:= #[.string ⟨l.toArray⟩,.string ⟨m.toArray⟩]) rfl fun _ _ w hL hb=>(Tryz.strings_Contains_shaped ⟨l.toArray⟩ ⟨m.toArray⟩ w (hL w hb).shaped (by simpa [ByteArray.size] using hl)).mono fun _ _ ⟨h1,h2⟩=>⟨h1,qgg h2⟩
theorem qwk (l m:List UInt8) (st:List AObj):qn E 125 [Sv l,Sv m] st fun r st'=>r=Bv (Lib.hasPrefix l m)∧st'=st:=
 qa0 (vals:= #[.string ⟨l.toArray⟩,.string ⟨m.toArray⟩]) rfl fun _ _ w _ _=>(Tryz.strings_HasPrefix ⟨l.toArray⟩ ⟨m.toArray⟩ w).mono fun _ _ ⟨h1,h2⟩=>⟨h1,qgg h2⟩
theorem qy5 (l m:List UInt8) (st:List AObj) (hl:l.length<4294967281):qn E 62 [Sv l,Sv m] st fun r st'=>r = .tu [Sv (Lib.cut l m).1,Sv (Lib.cut l m).2.1,Bv (Lib.cut l m).2.2]∧st'=st:=
 qkq (vals:= #[.string ⟨l.toArray⟩,.string ⟨m.toArray⟩]) (rs:= #[.string ⟨(Lib.cut l m).1.toArray⟩,.string ⟨(Lib.cut l m).2.1.toArray⟩,.bool (Lib.cut l m).2.2]) rfl fun _ _ w hL hb=>(Tryz.strings_Cut_shaped ⟨l.toArray⟩ ⟨m.toArray⟩ w (hL w hb).shaped (by simpa [ByteArray.size] using hl)).mono fun _ _ ⟨h1,n,h2⟩=>⟨h1,h2▸qv8 w n⟩
theorem q3w (l m:List UInt8) (st:List AObj) (hl:l.length≤9223372036854775807) (hm:m.length<4294967281) (ha:∀ (j:Nat) (b:UInt8),m[j]? = some b→b.toNat<128):qn E 205 [Sv l,Sv m] st fun r st'=>r=Sv (Lib.trimS l m)∧st'=st:=
 qa0 (vals:= #[.string ⟨l.toArray⟩,.string ⟨m.toArray⟩]) rfl fun _ _ w _ _=>(Any.strings_Trim_laid Tryz.lays160t (by kernel_rfl) ⟨l.toArray⟩ ⟨m.toArray⟩ w (by simpa [ByteArray.size] using hl) (by simpa [ByteArray.size] using hm) (by simpa using ha)).mono fun _ _ ⟨h1,h2⟩=>⟨h1,h2⟩
theorem q9r (l m:List UInt8) (st:List AObj) (hl:l.length≤9223372036854775807) (hm:Nat.blt m.length 4294967281=true) (ha:m.all (fun b=>Nat.blt b.toNat 128)=true):qn E 205 [Sv l,Sv m] st fun r st'=>r=Sv (Lib.trimS l m)∧st'=st:=
 q3w l m st hl (by simpa [Nat.blt_eq] using hm) fun j b h=>by
  have:=List.all_eq_true.1 ha b (List.mem_of_getElem? h)
  simpa [Nat.blt_eq] using this
end Go.Proofs.YtejoahlpbckbeaaGreatDoor
namespace Go.Av
open Go Go.RowKit Go.WideShapes Go.ChangeShapes
def G0:Gh:=⟨fun _=>none,fun _=>⟨0,0,0,false⟩,0⟩
theorem qvy (W:World):qw W.heap.size W G0 [] W:=
 ⟨Below.refl _ _,Nat.le_refl _,rfl,fun b vs h=>by simp [G0] at h,fun o x h=>by simp at h,fun o o' x x' _ h=>by simp at h⟩
theorem q29 (G:Gh) (vals:Array Value):RelL G (vals.toList.map .v) vals:=by
 refine⟨by simp,fun i x y hx hy=>?_⟩
 rw [List.getElem?_map] at hx
 rw [Array.getElem?_toList,hy] at hx
 simp at hx
 subst hx
 exact .v y
theorem qo6 {E:Env} {f:FuncId} {args:List AV} {vals:Array Value} {b:Bool} {W:World} (h:qn E f args [] fun r st'=>r=Bv b∧st'=[]) (hL:E.L W.heap.size W) (ha:args=vals.toList.map .v) :
  Calls E.P f vals W fun e w'=>e = .returned (.bool b)∧Below W.heap.size W w':=by
 subst ha
 refine (h.run W.heap.size W G0 vals W hL (qvy W) (q29 _ _)).mono ?_
 rintro e w' ⟨v,G',r,st',rfl,_,hA,hr,rfl,_⟩
 cases hr
 exact⟨rfl,hA.below⟩
section
variable {H : Type} {enc : TypeId × Value → H} {P : Program}
theorem qr1 {f:Func} {s:ChangeSpec} {qal fresh handsOn again:Bool} {W W':World} {args:Array Value} {v:Value} {ds gs:List (DataW H)} {before pa pv:List MemPlace}
  (hW:DataW.Whole enc P f.params.toList s.vars qal W args.toList ds gs before)
  (hres:∀ (b:Nat) (sp:Nat→Bool) (hd:Bool),DataW.TrodAll enc P W' b sp hd f.resultTypes.toList (v.resultList f.resultTypes.size) (s.fn H (ds++gs)).results [])
  (hargs:∀ sp:Nat→Bool,(∀ p∈before,sp p.block=true)→DataW.TrodAll enc P W' 0 sp true f.params.toList args.toList (s.fn H (ds++gs)).args pa)
  (hvars:∀ sp:Nat→Bool,(∀ p∈before,sp p.block=true)→DataW.TrodVars enc P W' sp s.vars (s.fn H (ds++gs)).vars pv)
  (hps:before=pa++pv) (hb:Below W.heap.size W W')
  (hok:∀ (j:Nat) (t:TypeId) (r:Value),f.resultTypes[j]? = some t→(v.resultList f.resultTypes.size)[j]? = some r→Value.okWide P W' .any 0 t r) :
  s.post enc P f qal fresh handsOn again W args v W':=by
 have hlt:∀ p∈before,p.block<W.heap.size:=fun p hp=>hW.lt p hp
 have hold:∀ p∈before,(fun b=>decide (b<W.heap.size)) p.block=true:=fun p hp=>by simpa using hlt p hp
 refine⟨ds,gs,before,[],pa,pv,hW,hres _ _ _,hargs _ hold,hvars _ hold,World.keptBut_mono (fun p hp=>⟨hp,?_⟩) (hb.frame (·∈before)),fun _=>?_⟩
 ·rw [hps,List.mem_append] at hp
  exact Or.inr hp
 ·obtain⟨_,_,_,_,_,hz,hn⟩:=hW
  refine⟨hok,_,_,([]++pa)++pv,⟨[]++pa,pv,trodAll_append (hargs _ (fun _ _=>rfl)) (hres _ _ _),hvars _ (fun _ _=>rfl),rfl,?_,?_⟩,?_⟩
  ·intro b off hp
   have hin:MemPlace.cell b off∈before:=by rw [hps];simpa using hp
   rw [hb.frozen (hlt _ hin)]
   exact hz b off hin
  ·intro ha
   have:=hn ha
   rw [hps] at this
   simpa using this
  ·intro p hp _
   rw [hps]
   simpa using hp
end
end Go.Av
namespace Go.Proofs.YtejoahlpbckbeaaGreatDoor
open Go Go.Av Go.RowKit
theorem zay:((List.range 395).filter fun t=>Tryz.prog.rowNamed t [101,114,114,111,114])=[28]:=by kernel_rfl
theorem zbt : (Tryz.prog.cutTypes.find? (·.1 == "internal/reflectlite.rtype")).map (·.2) = some 336 := by kernel_rfl
theorem zbu:Tryz.prog.types.size=395:=by kernel_rfl
theorem zbn:typeHandle Tryz.prog 28 = .pointer (some ⟨9,28,none⟩):=by kernel_rfl
theorem q6q : Tryz.prog.globalNamed "errors.errorType" = some 1 := by kernel_rfl
theorem qt9 {P:Program} {w0:World} {laid:List (String×DataW Unit)} (args:Array Value) (hf:w0.layFits P laid []=true) (hi:w0.layIfaces P laid (w0.layVars P laid)=true) :
  laidMet P laid ((w0.layVars P laid).forCall (fun _ _=>0) ⟨#[],args,[]⟩).memory:=by
 have e1:(laid.filter fun x=>(laid.map Prod.fst).contains x.1)=laid:=List.filter_eq_self.2 fun x hx=>List.contains_iff_mem.2 (List.mem_map_of_mem hx)
 have e2:(laid.filter fun x=> !(laid.map Prod.fst).contains x.1)=[]:=List.filter_eq_nil_iff.2 fun x hx=>by
  rw [List.contains_iff_mem.2 (List.mem_map_of_mem (f:=Prod.fst) hx)]
  simp
 have h:laidMet P laid (w0.layVars P laid):=laidMet_layVars (w0:=w0) (laid.map Prod.fst) [] (by rw [e1]) (by rw [e1];exact hf) (by rw [e1];exact hi) (by rw [e2];exact LaidIn.none)
 exact h.of_heap (by simp [World.memory,World.forCall,Input.heap])
noncomputable def zbk (os:Os):World:={ World.holding Tryz.prog os ⟨#[],#[],[]⟩ with heap:=(World.holding Tryz.prog os ⟨#[],#[],[]⟩).heap.modify 1 fun
 | .cells _ t fz=>.cells #[.iface 336 (.agg #[.pointer (some ⟨9,28,none⟩)])] t fz
 |o=>o }
theorem q8g {l:List (String×DataW Unit)} {W:World}
  (hp : (l.filter fun x => x.2.handleName?.isSome) = [("errors.errorType", Rows.laid_errors_errorType)] ∧ (l.all fun x => x.1 == "errors.errorType" || x.2.handleName?.isNone) = true)
  (hL:laidMetH Tryz.prog l W) (hs:W.ShapedOpen Tryz.prog)
  : E.L W.heap.size W:=by
 unfold laidMetH at hL
 rw [hp.1] at hL
 simp only at hL
 intro w hb
 obtain⟨hL,hH⟩:=hL
 obtain⟨name,u,ty,e1,e2,e3,e4,e5⟩:=hH _ (List.mem_singleton.2 rfl)
 have en:name=[101,114,114,111,114]:=(Option.some.inj e1).symm
 subst en
 obtain rfl:=Option.some.inj (zbt.symm.trans e2)
 have hm:ty∈(List.range 395).filter fun t=>Tryz.prog.rowNamed t [101,114,114,111,114]:=List.mem_filter.2 ⟨List.mem_range.2 (by rw [← zbu];exact e3),e4⟩
 rw [zay] at hm
 obtain rfl:=List.mem_singleton.1 hm
 rw [zbn] at e5
 have hv:=World.var?_cell q6q (Go.Joins.var_stays q6q e5 hb (Nat.le_refl _)) 0
 exact⟨hs.keptBut (hb.frame (fun _=>False)) (fun _ h=>h.elim),by simpa using hv⟩
end Go.Proofs.YtejoahlpbckbeaaGreatDoor
namespace Go.Pl
open Go
abbrev qc:=List UInt8
theorem qau (l:qc) (c:UInt8):0≤Lib.index l [c]↔c∈l:=by
 induction l with
 |nil=>simp [Lib.index]
 |cons b l ih=>
  have hge:=Lib.index_ge l [c]
  unfold Lib.index
  by_cases hb:c=b
  ·subst hb
   simp [List.isPrefixOf]
  ·have hp:([c]:qc).isPrefixOf (b::l)=false:=by simp [List.isPrefixOf,hb]
   rw [hp]
   by_cases hm:Lib.index l [c] = -1
   ·have:c∉l:=fun h=>by have:=ih.2 h;omega
    simp [hm,hb,this]
   ·have:c∈l:=ih.1 (by omega)
    simp [hm,this]
    omega
theorem qi2 (l:qc) (c:UInt8):Lib.contains l [c]=decide (c∈l):=by
 unfold Lib.contains
 by_cases h:c∈l
 ·simp [h,(qau l c).2 h]
 ·have:¬ 0≤Lib.index l [c]:=fun h'=>h ((qau l c).1 h')
  simp [h,this]
theorem qis (l:qc) (c:UInt8):Lib.hasPrefix l [c]=decide (l.head? = some c):=by
 cases l with
 |nil=>simp [Lib.hasPrefix]
 |cons b l=>
  by_cases h:c=b
  ·simp [Lib.hasPrefix,List.isPrefixOf,h]
  ·simp [Lib.hasPrefix,List.isPrefixOf,h,Ne.symm h]
def wm (c:UInt8):Prop:=c=32∨c=9
instance (c:UInt8):Decidable (wm c):=inferInstanceAs (Decidable (c=32∨c=9))
def qdl (l:qc):Prop:=∃ c,l.head? = some c∧wm c
instance (l:qc):Decidable (qdl l):=
 match l with
 | []=>.isFalse (by rintro⟨c,h,_⟩;simp at h)
 |c::r=>decidable_of_iff (wm c) ⟨fun h=>⟨c,rfl,h⟩,fun ⟨d,h,hd⟩=>by simp at h;subst h;exact hd⟩
def qa5 (l:qc):Prop:=l≠[]∧l.length≤32∧¬ qdl l∧¬ l.head? = some 35∧58∉l∧10∉l
instance (l:qc):Decidable (qa5 l):=inferInstanceAs (Decidable (_∧_∧_∧_∧_∧_))
theorem qo5 (c:UInt8) (l:qc):Lib.contains [32,9] [c]=decide (qdl (c::l)):=by
 rw [qi2]
 have:qdl (c::l)↔wm c:=⟨fun ⟨d,h,hd⟩=>by simp at h;subst h;exact hd,fun h=>⟨c,rfl,h⟩⟩
 simp [this,wm]
def upto (c:UInt8) (l:qc):qc:=l.takeWhile (·≠c)
def past (c:UInt8) (l:qc):qc:=l.drop ((upto c l).length+1)
theorem qnp (c:UInt8) (l:qc) (h:c∈l):Lib.index l [c]=((upto c l).length:Int):=by
 induction l with
 |nil=>simp at h
 |cons b l ih=>
  unfold Lib.index upto
  by_cases hb:b=c
  ·subst hb;simp [List.isPrefixOf]
  ·have hp:([c]:qc).isPrefixOf (b::l)=false:=by simp [List.isPrefixOf,Ne.symm hb]
   have hl:c∈l:=by simpa [Ne.symm hb] using h
   have e:=ih hl
   rw [hp]
   have:(Lib.index l [c] == -1)=false:=by rw [e];simp
   simp only [this]
   rw [e]
   simp [hb,upto]
theorem qgb (c:UInt8) (l:qc):l.take (upto c l).length=upto c l:=by
 induction l with
 |nil=>simp [upto]
 |cons b l ih=>
  by_cases hb:b=c
  ·simp [upto,hb]
  ·have:upto c (b::l)=b::upto c l:=by simp [upto,hb]
   rw [this]
   simp [ih]
theorem qda {c:UInt8} {l:qc} (h:c∉l):upto c l=l:=by
 induction l with
 |nil=>rfl
 |cons b l ih=>
  have hb:b≠c:=fun e=>h (by simp [e])
  have:upto c (b::l)=b::upto c l:=by simp [upto,hb]
  rw [this,ih (fun h'=>h (by simp [h']))]
theorem yw (c:UInt8) (l:qc):(upto c l).length≤l.length:=by
 have:=congrArg List.length (qgb c l)
 simp at this
 omega
theorem qhb {c:UInt8} {l:qc} (h:c∈l):(upto c l).length<l.length:=by
 induction l with
 |nil=>simp at h
 |cons b l ih=>
  by_cases hb:b=c
  ·simp [upto,hb]
  ·have:upto c (b::l)=b::upto c l:=by simp [upto,hb]
   rw [this]
   have:=ih (by simpa [Ne.symm hb] using h)
   simp
   omega
theorem xn (c:UInt8) (l:qc):(past c l).length=l.length - ((upto c l).length+1):=by simp [past]
theorem q7m (c:UInt8) (l:qc):Lib.cut l [c]=(upto c l,past c l,decide (c∈l)):=by
 unfold Lib.cut
 by_cases h:c∈l
 ·rw [if_pos ((qau l c).2 h),qnp c l h]
  simp [qgb,past,h]
 ·rw [if_neg (fun h'=>h ((qau l c).1 h'))]
  simp [qda h,past,h]
theorem x7 {c:UInt8} {l:qc} (h:l≠[]):(past c l).length<l.length:=by
 rw [xn]
 have:=List.length_pos_iff.2 h
 omega
def zj (l:qc):List (qc×Bool):=
 if h:l=[] then [] else (upto 10 l,decide (10∈l))::zj (past 10 l)
 termination_by l.length
 decreasing_by exact x7 h
theorem vg:zj []=[]:=by rw [zj];simp
theorem wq {l:qc} (h:l≠[]):zj l=(upto 10 l,decide (10∈l))::zj (past 10 l):=by rw [zj];simp [h]
def qeq (b:Bool):qc:=if b then [10] else []
def y6 (by' l:qc):qc×Bool:=
 if ∀ x∈zj l,by' <+: x.1 then ((zj l).flatMap fun x=>x.1.drop by'.length++qeq x.2,true) else ([],false)
theorem qrz (l m:qc):Lib.hasPrefix l m=true↔m <+: l:=by
 unfold Lib.hasPrefix
 exact List.isPrefixOf_iff_prefix
theorem qr3 {l m:qc} (h:m <+: l):Lib.trimPrefix l m=l.drop m.length:=by
 unfold Lib.trimPrefix
 rw [if_pos ((qrz l m).2 h)]
theorem qb1 {c:UInt8} {a:qc} (r:qc) (h:c∉a):upto c (a++c::r)=a:=by
 induction a with
 |nil=>simp [upto]
 |cons b a ih=>
  have hb:b≠c:=fun e=>h (by simp [e])
  have h2:c∉a:=fun e=>h (by simp [e])
  have e:upto c (b::(a++c::r))=b::upto c (a++c::r):=by simp [upto,hb]
  rw [List.cons_append,e,ih h2]
theorem qfe {c:UInt8} {a:qc} (r:qc) (h:c∉a):past c (a++c::r)=r:=by
 unfold past
 rw [qb1 r h,show a++c::r=(a++[c])++r by simp,show a.length+1=(a++[c]).length by simp,List.drop_left]
theorem qcf {c:UInt8} {l:qc} (h:c∈l):l=upto c l++c::past c l:=by
 induction l with
 |nil=>simp at h
 |cons b l ih=>
  by_cases hb:b=c
  ·subst hb;simp [upto,past]
  ·have h2:c∈l:=by simpa [Ne.symm hb] using h
   have e1:upto c (b::l)=b::upto c l:=by simp [upto,hb]
   have e2:past c (b::l)=past c l:=by simp [past,e1]
   rw [e1,e2,List.cons_append,← ih h2]
theorem qn5 (c:UInt8) (l:qc):c∉upto c l:=by
 induction l with
 |nil=>simp [upto]
 |cons b l ih=>
  by_cases hb:b=c
  ·simp [upto,hb]
  ·have e1:upto c (b::l)=b::upto c l:=by simp [upto,hb]
   rw [e1]
   simp [Ne.symm hb,ih]
def ji (l:qc):qc:=l.takeWhile (·≠58)
theorem qwo (l:qc) (h:58∈l):Lib.index l [58]=((ji l).length:Int):=by
 induction l with
 |nil=>simp at h
 |cons b l ih=>
  unfold Lib.index ji
  by_cases hb:b=58
  ·subst hb;simp [List.isPrefixOf]
  ·have hp:([58]:qc).isPrefixOf (b::l)=false:=by simp [List.isPrefixOf,Ne.symm hb]
   have hl:58∈l:=by simpa [Ne.symm hb] using h
   have e:=ih hl
   rw [hp]
   have:(Lib.index l [58] == -1)=false:=by rw [e];simp
   simp only [this]
   rw [e]
   simp [hb,ji]
theorem qvo (l:qc):l.take (ji l).length=ji l:=by
 induction l with
 |nil=>simp [ji]
 |cons b l ih=>
  by_cases hb:b=58
  ·simp [ji,hb]
  ·have:ji (b::l)=b::ji l:=by simp [ji,hb]
   rw [this]
   simp [ih]
def w7 (l:qc):qc:=l.drop ((ji l).length+1)
theorem qqh (l:qc):Lib.cut l [58]=if 58∈l then (ji l,w7 l,true) else (l,[],false):=by
 unfold Lib.cut
 by_cases h:58∈l
 ·rw [if_pos ((qau l 58).2 h),if_pos h,qwo l h]
  simp [qvo,w7]
 ·rw [if_neg (fun h'=>h ((qau l 58).1 h')),if_neg h]
def qm (l:qc):Int:=
 if 10∈l then 5 else if ∀ c∈l,wm c then 1 else if l.head? = some 35 then 2 else if qdl l then 3
 else if 58∈l∧qa5 (ji l) then 4 else 5
theorem qwq {l:qc} (h:10∉l) (hb:¬ ∀ c∈l,wm c):0<l.length∧qm l=if l.getD 0 0=35 then 2 else if wm (l.getD 0 0) then 3 else if 58∈l∧qa5 (ji l) then 4 else 5:=by
 cases l with
 |nil=>simp at hb
 |cons c l=>
  have e:qdl (c::l)↔wm c:=⟨fun ⟨d,h,hd⟩=>by simp at h;subst h;exact hd,fun h=>⟨c,rfl,h⟩⟩
  refine⟨by simp,?_⟩
  unfold qm
  rw [if_neg h,if_neg hb]
  simp [e]
theorem qiq {α : Type} (p : α→Bool) (l:List α):l.dropWhile p=[]↔∀ x∈l,p x=true:=by
 induction l with
 |nil=>simp
 |cons a l ih=>
  by_cases h:p a=true
  ·simp [h,ih]
  ·simp [h]
theorem q4q {α : Type} (p : α→Bool) (l:List α):(l.reverse.dropWhile p).reverse.dropWhile p=[]↔∀ x∈l,p x=true:=by
 rw [qiq]
 constructor
 ·intro h x hx
  by_cases hq:∀ y∈l,p y=true
  ·exact hq x hx
  ·have hr:¬ ∀ y∈l.reverse,p y=true:=fun h'=>hq fun y hy=>h' y (by simpa using hy)
   rw [← qiq] at hr
   obtain⟨a,r,hd⟩:=List.exists_cons_of_ne_nil hr
   have h1:=List.head?_dropWhile_not p l.reverse
   rw [hd] at h1
   have h2:=h a (by simp [hd])
   simp [h2] at h1
 ·intro h x hx
  exact h x (by
   have:=(List.dropWhile_sublist (l:=l.reverse) p).subset (by simpa using hx)
   simpa using this)
theorem qro (l m:qc):Lib.trimS l m=[]↔∀ c∈l,c∈m:=by
 unfold Lib.trimS Lib.trimLeftS Lib.trimRightS
 rw [q4q]
 simp
theorem qy6 (l m:qc):(Lib.cut l m).1.length≤l.length:=by
 unfold Lib.cut
 split
 ·simp;omega
 ·simp
def qde (l:qc):Prop:=2≤l.length∧l.length≤50000∧l.getLast? = some 10∧(y6 [32] l).2=true
instance (l:qc):Decidable (qde l):=inferInstanceAs (Decidable (_∧_∧_∧_))
def qse (n:Nat) (fig:qc):qc:=[37,97,109,101,110,100,32]++Lib.itoa n++[32]++fig++[10]
def qek (n:Nat):qc:=[37,101,110,100,32]++Lib.itoa n++[10]
theorem qo2 {l:qc} {v:Int} (h:Lib.atoiAll l = .ok v) : -9223372036854775808≤v∧v≤9223372036854775807:=by
 unfold Lib.atoiAll at h
 cases l with
 |nil=>simp at h
 |cons c r=>
  simp only at h
  split at h
  ·simp at h
  ·simp at h
  ·split at h
   ·simp at h
   ·split at h
    ·simp at h
    ·rename_i h1 h2
     simp only [Lib.NumEnd.ok.injEq] at h
     subst h
     by_cases hn:c.toNat=45
     ·simp only [hn,true_and,not_true,if_true] at *
      omega
     ·simp only [hn,not_false_iff,true_and,if_false] at *
      omega
def wt (l:qc):Nat:=
 match Lib.atoiAll l with
 | .ok v=>if Lib.itoa v=l∧1≤v∧v≤50000 then v.toNat else 0
 | _=>0
def kv:qc:=[37,97,109,101,110,100,32]
def hexL:qc:=[48,49,50,51,52,53,54,55,56,57,97,98,99,100,101,102]
def yt (l:qc):Prop:=∀ c∈l,c∈hexL
instance (l:qc):Decidable (yt l):=inferInstanceAs (Decidable (∀ c∈l,c∈hexL))
def wa (l:qc):Nat×qc×Bool:=
 (wt (upto 32 (Lib.trimPrefix l kv)),past 32 (Lib.trimPrefix l kv),
  decide (kv <+: l∧32∈Lib.trimPrefix l kv∧2≤wt (upto 32 (Lib.trimPrefix l kv))∧(past 32 (Lib.trimPrefix l kv)).length=8∧yt (past 32 (Lib.trimPrefix l kv))))
def qc2 (l:qc):Bool:=
 if kv <+: l then decide (¬ (32∈l.drop 7∧wt (upto 32 (l.drop 7))<2)∧¬ (upto 32 (l.drop 7)≠[]∧wt (upto 32 (l.drop 7))=0)∧(past 32 (l.drop 7)).length≤8∧yt (past 32 (l.drop 7)))
 else decide (l <+: kv)
theorem qzy {l:qc} {v:Int} (h:Lib.atoiAll l = .ok v):(wt l:Int)=if Lib.itoa v=l∧1≤v∧v≤50000 then v else 0:=by
 unfold wt
 rw [h]
 simp only
 split
 ·omega
 ·rfl
theorem qcq (l:qc):wt l≤50000:=by
 unfold wt
 split
 ·split
  ·omega
  ·omega
 ·omega
def q8j (n:Int):Int:=if n<2∨50000<n then 0 else (qse n.toNat [48,48,48,48,48,48,48,48]).length+n+(qek n.toNat).length
def qki (body:qc) (lack:Int):Int:=
 if (y6 [32] body).2=true∧¬ ((body=[]∨body.getLast? = some 10)∧lack<2) then 2 else 3
theorem qvm (n:Nat):(qek n).length=(Lib.itoa n).length+6:=by simp [qek] <;> omega
theorem qad {u:Nat} (h:¬ u<10):Lib.decDigits u=Lib.decDigits (u / 10)++Lib.decDigits (u % 10):=by
 rw [Lib.decDigits,dif_neg h,Lib.decDigits_one (Nat.mod_lt u (by omega))]
end Go.Pl
namespace Go.Pl
section
variable {α : Type} [DecidableEq α]
def kq (a b:List α):Nat→Nat→Nat
 | 0,j=>j
 |i+1,0=>i+1
 |i+1,j+1=>if a[i]? = b[j]? then kq a b i j else 1+min (min (kq a b i j) (kq a b i (j+1))) (kq a b (i+1) j)
theorem qj9 (a b:List α) (i j:Nat):kq a b (i+1) (j+1)=if a[i]? = b[j]? then kq a b i j else 1+min (min (kq a b i j) (kq a b i (j+1))) (kq a b (i+1) j):=by rw [kq]
theorem qft (a b:List α) (j:Nat):kq a b 0 j=j:=by rw [kq]
theorem qdm (a b:List α) (i:Nat):kq a b i 0=i:=by cases i <;> rw [kq]
theorem qi3 (a b:List α):∀ (n i j:Nat),i+j≤n→(kq a b (i+1) j≤kq a b i j+1∧kq a b i j≤kq a b (i+1) j+1)∧(kq a b i (j+1)≤kq a b i j+1∧kq a b i j≤kq a b i (j+1)+1)
 | 0,i,j,h=>by
  obtain⟨rfl,rfl⟩:i=0∧j=0:=by omega
  simp [qdm,qft]
 |n+1,i,j,h=>by
  refine⟨?_,?_⟩
  ·cases j with
   |zero=>simp only [qdm];omega
   |succ j=>
    obtain⟨⟨h1,h2⟩,h3,h4⟩:=qi3 a b n i j (by omega)
    rw [qj9]
    split <;> omega
  ·cases i with
   |zero=>simp only [qft];omega
   |succ i=>
    obtain⟨⟨h1,h2⟩,h3,h4⟩:=qi3 a b n i j (by omega)
    rw [qj9]
    split <;> omega
theorem qxk (a b:List α):∀ (i j:Nat),kq a b i j≤i+j
 | 0,j=>by rw [qft];omega
 |i+1,j=>by
  have:=qxk a b i j
  have:=(qi3 a b (i+j) i j (Nat.le_refl _)).1.1
  omega
def v6 (a b:List α) (i j:Nat):Int:=
 if 0<i∧0<j∧a[i - 1]? = b[j - 1]?∧kq a b (i - 1) (j - 1)=kq a b i j then 1
 else if 0<i∧0<j∧kq a b (i - 1) (j - 1)+1=kq a b i j then 2
 else if 0<i∧kq a b (i - 1) j+1=kq a b i j then 3 else 4
def wayB (a b:List α):Nat→Nat→Nat→List Int
 | 0,_,_=>[]
 |n+1,i,j=>if i=0∧j=0 then [] else
  v6 a b i j::wayB a b n (if v6 a b i j=4 then i else i - 1) (if v6 a b i j=3 then j else j - 1)
def wayF (a b:List α):List Int:=(wayB a b (a.length+b.length) a.length b.length).reverse
theorem qji (a b:List α) (i j:Nat) (h:v6 a b i j≠4):0<i:=by
 unfold v6 at h
 repeat' split at h
 all_goals first|omega|(exact absurd rfl h)
theorem qhs (a b:List α) (i j:Nat) (hj:¬ (i=0∧j=0)) (h:v6 a b i j≠3):0<j:=by
 unfold v6 at h
 have hn:j=0→0<i∧kq a b (i - 1) j+1=kq a b i j:=fun e=>by
  subst e
  simp only [qdm]
  omega
 refine Nat.pos_of_ne_zero fun e=>h ?_
 subst e
 rw [if_neg (by omega),if_neg (by omega),if_pos (hn rfl)]
theorem qjj (a b:List α) (i j:Nat):v6 a b i j=1∨v6 a b i j=2∨v6 a b i j=3∨v6 a b i j=4:=by
 unfold v6
 repeat' split
 all_goals simp
end
end Go.Pl
namespace Go.Proofs.YtejoahlpbckbeaaGreatDoor
open Go Go.Av Go.RowKit Go.Proofs Go.Pl
theorem qky (l:List UInt8) (c:UInt8) (st:List AObj) (hl:l.length<4294967281):qn E 204 [Sv l,Sv [c]] st fun r st'=>r=Bv (decide (c∈l))∧st'=st:=by
 rw [← qi2];exact qm8 l [c] st hl
theorem qe7 (l:List UInt8) (c:UInt8) (st:List AObj):qn E 125 [Sv l,Sv [c]] st fun r st'=>r=Bv (decide (l.head? = some c))∧st'=st:=by
 rw [← qis];exact qwk l [c] st
theorem qxi (l:List UInt8) (st:List AObj):qn E 206 [Sv l] st fun r st'=>r=Bv (decide (qdl l))∧st'=st:=by
 refine zz (q8 _) (qx Tryz.func206 rfl (Nat.le_of_ble_eq_true rfl) ?_)
 cases l with
 |nil=>
  repeat' (first|apply qt|apply qj|apply qi|apply ql|apply qk|(apply xa;(iterate 3 exact rfl))|(apply jr;(iterate 4 exact rfl))|(apply qf0;exact cRa)|(apply zf;exact rfl;apply pk_f;exact cRa)|apply zi)
  refine qv rfl (zw rfl) ⟨congrArg Bv (?_:_=_),_,rfl⟩
  simp [qdl]
 |cons c l=>
  have hne:¬ (c::l)=[]:=by simp
  repeat' (first|apply qt|apply qj|apply qi|apply ql|apply qk|(apply xa;(iterate 3 exact rfl))|(apply jr;(iterate 4 exact rfl))|(apply qe6;exact cAo)|(apply zf;exact rfl;apply qkj;exact cAo)|apply zi|refine qbd rfl rfl rfl ⟨_,rfl⟩ (by omega) (by omega) (by simp;omega) ?_|(apply q5;exact Tryz.call204;exact qm8 _ _ _ (by simp)))
  refine qv rfl (zw rfl) ⟨congrArg Bv (?_:_=_),_,rfl⟩
  exact qo5 c l
theorem q6t (l:List UInt8) (st:List AObj) (hl:l.length<4294967281):qn E 207 [Sv l] st fun r st'=>r=Bv (decide (qa5 l))∧st'=st:=by
 refine zz (q8 _) (qx Tryz.func207 rfl (Nat.le_of_ble_eq_true rfl) ?_)
 repeat' (first|apply qt|apply qj|apply qi|apply ql|apply qk|(apply q7;(iterate 3 exact rfl))|(apply xa;(iterate 3 exact rfl))|(apply wx;exact rfl)|(apply jr;(iterate 4 exact rfl))|(apply qlu;exact cAo)|(apply qjb;exact cAo)|(apply qqu;exact cRa)|(apply qnl;exact cRa)|(apply qnm <;> intro h)|(apply qqw;exact cRa)|(apply qhn <;> intro h)|(apply zf;exact rfl;apply qkj;exact cAo)|(apply zf;exact rfl;apply qsj;exact cAo)|(apply zf;exact rfl;apply q6u;exact cRa)|(apply zf;exact rfl;apply qz6;exact cRa)|(apply zf;exact rfl;apply pk_t;exact cRa)|(apply qh;exact rfl;apply cd_t;exact cRa)|(apply qh;exact rfl;apply cd_d <;> intro h)|(apply yx;(iterate 3 exact rfl))|apply q9|apply zi|(apply q5;exact Tryz.call204;exact qky _ _ _ hl)|(apply q5;exact Tryz.call125;exact qe7 _ _ _)|(apply q5;exact Tryz.call206;exact qxi _ _))
 all_goals refine qv rfl (zw rfl) ⟨congrArg Bv (?_:_=_),_,rfl⟩
 all_goals simp [qa5, *]
 all_goals omega
theorem qjf (l:List UInt8) (st:List AObj) (hl:l.length<4294967281):qn E 161 [Sv l] st fun r st'=>r=Iv (qm l)∧st'=st:=by
 refine zz (q8 _) (qx Tryz.func161 rfl (Nat.le_of_ble_eq_true rfl) ?_)
 repeat' (first|apply qt|apply za|apply qj|apply qi|apply ql|apply qk|(apply vl;exact rfl;exact rfl)|(apply xa;(iterate 3 exact rfl))|(apply jr;(iterate 4 exact rfl))|(apply qhm;exact cRa)|(apply qf0;exact cRa)|(apply qt1 <;> intro h)|(apply zf;exact rfl;apply pk_t;exact cRa)|(apply zf;exact rfl;apply pk_f;exact cRa)|(apply qh;exact rfl;apply cd_f;exact cRa)|(apply qh;exact rfl;apply cd_d <;> intro h)|apply q9|apply zi|(apply q5;exact Tryz.call204;exact qky _ _ _ hl)|(apply q5;exact Tryz.call205;exact q3w _ _ _ (by omega) (by simp) (by intro j b h;match j with | 0=>simp at h;subst h;decide | 1=>simp at h;subst h;decide|j+2=>simp at h))|(apply q5;exact Tryz.call125;exact qe7 _ _ _)|(apply q5;exact Tryz.call206;exact qxi _ _)|(apply q5;exact Tryz.call62;exact qy5 _ _ _ hl)|(apply q5;exact Tryz.call207;exact q6t _ _ (Nat.lt_of_le_of_lt (qy6 _ _) hl)))
 all_goals refine qv rfl (zw rfl) ⟨congrArg Iv (?_:_=_),_,rfl⟩
 all_goals have hb:Lib.trimS l [32,9]=[]↔∀ c∈l,wm c:=by rw [qro];simp [wm]
 all_goals by_cases hA:∀ c∈l,wm c <;> by_cases hC:58∈l <;> by_cases hK:qa5 (ji l) <;> simp_all [qm,qqh]
end Go.Proofs.YtejoahlpbckbeaaGreatDoor
namespace Go.Proofs
open Go.Shelf Go.RowKit
variable {P : Program} {ρ : Ren}
set_option maxHeartbeats 4000000 in
theorem qm6 (L:Lays.n169 P ρ) (X:Builder.Extra P ρ) (b n c:Nat) (ad:Option Addr) (q:Value) (str:ByteArray) (w w2:World) (c1:w.drew.cell? ⟨b,1,none⟩=some (.slice ad n c))
  (hSD:(Builtin.unsafeSliceData_ #[(ρ.t 37)] (ρ.t 127) #[.slice ad n c]).run P w.drew = .ok q w.drew)
  (hUS:(Builtin.unsafeString_ #[(ρ.t 127),(ρ.t 3)] (ρ.t 9) #[q,.int .i64 n]).run P w.drew = .ok (.string str) w2) :
  Calls P (ρ.f 169) #[.pointer (some ⟨b,0,none⟩)] w fun e w'=>e = .returned (.string str)∧w'=w2:=by
 have mixed:=L.mixed
 have t72:=L.t72;have a72:=L.a72;have z72:=L.z72;have v72:=L.v72;have u72:=run_underlying L.t72
 have t70:=L.t70;have a70:=L.a70;have z70:=L.z70;have v70:=L.v70;have u70:=run_underlying L.t70
 have t37:=L.t37;have a37:=L.a37;have z37:=L.z37;have v37:=L.v37;have u37:=run_underlying L.t37
 have t127:=L.t127;have a127:=L.a127;have z127:=L.z127;have v127:=L.v127;have u127:=run_underlying L.t127
 have t3:=L.t3;have a3:=L.a3;have z3:=L.z3;have v3:=L.v3;have u3:=run_underlying L.t3
 have t9:=L.t9;have a9:=L.a9;have z9:=L.z9;have v9:=L.v9;have u9:=run_underlying L.t9
 have t5:=X.t5;have a5:=X.a5;have z5:=X.z5;have v5:=X.v5;have u5:=run_underlying X.t5
 go_enter L.f169,Body.n169_ntmps ρ
 go_wp2
 go_region_o
 all_goals (go_wp2;go_ret;exact⟨rfl,rfl⟩)
end Go.Proofs
namespace Go.Proofs.YtejoahlpbckbeaaGreatDoor
open Go Go.Av Go.RowKit Go.Proofs
@[reducible] def bldO (ver : Nat) (q : AV) (l : List UInt8) (tp : Nat) : AObj := .cells ver 136 [q, .sl 1 (l.map Uv) (some tp)]
theorem qug (v:Value) (w:World):(callFunc 176 #[v]).run E.P w = .ok (.value v) w:=by
 have h:=run_callFunc_extern (P:=E.P) Tryz.func176 (by kernel_rfl) (by kernel_rfl) (by kernel_rfl) (e:=Extern.AbiNoEscape.same) (by kernel_rfl) #[v] w
 rw [h,Lib.run_noEscape]
 rfl
theorem q7h (o ver:Nat) (q buf:AV) (st:List AObj) (ho:st[o]? = some (.cells ver 136 [q,buf])) (hq:q = .v (.pointer none)∨q = .bx o ver 0) :
  qn E 120 [.bx o ver 0] st fun r st'=>r = .tu []∧st'=st.set o (.cells ver 136 [.bx o ver 0,buf]):=by
 have ho':(st++[])[o]? = some (.cells ver 136 [q,buf]):=by rw [List.append_nil];exact ho
 refine qx Tryz.func120 rfl (Nat.le_of_ble_eq_true rfl) ?_
 rcases hq with rfl|rfl
 ·skip
  repeat' (first|apply qt|apply qj|apply qi|apply ql|(apply qh;exact rfl;apply cd_t;exact cRa)|(apply jg;(iterate 3 exact rfl))|(apply wc;exact rfl;exact rfl)|(apply x5;(iterate 3 exact rfl))|(apply ko;exact rfl;exact ho';exact rfl;exact rfl)|(apply qac;exact rfl;exact rfl;exact ho';(iterate 6 exact rfl))|(apply qrv;exact rfl;exact ho';(simp);exact rfl;exact rfl;kernel_rfl)|(apply qmt;exact rfl;exact ho';(iterate 3 exact rfl);kernel_rfl)|(apply qrt;exact qug;exact rfl))
  refine qv rfl (qas rfl) ⟨rfl,?_⟩
  show (st++[]).set o _=_
  rw [List.append_nil]
  rfl
 ·skip
  repeat' (first|apply qt|apply qj|apply qi|apply ql|(apply qh;exact rfl;apply cd_f;exact cRa)|(apply jg;(iterate 3 exact rfl))|(apply wc;exact rfl;exact rfl)|(apply x5;(iterate 3 exact rfl))|apply q9|(apply ko;exact rfl;exact ho';exact rfl;exact rfl)|(apply qov;exact rfl;exact rfl;exact ho';exact rfl;exact rfl))
  refine qv rfl (qas rfl) ⟨rfl,?_⟩
  show st++[]=_
  rw [List.append_nil,q54 ho]
theorem q7z:wh E.P 5 1 1:=⟨_,_,rfl,rfl,rfl,rfl,rfl⟩
theorem q4f (o ver tp:Nat) (q:AV) (l m:List UInt8) (st:List AObj) (ho:st[o]? = some (bldO ver q l tp)) (ht:st[tp]? = some (.tip l.length 1 5)) (hq:q = .v (.pointer none)∨q = .bx o ver 0) (hlen:l.length+m.length≤140737488355328) :
  qn E 71 [.bx o ver 0,Sv m] st fun r st'=>r = .tu [Iv m.length,.v .nilIface]∧st'=(st.set o (bldO ver (.bx o ver 0) (l++m) tp)).set tp (.tip (l.length+m.length) 1 5):=by
 have hne:tp≠o:=fun e=>by rw [e,ho] at ht;simp at ht
 have ho':(st++[])[o]? = some (bldO ver q l tp):=by rw [List.append_nil];exact ho
 have ht':(st++[])[tp]? = some (.tip l.length 1 5):=by rw [List.append_nil];exact ht
 have h2:=jy (y:=.cells ver 136 [.bx o ver 0,.sl 1 (l.map Uv) (some tp)]) ho'
 have h3:=vb (y:=.cells ver 136 [.bx o ver 0,.sl 1 (l.map Uv) (some tp)]) ht' (Ne.symm hne)
 have h4:=vb (y:=.tip (l.length+m.length) 1 5) h2 hne
 have h5:maxLen=140737488351232∨True:=.inr trivial
 refine qx Tryz.func71 rfl (Nat.le_of_ble_eq_true rfl) ?_
 repeat' (first|apply qt|apply qj|apply qi|apply ql|apply qk|(apply yx;(iterate 3 exact rfl))|(apply jg;(iterate 3 exact rfl))|(apply wc;exact rfl;exact rfl)|apply zi|(apply q5;exact Tryz.call120;exact q7h o ver q _ (st++[]) ho' hq)|(apply ko;exact rfl;exact h2;exact rfl;exact rfl)|(apply qsu;exact rfl;exact rfl;exact h3;(simp);exact rfl;exact rfl;exact q7z;(simp only [maxLen];omega);omega)|(apply qac;exact rfl;exact rfl;exact h4;(iterate 6 exact rfl)))
 refine qv rfl (qey rfl) ⟨rfl,?_⟩
 show (((st++[]).set o _).set tp _).set o (.cells ver 136 [.bx o ver 0,.sl 1 (l.map Uv++m.map Uv) (some tp)])=_
 rw [List.append_nil,List.set_comm _ _ hne,List.set_set,← List.map_append]
theorem q1d (o ver tp:Nat) (q:AV) (l:List UInt8) (st:List AObj) (ho:st[o]? = some (bldO ver q l tp)) (ht:st[tp]? = some (.tip l.length 1 5)) :
  qn E 74 [.bx o ver 0] st fun r st'=>r=Sv l∧st'=st.set tp .dead:=by
 refine⟨fun B0 w0 G vals w hL hA hR=>?_⟩
 obtain⟨h0,h1,h2,h3,c,h4,h5,h6⟩:=hA.ob o _ ho
 obtain⟨g0,g1,g2⟩:=hA.ob tp _ ht
 have hne:tp≠o:=fun e=>by rw [e,ho] at ht;simp at ht
 have hvals:vals = #[.pointer (some ⟨(G.ob o).blk,0,none⟩)]:=by
  have hs:vals.size=1:=by have:=hR.1;simpa using this.symm
  have h:=hR.2 0 (.bx o ver 0) vals[0] rfl (by simp [hs])
  apply Array.ext
  ·simp [hs]
  ·intro i hi1 hi2
   have:i=0:=by simp at hi2;omega
   subst this
   have e:vals[0] = .pointer (some ⟨(G.ob o).blk,0,none⟩):=by
    generalize vals[0]=v at h
    cases h with
    |bx _ _ _ b hn e1 e2=>rw [e2 h1]
   simpa using e
 subst hvals
 have hc2:c.size=2:=by rw [← h5];rfl
 have hrel:=h6 1 (.sl 1 (l.map Uv) (some tp)) c[1] rfl (by simp [hc2])
 have hcell:w.drew.cell? ⟨(G.ob o).blk,1,none⟩=some c[1]:=by
  have h4':w.drew.heap[(G.ob o).blk]? = some (.cells c 136 (0,0)):=h4
  simp [World.cell?,h4',hc2]
 generalize hv:c[1]=v at hrel hcell
 have hdrew:Below w.heap.size w w.drew:=⟨rfl,rfl,rfl,Nat.le_refl _,fun _ _=>rfl⟩
 have hA1:=(hA.kill tp).fresh hdrew
 have hl:(l.map Uv).length=l.length:=by simp
 generalize hxs:l.map Uv=xs at hrel
 cases hrel with
 |sl0 _ _ base cap hto=>
  obtain⟨_,rfl,rfl⟩:=hto tp rfl
  have hl0:l=[]:=by simpa using hxs
  subst hl0
  refine (qm6 Tryz.lays169 Tryz.Builder_Extra_169 (G.ob o).blk 0 0 none (.pointer none) .empty w w.drew hcell rfl (Lib.run_unsafeString_none w.drew _ _ _ none)).mono ?_
  rintro e w' ⟨rfl,rfl⟩
  exact⟨_,G,Sv [],_,rfl,.refl G,hA1,.v _,rfl,rfl⟩
 |sl _ _ _ b off cap pub hp hw hlen hr hto hcap0=>
  subst hxs
  rw [hl] at hto hcell
  obtain⟨_,hn0,_,hcur⟩:=hto tp rfl
  obtain⟨hb,rfl,hcp,hcm,hcl⟩:=hcur g1
  obtain⟨hB,c2,vs,e1,e2,e3,e4⟩:=g2 hn0
  rw [hb] at e1 e2 hB
  have hcells:∀ j x,l[j]? = some x→w.drew.cell? ((⟨b,0,none⟩:Addr).add j)=some (.int .u8 x.toNat):=fun j x hx=>by
   obtain⟨c3,T3,fz3,k1,k2⟩:=hA.pub b pub hp
   have k1':w.drew.heap[b]? = some (.cells c3 T3 fz3):=k1
   have hj:j<(flat (l.map Uv)).length:=by rw [qhj];simpa using lt_of_getElem? hx
   have hy:pub[0+j]? = some (pub[0+j]'(by omega)):=List.getElem?_eq_getElem (by omega)
   have hrj:=hr j (Uv x) _ (by rw [qhj];simp [hx]) hy
   have:pub[0+j]'(by omega) = .int .u8 x.toNat:=by
    generalize pub[0+j]'(by omega)=y at hrj
    cases hrj;rfl
   rw [this] at hy
   rw [Addr.add_lit]
   simp only [World.cell?,k1']
   simpa using k2 _ _ hy
  have hle:l.length≤c2.size:=by rw [e4,← hcp];omega
  have e1':w.drew.heap[b]? = some (.cells c2 5 (0,0)):=e1
  have hUS:=Lib.run_unsafeString_row (P:=E.P) w.drew 205 3 9 5 rfl (by kernel_rfl) b c2.size (by simp [World.shape?,e1']) l (by rintro rfl;exact hn0 rfl) hle (by simp only [maxLen] at hcm;omega) hcells
  have hSD:(Builtin.unsafeSliceData_ #[134] 205 #[.slice (some ⟨b,0,none⟩) l.length cap]).run E.P w.drew = .ok (.pointer (some ⟨b,0,none⟩)) w.drew:=Lib.run_unsafeSliceData_row _ _ _ _ _ _ (by omega)
  refine (qm6 Tryz.lays169 Tryz.Builder_Extra_169 (G.ob o).blk l.length cap (some ⟨b,0,none⟩) _ _ w _ hcell hSD hUS).mono ?_
  rintro e w' ⟨rfl,rfl⟩
  have hfz:∃ fz',(w.drew.freeze ⟨b,0,none⟩ l.length).heap[b]? = some (.cells c2 5 fz'):=by
   unfold World.freeze
   rw [if_neg hn0]
   simp [Array.getElem?_modify,e1']
  obtain⟨fz',hfz⟩:=hfz
  have hoth:∀ k,k≠b→(w.drew.freeze ⟨b,0,none⟩ l.length).heap[k]? = w.drew.heap[k]?:=fun k hk=>by
   unfold World.freeze
   rw [if_neg hn0]
   simp [Array.getElem?_modify,Ne.symm hk]
  refine⟨_,G,Sv l,_,rfl,.refl G,hA1.refroze e1' hfz hoth hB (by unfold World.freeze;rw [if_neg hn0];simp) (by unfold World.freeze;rw [if_neg hn0]) (by unfold World.freeze;rw [if_neg hn0]) (by unfold World.freeze;rw [if_neg hn0]) (fun k x hx hlv=>?_),.v _,rfl,rfl⟩
  rcases getElem?_set' _ _ _ _ _ hx with⟨_,e⟩ | ⟨k1,k2⟩
  ·subst e;exact hlv.elim
  ·have:=hA.sep k tp x _ k1 k2 ht hlv hn0
   rwa [hb] at this
end Go.Proofs.YtejoahlpbckbeaaGreatDoor
namespace Go.Proofs.YtejoahlpbckbeaaGreatDoor
open Go Go.Av Go.RowKit Go.Proofs Go.Pl
theorem q97 (l:List UInt8) (c:UInt8) (st:List AObj) (hl:l.length<4294967281):qn E 62 [Sv l,Sv [c]] st fun r st'=>r = .tu [Sv (upto c l),Sv (past c l),Bv (decide (c∈l))]∧st'=st:=by
 have:=qy5 l [c] st hl
 rw [q7m] at this
 exact this
@[reducible] def qsf (k : Nat) (text rest : List UInt8) : AV := .ag [Iv k, Iv ((text.length : Int) - rest.length), Sv (upto 10 rest), Bv (decide (10 ∈ rest))]
theorem q9f (text:List UInt8) (st st':List AObj) (n:Nat) (hn:st.length=n) (hst:st++[.cells 0 9 [Sv text]]=st'):qn E 104 [Sv text] st fun r st1=>r = .fn (.func 160) [] [.bx n 0 0]∧st1=st':=by
 subst hn
 subst hst
 refine qx Tryz.func104 rfl (Nat.le_of_ble_eq_true rfl) ?_
 repeat' (first|apply qt|apply qj|apply qi|apply qk|apply qdz|(apply qcw;(iterate 4 exact rfl))|apply zi)
 exact qv rfl (zw rfl) ⟨rfl,rfl⟩
def yc (x:BitVec 32):BitVec 32:=if x &&& 2147483648#32≠0#32 then (x <<< 1) ^^^ 79764919#32 else x <<< 1
def vk:Nat→BitVec 32→BitVec 32
 | 0,x=>x
 |n+1,x=>yc (vk n x)
theorem zbs (x:BitVec 32) (st:List AObj):qn E 198 [Wv x] st fun r st'=>r=Wv (vk 4 (x <<< 28))∧st'=st:=by
 refine zz (q8 _) (qx Tryz.func198 rfl (Nat.le_of_ble_eq_true rfl) ?_)
 repeat' (first|apply qt|apply za|apply qj|apply qi|apply ql|apply qk|(apply qci;(iterate 3 exact rfl)))
 refine vw (fun (k:Nat) s=>k≤4∧StA [(3,Wv (vk k (x <<< 28))),(6,Iv k)] (st++[]) [] s) (fun k=>4 - k) 0 ⟨by omega,kz ⟨rfl,rfl,trivial⟩⟩ ?_
 rintro k _ ⟨hk,t,rfl⟩
 repeat' (first|apply qt|apply za|apply qj|apply qi|apply ql|apply qk|(apply q7;(iterate 3 exact rfl))|(apply qh;exact rfl;apply cd_d <;> intro h)|(apply jj;exact rfl;exact rfl;exact zy (by omega) (by omega))|(apply qa2;exact rfl;exact rfl;(first|exact jh _|exact rfl);first|exact jh _|exact rfl)|(apply qmn;exact rfl;exact rfl;(first|exact jh _|exact rfl);first|exact jh _|exact rfl)|(apply qci;(iterate 3 exact rfl))|apply q9|apply vt|apply zi)
 ·refine⟨k+1,⟨by omega,kz ⟨?_,rfl,trivial⟩⟩,by omega⟩
  refine congrArg Wv (?_:_=yc _)
  unfold yc
  rw [if_pos (fun e=>by rename_i h;exact h ((qoq _).2 e))]
  rfl
 ·refine⟨k+1,⟨by omega,kz ⟨?_,rfl,trivial⟩⟩,by omega⟩
  refine congrArg Wv (?_:_=yc _)
  unfold yc
  rw [if_neg (fun e=>by rename_i h;exact h (fun h'=>e ((qoq _).1 h')))]
 ·have e:k=4:=by omega
  subst e
  exact qv rfl (zw rfl) ⟨rfl,_,rfl⟩
def rowT (i:Nat):BitVec 32:=vk 4 (BitVec.ofNat 32 i <<< 28)
def tabA (k:Nat):List AV:=(List.range 16).map fun i=>if i<k then Wv (rowT i) else .v (.int .u32 0)
theorem qw6 (k:Nat):(tabA k).length=16:=by simp [tabA]
theorem q3q {k:Nat} (h:k<16):(tabA k).set k (Wv (rowT k))=tabA (k+1):=by
 apply List.ext_getElem
 ·simp [tabA]
 ·intro i h1 h2
  simp only [tabA,List.length_map,List.length_range] at h2
  rw [List.getElem_set]
  by_cases e:k=i
  ·subst e
   simp [tabA]
  ·rw [if_neg e]
   simp only [tabA,List.getElem_map,List.getElem_range]
   by_cases hi:i<k
   ·rw [if_pos hi,if_pos (by omega)]
   ·rw [if_neg hi,if_neg (by omega)]
theorem q6b {i:Nat} (h:i<16):(tabA 16)[i]? = some (Wv (rowT i)):=by
 simp [tabA,h]
theorem za6 (st:List AObj):qn E 155 [] st fun r st'=>r = .ag (tabA 16)∧st'=st:=by
 refine zz (qpl (fun x hx=>?_)) (qx Tryz.func155 rfl (Nat.le_of_ble_eq_true rfl) ?_)
 ·simp only [tabA,List.mem_map] at hx
  obtain⟨i,_,rfl⟩:=hx
  split <;> exact q8 _
 repeat' (first|apply qt|apply za|apply qj|apply qi|apply ql|(apply vo;exact rfl;exact rfl))
 refine vw (fun (k:Nat) s=>k≤16∧StA [(0,.bx (st.length+0) 0 0),(2,Iv k)] (st++[.cells 0 226 (tabA k)]) [] s) (fun k=>16 - k) 0 ⟨by omega,qbc ⟨rfl,rfl,trivial⟩ (by show st++[AObj.cells 0 _ _]=_;rfl)⟩ ?_
 rintro k _ ⟨hk,t,rfl⟩
 have hlen:=qw6 k
 repeat' (first|apply qt|apply za|apply qj|apply qi|apply ql|apply qk|(apply q7;(iterate 3 exact rfl))|(apply qh;exact rfl;apply cd_d <;> intro h)|(apply jj;exact rfl;exact rfl;exact zy (by omega) (by omega))|(apply km;(iterate 5 exact rfl))|(apply qak;(iterate 4 exact rfl);first|assumption|omega|decide)|apply q9|apply vt|(apply q5;exact Tryz.call198;exact zbs _ _)|(apply qms;(iterate 3 exact rfl);omega)|(apply qox;(iterate 9 exact rfl);(show 0+k * 1+1≤_;omega);exact rfl))
 ·refine⟨k+1,⟨by omega,qbc ⟨rfl,rfl,trivial⟩ ?_⟩,by omega⟩
  show st++[AObj.cells 0 _ (zh (tabA k) (0+k * 1) [Wv (rowT k)])]=_
  rw [Nat.zero_add,Nat.mul_one,q0b (by omega),q3q (by omega)]
 ·have e:k=16:=by omega
  subst e
  repeat' (first|apply qi|(apply kp;(iterate 11 exact rfl))|apply zi)
  exact qv rfl (qoz rfl rfl rfl rfl rfl rfl) ⟨rfl,_,rfl⟩
def crcN (x:BitVec 32) (n:Nat):BitVec 32:=(x <<< 4) ^^^ rowT ((x >>> 28) ^^^ BitVec.ofNat 32 n).toNat
def crcP (x:BitVec 32) (c:UInt8):BitVec 32:=crcN (crcN x (c.toNat / 16)) (c.toNat % 16)
def addP (s:BitVec 32) (l:List UInt8):BitVec 32:= ~~~ (l.foldl crcP (~~~ s))
def qsk (y:BitVec 32) (c:UInt8):Nat→BitVec 32
 | 0=>y
 | 1=>crcN y (c.toNat / 16)
 | _=>crcP y c
theorem q2m (x:BitVec 32) {n:Nat} (h:n<16):((x >>> 28) ^^^ BitVec.ofNat 32 n).toNat<16:=by
 rw [BitVec.toNat_xor]
 refine Nat.xor_lt_two_pow (n:=4) ?_ ?_
 ·rw [BitVec.toNat_ushiftRight,Nat.shiftRight_eq_div_pow]
  have:=x.isLt
  omega
 ·rw [BitVec.toNat_ofNat]
  omega
theorem qvl {n:Nat} (h:n<16):jp 1 false (0+n * 1) (tabA 16)=some (Wv (rowT n)):=by
 rw [Nat.zero_add,Nat.mul_one]
 exact q6b h
theorem zbi (x:BitVec 32) (l:List UInt8) (st:List AObj) (hl:l.length<4294967281):qn E 100 [Wv x,Sv l] st fun r st'=>r=Wv (addP x l)∧st'=st:=by
 refine zz (q8 _) (qx Tryz.func100 rfl (Nat.le_of_ble_eq_true rfl) ?_)
 repeat' (first|apply qt|apply za|apply qj|apply qi|apply ql|apply qk|(apply yx;(iterate 3 exact rfl))|(apply vo;exact rfl;exact rfl)|(apply kp;(iterate 11 exact rfl))|(apply qew;exact rfl)|(apply q5;exact Tryz.call155;exact za6 _))
 refine vw (fun (k:Nat) s=>k≤l.length∧StA [(1,Sv l),(5,.bx (st.length+0) 0 0),(6,Wv ((l.take k).foldl crcP (~~~ x))),(14,Iv l.length),(15,Iv k)] (st++[.cells 0 226 (tabA 16)]) [] s) (fun k=>l.length - k) 0 ⟨by omega,qbc ⟨rfl,rfl,rfl,rfl,rfl,trivial⟩ (by show st++[AObj.cells 0 _ _]=_;rfl)⟩ ?_
 rintro k _ ⟨hk,t,rfl⟩
 generalize hx:(l.take k).foldl crcP (~~~ x)=y
 have hc:=UInt8.toNat_lt (l.getD k 0)
 repeat' (first|apply qt|apply za|apply qj|apply qi|apply ql|apply qk|(apply q7;(iterate 3 exact rfl))|(apply qh;exact rfl;apply cd_d <;> intro h)|(apply qew;exact rfl)|(apply q4d;exact rfl;kernel_rfl)|apply qs6|(apply q04;(iterate 3 exact rfl);exact cAs)|(apply qxh;exact rfl;exact rfl)|(apply qs3;exact rfl;exact rfl)|(apply qs4;(iterate 3 exact rfl);omega)|(apply qp8;(iterate 3 exact rfl))|apply qoy|apply q9|apply vt|apply zi)
 ·generalize hcc:l.getD k 0=c at *
  refine vw (fun (j:Nat) s=>j≤2∧StA [(1,Sv l),(5,.bx (st.length+0) 0 0),(6,Wv (qsk y c j)),(14,Iv l.length),(15,Iv k),(28,.ag [Wv (BitVec.ofNat 32 (c.toNat / 16)),Wv (BitVec.ofNat 32 (c.toNat % 16))]),(29,Iv j)] (st++[.cells 0 226 (tabA 16)]) [] s) (fun j=>2 - j) 0 ⟨by omega,qbc ⟨rfl,rfl,rfl,rfl,rfl,rfl,rfl,trivial⟩ rfl⟩ ?_
  rintro j _ ⟨hj,t2,rfl⟩
  have hj3:j=0∨j=1∨j=2:=by omega
  have hn1:=q2m (qsk y c j) (n:=c.toNat / 16) (by omega)
  have hn2:=q2m (qsk y c j) (n:=c.toNat % 16) (by omega)
  generalize hz:qsk y c j=z at hn1 hn2 ⊢
  rcases hj3 with rfl|rfl|rfl
  ·skip
   repeat' (first|apply qt|apply za|apply qj|apply qi|apply ql|apply qk|(apply q7;(iterate 3 exact rfl))|(apply qh;exact rfl;apply xk;exact cAo)|(apply jj;exact rfl;exact rfl;exact zy (by omega) (by omega))|(apply qa2;exact rfl;exact rfl;(first|exact jh _|exact rfl);first|exact jh _|exact rfl)|(apply qci;(iterate 3 exact rfl))|(apply qhd;(iterate 3 exact rfl))|(apply qgf;(iterate 4 exact rfl);(first|assumption|omega|decide);exact rfl)|(apply qak;(iterate 4 exact rfl);first|assumption|omega|decide)|apply q9|(apply km;(iterate 4 exact rfl);exact qvl hn1))
   subst hz
   exact⟨1,⟨by omega,qbc ⟨rfl,rfl,rfl,rfl,rfl,rfl,rfl,trivial⟩ rfl⟩,by omega⟩
  ·skip
   repeat' (first|apply qt|apply za|apply qj|apply qi|apply ql|apply qk|(apply q7;(iterate 3 exact rfl))|(apply qh;exact rfl;apply xk;exact cAo)|(apply jj;exact rfl;exact rfl;exact zy (by omega) (by omega))|(apply qa2;exact rfl;exact rfl;(first|exact jh _|exact rfl);first|exact jh _|exact rfl)|(apply qci;(iterate 3 exact rfl))|(apply qhd;(iterate 3 exact rfl))|(apply qgf;(iterate 4 exact rfl);(first|assumption|omega|decide);exact rfl)|(apply qak;(iterate 4 exact rfl);first|assumption|omega|decide)|apply q9|(apply km;(iterate 4 exact rfl);exact qvl hn2))
   subst hz
   exact⟨2,⟨by omega,qbc ⟨rfl,rfl,rfl,rfl,rfl,rfl,rfl,trivial⟩ rfl⟩,by omega⟩
  ·skip
   repeat' (first|apply qt|apply qj|apply qi|apply ql|(apply q7;(iterate 3 exact rfl))|(apply qh;exact rfl;apply y4;exact cAo)|(apply jj;exact rfl;exact rfl;exact zy (by omega) (by omega))|apply vt)
   subst hz
   refine⟨k+1,⟨by omega,qbc ⟨rfl,rfl,?_,rfl,rfl,trivial⟩ rfl⟩,by omega⟩
   refine congrArg Wv (?_:crcP y c=_)
   rw [qga (by omega),List.foldl_append,hx,hcc]
   rfl
 ·have e:k=l.length:=by omega
  subst e
  refine qv rfl (zw rfl) ⟨congrArg Wv (?_:_=_),_,rfl⟩
  unfold addP
  rw [← hx,List.take_length]
theorem qop (l:List UInt8) (st:List AObj) (hl:l.length<4294967281):qn E 53 [.sl 1 [Sv l] none] st fun r st'=>r=Wv (addP 0 l)∧st'=st:=by
 refine zz (q8 _) (qx Tryz.func53 rfl (Nat.le_of_ble_eq_true rfl) ?_)
 repeat' (first|apply qt|apply za|apply qj|apply qi|apply ql|apply qk|(apply jx;(iterate 4 exact rfl)))
 refine vw (fun (k:Nat) s=>k≤1∧StA [(3,Wv (if k=0 then 0 else addP 0 l)),(6,.sl 1 [Sv l] none),(7,Iv 1),(8,Iv k)] (st++[]) [] s) (fun k=>1 - k) 0 ⟨by omega,qbc ⟨rfl,rfl,rfl,rfl,trivial⟩ rfl⟩ ?_
 rintro k _ ⟨hk,t,rfl⟩
 have hk2:k=0∨k=1:=by omega
 rcases hk2 with rfl|rfl
 ·skip
  repeat' (first|apply qt|apply za|apply qj|apply qi|apply ql|apply qk|(apply q7;(iterate 3 exact rfl))|(apply qh;exact rfl;apply xk;exact cAo)|(apply jj;exact rfl;exact rfl;exact zy (by omega) (by omega))|(apply j9;(iterate 3 exact rfl))|apply q9|(apply vp;(iterate 4 exact rfl);exact (rfl:(0:Int)=((0:Nat):Int));exact rfl)|(apply q5;exact Tryz.call100;exact zbi 0 _ _ hl))
  exact⟨1,⟨by omega,qbc ⟨rfl,rfl,rfl,rfl,trivial⟩ rfl⟩,by omega⟩
 ·skip
  repeat' (first|apply qt|apply qj|apply qi|apply ql|apply qk|(apply q7;(iterate 3 exact rfl))|(apply qh;exact rfl;apply y4;exact cAo)|apply vt|apply zi)
  exact qv rfl (zw rfl) ⟨rfl,_,rfl⟩
def figP (s:BitVec 32) (j:Nat):UInt8:=[48,49,50,51,52,53,54,55,56,57,97,98,99,100,101,102].getD ((s >>> (4 * (7 - j))) &&& BitVec.ofInt 32 15).toNat 0
def qzg (s:BitVec 32) (n:Nat):List UInt8:=(List.range n).map (figP s)
def sumF (l:List UInt8):List UInt8:=qzg (addP 0 l) 8
def qxj (rest body sums:List UInt8) (size:Int):Int×List UInt8×Int:=
 if rest.length<(qek body.length).length∧rest <+: qek body.length then (2,[],0)
 else if qek body.length <+: rest∧sums=sumF body then (1,body,size) else (3,[],0)
def xl (l:List UInt8):Int×List UInt8×Int:=
 if 10∈l then
  if (wa (upto 10 l)).2.2=true then
   if (past 10 l).length<(wa (upto 10 l)).1 then (qki (past 10 l) ((wa (upto 10 l)).1 - (past 10 l).length),[],0)
   else if qde ((past 10 l).take (wa (upto 10 l)).1) then qxj ((past 10 l).drop (wa (upto 10 l)).1) ((past 10 l).take (wa (upto 10 l)).1) (wa (upto 10 l)).2.1 (q8j (wa (upto 10 l)).1)
   else (3,[],0)
  else (3,[],0)
 else if qc2 l=true then (2,[],0) else (3,[],0)
def recF (l:List UInt8):List UInt8:=qse l.length (sumF l)++l++qek l.length
def qnq (c:UInt8):Bool:=decide (48≤c.toNat∧c.toNat≤57)
end Go.Proofs.YtejoahlpbckbeaaGreatDoor
namespace Go.Pl
open Go
theorem v4:∀ (n u:Nat),u≤n→∀ c∈Lib.decDigits u,48≤c.toNat∧c.toNat≤57
 |n,u,hn,c,hc=>by
  by_cases h:u<10
  ·rw [Lib.decDigits_one h] at hc
   simp only [List.mem_singleton] at hc
   subst hc
   rw [UInt8.toNat_ofNat']
   omega
  ·rw [qad h,List.mem_append] at hc
   cases n with
   |zero=>omega
   |succ n=>
    rcases hc with hc|hc
    ·exact v4 n (u / 10) (by omega) c hc
    ·exact v4 n (u % 10) (by omega) c hc
theorem qd1 (u:Nat):1≤(Lib.decDigits u).length:=by
 rw [Lib.decDigits_length]
 exact Lib.nDigits_pos u
theorem qhq {v:Int} (h:v<0):Lib.itoa v=45::Lib.decDigits v.natAbs:=by
 unfold Lib.itoa
 rw [if_pos h]
theorem qhr {v:Int} (h:0≤v):Lib.itoa v=Lib.decDigits v.toNat:=by
 unfold Lib.itoa
 rw [if_neg (by omega)]
theorem qra:∀ (a:Nat) (l m:qc) (b:Nat),Lib.parseUint10 a l = .ok b→Lib.parseUint10 a (l++m)=Lib.parseUint10 b m
 |a,[],m,b,h=>by
  simp only [Lib.parseUint10,Lib.NumEnd.ok.injEq] at h
  subst h;rfl
 |a,c::l,m,b,h=>by
  simp only [List.cons_append,Lib.parseUint10] at h ⊢
  split at h
  ·rename_i hd
   rw [if_pos hd]
   split at h
   ·cases h
   ·rename_i h1
    rw [if_neg h1]
    split at h
    ·cases h
    ·rename_i h2
     rw [if_neg h2]
     exact qra _ l m b h
  ·cases h
theorem qhy:∀ (n u:Nat),u≤n→u≤9223372036854775808→Lib.parseUint10 0 (Lib.decDigits u) = .ok u
 |n,u,hn,hu=>by
  have key:∀ (a d:Nat),a≤922337203685477580→d<10→Lib.parseUint10 a (Lib.decDigits d) = .ok (a * 10+d):=by
   intro a d ha hd
   have e:(UInt8.ofNat (48+d)).toNat=48+d:=by rw [UInt8.toNat_ofNat'];omega
   rw [Lib.decDigits_one hd]
   simp only [Lib.parseUint10,e]
   rw [if_pos (by omega),if_neg (by omega),if_neg (by omega)]
   congr 1
   omega
  by_cases h:u<10
  ·have:=key 0 u (by omega) h
   simpa using this
  ·cases n with
   |zero=>omega
   |succ n=>
    rw [qad h,qra 0 _ _ (u / 10) (qhy n (u / 10) (by omega) (by omega)),key _ _ (by omega) (by omega)]
    congr 1
    omega
theorem qyp {v:Int} (h1 : -9223372036854775808≤v) (h2:v≤9223372036854775807):Lib.atoiAll (Lib.itoa v) = .ok v:=by
 by_cases h:v<0
 ·have hp:=qhy v.natAbs v.natAbs (Nat.le_refl _) (by omega)
  rw [qhq h]
  have hm:Lib.parseMag (Lib.decDigits v.natAbs) = .ok v.natAbs:=by
   unfold Lib.parseMag
   rw [if_neg (fun e=>by have:=qd1 v.natAbs;rw [e] at this;simp at this)]
   exact hp
  have e45:(45:UInt8).toNat=45:=rfl
  simp only [Lib.atoiAll,e45]
  rw [if_pos (Or.inr trivial),hm]
  simp only [not_true,false_and,if_false,true_and]
  rw [if_neg (by omega)]
  simp only [if_true]
  congr 1
  omega
 ·have hp:=qhy v.toNat v.toNat (Nat.le_refl _) (by omega)
  have hd:=v4 v.toNat v.toNat (Nat.le_refl _)
  rw [qhr (by omega)]
  cases hl:Lib.decDigits v.toNat with
  |nil=>have:=qd1 v.toNat;rw [hl] at this;simp at this
  |cons c r=>
   rw [hl] at hp hd
   have hc:=hd c (by simp)
   simp only [Lib.atoiAll]
   have g1:¬ (c.toNat=43∨c.toNat=45):=by omega
   rw [if_neg g1]
   have hm:Lib.parseMag (c::r) = .ok v.toNat:=by unfold Lib.parseMag;rw [if_neg (by simp)];exact hp
   rw [hm]
   have g2:¬ c.toNat=45:=by omega
   simp only [g2,not_false_iff,true_and,false_and,if_false]
   rw [if_neg (by omega)]
   congr 1
   omega
def numZ (l:qc):Option Int:=
 match Lib.atoiAll l with
 | .ok v=>if Lib.itoa v=l then some v else none
 | _=>none
theorem q2n {v:Int} (h1 : -9223372036854775808≤v) (h2:v≤9223372036854775807):numZ (Lib.itoa v)=some v:=by
 unfold numZ
 rw [qyp h1 h2]
 simp
theorem q2o {l:qc} {v:Int} (h:numZ l=some v):l=Lib.itoa v∧-9223372036854775808≤v∧v≤9223372036854775807:=by
 unfold numZ at h
 split at h
 ·rename_i u hu
  split at h
  ·rename_i he
   simp only [Option.some.injEq] at h
   subst h
   exact⟨he.symm,qo2 hu⟩
  ·simp at h
 ·simp at h
end Go.Pl
namespace Go.Proofs.YtejoahlpbckbeaaGreatDoor
open Go Go.Av Go.RowKit Go.Proofs Go.Pl
theorem q2e {l:qc} {v:Int} (h:l=Lib.itoa v):(v<0→(l.getD 0 0).toNat=45∧l.drop 1=Lib.decDigits v.natAbs)∧(0≤v→(l.getD 0 0).toNat≠45∧l=Lib.decDigits v.toNat):=by
 subst h
 refine⟨fun h=>?_,fun h=>?_⟩
 ·rw [qhq h];exact⟨rfl,rfl⟩
 ·rw [qhr h]
  refine⟨?_,rfl⟩
  have hp:=qd1 v.toNat
  have hd:=v4 v.toNat v.toNat (Nat.le_refl _)
  cases hl:Lib.decDigits v.toNat with
  |nil=>rw [hl] at hp;simp at hp
  |cons c r=>
   rw [hl] at hd
   have:=hd c (by simp)
   simp
   omega
def sgn (l:qc):Nat:=if (l.getD 0 0).toNat=45 then 1 else 0
theorem qk7 {l:qc} {v:Int} (h:l=Lib.itoa v):l.drop (sgn l)=Lib.decDigits v.natAbs:=by
 obtain⟨h1,h2⟩:=q2e h
 unfold sgn
 by_cases hv:v<0
 ·obtain⟨a,b⟩:=h1 hv
  rw [if_pos a,b]
 ·obtain⟨a,b⟩:=h2 (by omega)
  rw [if_neg a,List.drop_zero,show v.natAbs=v.toNat by omega]
  exact b
theorem qsb (x:BitVec 32):x &&& 2147483648#32≠0#32↔x.toNat / 2147483648=1:=by
 have e:2147483648#32=BitVec.twoPow 32 31:=by decide
 have h:=x.isLt
 rw [e,BitVec.and_twoPow,BitVec.getLsbD,Nat.testBit_eq_decide_div_mod_eq]
 by_cases hb:x.toNat / 2 ^ 31 % 2=1
 ·simp only [hb,decide_true,if_true]
  constructor
  ·intro _;omega
  ·intro _;decide
 ·simp only [hb,decide_false]
  constructor
  ·intro h';exact absurd rfl h'
  ·intro h';omega
theorem qzu (x:BitVec 32):x.msb=true↔x.toNat / 2147483648=1:=by
 rw [BitVec.msb_eq_decide]
 have h:=x.isLt
 simp
 omega
theorem qfu (x:BitVec 32):yc x=(x <<< 1) ^^^ (if x.msb then 79764919#32 else 0#32):=by
 unfold yc
 by_cases h:x.msb=true
 ·rw [if_pos ((qsb x).2 ((qzu x).1 h)),if_pos h]
 ·rw [if_neg (fun h'=>h ((qzu x).2 ((qsb x).1 h'))),if_neg h,BitVec.xor_zero]
theorem qy4 (a b:BitVec 32):yc (a ^^^ b)=yc a ^^^ yc b:=by
 rw [qfu,qfu,qfu,BitVec.msb_xor,BitVec.shiftLeft_xor_distrib]
 cases a.msb <;> cases b.msb <;> simp only [Bool.xor_false,Bool.xor_true,Bool.not_true,Bool.not_false,Bool.false_eq_true,if_true,if_false,BitVec.xor_zero]
 ·rw [BitVec.xor_assoc]
 ·rw [BitVec.xor_assoc,BitVec.xor_comm (b <<< 1),BitVec.xor_assoc]
 ·rw [BitVec.xor_assoc (a <<< 1),BitVec.xor_comm 79764919#32,BitVec.xor_assoc (b <<< 1),BitVec.xor_self,BitVec.xor_zero]
theorem qkz (n:Nat) (a b:BitVec 32):vk n (a ^^^ b)=vk n a ^^^ vk n b:=by
 induction n with
 |zero=>rfl
 |succ n ih=>simp only [vk,ih,qy4]
theorem qgh:∀ (n:Nat) (x:BitVec 32),n≤31→x.toNat<2 ^ (32 - n)→vk n x=x <<< n
 | 0,x,_,_=>by simp [vk]
 |n+1,x,hn,h=>by
  have hp:2 ^ (32 - n)=2 * 2 ^ (32 - (n+1)):=by rw [show 32 - n=(32 - (n+1))+1 by omega,Nat.pow_succ,Nat.mul_comm]
  simp only [vk]
  rw [qgh n x (by omega) (by omega),qfu]
  have hm:(x <<< n).msb=false:=by
   cases hb:(x <<< n).msb with
   |false=>rfl
   |true=>
    have h1:=(qzu _).1 hb
    have h2:(x <<< n).toNat<2147483648:=by
     rw [BitVec.toNat_shiftLeft,Nat.shiftLeft_eq]
     refine Nat.lt_of_le_of_lt (Nat.mod_le _ _) ?_
     have h3:x.toNat * 2 ^ n<2 ^ (32 - (n+1)) * 2 ^ n:=Nat.mul_lt_mul_of_pos_right h (Nat.two_pow_pos n)
     rw [← Nat.pow_add,show 32 - (n+1)+n=31 by omega] at h3
     exact h3
    omega
  rw [hm]
  simp only [Bool.false_eq_true,if_false,BitVec.xor_zero]
  rw [← BitVec.shiftLeft_add]
theorem q9e (x:BitVec 32):x=((x >>> 28) <<< 28) ^^^ ((x.setWidth 28).setWidth 32):=by
 apply BitVec.eq_of_getLsbD_eq
 intro i hi
 simp only [BitVec.getLsbD_xor,BitVec.getLsbD_shiftLeft,BitVec.getLsbD_ushiftRight,BitVec.getLsbD_setWidth]
 by_cases h:i<28
 ·simp [h,hi]
 ·simp [h,hi,show 28+(i - 28)=i by omega]
theorem qqg (x:BitVec 32) (n:Nat):crcN x n=vk 4 (x ^^^ (BitVec.ofNat 32 n <<< 28)):=by
 have hl:((x.setWidth 28).setWidth 32).toNat<2 ^ (32 - 4):=by
  simp only [BitVec.toNat_setWidth]
  exact Nat.lt_of_le_of_lt (Nat.mod_le _ _) (Nat.mod_lt _ (by decide))
 have hs:((x.setWidth 28).setWidth 32) <<< 4=x <<< 4:=by
  apply BitVec.eq_of_getLsbD_eq
  intro i hi
  simp only [BitVec.getLsbD_shiftLeft,BitVec.getLsbD_setWidth]
  by_cases h:i<4
  ·simp [h]
  ·simp [h,hi,show i - 4<28 by omega,show i - 4<32 by omega]
 have e:x ^^^ (BitVec.ofNat 32 n <<< 28)=(((x >>> 28) ^^^ BitVec.ofNat 32 n) <<< 28) ^^^ ((x.setWidth 28).setWidth 32):=by
  rw [BitVec.shiftLeft_xor_distrib,BitVec.xor_assoc,BitVec.xor_comm (BitVec.ofNat 32 n <<< 28),← BitVec.xor_assoc,← q9e x]
 rw [e,qkz,qgh 4 _ (by omega) hl,hs,crcN,rowT,BitVec.ofNat_toNat,BitVec.setWidth_eq,BitVec.xor_comm]
theorem qwd (m n:Nat) (x:BitVec 32):vk (m+n) x=vk m (vk n x):=by
 induction m with
 |zero=>simp [vk]
 |succ m ih=>rw [Nat.succ_add];simp only [vk,ih]
theorem qwa (c:UInt8):BitVec.ofNat 32 c.toNat <<< 24=(BitVec.ofNat 32 (c.toNat / 16) <<< 28) ^^^ (BitVec.ofNat 32 (c.toNat % 16) <<< 24):=by
 have key:∀ n:Fin 256,BitVec.ofNat 32 n.val <<< 24=(BitVec.ofNat 32 (n.val / 16) <<< 28) ^^^ (BitVec.ofNat 32 (n.val % 16) <<< 24):=by decide +kernel
 exact key ⟨c.toNat,UInt8.toNat_lt c⟩
theorem q1r (x:BitVec 32) (c:UInt8):crcP x c=vk 8 (x ^^^ (BitVec.ofNat 32 c.toNat <<< 24)):=by
 have hl:(BitVec.ofNat 32 (c.toNat % 16) <<< 24).toNat<2 ^ (32 - 4):=by
  have key:∀ n:Fin 16,(BitVec.ofNat 32 n.val <<< 24).toNat<2 ^ (32 - 4):=by decide +kernel
  exact key ⟨c.toNat % 16,Nat.mod_lt _ (by decide)⟩
 rw [show (8:Nat)=4+4 by rfl,qwd,qwa,← BitVec.xor_assoc,qkz 4 (x ^^^ _),qgh 4 _ (by omega) hl,← BitVec.shiftLeft_add,crcP,qqg,qqg]
theorem qrj (x:BitVec 32):IntKind.u32.wrap (4294967295 - (x.toNat:Int))=((~~~x).toNat:Int):=by
 have h:=x.isLt
 have e:(4294967295 - (x.toNat:Int))=(((~~~x).toNat:Nat):Int):=by rw [BitVec.toNat_not];omega
 rw [e]
 exact qcu _
theorem qxw (x:BitVec 32) (k n:Nat) (m:Int) (hm:m=((2 ^ n:Nat):Int)):IntKind.u32.wrap ((x.toNat:Int) * m)=((x <<< n).toNat:Int):=by
 rw [hm,← Int.natCast_mul,qdc,BitVec.toNat_shiftLeft,Nat.shiftLeft_eq]
theorem q5s (x:BitVec 32) (l:List UInt8) (st:List AObj) (hl:l.length<4294967281):qn E 93 [Wv x,Sv l] st fun r st'=>r=Wv (addP x l)∧st'=st:=by
 refine zz (q8 _) (qx Tryz.func93 rfl (Nat.le_of_ble_eq_true rfl) ?_)
 repeat' (first|apply qt|apply za|apply qj|apply qi|apply ql|apply qk|(apply qcx;exact rfl;exact rfl;exact qrj _))
 refine vw (fun (k:Nat) s=>k≤l.length∧StA [(1,Sv l),(5,Wv ((l.take k).foldl crcP (~~~ x))),(6,Iv k)] (st++[]) [] s) (fun k=>l.length - k) 0 ⟨by omega,kz ⟨rfl,rfl,rfl,trivial⟩⟩ ?_
 rintro k _ ⟨hk,t,rfl⟩
 generalize hx:(l.take k).foldl crcP (~~~ x)=y
 have hc:=UInt8.toNat_lt (l.getD k 0)
 repeat' (first|apply qt|apply za|apply qj|apply qi|apply ql|apply qk|(apply q7;(iterate 3 exact rfl))|(apply qh;exact rfl;apply cd_d <;> intro h)|(apply yx;(iterate 3 exact rfl))|(apply qlj;(iterate 3 exact rfl);exact cAs)|(apply qa2;exact rfl;exact rfl;(first|exact jh _|exact rfl);first|exact jh _|exact rfl)|apply q9|apply vt|apply zi|(apply qms;(iterate 3 exact rfl);omega)|(apply qlk;exact rfl;exact rfl;exact qxw _ 0 24 _ rfl)|(apply qcx;exact rfl;exact rfl;exact qrj _))
 ·generalize hcc:l.getD k 0=c at *
  generalize hz:y ^^^ (BitVec.ofNat 32 c.toNat <<< 24)=z
  refine vw (fun (j:Nat) s=>j≤8∧StA [(1,Sv l),(5,Wv (vk j z)),(6,Iv k),(7,Iv j)] (st++[]) [] s) (fun j=>8 - j) 0 ⟨by omega,kz ⟨rfl,rfl,rfl,rfl,trivial⟩⟩ ?_
  rintro j _ ⟨hj,t2,rfl⟩
  generalize hq:vk j z=q
  have hql:=q.isLt
  repeat' (first|apply qt|apply za|apply qj|apply qi|apply ql|apply qk|(apply q7;(iterate 3 exact rfl))|(apply qh;exact rfl;apply cd_d <;> intro h)|(apply jj;exact rfl;exact rfl;exact zy (by omega) (by omega))|(apply qa2;exact rfl;exact rfl;(first|exact jh _|exact rfl);first|exact jh _|exact rfl)|apply q9|apply vt|(apply q02 (n:=2147483648);exact rfl;exact rfl;omega;exact q9u (by omega))|(apply qlk;exact rfl;exact rfl;exact qxw _ 0 1 _ rfl))
  ·refine⟨j+1,⟨by omega,kz ⟨rfl,?_,rfl,rfl,trivial⟩⟩,by omega⟩
   refine congrArg Wv (?_:_=yc _)
   rw [hq]
   unfold yc
   rw [if_pos ((qsb q).2 (by omega))]
   rfl
  ·refine⟨j+1,⟨by omega,kz ⟨rfl,?_,rfl,rfl,trivial⟩⟩,by omega⟩
   refine congrArg Wv (?_:_=yc _)
   rw [hq]
   unfold yc
   rw [if_neg (fun h'=>absurd ((qsb q).1 h') (by omega))]
  ·have e:j=8:=by omega
   subst e
   refine⟨k+1,⟨by omega,kz ⟨rfl,?_,rfl,trivial⟩⟩,by omega⟩
   refine congrArg Wv (?_:q=_)
   rw [qga (by omega),List.foldl_append,hx,hcc]
   show q=crcP y c
   rw [q1r,hz,hq]
 ·have e:k=l.length:=by omega
  subst e
  refine qv rfl (zw rfl) ⟨congrArg Wv (?_:_=_),_,rfl⟩
  unfold addP
  rw [← hx,List.take_length]
theorem q5t (l:List UInt8) (st:List AObj) (hl:l.length<4294967281):qn E 45 [Sv l] st fun r st'=>r=Wv (addP 0 l)∧st'=st:=by
 refine zz (q8 _) (qx Tryz.func45 rfl (Nat.le_of_ble_eq_true rfl) ?_)
 repeat' (first|apply qt|apply qj|apply qi|apply ql|apply qk|apply zi|(apply q5;exact Tryz.call93;exact q5s 0 _ _ hl))
 exact qv rfl (zw rfl) ⟨rfl,_,rfl⟩
end Go.Proofs.YtejoahlpbckbeaaGreatDoor
namespace Go.Pl
open Go
def sp:Bool→qc→Bool
 | _,[]=>true
 |f,c::l=>(!f ||decide (c=32)) && sp (decide (c=10)) l
theorem qit:∀ l,sp false l=sp true (past 10 l)
 | []=>rfl
 |c::l=>by
  by_cases h:c=10
  ·subst h;simp [sp,past,upto]
  ·have e:past 10 (c::l)=past 10 l:=by simp [past,upto,h]
   rw [e,← qit l]
   simp [sp,h]
theorem qvh {l:qc} (h:l≠[]):sp true l=(decide ([32] <+: upto 10 l) && sp true (past 10 l)):=by
 cases l with
 |nil=>exact absurd rfl h
 |cons c r=>
  by_cases hc:c=10
  ·subst hc;simp [sp,upto]
  ·have e:past 10 (c::r)=past 10 r:=by simp [past,upto,hc]
   have e2:upto 10 (c::r)=c::upto 10 r:=by simp [upto,hc]
   rw [e,e2,← qit]
   simp [sp,hc,eq_comm]
theorem qht:∀ (n:Nat) (l:qc),l.length≤n→((∀ x∈zj l,[32] <+: x.1)↔sp true l=true)
 | 0,l,h=>by
  have:l=[]:=List.length_eq_zero_iff.1 (by omega)
  subst this
  simp [vg,sp]
 |n+1,l,h=>by
  by_cases hl:l=[]
  ·subst hl;simp [vg,sp]
  ·rw [wq hl,qvh hl,Bool.and_eq_true,← qht n (past 10 l) (by have:=x7 (c:=10) hl;omega)]
   simp only [List.mem_cons,forall_eq_or_imp,decide_eq_true_eq]
theorem qfv (l:qc):(y6 [32] l).2=sp true l:=by
 unfold y6
 by_cases h:sp true l=true
 ·rw [if_pos ((qht _ l (Nat.le_refl _)).2 h),h]
 ·rw [if_neg (fun h'=>h ((qht _ l (Nat.le_refl _)).1 h'))]
  simp only [Bool.not_eq_true] at h
  rw [h]
def qfx (f:Bool) (l:qc):Bool:=match l.getLast? with|none=>f|some c=>decide (c=10)
theorem qzd (f:Bool) (c:UInt8) (l:qc):qfx f (c::l)=qfx (decide (c=10)) l:=by
 cases l with
 |nil=>simp [qfx]
 |cons b l=>
  unfold qfx
  rw [List.getLast?_cons_cons]
  cases hb:(b::l).getLast? with
  |none=>simp at hb
  |some x=>rfl
theorem qvg:∀ (f:Bool) (l m:qc),sp f (l++m)=(sp f l && sp (qfx f l) m)
 |f,[],m=>by simp [sp,qfx]
 |f,c::l,m=>by
  simp only [List.cons_append,sp]
  rw [qvg _ l m,qzd,Bool.and_assoc]
theorem qqx (l:qc):qde l↔2≤l.length∧l.length≤50000∧l.getLast? = some 10∧sp true l=true:=by
 unfold qde
 rw [qfv]
theorem qbp:∀ (n u:Nat),u≤n→∀ c∈Lib.decDigits u,48≤c.toNat∧c.toNat≤57
 |n,u,hn,c,hc=>by
  by_cases h:u<10
  ·rw [Lib.decDigits_one h] at hc
   simp only [List.mem_singleton] at hc
   subst hc
   rw [UInt8.toNat_ofNat']
   omega
  ·rw [qad h,List.mem_append] at hc
   cases n with
   |zero=>omega
   |succ n=>
    rcases hc with hc|hc
    ·exact qbp n (u / 10) (by omega) c hc
    ·exact qbp n (u % 10) (by omega) c hc
theorem qhp (n:Nat):Lib.itoa (n:Int)=Lib.decDigits n:=by
 unfold Lib.itoa
 rw [if_neg (by omega)]
 simp
theorem q46 (n:Nat):∀ c∈Lib.itoa (n:Int),48≤c.toNat∧c.toNat≤57:=by
 rw [qhp]
 exact qbp n n (Nat.le_refl _)
theorem qtf (u:Nat):Lib.decDigits u≠[]:=by
 intro h
 have:=congrArg List.length h
 rw [Lib.decDigits_length] at this
 have:=Lib.nDigits_pos u
 simp at *
 omega
theorem qq9:∀ (a:Nat) (l m:qc) (b:Nat),Lib.parseUint10 a l = .ok b→Lib.parseUint10 a (l++m)=Lib.parseUint10 b m
 |a,[],m,b,h=>by
  simp only [Lib.parseUint10,Lib.NumEnd.ok.injEq] at h
  subst h;rfl
 |a,c::l,m,b,h=>by
  simp only [List.cons_append,Lib.parseUint10] at h ⊢
  split at h
  ·rename_i hd
   rw [if_pos hd]
   split at h
   ·cases h
   ·rename_i h1
    rw [if_neg h1]
    split at h
    ·cases h
    ·rename_i h2
     rw [if_neg h2]
     exact qq9 _ l m b h
  ·cases h
theorem qrb:∀ (n u:Nat),u≤n→u<1000000000000000000→Lib.parseUint10 0 (Lib.decDigits u) = .ok u
 |n,u,hn,hu=>by
  have key:∀ (a d:Nat),a<100000000000000000→d<10→Lib.parseUint10 a (Lib.decDigits d) = .ok (a * 10+d):=by
   intro a d ha hd
   have e:(UInt8.ofNat (48+d)).toNat=48+d:=by rw [UInt8.toNat_ofNat'];omega
   rw [Lib.decDigits_one hd]
   simp only [Lib.parseUint10,e]
   rw [if_pos (by omega),if_neg (by omega),if_neg (by omega)]
   congr 1
   omega
  by_cases h:u<10
  ·have:=key 0 u (by omega) h
   simpa using this
  ·cases n with
   |zero=>omega
   |succ n=>
    rw [qad h,qq9 0 _ _ (u / 10) (qrb n (u / 10) (by omega) (by omega)),key _ _ (by omega) (by omega)]
    congr 1
    omega
theorem q08 {n:Nat} (h:n<1000000000000000000):Lib.atoiAll (Lib.itoa (n:Int)) = .ok (n:Int):=by
 have hp:=qrb n n (Nat.le_refl _) h
 have hd:=qbp n n (Nat.le_refl _)
 rw [qhp]
 cases hl:Lib.decDigits n with
 |nil=>exact absurd hl (qtf n)
 |cons c r=>
  rw [hl] at hp hd
  have hc:=hd c (by simp)
  simp only [Lib.atoiAll]
  have h1:¬ (c.toNat=43∨c.toNat=45):=by omega
  rw [if_neg h1]
  have hm:Lib.parseMag (c::r) = .ok n:=by unfold Lib.parseMag;rw [if_neg (by simp)];exact hp
  rw [hm]
  have h2:¬ c.toNat=45:=by omega
  simp only [h2,not_false_iff,true_and,false_and,if_false]
  rw [if_neg (by omega)]
theorem quk {n:Nat} (h1:1≤n) (h2:n≤50000):wt (Lib.itoa (n:Int))=n:=by
 have:=qzy (q08 (n:=n) (by omega))
 rw [if_pos ⟨rfl,by omega,by omega⟩] at this
 omega
theorem qgq {l:qc} {n:Nat} (h:wt l=n) (hn:1≤n):l=Lib.itoa (n:Int):=by
 unfold wt at h
 split at h
 ·split at h
  ·rename_i v _ hv
   have:v=(n:Int):=by omega
   rw [← this,hv.1]
  ·omega
 ·omega
end Go.Pl
namespace Go.Proofs.YtejoahlpbckbeaaGreatDoor
open Go Go.Pl
def xh (n:Nat) (fig:qc):qc:=kv++(Lib.itoa n++32::fig)
theorem q41 (n:Nat) (fig:qc):qse n fig=xh n fig++[10]:=by simp [qse,xh,kv]
theorem qn4 (n:Nat) {c:UInt8} (h:¬ (48≤c.toNat∧c.toNat≤57)):c∉Lib.itoa (n:Int):=fun hc=>h (q46 n c hc)
theorem qjd {f:qc} (h:yt f) {c:UInt8} (hc:c∉hexL):c∉f:=fun h'=>hc (h c h')
theorem qcn (n:Nat) {fig:qc} (h:yt fig):10∉xh n fig:=by
 unfold xh
 simp only [List.mem_append,List.mem_cons,not_or]
 exact⟨by decide,qn4 n (by decide),by decide,qjd h (by decide)⟩
theorem q0m (l:qc):Lib.trimPrefix (kv++l) kv=l:=by
 rw [qr3 (List.prefix_append _ _),List.drop_left]
structure q61 (n:Nat) (fig body:qc):Prop where
 two:2≤n
 most:n≤50000
 len:body.length=n
 good:qde body
 figs:fig.length=8
 hex:yt fig
def recL (n:Nat) (fig body:qc):qc:=xh n fig++10::(body++qek n)
theorem q83 (l:qc):recF l=recL l.length (sumF l) l:=by
 unfold recF recL
 rw [q41]
 simp
theorem qre {l a b:qc} (h:l <+: a++b):l <+: a∨∃ r,l=a++r∧r <+: b:=by
 rcases Nat.le_total l.length a.length with hl|hl
 ·exact .inl (List.prefix_of_prefix_length_le h (List.prefix_append _ _) hl)
 ·obtain⟨r,hr⟩:=List.prefix_of_prefix_length_le (List.prefix_append a b) h hl
  exact .inr ⟨r,hr.symm,by rw [← hr] at h;exact (List.prefix_append_right_inj a).1 h⟩
theorem qkk {a b:qc} {c:UInt8} (h:a <+: b) (hc:c∉b):c∉a:=fun h'=>hc (h.subset h')
theorem qz7 (f:qc) (hl:f.length≤8) (hx:yt f):∃ g:qc,g.length=8∧yt g∧f <+: g:=
 ⟨f++List.replicate (8 - f.length) 48,by simp;omega,fun c hc=>by
  rw [List.mem_append,List.mem_replicate] at hc
  rcases hc with hc | ⟨_,rfl⟩
  ·exact hx c hc
  ·decide,List.prefix_append _ _⟩
theorem qpr:∀ (k:Nat),sp false (List.replicate k 97++[10])=true
 | 0=>by simp [sp]
 |k+1=>by rw [List.replicate_succ,List.cons_append];simp only [sp];exact by simpa using qpr k
theorem qs9 {n:Nat} {r:qc} (hn:n≤50000) (hlt:r.length<n) (h2:2≤n) (hp:qki r ((n:Int) - r.length)=2):∃ body:qc,body.length=n∧qde body∧r <+: body:=by
 unfold qki at hp
 split at hp
 ·rename_i h
  obtain⟨hs,hfr⟩:=h
  rw [qfv] at hs
  by_cases hf:r=[]∨r.getLast? = some 10
  ·have hk:r.length+2≤n:=by
    rcases Nat.lt_or_ge (r.length+1) n with h|h
    ·omega
    ·exact absurd ⟨hf,by omega⟩ hfr
   refine⟨r++(32::(List.replicate (n - r.length - 2) 97++[10])),by simp;omega,?_,List.prefix_append _ _⟩
   rw [qqx]
   refine⟨by simp;omega,by simp;omega,by simp [List.getLast?_append,List.getLast?_cons],?_⟩
   rw [qvg,hs]
   simp only [sp,Bool.true_and]
   have:=qpr (n - r.length - 2)
   simpa using this
  ·refine⟨r++(List.replicate (n - r.length - 1) 97++[10]),by simp;omega,?_,List.prefix_append _ _⟩
   rw [qqx]
   refine⟨by simp;omega,by simp;omega,by simp [List.getLast?_append],?_⟩
   rw [qvg,hs]
   have e:qfx true r=false:=by
    unfold qfx
    cases hq:r.getLast? with
    |none=>exact absurd (.inl (List.getLast?_eq_none_iff.1 hq)) hf
    |some c=>
     refine decide_eq_false fun h=>hf (.inr ?_)
     rw [hq,h]
   rw [e,qpr]
   rfl
 ·simp at hp
theorem qdw {n:Nat} (h2:2≤n) (hn:n≤50000):∃ body:qc,body.length=n∧qde body:=by
 obtain⟨b,h1,h3,_⟩:=qs9 (n:=n) (r:=[]) hn (by simp;omega) h2 (by
  unfold qki
  rw [qfv]
  rw [if_pos ⟨rfl,by rintro⟨_,h⟩;simp at h;omega⟩])
 exact⟨b,h1,h3⟩
theorem qd3 {a b c:qc} (h:a <+: b):a <+: b++c:=h.trans (List.prefix_append _ _)
theorem qds {n:Nat} {fig body l:qc} (h:l <+: xh n fig):l <+: recL n fig body∧l.length<(recL n fig body).length:=by
 refine⟨qd3 h,?_⟩
 have:=h.length_le
 unfold recL
 simp
 omega
theorem q8t {l:qc} (h:(xl l).1=2):∃ n fig body,q61 n fig body∧l <+: recL n fig body∧l.length<(recL n fig body).length:=by
 unfold xl at h
 split at h
 ·rename_i h10
  split at h
  ·rename_i ho
   generalize hr:past 10 l=r at *
   have hl:=qcf h10
   rw [hr] at hl
   generalize hu:upto 10 l=u at *
   -- the first line
   have hop:u=xh (wa u).1 (wa u).2.1∧2≤(wa u).1∧(wa u).1≤50000∧(wa u).2.1.length=8∧yt (wa u).2.1:=by
    simp only [wa,decide_eq_true_eq] at ho ⊢
    obtain⟨o1,o2,o3,o4,o5⟩:=ho
    refine⟨?_,o3,qcq _,o4,o5⟩
    obtain⟨t,rfl⟩:=o1
    rw [q0m] at *
    have:=qgq rfl (Nat.le_trans (by decide) o3)
    unfold xh
    rw [← this,← qcf o2]
   generalize (wa u).1=n at *
   generalize (wa u).2.1=fig at *
   obtain⟨rfl,h2,hn,hf,hx⟩:=hop
   split at h
   ·rename_i hlt
    obtain⟨body,b1,b2,b3⟩:=qs9 hn hlt h2 h
    refine⟨n,fig,body,⟨h2,hn,b1,b2,hf,hx⟩,?_,?_⟩
    ·rw [hl]
     unfold recL
     rw [List.prefix_append_right_inj,List.cons_prefix_cons]
     exact⟨rfl,qd3 b3⟩
    ·rw [hl]
     unfold recL
     have:=b3.length_le
     have:=qvm n
     simp
     omega
   ·rename_i hge
    split at h
    ·rename_i hg
     have hlen:(r.take n).length=n:=by simp;omega
     refine⟨n,fig,r.take n,⟨h2,hn,hlen,hg,hf,hx⟩,?_⟩
     unfold qxj at h
     rw [hlen] at h
     split at h
     ·rename_i hc
      rw [hl]
      unfold recL
      constructor
      ·rw [List.prefix_append_right_inj,List.cons_prefix_cons]
       refine⟨rfl,?_⟩
       conv=>lhs;rw [← List.take_append_drop n r]
       rw [List.prefix_append_right_inj]
       exact hc.2
      ·have:=hc.1
       simp at this ⊢
       omega
     ·split at h <;> simp at h
    ·simp at h
  ·simp at h
 ·rename_i h10
  split at h
  ·rename_i ho
   unfold qc2 at ho
   split at ho
   ·rename_i hb
    obtain⟨t,rfl⟩:=hb
    have ed:(kv++t).drop 7=t:=by rw [show (7:Nat)=kv.length by rfl,List.drop_left]
    rw [ed] at ho
    obtain⟨o1,o2,o3,o4⟩:=of_decide_eq_true ho
    by_cases h32:32∈t
    ·have hn2:2≤wt (upto 32 t):=by
      rcases Nat.lt_or_ge (wt (upto 32 t)) 2 with h|h
      ·exact absurd ⟨h32,h⟩ o1
      ·exact h
     obtain⟨fig,f1,f2,f3⟩:=qz7 _ o3 o4
     obtain⟨body,b1,b2⟩:=qdw hn2 (qcq _)
     refine⟨_,fig,body,⟨hn2,qcq _,b1,b2,f1,f2⟩,qds ?_⟩
     unfold xh
     rw [List.prefix_append_right_inj]
     conv=>lhs;rw [qcf h32]
     rw [qgq (l:=upto 32 t) rfl (by omega)]
     rw [quk (by omega) (qcq _),List.prefix_append_right_inj,List.cons_prefix_cons]
     exact⟨rfl,f3⟩
    ·rw [qda h32] at o2
     by_cases ht:t=[]
     ·subst ht
      obtain⟨body,b1,b2⟩:=qdw (n:=2) (by omega) (by omega)
      refine⟨2,List.replicate 8 48,body,⟨by omega,by omega,b1,b2,by simp,by decide⟩,qds ?_⟩
      unfold xh
      simp
     ·have hpos:1≤wt t:=by
       rcases Nat.eq_zero_or_pos (wt t) with h|h
       ·exact absurd ⟨ht,h⟩ o2
       ·exact h
      have hle:=qcq t
      have ht2:=qgq (l:=t) rfl hpos
      generalize wt t=m at *
      subst ht2
      by_cases hm:m=1
      ·subst hm
       obtain⟨body,b1,b2⟩:=qdw (n:=10) (by omega) (by omega)
       refine⟨10,List.replicate 8 48,body,⟨by omega,by omega,b1,b2,by simp,by decide⟩,qds ?_⟩
       unfold xh
       rw [List.prefix_append_right_inj]
       have e1:Lib.itoa ((1:Nat):Int)=[49]:=by rw [qhp,Lib.decDigits_one (by decide)];rfl
       have e2:Lib.itoa ((10:Nat):Int)=[49,48]:=by rw [qhp,qad (by decide),Lib.decDigits_one (by decide),Lib.decDigits_one (by decide)];rfl
       rw [e1,e2]
       exact⟨_,rfl⟩
      ·obtain⟨body,b1,b2⟩:=qdw (n:=m) (by omega) (by omega)
       refine⟨m,List.replicate 8 48,body,⟨by omega,by omega,b1,b2,by simp,by decide⟩,qds ?_⟩
       unfold xh
       rw [List.prefix_append_right_inj]
       exact List.prefix_append _ _
   ·rename_i hb
    have hp:=of_decide_eq_true ho
    obtain⟨body,b1,b2⟩:=qdw (n:=2) (by omega) (by omega)
    refine⟨2,List.replicate 8 48,body,⟨by omega,by omega,b1,b2,by simp,by decide⟩,qds ?_⟩
    unfold xh
    exact qd3 hp
  ·simp at h
theorem qwl (s:BitVec 32):yt (qzg s 8):=by
 intro c hc
 simp only [qzg,List.mem_map] at hc
 obtain⟨j,_,rfl⟩:=hc
 unfold figP
 have h:=Go.Av.and15_lt (s >>> (4 * (7 - j)))
 generalize ((s >>> (4 * (7 - j))) &&& BitVec.ofInt 32 15).toNat=k at h
 have key:∀ i:Fin 16,([48,49,50,51,52,53,54,55,56,57,97,98,99,100,101,102]:qc).getD i.val 0∈hexL:=by decide
 exact key ⟨k,h⟩
theorem qv7:(10:UInt8)∉kv:=by decide
theorem zaw {l:qc} (h1:10∈l→(wa (upto 10 l)).2.2=false) (h2:10∉l→qc2 l=false):xl l=(3,[],0):=by
 unfold xl
 by_cases h:10∈l
 ·rw [if_pos h,if_neg (by rw [h1 h];simp)]
 ·rw [if_neg h,if_neg (by rw [h2 h];simp)]
theorem R1 {l:qc} (hl:l.length≤7) (h:l <+: kv):xl l=(2,[],0):=by
 have h10:10∉l:=qkk h qv7
 unfold xl
 rw [if_neg h10,if_pos ?_]
 unfold qc2
 by_cases hb:kv <+: l
 ·rw [if_pos hb,h.eq_of_length_le hb.length_le];decide
 ·rw [if_neg hb];exact decide_eq_true h
theorem R2 {l:qc} (hl:l.length≤7) (h:¬ l <+: kv):xl l=(3,[],0):=by
 refine zaw (fun h10=>decide_eq_false fun h'=>?_) (fun h10=>?_)
 ·have:=h'.1.length_le
  have:=qhb h10
  have e:kv.length=7:=rfl
  omega
 ·unfold qc2
  by_cases hb:kv <+: l
  ·have:=hb.eq_of_length_le hl
   exact absurd (this▸List.prefix_refl _) h
  ·rw [if_neg hb];exact decide_eq_false h
theorem q9m {p:UInt8→Bool} (s:qc):s.take (s.takeWhile p).length=s.takeWhile p:=by
 induction s with
 |nil=>rfl
 |cons b s ih=>
  by_cases h:p b=true
  ·rw [List.takeWhile_cons_of_pos h];simp [ih]
  ·rw [List.takeWhile_cons_of_neg h];rfl
theorem zbe {p:UInt8→Bool} {l m:qc} (hm:m <+: l) (h:∀ c∈m,p c=true):m.length≤(l.takeWhile p).length:=by
 obtain⟨r,rfl⟩:=hm
 rw [List.takeWhile_append_of_pos h]
 simp
end Go.Proofs.YtejoahlpbckbeaaGreatDoor
namespace Go.Proofs.YtejoahlpbckbeaaGreatDoor
open Go Go.Av Go.RowKit Go.Proofs Go.Pl
structure q6l (l S:qc) (K n:Nat):Prop where
 hl:l=kv++S
 hK:(S.takeWhile qnq).length=K
 hD:S.take K=Lib.itoa (n:Int)
 h1:1≤n
 h2:n≤50000
theorem q6l.split {l S:qc} {K n:Nat} (A:q6l l S K n) (h:K<S.length):S=Lib.itoa (n:Int)++S.getD K 0::S.drop (K+1)∧qnq (S.getD K 0)=false:=by
 have e:S=S.take K++S.getD K 0::S.drop (K+1):=by
  conv=>lhs;rw [← List.take_append_drop K S]
  rw [List.drop_eq_getElem_cons h]
  congr 2
  simp [List.getD,h]
 refine⟨by rw [← A.hD];exact e,?_⟩
 cases hc:qnq (S.getD K 0) with
 |false=>rfl
 |true=>
  have hp:S.take (K+1) <+: S:=List.take_prefix _ _
  have:=zbe (p:=qnq) hp (fun c hc'=>by
   rw [qga h,List.mem_append,List.mem_singleton] at hc'
   rcases hc' with hc'|rfl
   ·rw [← A.hK,q9m] at hc'
    have ha:=List.all_takeWhile (p:=qnq) (l:=S)
    rw [List.all_eq_true] at ha
    exact ha c hc'
   ·exact hc)
  rw [A.hK] at this
  simp at this
  omega
end Go.Proofs.YtejoahlpbckbeaaGreatDoor
namespace Go.Av
open Go Go.RowKit
def StE (L:List (Nat×AV)) (st loc:List AObj) (s:AS):Prop:=∃ t ext,s=⟨puts t L,((st++loc)++ext)++[],[]⟩
theorem qjx {t:Nat→AV} {L:List (Nat×AV)} {st loc loc' ext new:List AObj} (h:HasL t L) (e:loc'=loc):StE L st loc ⟨t,((st++loc')++ext)++new,[]⟩:=
 ⟨t,ext++new,by rw [qet h,e];simp⟩
theorem qpt {t:Nat→AV} {L:List (Nat×AV)} {st loc st':List AObj} (h:HasL t L) (e:st'=st++loc):StE L st loc ⟨t,st',[]⟩:=
 ⟨t,[],by rw [qet h,e];simp⟩
theorem qka (st loc ext new:List AObj):∃ x,((st++loc)++ext)++new=st++x:=⟨loc++ext++new,by simp⟩
theorem qb7 {st loc ext new:List AObj} {k:Nat} {x:AObj} (h:loc[k]? = some x):(((st++loc)++ext)++new)[st.length+k]? = some x:=by
 have hk:=lt_of_getElem? h
 rw [List.append_assoc,List.append_assoc,List.getElem?_append_right (Nat.le_add_right _ _),Nat.add_sub_cancel_left,List.getElem?_append_left hk]
 exact h
theorem qg9 {st loc ext new:List AObj} {k:Nat} (x:AObj) (hk:k<loc.length):(((st++loc)++ext)++new).set (st.length+k) x=((st++loc.set k x)++ext)++new:=by
 rw [List.append_assoc,List.append_assoc,List.set_append_right _ _ (Nat.le_add_right _ _),Nat.add_sub_cancel_left,List.set_append_left _ _ hk]
 simp
theorem qju {G:Gh} {sz:Nat} {xs:List AV} {tip:Option Nat} {v:Value} (h:Rel G (.sl sz xs tip) v):Rel G (.sl sz xs none) v:=by
 cases h with
 |sl0 _ _ base cap ht=>exact .sl0 sz none base cap (by simp)
 |sl _ _ _ b off cap pub hp hw hlen hr ht hcap=>exact .sl sz xs none b off cap pub hp hw hlen hr (fun t ht=>by simp at ht) hcap
theorem y0 {G:Gh} {sz:Nat} {v:Value} (h:Rel G zv v):Rel G (.sl sz [] none) v:=by
 cases h
 exact .sl0 sz none none 0 (by simp)
section
variable {E : Env} {rd : Option Nat} {N : Nat} {ops : Array Oper} {K : AS → Prop} {s : AS} {rest : List Oper} {d : Option Tmp} {T : TypeId} {p : String} {af : Array Edge}
theorem yy {fn:Func} {r r':AV} (h:ARes E fn s r) (hw:∀ (G:Gh) (v:Value),Rel G r v→Rel G r' v):ARes E fn s r':=
 ⟨fun B0 w0 G a w hL hI=>let ⟨v,h1,h2⟩:=h.run B0 w0 G a w hL hI;⟨v,h1,hw G v h2⟩⟩
theorem qmo {x y:Operand} {t u T':TypeId} {sz bytes k n m:Nat} {xs ys zs:List AV} {tip:Option Nat} {st loc ext new:List AObj} (hs:s.st=((st++loc)++ext)++new) (hx:qf N s x = .sl sz xs (some (st.length+k))) (hy:qf N s y = .sl sz ys tip) (ho:loc[k]? = some (.tip n sz T')) (hn:xs.length=n)
  (ht:E.P.underlying t=some (.slice T')) (hu:E.P.underlying u=some (.slice T')) (hT:wh E.P T' sz bytes) (hone:jq (flat ys)=true) (hm:ys.length=m) (h63:n+m≤maxLen) (hb:(n+m) * bytes≤140737488355328) (hz:xs++ys=zs)
  (h:AOps E rd N ops rest K (AS.put ⟨s.t,((st++loc.set k (.tip (n+m) sz T'))++ext)++new,s.df⟩ d (.sl sz zs (some (st.length+k))))):AOps E rd N ops (⟨d,.call ⟨.builtin .append,#[x,y],#[t,u]⟩,T,p,af,none⟩::rest) K s:=by
 subst hz
 have hk:=lt_of_getElem? ho
 exact qv1 hx hy (by rw [hs];exact qb7 ho) hn ht hu hT hone hm h63 hb (by rw [hs,qg9 _ hk];exact h)
theorem qrs {x:Operand} {t:TypeId} {sz:Nat} {agg:Bool} {st loc ext new:List AObj} {k ver off:Nat} {T':TypeId} {cs:List AV} {r:AV} (hs:s.st=((st++loc)++ext)++new) (hx:qf N s x = .bx (st.length+k) ver off) (ho:loc[k]? = some (.cells ver T' cs)) (ht:tyOf E.P t=some (sz,agg)) (hr:jp sz agg off cs=some r)
  (h:AOps E rd N ops rest K (s.put d r)):AOps E rd N ops (⟨d,.load t x,T,p,af,none⟩::rest) K s:=
 ko hx (by rw [hs];exact qb7 ho) ht hr h
end
end Go.Av
namespace Go.Pl
open Go
def zn (l:qc):List qc:=
 if h:10∈l then upto 10 l::zn (past 10 l) else [l]
 termination_by l.length
 decreasing_by exact x7 (fun e=>by rw [e] at h;simp at h)
theorem qbi {l:qc} (h:10∈l):zn l=upto 10 l::zn (past 10 l):=by rw [zn,dif_pos h]
theorem qbj {l:qc} (h:10∉l):zn l=[l]:=by rw [zn,dif_neg h]
theorem qx7:∀ (n:Nat) (l:qc),l.length≤n→Lib.splitK [10] 0 (Lib.count l [10]) l=zn l
 |n,l,hn=>by
  by_cases h:10∈l
  ·have hi:=qnp 10 l h
   have hne:l≠[]:=fun e=>by rw [e] at h;simp at h
   have hlt:=x7 (c:=10) hne
   rw [qbi h,Lib.count_hit (i:=(upto 10 l).length) (by simp) hi,Nat.add_comm,Lib.splitK]
   rw [if_neg (by rw [hi];simp),hi]
   cases n with
   |zero=>exact absurd (List.length_eq_zero_iff.1 (by omega)) hne
   |succ n=>
    have:=qx7 n (past 10 l) (by omega)
    simp only [Int.toNat_natCast,Nat.add_zero,List.length_cons,List.length_nil,Nat.zero_add,qgb]
    rw [show List.drop ((upto 10 l).length+1) l=past 10 l from rfl,this]
  ·have hi:Lib.index l [10] = -1:=by
    have:=Lib.index_ge l [10]
    have h2:¬ 0≤Lib.index l [10]:=fun h'=>h ((qau l 10).1 h')
    omega
   rw [qbj h,Lib.count_miss hi]
   rfl
theorem qd6:∀ (n:Nat) (l:qc),l.length≤n→(zn l).length≤l.length+1
 |n,l,hn=>by
  by_cases h:10∈l
  ·have hne:l≠[]:=fun e=>by rw [e] at h;simp at h
   have hlt:=x7 (c:=10) hne
   rw [qbi h]
   cases n with
   |zero=>exact absurd (List.length_eq_zero_iff.1 (by omega)) hne
   |succ n=>
    have:=qd6 n (past 10 l) (by omega)
    simp only [List.length_cons]
    omega
  ·rw [qbj h];simp
theorem qd2:∀ (n:Nat) (l:qc),l.length≤n→∀ x∈zn l,x.length≤l.length∧10∉x
 |n,l,hn,x,hx=>by
  by_cases h:10∈l
  ·have hne:l≠[]:=fun e=>by rw [e] at h;simp at h
   have hlt:=x7 (c:=10) hne
   rw [qbi h,List.mem_cons] at hx
   rcases hx with rfl|hx
   ·exact⟨yw 10 l,qn5 10 l⟩
   ·cases n with
    |zero=>exact absurd (List.length_eq_zero_iff.1 (by omega)) hne
    |succ n=>
     have:=qd2 n (past 10 l) (by omega) x hx
     exact⟨by omega,this.2⟩
  ·rw [qbj h,List.mem_singleton] at hx
   subst hx
   exact⟨Nat.le_refl _,h⟩
end Go.Pl
namespace Go.Proofs.YtejoahlpbckbeaaGreatDoor
open Go Go.Av Go.RowKit Go.Proofs Go.Pl
theorem qiu {f:FuncId} {st:List AObj} {args:List AV} {vals:Array Value} {xs:List qc} {T:TypeId} (ha:args=vals.toList.map .v) (hne:xs≠[])
  (h:∀ B0 w0 w,E.L B0 w0→Below B0 w0 w→Calls E.P f vals w fun e w'=>e = .returned (.slice (some ⟨w.heap.size,0,none⟩) xs.length xs.length)∧w'=w.alloc (.cells (xs.map fun l=>Value.string ⟨l.toArray⟩).toArray T)) :
  qn E f args st fun r st'=>r = .sl 1 (xs.map fun l=>Sv l) none∧st'=st:=by
 subst ha
 refine⟨fun B0 w0 G vs w hL hA hR=>?_⟩
 have hv:vs=vals:=by
  have hs:vs.size=vals.size:=by have:=hR.1;simpa using this.symm
  apply Array.ext hs
  intro i h1 h2
  have:=hR.2 i (.v vals[i]) vs[i] (by simp [h2]) (by simp [h1])
  generalize vs[i]=y at this
  cases this
  rfl
 subst hv
 refine (h B0 w0 w hL hA.below).mono ?_
 rintro e w' ⟨rfl,rfl⟩
 obtain⟨hle,hA'⟩:=hA.newPub T (xs.map fun l=>Value.string ⟨l.toArray⟩).toArray (0,0) (xs.map fun l=>Value.string ⟨l.toArray⟩) (fun i y hy=>by simpa using hy)
 refine⟨_,_,_,st,rfl,hle,hA',?_,rfl,rfl⟩
 have hfl:flat (xs.map fun l=>Sv l)=xs.map fun l=>Sv l:=by
  clear hne h hle hA'
  induction xs with
  |nil=>rfl
  |cons a xs ih=>rw [List.map_cons,yz,ih];rfl
 have:=Rel.sl (G:=G.publish w.heap.size (xs.map fun l=>Value.string ⟨l.toArray⟩)) 1 (xs.map fun l=>Sv l) none w.heap.size 0 xs.length (xs.map fun l=>Value.string ⟨l.toArray⟩) (by simp [Gh.publish]) (fun x hx=>by
  simp only [List.mem_map] at hx
  obtain⟨l,_,rfl⟩:=hx
  rfl) (by rw [hfl];simp) (fun i x y h1 h2=>by
  rw [hfl,List.getElem?_map] at h1
  rw [Nat.zero_add,List.getElem?_map] at h2
  cases hx:xs[i]? with
  |none=>rw [hx] at h1;simp at h1
  |some l=>
   rw [hx] at h1 h2
   simp at h1 h2
   subst h1;subst h2
   exact .v _) (fun t ht=>by simp at ht) (by simp)
 simpa using this
theorem q3m (l:List UInt8) (st:List AObj) (hl:l.length<4294967281):qn E 174 [Sv l,Sv [10]] st fun r st'=>r = .sl 1 ((zn l).map fun x=>Sv x) none∧st'=st:=by
 have hd:=Lib.splitB_data ⟨#[10]⟩ 0 (Lib.countB ⟨l.toArray⟩ ⟨#[10]⟩) ⟨l.toArray⟩
 have hs:Lib.splitK [10] 0 (Lib.count l [10]) l=zn l:=qx7 _ l (Nat.le_refl _)
 have hn:=Lib.splitB_all ⟨#[10]⟩ (by simp [ByteArray.size]) 0 _ ⟨l.toArray⟩ rfl
 have hd2:(Lib.splitB ⟨#[10]⟩ 0 (Lib.countB ⟨l.toArray⟩ ⟨#[10]⟩) ⟨l.toArray⟩).map (·.data.toList)=zn l:=hd.trans hs
 have hlen:(zn l).length=Lib.countB ⟨l.toArray⟩ ⟨#[10]⟩+1:=by rw [← hd2,List.length_map,hn]
 refine qiu (T:=9) (vals:= #[.string ⟨l.toArray⟩,.string ⟨#[10]⟩]) rfl (fun e=>by rw [e] at hlen;simp at hlen) fun _ _ w hL hb=>(Tryz.strings_Split_shaped ⟨l.toArray⟩ ⟨#[10]⟩ w (hL w hb).shaped (by simpa [ByteArray.size] using hl) (by simp [ByteArray.size])).mono fun e w' ⟨h1,h2⟩=>?_
 refine⟨by rw [h1,hlen],?_⟩
 rw [h2,← hd2,List.map_map]
 rfl
end Go.Proofs.YtejoahlpbckbeaaGreatDoor
namespace Go.Av
open Go Go.RowKit
section
variable {E : Env} {N : Nat} {ops : Array Oper} {K : AS → Prop} {s : AS} {rest : List Oper} {d : Option Tmp} {T : TypeId} {p : String} {af : Array Edge}
theorem qm1 {x:Operand} {t:TypeId} {sz:Nat} {agg:Bool} {o ver off:Nat} {T':TypeId} {cs:List AV} {r:AV} (hx:qf N s x = .bx o ver off) (ho:s.st[o]? = some (.cells ver T' cs)) (ht:tyOf E.P t=some (sz,agg)) (hr:jp sz agg off cs=some r)
  (h:AQ E N ops rest K (s.put d r)):AQ E N ops (⟨d,.load t x,T,p,af,none⟩::rest) K s:=by
 refine qbo rfl nofun fun B0 w0 G a w _ hI=>?_
 have he:=hI.eval_of hx
 generalize hv:a.eval x=v at he
 cases he with
 |bx _ _ _ b hn hv' hb=>
  obtain⟨_,h1,h2,h3,c,h4,h5,h6⟩:=hI.agree.ob o _ ho
  have hb:=hb h1
  subst hb
  have hlt:(G.ob o).blk<w.heap.size:=by
   rcases Nat.lt_or_ge (G.ob o).blk w.heap.size with h'|h'
   ·exact h'
   ·rw [Array.getElem?_eq_none h'] at h4;simp at h4
  -- the value is read out of the cells, whatever is drawn behind them
  have key:∀ w',Below w.heap.size w w'→∃ v,(loadVar t ⟨(G.ob o).blk,off,none⟩).run E.P w' = .ok v w'∧Rel G r v:=fun w' hw'=>by
   have h4':w'.heap[(G.ob o).blk]? = some (.cells c T' (0,0)):=by rw [hw'.block _ hlt];exact h4
   exact xo (w:=w') (G:=G) (b:=(G.ob o).blk) (off:=off) (off':=off) ht (fun i x hx hi=>by
    obtain⟨y,hy⟩:=kr hx (Nat.le_of_eq h5)
    refine⟨y,?_,h6 i x y hx hy⟩
    simp [World.cell?,h4',show off+(i - off)=i by omega,hy]) hr
  have hsame:∀ w',Below w.heap.size w w'→∀ v,(loadVar t ⟨(G.ob o).blk,off,none⟩).run E.P w = .ok v w→(loadVar t ⟨(G.ob o).blk,off,none⟩).run E.P w' = .ok v w':=fun w' hw' v hr1=>by
   obtain⟨i1,i2⟩:=jz ht w
   obtain⟨j1,j2⟩:=jz ht w'
   have hc:∀ k,w'.cell? ⟨(G.ob o).blk,k,none⟩=w.cell? ⟨(G.ob o).blk,k,none⟩:=fun k=>by simp [World.cell?,hw'.block _ hlt]
   obtain⟨v',h1',_⟩:=key w' hw'
   rw [h1']
   congr 1
   cases agg with
   |false=>
    simp only [jp,cond_false] at hr
    obtain⟨y,hy⟩:=kr hr (Nat.le_of_eq h5)
    have e1:w.cell? ⟨(G.ob o).blk,off,none⟩=some y:=by simp [World.cell?,h4,hy]
    have e2:w'.cell? ⟨(G.ob o).blk,off,none⟩=some y:=by rw [hc,e1]
    simp [loadVar,i2,run_load,e1] at hr1
    simp [loadVar,j2,run_load,e2] at h1'
    rw [← h1',hr1]
   |true=>
    simp only [jp,cond_true] at hr
    cases hb2:Nat.ble (off+sz) cs.length with
    |false=>rw [hb2] at hr;simp at hr
    |true=>
     have hle:off+sz≤cs.length:=Nat.le_of_ble_eq_true hb2
     have e1:∀ j,j<sz→w.cell? ⟨(G.ob o).blk,off+j,none⟩=some (c.getD (off+j) undef):=fun j hj=>by
      have:off+j<c.size:=by omega
      simp [World.cell?,h4,this]
     have e2:∀ j,j<sz→w'.cell? ⟨(G.ob o).blk,off+j,none⟩=some (c.getD (off+j) undef):=fun j hj=>by rw [hc,e1 j hj]
     have l1:=run_loadCells (P:=E.P) (w:=w) ⟨(G.ob o).blk,off,none⟩ sz (fun j=>c.getD (off+j) undef) (fun j hj=>by rw [Addr.add_lit];exact e1 j hj)
     have l2:=run_loadCells (P:=E.P) (w:=w') ⟨(G.ob o).blk,off,none⟩ sz (fun j=>c.getD (off+j) undef) (fun j hj=>by rw [Addr.add_lit];exact e2 j hj)
     simp [loadVar,i1,i2,l1] at hr1
     simp [loadVar,j1,j2,l2] at h1'
     rw [← h1',hr1]
  obtain⟨v,hrun,hR⟩:=key w (Below.refl _ _)
  exact⟨v,r,fun w' hw'=>by simp only [execOp,hv,Instr.loadAt,Instr.sureAddr];simp [hsame w' hw' v hrun],hR,h⟩
end
end Go.Av
namespace Go.Av
open Go Go.RowKit
section
variable {E : Env} {rd : Option Nat} {N : Nat} {ops : Array Oper} {K : AS → Prop} {s : AS} {rest : List Oper} {d : Option Tmp} {T : TypeId} {p : String} {af : Array Edge}
theorem qkv {x:Operand} {t:TypeId} {sz:Nat} {agg:Bool} {st loc:List AObj} {k ver off:Nat} {T':TypeId} {cs:List AV} {r:AV} (hs:s.st=st++loc) (hx:qf N s x = .bx (st.length+k) ver off) (ho:loc[k]? = some (.cells ver T' cs)) (ht:tyOf E.P t=some (sz,agg)) (hr:jp sz agg off cs=some r)
  (h:AQ E N ops rest K (s.put d r)):AQ E N ops (⟨d,.load t x,T,p,af,none⟩::rest) K s:=
 qm1 hx (by rw [hs];exact xg ho) ht hr h
end
end Go.Av
namespace Go.Proofs.YtejoahlpbckbeaaGreatDoor
open Go Go.Av Go.RowKit Go.Proofs Go.Pl
structure qaj where
 kind:Int
 key:qc
 text:qc
 lo:Int
 hi:Int
abbrev FldV:=qc×qc
@[reducible] def fldA (f : FldV) : AV := .ag [Sv f.1, Sv f.2]
@[reducible] def zr (l : List FldV) : AV := .sl 2 (l.map fldA) none
def q6r (r:qaj):Prop:=1≤r.kind∧r.kind≤7∧(r.kind=6∨qa5 r.key)
instance (r:qaj):Decidable (q6r r):=inferInstanceAs (Decidable (_∧_∧_))
def qyd (l:qc):List qc:=if l=[] then [] else zn l
theorem q27 (xs:List qc):Pure (.sl 1 (xs.map fun x=>Sv x) none):=qa7 fun x hx=>by
 simp only [List.mem_map] at hx
 obtain⟨l,_,rfl⟩:=hx
 intro y hy
 simp [AV.cells] at hy
 subst hy
 exact q8 _
def qko (r:qaj) (n:Int):Prop:=r.lo≤n∧n≤r.hi
instance (r:qaj) (n:Int):Decidable (qko r n):=inferInstanceAs (Decidable (_∧_))
def qxy (r:qaj) (l:qc):Prop:=∃ n,numZ l=some n∧qko r n
instance (r:qaj) (l:qc):Decidable (qxy r l):=
 match h:numZ l with
 |some n=>decidable_of_iff (qko r n) ⟨fun h'=>⟨n,h,h'⟩,fun ⟨m,h1,h2⟩=>by rw [h] at h1;cases h1;exact h2⟩
 |none=>.isFalse fun ⟨m,h1,_⟩=>by rw [h] at h1;cases h1
def qvp (r:qaj) (f:FldV):Prop:=
 (r.kind=3→f.1=r.key→qxy r f.2)∧(r.kind=4→f.1=r.key→f.2∈qyd r.text)∧(r.kind=5→f.1=r.key→qko r f.2.length)∧(r.kind=6→f.1∈qyd r.text)
instance (r:qaj) (f:FldV):Decidable (qvp r f):=inferInstanceAs (Decidable (_∧_∧_∧_))
def qj0 (key:qc) (xs:List FldV):List qc:=(xs.filter fun f=>f.1=key).map Prod.snd
def q7e (r:qaj) (xs:List FldV):Prop:=q6r r∧((r.kind=1∧(qj0 r.key xs).length=0)∨(r.kind=2∧1<(qj0 r.key xs).length)∨(r.kind≠1∧r.kind≠2∧xs.any (fun f=> !decide (qvp r f))=true))
instance (r:qaj) (xs:List FldV):Decidable (q7e r xs):=inferInstanceAs (Decidable (_∧(_∨_∨_)))
def badR (r:qaj) (f:FldV):Bool:= !decide (qvp r f)
def cntR (r:qaj) (xs:List FldV):Nat:=if r.kind=6 then 0 else (qj0 r.key xs).length
end Go.Proofs.YtejoahlpbckbeaaGreatDoor
namespace Go.Av
open Go Go.RowKit Go.WideShapes Go.ChangeShapes Go.Deep
def RelK (G:Gh) (us:List AV) (cs:List Value):Prop:=us.length=cs.length∧∀ (i:Nat) (x:AV) (y:Value),us[i]? = some x→cs[i]? = some y→Rel G x y
theorem RelK.one {G:Gh} {a:AV} {v:Value} (h:RelK G [a] [v]):Rel G a v:=h.2 0 a v rfl rfl
def fieldsOf (P:Program) (t:TypeId):Array Field:=match P.underlying t with|some (.struct fs)=>fs | _=> #[]
end Go.Av
namespace Go.Proofs.YtejoahlpbckbeaaGreatDoor
open Go Go.Av Go.RowKit Go.Proofs Go.Pl
structure qr where
 kind:Int
 id:Int
 fields:List FldV
@[reducible] def x2 (e : qr) : AV := .ag [Iv e.kind, Iv e.id, zr e.fields]
def qnn (k:Int):qc:=if k=1 then [32,114,101,112,108,97,99,101,32] else if k=2 then [32,100,101,108,101,116,101,32] else if k=3 then [32,105,110,115,101,114,116,32] else []
def qdg (e:qr):qc:=if 1≤e.kind∧e.kind≤3 then qnn e.kind++Lib.itoa e.id else []
end Go.Proofs.YtejoahlpbckbeaaGreatDoor
namespace Go.Av
open Go Go.RowKit
def noop (o:Oper):Oper:={ o with op:=.move (.const undef),guard:=none }
section
variable {F : Fence} {n : Nat} {P : Program} {ops ops' : Array Oper} {md : Region.Mode} {C : World → Prop} {Q : Exit → Act → World → Prop} {k : Nat} {o : Oper}
theorem qg5 {listed:Array Bool}:∀ k,listed.getD k true=false→∃ j,j≤k∧listed.getD j true=false∧∀ i,i<j→listed.getD i true=true:=by
 intro k
 induction k using Nat.strongRecOn with
 | _ k ih=>
  intro h
  by_cases hall:∀ i,i<k→listed.getD i true=true
  ·exact⟨k,Nat.le_refl _,h,hall⟩
  ·have ⟨i,hi⟩:=Classical.not_forall.1 hall
   have ⟨hi1,hi2⟩:=Classical.not_imp.1 hi
   obtain⟨j,h1,h2,h3⟩:=ih i hi1 (by simpa using hi2)
   exact⟨j,by omega,h2,h3⟩
theorem qry {listed:Array Bool} {i:Nat} (h:listed.getD i true=true) (hi:i<listed.size):listed.getD i false=true:=by
 simp [Array.getD,hi] at h ⊢
 exact h
theorem qwj {listed:Array Bool} {i:Nat} (h:listed.getD i true=false) (h2:listed.getD i false=true):False:=by
 unfold Array.getD at h h2
 by_cases hi:i<listed.size
 ·rw [dif_pos hi] at h h2
  rw [h] at h2
  cases h2
 ·rw [dif_neg hi] at h
  cases h
theorem qlc {listed:Array Bool} {j:Nat} (hsz:listed.size=ops.size) (hord:∀ (j:Nat) o,ops[j]? = some o→∀ e∈o.after,e.on<j) (hj:listed.getD j true=false) (hall:∀ i,i<j→listed.getD i true=true):j∈Region.ready md ops listed:=by
 have hlt:j<listed.size:=by
  rcases Nat.lt_or_ge j listed.size with h|h
  ·exact h
  ·simp [Array.getD,Nat.not_lt.2 h] at hj
 rw [mem_ready]
 have ho:ops[j]? = some ops[j]:=Array.getElem?_eq_getElem (by omega)
 exact⟨hj,_,ho,fun e he _=>qry (hall _ (hord j _ ho e he)) (by have:=hord j _ ho e he;omega)⟩
theorem qh4 {listed:Array Bool} (hs:ops.size=ops'.size) (hk:ops[k]? = some o) (hk':ops'[k]? = some (noop o)) (hoth:∀ j,j≠k→ops'[j]? = ops[j]?):Region.ready md ops' listed=Region.ready md ops listed:=by
 unfold Region.ready
 rw [hs]
 refine List.filter_congr fun i _=>?_
 by_cases h:i=k
 ·subst h;rw [hk,hk'];rfl
 ·rw [hoth i h]
theorem qvx (hd:o.dst=none) (hk:ops[k]? = some o) (hk':ops'[k]? = some (noop o)) (hoth:∀ j,j≠k→ops'[j]? = ops[j]?) (t:Array Value):yielded ops' t=yielded ops t:=by
 funext j
 unfold yielded
 by_cases h:j=k
 ·subst h;rw [hk,hk'];simp [noop,hd]
 ·rw [hoth j h]
theorem qj2 (hro:F.round=none) (hsz:ops.size=ops'.size) (hk:ops[k]? = some o) (hk':ops'[k]? = some (noop o)) (hoth:∀ j,j≠k→ops'[j]? = ops[j]?) (hd:o.dst=none)
  (hord:∀ (j:Nat) o,ops[j]? = some o→∀ e∈o.after,e.on<j) (hcov:∀ j,j<ops.size→j≠k→∃ e∈o.after,Region.binds md e=true∧e.on=j) :
  ∀ (fuel:Nat) (listed:Array Bool) (a:Act) (w:World),C w→listed.size=ops.size→listed.getD k true=false→wpAnyQIn F n P md ops' C (fun a=>∀ w,C w→wpOpIn F n P ops Q k (Q .normal) a w) fuel listed a→wpAnyIn F n P md ops Q fuel listed a w
 | 0,listed,a,w,hC,hs,hun,h=>by
  have ⟨j,_,h2,h3⟩:=qg5 k hun
  have:=qlc (md:=md) hs hord h2 h3
  rw [← qh4 hsz hk hk' hoth,h.1] at this
  cases this
 |fuel+1,listed,a,w,hC,hs,hun,h=>by
  obtain⟨hq1,hq2⟩:=h
  rw [qh4 hsz hk hk' hoth] at hq1 hq2
  refine⟨fun h0=>?_,fun i hi=>?_⟩
  ·have ⟨j,_,h2,h3⟩:=qg5 k hun
   have:=qlc (md:=md) hs hord h2 h3
   rw [h0] at this
   cases this
  ·have hqi:=hq2 i hi
   by_cases hik:i=k
   ·subst hik
    obtain⟨_,o',ho',hall⟩:=mem_ready.1 hi
    rw [hk] at ho'
    cases ho'
    have hr:Region.ready md ops (listed.setIfInBounds i true)=[]:=by
     rw [List.eq_nil_iff_forall_not_mem]
     intro j hj
     obtain⟨hju,oj,hoj,_⟩:=mem_ready.1 hj
     have hjs:j<ops.size:=by
      rcases Nat.lt_or_ge j ops.size with h|h
      ·exact h
      ·rw [Array.getElem?_eq_none h] at hoj;cases hoj
     by_cases hji:j=i
     ·subst hji
      simp [Array.getD,hs,hjs] at hju
     ·obtain⟨e,he,hb,heq⟩:=hcov j hjs hji
      have h5:=hall e he hb
      rw [heq] at h5
      rw [getD_set_ne true (Ne.symm hji)] at hju
      exact qwj hju h5
    unfold qOpIn at hqi
    rw [hk'] at hqi
    simp only at hqi
    have hqe:=hqi.2
    have hwn:Region.wanted (noop o) (yielded ops' a.tmps)=true:=by simp [noop,Region.wanted]
    rw [if_pos hwn] at hqe
    obtain⟨v,_,hK⟩:=hqe
    have hput:a.put (noop o).dst v=a:=by simp [noop,hd,Act.put]
    rw [hput] at hK
    have hQ':∀ w,C w→wpOpIn F n P ops Q i (Q .normal) a w:=by
     cases fuel with
     |zero=>exact hK.2
     |succ fuel=>exact hK.1 (by rw [qh4 hsz hk hk' hoth];exact hr)
    exact wpOpIn_mono (fun a' w' h'=>wpAnyIn_done hr h' _) (hQ' w hC)
   ·have he:qOpIn F n P ops C i (wpAnyQIn F n P md ops' C (fun a=>∀ w,C w→wpOpIn F n P ops Q k (Q .normal) a w) fuel (listed.setIfInBounds i true)) a:=by
     unfold qOpIn at hqi ⊢
     rw [hoth i hik] at hqi
     rw [← qvx hd hk hk' hoth]
     exact hqi
    refine wpOpIn_of_qOpIn hro hC (fun a' w' hC' hX=>qj2 hro hsz hk hk' hoth hd hord hcov fuel _ a' w' hC' (by simpa using hs) ?_ hX) he
    rw [getD_set_ne true hik]
    exact hun
def qcd {α : Type}:List α→Option (List α×α)
 | []=>none
 | [x]=>some ([],x)
 |x::y::r=>match qcd (y::r) with
  |some (l,o)=>some (x::l,o)
  |none=>none
theorem qjv {α : Type}:∀ {L l:List α} {o : α},qcd L=some (l,o)→L=l++[o]
 | [],_,_,h=>by simp [qcd] at h
 | [x],_,_,h=>by simp [qcd] at h;obtain⟨rfl,rfl⟩:=h;rfl
 |x::y::r,l,o,h=>by
  unfold qcd at h
  split at h
  ·rename_i l' o' he
   simp only [Option.some.injEq,Prod.mk.injEq] at h
   obtain⟨rfl,rfl⟩:=h
   rw [qjv he]
   rfl
  ·simp at h
def qxl (o:Oper) (k:Nat):Bool:=(List.range k).all fun j=>o.after.toList.any fun e=>Region.binds .any e && Nat.beq e.on j
def qus (ops:List Oper):Bool:=(List.range ops.length).all fun j=>match ops[j]? with|some o=>o.after.toList.all fun e=>Nat.blt e.on j|none=>true
end
section
variable {E : Env} {N : Nat} {s : AS}
theorem q1a {id:Nat} {L l:List Oper} {o:Oper} {Q:Exit→AS→Prop} (hsp:qcd L=some (l,o)) (hd:o.dst=none) (hcov:qxl o l.length=true) (hord:qus L=true) (hm:E.P.follows .mixedOrders=true) (hB:Region.lexB .any (l++[noop o]).toArray=true)
  (h:AQ E N (l++[noop o]).toArray l (fun s'=>AOps E none N L.toArray [o] (Q .normal) s') s):AWp E none N (.region id L.toArray true) Q s:=by
 have hLe:=qjv hsp
 subst hLe
 refine⟨fun B0 w0 G a w hL hI=>?_⟩
 have hB2:=hB
 simp only [Region.lexB,Bool.and_eq_true] at hB2
 have hk:(l++[o]).toArray[l.length]? = some o:=by simp
 have hk':(l++[noop o]).toArray[l.length]? = some (noop o):=by simp
 have hoth:∀ j,j≠l.length→(l++[noop o]).toArray[j]? = (l++[o]).toArray[j]?:=fun j hj=>by
  simp only [List.getElem?_toArray]
  rcases Nat.lt_or_ge j l.length with h|h
  ·rw [List.getElem?_append_left h,List.getElem?_append_left h]
  ·rw [List.getElem?_eq_none (by simp;omega),List.getElem?_eq_none (by simp;omega)]
 have hordP:∀ (j:Nat) o',(l++[o]).toArray[j]? = some o'→∀ e∈o'.after,e.on<j:=fun j o' hj e he=>by
  simp only [qus,List.all_eq_true,List.mem_range] at hord
  simp only [List.getElem?_toArray] at hj
  have h1:=hord j (lt_of_getElem? hj)
  rw [hj] at h1
  simp only at h1
  have h2:=List.all_eq_true.1 h1 e (by simpa using he)
  exact Nat.le_of_ble_eq_true h2
 have hcovP:∀ j,j<(l++[o]).toArray.size→j≠l.length→∃ e∈o.after,Region.binds .any e=true∧e.on=j:=fun j hj hne=>by
  simp only [qxl,List.all_eq_true,List.mem_range] at hcov
  have h1:=hcov j (by simp at hj;omega)
  obtain⟨e,he,h2⟩:=List.any_eq_true.1 h1
  simp only [Bool.and_eq_true] at h2
  exact⟨e,by simpa using he,h2.1,Nat.eq_of_beq_eq_true h2.2⟩
 have hBl:Below w.heap.size w { w with drawn:=w.drawn+1 }:=⟨rfl,rfl,rfl,Nat.le_refl _,fun _ _=>rfl⟩
 refine wpIn_region_any hm (qj2 (C:=fun w'=>Below w.heap.size w w') (ops':=(l++[noop o]).toArray) (k:=l.length) rfl (by simp) hk hk' hoth hd hordP hcovP _ _ _ _ hBl (by simp) (by simp [Array.getD]) ?_)
 have hq:wpQuietIn (fw none) 0 E.P (l++[noop o]).toArray (fun w'=>Below w.heap.size w w') (fun a=>∀ w',Below w.heap.size w w'→wpOpIn (fw none) 0 E.P (l++[o]).toArray (fun e a' w'=>∃ (G':Gh) (s':AS),G.le G'∧Inv B0 w0 N G' s' a' w'∧Q e s') l.length (fun a' w'=>∃ (G':Gh) (s':AS),G.le G'∧Inv B0 w0 N G' s' a' w'∧Q .normal s') a w') (l++[noop o]) a:=by
  have step:∀ (l1:List Oper) (a:Act) (X:Act→Prop),wpQuietIn (fw none) 0 E.P (l++[noop o]).toArray (fun w'=>Below w.heap.size w w') X l1 a→wpQuietIn (fw none) 0 E.P (l++[noop o]).toArray (fun w'=>Below w.heap.size w w') X (l1++[noop o]) a:=by
   intro l1
   induction l1 with
   |nil=>
    intro a X hX
    refine⟨fun _ _ _ hf=>?_,?_⟩
    ·simp [Oper.about,noop] at hf
    ·have hwn:Region.wanted (noop o) (yielded (l++[noop o]).toArray a.tmps)=true:=by simp [noop,Region.wanted]
     rw [if_pos hwn]
     refine⟨undef,fun w' _=>?_,?_⟩
     ·unfold Oper.quietAtIn
      simp [noop,execOp,Oper.quietUponIn,Act.eval]
     ·have hput:a.put (noop o).dst undef=a:=by simp [noop,hd,Act.put]
      rw [hput]
      exact hX
   |cons o1 l1 ih=>
    intro a X hX
    refine⟨hX.1,?_⟩
    have h2:=hX.2
    split
    ·rename_i hw
     rw [if_pos hw] at h2
     obtain⟨v,h3,h4⟩:=h2
     exact⟨v,h3,ih _ _ h4⟩
    ·rename_i hw
     rw [if_neg hw] at h2
     exact ih _ _ h2
  refine step l a _ (h.run B0 w0 G a w hL hI _ fun s' a' hI' hst hks w' hw'=>?_)
  have hI2:Inv B0 w0 N G s' a' w':=⟨hI'.agree.fresh hw',hI'.defers,hI'.size,hI'.tmps⟩
  have hr:=hks.run B0 w0 G a' w' hL hI2 (fun e a' w'=>∃ (G':Gh) (s':AS),G.le G'∧Inv B0 w0 N G' s' a' w'∧Q e s') (fun G' s'' a'' w'' hG hI3 hQ=>⟨G',s'',hG,hI3,hQ⟩)
  unfold wpOpIn
  rw [hk]
  exact hr
 have:=wpAnyQIn_lex (F:=fw none) (n:=0) (C:=fun w'=>Below w.heap.size w w') (md:=.any) hB2.1 (l++[noop o]) 0 (Array.replicate (l++[noop o]).length false) a (by simp) (by simpa using hB2.2) hq
 simpa using this
variable {ops : Array Oper} {K : AS → Prop} {rest : List Oper} {d : Option Tmp} {T : TypeId} {p : String} {af : Array Edge}
theorem qp9 {x y:Operand} {t t':TypeId} {m n:List UInt8} (hx:qf N s x=Sv m) (hy:qf N s y=Sv n) (hl:m.length+n.length<9223372036854775808)
  (h:AQ E N ops rest K (s.put d (Sv (m++n)))):AQ E N ops (⟨d,.binOp .add t x y t',T,p,af,none⟩::rest) K s:=
 x9 _ rfl nofun (fun a w he=>by
  simp only [execOp,he _ _ hx,he _ _ hy,eqGuard_at_string,binOp,Op.stringOp,xp,qp7,IntKind.max_i64]
  rw [if_neg (by omega)]
  simp) h
theorem qs5 {x y:Operand} {t e:TypeId} {sz:Nat} {agg:Bool} {xs:List AV} {tip:Option Nat} {k:IntKind} {i:Int} {n:Nat} {z:AV} (hx:qf N s x = .sl sz xs tip) (hy:qf N s y = .v (.int k i)) (hu:E.P.underlying t=some (.slice e)) (ht:tyOf E.P e=some (sz,agg)) (hi:i=n) (hz:xs[n]? = some z)
  (h:AQ E N ops rest K (s.put d (.pp z.cells))):AQ E N ops (⟨d,.indexAddr t x y,T,p,af,none⟩::rest) K s:=by
 refine qbo rfl nofun fun B0 w0 G a w _ hI=>?_
 subst hi
 have he:=hI.eval_of hx
 have hey:=hI.evalv hy
 generalize hv:a.eval x=v at he
 have hlt:=lt_of_getElem? hz
 cases he with
 |sl0=>simp at hz
 |sl _ _ _ b off cap pub hp hw hlen hrel htip hcap=>
  have hzs:z.cells.length=sz:=hw z (List.mem_of_getElem? hz)
  have hfl:=zo hw
  have hle:(n+1) * sz≤xs.length * sz:=Nat.mul_le_mul_right _ hlt
  rw [Nat.succ_mul] at hle
  refine⟨.pointer (some ⟨b,off+n * sz,none⟩),.pp z.cells,fun w' _=>?_,?_,h⟩
  ·generalize a.eval = ρ at hv hey
   simp only [execOp,hv,hey]
   simp [Instr.indexAt,asIntOf,run_underlying hu,hlt,(jz ht w').1,Addr.add_lit]
  ·refine .pp _ b _ pub hp (by omega) fun j q r h1 h2=>?_
   have hj:j<sz:=by have:=lt_of_getElem? h1;omega
   have hf:=qhk hw hz j hj
   exact hrel (n * sz+j) q r (by rw [hf];exact h1) (by rw [← h2];congr 1;omega)
theorem qm0 {x y:Operand} {t e:TypeId} {sz:Nat} {agg:Bool} {o ver off len cp:Nat} {k:IntKind} {i:Int} {n:Nat} (hx:qf N s x = .os o ver off len cp) (hy:qf N s y = .v (.int k i)) (hu:E.P.underlying t=some (.slice e)) (ht:tyOf E.P e=some (sz,agg)) (hi:i=n) (hn:n<len)
  (h:AQ E N ops rest K (s.put d (.bx o ver (off+n * sz)))):AQ E N ops (⟨d,.indexAddr t x y,T,p,af,none⟩::rest) K s:=by
 refine qbo rfl nofun fun B0 w0 G a w _ hI=>?_
 subst hi
 have he:=hI.eval_of hx
 have hey:=hI.evalv hy
 generalize hv:a.eval x=v at he
 cases he with
 |os _ _ _ _ b cap hn' hver hb=>
  refine⟨.pointer (some ⟨b,off+n * sz,none⟩),_,fun w' _=>?_,.bx o ver _ b hn' hver hb,h⟩
  generalize a.eval = ρ at hv hey
  simp only [execOp,hv,hey]
  simp [Instr.indexAt,asIntOf,run_underlying hu,hn,(jz ht w').1,Addr.add_lit]
theorem qmy {t:TypeId} {x:Operand} {f off sz:Nat} {agg:Bool} {o ver q:Nat} (hx:qf N s x = .bx o ver q) (hf:x6 E.P t f=some (off,sz,agg)) (hsz:Nat.beq sz 0=false)
  (h:AQ E N ops rest K (s.put d (.bx o ver (q+off)))):AQ E N ops (⟨d,.fieldAddr t x f,T,p,af,none⟩::rest) K s:=by
 refine qbo rfl nofun fun B0 w0 G a w _ hI=>?_
 have he:=hI.eval_of hx
 generalize hv:a.eval x=v at he
 cases he with
 |bx _ _ _ b hn hv' hb=>
  have hs:sz≠0:=fun e=>by subst e;simp at hsz
  exact⟨_,_,fun w' _=>by simp only [execOp,hv];simp [qdj hf hs],.bx o ver _ b hn hv' hb,h⟩
theorem qmz {t:TypeId} {x:Operand} {f off sz:Nat} {agg:Bool} {cs:List AV} (hx:qf N s x = .pp cs) (hf:x6 E.P t f=some (off,sz,agg)) (hsz:Nat.beq sz 0=false) (hle:Nat.ble off cs.length=true)
  (h:AQ E N ops rest K (s.put d (.pp (cs.drop off)))):AQ E N ops (⟨d,.fieldAddr t x f,T,p,af,none⟩::rest) K s:=by
 refine qbo rfl nofun fun B0 w0 G a w _ hI=>?_
 have he:=hI.eval_of hx
 generalize hv:a.eval x=v at he
 cases he with
 |pp _ b q pub hp hlen hrel=>
  have hs:sz≠0:=fun e=>by subst e;simp at hsz
  have ho:off≤cs.length:=Nat.le_of_ble_eq_true hle
  refine⟨.pointer (some ⟨b,q+off,none⟩),_,fun w' _=>by simp only [execOp,hv];simp [qdj hf hs],?_,h⟩
  exact .pp _ b (q+off) pub hp (by simp;omega) fun i x y h1 h2=>hrel (off+i) x y (by simpa using h1) (by rw [← h2];congr 1;omega)
theorem qm2 {x:Operand} {t:TypeId} {sz:Nat} {agg:Bool} {cs:List AV} {r:AV} (hx:qf N s x = .pp cs) (ht:tyOf E.P t=some (sz,agg)) (hr:jp sz agg 0 cs=some r)
  (h:AQ E N ops rest K (s.put d r)):AQ E N ops (⟨d,.load t x,T,p,af,none⟩::rest) K s:=by
 refine qbo rfl nofun fun B0 w0 G a w _ hI=>?_
 have he:=hI.eval_of hx
 generalize hv:a.eval x=v at he
 cases he with
 |pp _ b off pub hp hlen hrel=>
  obtain⟨c,T',fz,hc,hcc⟩:=hI.agree.pub b pub hp
  have hlt:b<w.heap.size:=hI.agree.pub_lt hp
  have key:∀ w',Below w.heap.size w w'→∃ v,(loadVar t ⟨b,off,none⟩).run E.P w' = .ok v w'∧Rel G r v:=fun w' hw'=>by
   have h4':w'.heap[b]? = some (.cells c T' fz):=by rw [hw'.block _ hlt];exact hc
   exact xo (w:=w') (G:=G) (b:=b) (off:=off) ht (fun i x hx _=>by
    have hi:=lt_of_getElem? hx
    have hy:pub[off+i]? = some (pub[off+i]'(by omega)):=List.getElem?_eq_getElem (by omega)
    refine⟨_,?_,hrel i x _ hx hy⟩
    simp [World.cell?,h4',hcc _ _ hy]) hr
  have hg:∀ w',Below w.heap.size w w'→∀ j,j<cs.length→w'.cell? ⟨b,off+j,none⟩=some (pub.getD (off+j) undef):=fun w' hw' j hj=>by
   have h4':w'.heap[b]? = some (.cells c T' fz):=by rw [hw'.block _ hlt];exact hc
   have hlt2:off+j<pub.length:=by omega
   have hy:pub[off+j]? = some (pub.getD (off+j) undef):=by simp [List.getD,hlt2]
   simp [World.cell?,h4',hcc _ _ hy]
  have hsame:∀ w',Below w.heap.size w w'→∀ v,(loadVar t ⟨b,off,none⟩).run E.P w = .ok v w→(loadVar t ⟨b,off,none⟩).run E.P w' = .ok v w':=fun w' hw' v hr1=>by
   obtain⟨i1,i2⟩:=jz ht w
   obtain⟨j1,j2⟩:=jz ht w'
   obtain⟨v',h1',_⟩:=key w' hw'
   rw [h1']
   congr 1
   cases agg with
   |false=>
    simp only [jp,cond_false] at hr
    have h0:=lt_of_getElem? hr
    have e1:=hg w (Below.refl _ _) 0 h0
    have e2:=hg w' hw' 0 h0
    rw [Nat.add_zero] at e1 e2
    simp [loadVar,i2,run_load,e1] at hr1
    simp [loadVar,j2,run_load,e2] at h1'
    rw [← h1',hr1]
   |true=>
    simp only [jp,cond_true] at hr
    cases hb2:Nat.ble (0+sz) cs.length with
    |false=>rw [hb2] at hr;simp at hr
    |true=>
     have hle:0+sz≤cs.length:=Nat.le_of_ble_eq_true hb2
     have l1:=run_loadCells (P:=E.P) (w:=w) ⟨b,off,none⟩ sz (fun j=>pub.getD (off+j) undef) (fun j hj=>by rw [Addr.add_lit];exact hg w (Below.refl _ _) j (by omega))
     have l2:=run_loadCells (P:=E.P) (w:=w') ⟨b,off,none⟩ sz (fun j=>pub.getD (off+j) undef) (fun j hj=>by rw [Addr.add_lit];exact hg w' hw' j (by omega))
     simp [loadVar,i1,i2,l1] at hr1
     simp [loadVar,j1,j2,l2] at h1'
     rw [← h1',hr1]
  obtain⟨v,hrun,hR⟩:=key w (Below.refl _ _)
  exact⟨v,r,fun w' hw'=>by simp only [execOp,hv,Instr.loadAt,Instr.sureAddr];simp [hsame w' hw' v hrun],hR,h⟩
theorem q90 {x y:Operand} {t t':TypeId} {k:IntKind} {m n r:Int} (hx:qf N s x = .v (.int k m)) (hy:qf N s y = .v (.int k n)) (hr:k.wrap (m - n)=r)
  (h:AQ E N ops rest K (s.put d (.v (.int k r)))):AQ E N ops (⟨d,.binOp .sub t x y t',T,p,af,none⟩::rest) K s:=
 x9 _ rfl nofun (fun a w he=>by rw [← hr];simp [execOp,he _ _ hx,he _ _ hy,eqGuard_at_int,binOp,Op.intArith]) h
theorem q67 {x y z:Operand} {t:TypeId} {k k':IntKind} {l:List UInt8} {i j:Nat} (hx:qf N s x=Sv l) (hy:qf N s y = .v (.int k' (i:Int))) (hz:qf N s z = .v (.int k (j:Int))) (hu:E.P.underlying t=some .string) (h1:i≤j) (h2:j≤l.length)
  (h:AQ E N ops rest K (s.put d (Sv ((l.take j).drop i)))):AQ E N ops (⟨d,.slice t x (some y) (some z) none,T,p,af,none⟩::rest) K s:=
 qll (i:=i) (j:=j) hx hu ⟨_,hy⟩ ⟨_,hz⟩ (by omega) (by omega) (by omega) (by simpa using h)
theorem q65 {x:Operand} {ts:Array TypeId} {t0 e:TypeId} {v:AV} {n:Nat} (hx:qf N s x=v) (hl:lenA v=some n) (ht:ts[0]? = some t0) (hu:E.P.underlying t0=some (.slice e))
  (h:AQ E N ops rest K (s.put d (Iv n))):AQ E N ops (⟨d,.call ⟨.builtin .len,#[x],ts⟩,T,p,af,none⟩::rest) K s:=by
 refine qbo rfl nofun fun B0 w0 G a w _ hI=>?_
 have he:=hI.eval_of hx
 have key:∃ b c,a.eval x = .slice b n c:=by
  generalize a.eval x=u at he
  cases he <;> simp [lenA] at hl
  case v y=>
   cases u <;> simp at hl
   subst hl
   exact⟨_,_,rfl⟩
  case sl0=>subst hl;exact⟨_,_,rfl⟩
  case sl=>subst hl;exact⟨_,_,rfl⟩
  case os=>subst hl;exact⟨_,_,rfl⟩
 obtain⟨b,c,hv⟩:=key
 refine⟨.int .i64 n,Iv n,fun w' _=>?_,.v _,h⟩
 generalize a.eval = ρ at hv
 simp [execOp,resolve,invoke,builtin,Builtin.len_,hv,ht,run_underlying hu,goInt]
theorem qv4 {x:Operand} {t:TypeId} {sz:Nat} {agg:Bool} {st loc ext new:List AObj} {k ver off:Nat} {T':TypeId} {cs:List AV} {r:AV} (hs:s.st=((st++loc)++ext)++new) (hx:qf N s x = .bx (st.length+k) ver off) (ho:loc[k]? = some (.cells ver T' cs)) (ht:tyOf E.P t=some (sz,agg)) (hr:jp sz agg off cs=some r)
  (h:AQ E N ops rest K (s.put d r)):AQ E N ops (⟨d,.load t x,T,p,af,none⟩::rest) K s:=
 qm1 hx (by rw [hs];exact qb7 ho) ht hr h
end
end Go.Av
