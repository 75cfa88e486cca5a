/- Contracts and plain facts that the closing text leans on (part 2). No condition of their own beyond those that each states. -/
import Derived.Test.YtneejjefekdgjaaGreatDoorK1
import Derived.Lib.Builder
import Derived.Laws.Pointers
import Derived.Laws.Externs
import Derived.Laws.Tables
import Derived.Test.YtneejjefekdgjaaGreatDoorK0
import Derived.Test.YtneejjefekdgjaaGreatDoorRows
import Derived.LaidHandle
import Derived.ProofKit
import Derived.OpenShut
import Derived.ShutString
import Derived.Deep.DeepHandedRow
import Derived.Deep.DeepWitnessRowRef
import Derived.Lib.LaidU8
import Derived.Lib.SmallJoins
import Derived.ChangeSame
import Derived.ChangeAgain
import Derived.Lay
import Derived.Lib.Index
import Derived.Lib.SlTrimSet
import Derived.Shelf.Strings.Prefix
import Derived.Shelf.Strings.Cut
import Derived.Lib.ItoaNum
import Derived.Lib.AtoiAll
import Derived.Lib.Repeat
import Derived.Lib.SplitLaws
import Derived.Shelf.Strings.SplitShaped
set_option maxRecDepth 100000
set_option linter.unusedVariables false
set_option linter.unusedSimpArgs false
namespace Go.Av
open Go Go.RowKit
section
variable {E : Env} {rd : Option Nat} {N : Nat} {ops : Array Oper} {K : AS → Prop} {s : AS} {rest : List Oper} {d : Option Tmp} {T : TypeId} {p : String} {af : Array Edge}
def q81:AV→Bool
 | .bx _ _ _=>true
 | .pp _=>true
 | _=>false
theorem zo {x:Operand} {r:AV} (hx:qj N s x=r) (hr:q81 r=true) (h:AOps E rd N ops rest K (s.put d r)):AOps E rd N ops (⟨d,.nilCheck x,T,p,af,none⟩::rest) K s:=by
 refine q7 rfl (qz nofun fun B0 w0 G a w _ hI=>?_)
 have he:=hI.eval_of hx
 have key:∃ q,a.eval x = .pointer (some q):=by
  generalize a.eval x=u at he
  cases he <;> simp [q81] at hr
  ·exact⟨_,rfl⟩
  ·exact⟨_,rfl⟩
 obtain⟨q,hv⟩:=key
 refine⟨_,w,G,r,s.st,?_,.refl G,hI.agree,hv▸he,h⟩
 generalize a.eval = ρ at hv
 simp [execOp,hv]
end
section
variable {B0 : Nat} {w0 : World} {G : Gh} {st : List AObj} {w : World}
theorem zl.refroze (h:zl B0 w0 G st w) {w':World} {g:Nat} {c:Array Value} {T:TypeId} {fz fz':Nat×Nat} (hg:w.heap[g]? = some (.cells c T fz)) (hg':w'.heap[g]? = some (.cells c T fz')) (ho:∀ k,k≠g→w'.heap[k]? = w.heap[k]?) (hB:B0≤g)
  (hsz:w'.heap.size=w.heap.size) (hos:w'.os=w.os) (htape:w'.tape=w.tape) (hout:w'.output=w.output) (hs:∀ o x,st[o]? = some x→x.live→(G.ob o).blk≠g):zl B0 w0 G st w':=by
 refine⟨h.below.trans ⟨hos,htape,hout,by omega,fun k hk=>ho k (by omega)⟩,by rw [hsz];exact h.hB,h.n,fun b vs hb=>?_,fun o x hx=>(h.ob o x hx).mono (.refl G) rfl (fun _=>rfl) (fun hl=>ho _ (hs o x hx hl)),h.sep⟩
 by_cases e:b=g
 ·subst e
  obtain⟨c2,T2,fz2,e1,e2⟩:=h.pub b vs hb
  rw [hg] at e1
  simp only [Option.some.injEq,Obj.cells.injEq] at e1
  exact⟨c,T,fz',hg',by rw [e1.1];exact e2⟩
 ·rw [ho b e]
  exact h.pub b vs hb
theorem zl.tipCell (h:zl B0 w0 G st w) {o ver j sz:Nat} {T T':TypeId} {cs:List AV} (ho:st[o]? = some (.cells ver T cs)) (hj:cs[j]? = some jw) :
  zl B0 w0 (G.new 0 0 0 false) (st.set o (.cells ver T (cs.set j (.sl sz [] (some st.length))))++[AObj.tip 0 sz T']) w:=by
 have h1:=h.newTip sz T'
 have hle:=G.le_new 0 0 0 false
 have hlt:=lt_of_getElem? ho
 have e:st.set o (.cells ver T (cs.set j (.sl sz [] (some st.length))))++[AObj.tip 0 sz T']=(st++[AObj.tip 0 sz T']).set o (.cells ver T (cs.set j (.sl sz [] (some st.length)))):=by
  rw [List.set_append_left _ _ hlt]
 rw [e]
 have ho':(st++[AObj.tip 0 sz T'])[o]? = some (.cells ver T cs):=by rw [List.getElem?_append_left hlt];exact ho
 generalize hG:G.new 0 0 0 false=G' at h1 hle
 have hn:st.length<G'.n:=by rw [h1.n];simp
 refine⟨h1.below,h1.hB,by simp [h1.n],h1.pub,fun k x hx=>?_,fun k k' x x' hne hx hx' hl hl'=>?_⟩
 ·rcases getElem?_set' _ _ _ _ _ hx with⟨rfl,rfl⟩ | ⟨hne,hx⟩
  ·obtain⟨g0,g1,g2,g3,c,g4,g5,g6⟩:=h1.ob k _ ho'
   refine⟨g0,g1,g2,g3,c,g4,by simpa using g5,fun i x y hx hy=>?_⟩
   rcases getElem?_set' _ _ _ _ _ hx with⟨rfl,rfl⟩ | ⟨_,hx⟩
   ·have:=g6 i _ y hj hy
    cases this
    exact .sl0 sz (some st.length) none 0 fun t ht=>by simp at ht;subst ht;exact⟨hn,rfl,rfl⟩
   ·exact g6 i x y hx hy
  ·exact h1.ob k x hx
 ·have key:∀ (k:Nat) (x:AObj),((st++[AObj.tip 0 sz T']).set o (.cells ver T (cs.set j (.sl sz [] (some st.length)))))[k]? = some x→∃ x0:AObj,(st++[AObj.tip 0 sz T'])[k]? = some x0∧(x.live→x0.live):=fun k x hx=>by
   rcases getElem?_set' _ _ _ _ _ hx with⟨rfl,rfl⟩ | ⟨_,hx⟩
   ·exact⟨_,ho',fun _=>trivial⟩
   ·exact⟨x,hx,id⟩
  obtain⟨x0,e1,e2⟩:=key k x hx
  obtain⟨x1,e3,e4⟩:=key k' x' hx'
  exact h1.sep k k' x0 x1 hne e1 e3 (e2 hl) (e4 hl')
end
section
variable {E : Env} {rd : Option Nat} {N : Nat} {ops : Array Oper} {K : AS → Prop} {s : AS} {rest : List Oper} {d : Option Tmp} {T : TypeId} {p : String} {af : Array Edge}
def qcp:AV→Option Bool
 | .bx _ _ _=>some false
 | .pp _=>some false
 | .v (.pointer none)=>some true
 | _=>none
theorem z4 {x:Operand} {t t' te:TypeId} {r:AV} {b:Bool} (hx:qj N s x=r) (hr:qcp r=some b) (hu:E.P.underlying t=some (.pointer te)) (h:AOps E rd N ops rest K (s.put d (Bv b))):AOps E rd N ops (⟨d,.binOp .eql t x (.const (.pointer none)) t',T,p,af,none⟩::rest) K s:=by
 refine q7 rfl (qz nofun fun B0 w0 G a w _ hI=>?_)
 have he:=hI.eval_of hx
 have key:∃ q:Option Addr,a.eval x = .pointer q∧q.isNone=b:=by
  generalize a.eval x=u at he
  cases he <;> try (simp [qcp] at hr;done)
  case v=>
   cases u <;> try (simp [qcp] at hr;done)
   case pointer q=>
    cases q <;> simp [qcp] at hr
    subst hr
    exact⟨_,rfl,rfl⟩
  case pp=>simp [qcp] at hr;subst hr;exact⟨_,rfl,rfl⟩
  case bx=>simp [qcp] at hr;subst hr;exact⟨_,rfl,rfl⟩
 obtain⟨q,hv,rfl⟩:=key
 have hc:a.eval (.const (.pointer none)) = .pointer none:=rfl
 have hq:=run_eql_pointer_nil (P:=E.P) w t q (by simp [Program.pointee,hu])
 refine⟨_,w,G,_,s.st,?_,.refl G,hI.agree,.v _,h⟩
 generalize a.eval = ρ at hv hc
 simp [execOp,hv,hc,eqGuard_at_pointer,hq]
theorem ji {x:Operand} {t t' te:TypeId} {r:AV} {b:Bool} (hx:qj N s x=r) (hr:qcp r=some b) (hu:E.P.underlying t=some (.pointer te)) (h:AOps E rd N ops rest K (s.put d (Bv !b))):AOps E rd N ops (⟨d,.binOp .neq t x (.const (.pointer none)) t',T,p,af,none⟩::rest) K s:=by
 refine q7 rfl (qz nofun fun B0 w0 G a w _ hI=>?_)
 have he:=hI.eval_of hx
 have key:∃ q:Option Addr,a.eval x = .pointer q∧q.isNone=b:=by
  generalize a.eval x=u at he
  cases he <;> try (simp [qcp] at hr;done)
  case v=>
   cases u <;> try (simp [qcp] at hr;done)
   case pointer q=>
    cases q <;> simp [qcp] at hr
    subst hr
    exact⟨_,rfl,rfl⟩
  case pp=>simp [qcp] at hr;subst hr;exact⟨_,rfl,rfl⟩
  case bx=>simp [qcp] at hr;subst hr;exact⟨_,rfl,rfl⟩
 obtain⟨q,hv,rfl⟩:=key
 have hc:a.eval (.const (.pointer none)) = .pointer none:=rfl
 have hq:=run_neq_pointer_nil (P:=E.P) w t q (by simp [Program.pointee,hu])
 refine⟨_,w,G,_,s.st,?_,.refl G,hI.agree,.v _,h⟩
 generalize a.eval = ρ at hv hc
 simp [execOp,hv,hc,eqGuard_at_pointer,hq]
theorem Inv.ptr {B0:Nat} {w0:World} {G:Gh} {a:Act} {w:World} (hI:Inv B0 w0 N G s a w) {x:Operand} {o ver off:Nat} {T1:TypeId} {cs:List AV} (hx:qj N s x = .bx o ver off) (ho:s.st[o]? = some (.cells ver T1 cs)):a.eval x = .pointer (some ⟨(G.ob o).blk,off,none⟩):=by
 have he:=hI.eval_of hx
 obtain⟨_,h1,_⟩:=hI.agree.ob o _ ho
 generalize a.eval x=v at he
 cases he with
 |bx _ _ _ b hn hv hb=>rw [hb h1]
theorem qre {x y:Operand} {t t' te:TypeId} {o ver off:Nat} {T1:TypeId} {cs:List AV} (hx:qj N s x = .bx o ver off) (hy:qj N s y = .bx o ver off) (ho:s.st[o]? = some (.cells ver T1 cs)) (hu:E.P.underlying t=some (.pointer te)) (hi:(E.P.info? te).isSome=true)
  (h:AOps E rd N ops rest K (s.put d (Bv false))):AOps E rd N ops (⟨d,.binOp .neq t x y t',T,p,af,none⟩::rest) K s:=by
 refine q7 rfl (qz nofun fun B0 w0 G a w _ hI=>?_)
 obtain⟨j,hj⟩:=Option.isSome_iff_exists.1 hi
 have h1:=hI.ptr hx ho
 have h2:=hI.ptr hy ho
 have hq:=Lib.run_neq_ptr_same (P:=E.P) w ⟨(G.ob o).blk,off,none⟩ hu hj
 refine⟨_,w,G,_,s.st,?_,.refl G,hI.agree,.v _,h⟩
 generalize a.eval = ρ at h1 h2
 simp [execOp,h1,h2,eqGuard_at_pointer,hq]
theorem qt1 {x:Operand} {t t' te:TypeId} {o ver:Nat} {T1:TypeId} {cs:List AV} (hx:qj N s x = .bx o ver 0) (ho:s.st[o]? = some (.cells ver T1 cs)) (hne:0<cs.length) (hs:E.P.underlying t=some (.pointer te)) (hd:E.P.underlying t'=some .unsafePointer) (hi:(match E.P.info? te with|some j=>Nat.beq j.size 0|none=>true)=false)
  (h:AOps E rd N ops rest K (s.put d (.bx o ver 0))):AOps E rd N ops (⟨d,.convert t t' x,T,p,af,none⟩::rest) K s:=by
 refine q7 rfl (qz nofun fun B0 w0 G a w _ hI=>?_)
 obtain⟨_,h1,h2,h3,c,h4,h5,h6⟩:=hI.agree.ob o _ ho
 have he:=hI.eval_of hx
 have hv:=hI.ptr hx ho
 cases hj:E.P.info? te with
 |none=>rw [hj] at hi;simp at hi
 |some j=>
  rw [hj] at hi
  have hj0:j.size≠0:=fun e=>by simp [e] at hi
  have hq:=Lib.run_to_unsafe (P:=E.P) w ⟨(G.ob o).blk,0,none⟩ hs hd hj hj0 (e:=T1) (cells:=c.size) (by simp [World.shape?,h4]) (by simpa [← h5] using hne)
  refine⟨_,w,G,_,s.st,?_,.refl G,hI.agree,hv▸he,h⟩
  generalize a.eval = ρ at hv
  simp [execOp,hv,hq]
theorem qpb {x:Operand} {t t' te:TypeId} {o ver:Nat} {T1:TypeId} {cs:List AV} (hx:qj N s x = .bx o ver 0) (ho:s.st[o]? = some (.cells ver T1 cs)) (hs:E.P.underlying t=some .unsafePointer) (hd:E.P.underlying t'=some (.pointer te)) (hi:(E.P.info? te).isSome=true) (hl:liesAt E.P E.P.depth T1 (cs.length / E.P.cellsOf T1) 0 te 1=true)
  (h:AOps E rd N ops rest K (s.put d (.bx o ver 0))):AOps E rd N ops (⟨d,.convert t t' x,T,p,af,none⟩::rest) K s:=by
 refine q7 rfl (qz nofun fun B0 w0 G a w _ hI=>?_)
 obtain⟨_,h1,h2,h3,c,h4,h5,h6⟩:=hI.agree.ob o _ ho
 obtain⟨j,hj⟩:=Option.isSome_iff_exists.1 hi
 have he:=hI.eval_of hx
 have hv:=hI.ptr hx ho
 have hq:=Lib.run_from_unsafe (P:=E.P) w ⟨(G.ob o).blk,0,none⟩ hs hd hj (e:=T1) (cells:=c.size) (by simp [World.shape?,h4]) (by rw [← h5];exact hl)
 refine⟨_,w,G,_,s.st,?_,.refl G,hI.agree,hv▸he,h⟩
 generalize a.eval = ρ at hv
 simp [execOp,hv,hq]
theorem qtz {f:FuncId} {x:Operand} {ts:Array TypeId} {r:AV} (hrun:∀ v w,(callFunc f #[v]).run E.P w = .ok (.value v) w) (hx:qj N s x=r)
  (h:AOps E rd N ops rest K (s.put d r)):AOps E rd N ops (⟨d,.call ⟨.value (.func f),#[x],ts⟩,T,p,af,none⟩::rest) K s:=by
 refine q7 rfl (qz nofun fun B0 w0 G a w _ hI=>?_)
 refine⟨a.eval x,w,G,_,s.st,?_,.refl G,hI.agree,hI.eval_of hx,h⟩
 have he:a.eval (.func f) = .func (.func f) #[] #[]:=rfl
 generalize a.eval = ρ at he
 simp [execOp,resolve,Deferred.ofValue,he,invoke,hrun]
theorem Inv.restate {B0:Nat} {w0:World} {G G':Gh} {a:Act} {w:World} {st':List AObj} (h:Inv B0 w0 N G s a w) (hG:G.le G') (hA:zl B0 w0 G' st' w):Inv B0 w0 N G' ⟨s.t,st',s.df⟩ a w:=
 ⟨hA,h.defers_mono hG,h.size,fun i y hy=>(h.tmps i y hy).mono hG⟩
theorem qvh {o ver j sz:Nat} {T1 T':TypeId} {cs:List AV} {l:List Oper} (ho:s.st[o]? = some (.cells ver T1 cs)) (hj:cs[j]? = some jw)
  (h:AOps E rd N ops l K ⟨s.t,s.st.set o (.cells ver T1 (cs.set j (.sl sz [] (some s.st.length))))++[AObj.tip 0 sz T'],s.df⟩):AOps E rd N ops l K s:=
 ⟨fun B0 w0 G a w hL hI Q hQ=>h.run B0 w0 _ a w hL (hI.restate (G.le_new 0 0 0 false) (hI.agree.tipCell ho hj)) Q fun G' s' a' w' hG=>hQ G' s' a' w' ((G.le_new 0 0 0 false).trans hG)⟩
theorem Inv.newTip {B0:Nat} {w0:World} {G:Gh} {a:Act} {w:World} (h:Inv B0 w0 N G s a w) {i sz:Nat} {T':TypeId} (hi:s.t i=jw):Inv B0 w0 N (G.new 0 0 0 false) ⟨Av.put s.t i (.sl sz [] (some s.st.length)),s.st++[AObj.tip 0 sz T'],s.df⟩ a w:=by
 have hA:=h.agree.newTip sz T'
 have h2:=h.restate (G.le_new 0 0 0 false) hA
 refine⟨h2.agree,h2.defers,h2.size,fun k y hy=>?_⟩
 by_cases e:k=i
 ·subst e
  show Rel _ (Av.put s.t k _ k) y
  rw [y8]
  have:=h2.tmps k y hy
  simp only [hi] at this
  cases this
  exact .sl0 sz _ none 0 fun t ht=>by simp at ht;subst ht;exact⟨by rw [hA.n];simp,rfl,rfl⟩
 ·show Rel _ (Av.put s.t i _ k) y
  rw [qbj _ _ _ _ e]
  exact h2.tmps k y hy
theorem qpi {i sz:Nat} {T':TypeId} {c:Code} {Q:Exit→AS→Prop} (hi:s.t i=jw)
  (h:AWp E rd N c Q ⟨Av.put s.t i (.sl sz [] (some s.st.length)),s.st++[AObj.tip 0 sz T'],s.df⟩):AWp E rd N c Q s:=
 ⟨fun B0 w0 G a w hL hI=>wpIn_mono (h.run B0 w0 _ a w hL (hI.newTip hi)) fun _ _ _ ⟨G',s',hG,h1,h2⟩=>⟨G',s',(G.le_new 0 0 0 false).trans hG,h1,h2⟩⟩
end
end Go.Av
namespace Go.Av
open Go Go.RowKit
theorem qwc:∀ (vs:List Value) (off n:Nat) (c:Array Value),off+n+vs.length≤c.size →
  ((vs.zipIdx n).foldl (fun (cs:Array Value) (x:Value×Nat)=>cs.setIfInBounds (off+x.2) x.1) c).size=c.size ∧
  ∀ k,((vs.zipIdx n).foldl (fun (cs:Array Value) (x:Value×Nat)=>cs.setIfInBounds (off+x.2) x.1) c)[k]? = if off+n≤k∧k<off+n+vs.length then vs[k - (off+n)]? else c[k]?
 | [],off,n,c,_=>⟨by simp,fun k=>by simp;intro h1 h2;omega⟩
 |v::vs,off,n,c,h=>by
  simp only [List.zipIdx_cons,List.foldl_cons,List.length_cons] at h ⊢
  obtain⟨h1,h2⟩:=qwc vs off (n+1) (c.setIfInBounds (off+n) v) (by simp;omega)
  refine⟨by rw [h1];simp,fun k=>?_⟩
  rw [h2 k]
  by_cases hk:k=off+n
  ·subst hk
   rw [if_neg (by omega),if_pos (by omega),Array.getElem?_setIfInBounds_self,if_pos (by omega)]
   simp
  ·by_cases hr:off+n≤k∧k<off+n+(vs.length+1)
   ·rw [if_pos (by omega),if_pos hr]
    rw [show k - (off+n)=(k - (off+(n+1)))+1 by omega]
    simp
   ·rw [if_neg (by omega),if_neg hr]
    rw [Array.getElem?_setIfInBounds,if_neg (by omega)]
def qcy (place:Nat→Option (Nat×Nat)) (cells:List AV):List (Nat×AV)→Option (List AV)
 | []=>some cells
 |(i,x)::rest=>
  match place i with
  |none=>none
  |some (off,size)=>bif x.okc && Nat.beq x.cells.length size && Nat.ble (off+size) cells.length then qcy place (jz cells off x.cells) rest else none
theorem qhp {G:Gh} (place:Nat→Option (Nat×Nat)):∀ (ps:List (Nat×AV)) (vs:List (Nat×Value)) (cs:List AV) (c:Array Value) (cs':List AV),ps.length=vs.length→(∀ (i:Nat) (p:Nat×AV) (v:Nat×Value),ps[i]? = some p→vs[i]? = some v→p.1=v.1∧Rel G p.2 v.2) →
  RelC G cs c→qcy place cs ps=some cs'→∃ c',Instr.fill place c vs=some c'∧RelC G cs' c'
 | [],[],cs,c,cs',_,_,hc,h=>by
  simp only [qcy,Option.some.injEq] at h
  subst h
  exact⟨c,rfl,hc⟩
 | [],v::vs,_,_,_,hl,_,_,_=>by simp at hl
 |p::ps,[],_,_,_,hl,_,_,_=>by simp at hl
 |(i,x)::ps,(j,v)::vs,cs,c,cs',hl,hr,hc,h=>by
  obtain⟨e,hx⟩:=hr 0 _ _ rfl rfl
  simp only at e hx
  subst e
  simp only [qcy] at h
  simp only [Instr.fill]
  cases hp:place i with
  |none=>simp [hp] at h
  |some q=>
   obtain⟨off,size⟩:=q
   simp only [hp] at h ⊢
   cases hb:(x.okc && Nat.beq x.cells.length size && Nat.ble (off+size) cs.length) with
   |false=>simp [hb] at h
   |true=>
    simp only [hb,cond_true] at h
    simp only [Bool.and_eq_true] at hb
    obtain⟨⟨hok,hsz⟩,hle⟩:=hb
    have hsz:=Nat.eq_of_beq_eq_true hsz
    have hle:=Nat.le_of_ble_eq_true hle
    have hcx:=hx.cells hok
    have hcs:v.cells.size=size:=by rw [← hcx.1];exact hsz
    have hfit:off+v.cells.size≤c.size:=by rw [hcs,← hc.1];exact hle
    rw [if_neg (by simp [hcs];rw [← hc.1];exact hle)]
    have hfold:v.cells.zipIdx.foldl (fun cs (x:Value×Nat)=>cs.setIfInBounds (off+x.2) x.1) c=(v.cells.toList.zipIdx 0).foldl (fun (cs:Array Value) (x:Value×Nat)=>cs.setIfInBounds (off+x.2) x.1) c:=by
     rw [← Array.foldl_toList,Array.toList_zipIdx]
    obtain⟨g1,g2⟩:=qwc v.cells.toList off 0 c (by simpa using hfit)
    have hnew:RelC G (jz cs off x.cells) ((v.cells.toList.zipIdx 0).foldl (fun (cs:Array Value) (x:Value×Nat)=>cs.setIfInBounds (off+x.2) x.1) c):=by
     refine⟨?_,fun k a y h1 h2=>?_⟩
     ·rw [g1,← hc.1]
      simp [jz]
      omega
     ·rw [g2] at h2
      have e1:(cs.take off).length=off:=by simp;omega
      simp only [jz,List.append_assoc] at h1
      by_cases hk:k<off
      ·rw [List.getElem?_append_left (by omega),List.getElem?_take,if_pos hk] at h1
       rw [if_neg (by omega)] at h2
       exact hc.2 k a y h1 h2
      ·rw [List.getElem?_append_right (by omega),e1] at h1
       by_cases hk2:k - off<x.cells.length
       ·rw [List.getElem?_append_left hk2] at h1
        rw [if_pos ⟨by omega,by simp;omega⟩] at h2
        exact hcx.2 (k - off) a y h1 (by simpa using h2)
       ·rw [List.getElem?_append_right (by omega),List.getElem?_drop] at h1
        rw [if_neg (by simp;omega)] at h2
        rw [show off+x.cells.length+(k - off - x.cells.length)=k by omega] at h1
        exact hc.2 k a y h1 h2
    have:=qhp place ps vs _ _ cs' (by simpa using hl) (fun i p v h1 h2=>hr (i+1) p v (by simpa using h1) (by simpa using h2)) hnew h
    rw [← hfold] at this
    exact this
section
variable {E : Env} {rd : Option Nat} {N : Nat} {ops : Array Oper} {K : AS → Prop} {s : AS} {rest : List Oper} {d : Option Tmp} {T : TypeId} {p : String} {af : Array Edge}
def x6 (N:Nat) (s:AS) (parts:Array (Nat×Operand)):List (Nat×AV):=parts.toList.map fun x=>(x.1,qj N s x.2)
def qrx (P:Program) (t:TypeId):Option (List (Nat×Nat)):=
 match P.underlying t with
 |some (.struct fs)=>fs.toList.mapM (fun f=>(P.info? f.type).map fun i=>(f.offset,i.size))
 | _=>none
theorem qir {B0:Nat} {w0:World} {G:Gh} {a:Act} {w:World} (hI:Inv B0 w0 N G s a w) (parts:Array (Nat×Operand)):∀ (i:Nat) (p:Nat×AV) (v:Nat×Value),(x6 N s parts)[i]? = some p→(parts.toList.map fun x=>(x.1,a.eval x.2))[i]? = some v→p.1=v.1∧Rel G p.2 v.2:=fun i p v h1 h2=>by
 simp only [x6,List.getElem?_map] at h1 h2
 cases hq:parts.toList[i]? with
 |none=>simp [hq] at h1
 |some z=>simp [hq] at h1 h2;subst h1;subst h2;exact⟨rfl,hI.eval _⟩
theorem ju {t:TypeId} {parts:Array (Nat×Operand)} {zs cs:List AV} {pl:List (Nat×Nat)} (hz:qix E.P t=some zs) (hp:qrx E.P t=some pl) (hf:qcy (pl[·]?) zs (x6 N s parts)=some cs)
  (h:AOps E rd N ops rest K (s.put d (.ag cs))):AOps E rd N ops (⟨d,.build t parts,T,p,af,none⟩::rest) K s:=by
 refine q7 rfl (qz nofun fun B0 w0 G a w _ hI=>?_)
 obtain⟨z,hrun,hr⟩:=qmg hz w
 obtain⟨c',h1,h2⟩:=qhp (pl[·]?) (x6 N s parts) (parts.toList.map fun x=>(x.1,a.eval x.2)) zs z.cells cs (by simp [x6]) (qir hI parts) (hr G) hf
 unfold qrx at hp
 split at hp
 ·rename_i fs hu
  refine⟨.agg c',w,G,.ag cs,s.st,?_,.refl G,hI.agree,.ag _ _ h2.1 h2.2,h⟩
  generalize a.eval = ρ at h1
  simp [execOp,Instr.build,run_underlying hu,hrun,Array.mapM_eq_mapM_toList,run_places w _ _ hp,h1]
 ·simp at hp
def qfv (P:Program) (e:TypeId) (n:Nat):Option (List AV):=
 match P.info? e with
 |some i=>bif Nat.beq (n * i.size) 0 then some [] else i.zero.map fun z=>(List.range (n * i.size)).map fun k=>.v (z.cells[k % z.cells.size]!)
 |none=>none
theorem qjb {B0:Nat} {w0:World} {G:Gh} {a:Act} {w:World} (hI:Inv B0 w0 N G s a w) {t e:TypeId} {len sz:Nat} {agg:Bool} {parts:Array (Nat×Operand)} {zs cs:List AV} (hu:E.P.underlying t=some (.slice e)) (ht:tyOf E.P e=some (sz,agg)) (hz:qfv E.P e len=some zs)
  (hf:qcy (fun i=>some (i * sz,sz)) zs (x6 N s parts)=some cs) (hsz:Nat.ble (len * sz) 16777216=true) :
  ∃ c':Array Value,(execOp a.eval ⟨d,.buildSlice t len parts,T,p,af,none⟩).run E.P w = .ok (.value (.slice (some ⟨w.heap.size,0,none⟩) len len)) (w.alloc (.cells c' e))∧RelC G cs c':=by
 have hsizeOf:=(xh ht w).1
 have hsz:=Nat.le_of_ble_eq_true hsz
 unfold qfv at hz
 cases hi:E.P.info? e with
 |none=>rw [hi] at hz;simp at hz
 |some i=>
  rw [hi] at hz
  simp only at hz
  have hs:i.size=sz:=by simpa [sizeOf,typeInfo,hi] using hsizeOf
  rw [hs] at hz
  -- the array that the run starts from
  have key:∃ c0:Array Value,RelC G zs c0∧∀ (Q:Array Value→Sem Value),((do
    let zero ← if len * sz=0 then pure #[] else do pure (← zeroValue e).cells
    Q ((Array.range (len * sz)).map (zero[· % zero.size]!)):Sem Value)).run E.P w=(Q c0).run E.P w:=by
   by_cases h0:len * sz=0
   ·rw [h0] at hz
    simp at hz
    subst hz
    exact⟨#[],⟨rfl,by simp⟩,fun Q=>by have e:Array.range 0 = #[]:=(by simp [Array.range]);simp [h0,e]⟩
   ·have:Nat.beq (len * sz) 0=false:=wb h0
    rw [this] at hz
    simp only [cond_false] at hz
    cases hzr:i.zero with
    |none=>rw [hzr] at hz;simp at hz
    |some z=>
     rw [hzr] at hz
     simp only [Option.map_some,Option.some.injEq] at hz
     subst hz
     refine⟨(Array.range (len * sz)).map (z.cells[· % z.cells.size]!),⟨by simp,fun k x y h1 h2=>?_⟩,fun Q=>by simp [h0,zeroValue,typeInfo,hi,hzr]⟩
     have hk:k<len * sz:=by have:=lt_of_getElem? h1;simpa using this
     simp [hk] at h1 h2
     subst h1;subst h2
     exact .v _
  obtain⟨c0,hc0,hrun0⟩:=key
  obtain⟨c',h1,h2⟩:=qhp (fun i=>some (i * sz,sz)) (x6 N s parts) (parts.toList.map fun x=>(x.1,a.eval x.2)) zs c0 cs (by simp [x6]) (qir hI parts) hc0 hf
  refine⟨c',?_,h2⟩
  ·generalize a.eval = ρ at h1
   have hb:¬ 16777216<len * sz:=by omega
   have hg:∃ m:String,(execOp ρ ⟨d,.buildSlice t len parts,T,p,af,none⟩).run E.P w=(((do
    let zero ← if len * sz=0 then pure #[] else do pure (← zeroValue e).cells
    (fun c=>(do
    let some cells:=Instr.fill (fun i=>some (i * sz,sz)) c (parts.map fun x=>(x.1,ρ x.2)).toList|stuck m
    pure (Value.slice (some (← newRow e cells)) len len):Sem Value)) ((Array.range (len * sz)).map (zero[· % zero.size]!)):Sem Value)).run E.P w).andThen fun v w'=>.ok (.value v) w':=by
    apply Exists.intro
    simp only [execOp,Instr.buildSlice]
    simp [run_underlying hu,hsizeOf,hb]
    rfl
   obtain⟨m,hg⟩:=hg
   have hQ:=hrun0 (fun c=>do
    let some cells:=Instr.fill (fun i=>some (i * sz,sz)) c (parts.map fun x=>(x.1,ρ x.2)).toList|stuck m
    pure (.slice (some (← newRow e cells)) len len))
   rw [hg,hQ]
   simp [h1,newRow,newObj,Sem.run]
theorem zr {t e:TypeId} {len sz:Nat} {agg:Bool} {parts:Array (Nat×Operand)} {zs cs xs:List AV} (hu:E.P.underlying t=some (.slice e)) (ht:tyOf E.P e=some (sz,agg)) (hz:qfv E.P e len=some zs)
  (hf:qcy (fun i=>some (i * sz,sz)) zs (x6 N s parts)=some cs) (hxs:(x6 N s parts).map Prod.snd=xs) (hlen:xs.length=len) (hfl:flat xs=cs) (hw:xs.all (fun x=>Nat.beq x.cells.length sz)=true) (hsz:Nat.ble (len * sz) 16777216=true)
  (h:AOps E rd N ops rest K (s.put d (.sl sz xs none))):AOps E rd N ops (⟨d,.buildSlice t len parts,T,p,af,none⟩::rest) K s:=by
 refine q7 rfl (qz nofun fun B0 w0 G a w _ hI=>?_)
 obtain⟨c',hrun,h2⟩:=qjb (d:=d) (T:=T) (p:=p) (af:=af) hI hu ht hz hf hsz
 obtain⟨hle,hA⟩:=hI.agree.newPub e c' (0,0) c'.toList (fun i y hy=>by simpa using hy)
 refine⟨.slice (some ⟨w.heap.size,0,none⟩) len len,w.alloc (.cells c' e),_,.sl sz xs none,s.st,hrun,hle,hA,?_,h⟩
 rw [← hlen]
 cases xs with
 |nil=>exact .sl0 sz none _ _ (by simp)
 |cons x0 xr=>
  refine .sl sz _ none w.heap.size 0 _ c'.toList (by simp [Gh.publish]) (fun x hx=>?_) (by rw [hfl,h2.1];simp) (fun k x y g1 g2=>?_) (fun t ht=>by simp at ht) (Nat.le_refl _)
  ·exact Nat.eq_of_beq_eq_true (List.all_eq_true.1 hw x hx)
  ·rw [hfl] at g1
   exact (h2.2 k x y g1 (by simpa using g2)).mono hle
end
end Go.Av
namespace Go.Av
open Go Go.RowKit
inductive qgt (n:Nat):List AObj→List AObj→Prop
 |nil:qgt n [] []
 |same {l l':List AObj} (x:AObj) (h:qgt n l l'):qgt n (x::l) (x::l')
 |cut {l l':List AObj} {x x':AObj} (hx:qo4 n x') (h:qgt n l l'):qgt n (x::l) (x'::l')
 |loop {l l':List AObj} {ls ls':LoopState} {pend pend':Option Code} {N:Nat} {t:Nat→AV} {ps:Array Tmp} {asg body:Code} (h:qgt n l l'):qgt n (.loop ls pend N t ps asg body::l) (.loop ls' pend' N t ps asg body::l')
theorem qgt.length {n:Nat} {l l':List AObj} (h:qgt n l l'):l'.length=l.length:=by
 induction h with
 |nil=>rfl
 | _=>simpa
def quh (F:LoopState→Option Code→AObj) (N:Nat) (t:Nat→AV) (ps:Array Tmp) (asg body:Code):Prop:=∀ ls pend,F ls pend=AObj.loop ls pend N t ps asg body
@[reducible] def zcw (o : Nat) (F : LoopState → Option Code → AObj) (R : Bool → List AObj → Prop) : Exit → AS → Prop
 | .normal,s=>s.st[o]? = some (F .busy none)∧R true (s.st.set o (F .ready none))
 | .ret,s=>s.st[o]? = some (F .busy none)∧R false (s.st.set o (F .done (some .ret)))
 | .exit id,s=>s.st[o]? = some (F .busy none)∧R false (s.st.set o (F .done (some (.exit id))))
 | _,_=>False
theorem q6j {E:Env} {o N:Nat} {t:Nat→AV} {ps:Array Tmp} {asg body:Code} {st:List AObj} {R:Bool→List AObj→Prop} {xs:List AV} {F:LoopState→Option Code→AObj} (hF:quh F N t ps asg body) (ho:st[o]? = some (F .ready none)) (hps:ps.size=xs.length)
  (h:∀ l,AWp E (some l) N asg (only fun s1=>s1.st[o]? = some (F .ready none)∧s1.df=[]∧AWp E (some l) N body (zcw o F R) ⟨s1.t,s1.st.set o (F .busy none),[]⟩) ⟨qko t (ps.toList.zip xs),st,[]⟩):qdj E o xs st R:=by
 refine qyn (N:=N) (t:=t) (ps:=ps) (asg:=asg) (body:=body) (by rw [ho,hF]) hps fun l=>(h l).mono fun e s1 hq=>?_
 cases e with
 |normal=>
  obtain⟨h1,h2,h3⟩:=hq
  refine⟨by rw [h1,hF],h2,?_⟩
  rw [hF] at h3
  refine h3.mono fun e s2 hq2=>?_
  cases e with
  |normal=>obtain⟨k1,k2⟩:=hq2;exact⟨by rw [k1,hF],by rw [hF] at k2;exact k2⟩
  |ret=>obtain⟨k1,k2⟩:=hq2;exact⟨by rw [k1,hF],by rw [hF] at k2;exact k2⟩
  |exit id=>obtain⟨k1,k2⟩:=hq2;exact⟨by rw [k1,hF],by rw [hF] at k2;exact k2⟩
  | _=>exact hq2.elim
 | _=>exact hq.elim
theorem q03 {E:Env} {N:Nat} {Q:Exit→AS→Prop} {s:AS} {f:Operand} {ps:Array Tmp} {asg body:Code} {st loc:List AObj} {g:FuncId} {fs cs:List AV} (hst:s.st=st++loc) (hx:qj N s f = .fn (.func g) fs cs)
  (hrun:∀ vs w,(callFunc g vs).run E.P w = .ok (.enter g vs) w)
  (h:∀ F,quh F N s.t ps asg body→qp E g (fs++[.yd (st.length+(loc.length+1))]++cs) (st++(loc++[.dfr,F .ready none])) fun _ st'=>∃ ls pend,ls≠LoopState.busy∧st'[st.length+(loc.length+1)]? = some (F ls pend) ∧
   match pend with
   |none=>Q .normal ⟨s.t,st'.set (st.length+(loc.length+1)) .dead,(st.length+loc.length)::s.df⟩
   |some c=>AWp E none N c Q ⟨s.t,st'.set (st.length+(loc.length+1)) .dead,(st.length+loc.length)::s.df⟩):AWp E none N (.rangeFunc f ps asg body) Q s:=
 qt2 hst hx hrun ((h (fun ls pend=>.loop ls pend N s.t ps asg body) (fun _ _=>rfl)).mono fun _ _ ⟨ls,pend,h1,h2,h3⟩=>⟨ls,pend,h1,h2,h3⟩)
theorem qsl {E:Env} {rd:Option Nat} {N:Nat} {c:Code} {Q:Exit→AS→Prop} {s:AS} (L:List (Nat×AV)) (st':List AObj) (df':List Nat) (h:HasL s.t L) (hst:s.st=st') (hdf:s.df=df') (k:∀ t,AWp E rd N c Q ⟨puts t L,st',df'⟩):AWp E rd N c Q s:=by
 have:=k s.t
 rw [qhg h,← hst,← hdf] at this
 exact this
@[reducible] def Wv (x : BitVec 32) : AV := .v (.int .u32 (x.toNat : Nat))
theorem qo3 (n:Nat):IntKind.u32.wrap (n:Int)=((n % 4294967296:Nat):Int):=by
 simp [IntKind.wrap,IntKind.bits,IntKind.signed]
theorem qi (x:BitVec 32):BitVec.ofInt 32 (x.toNat:Int)=x:=by
 rw [BitVec.ofInt_natCast,BitVec.ofNat_toNat]
 simp
theorem qhd (x:BitVec 32):IntKind.u32.wrap (x.toNat:Int)=(x.toNat:Int):=by
 rw [qo3,Nat.mod_eq_of_lt x.isLt]
section
variable {E : Env} {rd : Option Nat} {N : Nat} {ops : Array Oper} {K : AS → Prop} {s : AS} {rest : List Oper} {d : Option Tmp} {T : TypeId} {p : String} {af : Array Edge}
theorem ve {x y:Operand} {t t':TypeId} {m n:Int} {a b:BitVec 32} (hx:qj N s x = .v (.int .u32 m)) (hy:qj N s y = .v (.int .u32 n)) (ha:BitVec.ofInt 32 m=a) (hb:BitVec.ofInt 32 n=b) (h:AOps E rd N ops rest K (s.put d (Wv (a ^^^ b)))):AOps E rd N ops (⟨d,.binOp .xor t x y t',T,p,af,none⟩::rest) K s:=
 q6g hx hy (by subst ha;subst hb;simp only [qcv,IntKind.bits];rw [qhd];rfl) h
theorem vb {x y:Operand} {t t':TypeId} {m n:Int} {a b:BitVec 32} (hx:qj N s x = .v (.int .u32 m)) (hy:qj N s y = .v (.int .u32 n)) (ha:BitVec.ofInt 32 m=a) (hb:BitVec.ofInt 32 n=b) (h:AOps E rd N ops rest K (s.put d (Wv (a &&& b)))):AOps E rd N ops (⟨d,.binOp .and t x y t',T,p,af,none⟩::rest) K s:=
 q6b hx hy (by subst ha;subst hb;simp only [qcv,IntKind.bits];rw [qhd];rfl) h
theorem wd {x y:Operand} {t t':TypeId} {m n:Int} {a b:BitVec 32} (hx:qj N s x = .v (.int .u32 m)) (hy:qj N s y = .v (.int .u32 n)) (ha:BitVec.ofInt 32 m=a) (hb:BitVec.ofInt 32 n=b) (h:AOps E rd N ops rest K (s.put d (Wv (a |||b)))):AOps E rd N ops (⟨d,.binOp .or t x y t',T,p,af,none⟩::rest) K s:=
 q9a hx hy (by subst ha;subst hb;simp only [qcv,IntKind.bits];rw [qhd];rfl) h
theorem jx {x:Operand} {t:TypeId} {a:BitVec 32} (hx:qj N s x=Wv a) (h:AOps E rd N ops rest K (s.put d (Wv (~~~ a)))):AOps E rd N ops (⟨d,.unOp .xor t x,T,p,af,none⟩::rest) K s:=
 q0u hx (by
  simp only [qcv,IntKind.bits,IntKind.signed,Bool.false_eq_true,if_false]
  rw [qi]
  have h1:BitVec.ofInt 32 IntKind.u32.max=BitVec.allOnes 32:=by decide
  have h2:BitVec.ofInt 32 IntKind.u32.max ^^^ a = ~~~ a:=by rw [h1,BitVec.xor_comm,BitVec.xor_allOnes]
  exact (congrArg (fun z:BitVec 32=>IntKind.u32.wrap (z.toNat:Int)) h2).trans (qhd _)) h
theorem vc {x y:Operand} {t t':TypeId} {yk:IntKind} {a:BitVec 32} {n:Nat} (hx:qj N s x=Wv a) (hy:qj N s y = .v (.int yk (n:Int))) (hn:Nat.ble n 32=true) (h:AOps E rd N ops rest K (s.put d (Wv (a <<< n)))):AOps E rd N ops (⟨d,.binOp .shl t x y t',T,p,af,none⟩::rest) K s:=
 q6e hx hy (by omega) (by
  have hn:=Nat.le_of_ble_eq_true hn
  have:min (n:Int).toNat IntKind.u32.bits=n:=by simp [IntKind.bits];omega
  rw [this]
  have e:(a.toNat:Int) * 2 ^ n=((a.toNat * 2 ^ n:Nat):Int):=by simp
  rw [e,qo3,BitVec.toNat_shiftLeft,Nat.shiftLeft_eq]) h
theorem vd {x y:Operand} {t t':TypeId} {yk:IntKind} {a:BitVec 32} {n:Nat} (hx:qj N s x=Wv a) (hy:qj N s y = .v (.int yk (n:Int))) (hn:Nat.ble n 32=true) (h:AOps E rd N ops rest K (s.put d (Wv (a >>> n)))):AOps E rd N ops (⟨d,.binOp .shr t x y t',T,p,af,none⟩::rest) K s:=
 q6f hx hy (by omega) (by
  have hn:=Nat.le_of_ble_eq_true hn
  have:min (n:Int).toNat IntKind.u32.bits=n:=by simp [IntKind.bits];omega
  rw [this,BitVec.toNat_ushiftRight,Nat.shiftRight_eq_div_pow]
  have h0:(0:Int)≤2 ^ n:=by
   have:((2 ^ n:Nat):Int)=(2:Int) ^ n:=by simp
   rw [← this]
   exact Int.natCast_nonneg _
  rw [Int.fdiv_eq_ediv_of_nonneg _ h0]
  simp) h
theorem kf {x y:Operand} {t e:TypeId} {len sz:Nat} {agg:Bool} {k:IntKind} {n:Nat} {cs:List AV} {r:AV} (hx:qj N s x = .ag cs) (hy:qj N s y = .v (.int k (n:Int))) (hu:E.P.underlying t=some (.array len e)) (ht:tyOf E.P e=some (sz,agg)) (hn:n<len) (hr:xi sz agg (n * sz) cs=some r)
  (h:AOps E rd N ops rest K (s.put d r)):AOps E rd N ops (⟨d,.index t x y,T,p,af,none⟩::rest) K s:=by
 refine q7 rfl (qz nofun fun B0 w0 G a w _ hI=>?_)
 have he:=hI.eval_of hx
 have hey:=hI.evalv hy
 generalize hv:a.eval x=v at he
 cases he with
 |ag _ vs hl hrel=>
  obtain⟨i1,i2⟩:=xh ht w
  cases agg with
  |false=>
   simp only [xi,cond_false] at hr
   obtain⟨z,hz⟩:=yu hr (Nat.le_of_eq hl)
   refine⟨z,w,G,r,s.st,?_,.refl G,hI.agree,hrel _ r z hr hz,h⟩
   generalize a.eval = ρ at hv hey
   simp only [execOp,hv,hey]
   simp [Instr.index,asIntOf,run_underlying hu,hn,part,i1,i2,hz]
  |true=>
   simp only [xi,cond_true] at hr
   cases hb:Nat.ble (n * sz+sz) cs.length with
   |false=>rw [hb] at hr;simp at hr
   |true=>
    rw [hb] at hr
    simp only [cond_true,Option.some.injEq] at hr
    have hle:n * sz+sz≤cs.length:=Nat.le_of_ble_eq_true hb
    refine⟨.agg (vs.extract (n * sz) (n * sz+sz)),w,G,r,s.st,?_,.refl G,hI.agree,?_,h⟩
    ·generalize a.eval = ρ at hv hey
     simp only [execOp,hv,hey]
     simp [Instr.index,asIntOf,run_underlying hu,hn,part,i1,i2]
    ·subst hr
     refine .ag _ _ (by simp;omega) fun i x y h1 h2=>?_
     have hi:i<sz:=by have:=lt_of_getElem? h1;simp at this;omega
     simp [hi,List.getElem?_drop] at h1
     rw [Array.getElem?_extract] at h2
     split at h2
     ·exact hrel (n * sz+i) x y h1 h2
     ·simp at h2
theorem z8 {x y:Operand} {t e:TypeId} {len sz:Nat} {agg:Bool} {k:IntKind} {n o ver off:Nat} (hx:qj N s x = .bx o ver off) (hy:qj N s y = .v (.int k (n:Int))) (hu:E.P.underlying t=some (.array len e)) (ht:tyOf E.P e=some (sz,agg)) (hn:n<len)
  (h:AOps E rd N ops rest K (s.put d (.bx o ver (off+n * sz)))):AOps E rd N ops (⟨d,.indexAddr t x y,T,p,af,none⟩::rest) K s:=by
 refine q7 rfl (qz nofun fun B0 w0 G a w _ hI=>?_)
 have he:=hI.eval_of hx
 have hey:=hI.evalv hy
 generalize hv:a.eval x=v at he
 cases he with
 |bx _ _ _ b hn' hver hb=>
  refine⟨.pointer (some ⟨b,off+n * sz,none⟩),w,G,_,s.st,?_,.refl G,hI.agree,.bx o ver _ b hn' hver hb,h⟩
  generalize a.eval = ρ at hv hey
  simp only [execOp,hv,hey]
  simp [Instr.indexAt,asIntOf,run_underlying hu,Instr.sureAddr,hn,(xh ht w).1,Addr.add_lit]
def qrf (P:Program) (t:TypeId):Option Nat:=
 match P.underlying t with
 |some (.array _ e)=>match P.info? e with
  |some i=>some i.size
  |none=>none
 | _=>none
theorem qym {P:Program} {t:TypeId} {sz:Nat} (h:qrf P t=some sz):∃ len e i,P.underlying t=some (.array len e)∧P.info? e=some i∧i.size=sz:=by
 unfold qrf at h
 split at h
 ·rename_i len e hu
  split at h
  ·rename_i i hi
   simp only [Option.some.injEq] at h
   exact⟨len,e,i,hu,hi,h⟩
  ·simp at h
 ·simp at h
theorem we {t:TypeId} {parts:Array (Nat×Operand)} {zs cs:List AV} {sz:Nat} (hz:qix E.P t=some zs) (hp:qrf E.P t=some sz) (hf:qcy (fun i=>some (i * sz,sz)) zs (x6 N s parts)=some cs)
  (h:AQ E N ops rest K (s.put d (.ag cs))):AQ E N ops (⟨d,.build t parts,T,p,af,none⟩::rest) K s:=by
 refine qen rfl nofun fun B0 w0 G a w _ hI=>?_
 obtain⟨len,e,i,hu,hi,rfl⟩:=qym hp
 obtain⟨z,hrun,hr⟩:=qmg hz w
 obtain⟨c',h1,h2⟩:=qhp (fun k=>some (k * i.size,i.size)) (x6 N s parts) (parts.toList.map fun x=>(x.1,a.eval x.2)) zs z.cells cs (by simp [x6]) (qir hI parts) (hr G) hf
 have hz':∃ ti,E.P.info? t=some ti∧ti.zero=some z:=by
  unfold zeroValue at hrun
  simp [typeInfo] at hrun
  cases hti:E.P.info? t with
  |none=>simp [hti] at hrun
  |some ti=>
   simp [hti] at hrun
   cases htz:ti.zero with
   |none=>simp [htz] at hrun
   |some y=>simp [htz] at hrun;exact⟨ti,rfl,by rw [htz,hrun]⟩
 obtain⟨ti,g1,g2⟩:=hz'
 refine⟨.agg c',.ag cs,fun w' _=>?_,.ag _ _ h2.1 h2.2,h⟩
 generalize a.eval = ρ at h1
 simp [execOp,Instr.build,run_underlying hu,zeroValue,typeInfo,g1,g2,sizeOf,hi,h1]
theorem yw {x y:Operand} {t:TypeId} {m:List UInt8} {k:IntKind} {n:Nat} (hx:qj N s x=Sv m) (hy:qj N s y = .v (.int k (n:Int))) (hu:E.P.underlying t=some .string) (h1:n<m.length)
  (h:AQ E N ops rest K (s.put d (Uv (m.getD n 0)))):AQ E N ops (⟨d,.index t x y,T,p,af,none⟩::rest) K s:=
 qb4 _ rfl nofun (fun a w he=>by
  have hg:(⟨m.toArray⟩:ByteArray)[n]? = some (m.getD n 0):=by
   simp only [getElem?_def,qbs,h1,dite_true,List.getD,Option.getD_some]
   rfl
  simp [execOp,Instr.index,he _ _ hx,he _ _ hy,asIntOf,run_underlying hu,hg]) h
theorem wz {x:Operand} {t t':TypeId} {k:IntKind} {n:Nat} {e:TypeDesc} (hx:qj N s x = .v (.int k (n:Int))) (hs:E.P.underlying t=some e) (hd:E.P.underlying t'=some (.int .u32)) (hn:n<4294967296)
  (h:AQ E N ops rest K (s.put d (Wv (BitVec.ofNat 32 n)))):AQ E N ops (⟨d,.convert t t' x,T,p,af,none⟩::rest) K s:=by
 have hr:IntKind.u32.wrap (n:Int)=(((BitVec.ofNat 32 n).toNat:Nat):Int):=by rw [qo3,Nat.mod_eq_of_lt hn,BitVec.toNat_ofNat,Nat.mod_eq_of_lt hn]
 exact qb4 _ rfl nofun (fun a w he=>by rw [← hr];simp [execOp,he _ _ hx,convert,run_underlying hs,run_underlying hd,Conv.intToInt]) h
theorem xx {x y:Operand} {t t':TypeId} {yk:IntKind} {c:UInt8} (hx:qj N s x=Uv c) (hy:qj N s y = .v (.int yk 4)) (h:AQ E N ops rest K (s.put d (.v (.int .u8 ((c.toNat / 16:Nat):Int))))):AQ E N ops (⟨d,.binOp .shr t x y t',T,p,af,none⟩::rest) K s:=
 qb4 _ rfl nofun (fun a w he=>by
  have:(c.toNat:Int).fdiv (2 ^ (min (4:Int).toNat IntKind.u8.bits))=((c.toNat / 16:Nat):Int):=by
   rw [Int.fdiv_eq_ediv_of_nonneg _ (by decide)]
   simp [IntKind.bits]
  rw [← this]
  simp [execOp,he _ _ hx,he _ _ hy,eqGuard_at_int,binOp_shr,Op.shift]) h
theorem wy {x y:Operand} {t t':TypeId} {c:UInt8} (hx:qj N s x=Uv c) (hy:qj N s y = .v (.int .u8 15)) (h:AQ E N ops rest K (s.put d (.v (.int .u8 ((c.toNat % 16:Nat):Int))))):AQ E N ops (⟨d,.binOp .and t x y t',T,p,af,none⟩::rest) K s:=
 zbl hx hy (by
  simp only [qcv,IntKind.bits]
  have h1:BitVec.ofInt 8 (c.toNat:Int)=c.toBitVec:=by rw [BitVec.ofInt_natCast];simp
  have h2:(BitVec.ofInt 8 (c.toNat:Int) &&& BitVec.ofInt 8 15).toNat=c.toNat % 16:=by
   rw [h1,BitVec.toNat_and]
   exact Nat.and_two_pow_sub_one_eq_mod c.toNat 4
  have h3:IntKind.u8.wrap ((c.toNat % 16:Nat):Int)=((c.toNat % 16:Nat):Int):=by
   simp [IntKind.wrap,IntKind.bits,IntKind.signed]
   omega
  exact (congrArg (fun z:Nat=>IntKind.u8.wrap (z:Int)) h2).trans h3) h
theorem and15_lt (x:BitVec 32):(x &&& BitVec.ofInt 32 15).toNat<16:=by
 rw [BitVec.toNat_and]
 exact Nat.lt_of_le_of_lt Nat.and_le_right (by decide)
theorem q27 {x y:Operand} {t t':TypeId} {k:IntKind} {m n:Nat} (hx:qj N s x = .v (.int k (m:Int))) (hy:qj N s y = .v (.int k (n:Int))) (hf:k.wrap ((m+n:Nat):Int)=((m+n:Nat):Int))
  (h:AOps E rd N ops rest K (s.put d (.v (.int k ((m+n:Nat):Int))))):AOps E rd N ops (⟨d,.binOp .add t x y t',T,p,af,none⟩::rest) K s:=
 zp hx hy (by rw [← Int.natCast_add];exact hf) h
theorem q29 {x y:Operand} {t t':TypeId} {k:IntKind} {m n:Nat} (hx:qj N s x = .v (.int k (m:Int))) (hy:qj N s y = .v (.int k (n:Int))) (hn:n≠0) (hf:k.wrap ((m / n:Nat):Int)=((m / n:Nat):Int))
  (h:AOps E rd N ops rest K (s.put d (.v (.int k ((m / n:Nat):Int))))):AOps E rd N ops (⟨d,.binOp .quo t x y t',T,p,af,none⟩::rest) K s:=
 qve hx hy (by omega) (by rw [Int.tdiv_eq_ediv_of_nonneg (by omega),← Int.natCast_ediv];exact hf) h
theorem q3a {x y:Operand} {t t':TypeId} {k:IntKind} {m n:Nat} (hx:qj N s x = .v (.int k (m:Int))) (hy:qj N s y = .v (.int k (n:Int))) (hn:n≠0)
  (h:AOps E rd N ops rest K (s.put d (.v (.int k ((m % n:Nat):Int))))):AOps E rd N ops (⟨d,.binOp .rem t x y t',T,p,af,none⟩::rest) K s:=
 qvf hx hy (by omega) (by rw [Int.tmod_eq_emod_of_nonneg (by omega),← Int.natCast_emod];exact h)
theorem qjq {n:Nat} (h:n<18446744073709551616):IntKind.u64.wrap (n:Int)=(n:Int):=by
 simp [IntKind.wrap,IntKind.bits,IntKind.signed]
 omega
end
end Go.Av
namespace Go.Av
open Go Go.RowKit
section
variable {E : Env} {rd : Option Nat} {N : Nat} {ops : Array Oper} {K : AS → Prop} {s : AS} {rest : List Oper} {d : Option Tmp} {T : TypeId} {p : String} {af : Array Edge}
def qmr:TypeDesc→Bool
 | .interface _=>false
 | _=>true
def quw (P:Program) (t:TypeId):Option Value:=match P.info? t with|some i=>i.zero|none=>none
theorem qtw {P:Program} {t:TypeId} {z:Value} (h:quw P t=some z) (w:World):(zeroValue t).run P w = .ok z w:=by
 unfold quw at h
 split at h
 ·rename_i i hi
  simp [zeroValue,typeInfo,hi,h]
 ·simp at h
theorem qdy {x:Operand} {xt t:TypeId} {D:TypeDesc} {y:AV} (hx:qj N s x = .ifc t y) (hu:E.P.underlying t=some D) (hn:qmr D=true)
  (h:AOps E rd N ops rest K (s.put d (.tu [y,Bv true]))):AOps E rd N ops (⟨d,.typeAssert x xt t true,T,p,af,none⟩::rest) K s:=by
 refine q7 rfl (qz nofun fun B0 w0 G a w _ hI=>?_)
 have he:=hI.eval_of hx
 generalize hv:a.eval x=v at he
 cases he with
 |ifc _ _ z hz=>
  refine⟨.tuple #[z,.bool true],w,G,_,s.st,?_,.refl G,hI.agree,qhh hz (.v _),h⟩
  generalize a.eval = ρ at hv
  cases D <;> first|(simp [qmr] at hn;done)|simp [execOp,Instr.typeAssert,hv,run_underlying hu]
theorem qia {x:Operand} {xt t u:TypeId} {D:TypeDesc} {y:AV} {z:Value} (hx:qj N s x = .ifc u y) (hu:E.P.underlying t=some D) (hn:qmr D=true) (hne:Nat.beq u t=false) (hz:quw E.P t=some z)
  (h:AOps E rd N ops rest K (s.put d (.tu [.v z,Bv false]))):AOps E rd N ops (⟨d,.typeAssert x xt t true,T,p,af,none⟩::rest) K s:=by
 refine q7 rfl (qz nofun fun B0 w0 G a w _ hI=>?_)
 have he:=hI.eval_of hx
 generalize hv:a.eval x=v at he
 have hne':u≠t:=fun e=>by subst e;simp at hne
 have hz':=qtw hz w
 cases he with
 |ifc _ _ q hq=>
  refine⟨.tuple #[z,.bool false],w,G,_,s.st,?_,.refl G,hI.agree,qhh (.v _) (.v _),h⟩
  generalize a.eval = ρ at hv
  cases D <;> first|(simp [qmr] at hn;done)|simp [execOp,Instr.typeAssert,hv,run_underlying hu,hne',hz']
theorem qrd {x:Operand} {xt t:TypeId} {D:TypeDesc} {z:Value} (hx:qj N s x = .v .nilIface) (hu:E.P.underlying t=some D) (hn:qmr D=true) (hz:quw E.P t=some z)
  (h:AOps E rd N ops rest K (s.put d (.tu [.v z,Bv false]))):AOps E rd N ops (⟨d,.typeAssert x xt t true,T,p,af,none⟩::rest) K s:=by
 refine q7 rfl (qz nofun fun B0 w0 G a w _ hI=>?_)
 have hv:=hI.evalv hx
 have hz':=qtw hz w
 refine⟨.tuple #[z,.bool false],w,G,_,s.st,?_,.refl G,hI.agree,qhh (.v _) (.v _),h⟩
 generalize a.eval = ρ at hv
 cases D <;> first|(simp [qmr] at hn;done)|simp [execOp,Instr.typeAssert,hv,run_underlying hu,hz']
end
end Go.Av
namespace Go.Proofs.YtneejjefekdgjaaGreatDoor
open Go Go.Av Go.RowKit Go.Proofs
structure Laid (w:World):Prop where
 shaped:World.ShapedOpen Tryz.prog w
 pow : Lib.TabIs Tryz.prog w "internal/strconv.uint64pow10" .u64 Lib.pow10Tab
 syn : ∃ tp p, World.var? Tryz.prog w "strconv.ErrSyntax" = some #[.iface tp p]
 ran : ∃ tp p, World.var? Tryz.prog w "strconv.ErrRange" = some #[.iface tp p]
 ert:w.cell? ⟨3,0,none⟩=some (.iface 381 (.agg #[.pointer (some ⟨9,24,none⟩)]))
@[reducible] noncomputable def E : Env := ⟨Tryz.prog, fun B0 w0 => ∀ w, Below B0 w0 w → Laid w⟩
theorem qpp (l m:List UInt8) (st:List AObj) (hl:l.length<4294967281):qp E 165 [Sv l,Sv m] st fun r st'=>r=Bv (Lib.contains l m)∧st'=st:=
 qck (vals:= #[.string ⟨l.toArray⟩,.string ⟨m.toArray⟩]) rfl fun _ _ w hL hb=>(Tryz.strings_Contains_shaped ⟨l.toArray⟩ ⟨m.toArray⟩ w (hL w hb).shaped (by simpa [ByteArray.size] using hl)).mono fun _ _ ⟨h1,h2⟩=>⟨h1,qi0 h2⟩
theorem qyy (l m:List UInt8) (st:List AObj):qp E 164 [Sv l,Sv m] st fun r st'=>r=Bv (Lib.hasPrefix l m)∧st'=st:=
 qck (vals:= #[.string ⟨l.toArray⟩,.string ⟨m.toArray⟩]) rfl fun _ _ w _ _=>(Tryz.strings_HasPrefix ⟨l.toArray⟩ ⟨m.toArray⟩ w).mono fun _ _ ⟨h1,h2⟩=>⟨h1,qi0 h2⟩
theorem q1b (l m:List UInt8) (st:List AObj) (hl:l.length<4294967281):qp E 72 [Sv l,Sv m] st fun r st'=>r = .tu [Sv (Lib.cut l m).1,Sv (Lib.cut l m).2.1,Bv (Lib.cut l m).2.2]∧st'=st:=
 qm2 (vals:= #[.string ⟨l.toArray⟩,.string ⟨m.toArray⟩]) (rs:= #[.string ⟨(Lib.cut l m).1.toArray⟩,.string ⟨(Lib.cut l m).2.1.toArray⟩,.bool (Lib.cut l m).2.2]) rfl fun _ _ w hL hb=>(Tryz.strings_Cut_shaped ⟨l.toArray⟩ ⟨m.toArray⟩ w (hL w hb).shaped (by simpa [ByteArray.size] using hl)).mono fun _ _ ⟨h1,n,h2⟩=>⟨h1,h2▸qyp w n⟩
theorem zcb (n:Int) (st:List AObj) (h0 : -9223372036854775808≤n) (h1:n≤9223372036854775807):qp E 133 [Iv n] st fun r st'=>r=Sv (Lib.itoa n)∧st'=st:=
 qck (vals:= #[.int .i64 n]) rfl fun _ _ w hL hb=>(Tryz.strconv_Itoa n h0 h1 w (hL w hb).pow).mono fun _ _ ⟨h1,k,os,h2⟩=>⟨h1,h2▸q04 w k os⟩
theorem q5z (l m:List UInt8) (st:List AObj) (hl:l.length≤9223372036854775807) (hm:m.length<4294967281) (ha:∀ (j:Nat) (b:UInt8),m[j]? = some b→b.toNat<128):qp E 209 [Sv l,Sv m] st fun r st'=>r=Sv (Lib.trimS l m)∧st'=st:=
 qck (vals:= #[.string ⟨l.toArray⟩,.string ⟨m.toArray⟩]) rfl fun _ _ w _ _=>(Any.strings_Trim_laid Tryz.lays160t (by kernel_rfl) ⟨l.toArray⟩ ⟨m.toArray⟩ w (by simpa [ByteArray.size] using hl) (by simpa [ByteArray.size] using hm) (by simpa using ha)).mono fun _ _ ⟨h1,h2⟩=>⟨h1,h2⟩
theorem qyo {w w':World} {T:TypeId} {s:ByteArray} (h:w'=w∨∃ t,w'=Lib.bytesWorld w T t):Below w.heap.size w w':=by
 rcases h with rfl | ⟨t,rfl⟩
 ·exact Below.refl _ _
 ·unfold Lib.bytesWorld
  exact Lib.below_freeze ((Below.drew (Below.refl w.heap.size w)).alloc (Nat.le_refl _) _) (p:=⟨w.heap.size,_,none⟩) (Nat.le_refl _) _
theorem qo5 {f:FuncId} {st:List AObj} {args:List AV} {vals:Array Value} {R:Int→Option (TypeId×Value)→Prop} (ha:args=vals.toList.map .v)
  (h:∀ B0 w0 w,E.L B0 w0→Below B0 w0 w→Calls E.P f vals w fun e w'=>∃ n x,e = .returned (.tuple #[.int .i64 n,match x with|none=>.nilIface|some (t,y)=>.iface t y])∧R n x∧Below w.heap.size w w') :
  qp E f args st fun r st'=>st'=st∧∃ n x,r = .tu [Iv n,match x with|none=>.v .nilIface|some (t,y)=>.ifc t (.v y)]∧R n x:=by
 subst ha
 refine⟨fun B0 w0 G vs w hL hA hR=>?_⟩
 have hv:vs=vals:=by
  have hs:vs.size=vals.size:=by have:=hR.1;simpa using this.symm
  apply Array.ext hs
  intro i h1 h2
  have:=hR.2 i (.v vals[i]) vs[i] (by simp [h2]) (by simp [h1])
  generalize vs[i]=y at this
  cases this
  rfl
 subst hv
 refine (h B0 w0 w hL hA.below).mono ?_
 rintro e w' ⟨n,x,rfl,hRR,hb⟩
 refine⟨_,G,_,st,rfl,.refl G,hA.fresh hb,qhh (.v _) ?_,rfl,n,x,rfl,hRR⟩
 cases x with
 |none=>exact .v _
 |some p=>exact .ifc _ _ _ (.v _)
theorem zbn (l:List UInt8) (st:List AObj) (hl:l.length≤281474976710656):qp E 73 [Sv l] st fun r st'=>st'=st∧∃ n x,r = .tu [Iv n,match x with|none=>.v .nilIface|some (t,y)=>.ifc t (.v y)]∧match x with|none=>Lib.atoiAll l = .ok n|some _=>∀ v,Lib.atoiAll l≠.ok v:=by
 refine qo5 (vals:= #[.string ⟨l.toArray⟩]) (R:=fun n x=>match x with|none=>Lib.atoiAll l = .ok n|some _=>∀ v,Lib.atoiAll l≠.ok v) rfl fun B0 w0 w hL hb=>?_
 have hls:(⟨l.toArray⟩:ByteArray).data.toList=l:=rfl
 rcases ho:Lib.atoiAll l with v | _ | _
 ·
  refine (Tryz.strconv_Atoi_ok ⟨l.toArray⟩ (by simp [ByteArray.size];omega) v (by rw [hls];exact ho) w).mono ?_
  rintro e w' ⟨rfl,hw⟩
  exact⟨v,none,rfl,rfl,qyo (s:=⟨l.toArray⟩) hw⟩
 ·
  obtain⟨tp,p,hv⟩:=(hL w hb).syn
  refine (Any.strconv_Atoi_syntax_var Tryz.laysC172 ⟨l.toArray⟩ (by simpa [ByteArray.size] using hl) (by rw [hls];exact ho) tp p w hv).mono ?_
  rintro e w' ⟨N,rfl,_,_,hw⟩
  exact⟨_,some (_,_),rfl,by simp,hw⟩
 ·
  obtain⟨tp,p,hv⟩:=(hL w hb).ran
  refine (Tryz.strconv_Atoi_range_var ⟨l.toArray⟩ (by simpa [ByteArray.size] using hl) (by rw [hls];exact ho) tp p w hv).mono ?_
  rintro e w' ⟨N,rfl,_,_,hw⟩
  exact⟨_,some (_,_),rfl,by simp,hw⟩
theorem zbe (l m:List UInt8) (st:List AObj) (hl:l.length≤9223372036854775807) (hm:Nat.blt m.length 4294967281=true) (ha:m.all (fun b=>Nat.blt b.toNat 128)=true):qp E 209 [Sv l,Sv m] st fun r st'=>r=Sv (Lib.trimS l m)∧st'=st:=
 q5z l m st hl (by simpa [Nat.blt_eq] using hm) fun j b h=>by
  have:=List.all_eq_true.1 ha b (List.mem_of_getElem? h)
  simpa [Nat.blt_eq] using this
end Go.Proofs.YtneejjefekdgjaaGreatDoor
namespace Go.Av
open Go Go.RowKit Go.WideShapes Go.ChangeShapes
theorem qsb {P:Program} {W:World} {name:String} {k:IntKind} {zs:List Int} {g:Nat} {t e:TypeId} {n:Nat}
  (hg:P.globalNamed name=some g) (hty:(P.globals[g]?).map (·.type)=some t) (ht:P.underlying t=some (.array n e)) (he:P.underlying e=some (.int k)) (hce:P.cellsOf e=1) (hct:P.cellsOf t=n)
  (h:Lib.VarReads P W name (Lib.tabData k zs)):Lib.TabIs P W name k zs:=by
 obtain⟨g',t',cs,fuel,p,hg',ht',hvar,hd⟩:=h
 obtain rfl:=Option.some.inj (hg.symm.trans hg')
 obtain rfl:=Option.some.inj (hty.symm.trans ht')
 unfold Lib.TabIs
 rw [hvar,← Lib.cells_of_tab ht he hce hct hd]
theorem qk4 {P:Program} {W:World} {name s:String} {d:DataW Unit} {g:Nat} {t:TypeId} {ms:Array (String×TypeId)}
  (hg:P.globalNamed name=some g) (hty:(P.globals[g]?).map (·.type)=some t) (ht:P.underlying t=some (.interface ms))
  (h:Lib.VarReads P W name (.iface s d)):∃ tp p,W.var? P name=some #[.iface tp p]:=by
 obtain⟨g',t',cs,fuel,p,hg',ht',hvar,hd⟩:=h
 obtain rfl:=Option.some.inj (hg.symm.trans hg')
 obtain rfl:=Option.some.inj (hty.symm.trans ht')
 cases fuel with
 |zero=>simp [DataW.trod] at hd
 |succ fuel=>
  obtain⟨l⟩:=cs
  simp only [DataW.trod,ht] at hd
  split at hd
  all_goals simp_all
section
variable {H : Type} {enc : TypeId × Value → H} {P : Program}
theorem qt9 {f:Func} {s:ChangeSpec} {qdd fresh handsOn again:Bool} {W W':World} {args:Array Value} {v:Value} {ds gs:List (DataW H)} {before pa pv:List MemPlace}
  (hW:DataW.Whole enc P f.params.toList s.vars qdd W args.toList ds gs before)
  (hres:∀ (b:Nat) (sp:Nat→Bool) (hd:Bool),DataW.TrodAll enc P W' b sp hd f.resultTypes.toList (v.resultList f.resultTypes.size) (s.fn H (ds++gs)).results [])
  (hargs:∀ sp:Nat→Bool,(∀ p∈before,sp p.block=true)→DataW.TrodAll enc P W' 0 sp true f.params.toList args.toList (s.fn H (ds++gs)).args pa)
  (hvars:∀ sp:Nat→Bool,(∀ p∈before,sp p.block=true)→DataW.TrodVars enc P W' sp s.vars (s.fn H (ds++gs)).vars pv)
  (hps:before=pa++pv) (hb:Below W.heap.size W W')
  (hok:∀ (j:Nat) (t:TypeId) (r:Value),f.resultTypes[j]? = some t→(v.resultList f.resultTypes.size)[j]? = some r→Value.okWide P W' .any 0 t r) :
  s.post enc P f qdd fresh handsOn again W args v W':=by
 have hlt:∀ p∈before,p.block<W.heap.size:=fun p hp=>hW.lt p hp
 have hold:∀ p∈before,(fun b=>decide (b<W.heap.size)) p.block=true:=fun p hp=>by simpa using hlt p hp
 refine⟨ds,gs,before,[],pa,pv,hW,hres _ _ _,hargs _ hold,hvars _ hold,World.keptBut_mono (fun p hp=>⟨hp,?_⟩) (hb.frame (·∈before)),fun _=>?_⟩
 ·rw [hps,List.mem_append] at hp
  exact Or.inr hp
 ·obtain⟨_,_,_,_,_,hz,hn⟩:=hW
  refine⟨hok,_,_,([]++pa)++pv,⟨[]++pa,pv,trodAll_append (hargs _ (fun _ _=>rfl)) (hres _ _ _),hvars _ (fun _ _=>rfl),rfl,?_,?_⟩,?_⟩
  ·intro b off hp
   have hin:MemPlace.cell b off∈before:=by rw [hps];simpa using hp
   rw [hb.frozen (hlt _ hin)]
   exact hz b off hin
  ·intro ha
   have:=hn ha
   rw [hps] at this
   simpa using this
  ·intro p hp _
   rw [hps]
   simpa using hp
end
end Go.Av
open Go in
theorem Go.Av.lit_i64 {n:Int} (h:(Lit.int .i64 n).wf=true) : -9223372036854775808≤n∧n≤9223372036854775807:=by
 simpa [Lit.wf,IntKind.min,IntKind.max,IntKind.signed,IntKind.bits] using h
namespace Go.Proofs.YtneejjefekdgjaaGreatDoor
open Go Go.Av Go.RowKit
theorem zcq:((List.range 436).filter fun t=>Tryz.prog.rowNamed t [101,114,114,111,114])=[24]:=by kernel_rfl
theorem zdh : (Tryz.prog.cutTypes.find? (·.1 == "internal/reflectlite.rtype")).map (·.2) = some 381 := by kernel_rfl
theorem zdj:Tryz.prog.types.size=436:=by kernel_rfl
theorem zdb:typeHandle Tryz.prog 24 = .pointer (some ⟨9,24,none⟩):=by kernel_rfl
theorem q80 : Tryz.prog.globalNamed "errors.errorType" = some 3 := by kernel_rfl
theorem qwz {l : List (String × DataW Unit)} (h : (l.all fun x => x.1 == "errors.errorType" || x.2.handleName?.isNone) = true) {x : String × DataW Unit} (hx : x ∈ l) (hn : (x.1 == "errors.errorType") = false) : x.2.handleName?.isNone = true := by
 have:=List.all_eq_true.1 h x hx
 rw [hn] at this
 simpa using this
theorem qwo {P:Program} {w0:World} {laid:List (String×DataW Unit)} (args:Array Value) (hf:w0.layFits P laid []=true) (hi:w0.layIfaces P laid (w0.layVars P laid)=true) :
  laidMet P laid ((w0.layVars P laid).forCall (fun _ _=>0) ⟨#[],args,[]⟩).memory:=by
 have e1:(laid.filter fun x=>(laid.map Prod.fst).contains x.1)=laid:=List.filter_eq_self.2 fun x hx=>List.contains_iff_mem.2 (List.mem_map_of_mem hx)
 have e2:(laid.filter fun x=> !(laid.map Prod.fst).contains x.1)=[]:=List.filter_eq_nil_iff.2 fun x hx=>by
  rw [List.contains_iff_mem.2 (List.mem_map_of_mem (f:=Prod.fst) hx)]
  simp
 have h:laidMet P laid (w0.layVars P laid):=laidMet_layVars (w0:=w0) (laid.map Prod.fst) [] (by rw [e1]) (by rw [e1];exact hf) (by rw [e1];exact hi) (by rw [e2];exact LaidIn.none)
 exact h.of_heap (by simp [World.memory,World.forCall,Input.heap])
noncomputable def zc9 (os:Os):World:={ World.holding Tryz.prog os ⟨#[],#[],[]⟩ with heap:=(World.holding Tryz.prog os ⟨#[],#[],[]⟩).heap.modify 3 fun
 | .cells _ t fz=>.cells #[.iface 381 (.agg #[.pointer (some ⟨9,24,none⟩)])] t fz
 |o=>o }
theorem q98 {l:List (String×DataW Unit)} {W:World}
  (hp : (l.filter fun x => x.2.handleName?.isSome) = [("errors.errorType", Rows.laid_errors_errorType)] ∧ (l.all fun x => x.1 == "errors.errorType" || x.2.handleName?.isNone) = true)
  (hL:laidMetH Tryz.prog l W) (hs:W.ShapedOpen Tryz.prog)
  (h1 : ("internal/strconv.uint64pow10", Rows.laid_internal_strconv_uint64pow10) ∈ l) (h2 : ("strconv.ErrSyntax", Rows.laid_strconv_ErrSyntax) ∈ l) (h3 : ("strconv.ErrRange", Rows.laid_strconv_ErrRange) ∈ l) : E.L W.heap.size W := by
 unfold laidMetH at hL
 rw [hp.1] at hL
 simp only at hL
 intro w hb
 obtain⟨hL,hH⟩:=hL
 have h1:=(List.mem_filter (p:=fun x=>x.2.handleName?.isNone)).2 ⟨h1,qwz hp.2 h1 (by decide)⟩
 have h2:=(List.mem_filter (p:=fun x=>x.2.handleName?.isNone)).2 ⟨h2,qwz hp.2 h2 (by decide)⟩
 have h3:=(List.mem_filter (p:=fun x=>x.2.handleName?.isNone)).2 ⟨h3,qwz hp.2 h3 (by decide)⟩
 obtain⟨name,u,ty,e1,e2,e3,e4,e5⟩:=hH _ (List.mem_singleton.2 rfl)
 have en:name=[101,114,114,111,114]:=(Option.some.inj e1).symm
 subst en
 obtain rfl:=Option.some.inj (zdh.symm.trans e2)
 have hm:ty∈(List.range 436).filter fun t=>Tryz.prog.rowNamed t [101,114,114,111,114]:=List.mem_filter.2 ⟨List.mem_range.2 (by rw [← zdj];exact e3),e4⟩
 rw [zcq] at hm
 obtain rfl:=List.mem_singleton.1 hm
 rw [zdb] at e5
 have hv:=World.var?_cell q80 (Go.Joins.var_stays q80 e5 hb (Nat.le_refl _)) 0
 have g1 : Tryz.prog.globalNamed "internal/strconv.uint64pow10" = some 4 := by kernel_rfl
 have g2 : Tryz.prog.globalNamed "strconv.ErrSyntax" = some 1 := by kernel_rfl
 have g3 : Tryz.prog.globalNamed "strconv.ErrRange" = some 2 := by kernel_rfl
 have t1:=qsb (k:=.u64) (zs:=Lib.pow10Tab) (t:=399) (e:=262) (n:=20) g1 (by kernel_rfl) (by kernel_rfl) (by kernel_rfl) (by kernel_rfl) (by kernel_rfl) (Lib.laidMet.reads hL h1)
 obtain⟨tp2,p2,v2⟩:=qk4 (t:=24) g2 (by kernel_rfl) rfl (Lib.laidMet.reads hL h2)
 obtain⟨tp3,p3,v3⟩:=qk4 (t:=24) g3 (by kernel_rfl) rfl (Lib.laidMet.reads hL h3)
 exact⟨hs.keptBut (hb.frame (fun _=>False)) (fun _ h=>h.elim),Go.Joins.var_stays g1 t1 hb (Nat.le_refl _),⟨tp2,p2,Go.Joins.var_stays g2 v2 hb (Nat.le_refl _)⟩,⟨tp3,p3,Go.Joins.var_stays g3 v3 hb (Nat.le_refl _)⟩,by simpa using hv⟩
end Go.Proofs.YtneejjefekdgjaaGreatDoor
namespace Go.Pl
open Go
abbrev qe:=List UInt8
theorem qdp (l:qe) (c:UInt8):0≤Lib.index l [c]↔c∈l:=by
 induction l with
 |nil=>simp [Lib.index]
 |cons b l ih=>
  have hge:=Lib.index_ge l [c]
  unfold Lib.index
  by_cases hb:c=b
  ·subst hb
   simp [List.isPrefixOf]
  ·have hp:([c]:qe).isPrefixOf (b::l)=false:=by simp [List.isPrefixOf,hb]
   rw [hp]
   by_cases hm:Lib.index l [c] = -1
   ·have:c∉l:=fun h=>by have:=ih.2 h;omega
    simp [hm,hb,this]
   ·have:c∈l:=ih.1 (by omega)
    simp [hm,this]
    omega
theorem qlg (l:qe) (c:UInt8):Lib.contains l [c]=decide (c∈l):=by
 unfold Lib.contains
 by_cases h:c∈l
 ·simp [h,(qdp l c).2 h]
 ·have:¬ 0≤Lib.index l [c]:=fun h'=>h ((qdp l c).1 h')
  simp [h,this]
theorem qk2 (l:qe) (c:UInt8):Lib.hasPrefix l [c]=decide (l.head? = some c):=by
 cases l with
 |nil=>simp [Lib.hasPrefix]
 |cons b l=>
  by_cases h:c=b
  ·simp [Lib.hasPrefix,List.isPrefixOf,h]
  ·simp [Lib.hasPrefix,List.isPrefixOf,h,Ne.symm h]
def yo (c:UInt8):Prop:=c=32∨c=9
instance (c:UInt8):Decidable (yo c):=inferInstanceAs (Decidable (c=32∨c=9))
def qfk (l:qe):Prop:=∃ c,l.head? = some c∧yo c
instance (l:qe):Decidable (qfk l):=
 match l with
 | []=>.isFalse (by rintro⟨c,h,_⟩;simp at h)
 |c::r=>decidable_of_iff (yo c) ⟨fun h=>⟨c,rfl,h⟩,fun ⟨d,h,hd⟩=>by simp at h;subst h;exact hd⟩
def qau (l:qe):Prop:=l≠[]∧l.length≤32∧¬ qfk l∧¬ l.head? = some 35∧58∉l∧10∉l
instance (l:qe):Decidable (qau l):=inferInstanceAs (Decidable (_∧_∧_∧_∧_∧_))
theorem qil (l:qe):qau l↔1≤l.length∧l.length≤32∧¬ yo (l.getD 0 0)∧l.getD 0 0≠35∧58∉l∧10∉l:=by
 cases l with
 |nil=>simp [qau]
 |cons c l=>simp [qau,qfk]
theorem qri (c:UInt8) (l:qe):Lib.contains [32,9] [c]=decide (qfk (c::l)):=by
 rw [qlg]
 have:qfk (c::l)↔yo c:=⟨fun ⟨d,h,hd⟩=>by simp at h;subst h;exact hd,fun h=>⟨c,rfl,h⟩⟩
 simp [this,yo]
def upto (c:UInt8) (l:qe):qe:=l.takeWhile (·≠c)
def past (c:UInt8) (l:qe):qe:=l.drop ((upto c l).length+1)
theorem qp4 (c:UInt8) (l:qe) (h:c∈l):Lib.index l [c]=((upto c l).length:Int):=by
 induction l with
 |nil=>simp at h
 |cons b l ih=>
  unfold Lib.index upto
  by_cases hb:b=c
  ·subst hb;simp [List.isPrefixOf]
  ·have hp:([c]:qe).isPrefixOf (b::l)=false:=by simp [List.isPrefixOf,Ne.symm hb]
   have hl:c∈l:=by simpa [Ne.symm hb] using h
   have e:=ih hl
   rw [hp]
   have:(Lib.index l [c] == -1)=false:=by rw [e];simp
   simp only [this]
   rw [e]
   simp [hb,upto]
theorem qiv (c:UInt8) (l:qe):l.take (upto c l).length=upto c l:=by
 induction l with
 |nil=>simp [upto]
 |cons b l ih=>
  by_cases hb:b=c
  ·simp [upto,hb]
  ·have:upto c (b::l)=b::upto c l:=by simp [upto,hb]
   rw [this]
   simp [ih]
theorem qe1 {c:UInt8} {l:qe} (h:c∉l):upto c l=l:=by
 induction l with
 |nil=>rfl
 |cons b l ih=>
  have hb:b≠c:=fun e=>h (by simp [e])
  have:upto c (b::l)=b::upto c l:=by simp [upto,hb]
  rw [this,ih (fun h'=>h (by simp [h']))]
theorem qct (c:UInt8) (l:qe):(upto c l).length≤l.length:=by
 have:=congrArg List.length (qiv c l)
 simp at this
 omega
theorem qsf {c:UInt8} {l:qe} (h:c∈l):(upto c l).length<l.length:=by
 induction l with
 |nil=>simp at h
 |cons b l ih=>
  by_cases hb:b=c
  ·simp [upto,hb]
  ·have:upto c (b::l)=b::upto c l:=by simp [upto,hb]
   rw [this]
   have:=ih (by simpa [Ne.symm hb] using h)
   simp
   omega
theorem qcf (c:UInt8) (l:qe):(past c l).length=l.length - ((upto c l).length+1):=by simp [past]
theorem q9m (c:UInt8) (l:qe):Lib.cut l [c]=(upto c l,past c l,decide (c∈l)):=by
 unfold Lib.cut
 by_cases h:c∈l
 ·rw [if_pos ((qdp l c).2 h),qp4 c l h]
  simp [qiv,past,h]
 ·rw [if_neg (fun h'=>h ((qdp l c).1 h'))]
  simp [qe1 h,past,h]
theorem qat {c:UInt8} {l:qe} (h:l≠[]):(past c l).length<l.length:=by
 rw [qcf]
 have:=List.length_pos_iff.2 h
 omega
def vm (l:qe):List (qe×Bool):=
 if h:l=[] then [] else (upto 10 l,decide (10∈l))::vm (past 10 l)
 termination_by l.length
 decreasing_by exact qat h
theorem qai:vm []=[]:=by rw [vm];simp
theorem qbb {l:qe} (h:l≠[]):vm l=(upto 10 l,decide (10∈l))::vm (past 10 l):=by rw [vm];simp [h]
def qrr (b:Bool):qe:=if b then [10] else []
def qcw (by' l:qe):qe×Bool:=
 if ∀ x∈vm l,by' <+: x.1 then ((vm l).flatMap fun x=>x.1.drop by'.length++qrr x.2,true) else ([],false)
theorem qt7 (l m:qe):Lib.hasPrefix l m=true↔m <+: l:=by
 unfold Lib.hasPrefix
 exact List.isPrefixOf_iff_prefix
theorem qud {l m:qe} (h:m <+: l):Lib.trimPrefix l m=l.drop m.length:=by
 unfold Lib.trimPrefix
 rw [if_pos ((qt7 l m).2 h)]
theorem qa9 {c:UInt8} {a:qe} (r:qe) (h:c∉a):upto c (a++c::r)=a:=by
 induction a with
 |nil=>simp [upto]
 |cons b a ih=>
  have hb:b≠c:=fun e=>h (by simp [e])
  have h2:c∉a:=fun e=>h (by simp [e])
  have e:upto c (b::(a++c::r))=b::upto c (a++c::r):=by simp [upto,hb]
  rw [List.cons_append,e,ih h2]
theorem qbx {c:UInt8} {a:qe} (r:qe) (h:c∉a):past c (a++c::r)=r:=by
 unfold past
 rw [qa9 r h,show a++c::r=(a++[c])++r by simp,show a.length+1=(a++[c]).length by simp,List.drop_left]
theorem qbr {c:UInt8} {l:qe} (h:c∈l):l=upto c l++c::past c l:=by
 induction l with
 |nil=>simp at h
 |cons b l ih=>
  by_cases hb:b=c
  ·subst hb;simp [upto,past]
  ·have h2:c∈l:=by simpa [Ne.symm hb] using h
   have e1:upto c (b::l)=b::upto c l:=by simp [upto,hb]
   have e2:past c (b::l)=past c l:=by simp [past,e1]
   rw [e1,e2,List.cons_append,← ih h2]
theorem qca (c:UInt8) (l:qe):c∉upto c l:=by
 induction l with
 |nil=>simp [upto]
 |cons b l ih=>
  by_cases hb:b=c
  ·simp [upto,hb]
  ·have e1:upto c (b::l)=b::upto c l:=by simp [upto,hb]
   rw [e1]
   simp [Ne.symm hb,ih]
def jt (l:qe):qe:=l.takeWhile (·≠58)
theorem qy1 (l:qe) (h:58∈l):Lib.index l [58]=((jt l).length:Int):=by
 induction l with
 |nil=>simp at h
 |cons b l ih=>
  unfold Lib.index jt
  by_cases hb:b=58
  ·subst hb;simp [List.isPrefixOf]
  ·have hp:([58]:qe).isPrefixOf (b::l)=false:=by simp [List.isPrefixOf,Ne.symm hb]
   have hl:58∈l:=by simpa [Ne.symm hb] using h
   have e:=ih hl
   rw [hp]
   have:(Lib.index l [58] == -1)=false:=by rw [e];simp
   simp only [this]
   rw [e]
   simp [hb,jt]
theorem qx7 (l:qe):l.take (jt l).length=jt l:=by
 induction l with
 |nil=>simp [jt]
 |cons b l ih=>
  by_cases hb:b=58
  ·simp [jt,hb]
  ·have:jt (b::l)=b::jt l:=by simp [jt,hb]
   rw [this]
   simp [ih]
def wn (l:qe):qe:=l.drop ((jt l).length+1)
theorem qss (l:qe):Lib.cut l [58]=if 58∈l then (jt l,wn l,true) else (l,[],false):=by
 unfold Lib.cut
 by_cases h:58∈l
 ·rw [if_pos ((qdp l 58).2 h),if_pos h,qy1 l h]
  simp [qx7,wn]
 ·rw [if_neg (fun h'=>h ((qdp l 58).1 h')),if_neg h]
theorem qp9 {l:qe} {k:Nat} (h:58∉l.take k) (hk:k<l.length) (e:l.getD k 0=58):jt l=l.take k∧58∈l:=by
 induction l generalizing k with
 |nil=>simp at hk
 |cons b l ih=>
  cases k with
  |zero=>simp at e;subst e;simp [jt]
  |succ k=>
   simp only [List.take_succ_cons,List.mem_cons,not_or] at h
   obtain⟨h1,h2⟩:=ih h.2 (by simpa using hk) (by simpa using e)
   have:jt (b::l)=b::jt l:=by simp [jt,Ne.symm h.1]
   exact⟨by rw [this,h1];rfl,by simp [h2]⟩
def qeo (l:qe):qe×qe×Bool:=if 10∉l∧58∈l∧qau (jt l) then (jt l,wn l,true) else ([],[],false)
def qs (l:qe):Int:=
 if 10∈l then 5 else if ∀ c∈l,yo c then 1 else if l.head? = some 35 then 2 else if qfk l then 3
 else if 58∈l∧qau (jt l) then 4 else 5
theorem qnk {l:qe} (h:10∉l) (hb:¬ ∀ c∈l,yo c):0<l.length∧qs l=if l.getD 0 0=35 then 2 else if yo (l.getD 0 0) then 3 else if 58∈l∧qau (jt l) then 4 else 5:=by
 cases l with
 |nil=>simp at hb
 |cons c l=>
  have e:qfk (c::l)↔yo c:=⟨fun ⟨d,h,hd⟩=>by simp at h;subst h;exact hd,fun h=>⟨c,rfl,h⟩⟩
  refine⟨by simp,?_⟩
  unfold qs
  rw [if_neg h,if_neg hb]
  simp [e]
theorem qk0 {α : Type} (p : α→Bool) (l:List α):l.dropWhile p=[]↔∀ x∈l,p x=true:=by
 induction l with
 |nil=>simp
 |cons a l ih=>
  by_cases h:p a=true
  ·simp [h,ih]
  ·simp [h]
theorem q6x {α : Type} (p : α→Bool) (l:List α):(l.reverse.dropWhile p).reverse.dropWhile p=[]↔∀ x∈l,p x=true:=by
 rw [qk0]
 constructor
 ·intro h x hx
  by_cases hq:∀ y∈l,p y=true
  ·exact hq x hx
  ·have hr:¬ ∀ y∈l.reverse,p y=true:=fun h'=>hq fun y hy=>h' y (by simpa using hy)
   rw [← qk0] at hr
   obtain⟨a,r,hd⟩:=List.exists_cons_of_ne_nil hr
   have h1:=List.head?_dropWhile_not p l.reverse
   rw [hd] at h1
   have h2:=h a (by simp [hd])
   simp [h2] at h1
 ·intro h x hx
  exact h x (by
   have:=(List.dropWhile_sublist (l:=l.reverse) p).subset (by simpa using hx)
   simpa using this)
theorem qtu (l m:qe):Lib.trimS l m=[]↔∀ c∈l,c∈m:=by
 unfold Lib.trimS Lib.trimLeftS Lib.trimRightS
 rw [q6x]
 simp
theorem q1c (l m:qe):(Lib.cut l m).1.length≤l.length:=by
 unfold Lib.cut
 split
 ·simp;omega
 ·simp
def qf7 (l:qe):Prop:=2≤l.length∧l.length≤50000∧l.getLast? = some 10∧(qcw [32] l).2=true
instance (l:qe):Decidable (qf7 l):=inferInstanceAs (Decidable (_∧_∧_∧_))
def quk (n:Nat) (fig:qe):qe:=[37,97,109,101,110,100,32]++Lib.itoa n++[32]++fig++[10]
def qhb (n:Nat):qe:=[37,101,110,100,32]++Lib.itoa n++[10]
theorem qg5:∀ (k u:Nat),u<10 ^ (k+1)→Lib.nDigits u≤k+1
 | 0,u,h=>by rw [Lib.nDigits_small (by simpa using h)];omega
 |k+1,u,h=>by
  by_cases h':u<10
  ·rw [Lib.nDigits_small h'];omega
  ·rw [Lib.nDigits_big h']
   have:=qg5 k (u / 10) (by rw [Nat.pow_succ] at h;omega)
   omega
theorem qi9 {l:qe} {v:Int} (h:Lib.atoiAll l = .ok v) : -9223372036854775808≤v∧v≤9223372036854775807:=by
 unfold Lib.atoiAll at h
 cases l with
 |nil=>simp at h
 |cons c r=>
  simp only at h
  split at h
  ·simp at h
  ·simp at h
  ·split at h
   ·simp at h
   ·split at h
    ·simp at h
    ·rename_i h1 h2
     simp only [Lib.NumEnd.ok.injEq] at h
     subst h
     by_cases hn:c.toNat=45
     ·simp only [hn,true_and,not_true,if_true] at *
      omega
     ·simp only [hn,not_false_iff,true_and,if_false] at *
      omega
def qa0 (l:qe):Nat:=
 match Lib.atoiAll l with
 | .ok v=>if Lib.itoa v=l∧1≤v∧v≤50000 then v.toNat else 0
 | _=>0
def y4:qe:=[37,97,109,101,110,100,32]
def hexL:qe:=[48,49,50,51,52,53,54,55,56,57,97,98,99,100,101,102]
def qco (l:qe):Prop:=∀ c∈l,c∈hexL
instance (l:qe):Decidable (qco l):=inferInstanceAs (Decidable (∀ c∈l,c∈hexL))
def qag (l:qe):Nat×qe×Bool:=
 (qa0 (upto 32 (Lib.trimPrefix l y4)),past 32 (Lib.trimPrefix l y4),
  decide (y4 <+: l∧32∈Lib.trimPrefix l y4∧2≤qa0 (upto 32 (Lib.trimPrefix l y4))∧(past 32 (Lib.trimPrefix l y4)).length=8∧qco (past 32 (Lib.trimPrefix l y4))))
def qh1 (l:qe):Bool:=
 if y4 <+: l then decide (¬ (32∈l.drop 7∧qa0 (upto 32 (l.drop 7))<2)∧¬ (upto 32 (l.drop 7)≠[]∧qa0 (upto 32 (l.drop 7))=0)∧(past 32 (l.drop 7)).length≤8∧qco (past 32 (l.drop 7)))
 else decide (l <+: y4)
theorem q12 {l:qe} {v:Int} (h:Lib.atoiAll l = .ok v):(qa0 l:Int)=if Lib.itoa v=l∧1≤v∧v≤50000 then v else 0:=by
 unfold qa0
 rw [h]
 simp only
 split
 ·omega
 ·rfl
theorem qfq (l:qe):qa0 l≤50000:=by
 unfold qa0
 split
 ·split
  ·omega
  ·omega
 ·omega
def zaa (n:Int):Int:=if n<2∨50000<n then 0 else (quk n.toNat [48,48,48,48,48,48,48,48]).length+n+(qhb n.toNat).length
def qmu (body:qe) (lack:Int):Int:=
 if (qcw [32] body).2=true∧¬ ((body=[]∨body.getLast? = some 10)∧lack<2) then 2 else 3
theorem qx6 (n:Nat):(qhb n).length=(Lib.itoa n).length+6:=by simp [qhb] <;> omega
theorem qyt {u:Nat} (h:u<10):(([48,49,50,51,52,53,54,55,56,57]:qe).take (u+1)).drop u=Lib.decDigits u:=by
 rw [Lib.decDigits_one h]
 have:u=0∨u=1∨u=2∨u=3∨u=4∨u=5∨u=6∨u=7∨u=8∨u=9:=by omega
 rcases this with rfl|rfl|rfl|rfl|rfl|rfl|rfl|rfl|rfl|rfl <;> rfl
theorem qbg {u:Nat} (h:¬ u<10):Lib.decDigits u=Lib.decDigits (u / 10)++Lib.decDigits (u % 10):=by
 rw [Lib.decDigits,dif_neg h,Lib.decDigits_one (Nat.mod_lt u (by omega))]
theorem qew {u:Nat} (h:u<18446744073709551616):(Lib.decDigits u).length≤20:=by
 rw [Lib.decDigits_length]
 exact qg5 19 u (by omega)
end Go.Pl
namespace Go.Proofs.YtneejjefekdgjaaGreatDoor
open Go Go.Av Go.RowKit Go.Proofs Go.Pl
theorem qnc (l:List UInt8) (c:UInt8) (st:List AObj) (hl:l.length<4294967281):qp E 165 [Sv l,Sv [c]] st fun r st'=>r=Bv (decide (c∈l))∧st'=st:=by
 rw [← qlg];exact qpp l [c] st hl
theorem qhw (l:List UInt8) (c:UInt8) (st:List AObj):qp E 164 [Sv l,Sv [c]] st fun r st'=>r=Bv (decide (l.head? = some c))∧st'=st:=by
 rw [← qk2];exact qyy l [c] st
theorem qzs (l:List UInt8) (st:List AObj):qp E 163 [Sv l] st fun r st'=>r=Bv (decide (qfk l))∧st'=st:=by
 refine zi (qy _) (qt Tryz.func163 rfl (Nat.le_of_ble_eq_true rfl) ?_)
 cases l with
 |nil=>
  repeat' (first|apply qr|apply ql|apply qk|apply qo|apply qm|(apply jm;(iterate 3 exact rfl))|(apply qv;(iterate 4 exact rfl))|(apply ke;exact cRa)|(apply qf;exact rfl;apply pk_f;exact cRa)|apply zb)
  refine qq rfl (zf rfl) ⟨congrArg Bv (?_:_=_),_,rfl⟩
  simp [qfk]
 |cons c l=>
  have hne:¬ (c::l)=[]:=by simp
  repeat' (first|apply qr|apply ql|apply qk|apply qo|apply qm|(apply jm;(iterate 3 exact rfl))|(apply qv;(iterate 4 exact rfl))|(apply v7;exact cAo)|(apply qf;exact rfl;apply xq;exact cAo)|apply zb|refine qeg rfl rfl rfl ⟨_,rfl⟩ (by omega) (by omega) (by simp;omega) ?_|(apply qx;exact Tryz.call165;exact qpp _ _ _ (by simp)))
  refine qq rfl (zf rfl) ⟨congrArg Bv (?_:_=_),_,rfl⟩
  exact qri c l
theorem q1t (l:List UInt8) (st:List AObj) (hl:l.length<4294967281):qp E 99 [Sv l] st fun r st'=>r=Bv (decide (qau l))∧st'=st:=by
 refine zi (qy _) (qt Tryz.func99 rfl (Nat.le_of_ble_eq_true rfl) ?_)
 repeat' (first|apply qr|apply ql|apply qk|apply qo|apply qm|(apply qw;(iterate 3 exact rfl))|(apply jm;(iterate 3 exact rfl))|(apply jv;exact rfl)|(apply qv;(iterate 4 exact rfl))|(apply kg;exact cAo)|(apply j6;exact cAo)|(apply vw;exact cRa)|(apply kq;exact cRa)|(apply kr <;> intro h)|(apply vq;exact cRa)|(apply jo <;> intro h)|(apply qf;exact rfl;apply xq;exact cAo)|(apply qf;exact rfl;apply x3;exact cAo)|(apply qf;exact rfl;apply qal;exact cRa)|(apply qf;exact rfl;apply qad;exact cRa)|(apply qf;exact rfl;apply pk_t;exact cRa)|(apply qc;exact rfl;apply cd_t;exact cRa)|(apply qc;exact rfl;apply cd_d <;> intro h)|(apply zx;(iterate 3 exact rfl))|apply q8|apply zb|(apply qx;exact Tryz.call165;exact qnc _ _ _ hl)|(apply qx;exact Tryz.call164;exact qhw _ _ _)|(apply qx;exact Tryz.call163;exact qzs _ _))
 all_goals refine qq rfl (zf rfl) ⟨congrArg Bv (?_:_=_),_,rfl⟩
 all_goals simp [qau, *]
 all_goals omega
theorem qkj (c:UInt8) (st:List AObj):qp E 220 [Uv c] st fun r st'=>r=Bv (decide (yo c))∧st'=st:=by
 refine zi (qy _) (qt Tryz.func220 rfl (Nat.le_of_ble_eq_true rfl) ?_)
 repeat' (first|apply qr|apply ql|apply qk|apply qo|apply qm|(apply qw;(iterate 3 exact rfl))|(apply qv;(iterate 4 exact rfl))|(apply kg;exact cAo)|(apply j6;exact cAo)|(apply jo <;> intro h)|(apply qf;exact rfl;apply xq;exact cAo)|(apply qf;exact rfl;apply x3;exact cAo)|apply zb)
 all_goals refine qq rfl (zf rfl) ⟨congrArg Bv (?_:_=_),_,rfl⟩
 all_goals simp_all [yo,q2r,u8_9]
theorem qoq (l:List UInt8) (st:List AObj) (hl:l.length<4294967281):qp E 143 [Sv l] st fun r st'=>r=Bv (decide (qau l))∧st'=st:=by
 refine zi (qy _) (qt Tryz.func143 rfl (Nat.le_of_ble_eq_true rfl) ?_)
 repeat' (first|apply qr|apply ze|apply ql|apply qk|apply qo|apply qm|(apply qw;(iterate 3 exact rfl))|(apply qv;(iterate 4 exact rfl))|(apply kg;exact cAo)|(apply j6;exact cAo)|(apply vq;exact cRa)|(apply jo <;> intro h)|(apply qf;exact rfl;apply xq;exact cAo)|(apply qf;exact rfl;apply x3;exact cAo)|(apply qf;exact rfl;apply pk_t;exact cRa)|(apply qc;exact rfl;apply cd_t;exact cRa)|(apply qc;exact rfl;apply cd_d <;> intro h)|(apply zx;(iterate 3 exact rfl))|(apply j7;(iterate 3 exact rfl);exact cAs)|apply q8|apply zb|(apply qx;exact Tryz.call220;exact qkj _ _))
 rotate_left 4
 ·refine yl (fun (k:Nat) s=>k≤l.length∧58∉l.take k∧10∉l.take k∧StA [(0,Sv l),(3,Iv k)] (st++[]) [] s) (fun k=>l.length - k) 0 ⟨by omega,by simp,by simp,v6 ⟨rfl,rfl,trivial⟩⟩ ?_
  rintro k _ ⟨hk,h1,h2,t,rfl⟩
  repeat' (first|apply qr|apply ze|apply ql|apply qk|apply qo|apply qm|(apply qw;(iterate 3 exact rfl))|(apply qv;(iterate 4 exact rfl))|(apply kg;exact cAo)|(apply j6;exact cAo)|(apply jo <;> intro h)|(apply qf;exact rfl;apply xq;exact cAo)|(apply qf;exact rfl;apply x3;exact cAo)|(apply qc;exact rfl;apply cd_t;exact cRa)|(apply qc;exact rfl;apply cd_d <;> intro h)|(apply zx;(iterate 3 exact rfl))|(apply zp;exact rfl;exact rfl;exact qn (by omega) (by omega))|(apply j7;(iterate 3 exact rfl);exact cAs)|apply q8|apply jq|apply zb)
  rotate_left 2
  ·exact⟨k+1,⟨by omega,qd7 (by omega) h1 (by simp_all [qq7]),qd7 (by omega) h2 (by simp_all [qdi]),v6 ⟨rfl,rfl,trivial⟩⟩,by omega⟩
  all_goals refine qq rfl (zf rfl) ⟨congrArg Bv (?_:_=_),_,rfl⟩
  ·have e:k=l.length:=by omega
   subst e
   simp_all [qil,qm0]
   omega
  ·have:=qjg (l:=l) (k:=k) (by omega)
   simp_all [qil,qq7]
  ·have:=qjg (l:=l) (k:=k) (by omega)
   simp_all [qil,qdi]
 all_goals refine qq rfl (zf rfl) ⟨congrArg Bv (?_:_=_),_,rfl⟩
 all_goals simp_all [qil,qm0]
 all_goals omega
theorem qxm (l:List UInt8) (st:List AObj) (hl:l.length<4294967281):qp E 221 [Sv l] st fun r st'=>r = .tu [Sv (qeo l).1,Sv (qeo l).2.1,Bv (qeo l).2.2]∧st'=st:=by
 refine zi (ql4 _ _ _) (qt Tryz.func221 rfl (Nat.le_of_ble_eq_true rfl) ?_)
 repeat' (first|apply qr|apply ze|apply ql|apply qk|apply qm)
 refine yl (fun (k:Nat) s=>k≤l.length∧10∉l.take k∧StA [(0,Sv l),(2,Sv []),(3,Sv []),(4,Bv false),(5,Iv k)] (st++[]) [] s) (fun k=>l.length - k) 0 ⟨by omega,by simp,v6 ⟨rfl,rfl,rfl,rfl,rfl,trivial⟩⟩ ?_
 rintro k _ ⟨hk,h1,t,rfl⟩
 repeat' (first|apply qr|apply ze|apply ql|apply qk|apply qo|apply qm|(apply qw;(iterate 3 exact rfl))|(apply qc;exact rfl;apply cd_d <;> intro h)|(apply zx;(iterate 3 exact rfl))|(apply zp;exact rfl;exact rfl;exact qn (by omega) (by omega))|(apply j7;(iterate 3 exact rfl);exact cAs)|apply q8|apply jq|apply zb)
 rotate_left 1
 ·exact⟨k+1,⟨by omega,qd7 (by omega) h1 (by simp_all [qdi]),v6 ⟨rfl,rfl,rfl,rfl,rfl,trivial⟩⟩,by omega⟩
 ·have e:k=l.length:=by omega
  subst e
  rw [List.take_length] at h1
  refine yl (fun (k:Nat) s=>k≤l.length∧58∉l.take k∧StA [(0,Sv l),(2,Sv []),(3,Sv []),(4,Bv false),(6,Iv k)] (st++[]) [] s) (fun k=>l.length - k) 0 ⟨by omega,by simp,v6 ⟨rfl,rfl,rfl,rfl,rfl,trivial⟩⟩ ?_
  rintro k _ ⟨hk,h2,t,rfl⟩
  repeat' (first|apply qr|apply ze|apply ql|apply qk|apply qo|apply qm|(apply qw;(iterate 3 exact rfl))|(apply jv;exact rfl)|(apply qc;exact rfl;apply cd_n <;> intro h)|(apply qc;exact rfl;apply cd_d <;> intro h)|(apply zx;(iterate 3 exact rfl))|(apply zp;exact rfl;exact rfl;exact qn (by omega) (by omega))|(apply j7;(iterate 3 exact rfl);exact cAs)|(apply vo;(iterate 3 exact rfl);exact cAs)|(apply w6;exact rfl;kernel_rfl)|apply yb|apply w9|apply vu|(apply yj;exact rfl;exact rfl;exact qn (by omega) (by omega))|(apply xp;(iterate 3 exact rfl);exact cAs)|(apply xl;(iterate 3 exact rfl);exact cAs)|apply q8|apply jq|apply zb|(apply qx;exact Tryz.call143;exact qoq _ _ (by simp;omega)))
  rotate_left 2
  ·exact⟨k+1,⟨by omega,qd7 (by omega) h2 (by simp_all [qq7]),v6 ⟨rfl,rfl,rfl,rfl,rfl,trivial⟩⟩,by omega⟩
  all_goals refine qq rfl (qgv rfl) ⟨qx9 (?_:_=_),_,rfl⟩
  ·have e:k=l.length:=by omega
   subst e
   rw [List.take_length] at h2
   simp [qeo,h2]
  ·obtain⟨e1,e2⟩:=qp9 h2 (by omega) (by simp_all [qq7])
   simp_all [qeo]
  ·obtain⟨e1,e2⟩:=qp9 h2 (by omega) (by simp_all [qq7])
   have hk':k<l.length:=by omega
   have hk2:(l.take k).length=k:=by simp;omega
   have hkey:qau (l.take k):=by simp_all
   simp only [qeo,wn,e1,e2,h1,hkey,hk2]
   simp
 ·refine qq rfl (qgv rfl) ⟨qx9 (?_:_=_),_,rfl⟩
  have:=qjg (l:=l) (k:=k) (by omega)
  simp_all [qeo,qdi]
theorem qis (l:List UInt8) (st:List AObj) (hl:l.length<4294967281):qp E 138 [Sv l] st fun r st'=>r=Iv (qs l)∧st'=st:=by
 refine zi (qy _) (qt Tryz.func138 rfl (Nat.le_of_ble_eq_true rfl) ?_)
 repeat' (first|apply qr|apply ze|apply ql|apply qk|apply qm)
 refine yl (fun (k:Nat) s=>k≤l.length∧10∉l.take k∧∃ b,(b=true↔∀ c∈l.take k,yo c)∧StA [(0,Sv l),(3,Bv b),(4,Iv k)] (st++[]) [] s) (fun k=>l.length - k) 0 ⟨by omega,by simp,true,by simp,v6 ⟨rfl,rfl,rfl,trivial⟩⟩ ?_
 rintro k _ ⟨hk,h1,b,hb,t,rfl⟩
 repeat' (first|apply qr|apply ze|apply ql|apply qk|apply qo|apply qm|(apply qw;(iterate 3 exact rfl))|(apply qv;(iterate 4 exact rfl))|(apply vr;exact cRa)|(apply ke;exact cRa)|(apply wl <;> intro h)|(apply qf;exact rfl;apply pk_t;exact cRa)|(apply qf;exact rfl;apply pk_f;exact cRa)|(apply qc;exact rfl;apply cd_d <;> intro h)|(apply qc;exact rfl;apply cd_s <;> intro h)|(apply zx;(iterate 3 exact rfl))|(apply zp;exact rfl;exact rfl;exact qn (by omega) (by omega))|(apply j7;(iterate 3 exact rfl);exact cAs)|apply q8|apply jq|apply zb|(apply qx;exact Tryz.call220;exact qkj _ _))
 ·refine qq rfl (zf rfl) ⟨congrArg Iv (?_:_=_),_,rfl⟩
  have:=qjg (l:=l) (k:=k) (by omega)
  simp_all [qs,qdi]
 ·exact⟨k+1,⟨by omega,qd7 (by omega) h1 (by simp_all [qdi]),_,by rw [qu2 (by omega),decide_eq_true_iff,← hb];simp [*],v6 ⟨rfl,rfl,rfl,trivial⟩⟩,by omega⟩
 ·exact⟨k+1,⟨by omega,qd7 (by omega) h1 (by simp_all [qdi]),_,by rw [qu2 (by omega),← hb];simp [*],v6 ⟨rfl,rfl,rfl,trivial⟩⟩,by omega⟩
 ·refine qq rfl (zf rfl) ⟨congrArg Iv (?_:_=_),_,rfl⟩
  have e:k=l.length:=by omega
  subst e
  simp_all [qs]
 ·have e:k=l.length:=by omega
  subst e
  rw [List.take_length] at h1 hb
  obtain⟨h0,hk⟩:=qnk h1 (fun h=>by simp_all)
  repeat' (first|apply qr|apply ql|apply qk|apply qo|apply qm|(apply zj;exact rfl;exact rfl)|(apply qw;(iterate 3 exact rfl))|(apply qc;exact rfl;apply cd_d <;> intro h)|(apply qc;exact rfl;apply cd_s <;> intro h)|(apply j7;(iterate 3 exact rfl);exact cAs)|apply q8|apply zb|(apply qx;exact Tryz.call220;exact qkj _ _)|(apply qx;exact Tryz.call221;exact qxm _ _ hl))
  all_goals refine qq rfl (zf rfl) ⟨congrArg Iv (?_:_=_),_,rfl⟩
  ·simp_all [qm0]
  ·simp_all [qm0]
  ·have hc:58∈l∧qau (jt l):=by
    apply Classical.byContradiction
    intro hn
    have:qeo l=([],[],false):=by unfold qeo;rw [if_neg (fun h=>hn h.2)]
    simp_all
   simp_all [qm0]
  ·have hc:¬ (58∈l∧qau (jt l)):=fun hn=>by
    have:qeo l=(jt l,wn l,true):=by unfold qeo;rw [if_pos ⟨h1,hn⟩]
    simp_all
   simp_all [qm0]
theorem qlq (l:List UInt8) (st:List AObj) (hl:l.length<4294967281):qp E 122 [Sv l] st fun r st'=>r=Iv (qs l)∧st'=st:=by
 refine zi (qy _) (qt Tryz.func122 rfl (Nat.le_of_ble_eq_true rfl) ?_)
 repeat' (first|apply qr|apply ze|apply ql|apply qk|apply qo|apply qm|(apply zj;exact rfl;exact rfl)|(apply jm;(iterate 3 exact rfl))|(apply qv;(iterate 4 exact rfl))|(apply vr;exact cRa)|(apply ke;exact cRa)|(apply wl <;> intro h)|(apply qf;exact rfl;apply pk_t;exact cRa)|(apply qf;exact rfl;apply pk_f;exact cRa)|(apply qc;exact rfl;apply cd_f;exact cRa)|(apply qc;exact rfl;apply cd_d <;> intro h)|apply q8|apply zb|(apply qx;exact Tryz.call165;exact qnc _ _ _ hl)|(apply qx;exact Tryz.call209;exact q5z _ _ _ (by omega) (by simp) (by intro j b h;match j with | 0=>simp at h;subst h;decide | 1=>simp at h;subst h;decide|j+2=>simp at h))|(apply qx;exact Tryz.call164;exact qhw _ _ _)|(apply qx;exact Tryz.call163;exact qzs _ _)|(apply qx;exact Tryz.call72;exact q1b _ _ _ hl)|(apply qx;exact Tryz.call99;exact q1t _ _ (Nat.lt_of_le_of_lt (q1c _ _) hl)))
 all_goals refine qq rfl (zf rfl) ⟨congrArg Iv (?_:_=_),_,rfl⟩
 all_goals have hb:Lib.trimS l [32,9]=[]↔∀ c∈l,yo c:=by rw [qtu];simp [yo]
 all_goals by_cases hA:∀ c∈l,yo c <;> by_cases hC:58∈l <;> by_cases hK:qau (jt l) <;> simp_all [qs,qss]
end Go.Proofs.YtneejjefekdgjaaGreatDoor
namespace Go.Proofs
open Go.Shelf Go.RowKit
variable {P : Program} {ρ : Ren}
set_option maxHeartbeats 4000000 in
theorem qpk (L:Lays.n169 P ρ) (X:Builder.Extra P ρ) (b n c:Nat) (ad:Option Addr) (q:Value) (str:ByteArray) (w w2:World) (c1:w.drew.cell? ⟨b,1,none⟩=some (.slice ad n c))
  (hSD:(Builtin.unsafeSliceData_ #[(ρ.t 37)] (ρ.t 127) #[.slice ad n c]).run P w.drew = .ok q w.drew)
  (hUS:(Builtin.unsafeString_ #[(ρ.t 127),(ρ.t 3)] (ρ.t 9) #[q,.int .i64 n]).run P w.drew = .ok (.string str) w2) :
  Calls P (ρ.f 169) #[.pointer (some ⟨b,0,none⟩)] w fun e w'=>e = .returned (.string str)∧w'=w2:=by
 have mixed:=L.mixed
 have t72:=L.t72;have a72:=L.a72;have z72:=L.z72;have v72:=L.v72;have u72:=run_underlying L.t72
 have t70:=L.t70;have a70:=L.a70;have z70:=L.z70;have v70:=L.v70;have u70:=run_underlying L.t70
 have t37:=L.t37;have a37:=L.a37;have z37:=L.z37;have v37:=L.v37;have u37:=run_underlying L.t37
 have t127:=L.t127;have a127:=L.a127;have z127:=L.z127;have v127:=L.v127;have u127:=run_underlying L.t127
 have t3:=L.t3;have a3:=L.a3;have z3:=L.z3;have v3:=L.v3;have u3:=run_underlying L.t3
 have t9:=L.t9;have a9:=L.a9;have z9:=L.z9;have v9:=L.v9;have u9:=run_underlying L.t9
 have t5:=X.t5;have a5:=X.a5;have z5:=X.z5;have v5:=X.v5;have u5:=run_underlying X.t5
 go_enter L.f169,Body.n169_ntmps ρ
 go_wp2
 go_region_o
 all_goals (go_wp2;go_ret;exact⟨rfl,rfl⟩)
end Go.Proofs
namespace Go.Proofs.YtneejjefekdgjaaGreatDoor
open Go Go.Av Go.RowKit Go.Proofs
@[reducible] def bldO (ver : Nat) (q : AV) (l : List UInt8) (tp : Nat) : AObj := .cells ver 246 [q, .sl 1 (l.map Uv) (some tp)]
theorem qwx (v:Value) (w:World):(callFunc 295 #[v]).run E.P w = .ok (.value v) w:=by
 have h:=run_callFunc_extern (P:=E.P) Tryz.func295 (by kernel_rfl) (by kernel_rfl) (by kernel_rfl) (e:=Extern.AbiNoEscape.same) (by kernel_rfl) #[v] w
 rw [h,Lib.run_noEscape]
 rfl
theorem q9h (o ver:Nat) (q buf:AV) (st:List AObj) (ho:st[o]? = some (.cells ver 246 [q,buf])) (hq:q = .v (.pointer none)∨q = .bx o ver 0) :
  qp E 238 [.bx o ver 0] st fun r st'=>r = .tu []∧st'=st.set o (.cells ver 246 [.bx o ver 0,buf]):=by
 have ho':(st++[])[o]? = some (.cells ver 246 [q,buf]):=by rw [List.append_nil];exact ho
 refine qt Tryz.func238 rfl (Nat.le_of_ble_eq_true rfl) ?_
 rcases hq with rfl|rfl
 ·skip
  repeat' (first|apply qr|apply ql|apply qk|apply qo|(apply qc;exact rfl;apply cd_t;exact cRa)|(apply q5;(iterate 3 exact rfl))|(apply zo;exact rfl;exact rfl)|(apply z4;(iterate 3 exact rfl))|(apply ya;exact rfl;exact ho';exact rfl;exact rfl)|(apply qc4;exact rfl;exact rfl;exact ho';(iterate 6 exact rfl))|(apply qt1;exact rfl;exact ho';(simp);exact rfl;exact rfl;kernel_rfl)|(apply qpb;exact rfl;exact ho';(iterate 3 exact rfl);kernel_rfl)|(apply qtz;exact qwx;exact rfl))
  refine qq rfl (qdm rfl) ⟨rfl,?_⟩
  show (st++[]).set o _=_
  rw [List.append_nil]
  rfl
 ·skip
  repeat' (first|apply qr|apply ql|apply qk|apply qo|(apply qc;exact rfl;apply cd_f;exact cRa)|(apply q5;(iterate 3 exact rfl))|(apply zo;exact rfl;exact rfl)|(apply z4;(iterate 3 exact rfl))|apply q8|(apply ya;exact rfl;exact ho';exact rfl;exact rfl)|(apply qre;exact rfl;exact rfl;exact ho';exact rfl;exact rfl))
  refine qq rfl (qdm rfl) ⟨rfl,?_⟩
  show st++[]=_
  rw [List.append_nil,q8h ho]
theorem q9s:qan E.P 5 1 1:=⟨_,_,rfl,rfl,rfl,rfl,rfl⟩
theorem q6k (o ver tp:Nat) (q:AV) (l m:List UInt8) (st:List AObj) (ho:st[o]? = some (bldO ver q l tp)) (ht:st[tp]? = some (.tip l.length 1 5)) (hq:q = .v (.pointer none)∨q = .bx o ver 0) (hlen:l.length+m.length≤140737488355328) :
  qp E 168 [.bx o ver 0,Sv m] st fun r st'=>r = .tu [Iv m.length,.v .nilIface]∧st'=(st.set o (bldO ver (.bx o ver 0) (l++m) tp)).set tp (.tip (l.length+m.length) 1 5):=by
 have hne:tp≠o:=fun e=>by rw [e,ho] at ht;simp at ht
 have ho':(st++[])[o]? = some (bldO ver q l tp):=by rw [List.append_nil];exact ho
 have ht':(st++[])[tp]? = some (.tip l.length 1 5):=by rw [List.append_nil];exact ht
 have h2:=xg (y:=.cells ver 246 [.bx o ver 0,.sl 1 (l.map Uv) (some tp)]) ho'
 have h3:=yq (y:=.cells ver 246 [.bx o ver 0,.sl 1 (l.map Uv) (some tp)]) ht' (Ne.symm hne)
 have h4:=yq (y:=.tip (l.length+m.length) 1 5) h2 hne
 have h5:maxLen=140737488351232∨True:=.inr trivial
 refine qt Tryz.func168 rfl (Nat.le_of_ble_eq_true rfl) ?_
 repeat' (first|apply qr|apply ql|apply qk|apply qo|apply qm|(apply zx;(iterate 3 exact rfl))|(apply q5;(iterate 3 exact rfl))|(apply zo;exact rfl;exact rfl)|apply zb|(apply qx;exact Tryz.call238;exact q9h o ver q _ (st++[]) ho' hq)|(apply ya;exact rfl;exact h2;exact rfl;exact rfl)|(apply qu7;exact rfl;exact rfl;exact h3;(simp);exact rfl;exact rfl;exact q9s;(simp only [maxLen];omega);omega)|(apply qc4;exact rfl;exact rfl;exact h4;(iterate 6 exact rfl)))
 refine qq rfl (qav rfl) ⟨rfl,?_⟩
 show (((st++[]).set o _).set tp _).set o (.cells ver 246 [.bx o ver 0,.sl 1 (l.map Uv++m.map Uv) (some tp)])=_
 rw [List.append_nil,List.set_comm _ _ hne,List.set_set,← List.map_append]
theorem q3k (o ver tp:Nat) (q:AV) (l:List UInt8) (st:List AObj) (ho:st[o]? = some (bldO ver q l tp)) (ht:st[tp]? = some (.tip l.length 1 5)) :
  qp E 171 [.bx o ver 0] st fun r st'=>r=Sv l∧st'=st.set tp .dead:=by
 refine⟨fun B0 w0 G vals w hL hA hR=>?_⟩
 obtain⟨h0,h1,h2,h3,c,h4,h5,h6⟩:=hA.ob o _ ho
 obtain⟨g0,g1,g2⟩:=hA.ob tp _ ht
 have hne:tp≠o:=fun e=>by rw [e,ho] at ht;simp at ht
 have hvals:vals = #[.pointer (some ⟨(G.ob o).blk,0,none⟩)]:=by
  have hs:vals.size=1:=by have:=hR.1;simpa using this.symm
  have h:=hR.2 0 (.bx o ver 0) vals[0] rfl (by simp [hs])
  apply Array.ext
  ·simp [hs]
  ·intro i hi1 hi2
   have:i=0:=by simp at hi2;omega
   subst this
   have e:vals[0] = .pointer (some ⟨(G.ob o).blk,0,none⟩):=by
    generalize vals[0]=v at h
    cases h with
    |bx _ _ _ b hn e1 e2=>rw [e2 h1]
   simpa using e
 subst hvals
 have hc2:c.size=2:=by rw [← h5];rfl
 have hrel:=h6 1 (.sl 1 (l.map Uv) (some tp)) c[1] rfl (by simp [hc2])
 have hcell:w.drew.cell? ⟨(G.ob o).blk,1,none⟩=some c[1]:=by
  have h4':w.drew.heap[(G.ob o).blk]? = some (.cells c 246 (0,0)):=h4
  simp [World.cell?,h4',hc2]
 generalize hv:c[1]=v at hrel hcell
 have hdrew:Below w.heap.size w w.drew:=⟨rfl,rfl,rfl,Nat.le_refl _,fun _ _=>rfl⟩
 have hA1:=(hA.kill tp).fresh hdrew
 have hl:(l.map Uv).length=l.length:=by simp
 generalize hxs:l.map Uv=xs at hrel
 cases hrel with
 |sl0 _ _ base cap hto=>
  obtain⟨_,rfl,rfl⟩:=hto tp rfl
  have hl0:l=[]:=by simpa using hxs
  subst hl0
  refine (qpk Tryz.lays169 Tryz.Builder_Extra_169 (G.ob o).blk 0 0 none (.pointer none) .empty w w.drew hcell rfl (Lib.run_unsafeString_none w.drew _ _ _ none)).mono ?_
  rintro e w' ⟨rfl,rfl⟩
  exact⟨_,G,Sv [],_,rfl,.refl G,hA1,.v _,rfl,rfl⟩
 |sl _ _ _ b off cap pub hp hw hlen hr hto hcap0=>
  subst hxs
  rw [hl] at hto hcell
  obtain⟨_,hn0,_,hcur⟩:=hto tp rfl
  obtain⟨hb,rfl,hcp,hcm,hcl⟩:=hcur g1
  obtain⟨hB,c2,vs,e1,e2,e3,e4⟩:=g2 hn0
  rw [hb] at e1 e2 hB
  have hcells:∀ j x,l[j]? = some x→w.drew.cell? ((⟨b,0,none⟩:Addr).add j)=some (.int .u8 x.toNat):=fun j x hx=>by
   obtain⟨c3,T3,fz3,k1,k2⟩:=hA.pub b pub hp
   have k1':w.drew.heap[b]? = some (.cells c3 T3 fz3):=k1
   have hj:j<(flat (l.map Uv)).length:=by rw [qj1];simpa using lt_of_getElem? hx
   have hy:pub[0+j]? = some (pub[0+j]'(by omega)):=List.getElem?_eq_getElem (by omega)
   have hrj:=hr j (Uv x) _ (by rw [qj1];simp [hx]) hy
   have:pub[0+j]'(by omega) = .int .u8 x.toNat:=by
    generalize pub[0+j]'(by omega)=y at hrj
    cases hrj;rfl
   rw [this] at hy
   rw [Addr.add_lit]
   simp only [World.cell?,k1']
   simpa using k2 _ _ hy
  have hle:l.length≤c2.size:=by rw [e4,← hcp];omega
  have e1':w.drew.heap[b]? = some (.cells c2 5 (0,0)):=e1
  have hUS:=Lib.run_unsafeString_row (P:=E.P) w.drew 311 3 9 5 rfl (by kernel_rfl) b c2.size (by simp [World.shape?,e1']) l (by rintro rfl;exact hn0 rfl) hle (by simp only [maxLen] at hcm;omega) hcells
  have hSD:(Builtin.unsafeSliceData_ #[244] 311 #[.slice (some ⟨b,0,none⟩) l.length cap]).run E.P w.drew = .ok (.pointer (some ⟨b,0,none⟩)) w.drew:=Lib.run_unsafeSliceData_row _ _ _ _ _ _ (by omega)
  refine (qpk Tryz.lays169 Tryz.Builder_Extra_169 (G.ob o).blk l.length cap (some ⟨b,0,none⟩) _ _ w _ hcell hSD hUS).mono ?_
  rintro e w' ⟨rfl,rfl⟩
  have hfz:∃ fz',(w.drew.freeze ⟨b,0,none⟩ l.length).heap[b]? = some (.cells c2 5 fz'):=by
   unfold World.freeze
   rw [if_neg hn0]
   simp [Array.getElem?_modify,e1']
  obtain⟨fz',hfz⟩:=hfz
  have hoth:∀ k,k≠b→(w.drew.freeze ⟨b,0,none⟩ l.length).heap[k]? = w.drew.heap[k]?:=fun k hk=>by
   unfold World.freeze
   rw [if_neg hn0]
   simp [Array.getElem?_modify,Ne.symm hk]
  refine⟨_,G,Sv l,_,rfl,.refl G,hA1.refroze e1' hfz hoth hB (by unfold World.freeze;rw [if_neg hn0];simp) (by unfold World.freeze;rw [if_neg hn0]) (by unfold World.freeze;rw [if_neg hn0]) (by unfold World.freeze;rw [if_neg hn0]) (fun k x hx hlv=>?_),.v _,rfl,rfl⟩
  rcases getElem?_set' _ _ _ _ _ hx with⟨_,e⟩ | ⟨k1,k2⟩
  ·subst e;exact hlv.elim
  ·have:=hA.sep k tp x _ k1 k2 ht hlv hn0
   rwa [hb] at this
end Go.Proofs.YtneejjefekdgjaaGreatDoor
namespace Go.Proofs.YtneejjefekdgjaaGreatDoor
open Go Go.Av Go.RowKit Go.Proofs Go.Pl
theorem zbz (l:List UInt8) (c:UInt8) (st:List AObj) (hl:l.length<4294967281):qp E 72 [Sv l,Sv [c]] st fun r st'=>r = .tu [Sv (upto c l),Sv (past c l),Bv (decide (c∈l))]∧st'=st:=by
 have:=q1b l [c] st hl
 rw [q9m] at this
 exact this
@[reducible] def qul (k : Nat) (text rest : List UInt8) : AV := .ag [Iv k, Iv ((text.length : Int) - rest.length), Sv (upto 10 rest), Bv (decide (10 ∈ rest))]
theorem za9 (text:List UInt8) (st st':List AObj) (n:Nat) (hn:st.length=n) (hst:st++[.cells 0 9 [Sv text]]=st'):qp E 67 [Sv text] st fun r st1=>r = .fn (.func 121) [] [.bx n 0 0]∧st1=st':=by
 subst hn
 subst hst
 refine qt Tryz.func67 rfl (Nat.le_of_ble_eq_true rfl) ?_
 repeat' (first|apply qr|apply ql|apply qk|apply qm|apply jg|(apply vl;(iterate 4 exact rfl))|apply zb)
 exact qq rfl (zf rfl) ⟨rfl,rfl⟩
def zbx (x:BitVec 32):BitVec 32:=if x &&& 2147483648#32≠0#32 then (x <<< 1) ^^^ 79764919#32 else x <<< 1
def qzw:Nat→BitVec 32→BitVec 32
 | 0,x=>x
 |n+1,x=>zbx (qzw n x)
def rowT (i:Nat):BitVec 32:=qzw 4 (BitVec.ofNat 32 i <<< 28)
def crcN (x:BitVec 32) (n:Nat):BitVec 32:=(x <<< 4) ^^^ rowT ((x >>> 28) ^^^ BitVec.ofNat 32 n).toNat
def crcP (x:BitVec 32) (c:UInt8):BitVec 32:=crcN (crcN x (c.toNat / 16)) (c.toNat % 16)
def addP (s:BitVec 32) (l:List UInt8):BitVec 32:= ~~~ (l.foldl crcP (~~~ s))
def figP (s:BitVec 32) (j:Nat):UInt8:=[48,49,50,51,52,53,54,55,56,57,97,98,99,100,101,102].getD ((s >>> (4 * (7 - j))) &&& BitVec.ofInt 32 15).toNat 0
def q1h (s:BitVec 32) (n:Nat):List UInt8:=(List.range n).map (figP s)
def sumF (l:List UInt8):List UInt8:=q1h (addP 0 l) 8
def qzu (rest body sums:List UInt8) (size:Int):Int×List UInt8×Int:=
 if rest.length<(qhb body.length).length∧rest <+: qhb body.length then (2,[],0)
 else if qhb body.length <+: rest∧sums=sumF body then (1,body,size) else (3,[],0)
def qcb (l:List UInt8):Int×List UInt8×Int:=
 if 10∈l then
  if (qag (upto 10 l)).2.2=true then
   if (past 10 l).length<(qag (upto 10 l)).1 then (qmu (past 10 l) ((qag (upto 10 l)).1 - (past 10 l).length),[],0)
   else if qf7 ((past 10 l).take (qag (upto 10 l)).1) then qzu ((past 10 l).drop (qag (upto 10 l)).1) ((past 10 l).take (qag (upto 10 l)).1) (qag (upto 10 l)).2.1 (zaa (qag (upto 10 l)).1)
   else (3,[],0)
  else (3,[],0)
 else if qh1 l=true then (2,[],0) else (3,[],0)
def recF (l:List UInt8):List UInt8:=quk l.length (sumF l)++l++qhb l.length
theorem qhc:∀ (n u:Nat),u<n→u<18446744073709551616→∀ st,qp E 189 [.v (.int .u64 (u:Int))] st fun r st'=>r=Sv (Lib.decDigits u)∧st'=st
 | 0,_,h,_,_=>absurd h (Nat.not_lt_zero _)
 |n+1,u,hu,h64,st=>by
  refine zi (qy _) (qt Tryz.func189 rfl (Nat.le_of_ble_eq_true rfl) ?_)
  have hl1:=qew (u:=u / 10) (by omega)
  have hl2:=qew (u:=u % 10) (by omega)
  by_cases h10:u<10
  ·skip
   repeat' (first|apply qr|apply ql|apply qk|apply qo|apply qm|(apply qw;(iterate 3 exact rfl))|(apply qc;exact rfl;apply wa;exact cAo)|(apply va;(iterate 4 exact rfl);exact cAs;exact cAs)|apply zb|(apply q27 (n:=1);exact rfl;exact rfl;exact qjq (by omega)))
   exact qq rfl (zf rfl) ⟨congrArg Sv (qyt h10),_,rfl⟩
  ·have ih1:=qhc n (u / 10) (by omega) (by omega)
   have ih2:=qhc n (u % 10) (by omega) (by omega)
   repeat' (first|apply qr|apply ql|apply qk|apply qo|apply qm|(apply qw;(iterate 3 exact rfl))|(apply qc;exact rfl;apply wq;exact cAo)|(apply jf;exact rfl;exact rfl;exact cOs)|apply q8|apply zb|(apply q29 (n:=10);exact rfl;exact rfl;omega;exact qjq (by omega))|(apply q3a (n:=10);exact rfl;exact rfl;omega)|(apply qx;exact Tryz.call189;exact ih1 _)|(apply qx;exact Tryz.call189;exact ih2 _))
   exact qq rfl (zf rfl) ⟨congrArg Sv (qbg h10).symm,_,rfl⟩
theorem qxn (k:Nat) (st:List AObj) (hk:k≤9223372036854775807):qp E 114 [Iv k] st fun r st'=>r=Sv (Lib.itoa k)∧st'=st:=by
 refine zi (qy _) (qt Tryz.func114 rfl (Nat.le_of_ble_eq_true rfl) ?_)
 have hneg:¬ (k:Int)<0:=by omega
 repeat' (first|apply qr|apply ql|apply qk|apply qo|apply qm|(apply qw;(iterate 3 exact rfl))|(apply qc;exact rfl;apply wq;exact cAo)|apply q8|apply zb|(apply qfg;(iterate 3 exact rfl);exact qjq (by omega))|(apply qx;exact Tryz.call189;exact qhc (k+1) k (by omega) (by omega) _))
 exact qq rfl (zf rfl) ⟨congrArg Sv (by unfold Lib.itoa;rw [if_neg hneg];simp),_,rfl⟩
def qp5 (c:UInt8):Bool:=decide (48≤c.toNat∧c.toNat≤57)
end Go.Proofs.YtneejjefekdgjaaGreatDoor
namespace Go.Pl
open Go
def decV (l:qe):Nat:=l.foldl (fun a c=>10 * a+(c.toNat - 48)) 0
theorem qlh (l:qe) (c:UInt8):decV (l++[c])=10 * decV l+(c.toNat - 48):=by simp [decV]
theorem yy:∀ (n u:Nat),u≤n→∀ c∈Lib.decDigits u,48≤c.toNat∧c.toNat≤57
 |n,u,hn,c,hc=>by
  by_cases h:u<10
  ·rw [Lib.decDigits_one h] at hc
   simp only [List.mem_singleton] at hc
   subst hc
   rw [UInt8.toNat_ofNat']
   omega
  ·rw [qbg h,List.mem_append] at hc
   cases n with
   |zero=>omega
   |succ n=>
    rcases hc with hc|hc
    ·exact yy n (u / 10) (by omega) c hc
    ·exact yy n (u % 10) (by omega) c hc
theorem qn3:∀ (n u:Nat),u≤n→decV (Lib.decDigits u)=u
 |n,u,hn=>by
  have key:∀ d,d<10→Lib.decDigits d=[UInt8.ofNat (48+d)]∧(UInt8.ofNat (48+d)).toNat - 48=d:=fun d hd=>by
   refine⟨Lib.decDigits_one hd,?_⟩
   rw [UInt8.toNat_ofNat']
   omega
  by_cases h:u<10
  ·obtain⟨e1,e2⟩:=key u h
   rw [e1]
   exact (Nat.zero_add _).trans e2
  ·cases n with
   |zero=>omega
   |succ n=>
    obtain⟨e1,e2⟩:=key (u % 10) (by omega)
    rw [qbg h,e1,qlh,qn3 n (u / 10) (by omega),e2]
    omega
theorem qeq (u:Nat):1≤(Lib.decDigits u).length:=by
 rw [Lib.decDigits_length]
 exact Lib.nDigits_pos u
theorem qey {v:Int} (h:v<0):Lib.itoa v=45::Lib.decDigits v.natAbs:=by
 unfold Lib.itoa
 rw [if_pos h]
theorem qf1 {v:Int} (h:0≤v):Lib.itoa v=Lib.decDigits v.toNat:=by
 unfold Lib.itoa
 rw [if_neg (by omega)]
theorem q93 (v:Int):1≤(Lib.itoa v).length:=by
 by_cases h:v<0
 ·rw [qey h];simp
 ·rw [qf1 (by omega)];exact qeq _
theorem q4d {v:Int} (h1 : -9223372036854775808≤v) (h2:v≤9223372036854775807):(Lib.itoa v).length≤20:=by
 by_cases h:v<0
 ·rw [qey h,List.length_cons,Lib.decDigits_length]
  have:=qg5 18 v.natAbs (by omega)
  omega
 ·rw [qf1 (by omega),Lib.decDigits_length]
  have:=qg5 18 v.toNat (by omega)
  omega
theorem qtj:∀ (a:Nat) (l m:qe) (b:Nat),Lib.parseUint10 a l = .ok b→Lib.parseUint10 a (l++m)=Lib.parseUint10 b m
 |a,[],m,b,h=>by
  simp only [Lib.parseUint10,Lib.NumEnd.ok.injEq] at h
  subst h;rfl
 |a,c::l,m,b,h=>by
  simp only [List.cons_append,Lib.parseUint10] at h ⊢
  split at h
  ·rename_i hd
   rw [if_pos hd]
   split at h
   ·cases h
   ·rename_i h1
    rw [if_neg h1]
    split at h
    ·cases h
    ·rename_i h2
     rw [if_neg h2]
     exact qtj _ l m b h
  ·cases h
theorem qkd:∀ (n u:Nat),u≤n→u≤9223372036854775808→Lib.parseUint10 0 (Lib.decDigits u) = .ok u
 |n,u,hn,hu=>by
  have key:∀ (a d:Nat),a≤922337203685477580→d<10→Lib.parseUint10 a (Lib.decDigits d) = .ok (a * 10+d):=by
   intro a d ha hd
   have e:(UInt8.ofNat (48+d)).toNat=48+d:=by rw [UInt8.toNat_ofNat'];omega
   rw [Lib.decDigits_one hd]
   simp only [Lib.parseUint10,e]
   rw [if_pos (by omega),if_neg (by omega),if_neg (by omega)]
   congr 1
   omega
  by_cases h:u<10
  ·have:=key 0 u (by omega) h
   simpa using this
  ·cases n with
   |zero=>omega
   |succ n=>
    rw [qbg h,qtj 0 _ _ (u / 10) (qkd n (u / 10) (by omega) (by omega)),key _ _ (by omega) (by omega)]
    congr 1
    omega
theorem q0z {v:Int} (h1 : -9223372036854775808≤v) (h2:v≤9223372036854775807):Lib.atoiAll (Lib.itoa v) = .ok v:=by
 by_cases h:v<0
 ·have hp:=qkd v.natAbs v.natAbs (Nat.le_refl _) (by omega)
  rw [qey h]
  have hm:Lib.parseMag (Lib.decDigits v.natAbs) = .ok v.natAbs:=by
   unfold Lib.parseMag
   rw [if_neg (fun e=>by have:=qeq v.natAbs;rw [e] at this;simp at this)]
   exact hp
  have e45:(45:UInt8).toNat=45:=rfl
  simp only [Lib.atoiAll,e45]
  rw [if_pos (Or.inr trivial),hm]
  simp only [not_true,false_and,if_false,true_and]
  rw [if_neg (by omega)]
  simp only [if_true]
  congr 1
  omega
 ·have hp:=qkd v.toNat v.toNat (Nat.le_refl _) (by omega)
  have hd:=yy v.toNat v.toNat (Nat.le_refl _)
  rw [qf1 (by omega)]
  cases hl:Lib.decDigits v.toNat with
  |nil=>have:=qeq v.toNat;rw [hl] at this;simp at this
  |cons c r=>
   rw [hl] at hp hd
   have hc:=hd c (by simp)
   simp only [Lib.atoiAll]
   have g1:¬ (c.toNat=43∨c.toNat=45):=by omega
   rw [if_neg g1]
   have hm:Lib.parseMag (c::r) = .ok v.toNat:=by unfold Lib.parseMag;rw [if_neg (by simp)];exact hp
   rw [hm]
   have g2:¬ c.toNat=45:=by omega
   simp only [g2,not_false_iff,true_and,false_and,if_false]
   rw [if_neg (by omega)]
   congr 1
   omega
def numZ (l:qe):Option Int:=
 match Lib.atoiAll l with
 | .ok v=>if Lib.itoa v=l then some v else none
 | _=>none
theorem qtd {v:Int} (h1 : -9223372036854775808≤v) (h2:v≤9223372036854775807):numZ (Lib.itoa v)=some v:=by
 unfold numZ
 rw [q0z h1 h2]
 simp
theorem qte {l:qe} {v:Int} (h:numZ l=some v):l=Lib.itoa v∧-9223372036854775808≤v∧v≤9223372036854775807:=by
 unfold numZ at h
 split at h
 ·rename_i u hu
  split at h
  ·rename_i he
   simp only [Option.some.injEq] at h
   subst h
   exact⟨he.symm,qi9 hu⟩
  ·simp at h
 ·simp at h
theorem qly {l:qe} (h:∀ v,-9223372036854775808≤v→v≤9223372036854775807→l≠Lib.itoa v):numZ l=none:=by
 cases hn:numZ l with
 |none=>rfl
 |some v=>
  obtain⟨h1,h2,h3⟩:=qte hn
  exact absurd h1 (h v h2 h3)
end Go.Pl
namespace Go.Proofs.YtneejjefekdgjaaGreatDoor
open Go Go.Av Go.RowKit Go.Proofs Go.Pl
theorem qk3 (v:Int) (st:List AObj) (h1 : -9223372036854775808≤v) (h2:v≤9223372036854775807):qp E 114 [Iv v] st fun r st'=>r=Sv (Lib.itoa v)∧st'=st:=by
 by_cases hneg:v<0
 ·refine zi (qy _) (qt Tryz.func114 rfl (Nat.le_of_ble_eq_true rfl) ?_)
  have hl:=qew (u:=v.natAbs) (by omega)
  have hk:IntKind.u64.wrap (-(v+1))=((v.natAbs - 1:Nat):Int):=by
   rw [show -(v+1)=((v.natAbs - 1:Nat):Int) by omega]
   exact qjq (by omega)
  have hk2:IntKind.u64.wrap (((v.natAbs - 1:Nat):Int)+1)=((v.natAbs:Nat):Int):=by
   rw [show ((v.natAbs - 1:Nat):Int)+1=((v.natAbs:Nat):Int) by omega]
   exact qjq (by omega)
  repeat' (first|apply qr|apply ql|apply qk|apply qo|apply qm|(apply qw;(iterate 3 exact rfl))|(apply qc;exact rfl;apply wa;exact cAo)|(apply jf;exact rfl;exact rfl;exact cOs)|(apply zp;exact rfl;exact rfl;exact qn (by omega) (by omega))|apply zb|(apply qvd;exact rfl;exact (show IntKind.i64.wrap (0 - (v+1)) = -(v+1) from by rw [qn (by omega) (by omega)];omega))|(apply qfg;(iterate 3 exact rfl);exact hk)|(apply zp;exact rfl;exact rfl;exact hk2)|(apply qx;exact Tryz.call189;exact qhc (v.natAbs+1) v.natAbs (by omega) (by omega) _))
  exact qq rfl (zf rfl) ⟨congrArg Sv (qey hneg).symm,_,rfl⟩
 ·obtain⟨k,rfl⟩:=Int.eq_ofNat_of_zero_le (by omega:0≤v)
  exact qxn k st (by omega)
theorem qmf (x:Int):IntKind.i64.wrap x=(x+9223372036854775808) % 18446744073709551616 - 9223372036854775808:=by
 simp [IntKind.wrap,IntKind.bits,IntKind.signed]
 split <;> omega
theorem qw2 (V d:Nat) (n:Int) (hn:n=IntKind.i64.wrap (-(V:Int))):IntKind.i64.wrap (IntKind.i64.wrap (10 * n) - (d:Int))=IntKind.i64.wrap (-((10 * V+d:Nat):Int)):=by
 rw [hn]
 simp only [qmf]
 omega
theorem qz8 (V:Nat):IntKind.i64.wrap (0 - IntKind.i64.wrap (-(V:Int)))=IntKind.i64.wrap (V:Int):=by
 simp only [qmf]
 omega
theorem qdx (x:Int) : -9223372036854775808≤IntKind.i64.wrap x∧IntKind.i64.wrap x≤9223372036854775807:=by
 rw [qmf]
 omega
theorem sub8 {c:Nat} (h:48≤c) (h2:c<256):IntKind.u8.wrap ((c:Int) - 48)=((c - 48:Nat):Int):=by
 simp [IntKind.wrap,IntKind.bits,IntKind.signed]
 omega
def numA (l:qe):AV:=match numZ l with|some v=>.tu [Iv v,Bv true]|none=>.tu [Iv 0,Bv false]
theorem q4q (l:qe):Pure (numA l):=by
 unfold numA
 split <;> exact q5b _ _
theorem qcu {l:qe} (h:numZ l=none):numA l = .tu [Iv 0,Bv false]:=by unfold numA;rw [h]
theorem qlx {l:qe} {v:Int} (h:numZ l=some v):numA l = .tu [Iv v,Bv true]:=by unfold numA;rw [h]
theorem qs8 {l:qe} {v:Int} (h:l=Lib.itoa v):(v<0→(l.getD 0 0).toNat=45∧l.drop 1=Lib.decDigits v.natAbs)∧(0≤v→(l.getD 0 0).toNat≠45∧l=Lib.decDigits v.toNat):=by
 subst h
 refine⟨fun h=>?_,fun h=>?_⟩
 ·rw [qey h];exact⟨rfl,rfl⟩
 ·rw [qf1 h]
  refine⟨?_,rfl⟩
  have hp:=qeq v.toNat
  have hd:=yy v.toNat v.toNat (Nat.le_refl _)
  cases hl:Lib.decDigits v.toNat with
  |nil=>rw [hl] at hp;simp at hp
  |cons c r=>
   rw [hl] at hd
   have:=hd c (by simp)
   simp
   omega
def sgn (l:qe):Nat:=if (l.getD 0 0).toNat=45 then 1 else 0
theorem qi2 {l:qe} {v:Int} (h:l=Lib.itoa v):l.drop (sgn l)=Lib.decDigits v.natAbs:=by
 obtain⟨h1,h2⟩:=qs8 h
 unfold sgn
 by_cases hv:v<0
 ·obtain⟨a,b⟩:=h1 hv
  rw [if_pos a,b]
 ·obtain⟨a,b⟩:=h2 (by omega)
  rw [if_neg a,List.drop_zero,show v.natAbs=v.toNat by omega]
  exact b
theorem qmt {l:qe} {k:Nat} (hk:k<l.length) (hs:sgn l≤k) (hd:¬ (48≤(l.getD k 0).toNat∧(l.getD k 0).toNat≤57)):numZ l=none:=by
 refine qly fun v h1 h2 h=>?_
 have e:=qi2 h
 have hm:l.getD k 0∈l.drop (sgn l):=by
  rw [show l.getD k 0=l[k] by simp [List.getD,hk]]
  rw [List.mem_drop_iff_getElem]
  exact⟨k - sgn l,by omega,by congr 1;omega⟩
 rw [e] at hm
 exact hd (yy _ _ (Nat.le_refl _) _ hm)
def numW (l:qe):Int:=if (l.getD 0 0).toNat=45 then IntKind.i64.wrap (-(decV (l.drop 1):Int)) else IntKind.i64.wrap (decV l:Int)
theorem zao {l:qe} {v:Int} (h:l=Lib.itoa v) (h1 : -9223372036854775808≤v) (h2:v≤9223372036854775807):numW l=v:=by
 obtain⟨g1,g2⟩:=qs8 h
 unfold numW
 by_cases hv:v<0
 ·obtain⟨a,b⟩:=g1 hv
  rw [if_pos a,b,qn3 _ _ (Nat.le_refl _),qn (by omega) (by omega)]
  omega
 ·obtain⟨a,b⟩:=g2 (by omega)
  rw [if_neg a,b,qn3 _ _ (Nat.le_refl _),qn (by omega) (by omega)]
  omega
theorem qz7 {l:qe} {n:Int} (h:n=numW l) (he:Lib.itoa n=l):numZ l=some n:=by
 have hr : -9223372036854775808≤n∧n≤9223372036854775807:=by
  rw [h];unfold numW;split <;> exact qdx _
 rw [← he,qtd hr.1 hr.2]
theorem qz6 {l:qe} {n:Int} (h:n=numW l) (he:¬ Lib.itoa n=l):numZ l=none:=
 qly fun v h1 h2 hv=>he (by rw [h,zao hv h1 h2];exact hv.symm)
theorem qjo {l:qe} {k a:Nat} (h:k<l.length) (ha:a≤k):(l.take (k+1)).drop a=(l.take k).drop a++[l.getD k 0]:=by
 rw [qgo h,List.drop_append_of_le_length (by simp;omega)]
theorem qnq (l:List UInt8) (st:List AObj) (hl:l.length<4294967281):qp E 145 [Sv l] st fun r st'=>r=numA l∧st'=st:=by
 refine zi (q4q l) (qt Tryz.func145 rfl (Nat.le_of_ble_eq_true rfl) ?_)
 by_cases hbad:l.length<1∨20<l.length
 ·have hz:numZ l=none:=qly fun v h1 h2 h=>by
   have g1:=q93 v
   have g2:=q4d h1 h2
   rw [← h] at g1 g2
   omega
  repeat' (first|apply qr|apply ql|apply qk|apply qo|apply qm|(apply qw;(iterate 3 exact rfl))|(apply qv;(iterate 4 exact rfl))|(apply kg;exact cAo)|(apply j6;exact cAo)|(apply jo <;> intro h)|(apply qf;exact rfl;apply xq;exact cAo)|(apply qf;exact rfl;apply x3;exact cAo)|(apply qc;exact rfl;apply wa;exact cAo)|(apply qc;exact rfl;apply cd_t;exact cRa)|(apply zx;(iterate 3 exact rfl))|apply zb)
  all_goals first
   |(exfalso;omega)
   |exact qq rfl (qav rfl) ⟨(qcu hz).symm,_,rfl⟩
 have hb1:1≤l.length:=by omega
 have hb2:l.length≤20:=by omega
 repeat' (first|apply qr|apply ze|apply ql|apply qk|apply qo|apply qm|(apply qw;(iterate 3 exact rfl))|(apply qv;(iterate 4 exact rfl))|(apply kg;exact cAo)|(apply qf;exact rfl;apply x3;exact cAo)|(apply qc;exact rfl;apply wq;exact cAo)|(apply qc;exact rfl;apply cd_d <;> intro h)|(apply zx;(iterate 3 exact rfl))|(apply j7;(iterate 3 exact rfl);exact cAs)|apply q8)
 ·have h45:((l.getD 0 0).toNat:Int)=45:=by assumption
  have hs:sgn l=1:=if_pos (by omega)
  refine yl (fun (k:Nat) s=>1≤k∧k≤l.length∧StA [(0,Sv l),(4,Iv 1),(5,Iv (IntKind.i64.wrap (-(decV ((l.take k).drop 1):Int)))),(6,Iv k)] (st++[]) [] s) (fun k=>l.length - k) 1 ⟨by omega,by omega,v6 ⟨rfl,rfl,by simp [List.drop_eq_nil_of_le,decV,IntKind.wrap];rfl,rfl,trivial⟩⟩ ?_
  rintro k _ ⟨hk1,hk,t,rfl⟩
  generalize hn:IntKind.i64.wrap (-(decV ((l.take k).drop 1):Int))=n
  have hc:=UInt8.toNat_lt (l.getD k 0)
  have hr : -9223372036854775808≤n∧n≤9223372036854775807:=hn▸qdx _
  have hr2:=qdx (0 - n)
  repeat' (first|apply qr|apply ze|apply ql|apply qk|apply qo|apply qm|(apply qw;(iterate 3 exact rfl))|(apply jm;(iterate 3 exact rfl))|(apply qv;(iterate 4 exact rfl))|(apply kg;exact cAo)|(apply j6;exact cAo)|(apply jo <;> intro h)|(apply qf;exact rfl;apply xq;exact cAo)|(apply qf;exact rfl;apply x3;exact cAo)|(apply qc;exact rfl;apply wq;exact cAo)|(apply qc;exact rfl;apply cd_t;exact cRa)|(apply qc;exact rfl;apply cd_d <;> intro h)|(apply zx;(iterate 3 exact rfl))|(apply zp;exact rfl;exact rfl;exact qn (by omega) (by omega))|(apply j7;(iterate 3 exact rfl);exact cAs)|apply q8|apply jq|apply zb|(apply qny;(iterate 3 exact rfl))|(apply kz;exact rfl;exact rfl;exact sub8 (by omega) (by omega))|(apply kz;exact rfl;exact rfl;exact qw2 _ _ _ hn.symm)|(apply qfg;(iterate 3 exact rfl);exact qn (by omega) (by omega))|(apply qx;exact Tryz.call114;exact qk3 _ _ (by omega) (by omega)))
  ·exact qq rfl (qav rfl) ⟨(qcu (qmt (k:=k) (by omega) (by omega) (by omega))).symm,_,rfl⟩
  ·exact qq rfl (qav rfl) ⟨(qcu (qmt (k:=k) (by omega) (by omega) (by omega))).symm,_,rfl⟩
  ·refine⟨k+1,⟨by omega,by omega,v6 ⟨rfl,rfl,congrArg Iv ?_,rfl,trivial⟩⟩,by omega⟩
   rw [qjo (by omega) hk1,qlh]
  ·have e:k=l.length:=by omega
   subst e
   rw [List.take_length] at hn
   have hw:n=numW l:=by unfold numW;rw [if_pos (by omega)];rw [← hn]
   exact qq rfl (qav rfl) ⟨(qcu (qz6 hw (by assumption))).symm,_,rfl⟩
  ·have e:k=l.length:=by omega
   subst e
   rw [List.take_length] at hn
   have hw:n=numW l:=by unfold numW;rw [if_pos (by omega)];rw [← hn]
   exact qq rfl (qav rfl) ⟨(qlx (qz7 hw (Classical.not_not.1 (by assumption)))).symm,_,rfl⟩
 ·have h45:¬ ((l.getD 0 0).toNat:Int)=45:=by assumption
  have hs:sgn l=0:=if_neg (by omega)
  refine yl (fun (k:Nat) s=>0≤k∧k≤l.length∧StA [(0,Sv l),(4,Iv 0),(5,Iv (IntKind.i64.wrap (-(decV ((l.take k).drop 0):Int)))),(6,Iv k)] (st++[]) [] s) (fun k=>l.length - k) 0 ⟨by omega,by omega,v6 ⟨rfl,rfl,by simp [List.drop_eq_nil_of_le,decV,IntKind.wrap];rfl,rfl,trivial⟩⟩ ?_
  rintro k _ ⟨hk1,hk,t,rfl⟩
  generalize hn:IntKind.i64.wrap (-(decV ((l.take k).drop 0):Int))=n
  have hc:=UInt8.toNat_lt (l.getD k 0)
  have hr : -9223372036854775808≤n∧n≤9223372036854775807:=hn▸qdx _
  have hr2:=qdx (0 - n)
  repeat' (first|apply qr|apply ze|apply ql|apply qk|apply qo|apply qm|(apply qw;(iterate 3 exact rfl))|(apply jm;(iterate 3 exact rfl))|(apply qv;(iterate 4 exact rfl))|(apply kg;exact cAo)|(apply j6;exact cAo)|(apply jo <;> intro h)|(apply qf;exact rfl;apply xq;exact cAo)|(apply qf;exact rfl;apply x3;exact cAo)|(apply qc;exact rfl;apply wa;exact cAo)|(apply qc;exact rfl;apply cd_t;exact cRa)|(apply qc;exact rfl;apply cd_d <;> intro h)|(apply zx;(iterate 3 exact rfl))|(apply zp;exact rfl;exact rfl;exact qn (by omega) (by omega))|(apply j7;(iterate 3 exact rfl);exact cAs)|apply q8|apply jq|apply zb|(apply qny;(iterate 3 exact rfl))|(apply kz;exact rfl;exact rfl;exact sub8 (by omega) (by omega))|(apply kz;exact rfl;exact rfl;exact qw2 _ _ _ hn.symm)|(apply qfg;(iterate 3 exact rfl);exact qn (by omega) (by omega))|(apply qvd;exact rfl;exact rfl)|(apply qx;exact Tryz.call114;exact qk3 _ _ (by omega) (by omega)))
  ·exact qq rfl (qav rfl) ⟨(qcu (qmt (k:=k) (by omega) (by omega) (by omega))).symm,_,rfl⟩
  ·exact qq rfl (qav rfl) ⟨(qcu (qmt (k:=k) (by omega) (by omega) (by omega))).symm,_,rfl⟩
  ·refine⟨k+1,⟨by omega,by omega,v6 ⟨rfl,rfl,congrArg Iv ?_,rfl,trivial⟩⟩,by omega⟩
   rw [qjo (by omega) hk1,qlh]
  ·have e:k=l.length:=by omega
   subst e
   rw [List.take_length] at hn
   have hw:IntKind.i64.wrap (0 - n)=numW l:=by unfold numW;rw [if_neg (by omega)];rw [← hn,List.drop_zero,qz8]
   exact qq rfl (qav rfl) ⟨(qcu (qz6 hw (by assumption))).symm,_,rfl⟩
  ·have e:k=l.length:=by omega
   subst e
   rw [List.take_length] at hn
   have hw:IntKind.i64.wrap (0 - n)=numW l:=by unfold numW;rw [if_neg (by omega)];rw [← hn,List.drop_zero,qz8]
   exact qq rfl (qav rfl) ⟨(qlx (qz7 hw (Classical.not_not.1 (by assumption)))).symm,_,rfl⟩
theorem qxp (l:List UInt8) (v:Int) (st:List AObj) (hl:l.length<4294967281) (h:numZ l=some v):qp E 145 [Sv l] st fun r st'=>r = .tu [Iv v,Bv true]∧st'=st:=by
 have:=qnq l st hl
 rw [qlx h] at this
 exact this
theorem qxo (l:List UInt8) (st:List AObj) (hl:l.length<4294967281) (h:numZ l=none):qp E 145 [Sv l] st fun r st'=>r = .tu [Iv 0,Bv false]∧st'=st:=by
 have:=qnq l st hl
 rw [qcu h] at this
 exact this
end Go.Proofs.YtneejjefekdgjaaGreatDoor
namespace Go.Pl
open Go
def sp:Bool→qe→Bool
 | _,[]=>true
 |f,c::l=>(!f ||decide (c=32)) && sp (decide (c=10)) l
theorem qk5:∀ l,sp false l=sp true (past 10 l)
 | []=>rfl
 |c::l=>by
  by_cases h:c=10
  ·subst h;simp [sp,past,upto]
  ·have e:past 10 (c::l)=past 10 l:=by simp [past,upto,h]
   rw [e,← qk5 l]
   simp [sp,h]
theorem qx2 {l:qe} (h:l≠[]):sp true l=(decide ([32] <+: upto 10 l) && sp true (past 10 l)):=by
 cases l with
 |nil=>exact absurd rfl h
 |cons c r=>
  by_cases hc:c=10
  ·subst hc;simp [sp,upto]
  ·have e:past 10 (c::r)=past 10 r:=by simp [past,upto,hc]
   have e2:upto 10 (c::r)=c::upto 10 r:=by simp [upto,hc]
   rw [e,e2,← qk5]
   simp [sp,hc,eq_comm]
theorem qj7:∀ (n:Nat) (l:qe),l.length≤n→((∀ x∈vm l,[32] <+: x.1)↔sp true l=true)
 | 0,l,h=>by
  have:l=[]:=List.length_eq_zero_iff.1 (by omega)
  subst this
  simp [qai,sp]
 |n+1,l,h=>by
  by_cases hl:l=[]
  ·subst hl;simp [qai,sp]
  ·rw [qbb hl,qx2 hl,Bool.and_eq_true,← qj7 n (past 10 l) (by have:=qat (c:=10) hl;omega)]
   simp only [List.mem_cons,forall_eq_or_imp,decide_eq_true_eq]
theorem qig (l:qe):(qcw [32] l).2=sp true l:=by
 unfold qcw
 by_cases h:sp true l=true
 ·rw [if_pos ((qj7 _ l (Nat.le_refl _)).2 h),h]
 ·rw [if_neg (fun h'=>h ((qj7 _ l (Nat.le_refl _)).1 h'))]
  simp only [Bool.not_eq_true] at h
  rw [h]
def qih (f:Bool) (l:qe):Bool:=match l.getLast? with|none=>f|some c=>decide (c=10)
theorem q1e (f:Bool) (c:UInt8) (l:qe):qih f (c::l)=qih (decide (c=10)) l:=by
 cases l with
 |nil=>simp [qih]
 |cons b l=>
  unfold qih
  rw [List.getLast?_cons_cons]
  cases hb:(b::l).getLast? with
  |none=>simp at hb
  |some x=>rfl
theorem qx1:∀ (f:Bool) (l m:qe),sp f (l++m)=(sp f l && sp (qih f l) m)
 |f,[],m=>by simp [sp,qih]
 |f,c::l,m=>by
  simp only [List.cons_append,sp]
  rw [qx1 _ l m,q1e,Bool.and_assoc]
theorem qs6 (l:qe):qf7 l↔2≤l.length∧l.length≤50000∧l.getLast? = some 10∧sp true l=true:=by
 unfold qf7
 rw [qig]
theorem qep:∀ (n u:Nat),u≤n→∀ c∈Lib.decDigits u,48≤c.toNat∧c.toNat≤57
 |n,u,hn,c,hc=>by
  by_cases h:u<10
  ·rw [Lib.decDigits_one h] at hc
   simp only [List.mem_singleton] at hc
   subst hc
   rw [UInt8.toNat_ofNat']
   omega
  ·rw [qbg h,List.mem_append] at hc
   cases n with
   |zero=>omega
   |succ n=>
    rcases hc with hc|hc
    ·exact qep n (u / 10) (by omega) c hc
    ·exact qep n (u % 10) (by omega) c hc
theorem qj6 (n:Nat):Lib.itoa (n:Int)=Lib.decDigits n:=by
 unfold Lib.itoa
 rw [if_neg (by omega)]
 simp
theorem q7c (n:Nat):∀ c∈Lib.itoa (n:Int),48≤c.toNat∧c.toNat≤57:=by
 rw [qj6]
 exact qep n n (Nat.le_refl _)
theorem qvu (u:Nat):Lib.decDigits u≠[]:=by
 intro h
 have:=congrArg List.length h
 rw [Lib.decDigits_length] at this
 have:=Lib.nDigits_pos u
 simp at *
 omega
theorem qti:∀ (a:Nat) (l m:qe) (b:Nat),Lib.parseUint10 a l = .ok b→Lib.parseUint10 a (l++m)=Lib.parseUint10 b m
 |a,[],m,b,h=>by
  simp only [Lib.parseUint10,Lib.NumEnd.ok.injEq] at h
  subst h;rfl
 |a,c::l,m,b,h=>by
  simp only [List.cons_append,Lib.parseUint10] at h ⊢
  split at h
  ·rename_i hd
   rw [if_pos hd]
   split at h
   ·cases h
   ·rename_i h1
    rw [if_neg h1]
    split at h
    ·cases h
    ·rename_i h2
     rw [if_neg h2]
     exact qti _ l m b h
  ·cases h
theorem qtk:∀ (n u:Nat),u≤n→u<1000000000000000000→Lib.parseUint10 0 (Lib.decDigits u) = .ok u
 |n,u,hn,hu=>by
  have key:∀ (a d:Nat),a<100000000000000000→d<10→Lib.parseUint10 a (Lib.decDigits d) = .ok (a * 10+d):=by
   intro a d ha hd
   have e:(UInt8.ofNat (48+d)).toNat=48+d:=by rw [UInt8.toNat_ofNat'];omega
   rw [Lib.decDigits_one hd]
   simp only [Lib.parseUint10,e]
   rw [if_pos (by omega),if_neg (by omega),if_neg (by omega)]
   congr 1
   omega
  by_cases h:u<10
  ·have:=key 0 u (by omega) h
   simpa using this
  ·cases n with
   |zero=>omega
   |succ n=>
    rw [qbg h,qti 0 _ _ (u / 10) (qtk n (u / 10) (by omega) (by omega)),key _ _ (by omega) (by omega)]
    congr 1
    omega
theorem q3f {n:Nat} (h:n<1000000000000000000):Lib.atoiAll (Lib.itoa (n:Int)) = .ok (n:Int):=by
 have hp:=qtk n n (Nat.le_refl _) h
 have hd:=qep n n (Nat.le_refl _)
 rw [qj6]
 cases hl:Lib.decDigits n with
 |nil=>exact absurd hl (qvu n)
 |cons c r=>
  rw [hl] at hp hd
  have hc:=hd c (by simp)
  simp only [Lib.atoiAll]
  have h1:¬ (c.toNat=43∨c.toNat=45):=by omega
  rw [if_neg h1]
  have hm:Lib.parseMag (c::r) = .ok n:=by unfold Lib.parseMag;rw [if_neg (by simp)];exact hp
  rw [hm]
  have h2:¬ c.toNat=45:=by omega
  simp only [h2,not_false_iff,true_and,false_and,if_false]
  rw [if_neg (by omega)]
theorem qw3 {n:Nat} (h1:1≤n) (h2:n≤50000):qa0 (Lib.itoa (n:Int))=n:=by
 have:=q12 (q3f (n:=n) (by omega))
 rw [if_pos ⟨rfl,by omega,by omega⟩] at this
 omega
theorem qi4 {l:qe} {n:Nat} (h:qa0 l=n) (hn:1≤n):l=Lib.itoa (n:Int):=by
 unfold qa0 at h
 split at h
 ·split at h
  ·rename_i v _ hv
   have:v=(n:Int):=by omega
   rw [← this,hv.1]
  ·omega
 ·omega
end Go.Pl
namespace Go.Proofs.YtneejjefekdgjaaGreatDoor
open Go Go.Pl
def qbf (n:Nat) (fig:qe):qe:=y4++(Lib.itoa n++32::fig)
theorem q67 (n:Nat) (fig:qe):quk n fig=qbf n fig++[10]:=by simp [quk,qbf,y4]
theorem qqi (n:Nat) {c:UInt8} (h:¬ (48≤c.toNat∧c.toNat≤57)):c∉Lib.itoa (n:Int):=fun hc=>h (q7c n c hc)
theorem qlo {f:qe} (h:qco f) {c:UInt8} (hc:c∉hexL):c∉f:=fun h'=>hc (h c h')
theorem qfn (n:Nat) {fig:qe} (h:qco fig):10∉qbf n fig:=by
 unfold qbf
 simp only [List.mem_append,List.mem_cons,not_or]
 exact⟨by decide,qqi n (by decide),by decide,qlo h (by decide)⟩
theorem q2q (l:qe):Lib.trimPrefix (y4++l) y4=l:=by
 rw [qud (List.prefix_append _ _),List.drop_left]
structure q87 (n:Nat) (fig body:qe):Prop where
 two:2≤n
 most:n≤50000
 len:body.length=n
 good:qf7 body
 figs:fig.length=8
 hex:qco fig
def recL (n:Nat) (fig body:qe):qe:=qbf n fig++10::(body++qhb n)
theorem zav (l:qe):recF l=recL l.length (sumF l) l:=by
 unfold recF recL
 rw [q67]
 simp
theorem qtm {l a b:qe} (h:l <+: a++b):l <+: a∨∃ r,l=a++r∧r <+: b:=by
 rcases Nat.le_total l.length a.length with hl|hl
 ·exact .inl (List.prefix_of_prefix_length_le h (List.prefix_append _ _) hl)
 ·obtain⟨r,hr⟩:=List.prefix_of_prefix_length_le (List.prefix_append a b) h hl
  exact .inr ⟨r,hr.symm,by rw [← hr] at h;exact (List.prefix_append_right_inj a).1 h⟩
theorem qry {a b:qe} {c:UInt8} (h:a <+: b) (hc:c∉b):c∉a:=fun h'=>hc (h.subset h')
theorem q16 (f:qe) (hl:f.length≤8) (hx:qco f):∃ g:qe,g.length=8∧qco g∧f <+: g:=
 ⟨f++List.replicate (8 - f.length) 48,by simp;omega,fun c hc=>by
  rw [List.mem_append,List.mem_replicate] at hc
  rcases hc with hc | ⟨_,rfl⟩
  ·exact hx c hc
  ·decide,List.prefix_append _ _⟩
theorem qr7:∀ (k:Nat),sp false (List.replicate k 97++[10])=true
 | 0=>by simp [sp]
 |k+1=>by rw [List.replicate_succ,List.cons_append];simp only [sp];exact by simpa using qr7 k
theorem qvn {n:Nat} {r:qe} (hn:n≤50000) (hlt:r.length<n) (h2:2≤n) (hp:qmu r ((n:Int) - r.length)=2):∃ body:qe,body.length=n∧qf7 body∧r <+: body:=by
 unfold qmu at hp
 split at hp
 ·rename_i h
  obtain⟨hs,hfr⟩:=h
  rw [qig] at hs
  by_cases hf:r=[]∨r.getLast? = some 10
  ·have hk:r.length+2≤n:=by
    rcases Nat.lt_or_ge (r.length+1) n with h|h
    ·omega
    ·exact absurd ⟨hf,by omega⟩ hfr
   refine⟨r++(32::(List.replicate (n - r.length - 2) 97++[10])),by simp;omega,?_,List.prefix_append _ _⟩
   rw [qs6]
   refine⟨by simp;omega,by simp;omega,by simp [List.getLast?_append,List.getLast?_cons],?_⟩
   rw [qx1,hs]
   simp only [sp,Bool.true_and]
   have:=qr7 (n - r.length - 2)
   simpa using this
  ·refine⟨r++(List.replicate (n - r.length - 1) 97++[10]),by simp;omega,?_,List.prefix_append _ _⟩
   rw [qs6]
   refine⟨by simp;omega,by simp;omega,by simp [List.getLast?_append],?_⟩
   rw [qx1,hs]
   have e:qih true r=false:=by
    unfold qih
    cases hq:r.getLast? with
    |none=>exact absurd (.inl (List.getLast?_eq_none_iff.1 hq)) hf
    |some c=>
     refine decide_eq_false fun h=>hf (.inr ?_)
     rw [hq,h]
   rw [e,qr7]
   rfl
 ·simp at hp
theorem qgn {n:Nat} (h2:2≤n) (hn:n≤50000):∃ body:qe,body.length=n∧qf7 body:=by
 obtain⟨b,h1,h3,_⟩:=qvn (n:=n) (r:=[]) hn (by simp;omega) h2 (by
  unfold qmu
  rw [qig]
  rw [if_pos ⟨rfl,by rintro⟨_,h⟩;simp at h;omega⟩])
 exact⟨b,h1,h3⟩
theorem qgr {a b c:qe} (h:a <+: b):a <+: b++c:=h.trans (List.prefix_append _ _)
theorem qgk {n:Nat} {fig body l:qe} (h:l <+: qbf n fig):l <+: recL n fig body∧l.length<(recL n fig body).length:=by
 refine⟨qgr h,?_⟩
 have:=h.length_le
 unfold recL
 simp
 omega
theorem zap {l:qe} (h:(qcb l).1=2):∃ n fig body,q87 n fig body∧l <+: recL n fig body∧l.length<(recL n fig body).length:=by
 unfold qcb at h
 split at h
 ·rename_i h10
  split at h
  ·rename_i ho
   generalize hr:past 10 l=r at *
   have hl:=qbr h10
   rw [hr] at hl
   generalize hu:upto 10 l=u at *
   -- the first line
   have hop:u=qbf (qag u).1 (qag u).2.1∧2≤(qag u).1∧(qag u).1≤50000∧(qag u).2.1.length=8∧qco (qag u).2.1:=by
    simp only [qag,decide_eq_true_eq] at ho ⊢
    obtain⟨o1,o2,o3,o4,o5⟩:=ho
    refine⟨?_,o3,qfq _,o4,o5⟩
    obtain⟨t,rfl⟩:=o1
    rw [q2q] at *
    have:=qi4 rfl (Nat.le_trans (by decide) o3)
    unfold qbf
    rw [← this,← qbr o2]
   generalize (qag u).1=n at *
   generalize (qag u).2.1=fig at *
   obtain⟨rfl,h2,hn,hf,hx⟩:=hop
   split at h
   ·rename_i hlt
    obtain⟨body,b1,b2,b3⟩:=qvn hn hlt h2 h
    refine⟨n,fig,body,⟨h2,hn,b1,b2,hf,hx⟩,?_,?_⟩
    ·rw [hl]
     unfold recL
     rw [List.prefix_append_right_inj,List.cons_prefix_cons]
     exact⟨rfl,qgr b3⟩
    ·rw [hl]
     unfold recL
     have:=b3.length_le
     have:=qx6 n
     simp
     omega
   ·rename_i hge
    split at h
    ·rename_i hg
     have hlen:(r.take n).length=n:=by simp;omega
     refine⟨n,fig,r.take n,⟨h2,hn,hlen,hg,hf,hx⟩,?_⟩
     unfold qzu at h
     rw [hlen] at h
     split at h
     ·rename_i hc
      rw [hl]
      unfold recL
      constructor
      ·rw [List.prefix_append_right_inj,List.cons_prefix_cons]
       refine⟨rfl,?_⟩
       conv=>lhs;rw [← List.take_append_drop n r]
       rw [List.prefix_append_right_inj]
       exact hc.2
      ·have:=hc.1
       simp at this ⊢
       omega
     ·split at h <;> simp at h
    ·simp at h
  ·simp at h
 ·rename_i h10
  split at h
  ·rename_i ho
   unfold qh1 at ho
   split at ho
   ·rename_i hb
    obtain⟨t,rfl⟩:=hb
    have ed:(y4++t).drop 7=t:=by rw [show (7:Nat)=y4.length by rfl,List.drop_left]
    rw [ed] at ho
    obtain⟨o1,o2,o3,o4⟩:=of_decide_eq_true ho
    by_cases h32:32∈t
    ·have hn2:2≤qa0 (upto 32 t):=by
      rcases Nat.lt_or_ge (qa0 (upto 32 t)) 2 with h|h
      ·exact absurd ⟨h32,h⟩ o1
      ·exact h
     obtain⟨fig,f1,f2,f3⟩:=q16 _ o3 o4
     obtain⟨body,b1,b2⟩:=qgn hn2 (qfq _)
     refine⟨_,fig,body,⟨hn2,qfq _,b1,b2,f1,f2⟩,qgk ?_⟩
     unfold qbf
     rw [List.prefix_append_right_inj]
     conv=>lhs;rw [qbr h32]
     rw [qi4 (l:=upto 32 t) rfl (by omega)]
     rw [qw3 (by omega) (qfq _),List.prefix_append_right_inj,List.cons_prefix_cons]
     exact⟨rfl,f3⟩
    ·rw [qe1 h32] at o2
     by_cases ht:t=[]
     ·subst ht
      obtain⟨body,b1,b2⟩:=qgn (n:=2) (by omega) (by omega)
      refine⟨2,List.replicate 8 48,body,⟨by omega,by omega,b1,b2,by simp,by decide⟩,qgk ?_⟩
      unfold qbf
      simp
     ·have hpos:1≤qa0 t:=by
       rcases Nat.eq_zero_or_pos (qa0 t) with h|h
       ·exact absurd ⟨ht,h⟩ o2
       ·exact h
      have hle:=qfq t
      have ht2:=qi4 (l:=t) rfl hpos
      generalize qa0 t=m at *
      subst ht2
      by_cases hm:m=1
      ·subst hm
       obtain⟨body,b1,b2⟩:=qgn (n:=10) (by omega) (by omega)
       refine⟨10,List.replicate 8 48,body,⟨by omega,by omega,b1,b2,by simp,by decide⟩,qgk ?_⟩
       unfold qbf
       rw [List.prefix_append_right_inj]
       have e1:Lib.itoa ((1:Nat):Int)=[49]:=by rw [qj6,Lib.decDigits_one (by decide)];rfl
       have e2:Lib.itoa ((10:Nat):Int)=[49,48]:=by rw [qj6,qbg (by decide),Lib.decDigits_one (by decide),Lib.decDigits_one (by decide)];rfl
       rw [e1,e2]
       exact⟨_,rfl⟩
      ·obtain⟨body,b1,b2⟩:=qgn (n:=m) (by omega) (by omega)
       refine⟨m,List.replicate 8 48,body,⟨by omega,by omega,b1,b2,by simp,by decide⟩,qgk ?_⟩
       unfold qbf
       rw [List.prefix_append_right_inj]
       exact List.prefix_append _ _
   ·rename_i hb
    have hp:=of_decide_eq_true ho
    obtain⟨body,b1,b2⟩:=qgn (n:=2) (by omega) (by omega)
    refine⟨2,List.replicate 8 48,body,⟨by omega,by omega,b1,b2,by simp,by decide⟩,qgk ?_⟩
    unfold qbf
    exact qgr hp
  ·simp at h
theorem qyz (s:BitVec 32):qco (q1h s 8):=by
 intro c hc
 simp only [q1h,List.mem_map] at hc
 obtain⟨j,_,rfl⟩:=hc
 unfold figP
 have h:=Go.Av.and15_lt (s >>> (4 * (7 - j)))
 generalize ((s >>> (4 * (7 - j))) &&& BitVec.ofInt 32 15).toNat=k at h
 have key:∀ i:Fin 16,([48,49,50,51,52,53,54,55,56,57,97,98,99,100,101,102]:qe).getD i.val 0∈hexL:=by decide
 exact key ⟨k,h⟩
theorem zck {l:qe} (h1:10∈l→(qag (upto 10 l)).2.2=false) (h2:10∉l→qh1 l=false):qcb l=(3,[],0):=by
 unfold qcb
 by_cases h:10∈l
 ·rw [if_pos h,if_neg (by rw [h1 h];simp)]
 ·rw [if_neg h,if_neg (by rw [h2 h];simp)]
theorem R2 {l:qe} (hl:l.length≤7) (h:¬ l <+: y4):qcb l=(3,[],0):=by
 refine zck (fun h10=>decide_eq_false fun h'=>?_) (fun h10=>?_)
 ·have:=h'.1.length_le
  have:=qsf h10
  have e:y4.length=7:=rfl
  omega
 ·unfold qh1
  by_cases hb:y4 <+: l
  ·have:=hb.eq_of_length_le hl
   exact absurd (this▸List.prefix_refl _) h
  ·rw [if_neg hb];exact decide_eq_false h
theorem zba {p:UInt8→Bool} (s:qe):s.take (s.takeWhile p).length=s.takeWhile p:=by
 induction s with
 |nil=>rfl
 |cons b s ih=>
  by_cases h:p b=true
  ·rw [List.takeWhile_cons_of_pos h];simp [ih]
  ·rw [List.takeWhile_cons_of_neg h];rfl
theorem zc3 {p:UInt8→Bool} {l m:qe} (hm:m <+: l) (h:∀ c∈m,p c=true):m.length≤(l.takeWhile p).length:=by
 obtain⟨r,rfl⟩:=hm
 rw [List.takeWhile_append_of_pos h]
 simp
end Go.Proofs.YtneejjefekdgjaaGreatDoor
namespace Go.Proofs.YtneejjefekdgjaaGreatDoor
open Go Go.Av Go.RowKit Go.Proofs Go.Pl
structure q8v (l S:qe) (K n:Nat):Prop where
 hl:l=y4++S
 hK:(S.takeWhile qp5).length=K
 hD:S.take K=Lib.itoa (n:Int)
 h1:1≤n
 h2:n≤50000
theorem q8v.split {l S:qe} {K n:Nat} (A:q8v l S K n) (h:K<S.length):S=Lib.itoa (n:Int)++S.getD K 0::S.drop (K+1)∧qp5 (S.getD K 0)=false:=by
 have e:S=S.take K++S.getD K 0::S.drop (K+1):=by
  conv=>lhs;rw [← List.take_append_drop K S]
  rw [List.drop_eq_getElem_cons h]
  congr 2
  simp [List.getD,h]
 refine⟨by rw [← A.hD];exact e,?_⟩
 cases hc:qp5 (S.getD K 0) with
 |false=>rfl
 |true=>
  have hp:S.take (K+1) <+: S:=List.take_prefix _ _
  have:=zc3 (p:=qp5) hp (fun c hc'=>by
   rw [qgo h,List.mem_append,List.mem_singleton] at hc'
   rcases hc' with hc'|rfl
   ·rw [← A.hK,zba] at hc'
    have ha:=List.all_takeWhile (p:=qp5) (l:=S)
    rw [List.all_eq_true] at ha
    exact ha c hc'
   ·exact hc)
  rw [A.hK] at this
  simp at this
  omega
end Go.Proofs.YtneejjefekdgjaaGreatDoor
namespace Go.Av
open Go Go.RowKit
def StE (L:List (Nat×AV)) (st loc:List AObj) (s:AS):Prop:=∃ t ext,s=⟨puts t L,((st++loc)++ext)++[],[]⟩
theorem qdv {t:Nat→AV} {L:List (Nat×AV)} {st loc loc' ext new:List AObj} (h:HasL t L) (e:loc'=loc):StE L st loc ⟨t,((st++loc')++ext)++new,[]⟩:=
 ⟨t,ext++new,by rw [qhg h,e];simp⟩
theorem qhj {t:Nat→AV} {L:List (Nat×AV)} {st loc st':List AObj} (h:HasL t L) (e:st'=st++loc):StE L st loc ⟨t,st',[]⟩:=
 ⟨t,[],by rw [qhg h,e];simp⟩
theorem qe5 (st loc ext new:List AObj):∃ x,((st++loc)++ext)++new=st++x:=⟨loc++ext++new,by simp⟩
theorem qcm {st loc ext new:List AObj} {k:Nat} {x:AObj} (h:loc[k]? = some x):(((st++loc)++ext)++new)[st.length+k]? = some x:=by
 have hk:=lt_of_getElem? h
 rw [List.append_assoc,List.append_assoc,List.getElem?_append_right (Nat.le_add_right _ _),Nat.add_sub_cancel_left,List.getElem?_append_left hk]
 exact h
theorem qfc {st loc ext new:List AObj} {k:Nat} (x:AObj) (hk:k<loc.length):(((st++loc)++ext)++new).set (st.length+k) x=((st++loc.set k x)++ext)++new:=by
 rw [List.append_assoc,List.append_assoc,List.set_append_right _ _ (Nat.le_add_right _ _),Nat.add_sub_cancel_left,List.set_append_left _ _ hk]
 simp
theorem qit {G:Gh} {sz:Nat} {xs:List AV} {tip:Option Nat} {v:Value} (h:Rel G (.sl sz xs tip) v):Rel G (.sl sz xs none) v:=by
 cases h with
 |sl0 _ _ base cap ht=>exact .sl0 sz none base cap (by simp)
 |sl _ _ _ b off cap pub hp hw hlen hr ht hcap=>exact .sl sz xs none b off cap pub hp hw hlen hr (fun t ht=>by simp at ht) hcap
theorem qbq {G:Gh} {sz:Nat} {v:Value} (h:Rel G jw v):Rel G (.sl sz [] none) v:=by
 cases h
 exact .sl0 sz none none 0 (by simp)
section
variable {E : Env} {rd : Option Nat} {N : Nat} {ops : Array Oper} {K : AS → Prop} {s : AS} {rest : List Oper} {d : Option Tmp} {T : TypeId} {p : String} {af : Array Edge}
theorem qbn {fn:Func} {r r':AV} (h:ARes E fn s r) (hw:∀ (G:Gh) (v:Value),Rel G r v→Rel G r' v):ARes E fn s r':=
 ⟨fun B0 w0 G a w hL hI=>let ⟨v,h1,h2⟩:=h.run B0 w0 G a w hL hI;⟨v,h1,hw G v h2⟩⟩
theorem qjr {fn:Func} {t:Tmp} {sz:Nat} {xs:List AV} {tip:Option Nat} (hr:fn.results = #[.tmp t]) (hx:qj fn.ntmps s (.tmp t) = .sl sz xs tip):ARes E fn s (.sl sz xs none):=
 qbn (zf hr) fun G v h=>by rw [hx] at h;exact qit h
theorem q0x {fn:Func} {t:Tmp} {sz:Nat} (hr:fn.results = #[.tmp t]) (hx:qj fn.ntmps s (.tmp t)=jw):ARes E fn s (.sl sz [] none):=
 qbn (zf hr) fun G v h=>by rw [hx] at h;exact qbq h
theorem qdc {x y:Operand} {t u T':TypeId} {sz bytes k n m:Nat} {xs ys zs:List AV} {tip:Option Nat} {st loc ext new:List AObj} (hs:s.st=((st++loc)++ext)++new) (hx:qj N s x = .sl sz xs (some (st.length+k))) (hy:qj N s y = .sl sz ys tip) (ho:loc[k]? = some (.tip n sz T')) (hn:xs.length=n)
  (ht:E.P.underlying t=some (.slice T')) (hu:E.P.underlying u=some (.slice T')) (hT:qan E.P T' sz bytes) (hone:wj (flat ys)=true) (hm:ys.length=m) (h63:n+m≤maxLen) (hb:(n+m) * bytes≤140737488355328) (hz:xs++ys=zs)
  (h:AOps E rd N ops rest K (AS.put ⟨s.t,((st++loc.set k (.tip (n+m) sz T'))++ext)++new,s.df⟩ d (.sl sz zs (some (st.length+k))))):AOps E rd N ops (⟨d,.call ⟨.builtin .append,#[x,y],#[t,u]⟩,T,p,af,none⟩::rest) K s:=by
 subst hz
 have hk:=lt_of_getElem? ho
 exact qyh hx hy (by rw [hs];exact qcm ho) hn ht hu hT hone hm h63 hb (by rw [hs,qfc _ hk];exact h)
theorem jr {x:Operand} {t:TypeId} {sz:Nat} {agg:Bool} {st loc ext new:List AObj} {k ver off:Nat} {T':TypeId} {cs:List AV} {r:AV} (hs:s.st=((st++loc)++ext)++new) (hx:qj N s x = .bx (st.length+k) ver off) (ho:loc[k]? = some (.cells ver T' cs)) (ht:tyOf E.P t=some (sz,agg)) (hr:xi sz agg off cs=some r)
  (h:AOps E rd N ops rest K (s.put d r)):AOps E rd N ops (⟨d,.load t x,T,p,af,none⟩::rest) K s:=
 ya hx (by rw [hs];exact qcm ho) ht hr h
end
end Go.Av
namespace Go.Pl
open Go
def qu (l:qe):List qe:=
 if h:10∈l then upto 10 l::qu (past 10 l) else [l]
 termination_by l.length
 decreasing_by exact qat (fun e=>by rw [e] at h;simp at h)
theorem qaj {l:qe} (h:10∈l):qu l=upto 10 l::qu (past 10 l):=by rw [qu,dif_pos h]
theorem qak {l:qe} (h:10∉l):qu l=[l]:=by rw [qu,dif_neg h]
theorem q0i:∀ (n:Nat) (l:qe),l.length≤n→Lib.splitK [10] 0 (Lib.count l [10]) l=qu l
 |n,l,hn=>by
  by_cases h:10∈l
  ·have hi:=qp4 10 l h
   have hne:l≠[]:=fun e=>by rw [e] at h;simp at h
   have hlt:=qat (c:=10) hne
   rw [qaj h,Lib.count_hit (i:=(upto 10 l).length) (by simp) hi,Nat.add_comm,Lib.splitK]
   rw [if_neg (by rw [hi];simp),hi]
   cases n with
   |zero=>exact absurd (List.length_eq_zero_iff.1 (by omega)) hne
   |succ n=>
    have:=q0i n (past 10 l) (by omega)
    simp only [Int.toNat_natCast,Nat.add_zero,List.length_cons,List.length_nil,Nat.zero_add,qiv]
    rw [show List.drop ((upto 10 l).length+1) l=past 10 l from rfl,this]
  ·have hi:Lib.index l [10] = -1:=by
    have:=Lib.index_ge l [10]
    have h2:¬ 0≤Lib.index l [10]:=fun h'=>h ((qdp l 10).1 h')
    omega
   rw [qak h,Lib.count_miss hi]
   rfl
theorem qbh:∀ (n:Nat) (l:qe),l.length≤n→(qu l).length≤l.length+1
 |n,l,hn=>by
  by_cases h:10∈l
  ·have hne:l≠[]:=fun e=>by rw [e] at h;simp at h
   have hlt:=qat (c:=10) hne
   rw [qaj h]
   cases n with
   |zero=>exact absurd (List.length_eq_zero_iff.1 (by omega)) hne
   |succ n=>
    have:=qbh n (past 10 l) (by omega)
    simp only [List.length_cons]
    omega
  ·rw [qak h];simp
theorem qgq:∀ (n:Nat) (l:qe),l.length≤n→∀ x∈qu l,x.length≤l.length∧10∉x
 |n,l,hn,x,hx=>by
  by_cases h:10∈l
  ·have hne:l≠[]:=fun e=>by rw [e] at h;simp at h
   have hlt:=qat (c:=10) hne
   rw [qaj h,List.mem_cons] at hx
   rcases hx with rfl|hx
   ·exact⟨qct 10 l,qca 10 l⟩
   ·cases n with
    |zero=>exact absurd (List.length_eq_zero_iff.1 (by omega)) hne
    |succ n=>
     have:=qgq n (past 10 l) (by omega) x hx
     exact⟨by omega,this.2⟩
  ·rw [qak h,List.mem_singleton] at hx
   subst hx
   exact⟨Nat.le_refl _,h⟩
end Go.Pl
namespace Go.Proofs.YtneejjefekdgjaaGreatDoor
open Go Go.Av Go.RowKit Go.Proofs Go.Pl
theorem qk6 {f:FuncId} {st:List AObj} {args:List AV} {vals:Array Value} {xs:List qe} {T:TypeId} (ha:args=vals.toList.map .v) (hne:xs≠[])
  (h:∀ B0 w0 w,E.L B0 w0→Below B0 w0 w→Calls E.P f vals w fun e w'=>e = .returned (.slice (some ⟨w.heap.size,0,none⟩) xs.length xs.length)∧w'=w.alloc (.cells (xs.map fun l=>Value.string ⟨l.toArray⟩).toArray T)) :
  qp E f args st fun r st'=>r = .sl 1 (xs.map fun l=>Sv l) none∧st'=st:=by
 subst ha
 refine⟨fun B0 w0 G vs w hL hA hR=>?_⟩
 have hv:vs=vals:=by
  have hs:vs.size=vals.size:=by have:=hR.1;simpa using this.symm
  apply Array.ext hs
  intro i h1 h2
  have:=hR.2 i (.v vals[i]) vs[i] (by simp [h2]) (by simp [h1])
  generalize vs[i]=y at this
  cases this
  rfl
 subst hv
 refine (h B0 w0 w hL hA.below).mono ?_
 rintro e w' ⟨rfl,rfl⟩
 obtain⟨hle,hA'⟩:=hA.newPub T (xs.map fun l=>Value.string ⟨l.toArray⟩).toArray (0,0) (xs.map fun l=>Value.string ⟨l.toArray⟩) (fun i y hy=>by simpa using hy)
 refine⟨_,_,_,st,rfl,hle,hA',?_,rfl,rfl⟩
 have hfl:flat (xs.map fun l=>Sv l)=xs.map fun l=>Sv l:=by
  clear hne h hle hA'
  induction xs with
  |nil=>rfl
  |cons a xs ih=>rw [List.map_cons,qb8,ih];rfl
 have:=Rel.sl (G:=G.publish w.heap.size (xs.map fun l=>Value.string ⟨l.toArray⟩)) 1 (xs.map fun l=>Sv l) none w.heap.size 0 xs.length (xs.map fun l=>Value.string ⟨l.toArray⟩) (by simp [Gh.publish]) (fun x hx=>by
  simp only [List.mem_map] at hx
  obtain⟨l,_,rfl⟩:=hx
  rfl) (by rw [hfl];simp) (fun i x y h1 h2=>by
  rw [hfl,List.getElem?_map] at h1
  rw [Nat.zero_add,List.getElem?_map] at h2
  cases hx:xs[i]? with
  |none=>rw [hx] at h1;simp at h1
  |some l=>
   rw [hx] at h1 h2
   simp at h1 h2
   subst h1;subst h2
   exact .v _) (fun t ht=>by simp at ht) (by simp)
 simpa using this
theorem qtp (l:List UInt8) (st:List AObj) (hl:l.length<4294967281):qp E 285 [Sv l,Sv [10]] st fun r st'=>r = .sl 1 ((qu l).map fun x=>Sv x) none∧st'=st:=by
 have hd:=Lib.splitB_data ⟨#[10]⟩ 0 (Lib.countB ⟨l.toArray⟩ ⟨#[10]⟩) ⟨l.toArray⟩
 have hs:Lib.splitK [10] 0 (Lib.count l [10]) l=qu l:=q0i _ l (Nat.le_refl _)
 have hn:=Lib.splitB_all ⟨#[10]⟩ (by simp [ByteArray.size]) 0 _ ⟨l.toArray⟩ rfl
 have hd2:(Lib.splitB ⟨#[10]⟩ 0 (Lib.countB ⟨l.toArray⟩ ⟨#[10]⟩) ⟨l.toArray⟩).map (·.data.toList)=qu l:=hd.trans hs
 have hlen:(qu l).length=Lib.countB ⟨l.toArray⟩ ⟨#[10]⟩+1:=by rw [← hd2,List.length_map,hn]
 refine qk6 (T:=9) (vals:= #[.string ⟨l.toArray⟩,.string ⟨#[10]⟩]) rfl (fun e=>by rw [e] at hlen;simp at hlen) fun _ _ w hL hb=>(Tryz.strings_Split_shaped ⟨l.toArray⟩ ⟨#[10]⟩ w (hL w hb).shaped (by simpa [ByteArray.size] using hl) (by simp [ByteArray.size])).mono fun e w' ⟨h1,h2⟩=>?_
 refine⟨by rw [h1,hlen],?_⟩
 rw [h2,← hd2,List.map_map]
 rfl
end Go.Proofs.YtneejjefekdgjaaGreatDoor
namespace Go.Av
open Go Go.RowKit
section
variable {E : Env} {N : Nat} {ops : Array Oper} {K : AS → Prop} {s : AS} {rest : List Oper} {d : Option Tmp} {T : TypeId} {p : String} {af : Array Edge}
theorem qpg {x:Operand} {t:TypeId} {sz:Nat} {agg:Bool} {o ver off:Nat} {T':TypeId} {cs:List AV} {r:AV} (hx:qj N s x = .bx o ver off) (ho:s.st[o]? = some (.cells ver T' cs)) (ht:tyOf E.P t=some (sz,agg)) (hr:xi sz agg off cs=some r)
  (h:AQ E N ops rest K (s.put d r)):AQ E N ops (⟨d,.load t x,T,p,af,none⟩::rest) K s:=by
 refine qen rfl nofun fun B0 w0 G a w _ hI=>?_
 have he:=hI.eval_of hx
 generalize hv:a.eval x=v at he
 cases he with
 |bx _ _ _ b hn hv' hb=>
  obtain⟨_,h1,h2,h3,c,h4,h5,h6⟩:=hI.agree.ob o _ ho
  have hb:=hb h1
  subst hb
  have hlt:(G.ob o).blk<w.heap.size:=by
   rcases Nat.lt_or_ge (G.ob o).blk w.heap.size with h'|h'
   ·exact h'
   ·rw [Array.getElem?_eq_none h'] at h4;simp at h4
  -- the value is read out of the cells, whatever is drawn behind them
  have key:∀ w',Below w.heap.size w w'→∃ v,(loadVar t ⟨(G.ob o).blk,off,none⟩).run E.P w' = .ok v w'∧Rel G r v:=fun w' hw'=>by
   have h4':w'.heap[(G.ob o).blk]? = some (.cells c T' (0,0)):=by rw [hw'.block _ hlt];exact h4
   exact qcs (w:=w') (G:=G) (b:=(G.ob o).blk) (off:=off) (off':=off) ht (fun i x hx hi=>by
    obtain⟨y,hy⟩:=yu hx (Nat.le_of_eq h5)
    refine⟨y,?_,h6 i x y hx hy⟩
    simp [World.cell?,h4',show off+(i - off)=i by omega,hy]) hr
  have hsame:∀ w',Below w.heap.size w w'→∀ v,(loadVar t ⟨(G.ob o).blk,off,none⟩).run E.P w = .ok v w→(loadVar t ⟨(G.ob o).blk,off,none⟩).run E.P w' = .ok v w':=fun w' hw' v hr1=>by
   obtain⟨i1,i2⟩:=xh ht w
   obtain⟨j1,j2⟩:=xh ht w'
   have hc:∀ k,w'.cell? ⟨(G.ob o).blk,k,none⟩=w.cell? ⟨(G.ob o).blk,k,none⟩:=fun k=>by simp [World.cell?,hw'.block _ hlt]
   obtain⟨v',h1',_⟩:=key w' hw'
   rw [h1']
   congr 1
   cases agg with
   |false=>
    simp only [xi,cond_false] at hr
    obtain⟨y,hy⟩:=yu hr (Nat.le_of_eq h5)
    have e1:w.cell? ⟨(G.ob o).blk,off,none⟩=some y:=by simp [World.cell?,h4,hy]
    have e2:w'.cell? ⟨(G.ob o).blk,off,none⟩=some y:=by rw [hc,e1]
    simp [loadVar,i2,run_load,e1] at hr1
    simp [loadVar,j2,run_load,e2] at h1'
    rw [← h1',hr1]
   |true=>
    simp only [xi,cond_true] at hr
    cases hb2:Nat.ble (off+sz) cs.length with
    |false=>rw [hb2] at hr;simp at hr
    |true=>
     have hle:off+sz≤cs.length:=Nat.le_of_ble_eq_true hb2
     have e1:∀ j,j<sz→w.cell? ⟨(G.ob o).blk,off+j,none⟩=some (c.getD (off+j) undef):=fun j hj=>by
      have:off+j<c.size:=by omega
      simp [World.cell?,h4,this]
     have e2:∀ j,j<sz→w'.cell? ⟨(G.ob o).blk,off+j,none⟩=some (c.getD (off+j) undef):=fun j hj=>by rw [hc,e1 j hj]
     have l1:=run_loadCells (P:=E.P) (w:=w) ⟨(G.ob o).blk,off,none⟩ sz (fun j=>c.getD (off+j) undef) (fun j hj=>by rw [Addr.add_lit];exact e1 j hj)
     have l2:=run_loadCells (P:=E.P) (w:=w') ⟨(G.ob o).blk,off,none⟩ sz (fun j=>c.getD (off+j) undef) (fun j hj=>by rw [Addr.add_lit];exact e2 j hj)
     simp [loadVar,i1,i2,l1] at hr1
     simp [loadVar,j1,j2,l2] at h1'
     rw [← h1',hr1]
  obtain⟨v,hrun,hR⟩:=key w (Below.refl _ _)
  exact⟨v,r,fun w' hw'=>by simp only [execOp,hv,Instr.loadAt,Instr.sureAddr];simp [hsame w' hw' v hrun],hR,h⟩
end
end Go.Av
namespace Go.Av
open Go Go.RowKit
section
variable {E : Env} {rd : Option Nat} {N : Nat} {ops : Array Oper} {K : AS → Prop} {s : AS} {rest : List Oper} {d : Option Tmp} {T : TypeId} {p : String} {af : Array Edge}
theorem j9 {x:Operand} {t:TypeId} {sz:Nat} {agg:Bool} {st loc:List AObj} {k ver off:Nat} {T':TypeId} {cs:List AV} {r:AV} (hs:s.st=st++loc) (hx:qj N s x = .bx (st.length+k) ver off) (ho:loc[k]? = some (.cells ver T' cs)) (ht:tyOf E.P t=some (sz,agg)) (hr:xi sz agg off cs=some r)
  (h:AQ E N ops rest K (s.put d r)):AQ E N ops (⟨d,.load t x,T,p,af,none⟩::rest) K s:=
 qpg hx (by rw [hs];exact qbe ho) ht hr h
end
end Go.Av
namespace Go.Proofs.YtneejjefekdgjaaGreatDoor
open Go Go.Av Go.RowKit Go.Proofs Go.Pl
structure zz where
 kind:Int
 key:qe
 text:qe
 lo:Int
 hi:Int
@[reducible] def qkm (r : zz) : List AV := [Iv r.kind, Sv r.key, Sv r.text, Iv r.lo, Iv r.hi]
@[reducible] def wu (r : zz) : AV := .ag (qkm r)
abbrev FldV:=qe×qe
@[reducible] def fldA (f : FldV) : AV := .ag [Sv f.1, Sv f.2]
@[reducible] def kc (l : List FldV) : AV := .sl 2 (l.map fldA) none
def y0 (r:zz):Prop:=1≤r.kind∧r.kind≤7∧(r.kind=6∨qau r.key)
instance (r:zz):Decidable (y0 r):=inferInstanceAs (Decidable (_∧_∧_))
theorem qmn (r:zz) (st:List AObj) (hl:r.key.length<4294967281):qp E 50 [wu r] st fun x st'=>x=Bv (decide (y0 r))∧st'=st:=by
 refine zi (qy _) (qt Tryz.func50 rfl (Nat.le_of_ble_eq_true rfl) ?_)
 repeat' (first|(apply w7;first|apply qr|apply ze|apply ql|(apply qc;exact rfl;apply wa;exact cAo)|(apply qc;exact rfl;apply wq;exact cAo)|(apply qc;exact rfl;apply yz;exact cRa)|(apply qc;exact rfl;apply qaa;exact cRa)|(apply qc;exact rfl;apply cd_n <;> intro h)|(apply qc;exact rfl;apply cd_t;exact cRa)|(apply qc;exact rfl;apply cd_f;exact cRa)|(apply qc;exact rfl;apply cd_d <;> intro h)|(apply qc;exact rfl;apply cd_s <;> intro h)|(apply w6;exact rfl;kernel_rfl)|apply q8|apply jq|apply zb)|(apply vh;first|(apply qv;(iterate 4 exact rfl))|(apply zt;(iterate 4 exact rfl)))|(apply xz;first|(apply v7;exact cAo)|(apply kg;exact cAo)|(apply j6;exact cAo)|(apply vz;exact cAo)|(apply vw;exact cRa)|(apply vv;exact cRa)|(apply vk;exact cRa)|(apply kq;exact cRa)|(apply kr <;> intro h)|(apply vr;exact cRa)|(apply wv;exact cRa)|(apply vq;exact cRa)|(apply ke;exact cRa)|(apply jo <;> intro h)|(apply wl <;> intro h))|(apply xy;first|apply yb|(apply xm;(iterate 4 exact rfl))|(apply yt;exact rfl;exact rfl;exact qn (by omega) (by omega))|(apply xo;(iterate 4 exact rfl);exact cAs;exact cAs)|(apply ka;(iterate 5 exact rfl))|(apply vp;exact rfl;exact rfl;exact cOs)|(apply kp;(iterate 3 exact rfl))|(apply j9;(iterate 5 exact rfl))|(apply jb;(iterate 4 exact rfl))|(apply ja;(iterate 3 exact rfl))|(apply yw;(iterate 3 exact rfl);exact cAs)|(apply xx;exact rfl;exact rfl)|(apply wy;exact rfl;exact rfl)|(apply wz;(iterate 3 exact rfl);omega)|(apply we;(iterate 3 exact rfl))|apply w9|apply vu|(apply yj;exact rfl;exact rfl;exact qn (by omega) (by omega))|(apply xw;(iterate 3 exact rfl))|(apply xp;(iterate 3 exact rfl);exact cAs)|(apply xl;(iterate 3 exact rfl);exact cAs)|(apply vf;exact rfl;exact rfl))|(apply vg;first|(apply qw;(iterate 3 exact rfl))|(apply jm;(iterate 3 exact rfl))|(apply jf;exact rfl;exact rfl;exact cOs)|(apply zp;exact rfl;exact rfl;exact qn (by omega) (by omega))|(apply kz;exact rfl;exact rfl;exact qn (by omega) (by omega))|(apply jc;exact rfl;exact rfl)|(apply jd;exact rfl;exact rfl)|(apply z7;exact rfl;exact rfl)|(apply jh;exact rfl;exact rfl)|(apply z4;(iterate 3 exact rfl))|(apply ji;(iterate 3 exact rfl))|(apply ve;exact rfl;exact rfl;(first|exact qi _|exact rfl);first|exact qi _|exact rfl)|(apply vb;exact rfl;exact rfl;(first|exact qi _|exact rfl);first|exact qi _|exact rfl)|(apply wd;exact rfl;exact rfl;(first|exact qi _|exact rfl);first|exact qi _|exact rfl)|(apply vc;(iterate 3 exact rfl))|(apply vd;(iterate 3 exact rfl)))|(apply wh;first|(apply zk;(iterate 3 exact rfl))|(apply jr;(iterate 5 exact rfl))|(apply zn;(iterate 5 exact rfl)))|(apply wi;first|(apply ko;exact rfl)|(apply jv;exact rfl)|(apply jx;exact rfl))|(apply vi;first|(apply vo;(iterate 3 exact rfl);exact cAs)|(apply vn;(iterate 3 exact rfl);exact cAs)|(apply va;(iterate 4 exact rfl);exact cAs;exact cAs)|(apply je;(iterate 4 exact rfl);(first|assumption|omega|exact Nat.succ_le_succ (Nat.zero_le _)|(simp;omega));exact rfl))|(apply wg;first|(apply zx;(iterate 3 exact rfl))|(apply zu;(iterate 4 exact rfl)))|(apply jl;first|(apply q5;(iterate 3 exact rfl))|(apply zg;(iterate 4 exact rfl)))|(apply vj;first|(apply jk;(iterate 11 exact rfl))|(apply zm;(iterate 11 exact rfl)))|(apply w8;first|apply qk|apply qo|apply qm|(apply zj;exact rfl;exact rfl)|(apply qf;exact rfl;apply xq;exact cAo)|(apply qf;exact rfl;apply x3;exact cAo)|(apply qf;exact rfl;apply qal;exact cRa)|(apply qf;exact rfl;apply qad;exact cRa)|(apply qf;exact rfl;apply pk_t;exact cRa)|(apply qf;exact rfl;apply pk_f;exact cRa)|(apply q9;exact rfl;exact rfl)|apply jg|(apply jj;exact rfl;exact rfl)|(apply vl;(iterate 4 exact rfl))|(apply kj;(iterate 3 exact rfl))|(apply j7;(iterate 3 exact rfl);exact cAs)|(apply ju;(iterate 3 exact rfl))|(apply zr;(iterate 9 exact rfl))|(apply zo;exact rfl;exact rfl)|(apply kf;(iterate 4 exact rfl);(first|assumption|omega|decide);exact rfl)|(apply z8;(iterate 4 exact rfl);first|assumption|omega|decide))|(apply qx;exact Tryz.call99;exact q1t _ _ hl))
 all_goals refine qq rfl (zf rfl) ⟨congrArg Bv (?_:_=decide (y0 r)),_,rfl⟩
 ·exact (decide_eq_false (fun h=>by have:=h.1;omega)).symm
 ·exact (decide_eq_false (fun h=>by have:=h.2.1;omega)).symm
 ·exact (decide_eq_true (⟨by omega,by omega,.inl (by assumption)⟩:y0 r)).symm
 ·have e:y0 r↔qau r.key:=⟨fun h=>h.2.2.resolve_left (by assumption),fun h=>⟨by omega,by omega,.inr h⟩⟩
  simp [e]
def yp (l:qe):List qe:=if l=[] then [] else qu l
theorem ql3 (xs:List qe):Pure (.sl 1 (xs.map fun x=>Sv x) none):=qc9 fun x hx=>by
 simp only [List.mem_map] at hx
 obtain⟨l,_,rfl⟩:=hx
 intro y hy
 simp [AV.cells] at hy
 subst hy
 exact qy _
theorem zbh (l:List UInt8) (st:List AObj) (hl:l.length<4294967281):qp E 226 [Sv l] st fun r st'=>r = .sl 1 ((yp l).map fun x=>Sv x) none∧st'=st:=by
 refine zi (ql3 _) (qt Tryz.func226 rfl (Nat.le_of_ble_eq_true rfl) ?_)
 repeat' (first|(apply w7;first|apply qr|apply ze|apply ql|(apply qc;exact rfl;apply wa;exact cAo)|(apply qc;exact rfl;apply wq;exact cAo)|(apply qc;exact rfl;apply yz;exact cRa)|(apply qc;exact rfl;apply qaa;exact cRa)|(apply qc;exact rfl;apply cd_n <;> intro h)|(apply qc;exact rfl;apply cd_t;exact cRa)|(apply qc;exact rfl;apply cd_f;exact cRa)|(apply qc;exact rfl;apply cd_d <;> intro h)|(apply qc;exact rfl;apply cd_s <;> intro h)|(apply w6;exact rfl;kernel_rfl)|apply q8|apply jq|apply zb)|(apply vh;first|(apply qv;(iterate 4 exact rfl))|(apply zt;(iterate 4 exact rfl)))|(apply xz;first|(apply v7;exact cAo)|(apply kg;exact cAo)|(apply j6;exact cAo)|(apply vz;exact cAo)|(apply vw;exact cRa)|(apply vv;exact cRa)|(apply vk;exact cRa)|(apply kq;exact cRa)|(apply kr <;> intro h)|(apply vr;exact cRa)|(apply wv;exact cRa)|(apply vq;exact cRa)|(apply ke;exact cRa)|(apply jo <;> intro h)|(apply wl <;> intro h))|(apply xy;first|apply yb|(apply xm;(iterate 4 exact rfl))|(apply yt;exact rfl;exact rfl;exact qn (by omega) (by omega))|(apply xo;(iterate 4 exact rfl);exact cAs;exact cAs)|(apply ka;(iterate 5 exact rfl))|(apply vp;exact rfl;exact rfl;exact cOs)|(apply kp;(iterate 3 exact rfl))|(apply j9;(iterate 5 exact rfl))|(apply jb;(iterate 4 exact rfl))|(apply ja;(iterate 3 exact rfl))|(apply yw;(iterate 3 exact rfl);exact cAs)|(apply xx;exact rfl;exact rfl)|(apply wy;exact rfl;exact rfl)|(apply wz;(iterate 3 exact rfl);omega)|(apply we;(iterate 3 exact rfl))|apply w9|apply vu|(apply yj;exact rfl;exact rfl;exact qn (by omega) (by omega))|(apply xw;(iterate 3 exact rfl))|(apply xp;(iterate 3 exact rfl);exact cAs)|(apply xl;(iterate 3 exact rfl);exact cAs)|(apply vf;exact rfl;exact rfl))|(apply vg;first|(apply qw;(iterate 3 exact rfl))|(apply jm;(iterate 3 exact rfl))|(apply jf;exact rfl;exact rfl;exact cOs)|(apply zp;exact rfl;exact rfl;exact qn (by omega) (by omega))|(apply kz;exact rfl;exact rfl;exact qn (by omega) (by omega))|(apply jc;exact rfl;exact rfl)|(apply jd;exact rfl;exact rfl)|(apply z7;exact rfl;exact rfl)|(apply jh;exact rfl;exact rfl)|(apply z4;(iterate 3 exact rfl))|(apply ji;(iterate 3 exact rfl))|(apply ve;exact rfl;exact rfl;(first|exact qi _|exact rfl);first|exact qi _|exact rfl)|(apply vb;exact rfl;exact rfl;(first|exact qi _|exact rfl);first|exact qi _|exact rfl)|(apply wd;exact rfl;exact rfl;(first|exact qi _|exact rfl);first|exact qi _|exact rfl)|(apply vc;(iterate 3 exact rfl))|(apply vd;(iterate 3 exact rfl)))|(apply wh;first|(apply zk;(iterate 3 exact rfl))|(apply jr;(iterate 5 exact rfl))|(apply zn;(iterate 5 exact rfl)))|(apply wi;first|(apply ko;exact rfl)|(apply jv;exact rfl)|(apply jx;exact rfl))|(apply vi;first|(apply vo;(iterate 3 exact rfl);exact cAs)|(apply vn;(iterate 3 exact rfl);exact cAs)|(apply va;(iterate 4 exact rfl);exact cAs;exact cAs)|(apply je;(iterate 4 exact rfl);(first|assumption|omega|exact Nat.succ_le_succ (Nat.zero_le _)|(simp;omega));exact rfl))|(apply wg;first|(apply zx;(iterate 3 exact rfl))|(apply zu;(iterate 4 exact rfl)))|(apply jl;first|(apply q5;(iterate 3 exact rfl))|(apply zg;(iterate 4 exact rfl)))|(apply vj;first|(apply jk;(iterate 11 exact rfl))|(apply zm;(iterate 11 exact rfl)))|(apply w8;first|apply qk|apply qo|apply qm|(apply zj;exact rfl;exact rfl)|(apply qf;exact rfl;apply xq;exact cAo)|(apply qf;exact rfl;apply x3;exact cAo)|(apply qf;exact rfl;apply qal;exact cRa)|(apply qf;exact rfl;apply qad;exact cRa)|(apply qf;exact rfl;apply pk_t;exact cRa)|(apply qf;exact rfl;apply pk_f;exact cRa)|(apply q9;exact rfl;exact rfl)|apply jg|(apply jj;exact rfl;exact rfl)|(apply vl;(iterate 4 exact rfl))|(apply kj;(iterate 3 exact rfl))|(apply j7;(iterate 3 exact rfl);exact cAs)|(apply ju;(iterate 3 exact rfl))|(apply zr;(iterate 9 exact rfl))|(apply zo;exact rfl;exact rfl)|(apply kf;(iterate 4 exact rfl);(first|assumption|omega|decide);exact rfl)|(apply z8;(iterate 4 exact rfl);first|assumption|omega|decide))|(apply qx;exact Tryz.call285;exact qtp _ _ hl))
 ·refine qq rfl (q0x (sz:=1) rfl rfl) ⟨?_,_,rfl⟩
  unfold yp
  rw [if_pos (by assumption)]
  rfl
 ·refine qq rfl (zf rfl) ⟨?_,_,rfl⟩
  unfold yp
  rw [if_neg (by assumption)]
  rfl
def qj0 (xs:List qe) (y:qe):Int:=match xs.findIdx? (· = y) with|some k=>k|none=> -1
theorem q66 {xs:List qe} {y:qe} {k:Nat} (hk:k<xs.length) (h1:∀ x∈xs.take k,x≠y) (h2:xs.getD k []=y):qj0 xs y=k:=by
 unfold qj0
 have:xs.findIdx? (· = y)=some k:=by
  rw [List.findIdx?_eq_some_iff_getElem]
  refine⟨hk,by simpa [List.getD,hk] using h2,fun j hj=>?_⟩
  have:=h1 xs[j] (by rw [List.mem_take_iff_getElem];exact⟨j,by omega,rfl⟩)
  simpa using this
 rw [this]
theorem q1j {xs:List qe} {y:qe} (h:∀ x∈xs,x≠y):qj0 xs y = -1:=by
 unfold qj0
 have:xs.findIdx? (· = y)=none:=by
  rw [List.findIdx?_eq_none_iff]
  intro x hx
  simpa using h x hx
 rw [this]
theorem q8n {xs:List qe} {k:Nat} (hk:k<xs.length):(xs.map fun x=>Sv x)[k]? = some (Sv (xs.getD k [])):=by
 simp [List.getD,hk]
theorem q2p {xs:List qe} {k:Nat} {y:qe} (hk:k<xs.length) (h1:∀ x∈xs.take k,x≠y) (h2:xs.getD k []≠y):∀ x∈xs.take (k+1),x≠y:=by
 intro x hx
 rw [List.take_succ_eq_append_getElem hk,List.mem_append,List.mem_singleton] at hx
 rcases hx with hx|rfl
 ·exact h1 x hx
 ·simpa [List.getD,hk] using h2
theorem q1s (xs:List qe) (y:qe) (st:List AObj) (hx:xs.length<9223372036854775807):qp E 284 [.sl 1 (xs.map fun x=>Sv x) none,Sv y] st fun r st'=>r=Iv (qj0 xs y)∧st'=st:=by
 refine zi (qy _) (qt Tryz.func284 rfl (Nat.le_of_ble_eq_true rfl) ?_)
 have hlen:(xs.map fun x=>Sv x).length=xs.length:=by simp
 repeat' (first|(apply w7;first|apply qr|apply ze|apply ql|(apply qc;exact rfl;apply wa;exact cAo)|(apply qc;exact rfl;apply wq;exact cAo)|(apply qc;exact rfl;apply yz;exact cRa)|(apply qc;exact rfl;apply qaa;exact cRa)|(apply qc;exact rfl;apply cd_n <;> intro h)|(apply qc;exact rfl;apply cd_t;exact cRa)|(apply qc;exact rfl;apply cd_f;exact cRa)|(apply qc;exact rfl;apply cd_d <;> intro h)|(apply qc;exact rfl;apply cd_s <;> intro h)|(apply w6;exact rfl;kernel_rfl)|apply q8|apply jq|apply zb)|(apply vh;first|(apply qv;(iterate 4 exact rfl))|(apply zt;(iterate 4 exact rfl)))|(apply xz;first|(apply v7;exact cAo)|(apply kg;exact cAo)|(apply j6;exact cAo)|(apply vz;exact cAo)|(apply vw;exact cRa)|(apply vv;exact cRa)|(apply vk;exact cRa)|(apply kq;exact cRa)|(apply kr <;> intro h)|(apply vr;exact cRa)|(apply wv;exact cRa)|(apply vq;exact cRa)|(apply ke;exact cRa)|(apply jo <;> intro h)|(apply wl <;> intro h))|(apply xy;first|apply yb|(apply xm;(iterate 4 exact rfl))|(apply yt;exact rfl;exact rfl;exact qn (by omega) (by omega))|(apply xo;(iterate 4 exact rfl);exact cAs;exact cAs)|(apply ka;(iterate 5 exact rfl))|(apply vp;exact rfl;exact rfl;exact cOs)|(apply kp;(iterate 3 exact rfl))|(apply j9;(iterate 5 exact rfl))|(apply jb;(iterate 4 exact rfl))|(apply ja;(iterate 3 exact rfl))|(apply yw;(iterate 3 exact rfl);exact cAs)|(apply xx;exact rfl;exact rfl)|(apply wy;exact rfl;exact rfl)|(apply wz;(iterate 3 exact rfl);omega)|(apply we;(iterate 3 exact rfl))|apply w9|apply vu|(apply yj;exact rfl;exact rfl;exact qn (by omega) (by omega))|(apply xw;(iterate 3 exact rfl))|(apply xp;(iterate 3 exact rfl);exact cAs)|(apply xl;(iterate 3 exact rfl);exact cAs)|(apply vf;exact rfl;exact rfl))|(apply vg;first|(apply qw;(iterate 3 exact rfl))|(apply jm;(iterate 3 exact rfl))|(apply jf;exact rfl;exact rfl;exact cOs)|(apply zp;exact rfl;exact rfl;exact qn (by omega) (by omega))|(apply kz;exact rfl;exact rfl;exact qn (by omega) (by omega))|(apply jc;exact rfl;exact rfl)|(apply jd;exact rfl;exact rfl)|(apply z7;exact rfl;exact rfl)|(apply jh;exact rfl;exact rfl)|(apply z4;(iterate 3 exact rfl))|(apply ji;(iterate 3 exact rfl))|(apply ve;exact rfl;exact rfl;(first|exact qi _|exact rfl);first|exact qi _|exact rfl)|(apply vb;exact rfl;exact rfl;(first|exact qi _|exact rfl);first|exact qi _|exact rfl)|(apply wd;exact rfl;exact rfl;(first|exact qi _|exact rfl);first|exact qi _|exact rfl)|(apply vc;(iterate 3 exact rfl))|(apply vd;(iterate 3 exact rfl)))|(apply wh;first|(apply zk;(iterate 3 exact rfl))|(apply jr;(iterate 5 exact rfl))|(apply zn;(iterate 5 exact rfl)))|(apply wi;first|(apply ko;exact rfl)|(apply jv;exact rfl)|(apply jx;exact rfl))|(apply vi;first|(apply vo;(iterate 3 exact rfl);exact cAs)|(apply vn;(iterate 3 exact rfl);exact cAs)|(apply va;(iterate 4 exact rfl);exact cAs;exact cAs)|(apply je;(iterate 4 exact rfl);(first|assumption|omega|exact Nat.succ_le_succ (Nat.zero_le _)|(simp;omega));exact rfl))|(apply wg;first|(apply zx;(iterate 3 exact rfl))|(apply zu;(iterate 4 exact rfl)))|(apply jl;first|(apply q5;(iterate 3 exact rfl))|(apply zg;(iterate 4 exact rfl)))|(apply vj;first|(apply jk;(iterate 11 exact rfl))|(apply zm;(iterate 11 exact rfl)))|(apply w8;first|apply qk|apply qo|apply qm|(apply zj;exact rfl;exact rfl)|(apply qf;exact rfl;apply xq;exact cAo)|(apply qf;exact rfl;apply x3;exact cAo)|(apply qf;exact rfl;apply qal;exact cRa)|(apply qf;exact rfl;apply qad;exact cRa)|(apply qf;exact rfl;apply pk_t;exact cRa)|(apply qf;exact rfl;apply pk_f;exact cRa)|(apply q9;exact rfl;exact rfl)|apply jg|(apply jj;exact rfl;exact rfl)|(apply vl;(iterate 4 exact rfl))|(apply kj;(iterate 3 exact rfl))|(apply j7;(iterate 3 exact rfl);exact cAs)|(apply ju;(iterate 3 exact rfl))|(apply zr;(iterate 9 exact rfl))|(apply zo;exact rfl;exact rfl)|(apply kf;(iterate 4 exact rfl);(first|assumption|omega|decide);exact rfl)|(apply z8;(iterate 4 exact rfl);first|assumption|omega|decide)))
 refine yl (fun (k:Nat) s=>k≤xs.length∧(∀ x∈xs.take k,x≠y)∧StA [(0,.sl 1 (xs.map fun x=>Sv x) none),(1,Sv y),(7,Iv xs.length),(8,Iv k)] (st++[]) [] s) (fun k=>xs.length - k) 0 ⟨by omega,by simp,v6 ⟨rfl,rfl,by simp;rfl,rfl,trivial⟩⟩ ?_
 rintro k _ ⟨hk,h1,t,rfl⟩
 repeat' (first|(apply w7;first|apply qr|apply ze|apply ql|(apply qc;exact rfl;apply wa;exact cAo)|(apply qc;exact rfl;apply wq;exact cAo)|(apply qc;exact rfl;apply yz;exact cRa)|(apply qc;exact rfl;apply qaa;exact cRa)|(apply qc;exact rfl;apply cd_n <;> intro h)|(apply qc;exact rfl;apply cd_t;exact cRa)|(apply qc;exact rfl;apply cd_f;exact cRa)|(apply qc;exact rfl;apply cd_d <;> intro h)|(apply qc;exact rfl;apply cd_s <;> intro h)|(apply w6;exact rfl;kernel_rfl)|apply q8|apply jq|apply zb)|(apply vh;first|(apply qv;(iterate 4 exact rfl))|(apply zt;(iterate 4 exact rfl)))|(apply xz;first|(apply v7;exact cAo)|(apply kg;exact cAo)|(apply j6;exact cAo)|(apply vz;exact cAo)|(apply vw;exact cRa)|(apply vv;exact cRa)|(apply vk;exact cRa)|(apply kq;exact cRa)|(apply kr <;> intro h)|(apply vr;exact cRa)|(apply wv;exact cRa)|(apply vq;exact cRa)|(apply ke;exact cRa)|(apply jo <;> intro h)|(apply wl <;> intro h))|(apply xy;first|apply yb|(apply xm;(iterate 4 exact rfl))|(apply yt;exact rfl;exact rfl;exact qn (by omega) (by omega))|(apply xo;(iterate 4 exact rfl);exact cAs;exact cAs)|(apply ka;(iterate 5 exact rfl))|(apply vp;exact rfl;exact rfl;exact cOs)|(apply kp;(iterate 3 exact rfl))|(apply j9;(iterate 5 exact rfl))|(apply jb;(iterate 4 exact rfl))|(apply ja;(iterate 3 exact rfl))|(apply yw;(iterate 3 exact rfl);exact cAs)|(apply xx;exact rfl;exact rfl)|(apply wy;exact rfl;exact rfl)|(apply wz;(iterate 3 exact rfl);omega)|(apply we;(iterate 3 exact rfl))|apply w9|apply vu|(apply yj;exact rfl;exact rfl;exact qn (by omega) (by omega))|(apply xw;(iterate 3 exact rfl))|(apply xp;(iterate 3 exact rfl);exact cAs)|(apply xl;(iterate 3 exact rfl);exact cAs)|(apply vf;exact rfl;exact rfl))|(apply vg;first|(apply qw;(iterate 3 exact rfl))|(apply jm;(iterate 3 exact rfl))|(apply jf;exact rfl;exact rfl;exact cOs)|(apply zp;exact rfl;exact rfl;exact qn (by omega) (by omega))|(apply kz;exact rfl;exact rfl;exact qn (by omega) (by omega))|(apply jc;exact rfl;exact rfl)|(apply jd;exact rfl;exact rfl)|(apply z7;exact rfl;exact rfl)|(apply jh;exact rfl;exact rfl)|(apply z4;(iterate 3 exact rfl))|(apply ji;(iterate 3 exact rfl))|(apply ve;exact rfl;exact rfl;(first|exact qi _|exact rfl);first|exact qi _|exact rfl)|(apply vb;exact rfl;exact rfl;(first|exact qi _|exact rfl);first|exact qi _|exact rfl)|(apply wd;exact rfl;exact rfl;(first|exact qi _|exact rfl);first|exact qi _|exact rfl)|(apply vc;(iterate 3 exact rfl))|(apply vd;(iterate 3 exact rfl)))|(apply wh;first|(apply zk;(iterate 3 exact rfl))|(apply jr;(iterate 5 exact rfl))|(apply zn;(iterate 5 exact rfl)))|(apply wi;first|(apply ko;exact rfl)|(apply jv;exact rfl)|(apply jx;exact rfl))|(apply vi;first|(apply vo;(iterate 3 exact rfl);exact cAs)|(apply vn;(iterate 3 exact rfl);exact cAs)|(apply va;(iterate 4 exact rfl);exact cAs;exact cAs)|(apply je;(iterate 4 exact rfl);(first|assumption|omega|exact Nat.succ_le_succ (Nat.zero_le _)|(simp;omega));exact rfl))|(apply wg;first|(apply zx;(iterate 3 exact rfl))|(apply zu;(iterate 4 exact rfl)))|(apply jl;first|(apply q5;(iterate 3 exact rfl))|(apply zg;(iterate 4 exact rfl)))|(apply vj;first|(apply jk;(iterate 11 exact rfl))|(apply zm;(iterate 11 exact rfl)))|(apply w8;first|apply qk|apply qo|apply qm|(apply zj;exact rfl;exact rfl)|(apply qf;exact rfl;apply xq;exact cAo)|(apply qf;exact rfl;apply x3;exact cAo)|(apply qf;exact rfl;apply qal;exact cRa)|(apply qf;exact rfl;apply qad;exact cRa)|(apply qf;exact rfl;apply pk_t;exact cRa)|(apply qf;exact rfl;apply pk_f;exact cRa)|(apply q9;exact rfl;exact rfl)|apply jg|(apply jj;exact rfl;exact rfl)|(apply vl;(iterate 4 exact rfl))|(apply kj;(iterate 3 exact rfl))|(apply j7;(iterate 3 exact rfl);exact cAs)|(apply ju;(iterate 3 exact rfl))|(apply zr;(iterate 9 exact rfl))|(apply zo;exact rfl;exact rfl)|(apply kf;(iterate 4 exact rfl);(first|assumption|omega|decide);exact rfl)|(apply z8;(iterate 4 exact rfl);first|assumption|omega|decide))|(apply x9 (n:=k);(iterate 5 exact rfl);exact q8n (by omega)))
 ·refine qq rfl (zf rfl) ⟨congrArg Iv (?_:(k:Int)=_),_,rfl⟩
  exact (q66 (by omega) h1 (Eq.symm (by assumption))).symm
 ·exact⟨k+1,⟨by omega,q2p (by omega) h1 (fun e=>absurd e.symm (by assumption)),v6 ⟨rfl,rfl,rfl,rfl,trivial⟩⟩,by omega⟩
 ·have e:k=xs.length:=by omega
  subst e
  rw [List.take_length] at h1
  exact qq rfl (zf rfl) ⟨congrArg Iv (q1j h1).symm,_,rfl⟩
theorem q33 (xs:List qe) (y:qe):0≤qj0 xs y↔y∈xs:=by
 unfold qj0
 cases h:xs.findIdx? (· = y) with
 |none=>
  rw [List.findIdx?_eq_none_iff] at h
  constructor
  ·intro h';simp at h'
  ·intro h';have:=h y h';simp at this
 |some k=>
  rw [List.findIdx?_eq_some_iff_getElem] at h
  obtain⟨hk,h1,_⟩:=h
  constructor
  ·intro _
   have:xs[k]=y:=by simpa using h1
   exact this▸List.getElem_mem hk
  ·intro _;simp
theorem qt4 (xs:List qe) (y:qe) (st:List AObj) (hx:xs.length<9223372036854775807):qp E 225 [.sl 1 (xs.map fun x=>Sv x) none,Sv y] st fun r st'=>r=Bv (decide (y∈xs))∧st'=st:=by
 refine zi (qy _) (qt Tryz.func225 rfl (Nat.le_of_ble_eq_true rfl) ?_)
 repeat' (first|(apply w7;first|apply qr|apply ze|apply ql|(apply qc;exact rfl;apply wa;exact cAo)|(apply qc;exact rfl;apply wq;exact cAo)|(apply qc;exact rfl;apply yz;exact cRa)|(apply qc;exact rfl;apply qaa;exact cRa)|(apply qc;exact rfl;apply cd_n <;> intro h)|(apply qc;exact rfl;apply cd_t;exact cRa)|(apply qc;exact rfl;apply cd_f;exact cRa)|(apply qc;exact rfl;apply cd_d <;> intro h)|(apply qc;exact rfl;apply cd_s <;> intro h)|(apply w6;exact rfl;kernel_rfl)|apply q8|apply jq|apply zb)|(apply vh;first|(apply qv;(iterate 4 exact rfl))|(apply zt;(iterate 4 exact rfl)))|(apply xz;first|(apply v7;exact cAo)|(apply kg;exact cAo)|(apply j6;exact cAo)|(apply vz;exact cAo)|(apply vw;exact cRa)|(apply vv;exact cRa)|(apply vk;exact cRa)|(apply kq;exact cRa)|(apply kr <;> intro h)|(apply vr;exact cRa)|(apply wv;exact cRa)|(apply vq;exact cRa)|(apply ke;exact cRa)|(apply jo <;> intro h)|(apply wl <;> intro h))|(apply xy;first|apply yb|(apply xm;(iterate 4 exact rfl))|(apply yt;exact rfl;exact rfl;exact qn (by omega) (by omega))|(apply xo;(iterate 4 exact rfl);exact cAs;exact cAs)|(apply ka;(iterate 5 exact rfl))|(apply vp;exact rfl;exact rfl;exact cOs)|(apply kp;(iterate 3 exact rfl))|(apply j9;(iterate 5 exact rfl))|(apply jb;(iterate 4 exact rfl))|(apply ja;(iterate 3 exact rfl))|(apply yw;(iterate 3 exact rfl);exact cAs)|(apply xx;exact rfl;exact rfl)|(apply wy;exact rfl;exact rfl)|(apply wz;(iterate 3 exact rfl);omega)|(apply we;(iterate 3 exact rfl))|apply w9|apply vu|(apply yj;exact rfl;exact rfl;exact qn (by omega) (by omega))|(apply xw;(iterate 3 exact rfl))|(apply xp;(iterate 3 exact rfl);exact cAs)|(apply xl;(iterate 3 exact rfl);exact cAs)|(apply vf;exact rfl;exact rfl))|(apply vg;first|(apply qw;(iterate 3 exact rfl))|(apply jm;(iterate 3 exact rfl))|(apply jf;exact rfl;exact rfl;exact cOs)|(apply zp;exact rfl;exact rfl;exact qn (by omega) (by omega))|(apply kz;exact rfl;exact rfl;exact qn (by omega) (by omega))|(apply jc;exact rfl;exact rfl)|(apply jd;exact rfl;exact rfl)|(apply z7;exact rfl;exact rfl)|(apply jh;exact rfl;exact rfl)|(apply z4;(iterate 3 exact rfl))|(apply ji;(iterate 3 exact rfl))|(apply ve;exact rfl;exact rfl;(first|exact qi _|exact rfl);first|exact qi _|exact rfl)|(apply vb;exact rfl;exact rfl;(first|exact qi _|exact rfl);first|exact qi _|exact rfl)|(apply wd;exact rfl;exact rfl;(first|exact qi _|exact rfl);first|exact qi _|exact rfl)|(apply vc;(iterate 3 exact rfl))|(apply vd;(iterate 3 exact rfl)))|(apply wh;first|(apply zk;(iterate 3 exact rfl))|(apply jr;(iterate 5 exact rfl))|(apply zn;(iterate 5 exact rfl)))|(apply wi;first|(apply ko;exact rfl)|(apply jv;exact rfl)|(apply jx;exact rfl))|(apply vi;first|(apply vo;(iterate 3 exact rfl);exact cAs)|(apply vn;(iterate 3 exact rfl);exact cAs)|(apply va;(iterate 4 exact rfl);exact cAs;exact cAs)|(apply je;(iterate 4 exact rfl);(first|assumption|omega|exact Nat.succ_le_succ (Nat.zero_le _)|(simp;omega));exact rfl))|(apply wg;first|(apply zx;(iterate 3 exact rfl))|(apply zu;(iterate 4 exact rfl)))|(apply jl;first|(apply q5;(iterate 3 exact rfl))|(apply zg;(iterate 4 exact rfl)))|(apply vj;first|(apply jk;(iterate 11 exact rfl))|(apply zm;(iterate 11 exact rfl)))|(apply w8;first|apply qk|apply qo|apply qm|(apply zj;exact rfl;exact rfl)|(apply qf;exact rfl;apply xq;exact cAo)|(apply qf;exact rfl;apply x3;exact cAo)|(apply qf;exact rfl;apply qal;exact cRa)|(apply qf;exact rfl;apply qad;exact cRa)|(apply qf;exact rfl;apply pk_t;exact cRa)|(apply qf;exact rfl;apply pk_f;exact cRa)|(apply q9;exact rfl;exact rfl)|apply jg|(apply jj;exact rfl;exact rfl)|(apply vl;(iterate 4 exact rfl))|(apply kj;(iterate 3 exact rfl))|(apply j7;(iterate 3 exact rfl);exact cAs)|(apply ju;(iterate 3 exact rfl))|(apply zr;(iterate 9 exact rfl))|(apply zo;exact rfl;exact rfl)|(apply kf;(iterate 4 exact rfl);(first|assumption|omega|decide);exact rfl)|(apply z8;(iterate 4 exact rfl);first|assumption|omega|decide))|(apply qx;exact Tryz.call284;exact q1s _ _ _ hx))
 refine qq rfl (zf rfl) ⟨congrArg Bv (?_:_=_),_,rfl⟩
 simp [q33]
theorem q54 (l:qe):(yp l).length≤l.length+1:=by
 unfold yp
 split
 ·simp
 ·exact qbh _ l (Nat.le_refl _)
theorem q89 (l y:List UInt8) (st:List AObj) (hl:l.length<4294967281):qp E 148 [Sv l,Sv y] st fun r st'=>r=Bv (decide (y∈yp l))∧st'=st:=by
 refine zi (qy _) (qt Tryz.func148 rfl (Nat.le_of_ble_eq_true rfl) ?_)
 have h1:=q54 l
 repeat' (first|(apply w7;first|apply qr|apply ze|apply ql|(apply qc;exact rfl;apply wa;exact cAo)|(apply qc;exact rfl;apply wq;exact cAo)|(apply qc;exact rfl;apply yz;exact cRa)|(apply qc;exact rfl;apply qaa;exact cRa)|(apply qc;exact rfl;apply cd_n <;> intro h)|(apply qc;exact rfl;apply cd_t;exact cRa)|(apply qc;exact rfl;apply cd_f;exact cRa)|(apply qc;exact rfl;apply cd_d <;> intro h)|(apply qc;exact rfl;apply cd_s <;> intro h)|(apply w6;exact rfl;kernel_rfl)|apply q8|apply jq|apply zb)|(apply vh;first|(apply qv;(iterate 4 exact rfl))|(apply zt;(iterate 4 exact rfl)))|(apply xz;first|(apply v7;exact cAo)|(apply kg;exact cAo)|(apply j6;exact cAo)|(apply vz;exact cAo)|(apply vw;exact cRa)|(apply vv;exact cRa)|(apply vk;exact cRa)|(apply kq;exact cRa)|(apply kr <;> intro h)|(apply vr;exact cRa)|(apply wv;exact cRa)|(apply vq;exact cRa)|(apply ke;exact cRa)|(apply jo <;> intro h)|(apply wl <;> intro h))|(apply xy;first|apply yb|(apply xm;(iterate 4 exact rfl))|(apply yt;exact rfl;exact rfl;exact qn (by omega) (by omega))|(apply xo;(iterate 4 exact rfl);exact cAs;exact cAs)|(apply ka;(iterate 5 exact rfl))|(apply vp;exact rfl;exact rfl;exact cOs)|(apply kp;(iterate 3 exact rfl))|(apply j9;(iterate 5 exact rfl))|(apply jb;(iterate 4 exact rfl))|(apply ja;(iterate 3 exact rfl))|(apply yw;(iterate 3 exact rfl);exact cAs)|(apply xx;exact rfl;exact rfl)|(apply wy;exact rfl;exact rfl)|(apply wz;(iterate 3 exact rfl);omega)|(apply we;(iterate 3 exact rfl))|apply w9|apply vu|(apply yj;exact rfl;exact rfl;exact qn (by omega) (by omega))|(apply xw;(iterate 3 exact rfl))|(apply xp;(iterate 3 exact rfl);exact cAs)|(apply xl;(iterate 3 exact rfl);exact cAs)|(apply vf;exact rfl;exact rfl))|(apply vg;first|(apply qw;(iterate 3 exact rfl))|(apply jm;(iterate 3 exact rfl))|(apply jf;exact rfl;exact rfl;exact cOs)|(apply zp;exact rfl;exact rfl;exact qn (by omega) (by omega))|(apply kz;exact rfl;exact rfl;exact qn (by omega) (by omega))|(apply jc;exact rfl;exact rfl)|(apply jd;exact rfl;exact rfl)|(apply z7;exact rfl;exact rfl)|(apply jh;exact rfl;exact rfl)|(apply z4;(iterate 3 exact rfl))|(apply ji;(iterate 3 exact rfl))|(apply ve;exact rfl;exact rfl;(first|exact qi _|exact rfl);first|exact qi _|exact rfl)|(apply vb;exact rfl;exact rfl;(first|exact qi _|exact rfl);first|exact qi _|exact rfl)|(apply wd;exact rfl;exact rfl;(first|exact qi _|exact rfl);first|exact qi _|exact rfl)|(apply vc;(iterate 3 exact rfl))|(apply vd;(iterate 3 exact rfl)))|(apply wh;first|(apply zk;(iterate 3 exact rfl))|(apply jr;(iterate 5 exact rfl))|(apply zn;(iterate 5 exact rfl)))|(apply wi;first|(apply ko;exact rfl)|(apply jv;exact rfl)|(apply jx;exact rfl))|(apply vi;first|(apply vo;(iterate 3 exact rfl);exact cAs)|(apply vn;(iterate 3 exact rfl);exact cAs)|(apply va;(iterate 4 exact rfl);exact cAs;exact cAs)|(apply je;(iterate 4 exact rfl);(first|assumption|omega|exact Nat.succ_le_succ (Nat.zero_le _)|(simp;omega));exact rfl))|(apply wg;first|(apply zx;(iterate 3 exact rfl))|(apply zu;(iterate 4 exact rfl)))|(apply jl;first|(apply q5;(iterate 3 exact rfl))|(apply zg;(iterate 4 exact rfl)))|(apply vj;first|(apply jk;(iterate 11 exact rfl))|(apply zm;(iterate 11 exact rfl)))|(apply w8;first|apply qk|apply qo|apply qm|(apply zj;exact rfl;exact rfl)|(apply qf;exact rfl;apply xq;exact cAo)|(apply qf;exact rfl;apply x3;exact cAo)|(apply qf;exact rfl;apply qal;exact cRa)|(apply qf;exact rfl;apply qad;exact cRa)|(apply qf;exact rfl;apply pk_t;exact cRa)|(apply qf;exact rfl;apply pk_f;exact cRa)|(apply q9;exact rfl;exact rfl)|apply jg|(apply jj;exact rfl;exact rfl)|(apply vl;(iterate 4 exact rfl))|(apply kj;(iterate 3 exact rfl))|(apply j7;(iterate 3 exact rfl);exact cAs)|(apply ju;(iterate 3 exact rfl))|(apply zr;(iterate 9 exact rfl))|(apply zo;exact rfl;exact rfl)|(apply kf;(iterate 4 exact rfl);(first|assumption|omega|decide);exact rfl)|(apply z8;(iterate 4 exact rfl);first|assumption|omega|decide))|(apply qx;exact Tryz.call226;exact zbh _ _ hl)|(apply qx;exact Tryz.call225;exact qt4 _ _ _ (by omega)))
 exact qq rfl (zf rfl) ⟨rfl,_,rfl⟩
def qda (r:zz) (n:Int):Prop:=r.lo≤n∧n≤r.hi
instance (r:zz) (n:Int):Decidable (qda r n):=inferInstanceAs (Decidable (_∧_))
theorem qyd (r:zz) (n:Int) (st:List AObj):qp E 149 [wu r,Iv n] st fun x st'=>x=Bv (decide (qda r n))∧st'=st:=by
 refine zi (qy _) (qt Tryz.func149 rfl (Nat.le_of_ble_eq_true rfl) ?_)
 repeat' (first|(apply w7;first|apply qr|apply ze|apply ql|(apply qc;exact rfl;apply wa;exact cAo)|(apply qc;exact rfl;apply wq;exact cAo)|(apply qc;exact rfl;apply yz;exact cRa)|(apply qc;exact rfl;apply qaa;exact cRa)|(apply qc;exact rfl;apply cd_n <;> intro h)|(apply qc;exact rfl;apply cd_t;exact cRa)|(apply qc;exact rfl;apply cd_f;exact cRa)|(apply qc;exact rfl;apply cd_d <;> intro h)|(apply qc;exact rfl;apply cd_s <;> intro h)|(apply w6;exact rfl;kernel_rfl)|apply q8|apply jq|apply zb)|(apply vh;first|(apply qv;(iterate 4 exact rfl))|(apply zt;(iterate 4 exact rfl)))|(apply xz;first|(apply v7;exact cAo)|(apply kg;exact cAo)|(apply j6;exact cAo)|(apply vz;exact cAo)|(apply vw;exact cRa)|(apply vv;exact cRa)|(apply vk;exact cRa)|(apply kq;exact cRa)|(apply kr <;> intro h)|(apply vr;exact cRa)|(apply wv;exact cRa)|(apply vq;exact cRa)|(apply ke;exact cRa)|(apply jo <;> intro h)|(apply wl <;> intro h))|(apply xy;first|apply yb|(apply xm;(iterate 4 exact rfl))|(apply yt;exact rfl;exact rfl;exact qn (by omega) (by omega))|(apply xo;(iterate 4 exact rfl);exact cAs;exact cAs)|(apply ka;(iterate 5 exact rfl))|(apply vp;exact rfl;exact rfl;exact cOs)|(apply kp;(iterate 3 exact rfl))|(apply j9;(iterate 5 exact rfl))|(apply jb;(iterate 4 exact rfl))|(apply ja;(iterate 3 exact rfl))|(apply yw;(iterate 3 exact rfl);exact cAs)|(apply xx;exact rfl;exact rfl)|(apply wy;exact rfl;exact rfl)|(apply wz;(iterate 3 exact rfl);omega)|(apply we;(iterate 3 exact rfl))|apply w9|apply vu|(apply yj;exact rfl;exact rfl;exact qn (by omega) (by omega))|(apply xw;(iterate 3 exact rfl))|(apply xp;(iterate 3 exact rfl);exact cAs)|(apply xl;(iterate 3 exact rfl);exact cAs)|(apply vf;exact rfl;exact rfl))|(apply vg;first|(apply qw;(iterate 3 exact rfl))|(apply jm;(iterate 3 exact rfl))|(apply jf;exact rfl;exact rfl;exact cOs)|(apply zp;exact rfl;exact rfl;exact qn (by omega) (by omega))|(apply kz;exact rfl;exact rfl;exact qn (by omega) (by omega))|(apply jc;exact rfl;exact rfl)|(apply jd;exact rfl;exact rfl)|(apply z7;exact rfl;exact rfl)|(apply jh;exact rfl;exact rfl)|(apply z4;(iterate 3 exact rfl))|(apply ji;(iterate 3 exact rfl))|(apply ve;exact rfl;exact rfl;(first|exact qi _|exact rfl);first|exact qi _|exact rfl)|(apply vb;exact rfl;exact rfl;(first|exact qi _|exact rfl);first|exact qi _|exact rfl)|(apply wd;exact rfl;exact rfl;(first|exact qi _|exact rfl);first|exact qi _|exact rfl)|(apply vc;(iterate 3 exact rfl))|(apply vd;(iterate 3 exact rfl)))|(apply wh;first|(apply zk;(iterate 3 exact rfl))|(apply jr;(iterate 5 exact rfl))|(apply zn;(iterate 5 exact rfl)))|(apply wi;first|(apply ko;exact rfl)|(apply jv;exact rfl)|(apply jx;exact rfl))|(apply vi;first|(apply vo;(iterate 3 exact rfl);exact cAs)|(apply vn;(iterate 3 exact rfl);exact cAs)|(apply va;(iterate 4 exact rfl);exact cAs;exact cAs)|(apply je;(iterate 4 exact rfl);(first|assumption|omega|exact Nat.succ_le_succ (Nat.zero_le _)|(simp;omega));exact rfl))|(apply wg;first|(apply zx;(iterate 3 exact rfl))|(apply zu;(iterate 4 exact rfl)))|(apply jl;first|(apply q5;(iterate 3 exact rfl))|(apply zg;(iterate 4 exact rfl)))|(apply vj;first|(apply jk;(iterate 11 exact rfl))|(apply zm;(iterate 11 exact rfl)))|(apply w8;first|apply qk|apply qo|apply qm|(apply zj;exact rfl;exact rfl)|(apply qf;exact rfl;apply xq;exact cAo)|(apply qf;exact rfl;apply x3;exact cAo)|(apply qf;exact rfl;apply qal;exact cRa)|(apply qf;exact rfl;apply qad;exact cRa)|(apply qf;exact rfl;apply pk_t;exact cRa)|(apply qf;exact rfl;apply pk_f;exact cRa)|(apply q9;exact rfl;exact rfl)|apply jg|(apply jj;exact rfl;exact rfl)|(apply vl;(iterate 4 exact rfl))|(apply kj;(iterate 3 exact rfl))|(apply j7;(iterate 3 exact rfl);exact cAs)|(apply ju;(iterate 3 exact rfl))|(apply zr;(iterate 9 exact rfl))|(apply zo;exact rfl;exact rfl)|(apply kf;(iterate 4 exact rfl);(first|assumption|omega|decide);exact rfl)|(apply z8;(iterate 4 exact rfl);first|assumption|omega|decide)))
 all_goals refine qq rfl (zf rfl) ⟨congrArg Bv (?_:_=_),_,rfl⟩
 all_goals first
  |exact (decide_eq_false fun h=>by have:=h.1;omega).symm
  |(have e:qda r n↔n≤r.hi:=⟨fun h=>h.2,fun h=>⟨by omega,h⟩⟩;simp [e])
def qe8 (r:zz) (l:qe):Prop:=∃ n,numZ l=some n∧qda r n
instance (r:zz) (l:qe):Decidable (qe8 r l):=
 match h:numZ l with
 |some n=>decidable_of_iff (qda r n) ⟨fun h'=>⟨n,h,h'⟩,fun ⟨m,h1,h2⟩=>by rw [h] at h1;cases h1;exact h2⟩
 |none=>.isFalse fun ⟨m,h1,_⟩=>by rw [h] at h1;cases h1
theorem q4s (r:zz) (l:qe) (st:List AObj) (hl:l.length<4294967281):qp E 147 [wu r,Sv l] st fun x st'=>x=Bv (decide (qe8 r l))∧st'=st:=by
 refine zi (qy _) (qt Tryz.func147 rfl (Nat.le_of_ble_eq_true rfl) ?_)
 repeat' (first|(apply w7;first|apply qr|apply ze|apply ql|(apply qc;exact rfl;apply wa;exact cAo)|(apply qc;exact rfl;apply wq;exact cAo)|(apply qc;exact rfl;apply yz;exact cRa)|(apply qc;exact rfl;apply qaa;exact cRa)|(apply qc;exact rfl;apply cd_n <;> intro h)|(apply qc;exact rfl;apply cd_t;exact cRa)|(apply qc;exact rfl;apply cd_f;exact cRa)|(apply qc;exact rfl;apply cd_d <;> intro h)|(apply qc;exact rfl;apply cd_s <;> intro h)|(apply w6;exact rfl;kernel_rfl)|apply q8|apply jq|apply zb)|(apply vh;first|(apply qv;(iterate 4 exact rfl))|(apply zt;(iterate 4 exact rfl)))|(apply xz;first|(apply v7;exact cAo)|(apply kg;exact cAo)|(apply j6;exact cAo)|(apply vz;exact cAo)|(apply vw;exact cRa)|(apply vv;exact cRa)|(apply vk;exact cRa)|(apply kq;exact cRa)|(apply kr <;> intro h)|(apply vr;exact cRa)|(apply wv;exact cRa)|(apply vq;exact cRa)|(apply ke;exact cRa)|(apply jo <;> intro h)|(apply wl <;> intro h))|(apply xy;first|apply yb|(apply xm;(iterate 4 exact rfl))|(apply yt;exact rfl;exact rfl;exact qn (by omega) (by omega))|(apply xo;(iterate 4 exact rfl);exact cAs;exact cAs)|(apply ka;(iterate 5 exact rfl))|(apply vp;exact rfl;exact rfl;exact cOs)|(apply kp;(iterate 3 exact rfl))|(apply j9;(iterate 5 exact rfl))|(apply jb;(iterate 4 exact rfl))|(apply ja;(iterate 3 exact rfl))|(apply yw;(iterate 3 exact rfl);exact cAs)|(apply xx;exact rfl;exact rfl)|(apply wy;exact rfl;exact rfl)|(apply wz;(iterate 3 exact rfl);omega)|(apply we;(iterate 3 exact rfl))|apply w9|apply vu|(apply yj;exact rfl;exact rfl;exact qn (by omega) (by omega))|(apply xw;(iterate 3 exact rfl))|(apply xp;(iterate 3 exact rfl);exact cAs)|(apply xl;(iterate 3 exact rfl);exact cAs)|(apply vf;exact rfl;exact rfl))|(apply vg;first|(apply qw;(iterate 3 exact rfl))|(apply jm;(iterate 3 exact rfl))|(apply jf;exact rfl;exact rfl;exact cOs)|(apply zp;exact rfl;exact rfl;exact qn (by omega) (by omega))|(apply kz;exact rfl;exact rfl;exact qn (by omega) (by omega))|(apply jc;exact rfl;exact rfl)|(apply jd;exact rfl;exact rfl)|(apply z7;exact rfl;exact rfl)|(apply jh;exact rfl;exact rfl)|(apply z4;(iterate 3 exact rfl))|(apply ji;(iterate 3 exact rfl))|(apply ve;exact rfl;exact rfl;(first|exact qi _|exact rfl);first|exact qi _|exact rfl)|(apply vb;exact rfl;exact rfl;(first|exact qi _|exact rfl);first|exact qi _|exact rfl)|(apply wd;exact rfl;exact rfl;(first|exact qi _|exact rfl);first|exact qi _|exact rfl)|(apply vc;(iterate 3 exact rfl))|(apply vd;(iterate 3 exact rfl)))|(apply wh;first|(apply zk;(iterate 3 exact rfl))|(apply jr;(iterate 5 exact rfl))|(apply zn;(iterate 5 exact rfl)))|(apply wi;first|(apply ko;exact rfl)|(apply jv;exact rfl)|(apply jx;exact rfl))|(apply vi;first|(apply vo;(iterate 3 exact rfl);exact cAs)|(apply vn;(iterate 3 exact rfl);exact cAs)|(apply va;(iterate 4 exact rfl);exact cAs;exact cAs)|(apply je;(iterate 4 exact rfl);(first|assumption|omega|exact Nat.succ_le_succ (Nat.zero_le _)|(simp;omega));exact rfl))|(apply wg;first|(apply zx;(iterate 3 exact rfl))|(apply zu;(iterate 4 exact rfl)))|(apply jl;first|(apply q5;(iterate 3 exact rfl))|(apply zg;(iterate 4 exact rfl)))|(apply vj;first|(apply jk;(iterate 11 exact rfl))|(apply zm;(iterate 11 exact rfl)))|(apply w8;first|apply qk|apply qo|apply qm|(apply zj;exact rfl;exact rfl)|(apply qf;exact rfl;apply xq;exact cAo)|(apply qf;exact rfl;apply x3;exact cAo)|(apply qf;exact rfl;apply qal;exact cRa)|(apply qf;exact rfl;apply qad;exact cRa)|(apply qf;exact rfl;apply pk_t;exact cRa)|(apply qf;exact rfl;apply pk_f;exact cRa)|(apply q9;exact rfl;exact rfl)|apply jg|(apply jj;exact rfl;exact rfl)|(apply vl;(iterate 4 exact rfl))|(apply kj;(iterate 3 exact rfl))|(apply j7;(iterate 3 exact rfl);exact cAs)|(apply ju;(iterate 3 exact rfl))|(apply zr;(iterate 9 exact rfl))|(apply zo;exact rfl;exact rfl)|(apply kf;(iterate 4 exact rfl);(first|assumption|omega|decide);exact rfl)|(apply z8;(iterate 4 exact rfl);first|assumption|omega|decide)))
 refine qsh Tryz.call73 ((zbn l _ (by omega)).mono ?_)
 rintro _ _ ⟨rfl,n,x,rfl,hx⟩
 rcases x with _ | ⟨t',y⟩
 ·simp only at hx
  have hb:=qi9 hx
  have hz:numZ l=if Lib.itoa n=l then some n else none:=by unfold numZ;rw [hx]
  repeat' (first|(apply w7;first|apply qr|apply ze|apply ql|(apply qc;exact rfl;apply wa;exact cAo)|(apply qc;exact rfl;apply wq;exact cAo)|(apply qc;exact rfl;apply yz;exact cRa)|(apply qc;exact rfl;apply qaa;exact cRa)|(apply qc;exact rfl;apply cd_n <;> intro h)|(apply qc;exact rfl;apply cd_t;exact cRa)|(apply qc;exact rfl;apply cd_f;exact cRa)|(apply qc;exact rfl;apply cd_d <;> intro h)|(apply qc;exact rfl;apply cd_s <;> intro h)|(apply w6;exact rfl;kernel_rfl)|apply q8|apply jq|apply zb)|(apply vh;first|(apply qv;(iterate 4 exact rfl))|(apply zt;(iterate 4 exact rfl)))|(apply xz;first|(apply v7;exact cAo)|(apply kg;exact cAo)|(apply j6;exact cAo)|(apply vz;exact cAo)|(apply vw;exact cRa)|(apply vv;exact cRa)|(apply vk;exact cRa)|(apply kq;exact cRa)|(apply kr <;> intro h)|(apply vr;exact cRa)|(apply wv;exact cRa)|(apply vq;exact cRa)|(apply ke;exact cRa)|(apply jo <;> intro h)|(apply wl <;> intro h))|(apply xy;first|apply yb|(apply xm;(iterate 4 exact rfl))|(apply yt;exact rfl;exact rfl;exact qn (by omega) (by omega))|(apply xo;(iterate 4 exact rfl);exact cAs;exact cAs)|(apply ka;(iterate 5 exact rfl))|(apply vp;exact rfl;exact rfl;exact cOs)|(apply kp;(iterate 3 exact rfl))|(apply j9;(iterate 5 exact rfl))|(apply jb;(iterate 4 exact rfl))|(apply ja;(iterate 3 exact rfl))|(apply yw;(iterate 3 exact rfl);exact cAs)|(apply xx;exact rfl;exact rfl)|(apply wy;exact rfl;exact rfl)|(apply wz;(iterate 3 exact rfl);omega)|(apply we;(iterate 3 exact rfl))|apply w9|apply vu|(apply yj;exact rfl;exact rfl;exact qn (by omega) (by omega))|(apply xw;(iterate 3 exact rfl))|(apply xp;(iterate 3 exact rfl);exact cAs)|(apply xl;(iterate 3 exact rfl);exact cAs)|(apply vf;exact rfl;exact rfl))|(apply vg;first|(apply qw;(iterate 3 exact rfl))|(apply jm;(iterate 3 exact rfl))|(apply jf;exact rfl;exact rfl;exact cOs)|(apply zp;exact rfl;exact rfl;exact qn (by omega) (by omega))|(apply kz;exact rfl;exact rfl;exact qn (by omega) (by omega))|(apply jc;exact rfl;exact rfl)|(apply jd;exact rfl;exact rfl)|(apply z7;exact rfl;exact rfl)|(apply jh;exact rfl;exact rfl)|(apply z4;(iterate 3 exact rfl))|(apply ji;(iterate 3 exact rfl))|(apply ve;exact rfl;exact rfl;(first|exact qi _|exact rfl);first|exact qi _|exact rfl)|(apply vb;exact rfl;exact rfl;(first|exact qi _|exact rfl);first|exact qi _|exact rfl)|(apply wd;exact rfl;exact rfl;(first|exact qi _|exact rfl);first|exact qi _|exact rfl)|(apply vc;(iterate 3 exact rfl))|(apply vd;(iterate 3 exact rfl)))|(apply wh;first|(apply zk;(iterate 3 exact rfl))|(apply jr;(iterate 5 exact rfl))|(apply zn;(iterate 5 exact rfl)))|(apply wi;first|(apply ko;exact rfl)|(apply jv;exact rfl)|(apply jx;exact rfl))|(apply vi;first|(apply vo;(iterate 3 exact rfl);exact cAs)|(apply vn;(iterate 3 exact rfl);exact cAs)|(apply va;(iterate 4 exact rfl);exact cAs;exact cAs)|(apply je;(iterate 4 exact rfl);(first|assumption|omega|exact Nat.succ_le_succ (Nat.zero_le _)|(simp;omega));exact rfl))|(apply wg;first|(apply zx;(iterate 3 exact rfl))|(apply zu;(iterate 4 exact rfl)))|(apply jl;first|(apply q5;(iterate 3 exact rfl))|(apply zg;(iterate 4 exact rfl)))|(apply vj;first|(apply jk;(iterate 11 exact rfl))|(apply zm;(iterate 11 exact rfl)))|(apply w8;first|apply qk|apply qo|apply qm|(apply zj;exact rfl;exact rfl)|(apply qf;exact rfl;apply xq;exact cAo)|(apply qf;exact rfl;apply x3;exact cAo)|(apply qf;exact rfl;apply qal;exact cRa)|(apply qf;exact rfl;apply qad;exact cRa)|(apply qf;exact rfl;apply pk_t;exact cRa)|(apply qf;exact rfl;apply pk_f;exact cRa)|(apply q9;exact rfl;exact rfl)|apply jg|(apply jj;exact rfl;exact rfl)|(apply vl;(iterate 4 exact rfl))|(apply kj;(iterate 3 exact rfl))|(apply j7;(iterate 3 exact rfl);exact cAs)|(apply ju;(iterate 3 exact rfl))|(apply zr;(iterate 9 exact rfl))|(apply zo;exact rfl;exact rfl)|(apply kf;(iterate 4 exact rfl);(first|assumption|omega|decide);exact rfl)|(apply z8;(iterate 4 exact rfl);first|assumption|omega|decide))|(apply qx;exact Tryz.call133;exact zcb _ _ (by omega) (by omega))|(apply qx;exact Tryz.call149;exact qyd _ _ _))
  all_goals refine qq rfl (zf rfl) ⟨congrArg Bv (?_:_=_),_,rfl⟩
  ·have e:qe8 r l↔qda r n:=by unfold qe8;rw [hz,if_pos (by assumption)];simp
   simp [e]
  ·refine (decide_eq_false fun h'=>?_).symm
   unfold qe8 at h'
   rw [hz,if_neg (by assumption)] at h'
   simp at h'
 ·simp only at hx
  repeat' (first|(apply w7;first|apply qr|apply ze|apply ql|(apply qc;exact rfl;apply wa;exact cAo)|(apply qc;exact rfl;apply wq;exact cAo)|(apply qc;exact rfl;apply yz;exact cRa)|(apply qc;exact rfl;apply qaa;exact cRa)|(apply qc;exact rfl;apply cd_n <;> intro h)|(apply qc;exact rfl;apply cd_t;exact cRa)|(apply qc;exact rfl;apply cd_f;exact cRa)|(apply qc;exact rfl;apply cd_d <;> intro h)|(apply qc;exact rfl;apply cd_s <;> intro h)|(apply w6;exact rfl;kernel_rfl)|apply q8|apply jq|apply zb)|(apply vh;first|(apply qv;(iterate 4 exact rfl))|(apply zt;(iterate 4 exact rfl)))|(apply xz;first|(apply v7;exact cAo)|(apply kg;exact cAo)|(apply j6;exact cAo)|(apply vz;exact cAo)|(apply vw;exact cRa)|(apply vv;exact cRa)|(apply vk;exact cRa)|(apply kq;exact cRa)|(apply kr <;> intro h)|(apply vr;exact cRa)|(apply wv;exact cRa)|(apply vq;exact cRa)|(apply ke;exact cRa)|(apply jo <;> intro h)|(apply wl <;> intro h))|(apply xy;first|apply yb|(apply xm;(iterate 4 exact rfl))|(apply yt;exact rfl;exact rfl;exact qn (by omega) (by omega))|(apply xo;(iterate 4 exact rfl);exact cAs;exact cAs)|(apply ka;(iterate 5 exact rfl))|(apply vp;exact rfl;exact rfl;exact cOs)|(apply kp;(iterate 3 exact rfl))|(apply j9;(iterate 5 exact rfl))|(apply jb;(iterate 4 exact rfl))|(apply ja;(iterate 3 exact rfl))|(apply yw;(iterate 3 exact rfl);exact cAs)|(apply xx;exact rfl;exact rfl)|(apply wy;exact rfl;exact rfl)|(apply wz;(iterate 3 exact rfl);omega)|(apply we;(iterate 3 exact rfl))|apply w9|apply vu|(apply yj;exact rfl;exact rfl;exact qn (by omega) (by omega))|(apply xw;(iterate 3 exact rfl))|(apply xp;(iterate 3 exact rfl);exact cAs)|(apply xl;(iterate 3 exact rfl);exact cAs)|(apply vf;exact rfl;exact rfl))|(apply vg;first|(apply qw;(iterate 3 exact rfl))|(apply jm;(iterate 3 exact rfl))|(apply jf;exact rfl;exact rfl;exact cOs)|(apply zp;exact rfl;exact rfl;exact qn (by omega) (by omega))|(apply kz;exact rfl;exact rfl;exact qn (by omega) (by omega))|(apply jc;exact rfl;exact rfl)|(apply jd;exact rfl;exact rfl)|(apply z7;exact rfl;exact rfl)|(apply jh;exact rfl;exact rfl)|(apply z4;(iterate 3 exact rfl))|(apply ji;(iterate 3 exact rfl))|(apply ve;exact rfl;exact rfl;(first|exact qi _|exact rfl);first|exact qi _|exact rfl)|(apply vb;exact rfl;exact rfl;(first|exact qi _|exact rfl);first|exact qi _|exact rfl)|(apply wd;exact rfl;exact rfl;(first|exact qi _|exact rfl);first|exact qi _|exact rfl)|(apply vc;(iterate 3 exact rfl))|(apply vd;(iterate 3 exact rfl)))|(apply wh;first|(apply zk;(iterate 3 exact rfl))|(apply jr;(iterate 5 exact rfl))|(apply zn;(iterate 5 exact rfl)))|(apply wi;first|(apply ko;exact rfl)|(apply jv;exact rfl)|(apply jx;exact rfl))|(apply vi;first|(apply vo;(iterate 3 exact rfl);exact cAs)|(apply vn;(iterate 3 exact rfl);exact cAs)|(apply va;(iterate 4 exact rfl);exact cAs;exact cAs)|(apply je;(iterate 4 exact rfl);(first|assumption|omega|exact Nat.succ_le_succ (Nat.zero_le _)|(simp;omega));exact rfl))|(apply wg;first|(apply zx;(iterate 3 exact rfl))|(apply zu;(iterate 4 exact rfl)))|(apply jl;first|(apply q5;(iterate 3 exact rfl))|(apply zg;(iterate 4 exact rfl)))|(apply vj;first|(apply jk;(iterate 11 exact rfl))|(apply zm;(iterate 11 exact rfl)))|(apply w8;first|apply qk|apply qo|apply qm|(apply zj;exact rfl;exact rfl)|(apply qf;exact rfl;apply xq;exact cAo)|(apply qf;exact rfl;apply x3;exact cAo)|(apply qf;exact rfl;apply qal;exact cRa)|(apply qf;exact rfl;apply qad;exact cRa)|(apply qf;exact rfl;apply pk_t;exact cRa)|(apply qf;exact rfl;apply pk_f;exact cRa)|(apply q9;exact rfl;exact rfl)|apply jg|(apply jj;exact rfl;exact rfl)|(apply vl;(iterate 4 exact rfl))|(apply kj;(iterate 3 exact rfl))|(apply j7;(iterate 3 exact rfl);exact cAs)|(apply ju;(iterate 3 exact rfl))|(apply zr;(iterate 9 exact rfl))|(apply zo;exact rfl;exact rfl)|(apply kf;(iterate 4 exact rfl);(first|assumption|omega|decide);exact rfl)|(apply z8;(iterate 4 exact rfl);first|assumption|omega|decide)))
  refine qq rfl (zf rfl) ⟨congrArg Bv (?_:_=_),_,rfl⟩
  refine (decide_eq_false fun ⟨m,h1,_⟩=>?_).symm
  unfold numZ at h1
  split at h1
  ·rename_i v hv;exact hx v hv
  ·simp at h1
def y5 (r:zz) (f:FldV):Prop:=
 (r.kind=3→f.1=r.key→qe8 r f.2)∧(r.kind=4→f.1=r.key→f.2∈yp r.text)∧(r.kind=5→f.1=r.key→qda r f.2.length)∧(r.kind=6→f.1∈yp r.text)
instance (r:zz) (f:FldV):Decidable (y5 r f):=inferInstanceAs (Decidable (_∧_∧_∧_))
theorem zbb (r:zz) (f:FldV) (st:List AObj) (h1:r.text.length<4294967281) (h2:f.2.length<4294967281):qp E 86 [wu r,fldA f] st fun x st'=>x=Bv (decide (y5 r f))∧st'=st:=by
 refine zi (qy _) (qt Tryz.func86 rfl (Nat.le_of_ble_eq_true rfl) ?_)
 repeat' (first|(apply w7;first|apply qr|apply ze|apply ql|(apply qc;exact rfl;apply wa;exact cAo)|(apply qc;exact rfl;apply wq;exact cAo)|(apply qc;exact rfl;apply yz;exact cRa)|(apply qc;exact rfl;apply qaa;exact cRa)|(apply qc;exact rfl;apply cd_n <;> intro h)|(apply qc;exact rfl;apply cd_t;exact cRa)|(apply qc;exact rfl;apply cd_f;exact cRa)|(apply qc;exact rfl;apply cd_d <;> intro h)|(apply qc;exact rfl;apply cd_s <;> intro h)|(apply w6;exact rfl;kernel_rfl)|apply q8|apply jq|apply zb)|(apply vh;first|(apply qv;(iterate 4 exact rfl))|(apply zt;(iterate 4 exact rfl)))|(apply xz;first|(apply v7;exact cAo)|(apply kg;exact cAo)|(apply j6;exact cAo)|(apply vz;exact cAo)|(apply vw;exact cRa)|(apply vv;exact cRa)|(apply vk;exact cRa)|(apply kq;exact cRa)|(apply kr <;> intro h)|(apply vr;exact cRa)|(apply wv;exact cRa)|(apply vq;exact cRa)|(apply ke;exact cRa)|(apply jo <;> intro h)|(apply wl <;> intro h))|(apply xy;first|apply yb|(apply xm;(iterate 4 exact rfl))|(apply yt;exact rfl;exact rfl;exact qn (by omega) (by omega))|(apply xo;(iterate 4 exact rfl);exact cAs;exact cAs)|(apply ka;(iterate 5 exact rfl))|(apply vp;exact rfl;exact rfl;exact cOs)|(apply kp;(iterate 3 exact rfl))|(apply j9;(iterate 5 exact rfl))|(apply jb;(iterate 4 exact rfl))|(apply ja;(iterate 3 exact rfl))|(apply yw;(iterate 3 exact rfl);exact cAs)|(apply xx;exact rfl;exact rfl)|(apply wy;exact rfl;exact rfl)|(apply wz;(iterate 3 exact rfl);omega)|(apply we;(iterate 3 exact rfl))|apply w9|apply vu|(apply yj;exact rfl;exact rfl;exact qn (by omega) (by omega))|(apply xw;(iterate 3 exact rfl))|(apply xp;(iterate 3 exact rfl);exact cAs)|(apply xl;(iterate 3 exact rfl);exact cAs)|(apply vf;exact rfl;exact rfl))|(apply vg;first|(apply qw;(iterate 3 exact rfl))|(apply jm;(iterate 3 exact rfl))|(apply jf;exact rfl;exact rfl;exact cOs)|(apply zp;exact rfl;exact rfl;exact qn (by omega) (by omega))|(apply kz;exact rfl;exact rfl;exact qn (by omega) (by omega))|(apply jc;exact rfl;exact rfl)|(apply jd;exact rfl;exact rfl)|(apply z7;exact rfl;exact rfl)|(apply jh;exact rfl;exact rfl)|(apply z4;(iterate 3 exact rfl))|(apply ji;(iterate 3 exact rfl))|(apply ve;exact rfl;exact rfl;(first|exact qi _|exact rfl);first|exact qi _|exact rfl)|(apply vb;exact rfl;exact rfl;(first|exact qi _|exact rfl);first|exact qi _|exact rfl)|(apply wd;exact rfl;exact rfl;(first|exact qi _|exact rfl);first|exact qi _|exact rfl)|(apply vc;(iterate 3 exact rfl))|(apply vd;(iterate 3 exact rfl)))|(apply wh;first|(apply zk;(iterate 3 exact rfl))|(apply jr;(iterate 5 exact rfl))|(apply zn;(iterate 5 exact rfl)))|(apply wi;first|(apply ko;exact rfl)|(apply jv;exact rfl)|(apply jx;exact rfl))|(apply vi;first|(apply vo;(iterate 3 exact rfl);exact cAs)|(apply vn;(iterate 3 exact rfl);exact cAs)|(apply va;(iterate 4 exact rfl);exact cAs;exact cAs)|(apply je;(iterate 4 exact rfl);(first|assumption|omega|exact Nat.succ_le_succ (Nat.zero_le _)|(simp;omega));exact rfl))|(apply wg;first|(apply zx;(iterate 3 exact rfl))|(apply zu;(iterate 4 exact rfl)))|(apply jl;first|(apply q5;(iterate 3 exact rfl))|(apply zg;(iterate 4 exact rfl)))|(apply vj;first|(apply jk;(iterate 11 exact rfl))|(apply zm;(iterate 11 exact rfl)))|(apply w8;first|apply qk|apply qo|apply qm|(apply zj;exact rfl;exact rfl)|(apply qf;exact rfl;apply xq;exact cAo)|(apply qf;exact rfl;apply x3;exact cAo)|(apply qf;exact rfl;apply qal;exact cRa)|(apply qf;exact rfl;apply qad;exact cRa)|(apply qf;exact rfl;apply pk_t;exact cRa)|(apply qf;exact rfl;apply pk_f;exact cRa)|(apply q9;exact rfl;exact rfl)|apply jg|(apply jj;exact rfl;exact rfl)|(apply vl;(iterate 4 exact rfl))|(apply kj;(iterate 3 exact rfl))|(apply j7;(iterate 3 exact rfl);exact cAs)|(apply ju;(iterate 3 exact rfl))|(apply zr;(iterate 9 exact rfl))|(apply zo;exact rfl;exact rfl)|(apply kf;(iterate 4 exact rfl);(first|assumption|omega|decide);exact rfl)|(apply z8;(iterate 4 exact rfl);first|assumption|omega|decide))|(apply qx;exact Tryz.call148;exact q89 _ _ _ h1)|(apply qx;exact Tryz.call147;exact q4s r _ _ h2)|(apply qx;exact Tryz.call149;exact qyd r _ _))
 all_goals refine qq rfl (zf rfl) ⟨congrArg Bv (?_:_=_),_,rfl⟩
 all_goals simp_all [y5]
end Go.Proofs.YtneejjefekdgjaaGreatDoor
