/- Contracts and plain facts that the closing text leans on (part 2). No condition of their own beyond those that each states. -/
import Derived.Test.YtneejjefekdgjaaGreatDoorK1
import Derived.Lib.Builder
import Derived.Laws.Pointers
import Derived.Laws.Externs
import Derived.Laws.Tables
import Derived.Test.YtneejjefekdgjaaGreatDoorK0
import Derived.Test.YtneejjefekdgjaaGreatDoorRows
import Derived.LaidHandle
import Derived.ProofKit
import Derived.OpenShut
import Derived.ShutString
import Derived.Deep.DeepHandedRow
import Derived.Deep.DeepWitnessRowRef
import Derived.Lib.LaidU8
import Derived.Lib.SmallJoins
import Derived.ChangeSame
import Derived.ChangeAgain
import Derived.Lay
import Derived.Lib.Index
import Derived.Lib.SlTrimSet
import Derived.Shelf.Strings.Prefix
import Derived.Shelf.Strings.Cut
import Derived.Lib.ItoaNum
import Derived.Lib.AtoiAll
import Derived.Lib.Repeat
set_option maxRecDepth 100000
set_option linter.unusedVariables false
set_option linter.unusedSimpArgs false
namespace Go.Av
open Go Go.RowKit
section
variable {E : Env} {rd : Option Nat} {N : Nat} {ops : Array Oper} {K : AS → Prop} {s : AS} {rest : List Oper} {d : Option Tmp} {T : TypeId} {p : String} {af : Array Edge}
def q86:AV→Bool
 | .bx _ _ _=>true
 | .pp _=>true
 | _=>false
theorem wv {x:Operand} {r:AV} (hx:qe N s x=r) (hr:q86 r=true) (h:AOps E rd N ops rest K (s.put d r)):AOps E rd N ops (⟨d,.nilCheck x,T,p,af,none⟩::rest) K s:=by
 refine qy rfl (qw nofun fun B0 w0 G a w _ hI=>?_)
 have he:=hI.eval_of hx
 have key:∃ q,a.eval x = .pointer (some q):=by
  generalize a.eval x=u at he
  cases he <;> simp [q86] at hr
  ·exact⟨_,rfl⟩
  ·exact⟨_,rfl⟩
 obtain⟨q,hv⟩:=key
 refine⟨_,w,G,r,s.st,?_,.refl G,hI.agree,hv▸he,h⟩
 generalize a.eval = ρ at hv
 simp [execOp,hv]
end
section
variable {B0 : Nat} {w0 : World} {G : Gh} {st : List AObj} {w : World}
theorem q7.refroze (h:q7 B0 w0 G st w) {w':World} {g:Nat} {c:Array Value} {T:TypeId} {fz fz':Nat×Nat} (hg:w.heap[g]? = some (.cells c T fz)) (hg':w'.heap[g]? = some (.cells c T fz')) (ho:∀ k,k≠g→w'.heap[k]? = w.heap[k]?) (hB:B0≤g)
  (hsz:w'.heap.size=w.heap.size) (hos:w'.os=w.os) (htape:w'.tape=w.tape) (hout:w'.output=w.output) (hs:∀ o x,st[o]? = some x→x.live→(G.ob o).blk≠g):q7 B0 w0 G st w':=by
 refine⟨h.below.trans ⟨hos,htape,hout,by omega,fun k hk=>ho k (by omega)⟩,by rw [hsz];exact h.hB,h.n,fun b vs hb=>?_,fun o x hx=>(h.ob o x hx).mono (.refl G) rfl (fun _=>rfl) (fun hl=>ho _ (hs o x hx hl)),h.sep⟩
 by_cases e:b=g
 ·subst e
  obtain⟨c2,T2,fz2,e1,e2⟩:=h.pub b vs hb
  rw [hg] at e1
  simp only [Option.some.injEq,Obj.cells.injEq] at e1
  exact⟨c,T,fz',hg',by rw [e1.1];exact e2⟩
 ·rw [ho b e]
  exact h.pub b vs hb
theorem q7.tipCell (h:q7 B0 w0 G st w) {o ver j sz:Nat} {T T':TypeId} {cs:List AV} (ho:st[o]? = some (.cells ver T cs)) (hj:cs[j]? = some zl) :
  q7 B0 w0 (G.new 0 0 0 false) (st.set o (.cells ver T (cs.set j (.sl sz [] (some st.length))))++[AObj.tip 0 sz T']) w:=by
 have h1:=h.newTip sz T'
 have hle:=G.le_new 0 0 0 false
 have hlt:=lt_of_getElem? ho
 have e:st.set o (.cells ver T (cs.set j (.sl sz [] (some st.length))))++[AObj.tip 0 sz T']=(st++[AObj.tip 0 sz T']).set o (.cells ver T (cs.set j (.sl sz [] (some st.length)))):=by
  rw [List.set_append_left _ _ hlt]
 rw [e]
 have ho':(st++[AObj.tip 0 sz T'])[o]? = some (.cells ver T cs):=by rw [List.getElem?_append_left hlt];exact ho
 generalize hG:G.new 0 0 0 false=G' at h1 hle
 have hn:st.length<G'.n:=by rw [h1.n];simp
 refine⟨h1.below,h1.hB,by simp [h1.n],h1.pub,fun k x hx=>?_,fun k k' x x' hne hx hx' hl hl'=>?_⟩
 ·rcases getElem?_set' _ _ _ _ _ hx with⟨rfl,rfl⟩ | ⟨hne,hx⟩
  ·obtain⟨g0,g1,g2,g3,c,g4,g5,g6⟩:=h1.ob k _ ho'
   refine⟨g0,g1,g2,g3,c,g4,by simpa using g5,fun i x y hx hy=>?_⟩
   rcases getElem?_set' _ _ _ _ _ hx with⟨rfl,rfl⟩ | ⟨_,hx⟩
   ·have:=g6 i _ y hj hy
    cases this
    exact .sl0 sz (some st.length) none 0 fun t ht=>by simp at ht;subst ht;exact⟨hn,rfl,rfl⟩
   ·exact g6 i x y hx hy
  ·exact h1.ob k x hx
 ·have key:∀ (k:Nat) (x:AObj),((st++[AObj.tip 0 sz T']).set o (.cells ver T (cs.set j (.sl sz [] (some st.length)))))[k]? = some x→∃ x0:AObj,(st++[AObj.tip 0 sz T'])[k]? = some x0∧(x.live→x0.live):=fun k x hx=>by
   rcases getElem?_set' _ _ _ _ _ hx with⟨rfl,rfl⟩ | ⟨_,hx⟩
   ·exact⟨_,ho',fun _=>trivial⟩
   ·exact⟨x,hx,id⟩
  obtain⟨x0,e1,e2⟩:=key k x hx
  obtain⟨x1,e3,e4⟩:=key k' x' hx'
  exact h1.sep k k' x0 x1 hne e1 e3 (e2 hl) (e4 hl')
end
section
variable {E : Env} {rd : Option Nat} {N : Nat} {ops : Array Oper} {K : AS → Prop} {s : AS} {rest : List Oper} {d : Option Tmp} {T : TypeId} {p : String} {af : Array Edge}
def qan:AV→Option Bool
 | .bx _ _ _=>some false
 | .pp _=>some false
 | .v (.pointer none)=>some true
 | _=>none
theorem qa9 {x:Operand} {t t' te:TypeId} {r:AV} {b:Bool} (hx:qe N s x=r) (hr:qan r=some b) (hu:E.P.underlying t=some (.pointer te)) (h:AOps E rd N ops rest K (s.put d (Bv b))):AOps E rd N ops (⟨d,.binOp .eql t x (.const (.pointer none)) t',T,p,af,none⟩::rest) K s:=by
 refine qy rfl (qw nofun fun B0 w0 G a w _ hI=>?_)
 have he:=hI.eval_of hx
 have key:∃ q:Option Addr,a.eval x = .pointer q∧q.isNone=b:=by
  generalize a.eval x=u at he
  cases he <;> try (simp [qan] at hr;done)
  case v=>
   cases u <;> try (simp [qan] at hr;done)
   case pointer q=>
    cases q <;> simp [qan] at hr
    subst hr
    exact⟨_,rfl,rfl⟩
  case pp=>simp [qan] at hr;subst hr;exact⟨_,rfl,rfl⟩
  case bx=>simp [qan] at hr;subst hr;exact⟨_,rfl,rfl⟩
 obtain⟨q,hv,rfl⟩:=key
 have hc:a.eval (.const (.pointer none)) = .pointer none:=rfl
 have hq:=run_eql_pointer_nil (P:=E.P) w t q (by simp [Program.pointee,hu])
 refine⟨_,w,G,_,s.st,?_,.refl G,hI.agree,.v _,h⟩
 generalize a.eval = ρ at hv hc
 simp [execOp,hv,hc,eqGuard_at_pointer,hq]
theorem qkg {x:Operand} {t t' te:TypeId} {r:AV} {b:Bool} (hx:qe N s x=r) (hr:qan r=some b) (hu:E.P.underlying t=some (.pointer te)) (h:AOps E rd N ops rest K (s.put d (Bv !b))):AOps E rd N ops (⟨d,.binOp .neq t x (.const (.pointer none)) t',T,p,af,none⟩::rest) K s:=by
 refine qy rfl (qw nofun fun B0 w0 G a w _ hI=>?_)
 have he:=hI.eval_of hx
 have key:∃ q:Option Addr,a.eval x = .pointer q∧q.isNone=b:=by
  generalize a.eval x=u at he
  cases he <;> try (simp [qan] at hr;done)
  case v=>
   cases u <;> try (simp [qan] at hr;done)
   case pointer q=>
    cases q <;> simp [qan] at hr
    subst hr
    exact⟨_,rfl,rfl⟩
  case pp=>simp [qan] at hr;subst hr;exact⟨_,rfl,rfl⟩
  case bx=>simp [qan] at hr;subst hr;exact⟨_,rfl,rfl⟩
 obtain⟨q,hv,rfl⟩:=key
 have hc:a.eval (.const (.pointer none)) = .pointer none:=rfl
 have hq:=run_neq_pointer_nil (P:=E.P) w t q (by simp [Program.pointee,hu])
 refine⟨_,w,G,_,s.st,?_,.refl G,hI.agree,.v _,h⟩
 generalize a.eval = ρ at hv hc
 simp [execOp,hv,hc,eqGuard_at_pointer,hq]
theorem Inv.ptr {B0:Nat} {w0:World} {G:Gh} {a:Act} {w:World} (hI:Inv B0 w0 N G s a w) {x:Operand} {o ver off:Nat} {T1:TypeId} {cs:List AV} (hx:qe N s x = .bx o ver off) (ho:s.st[o]? = some (.cells ver T1 cs)):a.eval x = .pointer (some ⟨(G.ob o).blk,off,none⟩):=by
 have he:=hI.eval_of hx
 obtain⟨_,h1,_⟩:=hI.agree.ob o _ ho
 generalize a.eval x=v at he
 cases he with
 |bx _ _ _ b hn hv hb=>rw [hb h1]
theorem qrb {x y:Operand} {t t' te:TypeId} {o ver off:Nat} {T1:TypeId} {cs:List AV} (hx:qe N s x = .bx o ver off) (hy:qe N s y = .bx o ver off) (ho:s.st[o]? = some (.cells ver T1 cs)) (hu:E.P.underlying t=some (.pointer te)) (hi:(E.P.info? te).isSome=true)
  (h:AOps E rd N ops rest K (s.put d (Bv false))):AOps E rd N ops (⟨d,.binOp .neq t x y t',T,p,af,none⟩::rest) K s:=by
 refine qy rfl (qw nofun fun B0 w0 G a w _ hI=>?_)
 obtain⟨j,hj⟩:=Option.isSome_iff_exists.1 hi
 have h1:=hI.ptr hx ho
 have h2:=hI.ptr hy ho
 have hq:=Lib.run_neq_ptr_same (P:=E.P) w ⟨(G.ob o).blk,off,none⟩ hu hj
 refine⟨_,w,G,_,s.st,?_,.refl G,hI.agree,.v _,h⟩
 generalize a.eval = ρ at h1 h2
 simp [execOp,h1,h2,eqGuard_at_pointer,hq]
theorem qtz {x:Operand} {t t' te:TypeId} {o ver:Nat} {T1:TypeId} {cs:List AV} (hx:qe N s x = .bx o ver 0) (ho:s.st[o]? = some (.cells ver T1 cs)) (hne:0<cs.length) (hs:E.P.underlying t=some (.pointer te)) (hd:E.P.underlying t'=some .unsafePointer) (hi:(match E.P.info? te with|some j=>Nat.beq j.size 0|none=>true)=false)
  (h:AOps E rd N ops rest K (s.put d (.bx o ver 0))):AOps E rd N ops (⟨d,.convert t t' x,T,p,af,none⟩::rest) K s:=by
 refine qy rfl (qw nofun fun B0 w0 G a w _ hI=>?_)
 obtain⟨_,h1,h2,h3,c,h4,h5,h6⟩:=hI.agree.ob o _ ho
 have he:=hI.eval_of hx
 have hv:=hI.ptr hx ho
 cases hj:E.P.info? te with
 |none=>rw [hj] at hi;simp at hi
 |some j=>
  rw [hj] at hi
  have hj0:j.size≠0:=fun e=>by simp [e] at hi
  have hq:=Lib.run_to_unsafe (P:=E.P) w ⟨(G.ob o).blk,0,none⟩ hs hd hj hj0 (e:=T1) (cells:=c.size) (by simp [World.shape?,h4]) (by simpa [← h5] using hne)
  refine⟨_,w,G,_,s.st,?_,.refl G,hI.agree,hv▸he,h⟩
  generalize a.eval = ρ at hv
  simp [execOp,hv,hq]
theorem qo4 {x:Operand} {t t' te:TypeId} {o ver:Nat} {T1:TypeId} {cs:List AV} (hx:qe N s x = .bx o ver 0) (ho:s.st[o]? = some (.cells ver T1 cs)) (hs:E.P.underlying t=some .unsafePointer) (hd:E.P.underlying t'=some (.pointer te)) (hi:(E.P.info? te).isSome=true) (hl:liesAt E.P E.P.depth T1 (cs.length / E.P.cellsOf T1) 0 te 1=true)
  (h:AOps E rd N ops rest K (s.put d (.bx o ver 0))):AOps E rd N ops (⟨d,.convert t t' x,T,p,af,none⟩::rest) K s:=by
 refine qy rfl (qw nofun fun B0 w0 G a w _ hI=>?_)
 obtain⟨_,h1,h2,h3,c,h4,h5,h6⟩:=hI.agree.ob o _ ho
 obtain⟨j,hj⟩:=Option.isSome_iff_exists.1 hi
 have he:=hI.eval_of hx
 have hv:=hI.ptr hx ho
 have hq:=Lib.run_from_unsafe (P:=E.P) w ⟨(G.ob o).blk,0,none⟩ hs hd hj (e:=T1) (cells:=c.size) (by simp [World.shape?,h4]) (by rw [← h5];exact hl)
 refine⟨_,w,G,_,s.st,?_,.refl G,hI.agree,hv▸he,h⟩
 generalize a.eval = ρ at hv
 simp [execOp,hv,hq]
theorem qtx {f:FuncId} {x:Operand} {ts:Array TypeId} {r:AV} (hrun:∀ v w,(callFunc f #[v]).run E.P w = .ok (.value v) w) (hx:qe N s x=r)
  (h:AOps E rd N ops rest K (s.put d r)):AOps E rd N ops (⟨d,.call ⟨.value (.func f),#[x],ts⟩,T,p,af,none⟩::rest) K s:=by
 refine qy rfl (qw nofun fun B0 w0 G a w _ hI=>?_)
 refine⟨a.eval x,w,G,_,s.st,?_,.refl G,hI.agree,hI.eval_of hx,h⟩
 have he:a.eval (.func f) = .func (.func f) #[] #[]:=rfl
 generalize a.eval = ρ at he
 simp [execOp,resolve,Deferred.ofValue,he,invoke,hrun]
theorem Inv.restate {B0:Nat} {w0:World} {G G':Gh} {a:Act} {w:World} {st':List AObj} (h:Inv B0 w0 N G s a w) (hG:G.le G') (hA:q7 B0 w0 G' st' w):Inv B0 w0 N G' ⟨s.t,st',s.df⟩ a w:=
 ⟨hA,h.defers_mono hG,h.size,fun i y hy=>(h.tmps i y hy).mono hG⟩
theorem qu0 {o ver j sz:Nat} {T1 T':TypeId} {cs:List AV} {l:List Oper} (ho:s.st[o]? = some (.cells ver T1 cs)) (hj:cs[j]? = some zl)
  (h:AOps E rd N ops l K ⟨s.t,s.st.set o (.cells ver T1 (cs.set j (.sl sz [] (some s.st.length))))++[AObj.tip 0 sz T'],s.df⟩):AOps E rd N ops l K s:=
 ⟨fun B0 w0 G a w hL hI Q hQ=>h.run B0 w0 _ a w hL (hI.restate (G.le_new 0 0 0 false) (hI.agree.tipCell ho hj)) Q fun G' s' a' w' hG=>hQ G' s' a' w' ((G.le_new 0 0 0 false).trans hG)⟩
theorem qmz {o ver j sz:Nat} {T1 T':TypeId} {cs:List AV} {c:Code} {Q:Exit→AS→Prop} (ho:s.st[o]? = some (.cells ver T1 cs)) (hj:cs[j]? = some zl)
  (h:AWp E rd N c Q ⟨s.t,s.st.set o (.cells ver T1 (cs.set j (.sl sz [] (some s.st.length))))++[AObj.tip 0 sz T'],s.df⟩):AWp E rd N c Q s:=
 ⟨fun B0 w0 G a w hL hI=>wpIn_mono (h.run B0 w0 _ a w hL (hI.restate (G.le_new 0 0 0 false) (hI.agree.tipCell ho hj))) fun _ _ _ ⟨G',s',hG,h1,h2⟩=>⟨G',s',(G.le_new 0 0 0 false).trans hG,h1,h2⟩⟩
theorem Inv.newTip {B0:Nat} {w0:World} {G:Gh} {a:Act} {w:World} (h:Inv B0 w0 N G s a w) {i sz:Nat} {T':TypeId} (hi:s.t i=zl):Inv B0 w0 N (G.new 0 0 0 false) ⟨Av.put s.t i (.sl sz [] (some s.st.length)),s.st++[AObj.tip 0 sz T'],s.df⟩ a w:=by
 have hA:=h.agree.newTip sz T'
 have h2:=h.restate (G.le_new 0 0 0 false) hA
 refine⟨h2.agree,h2.defers,h2.size,fun k y hy=>?_⟩
 by_cases e:k=i
 ·subst e
  show Rel _ (Av.put s.t k _ k) y
  rw [wl]
  have:=h2.tmps k y hy
  simp only [hi] at this
  cases this
  exact .sl0 sz _ none 0 fun t ht=>by simp at ht;subst ht;exact⟨by rw [hA.n];simp,rfl,rfl⟩
 ·show Rel _ (Av.put s.t i _ k) y
  rw [yg _ _ _ _ e]
  exact h2.tmps k y hy
end
end Go.Av
namespace Go.Av
open Go Go.RowKit
theorem qvz:∀ (vs:List Value) (off n:Nat) (c:Array Value),off+n+vs.length≤c.size →
  ((vs.zipIdx n).foldl (fun (cs:Array Value) (x:Value×Nat)=>cs.setIfInBounds (off+x.2) x.1) c).size=c.size ∧
  ∀ k,((vs.zipIdx n).foldl (fun (cs:Array Value) (x:Value×Nat)=>cs.setIfInBounds (off+x.2) x.1) c)[k]? = if off+n≤k∧k<off+n+vs.length then vs[k - (off+n)]? else c[k]?
 | [],off,n,c,_=>⟨by simp,fun k=>by simp;intro h1 h2;omega⟩
 |v::vs,off,n,c,h=>by
  simp only [List.zipIdx_cons,List.foldl_cons,List.length_cons] at h ⊢
  obtain⟨h1,h2⟩:=qvz vs off (n+1) (c.setIfInBounds (off+n) v) (by simp;omega)
  refine⟨by rw [h1];simp,fun k=>?_⟩
  rw [h2 k]
  by_cases hk:k=off+n
  ·subst hk
   rw [if_neg (by omega),if_pos (by omega),Array.getElem?_setIfInBounds_self,if_pos (by omega)]
   simp
  ·by_cases hr:off+n≤k∧k<off+n+(vs.length+1)
   ·rw [if_pos (by omega),if_pos hr]
    rw [show k - (off+n)=(k - (off+(n+1)))+1 by omega]
    simp
   ·rw [if_neg (by omega),if_neg hr]
    rw [Array.getElem?_setIfInBounds,if_neg (by omega)]
def qa2 (place:Nat→Option (Nat×Nat)) (cells:List AV):List (Nat×AV)→Option (List AV)
 | []=>some cells
 |(i,x)::rest=>
  match place i with
  |none=>none
  |some (off,size)=>bif x.okc && Nat.beq x.cells.length size && Nat.ble (off+size) cells.length then qa2 place (zp cells off x.cells) rest else none
theorem qgt {G:Gh} (place:Nat→Option (Nat×Nat)):∀ (ps:List (Nat×AV)) (vs:List (Nat×Value)) (cs:List AV) (c:Array Value) (cs':List AV),ps.length=vs.length→(∀ (i:Nat) (p:Nat×AV) (v:Nat×Value),ps[i]? = some p→vs[i]? = some v→p.1=v.1∧Rel G p.2 v.2) →
  RelC G cs c→qa2 place cs ps=some cs'→∃ c',Instr.fill place c vs=some c'∧RelC G cs' c'
 | [],[],cs,c,cs',_,_,hc,h=>by
  simp only [qa2,Option.some.injEq] at h
  subst h
  exact⟨c,rfl,hc⟩
 | [],v::vs,_,_,_,hl,_,_,_=>by simp at hl
 |p::ps,[],_,_,_,hl,_,_,_=>by simp at hl
 |(i,x)::ps,(j,v)::vs,cs,c,cs',hl,hr,hc,h=>by
  obtain⟨e,hx⟩:=hr 0 _ _ rfl rfl
  simp only at e hx
  subst e
  simp only [qa2] at h
  simp only [Instr.fill]
  cases hp:place i with
  |none=>simp [hp] at h
  |some q=>
   obtain⟨off,size⟩:=q
   simp only [hp] at h ⊢
   cases hb:(x.okc && Nat.beq x.cells.length size && Nat.ble (off+size) cs.length) with
   |false=>simp [hb] at h
   |true=>
    simp only [hb,cond_true] at h
    simp only [Bool.and_eq_true] at hb
    obtain⟨⟨hok,hsz⟩,hle⟩:=hb
    have hsz:=Nat.eq_of_beq_eq_true hsz
    have hle:=Nat.le_of_ble_eq_true hle
    have hcx:=hx.cells hok
    have hcs:v.cells.size=size:=by rw [← hcx.1];exact hsz
    have hfit:off+v.cells.size≤c.size:=by rw [hcs,← hc.1];exact hle
    rw [if_neg (by simp [hcs];rw [← hc.1];exact hle)]
    have hfold:v.cells.zipIdx.foldl (fun cs (x:Value×Nat)=>cs.setIfInBounds (off+x.2) x.1) c=(v.cells.toList.zipIdx 0).foldl (fun (cs:Array Value) (x:Value×Nat)=>cs.setIfInBounds (off+x.2) x.1) c:=by
     rw [← Array.foldl_toList,Array.toList_zipIdx]
    obtain⟨g1,g2⟩:=qvz v.cells.toList off 0 c (by simpa using hfit)
    have hnew:RelC G (zp cs off x.cells) ((v.cells.toList.zipIdx 0).foldl (fun (cs:Array Value) (x:Value×Nat)=>cs.setIfInBounds (off+x.2) x.1) c):=by
     refine⟨?_,fun k a y h1 h2=>?_⟩
     ·rw [g1,← hc.1]
      simp [zp]
      omega
     ·rw [g2] at h2
      have e1:(cs.take off).length=off:=by simp;omega
      simp only [zp,List.append_assoc] at h1
      by_cases hk:k<off
      ·rw [List.getElem?_append_left (by omega),List.getElem?_take,if_pos hk] at h1
       rw [if_neg (by omega)] at h2
       exact hc.2 k a y h1 h2
      ·rw [List.getElem?_append_right (by omega),e1] at h1
       by_cases hk2:k - off<x.cells.length
       ·rw [List.getElem?_append_left hk2] at h1
        rw [if_pos ⟨by omega,by simp;omega⟩] at h2
        exact hcx.2 (k - off) a y h1 (by simpa using h2)
       ·rw [List.getElem?_append_right (by omega),List.getElem?_drop] at h1
        rw [if_neg (by simp;omega)] at h2
        rw [show off+x.cells.length+(k - off - x.cells.length)=k by omega] at h1
        exact hc.2 k a y h1 h2
    have:=qgt place ps vs _ _ cs' (by simpa using hl) (fun i p v h1 h2=>hr (i+1) p v (by simpa using h1) (by simpa using h2)) hnew h
    rw [← hfold] at this
    exact this
section
variable {E : Env} {rd : Option Nat} {N : Nat} {ops : Array Oper} {K : AS → Prop} {s : AS} {rest : List Oper} {d : Option Tmp} {T : TypeId} {p : String} {af : Array Edge}
def vf (N:Nat) (s:AS) (parts:Array (Nat×Operand)):List (Nat×AV):=parts.toList.map fun x=>(x.1,qe N s x.2)
def qrw (P:Program) (t:TypeId):Option (List (Nat×Nat)):=
 match P.underlying t with
 |some (.struct fs)=>fs.toList.mapM (fun f=>(P.info? f.type).map fun i=>(f.offset,i.size))
 | _=>none
theorem qh3 {B0:Nat} {w0:World} {G:Gh} {a:Act} {w:World} (hI:Inv B0 w0 N G s a w) (parts:Array (Nat×Operand)):∀ (i:Nat) (p:Nat×AV) (v:Nat×Value),(vf N s parts)[i]? = some p→(parts.toList.map fun x=>(x.1,a.eval x.2))[i]? = some v→p.1=v.1∧Rel G p.2 v.2:=fun i p v h1 h2=>by
 simp only [vf,List.getElem?_map] at h1 h2
 cases hq:parts.toList[i]? with
 |none=>simp [hq] at h1
 |some z=>simp [hq] at h1 h2;subst h1;subst h2;exact⟨rfl,hI.eval _⟩
theorem x2 {t:TypeId} {parts:Array (Nat×Operand)} {zs cs:List AV} {pl:List (Nat×Nat)} (hz:qgg E.P t=some zs) (hp:qrw E.P t=some pl) (hf:qa2 (pl[·]?) zs (vf N s parts)=some cs)
  (h:AOps E rd N ops rest K (s.put d (.ag cs))):AOps E rd N ops (⟨d,.build t parts,T,p,af,none⟩::rest) K s:=by
 refine qy rfl (qw nofun fun B0 w0 G a w _ hI=>?_)
 obtain⟨z,hrun,hr⟩:=ql8 hz w
 obtain⟨c',h1,h2⟩:=qgt (pl[·]?) (vf N s parts) (parts.toList.map fun x=>(x.1,a.eval x.2)) zs z.cells cs (by simp [vf]) (qh3 hI parts) (hr G) hf
 unfold qrw at hp
 split at hp
 ·rename_i fs hu
  refine⟨.agg c',w,G,.ag cs,s.st,?_,.refl G,hI.agree,.ag _ _ h2.1 h2.2,h⟩
  generalize a.eval = ρ at h1
  simp [execOp,Instr.build,run_underlying hu,hrun,Array.mapM_eq_mapM_toList,run_places w _ _ hp,h1]
 ·simp at hp
def qd7 (P:Program) (e:TypeId) (n:Nat):Option (List AV):=
 match P.info? e with
 |some i=>bif Nat.beq (n * i.size) 0 then some [] else i.zero.map fun z=>(List.range (n * i.size)).map fun k=>.v (z.cells[k % z.cells.size]!)
 |none=>none
theorem qio {B0:Nat} {w0:World} {G:Gh} {a:Act} {w:World} (hI:Inv B0 w0 N G s a w) {t e:TypeId} {len sz:Nat} {agg:Bool} {parts:Array (Nat×Operand)} {zs cs:List AV} (hu:E.P.underlying t=some (.slice e)) (ht:tyOf E.P e=some (sz,agg)) (hz:qd7 E.P e len=some zs)
  (hf:qa2 (fun i=>some (i * sz,sz)) zs (vf N s parts)=some cs) (hsz:Nat.ble (len * sz) 16777216=true) :
  ∃ c':Array Value,(execOp a.eval ⟨d,.buildSlice t len parts,T,p,af,none⟩).run E.P w = .ok (.value (.slice (some ⟨w.heap.size,0,none⟩) len len)) (w.alloc (.cells c' e))∧RelC G cs c':=by
 have hsizeOf:=(ko ht w).1
 have hsz:=Nat.le_of_ble_eq_true hsz
 unfold qd7 at hz
 cases hi:E.P.info? e with
 |none=>rw [hi] at hz;simp at hz
 |some i=>
  rw [hi] at hz
  simp only at hz
  have hs:i.size=sz:=by simpa [sizeOf,typeInfo,hi] using hsizeOf
  rw [hs] at hz
  -- the array that the run starts from
  have key:∃ c0:Array Value,RelC G zs c0∧∀ (Q:Array Value→Sem Value),((do
    let zero ← if len * sz=0 then pure #[] else do pure (← zeroValue e).cells
    Q ((Array.range (len * sz)).map (zero[· % zero.size]!)):Sem Value)).run E.P w=(Q c0).run E.P w:=by
   by_cases h0:len * sz=0
   ·rw [h0] at hz
    simp at hz
    subst hz
    exact⟨#[],⟨rfl,by simp⟩,fun Q=>by have e:Array.range 0 = #[]:=(by simp [Array.range]);simp [h0,e]⟩
   ·have:Nat.beq (len * sz) 0=false:=ji h0
    rw [this] at hz
    simp only [cond_false] at hz
    cases hzr:i.zero with
    |none=>rw [hzr] at hz;simp at hz
    |some z=>
     rw [hzr] at hz
     simp only [Option.map_some,Option.some.injEq] at hz
     subst hz
     refine⟨(Array.range (len * sz)).map (z.cells[· % z.cells.size]!),⟨by simp,fun k x y h1 h2=>?_⟩,fun Q=>by simp [h0,zeroValue,typeInfo,hi,hzr]⟩
     have hk:k<len * sz:=by have:=lt_of_getElem? h1;simpa using this
     simp [hk] at h1 h2
     subst h1;subst h2
     exact .v _
  obtain⟨c0,hc0,hrun0⟩:=key
  obtain⟨c',h1,h2⟩:=qgt (fun i=>some (i * sz,sz)) (vf N s parts) (parts.toList.map fun x=>(x.1,a.eval x.2)) zs c0 cs (by simp [vf]) (qh3 hI parts) hc0 hf
  refine⟨c',?_,h2⟩
  ·generalize a.eval = ρ at h1
   have hb:¬ 16777216<len * sz:=by omega
   have hg:∃ m:String,(execOp ρ ⟨d,.buildSlice t len parts,T,p,af,none⟩).run E.P w=(((do
    let zero ← if len * sz=0 then pure #[] else do pure (← zeroValue e).cells
    (fun c=>(do
    let some cells:=Instr.fill (fun i=>some (i * sz,sz)) c (parts.map fun x=>(x.1,ρ x.2)).toList|stuck m
    pure (Value.slice (some (← newRow e cells)) len len):Sem Value)) ((Array.range (len * sz)).map (zero[· % zero.size]!)):Sem Value)).run E.P w).andThen fun v w'=>.ok (.value v) w':=by
    apply Exists.intro
    simp only [execOp,Instr.buildSlice]
    simp [run_underlying hu,hsizeOf,hb]
    rfl
   obtain⟨m,hg⟩:=hg
   have hQ:=hrun0 (fun c=>do
    let some cells:=Instr.fill (fun i=>some (i * sz,sz)) c (parts.map fun x=>(x.1,ρ x.2)).toList|stuck m
    pure (.slice (some (← newRow e cells)) len len))
   rw [hg,hQ]
   simp [h1,newRow,newObj,Sem.run]
theorem xb {t e:TypeId} {len sz:Nat} {agg:Bool} {parts:Array (Nat×Operand)} {zs cs xs:List AV} (hu:E.P.underlying t=some (.slice e)) (ht:tyOf E.P e=some (sz,agg)) (hz:qd7 E.P e len=some zs)
  (hf:qa2 (fun i=>some (i * sz,sz)) zs (vf N s parts)=some cs) (hxs:(vf N s parts).map Prod.snd=xs) (hlen:xs.length=len) (hfl:flat xs=cs) (hw:xs.all (fun x=>Nat.beq x.cells.length sz)=true) (hsz:Nat.ble (len * sz) 16777216=true)
  (h:AOps E rd N ops rest K (s.put d (.sl sz xs none))):AOps E rd N ops (⟨d,.buildSlice t len parts,T,p,af,none⟩::rest) K s:=by
 refine qy rfl (qw nofun fun B0 w0 G a w _ hI=>?_)
 obtain⟨c',hrun,h2⟩:=qio (d:=d) (T:=T) (p:=p) (af:=af) hI hu ht hz hf hsz
 obtain⟨hle,hA⟩:=hI.agree.newPub e c' (0,0) c'.toList (fun i y hy=>by simpa using hy)
 refine⟨.slice (some ⟨w.heap.size,0,none⟩) len len,w.alloc (.cells c' e),_,.sl sz xs none,s.st,hrun,hle,hA,?_,h⟩
 rw [← hlen]
 cases xs with
 |nil=>exact .sl0 sz none _ _ (by simp)
 |cons x0 xr=>
  refine .sl sz _ none w.heap.size 0 _ c'.toList (by simp [Gh.publish]) (fun x hx=>?_) (by rw [hfl,h2.1];simp) (fun k x y g1 g2=>?_) (fun t ht=>by simp at ht) (Nat.le_refl _)
  ·exact Nat.eq_of_beq_eq_true (List.all_eq_true.1 hw x hx)
  ·rw [hfl] at g1
   exact (h2.2 k x y g1 (by simpa using g2)).mono hle
end
end Go.Av
namespace Go.Av
open Go Go.RowKit
inductive yz (n:Nat):List AObj→List AObj→Prop
 |nil:yz n [] []
 |same {l l':List AObj} (x:AObj) (h:yz n l l'):yz n (x::l) (x::l')
 |cut {l l':List AObj} {x x':AObj} (hx:qfr n x') (h:yz n l l'):yz n (x::l) (x'::l')
 |loop {l l':List AObj} {ls ls':LoopState} {pend pend':Option Code} {N:Nat} {t:Nat→AV} {ps:Array Tmp} {asg body:Code} (h:yz n l l'):yz n (.loop ls pend N t ps asg body::l) (.loop ls' pend' N t ps asg body::l')
theorem qf4 (n:Nat):∀ l,yz n l l
 | []=>.nil
 |x::l=>.same x (qf4 n l)
theorem qhx {n:Nat} {l l':List AObj} (h:yz n l l'):∀ st,yz n (st++l) (st++l')
 | []=>h
 |x::st=>.same x (qhx h st)
theorem yz.length {n:Nat} {l l':List AObj} (h:yz n l l'):l'.length=l.length:=by
 induction h with
 |nil=>rfl
 | _=>simpa
theorem yz.get {n:Nat} {l l':List AObj} (h:yz n l l') (hc:∀ (o:Nat) (x:AObj),l[o]? = some x→qfr n x):∀ (o:Nat) (x:AObj),l'[o]? = some x→qfr n x:=by
 induction h with
 |nil=>exact hc
 |same y h ih=>
  intro o x hx
  cases o with
  |zero=>exact hc 0 x hx
  |succ o=>exact ih (fun o x h=>hc (o+1) x h) o x (by simpa using hx)
 |cut hx' h ih=>
  intro o x hx
  cases o with
  |zero=>simp at hx;subst hx;exact hx'
  |succ o=>exact ih (fun o x h=>hc (o+1) x h) o x (by simpa using hx)
 |loop h ih=>
  intro o x hx
  cases o with
  |zero=>simp at hx;subst hx;have h0:=hc 0 _ rfl;exact h0
  |succ o=>exact ih (fun o x h=>hc (o+1) x h) o x (by simpa using hx)
theorem qxz {E:Env} {o:Nat} {xs:List AV} {st:List AObj} {R:Bool→List AObj→Prop}
  (h:xo E o xs st fun b st2=>∃ st1 ext,st2=st1++ext∧yz st.length st st1∧R b st1):xo E o xs st R:=by
 refine⟨fun B0 w0 G vals w hL hA hR=>?_⟩
 obtain⟨f,tmps,asg,body,h1,h2⟩:=h.run B0 w0 G vals w hL hA hR
 refine⟨f,tmps,asg,body,h1,h2.mono ?_⟩
 rintro e w' ⟨b,G',st2,he,hG,hA',st1,ext,rfl,hk,hRR⟩
 have hle:=hG.cut
 rw [hA.n] at hle
 refine⟨b,G'.cut st.length,st1,he,hle,?_,hRR⟩
 have hd:=hk.get (fun o x hx=>hA.cutOb hx)
 have hl:=hk.length
 rw [← hl] at hd ⊢
 exact hA'.drop hd
theorem qm2 {n ver:Nat} {T:TypeId} {cs:List AV} (h:∀ x∈cs,Cut n x):qfr n (.cells ver T cs):=h
theorem qsq {n a b:Nat} {T:TypeId}:qfr n (.tip a b T):=trivial
theorem q29 {n o ver off:Nat} (h:o<n):Cut n (.bx o ver off):=qdx (.bx o ver off h)
theorem qsr {n tp:Nat} {l:List UInt8} (h:tp<n):Cut n (.sl 1 (l.map fun c=>.v (.int .u8 (c.toNat:Nat))) (some tp)):=by
 refine qdx (.sl 1 _ _ (fun i x hx=>?_) (fun t ht=>by simp at ht;omega))
 have:=qf1 l
 rw [this] at hx
 simp only [List.getElem?_map] at hx
 cases hq:l[i]? with
 |none=>simp [hq] at hx
 |some c=>simp [hq] at hx;subst hx;exact .v _
def qi3 (F:LoopState→Option Code→AObj) (N:Nat) (t:Nat→AV) (ps:Array Tmp) (asg body:Code):Prop:=∀ ls pend,F ls pend=AObj.loop ls pend N t ps asg body
theorem q1f {n:Nat} {l l':List AObj} {F:LoopState→Option Code→AObj} {ls ls':LoopState} {pend pend':Option Code} {N:Nat} {t:Nat→AV} {ps:Array Tmp} {asg body:Code} (hF:qi3 F N t ps asg body) (h:yz n l l'):yz n (F ls pend::l) (F ls' pend'::l'):=by
 rw [hF,hF]
 exact .loop h
@[reducible] def zc6 (o : Nat) (F : LoopState → Option Code → AObj) (R : Bool → List AObj → Prop) : Exit → AS → Prop
 | .normal,s=>s.st[o]? = some (F .busy none)∧R true (s.st.set o (F .ready none))
 | .ret,s=>s.st[o]? = some (F .busy none)∧R false (s.st.set o (F .done (some .ret)))
 | .exit id,s=>s.st[o]? = some (F .busy none)∧R false (s.st.set o (F .done (some (.exit id))))
 | _,_=>False
theorem qnv {E:Env} {o N:Nat} {t:Nat→AV} {ps:Array Tmp} {asg body:Code} {st:List AObj} {R:Bool→List AObj→Prop} {xs:List AV} {F:LoopState→Option Code→AObj} (hF:qi3 F N t ps asg body) (ho:st[o]? = some (F .ready none)) (hps:ps.size=xs.length)
  (h:∀ l,AWp E (some l) N asg (only fun s1=>s1.st[o]? = some (F .ready none)∧s1.df=[]∧AWp E (some l) N body (zc6 o F R) ⟨s1.t,s1.st.set o (F .busy none),[]⟩) ⟨qh5 t (ps.toList.zip xs),st,[]⟩):xo E o xs st R:=by
 refine qxx (N:=N) (t:=t) (ps:=ps) (asg:=asg) (body:=body) (by rw [ho,hF]) hps fun l=>(h l).mono fun e s1 hq=>?_
 cases e with
 |normal=>
  obtain⟨h1,h2,h3⟩:=hq
  refine⟨by rw [h1,hF],h2,?_⟩
  rw [hF] at h3
  refine h3.mono fun e s2 hq2=>?_
  cases e with
  |normal=>obtain⟨k1,k2⟩:=hq2;exact⟨by rw [k1,hF],by rw [hF] at k2;exact k2⟩
  |ret=>obtain⟨k1,k2⟩:=hq2;exact⟨by rw [k1,hF],by rw [hF] at k2;exact k2⟩
  |exit id=>obtain⟨k1,k2⟩:=hq2;exact⟨by rw [k1,hF],by rw [hF] at k2;exact k2⟩
  | _=>exact hq2.elim
 | _=>exact hq.elim
theorem qi9 {E:Env} {N:Nat} {Q:Exit→AS→Prop} {s:AS} {f:Operand} {ps:Array Tmp} {asg body:Code} {st loc:List AObj} {g:FuncId} {fs cs:List AV} (hst:s.st=st++loc) (hx:qe N s f = .fn (.func g) fs cs)
  (hrun:∀ vs w,(callFunc g vs).run E.P w = .ok (.enter g vs) w)
  (h:∀ F,qi3 F N s.t ps asg body→ql E g (fs++[.yd (st.length+(loc.length+1))]++cs) (st++(loc++[.dfr,F .ready none])) fun _ st'=>∃ ls pend,ls≠LoopState.busy∧st'[st.length+(loc.length+1)]? = some (F ls pend) ∧
   match pend with
   |none=>Q .normal ⟨s.t,st'.set (st.length+(loc.length+1)) .dead,(st.length+loc.length)::s.df⟩
   |some c=>AWp E none N c Q ⟨s.t,st'.set (st.length+(loc.length+1)) .dead,(st.length+loc.length)::s.df⟩):AWp E none N (.rangeFunc f ps asg body) Q s:=
 qt1 hst hx hrun ((h (fun ls pend=>.loop ls pend N s.t ps asg body) (fun _ _=>rfl)).mono fun _ _ ⟨ls,pend,h1,h2,h3⟩=>⟨ls,pend,h1,h2,h3⟩)
theorem qdf {E:Env} {rd:Option Nat} {N:Nat} {c:Code} {Q:Exit→AS→Prop} {s:AS} (L:List (Nat×AV)) (st':List AObj) (df':List Nat) (h:HasL s.t L) (hst:s.st=st') (hdf:s.df=df') (k:∀ t,AWp E rd N c Q ⟨puts t L,st',df'⟩):AWp E rd N c Q s:=by
 have:=k s.t
 rw [qgi h,← hst,← hdf] at this
 exact this
theorem qey {E:Env} {B0:Nat} {w0:World} {N:Nat} {G:Gh} {s:AS} {a:Act} {w:World} (hI:Inv B0 w0 N G s a w) {x:Operand} {t:TypeId} {sz:Nat} {agg:Bool} {o ver off:Nat} {T':TypeId} {cs:List AV} {r:AV} (hx:qe N s x = .bx o ver off) (ho:s.st[o]? = some (.cells ver T' cs)) (ht:tyOf E.P t=some (sz,agg)) (hr:jg sz agg off cs=some r) :
  ∃ b v,a.eval x = .pointer (some ⟨b,off,none⟩)∧(loadVar t ⟨b,off,none⟩).run E.P w = .ok v w∧Rel G r v:=by
 have he:=hI.eval_of hx
 generalize hv:a.eval x=v at he
 cases he with
 |bx _ _ _ b hn hv' hb=>
  obtain⟨_,h1,h2,h3,c,h4,h5,h6⟩:=hI.agree.ob o _ ho
  have hb:=hb h1
  rw [hb] at h4
  obtain⟨v,hrun,hR⟩:=yo (w:=w) (G:=G) (b:=b) (off:=off) (off':=off) ht (fun i x hx hi=>by
   obtain⟨y,hy⟩:=vn hx (Nat.le_of_eq h5)
   refine⟨y,?_,h6 i x y hx hy⟩
   simp [World.cell?,h4,show off+(i - off)=i by omega,hy]) hr
  exact⟨b,v,rfl,hrun,hR⟩
theorem q0f {E:Env} {fn:Func} {s:AS} {t u:Tmp} {Ta Tb:TypeId} {o1 v1 f1 sz1:Nat} {agg1:Bool} {T1:TypeId} {cs1:List AV} {r1:AV} {o2 v2 f2 sz2:Nat} {agg2:Bool} {T2:TypeId} {cs2:List AV} {r2:AV} (hr:fn.results = #[.cell t Ta,.cell u Tb])
  (hx1:qe fn.ntmps s (.tmp t) = .bx o1 v1 f1) (ho1:s.st[o1]? = some (.cells v1 T1 cs1)) (ht1:tyOf E.P Ta=some (sz1,agg1)) (hl1:jg sz1 agg1 f1 cs1=some r1)
  (hx2:qe fn.ntmps s (.tmp u) = .bx o2 v2 f2) (ho2:s.st[o2]? = some (.cells v2 T2 cs2)) (ht2:tyOf E.P Tb=some (sz2,agg2)) (hl2:jg sz2 agg2 f2 cs2=some r2):ARes E fn s (.tu [r1,r2]):=by
 refine⟨fun B0 w0 G a w _ hI=>?_⟩
 obtain⟨b1,y1,e1,e2,e3⟩:=qey hI hx1 ho1 ht1 hl1
 obtain⟨b2,y2,k1,k2,k3⟩:=qey hI hx2 ho2 ht2 hl2
 simp only [Act.eval,Array.getD_eq_getD_getElem?] at e1 k1
 refine⟨.tuple #[y1,y2],?_,qiy e3 k3⟩
 simp [results,hr,e1,k1,asAddr,e2,k2]
theorem qkh {E:Env} {fn:Func} {R:AV→List AObj→Prop} {s:AS} {st loc:List AObj} {k:Nat} {ds:List Nat} (hs:s.st=st++loc) (hd:s.df=(st.length+k)::ds) (ho:loc[k]? = some .dfr) (h:ARet E fn R ⟨s.t,st++loc.set k .dead,ds⟩):ARet E fn R s:=
 qkt hd (by rw [hs];exact jb ho) (by rw [hs,w9];exact h)
theorem qim {E:Env} {fn:Func} {s:AS} {t u:Tmp} {Ta Tb:TypeId} {st loc:List AObj} {k1 v1 f1 sz1:Nat} {agg1:Bool} {T1:TypeId} {cs1:List AV} {r1:AV} {k2 v2 f2 sz2:Nat} {agg2:Bool} {T2:TypeId} {cs2:List AV} {r2:AV} (hr:fn.results = #[.cell t Ta,.cell u Tb]) (hs:s.st=st++loc)
  (hx1:qe fn.ntmps s (.tmp t) = .bx (st.length+k1) v1 f1) (ho1:loc[k1]? = some (.cells v1 T1 cs1)) (ht1:tyOf E.P Ta=some (sz1,agg1)) (hl1:jg sz1 agg1 f1 cs1=some r1)
  (hx2:qe fn.ntmps s (.tmp u) = .bx (st.length+k2) v2 f2) (ho2:loc[k2]? = some (.cells v2 T2 cs2)) (ht2:tyOf E.P Tb=some (sz2,agg2)) (hl2:jg sz2 agg2 f2 cs2=some r2):ARes E fn s (.tu [r1,r2]):=
 q0f hr hx1 (by rw [hs];exact jb ho1) ht1 hl1 hx2 (by rw [hs];exact jb ho2) ht2 hl2
@[reducible] def Wv (x : BitVec 32) : AV := .v (.int .u32 (x.toNat : Nat))
theorem qkb (n:Nat):IntKind.u32.wrap (n:Int)=((n % 4294967296:Nat):Int):=by
 simp [IntKind.wrap,IntKind.bits,IntKind.signed]
theorem kf (x:BitVec 32):BitVec.ofInt 32 (x.toNat:Int)=x:=by
 rw [BitVec.ofInt_natCast,BitVec.ofNat_toNat]
 simp
theorem qgf (x:BitVec 32):IntKind.u32.wrap (x.toNat:Int)=(x.toNat:Int):=by
 rw [qkb,Nat.mod_eq_of_lt x.isLt]
section
variable {E : Env} {rd : Option Nat} {N : Nat} {ops : Array Oper} {K : AS → Prop} {s : AS} {rest : List Oper} {d : Option Tmp} {T : TypeId} {p : String} {af : Array Edge}
theorem qq5 (x:BitVec 32):((x.toNat:Nat):Int)=0↔x=0#32:=by
 constructor
 ·intro h
  apply BitVec.eq_of_toNat_eq
  simpa using h
 ·rintro rfl
  rfl
theorem qfu {x y:Operand} {t t':TypeId} {m n:Int} {a b:BitVec 32} (hx:qe N s x = .v (.int .u32 m)) (hy:qe N s y = .v (.int .u32 n)) (ha:BitVec.ofInt 32 m=a) (hb:BitVec.ofInt 32 n=b) (h:AOps E rd N ops rest K (s.put d (Wv (a ^^^ b)))):AOps E rd N ops (⟨d,.binOp .xor t x y t',T,p,af,none⟩::rest) K s:=
 q6d hx hy (by subst ha;subst hb;simp only [qay,IntKind.bits];rw [qgf];rfl) h
theorem qi6 {x y:Operand} {t t':TypeId} {m n:Int} {a b:BitVec 32} (hx:qe N s x = .v (.int .u32 m)) (hy:qe N s y = .v (.int .u32 n)) (ha:BitVec.ofInt 32 m=a) (hb:BitVec.ofInt 32 n=b) (h:AOps E rd N ops rest K (s.put d (Wv (a &&& b)))):AOps E rd N ops (⟨d,.binOp .and t x y t',T,p,af,none⟩::rest) K s:=
 q56 hx hy (by subst ha;subst hb;simp only [qay,IntKind.bits];rw [qgf];rfl) h
theorem q2k {x y:Operand} {t t':TypeId} {m n:Int} {a b:BitVec 32} (hx:qe N s x = .v (.int .u32 m)) (hy:qe N s y = .v (.int .u32 n)) (ha:BitVec.ofInt 32 m=a) (hb:BitVec.ofInt 32 n=b) (h:AOps E rd N ops rest K (s.put d (Wv (a |||b)))):AOps E rd N ops (⟨d,.binOp .or t x y t',T,p,af,none⟩::rest) K s:=
 q9g hx hy (by subst ha;subst hb;simp only [qay,IntKind.bits];rw [qgf];rfl) h
theorem qgn {x:Operand} {t:TypeId} {a:BitVec 32} (hx:qe N s x=Wv a) (h:AOps E rd N ops rest K (s.put d (Wv (~~~ a)))):AOps E rd N ops (⟨d,.unOp .xor t x,T,p,af,none⟩::rest) K s:=
 q0b hx (by
  simp only [qay,IntKind.bits,IntKind.signed,Bool.false_eq_true,if_false]
  rw [kf]
  have h1:BitVec.ofInt 32 IntKind.u32.max=BitVec.allOnes 32:=by decide
  have h2:BitVec.ofInt 32 IntKind.u32.max ^^^ a = ~~~ a:=by rw [h1,BitVec.xor_comm,BitVec.xor_allOnes]
  exact (congrArg (fun z:BitVec 32=>IntKind.u32.wrap (z.toNat:Int)) h2).trans (qgf _)) h
theorem qdt {x y:Operand} {t t':TypeId} {yk:IntKind} {a:BitVec 32} {n:Nat} (hx:qe N s x=Wv a) (hy:qe N s y = .v (.int yk (n:Int))) (hn:Nat.ble n 32=true) (h:AOps E rd N ops rest K (s.put d (Wv (a <<< n)))):AOps E rd N ops (⟨d,.binOp .shl t x y t',T,p,af,none⟩::rest) K s:=
 q6b hx hy (by omega) (by
  have hn:=Nat.le_of_ble_eq_true hn
  have:min (n:Int).toNat IntKind.u32.bits=n:=by simp [IntKind.bits];omega
  rw [this]
  have e:(a.toNat:Int) * 2 ^ n=((a.toNat * 2 ^ n:Nat):Int):=by simp
  rw [e,qkb,BitVec.toNat_shiftLeft,Nat.shiftLeft_eq]) h
theorem qfs {x y:Operand} {t t':TypeId} {yk:IntKind} {a:BitVec 32} {n:Nat} (hx:qe N s x=Wv a) (hy:qe N s y = .v (.int yk (n:Int))) (hn:Nat.ble n 32=true) (h:AOps E rd N ops rest K (s.put d (Wv (a >>> n)))):AOps E rd N ops (⟨d,.binOp .shr t x y t',T,p,af,none⟩::rest) K s:=
 q6c hx hy (by omega) (by
  have hn:=Nat.le_of_ble_eq_true hn
  have:min (n:Int).toNat IntKind.u32.bits=n:=by simp [IntKind.bits];omega
  rw [this,BitVec.toNat_ushiftRight,Nat.shiftRight_eq_div_pow]
  have h0:(0:Int)≤2 ^ n:=by
   have:((2 ^ n:Nat):Int)=(2:Int) ^ n:=by simp
   rw [← this]
   exact Int.natCast_nonneg _
  rw [Int.fdiv_eq_ediv_of_nonneg _ h0]
  simp) h
theorem qia {x y:Operand} {t e:TypeId} {len sz:Nat} {agg:Bool} {k:IntKind} {n:Nat} {cs:List AV} {r:AV} (hx:qe N s x = .ag cs) (hy:qe N s y = .v (.int k (n:Int))) (hu:E.P.underlying t=some (.array len e)) (ht:tyOf E.P e=some (sz,agg)) (hn:n<len) (hr:jg sz agg (n * sz) cs=some r)
  (h:AOps E rd N ops rest K (s.put d r)):AOps E rd N ops (⟨d,.index t x y,T,p,af,none⟩::rest) K s:=by
 refine qy rfl (qw nofun fun B0 w0 G a w _ hI=>?_)
 have he:=hI.eval_of hx
 have hey:=hI.evalv hy
 generalize hv:a.eval x=v at he
 cases he with
 |ag _ vs hl hrel=>
  obtain⟨i1,i2⟩:=ko ht w
  cases agg with
  |false=>
   simp only [jg,cond_false] at hr
   obtain⟨z,hz⟩:=vn hr (Nat.le_of_eq hl)
   refine⟨z,w,G,r,s.st,?_,.refl G,hI.agree,hrel _ r z hr hz,h⟩
   generalize a.eval = ρ at hv hey
   simp only [execOp,hv,hey]
   simp [Instr.index,asIntOf,run_underlying hu,hn,part,i1,i2,hz]
  |true=>
   simp only [jg,cond_true] at hr
   cases hb:Nat.ble (n * sz+sz) cs.length with
   |false=>rw [hb] at hr;simp at hr
   |true=>
    rw [hb] at hr
    simp only [cond_true,Option.some.injEq] at hr
    have hle:n * sz+sz≤cs.length:=Nat.le_of_ble_eq_true hb
    refine⟨.agg (vs.extract (n * sz) (n * sz+sz)),w,G,r,s.st,?_,.refl G,hI.agree,?_,h⟩
    ·generalize a.eval = ρ at hv hey
     simp only [execOp,hv,hey]
     simp [Instr.index,asIntOf,run_underlying hu,hn,part,i1,i2]
    ·subst hr
     refine .ag _ _ (by simp;omega) fun i x y h1 h2=>?_
     have hi:i<sz:=by have:=lt_of_getElem? h1;simp at this;omega
     simp [hi,List.getElem?_drop] at h1
     rw [Array.getElem?_extract] at h2
     split at h2
     ·exact hrel (n * sz+i) x y h1 h2
     ·simp at h2
theorem qbj {x y:Operand} {t e:TypeId} {len sz:Nat} {agg:Bool} {k:IntKind} {n o ver off:Nat} (hx:qe N s x = .bx o ver off) (hy:qe N s y = .v (.int k (n:Int))) (hu:E.P.underlying t=some (.array len e)) (ht:tyOf E.P e=some (sz,agg)) (hn:n<len)
  (h:AOps E rd N ops rest K (s.put d (.bx o ver (off+n * sz)))):AOps E rd N ops (⟨d,.indexAddr t x y,T,p,af,none⟩::rest) K s:=by
 refine qy rfl (qw nofun fun B0 w0 G a w _ hI=>?_)
 have he:=hI.eval_of hx
 have hey:=hI.evalv hy
 generalize hv:a.eval x=v at he
 cases he with
 |bx _ _ _ b hn' hver hb=>
  refine⟨.pointer (some ⟨b,off+n * sz,none⟩),w,G,_,s.st,?_,.refl G,hI.agree,.bx o ver _ b hn' hver hb,h⟩
  generalize a.eval = ρ at hv hey
  simp only [execOp,hv,hey]
  simp [Instr.indexAt,asIntOf,run_underlying hu,Instr.sureAddr,hn,(ko ht w).1,Addr.add_lit]
theorem q0c {x:Operand} {t t':TypeId} {k:IntKind} {n:Nat} {e:TypeDesc} (hx:qe N s x = .v (.int k (n:Int))) (hs:E.P.underlying t=some e) (hd:E.P.underlying t'=some (.int .u32)) (hn:n<4294967296)
  (h:AOps E rd N ops rest K (s.put d (Wv (BitVec.ofNat 32 n)))):AOps E rd N ops (⟨d,.convert t t' x,T,p,af,none⟩::rest) K s:=
 qo3 hx hs hd (by rw [qkb,Nat.mod_eq_of_lt hn,BitVec.toNat_ofNat,Nat.mod_eq_of_lt hn]) h
theorem qrc {x y:Operand} {t:TypeId} {sz:Nat} {agg:Bool} {st loc loc':List AObj} {k ver off:Nat} {T':TypeId} {cs xs:List AV} {r:AV} (hs:s.st=st++loc) (hx:qe N s x = .bx (st.length+k) ver off) (hy:qe N s y=r) (ho:loc[k]? = some (.cells ver T' cs)) (ht:tyOf E.P t=some (sz,agg))
  (hok:r.okc=true) (hc:r.cells=xs) (hsz:Nat.beq xs.length sz=true) (h1:j7 xs=true) (hfit:off+sz≤cs.length) (hl:loc'=loc.set k (.cells ver T' (zp cs off xs)))
  (h:AOps E rd N ops rest K (AS.put ⟨s.t,st++loc',s.df⟩ d (.v undef))):AOps E rd N ops (⟨d,.store t x y,T,p,af,none⟩::rest) K s:=
 zv hs hx hy ho ht hok hc hsz h1 (Nat.ble_eq_true_of_le hfit) hl h
theorem q13 {cs:List AV} {off:Nat} {x:AV} (h:off<cs.length):zp cs off [x]=cs.set off x:=by
 rw [List.set_eq_take_append_cons_drop,if_pos h]
 simp [zp]
theorem qap {t:Nat→AV} {L:List (Nat×AV)} {st st':List AObj} {df:List Nat} (h:HasL t L) (e:st'=st):StA L st df ⟨t,st',df⟩:=by
 subst e
 exact wa h
theorem qrd {fn:Func} {t:Tmp} {Ta:TypeId} {st loc:List AObj} {k1 v1 f1 sz1:Nat} {agg1:Bool} {T1:TypeId} {cs1:List AV} {r1:AV} (hr:fn.results = #[.cell t Ta]) (hs:s.st=st++loc)
  (hx1:qe fn.ntmps s (.tmp t) = .bx (st.length+k1) v1 f1) (ho1:loc[k1]? = some (.cells v1 T1 cs1)) (ht1:tyOf E.P Ta=some (sz1,agg1)) (hl1:jg sz1 agg1 f1 cs1=some r1):ARes E fn s r1:=by
 refine⟨fun B0 w0 G a w _ hI=>?_⟩
 obtain⟨b1,y1,e1,e2,e3⟩:=qey hI hx1 (by rw [hs];exact jb ho1) ht1 hl1
 simp only [Act.eval,Array.getD_eq_getD_getElem?] at e1
 refine⟨y1,?_,e3⟩
 simp [results,hr,e1,asAddr,e2]
def qre (P:Program) (t:TypeId):Option Nat:=
 match P.underlying t with
 |some (.array _ e)=>match P.info? e with
  |some i=>some i.size
  |none=>none
 | _=>none
theorem qxw {P:Program} {t:TypeId} {sz:Nat} (h:qre P t=some sz):∃ len e i,P.underlying t=some (.array len e)∧P.info? e=some i∧i.size=sz:=by
 unfold qre at h
 split at h
 ·rename_i len e hu
  split at h
  ·rename_i i hi
   simp only [Option.some.injEq] at h
   exact⟨len,e,i,hu,hi,h⟩
  ·simp at h
 ·simp at h
theorem qsj {t:TypeId} {parts:Array (Nat×Operand)} {zs cs:List AV} {sz:Nat} (hz:qgg E.P t=some zs) (hp:qre E.P t=some sz) (hf:qa2 (fun i=>some (i * sz,sz)) zs (vf N s parts)=some cs)
  (h:AQ E N ops rest K (s.put d (.ag cs))):AQ E N ops (⟨d,.build t parts,T,p,af,none⟩::rest) K s:=by
 refine qcx rfl nofun fun B0 w0 G a w _ hI=>?_
 obtain⟨len,e,i,hu,hi,rfl⟩:=qxw hp
 obtain⟨z,hrun,hr⟩:=ql8 hz w
 obtain⟨c',h1,h2⟩:=qgt (fun k=>some (k * i.size,i.size)) (vf N s parts) (parts.toList.map fun x=>(x.1,a.eval x.2)) zs z.cells cs (by simp [vf]) (qh3 hI parts) (hr G) hf
 have hz':∃ ti,E.P.info? t=some ti∧ti.zero=some z:=by
  unfold zeroValue at hrun
  simp [typeInfo] at hrun
  cases hti:E.P.info? t with
  |none=>simp [hti] at hrun
  |some ti=>
   simp [hti] at hrun
   cases htz:ti.zero with
   |none=>simp [htz] at hrun
   |some y=>simp [htz] at hrun;exact⟨ti,rfl,by rw [htz,hrun]⟩
 obtain⟨ti,g1,g2⟩:=hz'
 refine⟨.agg c',.ag cs,fun w' _=>?_,.ag _ _ h2.1 h2.2,h⟩
 generalize a.eval = ρ at h1
 simp [execOp,Instr.build,run_underlying hu,zeroValue,typeInfo,g1,g2,sizeOf,hi,h1]
theorem q2m {x y:Operand} {t:TypeId} {m:List UInt8} {k:IntKind} {n:Nat} (hx:qe N s x=Sv m) (hy:qe N s y = .v (.int k (n:Int))) (hu:E.P.underlying t=some .string) (h1:n<m.length)
  (h:AQ E N ops rest K (s.put d (Uv (m.getD n 0)))):AQ E N ops (⟨d,.index t x y,T,p,af,none⟩::rest) K s:=
 y3 _ rfl nofun (fun a w he=>by
  have hg:(⟨m.toArray⟩:ByteArray)[n]? = some (m.getD n 0):=by
   simp only [getElem?_def,yp,h1,dite_true,List.getD,Option.getD_some]
   rfl
  simp [execOp,Instr.index,he _ _ hx,he _ _ hy,asIntOf,run_underlying hu,hg]) h
theorem qu3 {x:Operand} {t t':TypeId} {k:IntKind} {n:Nat} {e:TypeDesc} (hx:qe N s x = .v (.int k (n:Int))) (hs:E.P.underlying t=some e) (hd:E.P.underlying t'=some (.int .u32)) (hn:n<4294967296)
  (h:AQ E N ops rest K (s.put d (Wv (BitVec.ofNat 32 n)))):AQ E N ops (⟨d,.convert t t' x,T,p,af,none⟩::rest) K s:=by
 have hr:IntKind.u32.wrap (n:Int)=(((BitVec.ofNat 32 n).toNat:Nat):Int):=by rw [qkb,Nat.mod_eq_of_lt hn,BitVec.toNat_ofNat,Nat.mod_eq_of_lt hn]
 exact y3 _ rfl nofun (fun a w he=>by rw [← hr];simp [execOp,he _ _ hx,convert,run_underlying hs,run_underlying hd,Conv.intToInt]) h
theorem qy2 {x y:Operand} {t t':TypeId} {yk:IntKind} {c:UInt8} (hx:qe N s x=Uv c) (hy:qe N s y = .v (.int yk 4)) (h:AQ E N ops rest K (s.put d (.v (.int .u8 ((c.toNat / 16:Nat):Int))))):AQ E N ops (⟨d,.binOp .shr t x y t',T,p,af,none⟩::rest) K s:=
 y3 _ rfl nofun (fun a w he=>by
  have:(c.toNat:Int).fdiv (2 ^ (min (4:Int).toNat IntKind.u8.bits))=((c.toNat / 16:Nat):Int):=by
   rw [Int.fdiv_eq_ediv_of_nonneg _ (by decide)]
   simp [IntKind.bits]
  rw [← this]
  simp [execOp,he _ _ hx,he _ _ hy,eqGuard_at_int,binOp_shr,Op.shift]) h
theorem qu2 {x y:Operand} {t t':TypeId} {c:UInt8} (hx:qe N s x=Uv c) (hy:qe N s y = .v (.int .u8 15)) (h:AQ E N ops rest K (s.put d (.v (.int .u8 ((c.toNat % 16:Nat):Int))))):AQ E N ops (⟨d,.binOp .and t x y t',T,p,af,none⟩::rest) K s:=
 zbx hx hy (by
  simp only [qay,IntKind.bits]
  have h1:BitVec.ofInt 8 (c.toNat:Int)=c.toBitVec:=by rw [BitVec.ofInt_natCast];simp
  have h2:(BitVec.ofInt 8 (c.toNat:Int) &&& BitVec.ofInt 8 15).toNat=c.toNat % 16:=by
   rw [h1,BitVec.toNat_and]
   exact Nat.and_two_pow_sub_one_eq_mod c.toNat 4
  have h3:IntKind.u8.wrap ((c.toNat % 16:Nat):Int)=((c.toNat % 16:Nat):Int):=by
   simp [IntKind.wrap,IntKind.bits,IntKind.signed]
   omega
  exact (congrArg (fun z:Nat=>IntKind.u8.wrap (z:Int)) h2).trans h3) h
theorem qxt {x y:Operand} {t t':TypeId} {yk:IntKind} {a:BitVec 32} {m:Int} {n:Nat} (hx:qe N s x=Wv a) (hy:qe N s y = .v (.int yk m)) (hm:m=(n:Int)) (hn:n≤32) (h:AOps E rd N ops rest K (s.put d (Wv (a >>> n)))):AOps E rd N ops (⟨d,.binOp .shr t x y t',T,p,af,none⟩::rest) K s:=
 qfs hx (hm▸hy) (Nat.ble_eq_true_of_le hn) h
theorem and15_lt (x:BitVec 32):(x &&& BitVec.ofInt 32 15).toNat<16:=by
 rw [BitVec.toNat_and]
 exact Nat.lt_of_le_of_lt Nat.and_le_right (by decide)
end
end Go.Av
namespace Go.Proofs.YtneejjefekdgjaaGreatDoor
open Go Go.Av Go.RowKit Go.Proofs
structure Laid (w:World):Prop where
 shaped:World.ShapedOpen Tryz.prog w
 pow : Lib.TabIs Tryz.prog w "internal/strconv.uint64pow10" .u64 Lib.pow10Tab
 syn : ∃ tp p, World.var? Tryz.prog w "strconv.ErrSyntax" = some #[.iface tp p]
 ran : ∃ tp p, World.var? Tryz.prog w "strconv.ErrRange" = some #[.iface tp p]
 ert:w.cell? ⟨3,0,none⟩=some (.iface 381 (.agg #[.pointer (some ⟨9,24,none⟩)]))
@[reducible] noncomputable def E : Env := ⟨Tryz.prog, fun B0 w0 => ∀ w, Below B0 w0 w → Laid w⟩
theorem qpm (l m:List UInt8) (st:List AObj) (hl:l.length<4294967281):ql E 165 [Sv l,Sv m] st fun r st'=>r=Bv (Lib.contains l m)∧st'=st:=
 xu (vals:= #[.string ⟨l.toArray⟩,.string ⟨m.toArray⟩]) rfl fun _ _ w hL hb=>(Tryz.strings_Contains_shaped ⟨l.toArray⟩ ⟨m.toArray⟩ w (hL w hb).shaped (by simpa [ByteArray.size] using hl)).mono fun _ _ ⟨h1,h2⟩=>⟨h1,qcq h2⟩
theorem qcu (l m:List UInt8) (st:List AObj):ql E 164 [Sv l,Sv m] st fun r st'=>r=Bv (Lib.hasPrefix l m)∧st'=st:=
 xu (vals:= #[.string ⟨l.toArray⟩,.string ⟨m.toArray⟩]) rfl fun _ _ w _ _=>(Tryz.strings_HasPrefix ⟨l.toArray⟩ ⟨m.toArray⟩ w).mono fun _ _ ⟨h1,h2⟩=>⟨h1,qcq h2⟩
theorem qm8 (l m:List UInt8) (st:List AObj) (hl:l.length≤9223372036854775807):ql E 240 [Sv l,Sv m] st fun r st'=>r=Bv (Lib.hasSuffix l m)∧st'=st:=
 xu (vals:= #[.string ⟨l.toArray⟩,.string ⟨m.toArray⟩]) rfl fun _ _ w _ _=>(Tryz.strings_HasSuffix ⟨l.toArray⟩ ⟨m.toArray⟩ w (by simpa [ByteArray.size] using hl)).mono fun _ _ ⟨h1,h2⟩=>⟨h1,qcq h2⟩
theorem qpn (l m:List UInt8) (st:List AObj) (hl:l.length<4294967281):ql E 72 [Sv l,Sv m] st fun r st'=>r = .tu [Sv (Lib.cut l m).1,Sv (Lib.cut l m).2.1,Bv (Lib.cut l m).2.2]∧st'=st:=
 qfp (vals:= #[.string ⟨l.toArray⟩,.string ⟨m.toArray⟩]) (rs:= #[.string ⟨(Lib.cut l m).1.toArray⟩,.string ⟨(Lib.cut l m).2.1.toArray⟩,.bool (Lib.cut l m).2.2]) rfl fun _ _ w hL hb=>(Tryz.strings_Cut_shaped ⟨l.toArray⟩ ⟨m.toArray⟩ w (hL w hb).shaped (by simpa [ByteArray.size] using hl)).mono fun _ _ ⟨h1,n,h2⟩=>⟨h1,h2▸qx1 w n⟩
theorem qcr (l m:List UInt8) (st:List AObj):ql E 260 [Sv l,Sv m] st fun r st'=>r = .tu [Sv (Lib.trimPrefix l m),Bv (Lib.hasPrefix l m)]∧st'=st:=
 qfp (vals:= #[.string ⟨l.toArray⟩,.string ⟨m.toArray⟩]) (rs:= #[.string ⟨(Lib.trimPrefix l m).toArray⟩,.bool (Lib.hasPrefix l m)]) rfl fun _ _ w _ _=>(Tryz.strings_CutPrefix ⟨l.toArray⟩ ⟨m.toArray⟩ w).mono fun _ _ ⟨h1,h2⟩=>⟨h1,qcq h2⟩
theorem qle (n:Int) (st:List AObj) (h0 : -9223372036854775808≤n) (h1:n≤9223372036854775807):ql E 133 [Iv n] st fun r st'=>r=Sv (Lib.itoa n)∧st'=st:=
 xu (vals:= #[.int .i64 n]) rfl fun _ _ w hL hb=>(Tryz.strconv_Itoa n h0 h1 w (hL w hb).pow).mono fun _ _ ⟨h1,k,os,h2⟩=>⟨h1,h2▸q0m w k os⟩
theorem q79 (l:List UInt8) (c:Nat) (st:List AObj) (h0:c≤9223372036854775807) (h1:l.length * c≤140737488355328):ql E 263 [Sv l,Iv c] st fun r st'=>r=Sv (Lib.repeatL l c)∧st'=st:=
 xu (vals:= #[.string ⟨l.toArray⟩,.int .i64 c]) rfl fun _ _ w _ _=>(Tryz.strings_Repeat ⟨l.toArray⟩ c w h0 (by simpa [ByteArray.size] using h1)).mono fun _ _ ⟨h1,h2⟩=>⟨h1,h2⟩
theorem q5u (l m:List UInt8) (st:List AObj) (hl:l.length≤9223372036854775807) (hm:m.length<4294967281) (ha:∀ (j:Nat) (b:UInt8),m[j]? = some b→b.toNat<128):ql E 209 [Sv l,Sv m] st fun r st'=>r=Sv (Lib.trimS l m)∧st'=st:=
 xu (vals:= #[.string ⟨l.toArray⟩,.string ⟨m.toArray⟩]) rfl fun _ _ w _ _=>(Any.strings_Trim_laid Tryz.lays160t (by kernel_rfl) ⟨l.toArray⟩ ⟨m.toArray⟩ w (by simpa [ByteArray.size] using hl) (by simpa [ByteArray.size] using hm) (by simpa using ha)).mono fun _ _ ⟨h1,h2⟩=>⟨h1,h2⟩
theorem qx0 {w w':World} {T:TypeId} {s:ByteArray} (h:w'=w∨∃ t,w'=Lib.bytesWorld w T t):Below w.heap.size w w':=by
 rcases h with rfl | ⟨t,rfl⟩
 ·exact Below.refl _ _
 ·unfold Lib.bytesWorld
  exact Lib.below_freeze ((Below.drew (Below.refl w.heap.size w)).alloc (Nat.le_refl _) _) (p:=⟨w.heap.size,_,none⟩) (Nat.le_refl _) _
theorem qox {f:FuncId} {st:List AObj} {args:List AV} {vals:Array Value} {R:Int→Option (TypeId×Value)→Prop} (ha:args=vals.toList.map .v)
  (h:∀ B0 w0 w,E.L B0 w0→Below B0 w0 w→Calls E.P f vals w fun e w'=>∃ n x,e = .returned (.tuple #[.int .i64 n,match x with|none=>.nilIface|some (t,y)=>.iface t y])∧R n x∧Below w.heap.size w w') :
  ql E f args st fun r st'=>st'=st∧∃ n x,r = .tu [Iv n,match x with|none=>.v .nilIface|some (t,y)=>.ifc t (.v y)]∧R n x:=by
 subst ha
 refine⟨fun B0 w0 G vs w hL hA hR=>?_⟩
 have hv:vs=vals:=by
  have hs:vs.size=vals.size:=by have:=hR.1;simpa using this.symm
  apply Array.ext hs
  intro i h1 h2
  have:=hR.2 i (.v vals[i]) vs[i] (by simp [h2]) (by simp [h1])
  generalize vs[i]=y at this
  cases this
  rfl
 subst hv
 refine (h B0 w0 w hL hA.below).mono ?_
 rintro e w' ⟨n,x,rfl,hRR,hb⟩
 refine⟨_,G,_,st,rfl,.refl G,hA.fresh hb,qiy (.v _) ?_,rfl,n,x,rfl,hRR⟩
 cases x with
 |none=>exact .v _
 |some p=>exact .ifc _ _ _ (.v _)
theorem qku (l:List UInt8) (st:List AObj) (hl:l.length≤281474976710656):ql E 73 [Sv l] st fun r st'=>st'=st∧∃ n x,r = .tu [Iv n,match x with|none=>.v .nilIface|some (t,y)=>.ifc t (.v y)]∧match x with|none=>Lib.atoiAll l = .ok n|some _=>∀ v,Lib.atoiAll l≠.ok v:=by
 refine qox (vals:= #[.string ⟨l.toArray⟩]) (R:=fun n x=>match x with|none=>Lib.atoiAll l = .ok n|some _=>∀ v,Lib.atoiAll l≠.ok v) rfl fun B0 w0 w hL hb=>?_
 have hls:(⟨l.toArray⟩:ByteArray).data.toList=l:=rfl
 rcases ho:Lib.atoiAll l with v | _ | _
 ·
  refine (Tryz.strconv_Atoi_ok ⟨l.toArray⟩ (by simp [ByteArray.size];omega) v (by rw [hls];exact ho) w).mono ?_
  rintro e w' ⟨rfl,hw⟩
  exact⟨v,none,rfl,rfl,qx0 (s:=⟨l.toArray⟩) hw⟩
 ·
  obtain⟨tp,p,hv⟩:=(hL w hb).syn
  refine (Any.strconv_Atoi_syntax_var Tryz.laysC172 ⟨l.toArray⟩ (by simpa [ByteArray.size] using hl) (by rw [hls];exact ho) tp p w hv).mono ?_
  rintro e w' ⟨N,rfl,_,_,hw⟩
  exact⟨_,some (_,_),rfl,by simp,hw⟩
 ·
  obtain⟨tp,p,hv⟩:=(hL w hb).ran
  refine (Tryz.strconv_Atoi_range_var ⟨l.toArray⟩ (by simpa [ByteArray.size] using hl) (by rw [hls];exact ho) tp p w hv).mono ?_
  rintro e w' ⟨N,rfl,_,_,hw⟩
  exact⟨_,some (_,_),rfl,by simp,hw⟩
theorem qr9 (l m:List UInt8) (st:List AObj) (hl:l.length≤9223372036854775807) (hm:Nat.blt m.length 4294967281=true) (ha:m.all (fun b=>Nat.blt b.toNat 128)=true):ql E 209 [Sv l,Sv m] st fun r st'=>r=Sv (Lib.trimS l m)∧st'=st:=
 q5u l m st hl (by simpa [Nat.blt_eq] using hm) fun j b h=>by
  have:=List.all_eq_true.1 ha b (List.mem_of_getElem? h)
  simpa [Nat.blt_eq] using this
end Go.Proofs.YtneejjefekdgjaaGreatDoor
namespace Go.Av
open Go Go.RowKit Go.WideShapes Go.ChangeShapes
def G0:Gh:=⟨fun _=>none,fun _=>⟨0,0,0,false⟩,0⟩
theorem qxp (W:World):q7 W.heap.size W G0 [] W:=
 ⟨Below.refl _ _,Nat.le_refl _,rfl,fun b vs h=>by simp [G0] at h,fun o x h=>by simp at h,fun o o' x x' _ h=>by simp at h⟩
theorem q46 (G:Gh) (vals:Array Value):RelL G (vals.toList.map .v) vals:=by
 refine⟨by simp,fun i x y hx hy=>?_⟩
 rw [List.getElem?_map] at hx
 rw [Array.getElem?_toList,hy] at hx
 simp at hx
 subst hx
 exact .v y
theorem qrk {E:Env} {f:FuncId} {args:List AV} {vals:Array Value} {b:Bool} {W:World} (h:ql E f args [] fun r st'=>r=Bv b∧st'=[]) (hL:E.L W.heap.size W) (ha:args=vals.toList.map .v) :
  Calls E.P f vals W fun e w'=>e = .returned (.bool b)∧Below W.heap.size W w':=by
 subst ha
 refine (h.run W.heap.size W G0 vals W hL (qxp W) (q46 _ _)).mono ?_
 rintro e w' ⟨v,G',r,st',rfl,_,hA,hr,rfl,_⟩
 cases hr
 exact⟨rfl,hA.below⟩
theorem qr6 {P:Program} {W:World} {name:String} {k:IntKind} {zs:List Int} {g:Nat} {t e:TypeId} {n:Nat}
  (hg:P.globalNamed name=some g) (hty:(P.globals[g]?).map (·.type)=some t) (ht:P.underlying t=some (.array n e)) (he:P.underlying e=some (.int k)) (hce:P.cellsOf e=1) (hct:P.cellsOf t=n)
  (h:Lib.VarReads P W name (Lib.tabData k zs)):Lib.TabIs P W name k zs:=by
 obtain⟨g',t',cs,fuel,p,hg',ht',hvar,hd⟩:=h
 obtain rfl:=Option.some.inj (hg.symm.trans hg')
 obtain rfl:=Option.some.inj (hty.symm.trans ht')
 unfold Lib.TabIs
 rw [hvar,← Lib.cells_of_tab ht he hce hct hd]
theorem qkl {P:Program} {W:World} {name s:String} {d:DataW Unit} {g:Nat} {t:TypeId} {ms:Array (String×TypeId)}
  (hg:P.globalNamed name=some g) (hty:(P.globals[g]?).map (·.type)=some t) (ht:P.underlying t=some (.interface ms))
  (h:Lib.VarReads P W name (.iface s d)):∃ tp p,W.var? P name=some #[.iface tp p]:=by
 obtain⟨g',t',cs,fuel,p,hg',ht',hvar,hd⟩:=h
 obtain rfl:=Option.some.inj (hg.symm.trans hg')
 obtain rfl:=Option.some.inj (hty.symm.trans ht')
 cases fuel with
 |zero=>simp [DataW.trod] at hd
 |succ fuel=>
  obtain⟨l⟩:=cs
  simp only [DataW.trod,ht] at hd
  split at hd
  all_goals simp_all
section
variable {H : Type} {enc : TypeId × Value → H} {P : Program}
theorem qt8 {f:Func} {s:ChangeSpec} {qbk fresh handsOn again:Bool} {W W':World} {args:Array Value} {v:Value} {ds gs:List (DataW H)} {before pa pv:List MemPlace}
  (hW:DataW.Whole enc P f.params.toList s.vars qbk W args.toList ds gs before)
  (hres:∀ (b:Nat) (sp:Nat→Bool) (hd:Bool),DataW.TrodAll enc P W' b sp hd f.resultTypes.toList (v.resultList f.resultTypes.size) (s.fn H (ds++gs)).results [])
  (hargs:∀ sp:Nat→Bool,(∀ p∈before,sp p.block=true)→DataW.TrodAll enc P W' 0 sp true f.params.toList args.toList (s.fn H (ds++gs)).args pa)
  (hvars:∀ sp:Nat→Bool,(∀ p∈before,sp p.block=true)→DataW.TrodVars enc P W' sp s.vars (s.fn H (ds++gs)).vars pv)
  (hps:before=pa++pv) (hb:Below W.heap.size W W')
  (hok:∀ (j:Nat) (t:TypeId) (r:Value),f.resultTypes[j]? = some t→(v.resultList f.resultTypes.size)[j]? = some r→Value.okWide P W' .any 0 t r) :
  s.post enc P f qbk fresh handsOn again W args v W':=by
 have hlt:∀ p∈before,p.block<W.heap.size:=fun p hp=>hW.lt p hp
 have hold:∀ p∈before,(fun b=>decide (b<W.heap.size)) p.block=true:=fun p hp=>by simpa using hlt p hp
 refine⟨ds,gs,before,[],pa,pv,hW,hres _ _ _,hargs _ hold,hvars _ hold,World.keptBut_mono (fun p hp=>⟨hp,?_⟩) (hb.frame (·∈before)),fun _=>?_⟩
 ·rw [hps,List.mem_append] at hp
  exact Or.inr hp
 ·obtain⟨_,_,_,_,_,hz,hn⟩:=hW
  refine⟨hok,_,_,([]++pa)++pv,⟨[]++pa,pv,trodAll_append (hargs _ (fun _ _=>rfl)) (hres _ _ _),hvars _ (fun _ _=>rfl),rfl,?_,?_⟩,?_⟩
  ·intro b off hp
   have hin:MemPlace.cell b off∈before:=by rw [hps];simpa using hp
   rw [hb.frozen (hlt _ hin)]
   exact hz b off hin
  ·intro ha
   have:=hn ha
   rw [hps] at this
   simpa using this
  ·intro p hp _
   rw [hps]
   simpa using hp
end
end Go.Av
namespace Go.Proofs.YtneejjefekdgjaaGreatDoor
open Go Go.Av Go.RowKit
theorem zcz:((List.range 436).filter fun t=>Tryz.prog.rowNamed t [101,114,114,111,114])=[24]:=by kernel_rfl
theorem zdr : (Tryz.prog.cutTypes.find? (·.1 == "internal/reflectlite.rtype")).map (·.2) = some 381 := by kernel_rfl
theorem zds:Tryz.prog.types.size=436:=by kernel_rfl
theorem zdn:typeHandle Tryz.prog 24 = .pointer (some ⟨9,24,none⟩):=by kernel_rfl
theorem q84 : Tryz.prog.globalNamed "errors.errorType" = some 3 := by kernel_rfl
theorem qwj {l : List (String × DataW Unit)} (h : (l.all fun x => x.1 == "errors.errorType" || x.2.handleName?.isNone) = true) {x : String × DataW Unit} (hx : x ∈ l) (hn : (x.1 == "errors.errorType") = false) : x.2.handleName?.isNone = true := by
 have:=List.all_eq_true.1 h x hx
 rw [hn] at this
 simpa using this
theorem qwa {P:Program} {w0:World} {laid:List (String×DataW Unit)} (args:Array Value) (hf:w0.layFits P laid []=true) (hi:w0.layIfaces P laid (w0.layVars P laid)=true) :
  laidMet P laid ((w0.layVars P laid).forCall (fun _ _=>0) ⟨#[],args,[]⟩).memory:=by
 have e1:(laid.filter fun x=>(laid.map Prod.fst).contains x.1)=laid:=List.filter_eq_self.2 fun x hx=>List.contains_iff_mem.2 (List.mem_map_of_mem hx)
 have e2:(laid.filter fun x=> !(laid.map Prod.fst).contains x.1)=[]:=List.filter_eq_nil_iff.2 fun x hx=>by
  rw [List.contains_iff_mem.2 (List.mem_map_of_mem (f:=Prod.fst) hx)]
  simp
 have h:laidMet P laid (w0.layVars P laid):=laidMet_layVars (w0:=w0) (laid.map Prod.fst) [] (by rw [e1]) (by rw [e1];exact hf) (by rw [e1];exact hi) (by rw [e2];exact LaidIn.none)
 exact h.of_heap (by simp [World.memory,World.forCall,Input.heap])
noncomputable def zdl (os:Os):World:={ World.holding Tryz.prog os ⟨#[],#[],[]⟩ with heap:=(World.holding Tryz.prog os ⟨#[],#[],[]⟩).heap.modify 3 fun
 | .cells _ t fz=>.cells #[.iface 381 (.agg #[.pointer (some ⟨9,24,none⟩)])] t fz
 |o=>o }
theorem zao {l:List (String×DataW Unit)} {W:World}
  (hp : (l.filter fun x => x.2.handleName?.isSome) = [("errors.errorType", Rows.laid_errors_errorType)] ∧ (l.all fun x => x.1 == "errors.errorType" || x.2.handleName?.isNone) = true)
  (hL:laidMetH Tryz.prog l W) (hs:W.ShapedOpen Tryz.prog)
  (h1 : ("internal/strconv.uint64pow10", Rows.laid_internal_strconv_uint64pow10) ∈ l) (h2 : ("strconv.ErrSyntax", Rows.laid_strconv_ErrSyntax) ∈ l) (h3 : ("strconv.ErrRange", Rows.laid_strconv_ErrRange) ∈ l) : E.L W.heap.size W := by
 unfold laidMetH at hL
 rw [hp.1] at hL
 simp only at hL
 intro w hb
 obtain⟨hL,hH⟩:=hL
 have h1:=(List.mem_filter (p:=fun x=>x.2.handleName?.isNone)).2 ⟨h1,qwj hp.2 h1 (by decide)⟩
 have h2:=(List.mem_filter (p:=fun x=>x.2.handleName?.isNone)).2 ⟨h2,qwj hp.2 h2 (by decide)⟩
 have h3:=(List.mem_filter (p:=fun x=>x.2.handleName?.isNone)).2 ⟨h3,qwj hp.2 h3 (by decide)⟩
 obtain⟨name,u,ty,e1,e2,e3,e4,e5⟩:=hH _ (List.mem_singleton.2 rfl)
 have en:name=[101,114,114,111,114]:=(Option.some.inj e1).symm
 subst en
 obtain rfl:=Option.some.inj (zdr.symm.trans e2)
 have hm:ty∈(List.range 436).filter fun t=>Tryz.prog.rowNamed t [101,114,114,111,114]:=List.mem_filter.2 ⟨List.mem_range.2 (by rw [← zds];exact e3),e4⟩
 rw [zcz] at hm
 obtain rfl:=List.mem_singleton.1 hm
 rw [zdn] at e5
 have hv:=World.var?_cell q84 (Go.Joins.var_stays q84 e5 hb (Nat.le_refl _)) 0
 have g1 : Tryz.prog.globalNamed "internal/strconv.uint64pow10" = some 4 := by kernel_rfl
 have g2 : Tryz.prog.globalNamed "strconv.ErrSyntax" = some 1 := by kernel_rfl
 have g3 : Tryz.prog.globalNamed "strconv.ErrRange" = some 2 := by kernel_rfl
 have t1:=qr6 (k:=.u64) (zs:=Lib.pow10Tab) (t:=399) (e:=262) (n:=20) g1 (by kernel_rfl) (by kernel_rfl) (by kernel_rfl) (by kernel_rfl) (by kernel_rfl) (Lib.laidMet.reads hL h1)
 obtain⟨tp2,p2,v2⟩:=qkl (t:=24) g2 (by kernel_rfl) rfl (Lib.laidMet.reads hL h2)
 obtain⟨tp3,p3,v3⟩:=qkl (t:=24) g3 (by kernel_rfl) rfl (Lib.laidMet.reads hL h3)
 exact⟨hs.keptBut (hb.frame (fun _=>False)) (fun _ h=>h.elim),Go.Joins.var_stays g1 t1 hb (Nat.le_refl _),⟨tp2,p2,Go.Joins.var_stays g2 v2 hb (Nat.le_refl _)⟩,⟨tp3,p3,Go.Joins.var_stays g3 v3 hb (Nat.le_refl _)⟩,by simpa using hv⟩
end Go.Proofs.YtneejjefekdgjaaGreatDoor
namespace Go.Pl
open Go
abbrev qa:=List UInt8
theorem qb1 (l:qa) (c:UInt8):0≤Lib.index l [c]↔c∈l:=by
 induction l with
 |nil=>simp [Lib.index]
 |cons b l ih=>
  have hge:=Lib.index_ge l [c]
  unfold Lib.index
  by_cases hb:c=b
  ·subst hb
   simp [List.isPrefixOf]
  ·have hp:([c]:qa).isPrefixOf (b::l)=false:=by simp [List.isPrefixOf,hb]
   rw [hp]
   by_cases hm:Lib.index l [c] = -1
   ·have:c∉l:=fun h=>by have:=ih.2 h;omega
    simp [hm,hb,this]
   ·have:c∈l:=ih.1 (by omega)
    simp [hm,this]
    omega
theorem qk3 (l:qa) (c:UInt8):Lib.contains l [c]=decide (c∈l):=by
 unfold Lib.contains
 by_cases h:c∈l
 ·simp [h,(qb1 l c).2 h]
 ·have:¬ 0≤Lib.index l [c]:=fun h'=>h ((qb1 l c).1 h')
  simp [h,this]
theorem qkk (l:qa) (c:UInt8):Lib.hasPrefix l [c]=decide (l.head? = some c):=by
 cases l with
 |nil=>simp [Lib.hasPrefix]
 |cons b l=>
  by_cases h:c=b
  ·simp [Lib.hasPrefix,List.isPrefixOf,h]
  ·simp [Lib.hasPrefix,List.isPrefixOf,h,Ne.symm h]
def w6 (c:UInt8):Prop:=c=32∨c=9
instance (c:UInt8):Decidable (w6 c):=inferInstanceAs (Decidable (c=32∨c=9))
def qe5 (l:qa):Prop:=∃ c,l.head? = some c∧w6 c
instance (l:qa):Decidable (qe5 l):=
 match l with
 | []=>.isFalse (by rintro⟨c,h,_⟩;simp at h)
 |c::r=>decidable_of_iff (w6 c) ⟨fun h=>⟨c,rfl,h⟩,fun ⟨d,h,hd⟩=>by simp at h;subst h;exact hd⟩
def qcd (l:qa):Prop:=l≠[]∧l.length≤32∧¬ qe5 l∧¬ l.head? = some 35∧58∉l∧10∉l
instance (l:qa):Decidable (qcd l):=inferInstanceAs (Decidable (_∧_∧_∧_∧_∧_))
theorem qrj (c:UInt8) (l:qa):Lib.contains [32,9] [c]=decide (qe5 (c::l)):=by
 rw [qk3]
 have:qe5 (c::l)↔w6 c:=⟨fun ⟨d,h,hd⟩=>by simp at h;subst h;exact hd,fun h=>⟨c,rfl,h⟩⟩
 simp [this,w6]
def upto (c:UInt8) (l:qa):qa:=l.takeWhile (·≠c)
def past (c:UInt8) (l:qa):qa:=l.drop ((upto c l).length+1)
theorem qp5 (c:UInt8) (l:qa) (h:c∈l):Lib.index l [c]=((upto c l).length:Int):=by
 induction l with
 |nil=>simp at h
 |cons b l ih=>
  unfold Lib.index upto
  by_cases hb:b=c
  ·subst hb;simp [List.isPrefixOf]
  ·have hp:([c]:qa).isPrefixOf (b::l)=false:=by simp [List.isPrefixOf,Ne.symm hb]
   have hl:c∈l:=by simpa [Ne.symm hb] using h
   have e:=ih hl
   rw [hp]
   have:(Lib.index l [c] == -1)=false:=by rw [e];simp
   simp only [this]
   rw [e]
   simp [hb,upto]
theorem qh6 (c:UInt8) (l:qa):l.take (upto c l).length=upto c l:=by
 induction l with
 |nil=>simp [upto]
 |cons b l ih=>
  by_cases hb:b=c
  ·simp [upto,hb]
  ·have:upto c (b::l)=b::upto c l:=by simp [upto,hb]
   rw [this]
   simp [ih]
theorem qda {c:UInt8} {l:qa} (h:c∉l):upto c l=l:=by
 induction l with
 |nil=>rfl
 |cons b l ih=>
  have hb:b≠c:=fun e=>h (by simp [e])
  have:upto c (b::l)=b::upto c l:=by simp [upto,hb]
  rw [this,ih (fun h'=>h (by simp [h']))]
theorem ki (c:UInt8) (l:qa):(upto c l).length≤l.length:=by
 have:=congrArg List.length (qh6 c l)
 simp at this
 omega
theorem qco {c:UInt8} {l:qa} (h:c∈l):(upto c l).length<l.length:=by
 induction l with
 |nil=>simp at h
 |cons b l ih=>
  by_cases hb:b=c
  ·simp [upto,hb]
  ·have:upto c (b::l)=b::upto c l:=by simp [upto,hb]
   rw [this]
   have:=ih (by simpa [Ne.symm hb] using h)
   simp
   omega
theorem jz (c:UInt8) (l:qa):(past c l).length=l.length - ((upto c l).length+1):=by simp [past]
theorem q90 (c:UInt8) (l:qa):Lib.cut l [c]=(upto c l,past c l,decide (c∈l)):=by
 unfold Lib.cut
 by_cases h:c∈l
 ·rw [if_pos ((qb1 l c).2 h),qp5 c l h]
  simp [qh6,past,h]
 ·rw [if_neg (fun h'=>h ((qb1 l c).1 h'))]
  simp [qda h,past,h]
theorem xj {c:UInt8} {l:qa} (h:l≠[]):(past c l).length<l.length:=by
 rw [jz]
 have:=List.length_pos_iff.2 h
 omega
def zb (l:qa):List (qa×Bool):=
 if h:l=[] then [] else (upto 10 l,decide (10∈l))::zb (past 10 l)
 termination_by l.length
 decreasing_by exact xj h
theorem kq:zb []=[]:=by rw [zb];simp
theorem vk {l:qa} (h:l≠[]):zb l=(upto 10 l,decide (10∈l))::zb (past 10 l):=by rw [zb];simp [h]
def xi (b:Bool):qa:=if b then [10] else []
def kl (by' l:qa):qa×Bool:=
 if ∀ x∈zb l,by' <+: x.1 then ((zb l).flatMap fun x=>x.1.drop by'.length++xi x.2,true) else ([],false)
theorem qc1 (l m:qa):(Lib.trimPrefix l m).length≤l.length:=by
 unfold Lib.trimPrefix
 split
 ·simp
 ·exact Nat.le_refl _
theorem ww (l m:qa):Lib.hasPrefix l m=true↔m <+: l:=by
 unfold Lib.hasPrefix
 exact List.isPrefixOf_iff_prefix
theorem qbb {l m:qa} (h:m <+: l):Lib.trimPrefix l m=l.drop m.length:=by
 unfold Lib.trimPrefix
 rw [if_pos ((ww l m).2 h)]
theorem wx {c:UInt8} {a:qa} (r:qa) (h:c∉a):upto c (a++c::r)=a:=by
 induction a with
 |nil=>simp [upto]
 |cons b a ih=>
  have hb:b≠c:=fun e=>h (by simp [e])
  have h2:c∉a:=fun e=>h (by simp [e])
  have e:upto c (b::(a++c::r))=b::upto c (a++c::r):=by simp [upto,hb]
  rw [List.cons_append,e,ih h2]
theorem xy {c:UInt8} {a:qa} (r:qa) (h:c∉a):past c (a++c::r)=r:=by
 unfold past
 rw [wx r h,show a++c::r=(a++[c])++r by simp,show a.length+1=(a++[c]).length by simp,List.drop_left]
theorem yn {c:UInt8} {l:qa} (h:c∈l):l=upto c l++c::past c l:=by
 induction l with
 |nil=>simp at h
 |cons b l ih=>
  by_cases hb:b=c
  ·subst hb;simp [upto,past]
  ·have h2:c∈l:=by simpa [Ne.symm hb] using h
   have e1:upto c (b::l)=b::upto c l:=by simp [upto,hb]
   have e2:past c (b::l)=past c l:=by simp [past,e1]
   rw [e1,e2,List.cons_append,← ih h2]
theorem qcg (c:UInt8) (l:qa):c∉upto c l:=by
 induction l with
 |nil=>simp [upto]
 |cons b l ih=>
  by_cases hb:b=c
  ·simp [upto,hb]
  ·have e1:upto c (b::l)=b::upto c l:=by simp [upto,hb]
   rw [e1]
   simp [Ne.symm hb,ih]
def ju (l:qa):qa:=l.takeWhile (·≠58)
theorem qyc (l:qa) (h:58∈l):Lib.index l [58]=((ju l).length:Int):=by
 induction l with
 |nil=>simp at h
 |cons b l ih=>
  unfold Lib.index ju
  by_cases hb:b=58
  ·subst hb;simp [List.isPrefixOf]
  ·have hp:([58]:qa).isPrefixOf (b::l)=false:=by simp [List.isPrefixOf,Ne.symm hb]
   have hl:58∈l:=by simpa [Ne.symm hb] using h
   have e:=ih hl
   rw [hp]
   have:(Lib.index l [58] == -1)=false:=by rw [e];simp
   simp only [this]
   rw [e]
   simp [hb,ju]
theorem qxi (l:qa):l.take (ju l).length=ju l:=by
 induction l with
 |nil=>simp [ju]
 |cons b l ih=>
  by_cases hb:b=58
  ·simp [ju,hb]
  ·have:ju (b::l)=b::ju l:=by simp [ju,hb]
   rw [this]
   simp [ih]
def xz (l:qa):qa:=l.drop ((ju l).length+1)
theorem qss (l:qa):Lib.cut l [58]=if 58∈l then (ju l,xz l,true) else (l,[],false):=by
 unfold Lib.cut
 by_cases h:58∈l
 ·rw [if_pos ((qb1 l 58).2 h),if_pos h,qyc l h]
  simp [qxi,xz]
 ·rw [if_neg (fun h'=>h ((qb1 l 58).1 h')),if_neg h]
def qr (l:qa):Int:=
 if 10∈l then 5 else if ∀ c∈l,w6 c then 1 else if l.head? = some 35 then 2 else if qe5 l then 3
 else if 58∈l∧qcd (ju l) then 4 else 5
theorem qye {l:qa} (h:10∉l) (hb:¬ ∀ c∈l,w6 c):0<l.length∧qr l=if l.getD 0 0=35 then 2 else if w6 (l.getD 0 0) then 3 else if 58∈l∧qcd (ju l) then 4 else 5:=by
 cases l with
 |nil=>simp at hb
 |cons c l=>
  have e:qe5 (c::l)↔w6 c:=⟨fun ⟨d,h,hd⟩=>by simp at h;subst h;exact hd,fun h=>⟨c,rfl,h⟩⟩
  refine⟨by simp,?_⟩
  unfold qr
  rw [if_neg h,if_neg hb]
  simp [e]
theorem qki {α : Type} (p : α→Bool) (l:List α):l.dropWhile p=[]↔∀ x∈l,p x=true:=by
 induction l with
 |nil=>simp
 |cons a l ih=>
  by_cases h:p a=true
  ·simp [h,ih]
  ·simp [h]
theorem q6x {α : Type} (p : α→Bool) (l:List α):(l.reverse.dropWhile p).reverse.dropWhile p=[]↔∀ x∈l,p x=true:=by
 rw [qki]
 constructor
 ·intro h x hx
  by_cases hq:∀ y∈l,p y=true
  ·exact hq x hx
  ·have hr:¬ ∀ y∈l.reverse,p y=true:=fun h'=>hq fun y hy=>h' y (by simpa using hy)
   rw [← qki] at hr
   obtain⟨a,r,hd⟩:=List.exists_cons_of_ne_nil hr
   have h1:=List.head?_dropWhile_not p l.reverse
   rw [hd] at h1
   have h2:=h a (by simp [hd])
   simp [h2] at h1
 ·intro h x hx
  exact h x (by
   have:=(List.dropWhile_sublist (l:=l.reverse) p).subset (by simpa using hx)
   simpa using this)
theorem ql5 (l m:qa):Lib.trimS l m=[]↔∀ c∈l,c∈m:=by
 unfold Lib.trimS Lib.trimLeftS Lib.trimRightS
 rw [q6x]
 simp
theorem qpo (l m:qa):(Lib.cut l m).1.length≤l.length:=by
 unfold Lib.cut
 split
 ·simp;omega
 ·simp
def yc (l:qa):Prop:=2≤l.length∧l.length≤50000∧l.getLast? = some 10∧(kl [32] l).2=true
instance (l:qa):Decidable (yc l):=inferInstanceAs (Decidable (_∧_∧_∧_))
def qhv (n:Nat) (fig:qa):qa:=[37,97,109,101,110,100,32]++Lib.itoa n++[32]++fig++[10]
def qc0 (n:Nat):qa:=[37,101,110,100,32]++Lib.itoa n++[10]
theorem qf8:∀ (k u:Nat),u<10 ^ (k+1)→Lib.nDigits u≤k+1
 | 0,u,h=>by rw [Lib.nDigits_small (by simpa using h)];omega
 |k+1,u,h=>by
  by_cases h':u<10
  ·rw [Lib.nDigits_small h'];omega
  ·rw [Lib.nDigits_big h']
   have:=qf8 k (u / 10) (by rw [Nat.pow_succ] at h;omega)
   omega
theorem qeg (n:Nat) (h:n≤9223372036854775807):(Lib.itoa n).length≤19:=by
 unfold Lib.itoa
 rw [if_neg (by omega),Lib.decDigits_length]
 have:((n:Int)).toNat=n:=by simp
 rw [this]
 exact qf8 18 n (by omega)
theorem qfm (l:qa) (c:UInt8):Lib.hasSuffix l [c]=decide (l.getLast? = some c):=by
 have:Lib.hasSuffix l [c]=true↔l.getLast? = some c:=by
  unfold Lib.hasSuffix
  rw [List.isSuffixOf_iff_suffix,List.singleton_suffix_iff_getLast?_eq_some]
 by_cases h:l.getLast? = some c
 ·simp [this.2 h,h]
 ·have:¬ Lib.hasSuffix l [c]=true:=fun h'=>h (this.1 h')
  simp [this,h]
theorem atoiAll_bounds {l:qa} {v:Int} (h:Lib.atoiAll l = .ok v) : -9223372036854775808≤v∧v≤9223372036854775807:=by
 unfold Lib.atoiAll at h
 cases l with
 |nil=>simp at h
 |cons c r=>
  simp only at h
  split at h
  ·simp at h
  ·simp at h
  ·split at h
   ·simp at h
   ·split at h
    ·simp at h
    ·rename_i h1 h2
     simp only [Lib.NumEnd.ok.injEq] at h
     subst h
     by_cases hn:c.toNat=45
     ·simp only [hn,true_and,not_true,if_true] at *
      omega
     ·simp only [hn,not_false_iff,true_and,if_false] at *
      omega
def kz (l:qa):Nat:=
 match Lib.atoiAll l with
 | .ok v=>if Lib.itoa v=l∧1≤v∧v≤50000 then v.toNat else 0
 | _=>0
def zr:qa:=[37,97,109,101,110,100,32]
def hexL:qa:=[48,49,50,51,52,53,54,55,56,57,97,98,99,100,101,102]
def yf (l:qa):Prop:=∀ c∈l,c∈hexL
instance (l:qa):Decidable (yf l):=inferInstanceAs (Decidable (∀ c∈l,c∈hexL))
theorem qtu (l:qa):Lib.trimS l [48,49,50,51,52,53,54,55,56,57,97,98,99,100,101,102]=[]↔yf l:=ql5 l hexL
def zt (l:qa):Nat×qa×Bool:=
 (kz (upto 32 (Lib.trimPrefix l zr)),past 32 (Lib.trimPrefix l zr),
  decide (zr <+: l∧32∈Lib.trimPrefix l zr∧2≤kz (upto 32 (Lib.trimPrefix l zr))∧(past 32 (Lib.trimPrefix l zr)).length=8∧yf (past 32 (Lib.trimPrefix l zr))))
def qc7 (l:qa):Bool:=
 if zr <+: l then decide (¬ (32∈l.drop 7∧kz (upto 32 (l.drop 7))<2)∧¬ (upto 32 (l.drop 7)≠[]∧kz (upto 32 (l.drop 7))=0)∧(past 32 (l.drop 7)).length≤8∧yf (past 32 (l.drop 7)))
 else decide (l <+: zr)
theorem qwm {l:qa} (h:∀ v,Lib.atoiAll l≠.ok v):kz l=0:=by
 unfold kz
 cases ho:Lib.atoiAll l with
 |ok v=>exact absurd ho (h v)
 | _=>rfl
theorem qqi {l:qa} {v:Int} (h:Lib.atoiAll l = .ok v):(kz l:Int)=if Lib.itoa v=l∧1≤v∧v≤50000 then v else 0:=by
 unfold kz
 rw [h]
 simp only
 split
 ·omega
 ·rfl
theorem qa6 (l:qa):kz l≤50000:=by
 unfold kz
 split
 ·split
  ·omega
  ·omega
 ·omega
def qek (n:Int):Int:=if n<2∨50000<n then 0 else (qhv n.toNat [48,48,48,48,48,48,48,48]).length+n+(qc0 n.toNat).length
theorem qfl (l m:qa):Lib.hasPrefix l m=decide (m <+: l):=by
 by_cases h:m <+: l
 ·simp [(ww l m).2 h,h]
 ·have:¬ Lib.hasPrefix l m=true:=fun h'=>h ((ww l m).1 h')
  simp [this,h]
def qch (body:qa) (lack:Int):Int:=
 if (kl [32] body).2=true∧¬ ((body=[]∨body.getLast? = some 10)∧lack<2) then 2 else 3
theorem rep8:Lib.repeatL [48] 8=[48,48,48,48,48,48,48,48]:=by decide
theorem qdz (n:Nat) (f:qa):(qhv n f).length=(Lib.itoa n).length+f.length+9:=by simp [qhv] <;> omega
theorem qd5 (n:Nat):(qc0 n).length=(Lib.itoa n).length+6:=by simp [qc0] <;> omega
theorem qba {u:Nat} (h:¬ u<10):Lib.decDigits u=Lib.decDigits (u / 10)++Lib.decDigits (u % 10):=by
 rw [Lib.decDigits,dif_neg h,Lib.decDigits_one (Nat.mod_lt u (by omega))]
end Go.Pl
namespace Go.Proofs.YtneejjefekdgjaaGreatDoor
open Go Go.Av Go.RowKit Go.Proofs Go.Pl
theorem qm1 (l:List UInt8) (c:UInt8) (st:List AObj) (hl:l.length<4294967281):ql E 165 [Sv l,Sv [c]] st fun r st'=>r=Bv (decide (c∈l))∧st'=st:=by
 rw [← qk3];exact qpm l [c] st hl
theorem qdy (l:List UInt8) (c:UInt8) (st:List AObj):ql E 164 [Sv l,Sv [c]] st fun r st'=>r=Bv (decide (l.head? = some c))∧st'=st:=by
 rw [← qkk];exact qcu l [c] st
theorem qy4 (l:List UInt8) (st:List AObj):ql E 163 [Sv l] st fun r st'=>r=Bv (decide (qe5 l))∧st'=st:=by
 refine q6 (qu _) (qp Tryz.func163 rfl (Nat.le_of_ble_eq_true rfl) ?_)
 cases l with
 |nil=>
  repeat' (first|apply qm|apply qg|apply qf|apply qk|apply qh|(apply jl;(iterate 3 exact rfl))|(apply za;(iterate 4 exact rfl))|(apply qbz;exact cRa)|(apply qn;exact rfl;apply pk_f;exact cRa)|apply qx)
  refine qo rfl (zi rfl) ⟨congrArg Bv (?_:_=_),_,rfl⟩
  simp [qe5]
 |cons c l=>
  have hne:¬ (c::l)=[]:=by simp
  repeat' (first|apply qm|apply qg|apply qf|apply qk|apply qh|(apply jl;(iterate 3 exact rfl))|(apply za;(iterate 4 exact rfl))|(apply qa4;exact cAo)|(apply qn;exact rfl;apply qbp;exact cAo)|apply qx|refine qcp rfl rfl rfl ⟨_,rfl⟩ (by omega) (by omega) (by simp;omega) ?_|(apply qi;exact Tryz.call165;exact qpm _ _ _ (by simp)))
  refine qo rfl (zi rfl) ⟨congrArg Bv (?_:_=_),_,rfl⟩
  exact qrj c l
theorem q87 (l:List UInt8) (st:List AObj) (hl:l.length<4294967281):ql E 99 [Sv l] st fun r st'=>r=Bv (decide (qcd l))∧st'=st:=by
 refine q6 (qu _) (qp Tryz.func99 rfl (Nat.le_of_ble_eq_true rfl) ?_)
 repeat' (first|apply qm|apply qg|apply qf|apply qk|apply qh|(apply q5;(iterate 3 exact rfl))|(apply jl;(iterate 3 exact rfl))|(apply jf;exact rfl)|(apply za;(iterate 4 exact rfl))|(apply qbx;exact cAo)|(apply qby;exact cAo)|(apply qs3;exact cRa)|(apply qp0;exact cRa)|(apply qji <;> intro h)|(apply qat;exact cRa)|(apply xe <;> intro h)|(apply qn;exact rfl;apply qbp;exact cAo)|(apply qn;exact rfl;apply qci;exact cAo)|(apply qn;exact rfl;apply qjx;exact cRa)|(apply qn;exact rfl;apply qf9;exact cRa)|(apply qn;exact rfl;apply pk_t;exact cRa)|(apply qc;exact rfl;apply cd_t;exact cRa)|(apply qc;exact rfl;apply cd_d <;> intro h)|(apply vw;(iterate 3 exact rfl))|apply qz|apply qx|(apply qi;exact Tryz.call165;exact qm1 _ _ _ hl)|(apply qi;exact Tryz.call164;exact qdy _ _ _)|(apply qi;exact Tryz.call163;exact qy4 _ _))
 all_goals refine qo rfl (zi rfl) ⟨congrArg Bv (?_:_=_),_,rfl⟩
 all_goals simp [qcd, *]
 all_goals omega
theorem E_ok:q8z E:=fun _ _ _ h hb hB _ h2=>h _ (hb.trans (h2.mono hB))
theorem qit (l:List UInt8) (st:List AObj) (hl:l.length<4294967281):ql E 122 [Sv l] st fun r st'=>r=Iv (qr l)∧st'=st:=by
 refine q6 (qu _) (qp Tryz.func122 rfl (Nat.le_of_ble_eq_true rfl) ?_)
 repeat' (first|apply qm|apply q8|apply qg|apply qf|apply qk|apply qh|(apply ze;exact rfl;exact rfl)|(apply jl;(iterate 3 exact rfl))|(apply za;(iterate 4 exact rfl))|(apply qc6;exact cRa)|(apply qbz;exact cRa)|(apply qgz <;> intro h)|(apply qn;exact rfl;apply pk_t;exact cRa)|(apply qn;exact rfl;apply pk_f;exact cRa)|(apply qc;exact rfl;apply cd_f;exact cRa)|(apply qc;exact rfl;apply cd_d <;> intro h)|apply qz|apply qx|(apply qi;exact Tryz.call165;exact qm1 _ _ _ hl)|(apply qi;exact Tryz.call209;exact q5u _ _ _ (by omega) (by simp) (by intro j b h;match j with | 0=>simp at h;subst h;decide | 1=>simp at h;subst h;decide|j+2=>simp at h))|(apply qi;exact Tryz.call164;exact qdy _ _ _)|(apply qi;exact Tryz.call163;exact qy4 _ _)|(apply qi;exact Tryz.call72;exact qpn _ _ _ hl)|(apply qi;exact Tryz.call99;exact q87 _ _ (Nat.lt_of_le_of_lt (qpo _ _) hl)))
 all_goals refine qo rfl (zi rfl) ⟨congrArg Iv (?_:_=_),_,rfl⟩
 all_goals have hb:Lib.trimS l [32,9]=[]↔∀ c∈l,w6 c:=by rw [ql5];simp [w6]
 all_goals by_cases hA:∀ c∈l,w6 c <;> by_cases hC:58∈l <;> by_cases hK:qcd (ju l) <;> simp_all [qr,qss]
end Go.Proofs.YtneejjefekdgjaaGreatDoor
namespace Go.Proofs
open Go.Shelf Go.RowKit
variable {P : Program} {ρ : Ren}
set_option maxHeartbeats 4000000 in
theorem qpj (L:Lays.n169 P ρ) (X:Builder.Extra P ρ) (b n c:Nat) (ad:Option Addr) (q:Value) (str:ByteArray) (w w2:World) (c1:w.drew.cell? ⟨b,1,none⟩=some (.slice ad n c))
  (hSD:(Builtin.unsafeSliceData_ #[(ρ.t 37)] (ρ.t 127) #[.slice ad n c]).run P w.drew = .ok q w.drew)
  (hUS:(Builtin.unsafeString_ #[(ρ.t 127),(ρ.t 3)] (ρ.t 9) #[q,.int .i64 n]).run P w.drew = .ok (.string str) w2) :
  Calls P (ρ.f 169) #[.pointer (some ⟨b,0,none⟩)] w fun e w'=>e = .returned (.string str)∧w'=w2:=by
 have mixed:=L.mixed
 have t72:=L.t72;have a72:=L.a72;have z72:=L.z72;have v72:=L.v72;have u72:=run_underlying L.t72
 have t70:=L.t70;have a70:=L.a70;have z70:=L.z70;have v70:=L.v70;have u70:=run_underlying L.t70
 have t37:=L.t37;have a37:=L.a37;have z37:=L.z37;have v37:=L.v37;have u37:=run_underlying L.t37
 have t127:=L.t127;have a127:=L.a127;have z127:=L.z127;have v127:=L.v127;have u127:=run_underlying L.t127
 have t3:=L.t3;have a3:=L.a3;have z3:=L.z3;have v3:=L.v3;have u3:=run_underlying L.t3
 have t9:=L.t9;have a9:=L.a9;have z9:=L.z9;have v9:=L.v9;have u9:=run_underlying L.t9
 have t5:=X.t5;have a5:=X.a5;have z5:=X.z5;have v5:=X.v5;have u5:=run_underlying X.t5
 go_enter L.f169,Body.n169_ntmps ρ
 go_wp2
 go_region_o
 all_goals (go_wp2;go_ret;exact⟨rfl,rfl⟩)
end Go.Proofs
namespace Go.Proofs.YtneejjefekdgjaaGreatDoor
open Go Go.Av Go.RowKit Go.Proofs
@[reducible] def bldO (ver : Nat) (q : AV) (l : List UInt8) (tp : Nat) : AObj := .cells ver 246 [q, .sl 1 (l.map Uv) (some tp)]
theorem qwi (v:Value) (w:World):(callFunc 295 #[v]).run E.P w = .ok (.value v) w:=by
 have h:=run_callFunc_extern (P:=E.P) Tryz.func295 (by kernel_rfl) (by kernel_rfl) (by kernel_rfl) (e:=Extern.AbiNoEscape.same) (by kernel_rfl) #[v] w
 rw [h,Lib.run_noEscape]
 rfl
theorem qy7 (o ver:Nat) (q buf:AV) (st:List AObj) (ho:st[o]? = some (.cells ver 246 [q,buf])) (hq:q = .v (.pointer none)∨q = .bx o ver 0) :
  ql E 238 [.bx o ver 0] st fun r st'=>r = .tu []∧st'=st.set o (.cells ver 246 [.bx o ver 0,buf]):=by
 have ho':(st++[])[o]? = some (.cells ver 246 [q,buf]):=by rw [List.append_nil];exact ho
 refine qp Tryz.func238 rfl (Nat.le_of_ble_eq_true rfl) ?_
 rcases hq with rfl|rfl
 ·skip
  repeat' (first|apply qm|apply qg|apply qf|apply qk|(apply qc;exact rfl;apply cd_t;exact cRa)|(apply zf;(iterate 3 exact rfl))|(apply wv;exact rfl;exact rfl)|(apply qa9;(iterate 3 exact rfl))|(apply j8;exact rfl;exact ho';exact rfl;exact rfl)|(apply xk;exact rfl;exact rfl;exact ho';(iterate 6 exact rfl))|(apply qtz;exact rfl;exact ho';(simp);exact rfl;exact rfl;kernel_rfl)|(apply qo4;exact rfl;exact ho';(iterate 3 exact rfl);kernel_rfl)|(apply qtx;exact qwi;exact rfl))
  refine qo rfl (x5 rfl) ⟨rfl,?_⟩
  show (st++[]).set o _=_
  rw [List.append_nil]
  rfl
 ·skip
  repeat' (first|apply qm|apply qg|apply qf|apply qk|(apply qc;exact rfl;apply cd_f;exact cRa)|(apply zf;(iterate 3 exact rfl))|(apply wv;exact rfl;exact rfl)|(apply qa9;(iterate 3 exact rfl))|apply qz|(apply j8;exact rfl;exact ho';exact rfl;exact rfl)|(apply qrb;exact rfl;exact rfl;exact ho';exact rfl;exact rfl))
  refine qo rfl (x5 rfl) ⟨rfl,?_⟩
  show st++[]=_
  rw [List.append_nil,q8j ho]
theorem qy9:xp E.P 5 1 1:=⟨_,_,rfl,rfl,rfl,rfl,rfl⟩
theorem qu8 (o ver tp:Nat) (q:AV) (l m:List UInt8) (st:List AObj) (ho:st[o]? = some (bldO ver q l tp)) (ht:st[tp]? = some (.tip l.length 1 5)) (hq:q = .v (.pointer none)∨q = .bx o ver 0) (hlen:l.length+m.length≤140737488355328) :
  ql E 168 [.bx o ver 0,Sv m] st fun r st'=>r = .tu [Iv m.length,.v .nilIface]∧st'=(st.set o (bldO ver (.bx o ver 0) (l++m) tp)).set tp (.tip (l.length+m.length) 1 5):=by
 have hne:tp≠o:=fun e=>by rw [e,ho] at ht;simp at ht
 have ho':(st++[])[o]? = some (bldO ver q l tp):=by rw [List.append_nil];exact ho
 have ht':(st++[])[tp]? = some (.tip l.length 1 5):=by rw [List.append_nil];exact ht
 have h2:=js (y:=.cells ver 246 [.bx o ver 0,.sl 1 (l.map Uv) (some tp)]) ho'
 have h3:=j9 (y:=.cells ver 246 [.bx o ver 0,.sl 1 (l.map Uv) (some tp)]) ht' (Ne.symm hne)
 have h4:=j9 (y:=.tip (l.length+m.length) 1 5) h2 hne
 have h5:maxLen=140737488351232∨True:=.inr trivial
 refine qp Tryz.func168 rfl (Nat.le_of_ble_eq_true rfl) ?_
 repeat' (first|apply qm|apply qg|apply qf|apply qk|apply qh|(apply vw;(iterate 3 exact rfl))|(apply zf;(iterate 3 exact rfl))|(apply wv;exact rfl;exact rfl)|apply qx|(apply qi;exact Tryz.call238;exact qy7 o ver q _ (st++[]) ho' hq)|(apply j8;exact rfl;exact h2;exact rfl;exact rfl)|(apply quu;exact rfl;exact rfl;exact h3;(simp);exact rfl;exact rfl;exact qy9;(simp only [maxLen];omega);omega)|(apply xk;exact rfl;exact rfl;exact h4;(iterate 6 exact rfl)))
 refine qo rfl (vz rfl) ⟨rfl,?_⟩
 show (((st++[]).set o _).set tp _).set o (.cells ver 246 [.bx o ver 0,.sl 1 (l.map Uv++m.map Uv) (some tp)])=_
 rw [List.append_nil,List.set_comm _ _ hne,List.set_set,← List.map_append]
theorem q9p (o ver tp:Nat) (q:AV) (l:List UInt8) (c:UInt8) (st:List AObj) (ho:st[o]? = some (bldO ver q l tp)) (ht:st[tp]? = some (.tip l.length 1 5)) (hq:q = .v (.pointer none)∨q = .bx o ver 0) (hlen:l.length+1≤140737488355328) :
  ql E 242 [.bx o ver 0,Uv c] st fun r st'=>r = .v .nilIface∧st'=(st.set o (bldO ver (.bx o ver 0) (l++[c]) tp)).set tp (.tip (l.length+1) 1 5):=by
 have hne:tp≠o:=fun e=>by rw [e,ho] at ht;simp at ht
 have ho':(st++[])[o]? = some (bldO ver q l tp):=by rw [List.append_nil];exact ho
 have ht':(st++[])[tp]? = some (.tip l.length 1 5):=by rw [List.append_nil];exact ht
 have h2:=js (y:=.cells ver 246 [.bx o ver 0,.sl 1 (l.map Uv) (some tp)]) ho'
 have h3:=j9 (y:=.cells ver 246 [.bx o ver 0,.sl 1 (l.map Uv) (some tp)]) ht' (Ne.symm hne)
 have h4:=j9 (y:=.tip (l.length+1) 1 5) h2 hne
 refine qp Tryz.func242 rfl (Nat.le_of_ble_eq_true rfl) ?_
 repeat' (first|apply qm|apply qg|apply qf|apply qk|apply qh|(apply zf;(iterate 3 exact rfl))|(apply xb;(iterate 9 exact rfl))|(apply wv;exact rfl;exact rfl)|apply qx|(apply qi;exact Tryz.call238;exact qy7 o ver q _ (st++[]) ho' hq)|(apply j8;exact rfl;exact h2;exact rfl;exact rfl)|(apply qmu (m:=1);exact rfl;exact rfl;exact h3;(simp);exact rfl;exact rfl;exact qy9;exact rfl;exact rfl;(simp only [maxLen];omega);omega)|(apply xk;exact rfl;exact rfl;exact h4;(iterate 6 exact rfl)))
 refine qo rfl (zi rfl) ⟨rfl,?_⟩
 show (((st++[]).set o _).set tp _).set o (.cells ver 246 [.bx o ver 0,.sl 1 (l.map Uv++[c].map Uv) (some tp)])=_
 rw [List.append_nil,List.set_comm _ _ hne,List.set_set,← List.map_append]
theorem qsm (o ver tp:Nat) (q:AV) (l:List UInt8) (st:List AObj) (ho:st[o]? = some (bldO ver q l tp)) (ht:st[tp]? = some (.tip l.length 1 5)) :
  ql E 171 [.bx o ver 0] st fun r st'=>r=Sv l∧st'=st.set tp .dead:=by
 refine⟨fun B0 w0 G vals w hL hA hR=>?_⟩
 obtain⟨h0,h1,h2,h3,c,h4,h5,h6⟩:=hA.ob o _ ho
 obtain⟨g0,g1,g2⟩:=hA.ob tp _ ht
 have hne:tp≠o:=fun e=>by rw [e,ho] at ht;simp at ht
 have hvals:vals = #[.pointer (some ⟨(G.ob o).blk,0,none⟩)]:=by
  have hs:vals.size=1:=by have:=hR.1;simpa using this.symm
  have h:=hR.2 0 (.bx o ver 0) vals[0] rfl (by simp [hs])
  apply Array.ext
  ·simp [hs]
  ·intro i hi1 hi2
   have:i=0:=by simp at hi2;omega
   subst this
   have e:vals[0] = .pointer (some ⟨(G.ob o).blk,0,none⟩):=by
    generalize vals[0]=v at h
    cases h with
    |bx _ _ _ b hn e1 e2=>rw [e2 h1]
   simpa using e
 subst hvals
 have hc2:c.size=2:=by rw [← h5];rfl
 have hrel:=h6 1 (.sl 1 (l.map Uv) (some tp)) c[1] rfl (by simp [hc2])
 have hcell:w.drew.cell? ⟨(G.ob o).blk,1,none⟩=some c[1]:=by
  have h4':w.drew.heap[(G.ob o).blk]? = some (.cells c 246 (0,0)):=h4
  simp [World.cell?,h4',hc2]
 generalize hv:c[1]=v at hrel hcell
 have hdrew:Below w.heap.size w w.drew:=⟨rfl,rfl,rfl,Nat.le_refl _,fun _ _=>rfl⟩
 have hA1:=(hA.kill tp).fresh hdrew
 have hl:(l.map Uv).length=l.length:=by simp
 generalize hxs:l.map Uv=xs at hrel
 cases hrel with
 |sl0 _ _ base cap hto=>
  obtain⟨_,rfl,rfl⟩:=hto tp rfl
  have hl0:l=[]:=by simpa using hxs
  subst hl0
  refine (qpj Tryz.lays169 Tryz.Builder_Extra_169 (G.ob o).blk 0 0 none (.pointer none) .empty w w.drew hcell rfl (Lib.run_unsafeString_none w.drew _ _ _ none)).mono ?_
  rintro e w' ⟨rfl,rfl⟩
  exact⟨_,G,Sv [],_,rfl,.refl G,hA1,.v _,rfl,rfl⟩
 |sl _ _ _ b off cap pub hp hw hlen hr hto hcap0=>
  subst hxs
  rw [hl] at hto hcell
  obtain⟨_,hn0,_,hcur⟩:=hto tp rfl
  obtain⟨hb,rfl,hcp,hcm,hcl⟩:=hcur g1
  obtain⟨hB,c2,vs,e1,e2,e3,e4⟩:=g2 hn0
  rw [hb] at e1 e2 hB
  have hcells:∀ j x,l[j]? = some x→w.drew.cell? ((⟨b,0,none⟩:Addr).add j)=some (.int .u8 x.toNat):=fun j x hx=>by
   obtain⟨c3,T3,fz3,k1,k2⟩:=hA.pub b pub hp
   have k1':w.drew.heap[b]? = some (.cells c3 T3 fz3):=k1
   have hj:j<(flat (l.map Uv)).length:=by rw [qf1];simpa using lt_of_getElem? hx
   have hy:pub[0+j]? = some (pub[0+j]'(by omega)):=List.getElem?_eq_getElem (by omega)
   have hrj:=hr j (Uv x) _ (by rw [qf1];simp [hx]) hy
   have:pub[0+j]'(by omega) = .int .u8 x.toNat:=by
    generalize pub[0+j]'(by omega)=y at hrj
    cases hrj;rfl
   rw [this] at hy
   rw [Addr.add_lit]
   simp only [World.cell?,k1']
   simpa using k2 _ _ hy
  have hle:l.length≤c2.size:=by rw [e4,← hcp];omega
  have e1':w.drew.heap[b]? = some (.cells c2 5 (0,0)):=e1
  have hUS:=Lib.run_unsafeString_row (P:=E.P) w.drew 311 3 9 5 rfl (by kernel_rfl) b c2.size (by simp [World.shape?,e1']) l (by rintro rfl;exact hn0 rfl) hle (by simp only [maxLen] at hcm;omega) hcells
  have hSD:(Builtin.unsafeSliceData_ #[244] 311 #[.slice (some ⟨b,0,none⟩) l.length cap]).run E.P w.drew = .ok (.pointer (some ⟨b,0,none⟩)) w.drew:=Lib.run_unsafeSliceData_row _ _ _ _ _ _ (by omega)
  refine (qpj Tryz.lays169 Tryz.Builder_Extra_169 (G.ob o).blk l.length cap (some ⟨b,0,none⟩) _ _ w _ hcell hSD hUS).mono ?_
  rintro e w' ⟨rfl,rfl⟩
  have hfz:∃ fz',(w.drew.freeze ⟨b,0,none⟩ l.length).heap[b]? = some (.cells c2 5 fz'):=by
   unfold World.freeze
   rw [if_neg hn0]
   simp [Array.getElem?_modify,e1']
  obtain⟨fz',hfz⟩:=hfz
  have hoth:∀ k,k≠b→(w.drew.freeze ⟨b,0,none⟩ l.length).heap[k]? = w.drew.heap[k]?:=fun k hk=>by
   unfold World.freeze
   rw [if_neg hn0]
   simp [Array.getElem?_modify,Ne.symm hk]
  refine⟨_,G,Sv l,_,rfl,.refl G,hA1.refroze e1' hfz hoth hB (by unfold World.freeze;rw [if_neg hn0];simp) (by unfold World.freeze;rw [if_neg hn0]) (by unfold World.freeze;rw [if_neg hn0]) (by unfold World.freeze;rw [if_neg hn0]) (fun k x hx hlv=>?_),.v _,rfl,rfl⟩
  rcases getElem?_set' _ _ _ _ _ hx with⟨_,e⟩ | ⟨k1,k2⟩
  ·subst e;exact hlv.elim
  ·have:=hA.sep k tp x _ k1 k2 ht hlv hn0
   rwa [hb] at this
theorem q2v (st loc loc':List AObj) (k kt ver:Nat) (q:AV) (l:List UInt8) (c:UInt8) (hk:loc[k]? = some (bldO ver q l (st.length+kt))) (hkt:loc[kt]? = some (.tip l.length 1 5)) (hq:q = .v (.pointer none)∨q = .bx (st.length+k) ver 0)
  (hlen:l.length+1≤140737488355328) (hl:loc'=(loc.set k (bldO ver (.bx (st.length+k) ver 0) (l++[c]) (st.length+kt))).set kt (.tip (l++[c]).length 1 5)) :
  ql E 242 [.bx (st.length+k) ver 0,Uv c] (st++loc) fun r st'=>r = .v .nilIface∧st'=st++loc':=by
 refine (q9p (st.length+k) ver (st.length+kt) q l c (st++loc) (jb hk) (jb hkt) hq hlen).mono fun r st' ⟨h1,h2⟩=>⟨h1,?_⟩
 rw [h2,w9,w9,hl,List.length_append]
 rfl
end Go.Proofs.YtneejjefekdgjaaGreatDoor
namespace Go.Proofs.YtneejjefekdgjaaGreatDoor
open Go Go.Av Go.RowKit Go.Proofs Go.Pl
theorem qgq (l:List UInt8) (c:UInt8) (st:List AObj) (hl:l.length<4294967281):ql E 72 [Sv l,Sv [c]] st fun r st'=>r = .tu [Sv (upto c l),Sv (past c l),Bv (decide (c∈l))]∧st'=st:=by
 have:=qpn l [c] st hl
 rw [q90] at this
 exact this
@[reducible] def qce (k : Nat) (text rest : List UInt8) : AV := .ag [Iv k, Iv ((text.length : Int) - rest.length), Sv (upto 10 rest), Bv (decide (10 ∈ rest))]
theorem q8m (text:List UInt8) (o kb ver n:Nat) (I:Nat→List UInt8→List AObj→Prop) (D:List AObj→Prop) (st:List AObj) (ht:text.length<4294967281) (h0:I 0 text st)
  (hI:∀ k rest st',I k rest st'→st'.length=n∧st'[kb]? = some (.cells ver 9 [Sv text]))
  (hY:∀ k rest st' own,I k rest st'→rest≠[]→rest.length≤text.length→xo E o [qce k text rest] (st'++[own]) fun b st2=>∃ st3,st2=st3++[own]∧(b=true→I (k+1) (past 10 rest) st3)∧(b=false→D st3)) :
  ql E 121 [.yd o,.bx kb ver 0] st fun r st'=>∃ st3 ext',st'=st3++ext'∧((∃ k,I k [] st3)∨D st3):=by
 refine qp Tryz.func121 rfl (Nat.le_of_ble_eq_true rfl) ?_
 obtain⟨hn,hb⟩:=hI 0 text st h0
 subst hn
 repeat' (first|apply qm|apply q8|apply qg|apply qf|apply qh|(apply jm;exact rfl;exact rfl)|(apply zv;(iterate 11 exact rfl))|(apply x2;(iterate 3 exact rfl))|(apply yv;exact rfl;exact rfl;exact hb;exact rfl;exact rfl))
 refine wy (fun (x:Nat×List UInt8) s=>match x with|(k,rest)=>∃ stk at' ta eb,I k rest stk∧k+rest.length≤text.length∧at'=(text.length:Int) - rest.length∧StA [(0,.yd o),(1,.bx kb ver 0),(3,.bx (st.length+0) 0 0),(4,Sv rest)] (stk++(.cells 0 145 [Iv k,Iv at',Sv ta,Bv eb]::[])) [] s) (fun x=>x.2.length) (0,text)
  ⟨st,0,[],false,h0,by simp,by simp,?_⟩ ?_
 ·exact wa ⟨rfl,rfl,rfl,rfl,trivial⟩
 rintro⟨k,rest⟩ _ ⟨stk,_,ta,eb,hi,hle,rfl,t,rfl⟩
 obtain⟨hn,hb'⟩:=hI k rest stk hi
 repeat' (first|apply qm|apply q8|apply qg|apply qf|apply qk|apply qh|(apply ze;exact rfl;exact rfl)|(apply jl;(iterate 3 exact rfl))|(apply qc;exact rfl;apply cd_d <;> intro h)|(apply zf;(iterate 3 exact rfl))|apply qz|apply vj|(apply qi;exact Tryz.call72;exact qgq _ _ _ (by omega))|(apply y0;exact rfl;assumption;(iterate 10 exact rfl))|(apply qam;exact rfl;assumption;(iterate 4 exact rfl)))
 ·refine qb7 rfl ((hY k rest stk _ hi h (by omega)).mono ?_)
  rintro b _ ⟨st3,rfl,h1,h2⟩
  cases b
  ·skip
   repeat' (first|apply qf|(apply jf;exact rfl)|(apply qc;exact rfl;apply qmc;exact cRa)|apply qx)
   refine qo rfl (x5 rfl) ⟨st3,_,rfl,.inr (h2 rfl)⟩
  ·have hi3:=h1 rfl
   obtain⟨hn3,hb3⟩:=hI _ _ _ hi3
   have hp:=jz 10 rest
   have hr0:0<rest.length:=List.length_pos_iff.2 h
   repeat' (first|apply qm|apply qg|apply qf|apply qk|(apply jf;exact rfl)|(apply qc;exact rfl;apply qpk;exact cRa)|(apply vw;(iterate 3 exact rfl))|(apply z7;exact rfl;exact rfl;exact zj (by omega) (by omega))|(apply qbt;exact rfl;exact rfl;exact zj (by omega) (by omega))|(apply zf;(iterate 3 exact rfl))|apply qz|(apply yv;exact rfl;exact rfl;exact hb3;exact rfl;exact rfl)|(apply y0;exact rfl;assumption;(iterate 10 exact rfl))|(apply qam;exact rfl;assumption;(iterate 4 exact rfl)))
   exact⟨(k+1,past 10 rest),⟨st3,_,_,_,hi3,by omega,rfl,wa ⟨rfl,rfl,rfl,rfl,trivial⟩⟩,by simp only;omega⟩
 ·have hr:rest=[]:=Classical.not_not.1 h
  subst hr
  exact qo rfl (x5 rfl) ⟨stk,_,rfl,.inl ⟨k,hi⟩⟩
theorem qr2 (text:List UInt8) (st st':List AObj) (n:Nat) (hn:st.length=n) (hst:st++[.cells 0 9 [Sv text]]=st'):ql E 67 [Sv text] st fun r st1=>r = .fn (.func 121) [] [.bx n 0 0]∧st1=st':=by
 subst hn
 subst hst
 refine qp Tryz.func67 rfl (Nat.le_of_ble_eq_true rfl) ?_
 repeat' (first|apply qm|apply qg|apply qf|apply qh|apply qfi|(apply qbs;(iterate 4 exact rfl))|apply qx)
 exact qo rfl (zi rfl) ⟨rfl,rfl⟩
theorem q0k (st loc loc':List AObj) (k kt ver:Nat) (q:AV) (l m:List UInt8) (hk:loc[k]? = some (bldO ver q l (st.length+kt))) (hkt:loc[kt]? = some (.tip l.length 1 5)) (hq:q = .v (.pointer none)∨q = .bx (st.length+k) ver 0)
  (hlen:l.length+m.length≤140737488355328) (hl:loc'=(loc.set k (bldO ver (.bx (st.length+k) ver 0) (l++m) (st.length+kt))).set kt (.tip (l++m).length 1 5)) :
  ql E 168 [.bx (st.length+k) ver 0,Sv m] (st++loc) fun r st'=>r = .tu [Iv m.length,.v .nilIface]∧st'=st++loc':=by
 refine (qu8 (st.length+k) ver (st.length+kt) q l m (st++loc) (jb hk) (jb hkt) hq hlen).mono fun r st' ⟨h1,h2⟩=>⟨h1,?_⟩
 rw [h2,w9,w9,hl,List.length_append]
theorem qm0 (st loc loc':List AObj) (k kt ver:Nat) (q:AV) (l:List UInt8) (hk:loc[k]? = some (bldO ver q l (st.length+kt))) (hkt:loc[kt]? = some (.tip l.length 1 5)) (hl:loc'=loc.set kt .dead) :
  ql E 171 [.bx (st.length+k) ver 0] (st++loc) fun r st'=>r=Sv l∧st'=st++loc':=by
 refine (qsm (st.length+k) ver (st.length+kt) q l (st++loc) (jb hk) (jb hkt)).mono fun r st' ⟨h1,h2⟩=>⟨h1,?_⟩
 rw [h2,w9,hl]
@[reducible] def dedL (st : List AObj) (by' text : List UInt8) (q : AV) (acc : List UInt8) (lp : AObj) : List AObj :=
 [.cells 0 9 [Sv by'],.cells 0 9 [Sv []],.cells 0 4 [Bv false],bldO 0 q acc (st.length+5),.cells 0 9 [Sv text],.tip acc.length 1 5,.dfr,lp]
theorem qvk (text by':List UInt8) (st:List AObj) (hl:text.length<4294967281):ql E 264 [Sv text,Sv by'] st fun r st'=>r = .tu [Sv (kl by' text).1,Bv (kl by' text).2]∧st'=st:=by
 refine q6 (qtm _ _) (qp Tryz.func264 rfl (Nat.le_of_ble_eq_true rfl) ?_)
 repeat' (first|apply qm|apply qg|apply qf|apply qk|(apply jm;exact rfl;exact rfl)|(apply qbs;(iterate 4 exact rfl)))
 refine qi Tryz.call67 (qr2 text _ (st++[.cells 0 9 [Sv by'],.cells 0 9 [Sv []],.cells 0 4 [Bv false],.cells 0 246 [.v (.pointer none),zl],.cells 0 9 [Sv text]]) (st.length+4) ?_ ?_) ?_
 ·show (st++[_,_,_,_]).length=_
  simp
 ·show (st++[_,_,_,_])++[_]=_
  rw [List.append_assoc]
  rfl
 repeat' (first|apply q8|apply qf)
 refine qmz (o:=st.length+3) (j:=1) (sz:=1) (T':=5) (jb rfl) rfl ?_
 refine qdf [(3,.bx (st.length+0) 0 0),(4,.bx (st.length+1) 0 0),(5,.bx (st.length+2) 0 0),(6,.bx (st.length+3) 0 0),(11,.fn (.func 121) [] [.bx (st.length+4) 0 0])]
  (st++[.cells 0 9 [Sv by'],.cells 0 9 [Sv []],.cells 0 4 [Bv false],bldO 0 (.v (.pointer none)) [] (st.length+5),.cells 0 9 [Sv text],.tip 0 1 5]) [] ⟨rfl,rfl,rfl,rfl,rfl,trivial⟩ ?_ rfl (fun t=>?_)
 ·show (st++[_,_,_,_,_]).set (st.length+3) (.cells 0 246 [_,.sl 1 [] (some (st++[_,_,_,_,_]).length)])++[_]=_
  rw [w9,List.append_assoc]
  simp
 refine qi9 (st:=st) (loc:=[.cells 0 9 [Sv by'],.cells 0 9 [Sv []],.cells 0 4 [Bv false],bldO 0 (.v (.pointer none)) [] (st.length+5),.cells 0 9 [Sv text],.tip 0 1 5]) rfl rfl Tryz.call121 fun F hF=>?_
 refine ql.mono (q8m text (st.length+7) (st.length+4) 0 (st.length+8)
  (fun _ rest st'=>∃ q acc don,(q = .v (.pointer none)∨q = .bx (st.length+3) 0 0)∧zb text=don++zb rest∧(∀ x∈don,by' <+: x.1)∧acc=don.flatMap (fun x=>x.1.drop by'.length++xi x.2)∧acc.length+rest.length≤text.length∧st'=st++dedL st by' text q acc (F .ready none))
  (fun st'=>(¬ ∀ x∈zb text,by' <+: x.1)∧∃ q acc,st'=st++dedL st by' text q acc (F .done (some .ret)))
  (st++dedL st by' text (.v (.pointer none)) [] (F .ready none)) hl ⟨_,[],[],.inl rfl,rfl,by simp,rfl,by simp,rfl⟩ ?_ ?_) ?_
 ·rintro k rest _ ⟨q,acc,don,hq,h1,h2,h3,h4,rfl⟩
  exact⟨by simp,jb rfl⟩
 ·rintro k rest _ own ⟨q,acc,don,hq,h1,h2,h3,h4,rfl⟩ hne hle
  refine qxz ?_
  rw [List.append_assoc]
  refine qnv hF (jb rfl) rfl fun l=>?_
  repeat' (first|apply qg|apply qf|(apply jm;exact rfl;exact rfl)|(apply zv;(iterate 11 exact rfl)))
  refine⟨jb rfl,rfl,?_⟩
  refine qdf [(3,.bx (st.length+0) 0 0),(4,.bx (st.length+1) 0 0),(5,.bx (st.length+2) 0 0),(6,.bx (st.length+3) 0 0),(7,.bx (st.length+9) 0 0)]
   (st++(dedL st by' text q acc (F .busy none)++[own,.cells 0 145 (qce k text rest).cells])) [] ⟨rfl,rfl,rfl,rfl,rfl,trivial⟩ ?_ rfl (fun t=>?_)
  ·show (st++(dedL st by' text q acc (F .ready none)++[own,_])).set (st.length+7) _=_
   rw [w9]
   rfl
  have hb1:=qc1 (upto 10 rest) by'
  have hb2:=ki 10 rest
  have hmem:(upto 10 rest,decide (10∈rest))∈zb text:=by rw [h1,vk hne];simp
  have hcons:=vk hne
  have hpl:=jz 10 rest
  have hlt:10∈rest→(upto 10 rest).length<rest.length:=qco
  repeat' (first|apply qm|apply q8|apply qg|apply qf|apply qk|apply qh|(apply ze;exact rfl;exact rfl)|(apply jf;exact rfl)|(apply qc;exact rfl;apply cd_n <;> intro h)|(apply qc;exact rfl;apply cd_d <;> intro h)|(apply zf;(iterate 3 exact rfl))|(apply jr;(iterate 5 exact rfl))|(apply zv;(iterate 11 exact rfl))|apply qz|apply qx|(apply qi;exact Tryz.call260;exact qcr _ _ _)|(refine qi Tryz.call168 (q0k st _ _ 3 5 0 _ _ _ rfl rfl ?_ ?_ rfl) ?_;(first|exact hq|exact .inr rfl);(first|omega|(simp;omega))))
  ·have hno:¬ ∀ x∈zb text,by' <+: x.1:=fun hall=>by
    have:=(ww _ _).2 (hall _ hmem)
    simp_all
   refine⟨jb rfl,st++(dedL st by' text q acc (F .done (some .ret))++[own]),[.cells 0 145 (qce k text rest).cells],?_,?_,st++dedL st by' text q acc (F .done (some .ret)),(List.append_assoc _ _ _).symm,nofun,fun _=>⟨hno,q,acc,rfl⟩⟩
   ·show (st++_).set (st.length+7) _=_
    rw [w9,List.append_assoc st]
    rfl
   ·exact qhx (.same _ (.same _ (.same _ (.same _ (.same _ (.same _ (.same _ (q1f hF (qf4 _ _))))))))) st
  all_goals
   have hpre:by' <+: upto 10 rest:=(ww _ _).1 (by simp_all)
   have htp:=qbb hpre
  ·refine⟨jb rfl,st++(dedL st by' text (.bx (st.length+3) 0 0) (acc++Lib.trimPrefix (upto 10 rest) by'++[10]) (F .ready none)++[own]),[.cells 0 145 (qce k text rest).cells],?_,?_,
    st++dedL st by' text (.bx (st.length+3) 0 0) (acc++Lib.trimPrefix (upto 10 rest) by'++[10]) (F .ready none),(List.append_assoc _ _ _).symm,fun _=>⟨_,_,don++[(upto 10 rest,true)],.inr rfl,?_,?_,?_,?_,rfl⟩,nofun⟩
   ·show (st++_).set (st.length+7) _=_
    rw [w9,List.append_assoc st]
    rfl
   ·refine qhx (.same _ (.same _ (.same _ (.cut (qm2 ?_) (.same _ (.cut qsq (.same _ (q1f hF (qf4 _ _))))))))) st
    intro x hx
    simp only [List.mem_cons,List.not_mem_nil,or_false] at hx
    rcases hx with rfl|rfl
    ·exact q29 (by simp)
    ·exact qsr (by simp)
   ·rw [h1,hcons];simp_all
   ·intro x hx
    rcases List.mem_append.1 hx with hx|hx
    ·exact h2 x hx
    ·simp at hx;subst hx;exact hpre
   ·rw [h3,htp];simp [xi]
   ·have:=hlt (by assumption)
    simp
    omega
  ·refine⟨jb rfl,st++(dedL st by' text (.bx (st.length+3) 0 0) (acc++Lib.trimPrefix (upto 10 rest) by') (F .ready none)++[own]),[.cells 0 145 (qce k text rest).cells],?_,?_,
    st++dedL st by' text (.bx (st.length+3) 0 0) (acc++Lib.trimPrefix (upto 10 rest) by') (F .ready none),(List.append_assoc _ _ _).symm,fun _=>⟨_,_,don++[(upto 10 rest,false)],.inr rfl,?_,?_,?_,?_,rfl⟩,nofun⟩
   ·show (st++_).set (st.length+7) _=_
    rw [w9,List.append_assoc st]
    rfl
   ·refine qhx (.same _ (.same _ (.same _ (.cut (qm2 ?_) (.same _ (.cut qsq (.same _ (q1f hF (qf4 _ _))))))))) st
    intro x hx
    simp only [List.mem_cons,List.not_mem_nil,or_false] at hx
    rcases hx with rfl|rfl
    ·exact q29 (by simp)
    ·exact qsr (by simp)
   ·rw [h1,hcons];simp_all
   ·intro x hx
    rcases List.mem_append.1 hx with hx|hx
    ·exact h2 x hx
    ·simp at hx;subst hx;exact hpre
   ·rw [h3,htp];simp [xi]
   ·simp
    omega
 ·rintro r st' ⟨st3,ext,rfl,⟨k,q,acc,don,hq,h1,h2,h3,h4,rfl⟩ | ⟨hno,q,acc,rfl⟩⟩
  ·refine⟨.ready,none,nofun,by rw [List.append_assoc];exact jb rfl,?_⟩
   refine qdf [(4,.bx (st.length+1) 0 0),(5,.bx (st.length+2) 0 0),(6,.bx (st.length+3) 0 0)] (st++(dedL st by' text q acc .dead++ext)) [st.length+6] ⟨rfl,rfl,rfl,trivial⟩ ?_ rfl (fun t=>?_)
   ·show ((st++_)++ext).set (st.length+7) _=_
    rw [List.append_assoc,w9]
    rfl
   repeat' (first|apply qm|apply qg|apply qf|(apply zv;(iterate 11 exact rfl))|apply qx|(refine qi Tryz.call171 (qm0 st _ _ 3 5 0 _ _ rfl rfl rfl) ?_))
   refine qkh rfl rfl rfl (qo rfl (qim rfl rfl rfl rfl rfl rfl rfl rfl rfl rfl) ⟨q9c (?_:_=_),_,rfl⟩)
   rw [kq,List.append_nil] at h1
   unfold kl
   rw [h1,if_pos h2,h3]
  ·refine⟨.done,some .ret,nofun,by rw [List.append_assoc];exact jb rfl,?_⟩
   refine qdf [(4,.bx (st.length+1) 0 0),(5,.bx (st.length+2) 0 0),(6,.bx (st.length+3) 0 0)] (st++(dedL st by' text q acc .dead++ext)) [st.length+6] ⟨rfl,rfl,rfl,trivial⟩ ?_ rfl (fun t=>?_)
   ·show ((st++_)++ext).set (st.length+7) _=_
    rw [List.append_assoc,w9]
    rfl
   repeat' (first|apply qx)
   refine qkh rfl rfl rfl (qo rfl (qim rfl rfl rfl rfl rfl rfl rfl rfl rfl rfl) ⟨q9c (?_:_=_),_,rfl⟩)
   unfold kl
   rw [if_neg hno]
theorem qp4 (l:List UInt8) (st:List AObj) (hl:l.length<4294967281):ql E 241 [Sv l] st fun r st'=>r=Bv (kl [32] l).2∧st'=st:=by
 refine q6 (qu _) (qp Tryz.func241 rfl (Nat.le_of_ble_eq_true rfl) ?_)
 repeat' (first|apply qm|apply qg|apply qf|apply qk|apply qh|(apply ze;exact rfl;exact rfl)|apply qx|(apply qi;exact Tryz.call264;exact qvk _ _ _ hl))
 exact qo rfl (zi rfl) ⟨rfl,_,rfl⟩
theorem q3w (l:List UInt8) (st:List AObj) (hl:l.length<4294967281):ql E 172 [Sv l] st fun r st'=>r=Bv (decide (yc l))∧st'=st:=by
 refine q6 (qu _) (qp Tryz.func172 rfl (Nat.le_of_ble_eq_true rfl) ?_)
 repeat' (first|apply qm|apply qg|apply qf|apply qk|apply qh|(apply q5;(iterate 3 exact rfl))|(apply jf;exact rfl)|(apply za;(iterate 4 exact rfl))|(apply qbx;exact cAo)|(apply qby;exact cAo)|(apply qat;exact cRa)|(apply xe <;> intro h)|(apply qn;exact rfl;apply qbp;exact cAo)|(apply qn;exact rfl;apply qci;exact cAo)|(apply qn;exact rfl;apply pk_t;exact cRa)|(apply qc;exact rfl;apply cd_n <;> intro h)|(apply qc;exact rfl;apply cd_t;exact cRa)|(apply vw;(iterate 3 exact rfl))|apply qz|apply qx|(apply qi;exact Tryz.call240;exact qm8 _ _ _ (by omega))|(apply qi;exact Tryz.call241;exact qp4 _ _ hl))
 all_goals refine qo rfl (zi rfl) ⟨congrArg Bv (?_:_=_),_,rfl⟩
 ·exact (decide_eq_false fun ⟨a,b,c,d⟩=>by omega).symm
 ·exact (decide_eq_false fun ⟨a,b,c,d⟩=>by omega).symm
 ·exact (decide_eq_false fun ⟨a,b,c,d⟩=>by simp_all [qfm]).symm
 ·have e:yc l↔(kl [32] l).2=true:=⟨fun h=>h.2.2.2,fun h=>⟨by omega,by omega,by simp_all [qfm],h⟩⟩
  simp [e]
theorem q30 (n:Nat) (l:List UInt8) (st:List AObj) (hn:n≤9223372036854775807) (hl:l.length<4294967281):ql E 173 [Iv n,Sv l] st fun r st'=>r=Sv (qhv n l)∧st'=st:=by
 refine q6 (qu _) (qp Tryz.func173 rfl (Nat.le_of_ble_eq_true rfl) ?_)
 have h1:=qeg n hn
 repeat' (first|apply qm|apply qg|apply qf|apply qk|apply qh|(apply kp;exact rfl;exact rfl;exact cOs)|apply qx|(apply qi;exact Tryz.call133;exact qle _ _ (by omega) (by omega)))
 exact qo rfl (zi rfl) ⟨rfl,_,rfl⟩
theorem qxg (n:Nat) (st:List AObj) (hn:n≤9223372036854775807):ql E 176 [Iv n] st fun r st'=>r=Sv (qc0 n)∧st'=st:=by
 refine q6 (qu _) (qp Tryz.func176 rfl (Nat.le_of_ble_eq_true rfl) ?_)
 have h1:=qeg n hn
 repeat' (first|apply qm|apply qg|apply qf|apply qk|apply qh|(apply kp;exact rfl;exact rfl;exact cOs)|apply qx|(apply qi;exact Tryz.call133;exact qle _ _ (by omega) (by omega)))
 exact qo rfl (zi rfl) ⟨rfl,_,rfl⟩
theorem qwn (l:List UInt8) (st:List AObj) (hl:l.length<4294967281):ql E 261 [Sv l] st fun r st'=>r=Iv (kz l)∧st'=st:=by
 refine q6 (qu _) (qp Tryz.func261 rfl (Nat.le_of_ble_eq_true rfl) ?_)
 repeat' (first|apply qm|apply qg|apply qf|apply qk|apply qh)
 refine qdc Tryz.call73 ((qku l _ (by omega)).mono ?_)
 rintro _ _ ⟨rfl,n,x,rfl,hx⟩
 rcases x with _ | ⟨t',y⟩
 ·simp only at hx
  have hb:=atoiAll_bounds hx
  repeat' (first|apply qm|apply qg|apply qf|apply qk|apply qh|(apply ze;exact rfl;exact rfl)|(apply q5;(iterate 3 exact rfl))|(apply jl;(iterate 3 exact rfl))|(apply za;(iterate 4 exact rfl))|(apply qbx;exact cAo)|(apply qby;exact cAo)|(apply qgy;exact cRa)|(apply qat;exact cRa)|(apply xe <;> intro h)|(apply qn;exact rfl;apply qbp;exact cAo)|(apply qn;exact rfl;apply qci;exact cAo)|(apply qn;exact rfl;apply pk_t;exact cRa)|(apply qn;exact rfl;apply pk_f;exact cRa)|(apply qc;exact rfl;apply cd_t;exact cRa)|(apply qc;exact rfl;apply cd_d <;> intro h)|(apply vi;exact rfl;exact rfl)|apply qz|apply qx|(apply qi;exact Tryz.call133;exact qle _ _ (by omega) (by omega)))
  all_goals refine qo rfl (zi rfl) ⟨congrArg Iv (?_:_=_),_,rfl⟩
  all_goals rw [qqi hx]
  ·rw [if_neg (by simp_all)]
  ·rw [if_neg (by omega)]
  ·rw [if_neg (by omega)]
  ·rw [if_pos ⟨Classical.not_not.1 (by assumption),by omega,by omega⟩]
 ·simp only at hx
  repeat' (first|apply qm|apply qg|apply qf|apply qk|apply qh|(apply ze;exact rfl;exact rfl)|(apply za;(iterate 4 exact rfl))|(apply qat;exact cRa)|(apply qn;exact rfl;apply pk_t;exact cRa)|(apply qc;exact rfl;apply cd_t;exact cRa)|(apply wd;exact rfl;exact rfl)|apply qx)
  refine qo rfl (zi rfl) ⟨congrArg Iv (?_:_=_),_,rfl⟩
  rw [qwm hx]
  rfl
theorem q7r (l:List UInt8) (st:List AObj) (hl:l.length<4294967281):ql E 202 [Sv l] st fun r st'=>r = .tu [Iv (zt l).1,Sv (zt l).2.1,Bv (zt l).2.2]∧st'=st:=by
 refine q6 (qfc _ _ _) (qp Tryz.func202 rfl (Nat.le_of_ble_eq_true rfl) ?_)
 have hb1:=qc1 l zr
 have hb2:=ki 32 (Lib.trimPrefix l zr)
 have hb3:=jz 32 (Lib.trimPrefix l zr)
 repeat' (first|apply qm|apply qg|apply qf|apply qk|apply qh|(apply ze;exact rfl;exact rfl)|(apply q5;(iterate 3 exact rfl))|(apply jl;(iterate 3 exact rfl))|(apply za;(iterate 4 exact rfl))|(apply qa4;exact cAo)|(apply qdi;exact cAo)|(apply qc6;exact cRa)|(apply qbz;exact cRa)|(apply xe <;> intro h)|(apply qgz <;> intro h)|(apply qn;exact rfl;apply qbp;exact cAo)|(apply qn;exact rfl;apply qci;exact cAo)|(apply qn;exact rfl;apply pk_t;exact cRa)|(apply qn;exact rfl;apply pk_f;exact cRa)|(apply vw;(iterate 3 exact rfl))|apply qx|(apply qi;exact Tryz.call260;exact qcr l zr _)|(apply qi;exact Tryz.call72;exact qgq (Lib.trimPrefix l zr) 32 _ (by omega))|(apply qi;exact Tryz.call261;exact qwn (upto 32 (Lib.trimPrefix l zr)) _ (by omega))|(apply qi;exact Tryz.call209;exact qr9 _ _ _ (by omega) rfl rfl))
 all_goals refine qo rfl (qdv rfl) ⟨zdd (?_:_=_),_,rfl⟩
 all_goals simp only [zt,Prod.mk.injEq,true_and]
 all_goals clear hb1 hb2 hb3
 all_goals have c3:(2:Int)≤↑(kz (upto 32 (Lib.trimPrefix l zr)))↔2≤kz (upto 32 (Lib.trimPrefix l zr)):=by omega
 all_goals have c4:(↑(past 32 (Lib.trimPrefix l zr)).length:Int)=8↔(past 32 (Lib.trimPrefix l zr)).length=8:=by omega
 all_goals simp only [c3,c4,qfl,qtu] at *
 all_goals clear c3 c4
 all_goals simp_all
 all_goals first|(intros;omega)|skip
theorem q4n (l:List UInt8) (st:List AObj) (hl:l.length<4294967281):ql E 201 [Sv l] st fun r st'=>r=Bv (qc7 l)∧st'=st:=by
 refine q6 (qu _) (qp Tryz.func201 rfl (Nat.le_of_ble_eq_true rfl) ?_)
 have hb1:=qc1 l zr
 have hb2:=ki 32 (Lib.trimPrefix l zr)
 have hb3:=jz 32 (Lib.trimPrefix l zr)
 repeat' (first|apply qm|apply q8|apply qg|apply qf|apply qk|apply qh|(apply ze;exact rfl;exact rfl)|(apply q5;(iterate 3 exact rfl))|(apply jl;(iterate 3 exact rfl))|(apply jf;exact rfl)|(apply za;(iterate 4 exact rfl))|(apply qa4;exact cAo)|(apply qdi;exact cAo)|(apply xe <;> intro h)|(apply qn;exact rfl;apply qbp;exact cAo)|(apply qn;exact rfl;apply qci;exact cAo)|(apply qc;exact rfl;apply xl;exact cAo)|(apply qc;exact rfl;apply cd_n <;> intro h)|(apply qc;exact rfl;apply cd_f;exact cRa)|(apply qc;exact rfl;apply cd_d <;> intro h)|(apply vw;(iterate 3 exact rfl))|apply qz|apply qx|(apply qi;exact Tryz.call260;exact qcr l zr _)|(apply qi;exact Tryz.call164;exact qcu _ _ _)|(apply qi;exact Tryz.call72;exact qgq (Lib.trimPrefix l zr) 32 _ (by omega))|(apply qi;exact Tryz.call261;exact qwn (upto 32 (Lib.trimPrefix l zr)) _ (by omega))|(apply qi;exact Tryz.call209;exact qr9 _ _ _ (by omega) rfl rfl))
 all_goals refine qo rfl (zi rfl) ⟨congrArg Bv (?_:_=_),_,rfl⟩
 all_goals clear hb1 hb2 hb3
 all_goals by_cases hp:zr <+: l
 all_goals have c1:(↑(kz (upto 32 (Lib.trimPrefix l zr))):Int)<2↔kz (upto 32 (Lib.trimPrefix l zr))<2:=by omega
 all_goals have c2:(↑(kz (upto 32 (Lib.trimPrefix l zr))):Int)=0↔kz (upto 32 (Lib.trimPrefix l zr))=0:=by omega
 all_goals have c4:(↑(past 32 (Lib.trimPrefix l zr)).length:Int)≤8↔(past 32 (Lib.trimPrefix l zr)).length≤8:=by omega
 all_goals simp only [c1,c2,c4,qfl,qtu] at *
 all_goals clear c1 c2 c4
 all_goals try (have e:Lib.trimPrefix l zr=l.drop 7:=qbb hp;simp only [e] at *)
 all_goals unfold qc7
 all_goals first|rw [if_pos hp]|rw [if_neg hp]
 all_goals simp_all
 all_goals first|exact Iff.rfl|(intros;omega)|skip
theorem q7u (l:List UInt8) (n:Int) (st:List AObj) (hl:l.length<4294967281):ql E 203 [Sv l,Iv n] st fun r st'=>r=Iv (qch l n)∧st'=st:=by
 refine q6 (qu _) (qp Tryz.func203 rfl (Nat.le_of_ble_eq_true rfl) ?_)
 repeat' (first|apply qm|apply qg|apply qf|apply qk|apply qh|(apply q5;(iterate 3 exact rfl))|(apply jl;(iterate 3 exact rfl))|(apply jf;exact rfl)|(apply za;(iterate 4 exact rfl))|(apply qbx;exact cAo)|(apply qby;exact cAo)|(apply qc3;(iterate 4 exact rfl))|(apply qas;exact cRa)|(apply qca;exact cRa)|(apply qji <;> intro h)|(apply qc6;exact cRa)|(apply qbz;exact cRa)|(apply xe <;> intro h)|(apply qgz <;> intro h)|(apply qn;exact rfl;apply qbp;exact cAo)|(apply qn;exact rfl;apply qci;exact cAo)|(apply qn;exact rfl;apply qjx;exact cRa)|(apply qn;exact rfl;apply qf9;exact cRa)|(apply qn;exact rfl;apply pk_t;exact cRa)|(apply qn;exact rfl;apply pk_f;exact cRa)|(apply qc;exact rfl;apply cd_t;exact cRa)|(apply qc;exact rfl;apply cd_f;exact cRa)|(apply qc;exact rfl;apply cd_d <;> intro h)|apply qz|apply qx|(apply qi;exact Tryz.call240;exact qm8 _ _ _ (by omega))|(apply qi;exact Tryz.call241;exact qp4 _ _ hl))
 all_goals refine qo rfl (zi rfl) ⟨congrArg Iv (?_:_=_),_,rfl⟩
 all_goals simp_all [qch,qfm]
theorem q7f (n:Int) (st:List AObj):ql E 205 [Iv n] st fun r st'=>r=Iv (qek n)∧st'=st:=by
 refine q6 (qu _) (qp Tryz.func205 rfl (Nat.le_of_ble_eq_true rfl) ?_)
 by_cases hr:n<2∨50000<n
 ·skip
  repeat' (first|apply qm|apply qg|apply qf|apply qk|apply qh|(apply q5;(iterate 3 exact rfl))|(apply za;(iterate 4 exact rfl))|(apply qbx;exact cAo)|(apply qby;exact cAo)|(apply xe <;> intro h)|(apply qn;exact rfl;apply qbp;exact cAo)|(apply qn;exact rfl;apply qci;exact cAo)|(apply qc;exact rfl;apply xm;exact cAo)|(apply qc;exact rfl;apply cd_t;exact cRa)|apply qx)
  all_goals refine qo rfl (zi rfl) ⟨congrArg Iv (?_:_=_),_,rfl⟩
  all_goals first|exact (if_pos hr).symm|omega
 ·obtain⟨k,rfl⟩:=Int.eq_ofNat_of_zero_le (by omega:0≤n)
  have h1:=qeg k (by omega)
  have h2:=qdz k (Lib.repeatL [48] 8)
  have h3:=qd5 k
  have h4:(Lib.repeatL [48] 8).length=8:=by decide
  repeat' (first|apply qm|apply qg|apply qf|apply qk|apply qh|(apply q5;(iterate 3 exact rfl))|(apply za;(iterate 4 exact rfl))|(apply qbx;exact cAo)|(apply qn;exact rfl;apply qci;exact cAo)|(apply qc;exact rfl;apply xl;exact cAo)|(apply vw;(iterate 3 exact rfl))|(apply z7;exact rfl;exact rfl;exact zj (by omega) (by omega))|apply qz|apply qx|(apply qi;exact Tryz.call263;exact q79 [48] 8 _ (by omega) (by decide))|(apply qi;exact Tryz.call173;exact q30 k _ _ (by omega) (by decide))|(apply qi;exact Tryz.call176;exact qxg k _ (by omega)))
  refine qo rfl (zi rfl) ⟨congrArg Iv (?_:_=_),_,rfl⟩
  unfold qek
  rw [if_neg hr,← rep8]
  rfl
def qk4 (x:BitVec 32):BitVec 32:=if x &&& 2147483648#32≠0#32 then (x <<< 1) ^^^ 79764919#32 else x <<< 1
def qmd:Nat→BitVec 32→BitVec 32
 | 0,x=>x
 |n+1,x=>qk4 (qmd n x)
theorem zdq (x:BitVec 32) (st:List AObj):ql E 321 [Wv x] st fun r st'=>r=Wv (qmd 4 (x <<< 28))∧st'=st:=by
 refine q6 (qu _) (qp Tryz.func321 rfl (Nat.le_of_ble_eq_true rfl) ?_)
 repeat' (first|apply qm|apply q8|apply qg|apply qf|apply qk|apply qh|(apply qdt;(iterate 3 exact rfl)))
 refine wy (fun (k:Nat) s=>k≤4∧StA [(3,Wv (qmd k (x <<< 28))),(6,Iv k)] (st++[]) [] s) (fun k=>4 - k) 0 ⟨by omega,wa ⟨rfl,rfl,trivial⟩⟩ ?_
 rintro k _ ⟨hk,t,rfl⟩
 repeat' (first|apply qm|apply q8|apply qg|apply qf|apply qk|apply qh|(apply q5;(iterate 3 exact rfl))|(apply qc;exact rfl;apply cd_d <;> intro h)|(apply z7;exact rfl;exact rfl;exact zj (by omega) (by omega))|(apply qfu;exact rfl;exact rfl;(first|exact kf _|exact rfl);first|exact kf _|exact rfl)|(apply qi6;exact rfl;exact rfl;(first|exact kf _|exact rfl);first|exact kf _|exact rfl)|(apply qdt;(iterate 3 exact rfl))|apply qz|apply vj|apply qx)
 ·refine⟨k+1,⟨by omega,wa ⟨?_,rfl,trivial⟩⟩,by omega⟩
  refine congrArg Wv (?_:_=qk4 _)
  unfold qk4
  rw [if_pos (fun e=>by rename_i h;exact h ((qq5 _).2 e))]
  rfl
 ·refine⟨k+1,⟨by omega,wa ⟨?_,rfl,trivial⟩⟩,by omega⟩
  refine congrArg Wv (?_:_=qk4 _)
  unfold qk4
  rw [if_neg (fun e=>by rename_i h;exact h (fun h'=>e ((qq5 _).1 h')))]
 ·have e:k=4:=by omega
  subst e
  exact qo rfl (zi rfl) ⟨rfl,_,rfl⟩
def rowT (i:Nat):BitVec 32:=qmd 4 (BitVec.ofNat 32 i <<< 28)
def tabA (k:Nat):List AV:=(List.range 16).map fun i=>if i<k then Wv (rowT i) else .v (.int .u32 0)
theorem qys (k:Nat):(tabA k).length=16:=by simp [tabA]
theorem q5m {k:Nat} (h:k<16):(tabA k).set k (Wv (rowT k))=tabA (k+1):=by
 apply List.ext_getElem
 ·simp [tabA]
 ·intro i h1 h2
  simp only [tabA,List.length_map,List.length_range] at h2
  rw [List.getElem_set]
  by_cases e:k=i
  ·subst e
   simp [tabA]
  ·rw [if_neg e]
   simp only [tabA,List.getElem_map,List.getElem_range]
   by_cases hi:i<k
   ·rw [if_pos hi,if_pos (by omega)]
   ·rw [if_neg hi,if_neg (by omega)]
theorem q8r {i:Nat} (h:i<16):(tabA 16)[i]? = some (Wv (rowT i)):=by
 simp [tabA,h]
theorem zc8 (st:List AObj):ql E 297 [] st fun r st'=>r = .ag (tabA 16)∧st'=st:=by
 refine q6 (qmm (fun x hx=>?_)) (qp Tryz.func297 rfl (Nat.le_of_ble_eq_true rfl) ?_)
 ·simp only [tabA,List.mem_map] at hx
  obtain⟨i,_,rfl⟩:=hx
  split <;> exact qu _
 repeat' (first|apply qm|apply q8|apply qg|apply qf|apply qk|(apply jm;exact rfl;exact rfl))
 refine wy (fun (k:Nat) s=>k≤16∧StA [(0,.bx (st.length+0) 0 0),(2,Iv k)] (st++[.cells 0 358 (tabA k)]) [] s) (fun k=>16 - k) 0 ⟨by omega,qap ⟨rfl,rfl,trivial⟩ (by show st++[AObj.cells 0 _ _]=_;rfl)⟩ ?_
 rintro k _ ⟨hk,t,rfl⟩
 have hlen:=qys k
 repeat' (first|apply qm|apply q8|apply qg|apply qf|apply qk|apply qh|(apply q5;(iterate 3 exact rfl))|(apply qc;exact rfl;apply cd_d <;> intro h)|(apply z7;exact rfl;exact rfl;exact zj (by omega) (by omega))|(apply jr;(iterate 5 exact rfl))|(apply qbj;(iterate 4 exact rfl);first|assumption|omega|decide)|apply qz|apply vj|(apply qi;exact Tryz.call321;exact zdq _ _)|(apply q0c;(iterate 3 exact rfl);omega)|(apply qrc;(iterate 9 exact rfl);(show 0+k * 1+1≤_;omega);exact rfl))
 ·refine⟨k+1,⟨by omega,qap ⟨rfl,rfl,trivial⟩ ?_⟩,by omega⟩
  show st++[AObj.cells 0 _ (zp (tabA k) (0+k * 1) [Wv (rowT k)])]=_
  rw [Nat.zero_add,Nat.mul_one,q13 (by omega),q5m (by omega)]
 ·have e:k=16:=by omega
  subst e
  repeat' (first|apply qf|(apply zv;(iterate 11 exact rfl))|apply qx)
  exact qo rfl (qrd rfl rfl rfl rfl rfl rfl) ⟨rfl,_,rfl⟩
def crcN (x:BitVec 32) (n:Nat):BitVec 32:=(x <<< 4) ^^^ rowT ((x >>> 28) ^^^ BitVec.ofNat 32 n).toNat
def crcP (x:BitVec 32) (c:UInt8):BitVec 32:=crcN (crcN x (c.toNat / 16)) (c.toNat % 16)
def addP (s:BitVec 32) (l:List UInt8):BitVec 32:= ~~~ (l.foldl crcP (~~~ s))
def qul (y:BitVec 32) (c:UInt8):Nat→BitVec 32
 | 0=>y
 | 1=>crcN y (c.toNat / 16)
 | _=>crcP y c
theorem q4a (x:BitVec 32) {n:Nat} (h:n<16):((x >>> 28) ^^^ BitVec.ofNat 32 n).toNat<16:=by
 rw [BitVec.toNat_xor]
 refine Nat.xor_lt_two_pow (n:=4) ?_ ?_
 ·rw [BitVec.toNat_ushiftRight,Nat.shiftRight_eq_div_pow]
  have:=x.isLt
  omega
 ·rw [BitVec.toNat_ofNat]
  omega
theorem qxf {n:Nat} (h:n<16):jg 1 false (0+n * 1) (tabA 16)=some (Wv (rowT n)):=by
 rw [Nat.zero_add,Nat.mul_one]
 exact q8r h
theorem zdk (x:BitVec 32) (l:List UInt8) (st:List AObj) (hl:l.length<4294967281):ql E 243 [Wv x,Sv l] st fun r st'=>r=Wv (addP x l)∧st'=st:=by
 refine q6 (qu _) (qp Tryz.func243 rfl (Nat.le_of_ble_eq_true rfl) ?_)
 repeat' (first|apply qm|apply q8|apply qg|apply qf|apply qk|apply qh|(apply vw;(iterate 3 exact rfl))|(apply jm;exact rfl;exact rfl)|(apply zv;(iterate 11 exact rfl))|(apply qgn;exact rfl)|(apply qi;exact Tryz.call297;exact zc8 _))
 refine wy (fun (k:Nat) s=>k≤l.length∧StA [(1,Sv l),(5,.bx (st.length+0) 0 0),(6,Wv ((l.take k).foldl crcP (~~~ x))),(14,Iv l.length),(15,Iv k)] (st++[.cells 0 358 (tabA 16)]) [] s) (fun k=>l.length - k) 0 ⟨by omega,qap ⟨rfl,rfl,rfl,rfl,rfl,trivial⟩ (by show st++[AObj.cells 0 _ _]=_;rfl)⟩ ?_
 rintro k _ ⟨hk,t,rfl⟩
 generalize hx:(l.take k).foldl crcP (~~~ x)=y
 have hc:=UInt8.toNat_lt (l.getD k 0)
 repeat' (first|apply qm|apply q8|apply qg|apply qf|apply qk|apply qh|(apply q5;(iterate 3 exact rfl))|(apply qc;exact rfl;apply cd_d <;> intro h)|(apply qgn;exact rfl)|(apply qu6;exact rfl;kernel_rfl)|apply qpf|(apply q2m;(iterate 3 exact rfl);exact cAs)|(apply qy2;exact rfl;exact rfl)|(apply qu2;exact rfl;exact rfl)|(apply qu3;(iterate 3 exact rfl);omega)|(apply qsj;(iterate 3 exact rfl))|apply qma|apply qz|apply vj|apply qx)
 ·generalize hcc:l.getD k 0=c at *
  refine wy (fun (j:Nat) s=>j≤2∧StA [(1,Sv l),(5,.bx (st.length+0) 0 0),(6,Wv (qul y c j)),(14,Iv l.length),(15,Iv k),(28,.ag [Wv (BitVec.ofNat 32 (c.toNat / 16)),Wv (BitVec.ofNat 32 (c.toNat % 16))]),(29,Iv j)] (st++[.cells 0 358 (tabA 16)]) [] s) (fun j=>2 - j) 0 ⟨by omega,qap ⟨rfl,rfl,rfl,rfl,rfl,rfl,rfl,trivial⟩ rfl⟩ ?_
  rintro j _ ⟨hj,t2,rfl⟩
  have hj3:j=0∨j=1∨j=2:=by omega
  have hn1:=q4a (qul y c j) (n:=c.toNat / 16) (by omega)
  have hn2:=q4a (qul y c j) (n:=c.toNat % 16) (by omega)
  generalize hz:qul y c j=z at hn1 hn2 ⊢
  rcases hj3 with rfl|rfl|rfl
  ·skip
   repeat' (first|apply qm|apply q8|apply qg|apply qf|apply qk|apply qh|(apply q5;(iterate 3 exact rfl))|(apply qc;exact rfl;apply xm;exact cAo)|(apply z7;exact rfl;exact rfl;exact zj (by omega) (by omega))|(apply qfu;exact rfl;exact rfl;(first|exact kf _|exact rfl);first|exact kf _|exact rfl)|(apply qdt;(iterate 3 exact rfl))|(apply qfs;(iterate 3 exact rfl))|(apply qia;(iterate 4 exact rfl);(first|assumption|omega|decide);exact rfl)|(apply qbj;(iterate 4 exact rfl);first|assumption|omega|decide)|apply qz|(apply jr;(iterate 4 exact rfl);exact qxf hn1))
   subst hz
   exact⟨1,⟨by omega,qap ⟨rfl,rfl,rfl,rfl,rfl,rfl,rfl,trivial⟩ rfl⟩,by omega⟩
  ·skip
   repeat' (first|apply qm|apply q8|apply qg|apply qf|apply qk|apply qh|(apply q5;(iterate 3 exact rfl))|(apply qc;exact rfl;apply xm;exact cAo)|(apply z7;exact rfl;exact rfl;exact zj (by omega) (by omega))|(apply qfu;exact rfl;exact rfl;(first|exact kf _|exact rfl);first|exact kf _|exact rfl)|(apply qdt;(iterate 3 exact rfl))|(apply qfs;(iterate 3 exact rfl))|(apply qia;(iterate 4 exact rfl);(first|assumption|omega|decide);exact rfl)|(apply qbj;(iterate 4 exact rfl);first|assumption|omega|decide)|apply qz|(apply jr;(iterate 4 exact rfl);exact qxf hn2))
   subst hz
   exact⟨2,⟨by omega,qap ⟨rfl,rfl,rfl,rfl,rfl,rfl,rfl,trivial⟩ rfl⟩,by omega⟩
  ·skip
   repeat' (first|apply qm|apply qg|apply qf|apply qk|(apply q5;(iterate 3 exact rfl))|(apply qc;exact rfl;apply xl;exact cAo)|(apply z7;exact rfl;exact rfl;exact zj (by omega) (by omega))|apply vj)
   subst hz
   refine⟨k+1,⟨by omega,qap ⟨rfl,rfl,?_,rfl,rfl,trivial⟩ rfl⟩,by omega⟩
   refine congrArg Wv (?_:crcP y c=_)
   rw [ql2 (by omega),List.foldl_append,hx,hcc]
   rfl
 ·have e:k=l.length:=by omega
  subst e
  refine qo rfl (zi rfl) ⟨congrArg Wv (?_:_=_),_,rfl⟩
  unfold addP
  rw [← hx,List.take_length]
theorem q5l (l:List UInt8) (st:List AObj) (hl:l.length<4294967281):ql E 175 [.sl 1 [Sv l] none] st fun r st'=>r=Wv (addP 0 l)∧st'=st:=by
 refine q6 (qu _) (qp Tryz.func175 rfl (Nat.le_of_ble_eq_true rfl) ?_)
 repeat' (first|apply qm|apply q8|apply qg|apply qf|apply qk|apply qh|(apply jp;(iterate 4 exact rfl)))
 refine wy (fun (k:Nat) s=>k≤1∧StA [(3,Wv (if k=0 then 0 else addP 0 l)),(6,.sl 1 [Sv l] none),(7,Iv 1),(8,Iv k)] (st++[]) [] s) (fun k=>1 - k) 0 ⟨by omega,qap ⟨rfl,rfl,rfl,rfl,trivial⟩ rfl⟩ ?_
 rintro k _ ⟨hk,t,rfl⟩
 have hk2:k=0∨k=1:=by omega
 rcases hk2 with rfl|rfl
 ·skip
  repeat' (first|apply qm|apply q8|apply qg|apply qf|apply qk|apply qh|(apply q5;(iterate 3 exact rfl))|(apply qc;exact rfl;apply xm;exact cAo)|(apply z7;exact rfl;exact rfl;exact zj (by omega) (by omega))|(apply jv;(iterate 3 exact rfl))|apply qz|(apply kg;(iterate 4 exact rfl);exact (rfl:(0:Int)=((0:Nat):Int));exact rfl)|(apply qi;exact Tryz.call243;exact zdk 0 _ _ hl))
  exact⟨1,⟨by omega,qap ⟨rfl,rfl,rfl,rfl,trivial⟩ rfl⟩,by omega⟩
 ·skip
  repeat' (first|apply qm|apply qg|apply qf|apply qk|apply qh|(apply q5;(iterate 3 exact rfl))|(apply qc;exact rfl;apply xl;exact cAo)|apply vj|apply qx)
  exact qo rfl (zi rfl) ⟨rfl,_,rfl⟩
def figP (s:BitVec 32) (j:Nat):UInt8:=[48,49,50,51,52,53,54,55,56,57,97,98,99,100,101,102].getD ((s >>> (4 * (7 - j))) &&& BitVec.ofInt 32 15).toNat 0
def qa1 (s:BitVec 32) (n:Nat):List UInt8:=(List.range n).map (figP s)
theorem qs1 (x:BitVec 32) (st:List AObj):ql E 174 [Wv x] st fun r st'=>r=Sv (qa1 x 8)∧st'=st:=by
 refine q6 (qu _) (qp Tryz.func174 rfl (Nat.le_of_ble_eq_true rfl) ?_)
 repeat' (first|apply qm|apply q8|apply qg|apply qf|apply qh|(apply jm;exact rfl;exact rfl))
 refine qmz (o:=st.length+0) (j:=1) (sz:=1) (T':=5) (jb rfl) rfl ?_
 refine wy (fun (j:Nat) s=>j≤8∧∃ q,(q = .v (.pointer none)∨q = .bx (st.length+0) 0 0)∧StA [(0,Wv x),(3,.bx (st.length+0) 0 0),(4,Iv (7 - (j:Int)))] (st++[bldO 0 q (qa1 x j) (st.length+1),.tip (qa1 x j).length 1 5]) [] s) (fun j=>8 - j) 0
  ⟨by omega,_,.inl rfl,qap ⟨rfl,rfl,rfl,trivial⟩ ?_⟩ ?_
 ·show (st++[_]).set (st.length+0) (.cells 0 246 [_,.sl 1 [] (some (st++[_]).length)])++[_]=_
  rw [w9,List.append_assoc]
  simp [qa1]
 rintro j _ ⟨hj,q,hq,t,rfl⟩
 have hf:(qa1 x j).length=j:=by simp [qa1]
 repeat' (first|apply qm|apply q8|apply qg|apply qf|apply qk|apply qh|(apply q5;(iterate 3 exact rfl))|(apply qc;exact rfl;apply cd_d <;> intro h)|(apply qbt;exact rfl;exact rfl;exact zj (by omega) (by omega))|(apply qi6;exact rfl;exact rfl;(first|exact kf _|exact rfl);first|exact kf _|exact rfl)|apply qz|apply vj|apply qx|(apply quy;exact rfl;exact rfl;exact zj (by omega) (by omega))|(apply qxt (n:=4 * (7 - j));exact rfl;exact rfl;omega;omega)|(apply qns;(iterate 3 exact rfl);exact and15_lt _)|(refine qi Tryz.call242 (q2v st _ _ 0 1 0 _ _ _ rfl rfl ?_ ?_ rfl) ?_;exact hq;omega)|(refine qi Tryz.call171 (qm0 st _ _ 0 1 0 _ _ rfl rfl rfl) ?_))
 ·have e1:qa1 x j++[figP x j]=qa1 x (j+1):=by simp [qa1,List.range_succ]
  refine⟨j+1,⟨by omega,_,.inr rfl,qap ⟨rfl,rfl,congrArg Iv (by omega:(7 - (j:Int)) - 1=7 - ((j+1:Nat):Int)),trivial⟩ ?_⟩,by omega⟩
  show st++[bldO 0 _ (qa1 x j++[figP x j]) (st.length+1),.tip (qa1 x j++[figP x j]).length 1 5]=_
  rw [e1]
 ·have e:j=8:=by omega
  subst e
  exact qo rfl (zi rfl) ⟨rfl,_,rfl⟩
def sumF (l:List UInt8):List UInt8:=qa1 (addP 0 l) 8
theorem qe3 (l:List UInt8):(sumF l).length=8:=by simp [sumF,qa1]
theorem is_c (f l:List UInt8) (st:List AObj) (hl:l.length<4294967281):ql E 262 [Sv f,.sl 1 [Sv l] none] st fun r st'=>r=Bv (decide (f=sumF l))∧st'=st:=by
 refine q6 (qu _) (qp Tryz.func262 rfl (Nat.le_of_ble_eq_true rfl) ?_)
 repeat' (first|apply qm|apply qg|apply qf|apply qk|apply qh|(apply jl;(iterate 3 exact rfl))|apply qx|(apply qi;exact Tryz.call175;exact q5l l _ hl)|(apply qi;exact Tryz.call174;exact qs1 _ _))
 exact qo rfl (zi rfl) ⟨rfl,_,rfl⟩
def yw (rest body sums:List UInt8) (size:Int):Int×List UInt8×Int:=
 if rest.length<(qc0 body.length).length∧rest <+: qc0 body.length then (2,[],0)
 else if qc0 body.length <+: rest∧sums=sumF body then (1,body,size) else (3,[],0)
theorem q6p (rest body sums:List UInt8) (size:Int) (st:List AObj) (hb:body.length<4294967281):ql E 204 [Sv rest,Sv body,Sv sums,Iv size] st fun r st'=>r = .tu [Iv (yw rest body sums size).1,Sv (yw rest body sums size).2.1,Iv (yw rest body sums size).2.2]∧st'=st:=by
 refine q6 (qfc _ _ _) (qp Tryz.func204 rfl (Nat.le_of_ble_eq_true rfl) ?_)
 repeat' (first|apply qm|apply q8|apply qg|apply qf|apply qk|apply qh|(apply q5;(iterate 3 exact rfl))|(apply za;(iterate 4 exact rfl))|(apply qa4;exact cAo)|(apply qdi;exact cAo)|(apply qc6;exact cRa)|(apply qbz;exact cRa)|(apply xe <;> intro h)|(apply qgz <;> intro h)|(apply qn;exact rfl;apply qbp;exact cAo)|(apply qn;exact rfl;apply qci;exact cAo)|(apply qn;exact rfl;apply pk_t;exact cRa)|(apply qn;exact rfl;apply pk_f;exact cRa)|(apply qc;exact rfl;apply cd_f;exact cRa)|(apply qc;exact rfl;apply cd_d <;> intro h)|(apply qc;exact rfl;apply cd_s <;> intro h)|(apply vw;(iterate 3 exact rfl))|(apply xb;(iterate 9 exact rfl))|apply qz|apply qx|(apply qi;exact Tryz.call176;exact qxg body.length _ (by omega))|(apply qi;exact Tryz.call164;exact qcu _ _ _)|(apply qi;exact Tryz.call262;exact is_c sums body _ hb))
 all_goals refine qo rfl (qdv rfl) ⟨q5v (?_:_=_),_,rfl⟩
 all_goals show _=yw rest body sums size
 all_goals
  have c1:(↑rest.length:Int) < ↑(qc0 body.length).length↔rest.length<(qc0 body.length).length:=by omega
  simp only [c1,qfl,decide_eq_true_eq,decide_eq_false_iff_not] at *
  simp_all [yw] <;> (intros;omega)
theorem q6i (l:List UInt8) (st:List AObj) (hl:l.length<4294967281):ql E 118 [Sv l] st fun r st'=>r=Bv (decide (l.head? = some 37∧qr l=5))∧st'=st:=by
 refine q6 (qu _) (qp Tryz.func118 rfl (Nat.le_of_ble_eq_true rfl) ?_)
 repeat' (first|apply qm|apply qg|apply qf|apply qk|apply qh|(apply q5;(iterate 3 exact rfl))|(apply za;(iterate 4 exact rfl))|(apply qa4;exact cAo)|(apply qdi;exact cAo)|(apply xe <;> intro h)|(apply qn;exact rfl;apply qbp;exact cAo)|(apply qn;exact rfl;apply qci;exact cAo)|apply qx|(apply qi;exact Tryz.call164;exact qdy _ _ _)|(apply qi;exact Tryz.call122;exact qit _ _ hl))
 all_goals refine qo rfl (zi rfl) ⟨congrArg Bv (?_:_=_),_,rfl⟩
 all_goals simp_all
def zq (l:List UInt8):Int×List UInt8×Int:=
 if 10∈l then
  if (zt (upto 10 l)).2.2=true then
   if (past 10 l).length<(zt (upto 10 l)).1 then (qch (past 10 l) ((zt (upto 10 l)).1 - (past 10 l).length),[],0)
   else if yc ((past 10 l).take (zt (upto 10 l)).1) then yw ((past 10 l).drop (zt (upto 10 l)).1) ((past 10 l).take (zt (upto 10 l)).1) (zt (upto 10 l)).2.1 (qek (zt (upto 10 l)).1)
   else (3,[],0)
  else (3,[],0)
 else if qc7 l=true then (2,[],0) else (3,[],0)
theorem zc3 (l:List UInt8) (st:List AObj) (hl:l.length<4294967281):ql E 119 [Sv l] st fun r st'=>r = .tu [Iv (zq l).1,Sv (zq l).2.1,Iv (zq l).2.2]∧st'=st:=by
 refine q6 (qfc _ _ _) (qp Tryz.func119 rfl (Nat.le_of_ble_eq_true rfl) ?_)
 have hb2:=ki 10 l
 have hb3:=jz 10 l
 have hn:(zt (upto 10 l)).1≤50000:=qa6 _
 repeat' (first|apply qm|apply q8|apply qg|apply qf|apply qk|apply qh|(apply ze;exact rfl;exact rfl)|(apply q5;(iterate 3 exact rfl))|(apply jf;exact rfl)|(apply qc;exact rfl;apply cd_n <;> intro h)|(apply qc;exact rfl;apply cd_d <;> intro h)|(apply qc;exact rfl;apply cd_s <;> intro h)|(apply vw;(iterate 3 exact rfl))|(apply qbt;exact rfl;exact rfl;exact zj (by omega) (by omega))|(apply qks;(iterate 3 exact rfl);exact cAs)|(apply qu6;exact rfl;kernel_rfl)|apply qpf|apply qma|apply qsi|(apply qy3;(iterate 3 exact rfl);exact cAs)|(apply qy1;(iterate 3 exact rfl);exact cAs)|(apply qo9;exact rfl;exact rfl)|apply qz|apply qx|(apply qi;exact Tryz.call72;exact qgq l 10 _ hl)|(apply qi;exact Tryz.call201;exact q4n _ _ hl)|(apply qi;exact Tryz.call202;exact q7r (upto 10 l) _ (by omega))|(apply qi;exact Tryz.call203;exact q7u _ _ _ (by omega))|(apply qi;exact Tryz.call172;exact q3w ((past 10 l).take (zt (upto 10 l)).1) _ (by simp;omega))|(refine qy0 (vals:=[.int .i64 (zt (upto 10 l)).1]) E_ok Tryz.call205 rfl (qq4 _) (fun _=>.v _) (q7f _ _) ?_)|(refine qy0 (vals:=[.string ⟨((past 10 l).drop (zt (upto 10 l)).1).toArray⟩,.string ⟨((past 10 l).take (zt (upto 10 l)).1).toArray⟩,.string ⟨(zt (upto 10 l)).2.1.toArray⟩,.int .i64 (qek (zt (upto 10 l)).1)]) E_ok Tryz.call204 rfl q8q (fun _=>qrz (.v _) (.v _) (.v _)) (q6p _ _ _ _ _ (by simp;omega)) ?_))
 all_goals refine qo rfl (qdv rfl) ⟨q5v (?_:_=zq l),_,rfl⟩
 all_goals
  have c1:(↑(past 10 l).length:Int) < ↑(zt (upto 10 l)).1↔(past 10 l).length<(zt (upto 10 l)).1:=by omega
  simp only [c1,decide_eq_true_eq,decide_eq_false_iff_not] at *
  clear c1 hb2 hb3 hn hl
 ·unfold zq;rw [if_neg (by assumption),if_pos (by assumption)]
 ·unfold zq;rw [if_neg (by assumption),if_neg (by simp_all)]
 ·unfold zq;rw [if_pos (by assumption),if_neg (by simp_all)]
 ·unfold zq;rw [if_pos (by assumption),if_pos (by assumption),if_pos (by assumption)]
 ·unfold zq;rw [if_pos (by assumption),if_pos (by assumption),if_neg (by assumption),if_neg (by assumption)]
 ·unfold zq;rw [if_pos (by assumption),if_pos (by assumption),if_neg (by assumption),if_pos (by assumption)]
def recF (l:List UInt8):List UInt8:=qhv l.length (sumF l)++l++qc0 l.length
def qzc:AV:=.ifc 62 (.v (.int .i64 2))
def qdp (l:List UInt8):AV:=if yc l then .tu [Sv (recF l),.v .nilIface] else .tu [Sv [],qzc]
theorem qw2 (l:List UInt8):Pure (qdp l):=by
 unfold qdp
 split
 ·exact qtm _ _
 ·exact qdm (by simp;exact⟨qu _,qag (qu _)⟩)
theorem q77 (l:List UInt8) (st:List AObj) (hl:l.length<4294967281):ql E 104 [Sv l] st fun r st'=>r=qdp l∧st'=st:=by
 refine q6 (qw2 l) (qp Tryz.func104 rfl (Nat.le_of_ble_eq_true rfl) ?_)
 have h1:=qeg l.length (by omega)
 have h2:=qdz l.length (sumF l)
 have h3:=qd5 l.length
 have h4:=qe3 l
 repeat' (first|apply qm|apply qg|apply qf|apply qk|apply qh|(apply jf;exact rfl)|(apply qc;exact rfl;apply cd_n <;> intro h)|(apply vw;(iterate 3 exact rfl))|(apply kp;exact rfl;exact rfl;exact cOs)|(apply va;exact rfl;exact rfl)|(apply xb;(iterate 9 exact rfl))|apply qz|apply qx|(apply qi;exact Tryz.call172;exact q3w _ _ hl)|(apply qi;exact Tryz.call175;exact q5l l _ hl)|(apply qi;exact Tryz.call174;exact qs1 _ _)|(apply qi;exact Tryz.call173;exact q30 l.length (sumF l) _ (by omega) (by omega))|(apply qi;exact Tryz.call176;exact qxg l.length _ (by omega)))
 ·have e:AV.tu [Sv [],qzc]=qdp l:=by unfold qdp;rw [if_neg (of_decide_eq_false (by assumption))]
  exact qo rfl (vz rfl) ⟨e,_,rfl⟩
 ·have e:AV.tu [Sv (recF l),.v .nilIface]=qdp l:=by unfold qdp;rw [if_pos (of_decide_eq_true (by assumption))]
  exact qo rfl (vz rfl) ⟨e,_,rfl⟩
def qp6 (c:UInt8):Bool:=decide (48≤c.toNat∧c.toNat≤57)
end Go.Proofs.YtneejjefekdgjaaGreatDoor
namespace Go.Pl
open Go
theorem v8:∀ (n u:Nat),u≤n→∀ c∈Lib.decDigits u,48≤c.toNat∧c.toNat≤57
 |n,u,hn,c,hc=>by
  by_cases h:u<10
  ·rw [Lib.decDigits_one h] at hc
   simp only [List.mem_singleton] at hc
   subst hc
   rw [UInt8.toNat_ofNat']
   omega
  ·rw [qba h,List.mem_append] at hc
   cases n with
   |zero=>omega
   |succ n=>
    rcases hc with hc|hc
    ·exact v8 n (u / 10) (by omega) c hc
    ·exact v8 n (u % 10) (by omega) c hc
theorem qfk (u:Nat):1≤(Lib.decDigits u).length:=by
 rw [Lib.decDigits_length]
 exact Lib.nDigits_pos u
theorem qg1 {v:Int} (h:v<0):Lib.itoa v=45::Lib.decDigits v.natAbs:=by
 unfold Lib.itoa
 rw [if_pos h]
theorem qeh {v:Int} (h:0≤v):Lib.itoa v=Lib.decDigits v.toNat:=by
 unfold Lib.itoa
 rw [if_neg (by omega)]
theorem qlf {v:Int} (h1 : -9223372036854775808≤v) (h2:v≤9223372036854775807):(Lib.itoa v).length≤20:=by
 by_cases h:v<0
 ·rw [qg1 h,List.length_cons,Lib.decDigits_length]
  have:=qf8 18 v.natAbs (by omega)
  omega
 ·rw [qeh (by omega),Lib.decDigits_length]
  have:=qf8 18 v.toNat (by omega)
  omega
theorem qth:∀ (a:Nat) (l m:qa) (b:Nat),Lib.parseUint10 a l = .ok b→Lib.parseUint10 a (l++m)=Lib.parseUint10 b m
 |a,[],m,b,h=>by
  simp only [Lib.parseUint10,Lib.NumEnd.ok.injEq] at h
  subst h;rfl
 |a,c::l,m,b,h=>by
  simp only [List.cons_append,Lib.parseUint10] at h ⊢
  split at h
  ·rename_i hd
   rw [if_pos hd]
   split at h
   ·cases h
   ·rename_i h1
    rw [if_neg h1]
    split at h
    ·cases h
    ·rename_i h2
     rw [if_neg h2]
     exact qth _ l m b h
  ·cases h
theorem qjs:∀ (n u:Nat),u≤n→u≤9223372036854775808→Lib.parseUint10 0 (Lib.decDigits u) = .ok u
 |n,u,hn,hu=>by
  have key:∀ (a d:Nat),a≤922337203685477580→d<10→Lib.parseUint10 a (Lib.decDigits d) = .ok (a * 10+d):=by
   intro a d ha hd
   have e:(UInt8.ofNat (48+d)).toNat=48+d:=by rw [UInt8.toNat_ofNat'];omega
   rw [Lib.decDigits_one hd]
   simp only [Lib.parseUint10,e]
   rw [if_pos (by omega),if_neg (by omega),if_neg (by omega)]
   congr 1
   omega
  by_cases h:u<10
  ·have:=key 0 u (by omega) h
   simpa using this
  ·cases n with
   |zero=>omega
   |succ n=>
    rw [qba h,qth 0 _ _ (u / 10) (qjs n (u / 10) (by omega) (by omega)),key _ _ (by omega) (by omega)]
    congr 1
    omega
theorem qi8 {v:Int} (h1 : -9223372036854775808≤v) (h2:v≤9223372036854775807):Lib.atoiAll (Lib.itoa v) = .ok v:=by
 by_cases h:v<0
 ·have hp:=qjs v.natAbs v.natAbs (Nat.le_refl _) (by omega)
  rw [qg1 h]
  have hm:Lib.parseMag (Lib.decDigits v.natAbs) = .ok v.natAbs:=by
   unfold Lib.parseMag
   rw [if_neg (fun e=>by have:=qfk v.natAbs;rw [e] at this;simp at this)]
   exact hp
  have e45:(45:UInt8).toNat=45:=rfl
  simp only [Lib.atoiAll,e45]
  rw [if_pos (Or.inr trivial),hm]
  simp only [not_true,false_and,if_false,true_and]
  rw [if_neg (by omega)]
  simp only [if_true]
  congr 1
  omega
 ·have hp:=qjs v.toNat v.toNat (Nat.le_refl _) (by omega)
  have hd:=v8 v.toNat v.toNat (Nat.le_refl _)
  rw [qeh (by omega)]
  cases hl:Lib.decDigits v.toNat with
  |nil=>have:=qfk v.toNat;rw [hl] at this;simp at this
  |cons c r=>
   rw [hl] at hp hd
   have hc:=hd c (by simp)
   simp only [Lib.atoiAll]
   have g1:¬ (c.toNat=43∨c.toNat=45):=by omega
   rw [if_neg g1]
   have hm:Lib.parseMag (c::r) = .ok v.toNat:=by unfold Lib.parseMag;rw [if_neg (by simp)];exact hp
   rw [hm]
   have g2:¬ c.toNat=45:=by omega
   simp only [g2,not_false_iff,true_and,false_and,if_false]
   rw [if_neg (by omega)]
   congr 1
   omega
def numZ (l:qa):Option Int:=
 match Lib.atoiAll l with
 | .ok v=>if Lib.itoa v=l then some v else none
 | _=>none
theorem q4b {v:Int} (h1 : -9223372036854775808≤v) (h2:v≤9223372036854775807):numZ (Lib.itoa v)=some v:=by
 unfold numZ
 rw [qi8 h1 h2]
 simp
theorem q4c {l:qa} {v:Int} (h:numZ l=some v):l=Lib.itoa v∧-9223372036854775808≤v∧v≤9223372036854775807:=by
 unfold numZ at h
 split at h
 ·rename_i u hu
  split at h
  ·rename_i he
   simp only [Option.some.injEq] at h
   subst h
   exact⟨he.symm,atoiAll_bounds hu⟩
  ·simp at h
 ·simp at h
end Go.Pl
namespace Go.Proofs.YtneejjefekdgjaaGreatDoor
open Go Go.Av Go.RowKit Go.Proofs Go.Pl
theorem q33 {l:qa} {v:Int} (h:l=Lib.itoa v):(v<0→(l.getD 0 0).toNat=45∧l.drop 1=Lib.decDigits v.natAbs)∧(0≤v→(l.getD 0 0).toNat≠45∧l=Lib.decDigits v.toNat):=by
 subst h
 refine⟨fun h=>?_,fun h=>?_⟩
 ·rw [qg1 h];exact⟨rfl,rfl⟩
 ·rw [qeh h]
  refine⟨?_,rfl⟩
  have hp:=qfk v.toNat
  have hd:=v8 v.toNat v.toNat (Nat.le_refl _)
  cases hl:Lib.decDigits v.toNat with
  |nil=>rw [hl] at hp;simp at hp
  |cons c r=>
   rw [hl] at hd
   have:=hd c (by simp)
   simp
   omega
def sgn (l:qa):Nat:=if (l.getD 0 0).toNat=45 then 1 else 0
theorem qnc {l:qa} {v:Int} (h:l=Lib.itoa v):l.drop (sgn l)=Lib.decDigits v.natAbs:=by
 obtain⟨h1,h2⟩:=q33 h
 unfold sgn
 by_cases hv:v<0
 ·obtain⟨a,b⟩:=h1 hv
  rw [if_pos a,b]
 ·obtain⟨a,b⟩:=h2 (by omega)
  rw [if_neg a,List.drop_zero,show v.natAbs=v.toNat by omega]
  exact b
end Go.Proofs.YtneejjefekdgjaaGreatDoor
namespace Go.Pl
open Go
def sp:Bool→qa→Bool
 | _,[]=>true
 |f,c::l=>(!f ||decide (c=32)) && sp (decide (c=10)) l
theorem qkm:∀ l,sp false l=sp true (past 10 l)
 | []=>rfl
 |c::l=>by
  by_cases h:c=10
  ·subst h;simp [sp,past,upto]
  ·have e:past 10 (c::l)=past 10 l:=by simp [past,upto,h]
   rw [e,← qkm l]
   simp [sp,h]
theorem qxc {l:qa} (h:l≠[]):sp true l=(decide ([32] <+: upto 10 l) && sp true (past 10 l)):=by
 cases l with
 |nil=>exact absurd rfl h
 |cons c r=>
  by_cases hc:c=10
  ·subst hc;simp [sp,upto]
  ·have e:past 10 (c::r)=past 10 r:=by simp [past,upto,hc]
   have e2:upto 10 (c::r)=c::upto 10 r:=by simp [upto,hc]
   rw [e,e2,← qkm]
   simp [sp,hc,eq_comm]
theorem qjo:∀ (n:Nat) (l:qa),l.length≤n→((∀ x∈zb l,[32] <+: x.1)↔sp true l=true)
 | 0,l,h=>by
  have:l=[]:=List.length_eq_zero_iff.1 (by omega)
  subst this
  simp [kq,sp]
 |n+1,l,h=>by
  by_cases hl:l=[]
  ·subst hl;simp [kq,sp]
  ·rw [vk hl,qxc hl,Bool.and_eq_true,← qjo n (past 10 l) (by have:=xj (c:=10) hl;omega)]
   simp only [List.mem_cons,forall_eq_or_imp,decide_eq_true_eq]
theorem qho (l:qa):(kl [32] l).2=sp true l:=by
 unfold kl
 by_cases h:sp true l=true
 ·rw [if_pos ((qjo _ l (Nat.le_refl _)).2 h),h]
 ·rw [if_neg (fun h'=>h ((qjo _ l (Nat.le_refl _)).1 h'))]
  simp only [Bool.not_eq_true] at h
  rw [h]
def qhs (f:Bool) (l:qa):Bool:=match l.getLast? with|none=>f|some c=>decide (c=10)
theorem q02 (f:Bool) (c:UInt8) (l:qa):qhs f (c::l)=qhs (decide (c=10)) l:=by
 cases l with
 |nil=>simp [qhs]
 |cons b l=>
  unfold qhs
  rw [List.getLast?_cons_cons]
  cases hb:(b::l).getLast? with
  |none=>simp at hb
  |some x=>rfl
theorem qxb:∀ (f:Bool) (l m:qa),sp f (l++m)=(sp f l && sp (qhs f l) m)
 |f,[],m=>by simp [sp,qhs]
 |f,c::l,m=>by
  simp only [List.cons_append,sp]
  rw [qxb _ l m,q02,Bool.and_assoc]
theorem qs4 (l:qa):yc l↔2≤l.length∧l.length≤50000∧l.getLast? = some 10∧sp true l=true:=by
 unfold yc
 rw [qho]
theorem qcy:∀ (n u:Nat),u≤n→∀ c∈Lib.decDigits u,48≤c.toNat∧c.toNat≤57
 |n,u,hn,c,hc=>by
  by_cases h:u<10
  ·rw [Lib.decDigits_one h] at hc
   simp only [List.mem_singleton] at hc
   subst hc
   rw [UInt8.toNat_ofNat']
   omega
  ·rw [qba h,List.mem_append] at hc
   cases n with
   |zero=>omega
   |succ n=>
    rcases hc with hc|hc
    ·exact qcy n (u / 10) (by omega) c hc
    ·exact qcy n (u % 10) (by omega) c hc
theorem qjl (n:Nat):Lib.itoa (n:Int)=Lib.decDigits n:=by
 unfold Lib.itoa
 rw [if_neg (by omega)]
 simp
theorem q7e (n:Nat):∀ c∈Lib.itoa (n:Int),48≤c.toNat∧c.toNat≤57:=by
 rw [qjl]
 exact qcy n n (Nat.le_refl _)
theorem qvi (u:Nat):Lib.decDigits u≠[]:=by
 intro h
 have:=congrArg List.length h
 rw [Lib.decDigits_length] at this
 have:=Lib.nDigits_pos u
 simp at *
 omega
theorem qtg:∀ (a:Nat) (l m:qa) (b:Nat),Lib.parseUint10 a l = .ok b→Lib.parseUint10 a (l++m)=Lib.parseUint10 b m
 |a,[],m,b,h=>by
  simp only [Lib.parseUint10,Lib.NumEnd.ok.injEq] at h
  subst h;rfl
 |a,c::l,m,b,h=>by
  simp only [List.cons_append,Lib.parseUint10] at h ⊢
  split at h
  ·rename_i hd
   rw [if_pos hd]
   split at h
   ·cases h
   ·rename_i h1
    rw [if_neg h1]
    split at h
    ·cases h
    ·rename_i h2
     rw [if_neg h2]
     exact qtg _ l m b h
  ·cases h
theorem qti:∀ (n u:Nat),u≤n→u<1000000000000000000→Lib.parseUint10 0 (Lib.decDigits u) = .ok u
 |n,u,hn,hu=>by
  have key:∀ (a d:Nat),a<100000000000000000→d<10→Lib.parseUint10 a (Lib.decDigits d) = .ok (a * 10+d):=by
   intro a d ha hd
   have e:(UInt8.ofNat (48+d)).toNat=48+d:=by rw [UInt8.toNat_ofNat'];omega
   rw [Lib.decDigits_one hd]
   simp only [Lib.parseUint10,e]
   rw [if_pos (by omega),if_neg (by omega),if_neg (by omega)]
   congr 1
   omega
  by_cases h:u<10
  ·have:=key 0 u (by omega) h
   simpa using this
  ·cases n with
   |zero=>omega
   |succ n=>
    rw [qba h,qtg 0 _ _ (u / 10) (qti n (u / 10) (by omega) (by omega)),key _ _ (by omega) (by omega)]
    congr 1
    omega
theorem q2p {n:Nat} (h:n<1000000000000000000):Lib.atoiAll (Lib.itoa (n:Int)) = .ok (n:Int):=by
 have hp:=qti n n (Nat.le_refl _) h
 have hd:=qcy n n (Nat.le_refl _)
 rw [qjl]
 cases hl:Lib.decDigits n with
 |nil=>exact absurd hl (qvi n)
 |cons c r=>
  rw [hl] at hp hd
  have hc:=hd c (by simp)
  simp only [Lib.atoiAll]
  have h1:¬ (c.toNat=43∨c.toNat=45):=by omega
  rw [if_neg h1]
  have hm:Lib.parseMag (c::r) = .ok n:=by unfold Lib.parseMag;rw [if_neg (by simp)];exact hp
  rw [hm]
  have h2:¬ c.toNat=45:=by omega
  simp only [h2,not_false_iff,true_and,false_and,if_false]
  rw [if_neg (by omega)]
theorem qlo {n:Nat} (h1:1≤n) (h2:n≤50000):kz (Lib.itoa (n:Int))=n:=by
 have:=qqi (q2p (n:=n) (by omega))
 rw [if_pos ⟨rfl,by omega,by omega⟩] at this
 omega
theorem qez {l:qa} {n:Nat} (h:kz l=n) (hn:1≤n):l=Lib.itoa (n:Int):=by
 unfold kz at h
 split at h
 ·split at h
  ·rename_i v _ hv
   have:v=(n:Int):=by omega
   rw [← this,hv.1]
  ·omega
 ·omega
end Go.Pl
namespace Go.Proofs.YtneejjefekdgjaaGreatDoor
open Go Go.Pl
def wb (n:Nat) (fig:qa):qa:=zr++(Lib.itoa n++32::fig)
theorem q68 (n:Nat) (fig:qa):qhv n fig=wb n fig++[10]:=by simp [qhv,wb,zr]
theorem qjq (n:Nat) {c:UInt8} (h:¬ (48≤c.toNat∧c.toNat≤57)):c∉Lib.itoa (n:Int):=fun hc=>h (q7e n c hc)
theorem qld {f:qa} (h:yf f) {c:UInt8} (hc:c∉hexL):c∉f:=fun h'=>hc (h c h')
theorem qcb (n:Nat) {fig:qa} (h:yf fig):10∉wb n fig:=by
 unfold wb
 simp only [List.mem_append,List.mem_cons,not_or]
 exact⟨by decide,qjq n (by decide),by decide,qld h (by decide)⟩
theorem qj9 (l:qa):Lib.trimPrefix (zr++l) zr=l:=by
 rw [qbb (List.prefix_append _ _),List.drop_left]
theorem qws {n:Nat} {fig:qa} (h2:2≤n) (hn:n≤50000) (hf:fig.length=8) (hx:yf fig):zt (wb n fig)=(n,fig,true):=by
 unfold zt wb
 have h32:32∉Lib.itoa (n:Int):=qjq n (by decide)
 rw [qj9,wx fig h32,xy fig h32,qlo (by omega) hn]
 rw [decide_eq_true ⟨List.prefix_append _ _,by simp,h2,hf,hx⟩]
theorem q1u {n:Nat} {fig:qa} (r:qa) (h2:2≤n) (hn:n≤50000) (hf:fig.length=8) (hx:yf fig) :
  zq (wb n fig++10::r)=if r.length<n then (qch r ((n:Int) - r.length),[],0)
   else if yc (r.take n) then yw (r.drop n) (r.take n) fig (qek n) else (3,[],0):=by
 have hm:10∈wb n fig++10::r:=by simp
 have h10:=qcb n hx
 unfold zq
 rw [if_pos hm,wx r h10,xy r h10,qws h2 hn hf hx]
 simp only [if_true]
structure qyx (n:Nat) (fig body:qa):Prop where
 two:2≤n
 most:n≤50000
 len:body.length=n
 good:yc body
 figs:fig.length=8
 hex:yf fig
def recL (n:Nat) (fig body:qa):qa:=wb n fig++10::(body++qc0 n)
theorem qiw (l:qa):recF l=recL l.length (sumF l) l:=by
 unfold recF recL
 rw [q68]
 simp
theorem qtl {l a b:qa} (h:l <+: a++b):l <+: a∨∃ r,l=a++r∧r <+: b:=by
 rcases Nat.le_total l.length a.length with hl|hl
 ·exact .inl (List.prefix_of_prefix_length_le h (List.prefix_append _ _) hl)
 ·obtain⟨r,hr⟩:=List.prefix_of_prefix_length_le (List.prefix_append a b) h hl
  exact .inr ⟨r,hr.symm,by rw [← hr] at h;exact (List.prefix_append_right_inj a).1 h⟩
theorem qrx {a b:qa} {c:UInt8} (h:a <+: b) (hc:c∉b):c∉a:=fun h'=>hc (h.subset h')
theorem q1s (f:qa) (hl:f.length≤8) (hx:yf f):∃ g:qa,g.length=8∧yf g∧f <+: g:=
 ⟨f++List.replicate (8 - f.length) 48,by simp;omega,fun c hc=>by
  rw [List.mem_append,List.mem_replicate] at hc
  rcases hc with hc | ⟨_,rfl⟩
  ·exact hx c hc
  ·decide,List.prefix_append _ _⟩
theorem qr1:∀ (k:Nat),sp false (List.replicate k 97++[10])=true
 | 0=>by simp [sp]
 |k+1=>by rw [List.replicate_succ,List.cons_append];simp only [sp];exact by simpa using qr1 k
theorem qva {n:Nat} {r:qa} (hn:n≤50000) (hlt:r.length<n) (h2:2≤n) (hp:qch r ((n:Int) - r.length)=2):∃ body:qa,body.length=n∧yc body∧r <+: body:=by
 unfold qch at hp
 split at hp
 ·rename_i h
  obtain⟨hs,hfr⟩:=h
  rw [qho] at hs
  by_cases hf:r=[]∨r.getLast? = some 10
  ·have hk:r.length+2≤n:=by
    rcases Nat.lt_or_ge (r.length+1) n with h|h
    ·omega
    ·exact absurd ⟨hf,by omega⟩ hfr
   refine⟨r++(32::(List.replicate (n - r.length - 2) 97++[10])),by simp;omega,?_,List.prefix_append _ _⟩
   rw [qs4]
   refine⟨by simp;omega,by simp;omega,by simp [List.getLast?_append,List.getLast?_cons],?_⟩
   rw [qxb,hs]
   simp only [sp,Bool.true_and]
   have:=qr1 (n - r.length - 2)
   simpa using this
  ·refine⟨r++(List.replicate (n - r.length - 1) 97++[10]),by simp;omega,?_,List.prefix_append _ _⟩
   rw [qs4]
   refine⟨by simp;omega,by simp;omega,by simp [List.getLast?_append],?_⟩
   rw [qxb,hs]
   have e:qhs true r=false:=by
    unfold qhs
    cases hq:r.getLast? with
    |none=>exact absurd (.inl (List.getLast?_eq_none_iff.1 hq)) hf
    |some c=>
     refine decide_eq_false fun h=>hf (.inr ?_)
     rw [hq,h]
   rw [e,qr1]
   rfl
 ·simp at hp
theorem qfe {n:Nat} (h2:2≤n) (hn:n≤50000):∃ body:qa,body.length=n∧yc body:=by
 obtain⟨b,h1,h3,_⟩:=qva (n:=n) (r:=[]) hn (by simp;omega) h2 (by
  unfold qch
  rw [qho]
  rw [if_pos ⟨rfl,by rintro⟨_,h⟩;simp at h;omega⟩])
 exact⟨b,h1,h3⟩
theorem qfo {a b c:qa} (h:a <+: b):a <+: b++c:=h.trans (List.prefix_append _ _)
theorem qfb {n:Nat} {fig body l:qa} (h:l <+: wb n fig):l <+: recL n fig body∧l.length<(recL n fig body).length:=by
 refine⟨qfo h,?_⟩
 have:=h.length_le
 unfold recL
 simp
 omega
theorem zay {l:qa} (h:(zq l).1=2):∃ n fig body,qyx n fig body∧l <+: recL n fig body∧l.length<(recL n fig body).length:=by
 unfold zq at h
 split at h
 ·rename_i h10
  split at h
  ·rename_i ho
   generalize hr:past 10 l=r at *
   have hl:=yn h10
   rw [hr] at hl
   generalize hu:upto 10 l=u at *
   -- the first line
   have hop:u=wb (zt u).1 (zt u).2.1∧2≤(zt u).1∧(zt u).1≤50000∧(zt u).2.1.length=8∧yf (zt u).2.1:=by
    simp only [zt,decide_eq_true_eq] at ho ⊢
    obtain⟨o1,o2,o3,o4,o5⟩:=ho
    refine⟨?_,o3,qa6 _,o4,o5⟩
    obtain⟨t,rfl⟩:=o1
    rw [qj9] at *
    have:=qez rfl (Nat.le_trans (by decide) o3)
    unfold wb
    rw [← this,← yn o2]
   generalize (zt u).1=n at *
   generalize (zt u).2.1=fig at *
   obtain⟨rfl,h2,hn,hf,hx⟩:=hop
   split at h
   ·rename_i hlt
    obtain⟨body,b1,b2,b3⟩:=qva hn hlt h2 h
    refine⟨n,fig,body,⟨h2,hn,b1,b2,hf,hx⟩,?_,?_⟩
    ·rw [hl]
     unfold recL
     rw [List.prefix_append_right_inj,List.cons_prefix_cons]
     exact⟨rfl,qfo b3⟩
    ·rw [hl]
     unfold recL
     have:=b3.length_le
     have:=qd5 n
     simp
     omega
   ·rename_i hge
    split at h
    ·rename_i hg
     have hlen:(r.take n).length=n:=by simp;omega
     refine⟨n,fig,r.take n,⟨h2,hn,hlen,hg,hf,hx⟩,?_⟩
     unfold yw at h
     rw [hlen] at h
     split at h
     ·rename_i hc
      rw [hl]
      unfold recL
      constructor
      ·rw [List.prefix_append_right_inj,List.cons_prefix_cons]
       refine⟨rfl,?_⟩
       conv=>lhs;rw [← List.take_append_drop n r]
       rw [List.prefix_append_right_inj]
       exact hc.2
      ·have:=hc.1
       simp at this ⊢
       omega
     ·split at h <;> simp at h
    ·simp at h
  ·simp at h
 ·rename_i h10
  split at h
  ·rename_i ho
   unfold qc7 at ho
   split at ho
   ·rename_i hb
    obtain⟨t,rfl⟩:=hb
    have ed:(zr++t).drop 7=t:=by rw [show (7:Nat)=zr.length by rfl,List.drop_left]
    rw [ed] at ho
    obtain⟨o1,o2,o3,o4⟩:=of_decide_eq_true ho
    by_cases h32:32∈t
    ·have hn2:2≤kz (upto 32 t):=by
      rcases Nat.lt_or_ge (kz (upto 32 t)) 2 with h|h
      ·exact absurd ⟨h32,h⟩ o1
      ·exact h
     obtain⟨fig,f1,f2,f3⟩:=q1s _ o3 o4
     obtain⟨body,b1,b2⟩:=qfe hn2 (qa6 _)
     refine⟨_,fig,body,⟨hn2,qa6 _,b1,b2,f1,f2⟩,qfb ?_⟩
     unfold wb
     rw [List.prefix_append_right_inj]
     conv=>lhs;rw [yn h32]
     rw [qez (l:=upto 32 t) rfl (by omega)]
     rw [qlo (by omega) (qa6 _),List.prefix_append_right_inj,List.cons_prefix_cons]
     exact⟨rfl,f3⟩
    ·rw [qda h32] at o2
     by_cases ht:t=[]
     ·subst ht
      obtain⟨body,b1,b2⟩:=qfe (n:=2) (by omega) (by omega)
      refine⟨2,List.replicate 8 48,body,⟨by omega,by omega,b1,b2,by simp,by decide⟩,qfb ?_⟩
      unfold wb
      simp
     ·have hpos:1≤kz t:=by
       rcases Nat.eq_zero_or_pos (kz t) with h|h
       ·exact absurd ⟨ht,h⟩ o2
       ·exact h
      have hle:=qa6 t
      have ht2:=qez (l:=t) rfl hpos
      generalize kz t=m at *
      subst ht2
      by_cases hm:m=1
      ·subst hm
       obtain⟨body,b1,b2⟩:=qfe (n:=10) (by omega) (by omega)
       refine⟨10,List.replicate 8 48,body,⟨by omega,by omega,b1,b2,by simp,by decide⟩,qfb ?_⟩
       unfold wb
       rw [List.prefix_append_right_inj]
       have e1:Lib.itoa ((1:Nat):Int)=[49]:=by rw [qjl,Lib.decDigits_one (by decide)];rfl
       have e2:Lib.itoa ((10:Nat):Int)=[49,48]:=by rw [qjl,qba (by decide),Lib.decDigits_one (by decide),Lib.decDigits_one (by decide)];rfl
       rw [e1,e2]
       exact⟨_,rfl⟩
      ·obtain⟨body,b1,b2⟩:=qfe (n:=m) (by omega) (by omega)
       refine⟨m,List.replicate 8 48,body,⟨by omega,by omega,b1,b2,by simp,by decide⟩,qfb ?_⟩
       unfold wb
       rw [List.prefix_append_right_inj]
       exact List.prefix_append _ _
   ·rename_i hb
    have hp:=of_decide_eq_true ho
    obtain⟨body,b1,b2⟩:=qfe (n:=2) (by omega) (by omega)
    refine⟨2,List.replicate 8 48,body,⟨by omega,by omega,b1,b2,by simp,by decide⟩,qfb ?_⟩
    unfold wb
    exact qfo hp
  ·simp at h
theorem qm9 (s:BitVec 32):yf (qa1 s 8):=by
 intro c hc
 simp only [qa1,List.mem_map] at hc
 obtain⟨j,_,rfl⟩:=hc
 unfold figP
 have h:=Go.Av.and15_lt (s >>> (4 * (7 - j)))
 generalize ((s >>> (4 * (7 - j))) &&& BitVec.ofInt 32 15).toNat=k at h
 have key:∀ i:Fin 16,([48,49,50,51,52,53,54,55,56,57,97,98,99,100,101,102]:qa).getD i.val 0∈hexL:=by decide
 exact key ⟨k,h⟩
theorem q1x {b:qa} (h:yc b):qyx b.length (sumF b) b:=⟨h.1,h.2.1,rfl,h,qe3 b,qm9 _⟩
theorem qnk (b:qa) (h:yc b):((recF b).length:Int)=qek b.length:=by
 obtain⟨g1,g2,_⟩:=h
 unfold recF qek
 rw [if_neg (by omega)]
 simp only [List.length_append,qdz,qe3]
 simp
theorem q74 {b:qa} (m:qa) (h:yc b):zq (recF b++m)=(1,b,((recF b).length:Int)):=by
 have R:=q1x h
 rw [qnk b h,qiw]
 unfold recL
 rw [List.append_assoc,List.cons_append,List.append_assoc,q1u _ R.two R.most R.figs R.hex,if_neg (by simp),List.take_left,List.drop_left,if_pos h]
 unfold yw
 rw [if_neg (by simp;intro h;omega),if_pos ⟨List.prefix_append _ _,rfl⟩]
end Go.Proofs.YtneejjefekdgjaaGreatDoor
