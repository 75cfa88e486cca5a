/- Contracts and plain facts that the closing text leans on (part 2). No condition of their own beyond those that each states. -/
import Derived.Test.YtneejjefekdgjaaGreatDoorK1
import Derived.Lib.Builder
import Derived.Laws.Pointers
import Derived.Laws.Externs
import Derived.Laws.Tables
import Derived.Test.YtneejjefekdgjaaGreatDoorK0
import Derived.Test.YtneejjefekdgjaaGreatDoorRows
import Derived.LaidHandle
import Derived.ProofKit
import Derived.OpenShut
import Derived.ShutString
import Derived.Deep.DeepHandedRow
import Derived.Deep.DeepWitnessRowRef
import Derived.Lib.LaidU8
import Derived.Lib.SmallJoins
import Derived.ChangeSame
import Derived.ChangeAgain
import Derived.Lay
import Derived.Lib.Index
import Derived.Lib.SlTrimSet
import Derived.Shelf.Strings.Prefix
import Derived.Shelf.Strings.Cut
import Derived.Lib.ItoaNum
import Derived.Lib.AtoiAll
import Derived.Lib.Repeat
set_option maxRecDepth 100000
set_option linter.unusedVariables false
set_option linter.unusedSimpArgs false
namespace Go.Av
open Go Go.RowKit
section
variable {E : Env} {rd : Option Nat} {N : Nat} {ops : Array Oper} {K : AS → Prop} {s : AS} {rest : List Oper} {d : Option Tmp} {T : TypeId} {p : String} {af : Array Edge}
def zad:AV→Bool
 | .bx _ _ _=>true
 | .pp _=>true
 | _=>false
theorem w6 {x:Operand} {r:AV} (hx:qj N s x=r) (hr:zad r=true) (h:AOps E rd N ops rest K (s.put d r)):AOps E rd N ops (⟨d,.nilCheck x,T,p,af,none⟩::rest) K s:=by
 refine zf rfl (ze nofun fun B0 w0 G a w _ hI=>?_)
 have he:=hI.eval_of hx
 have key:∃ q,a.eval x = .pointer (some q):=by
  generalize a.eval x=u at he
  cases he <;> simp [zad] at hr
  ·exact⟨_,rfl⟩
  ·exact⟨_,rfl⟩
 obtain⟨q,hv⟩:=key
 refine⟨_,w,G,r,s.st,?_,.refl G,hI.agree,hv▸he,h⟩
 generalize a.eval = ρ at hv
 simp [execOp,hv]
end
section
variable {B0 : Nat} {w0 : World} {G : Gh} {st : List AObj} {w : World}
theorem zk.refroze (h:zk B0 w0 G st w) {w':World} {g:Nat} {c:Array Value} {T:TypeId} {fz fz':Nat×Nat} (hg:w.heap[g]? = some (.cells c T fz)) (hg':w'.heap[g]? = some (.cells c T fz')) (ho:∀ k,k≠g→w'.heap[k]? = w.heap[k]?) (hB:B0≤g)
  (hsz:w'.heap.size=w.heap.size) (hos:w'.os=w.os) (htape:w'.tape=w.tape) (hout:w'.output=w.output) (hs:∀ o x,st[o]? = some x→x.live→(G.ob o).blk≠g):zk B0 w0 G st w':=by
 refine⟨h.below.trans ⟨hos,htape,hout,by omega,fun k hk=>ho k (by omega)⟩,by rw [hsz];exact h.hB,h.n,fun b vs hb=>?_,fun o x hx=>(h.ob o x hx).mono (.refl G) rfl (fun _=>rfl) (fun hl=>ho _ (hs o x hx hl)),h.sep⟩
 by_cases e:b=g
 ·subst e
  obtain⟨c2,T2,fz2,e1,e2⟩:=h.pub b vs hb
  rw [hg] at e1
  simp only [Option.some.injEq,Obj.cells.injEq] at e1
  exact⟨c,T,fz',hg',by rw [e1.1];exact e2⟩
 ·rw [ho b e]
  exact h.pub b vs hb
theorem zk.tipCell (h:zk B0 w0 G st w) {o ver j sz:Nat} {T T':TypeId} {cs:List AV} (ho:st[o]? = some (.cells ver T cs)) (hj:cs[j]? = some zu) :
  zk B0 w0 (G.new 0 0 0 false) (st.set o (.cells ver T (cs.set j (.sl sz [] (some st.length))))++[AObj.tip 0 sz T']) w:=by
 have h1:=h.newTip sz T'
 have hle:=G.le_new 0 0 0 false
 have hlt:=lt_of_getElem? ho
 have e:st.set o (.cells ver T (cs.set j (.sl sz [] (some st.length))))++[AObj.tip 0 sz T']=(st++[AObj.tip 0 sz T']).set o (.cells ver T (cs.set j (.sl sz [] (some st.length)))):=by
  rw [List.set_append_left _ _ hlt]
 rw [e]
 have ho':(st++[AObj.tip 0 sz T'])[o]? = some (.cells ver T cs):=by rw [List.getElem?_append_left hlt];exact ho
 generalize hG:G.new 0 0 0 false=G' at h1 hle
 have hn:st.length<G'.n:=by rw [h1.n];simp
 refine⟨h1.below,h1.hB,by simp [h1.n],h1.pub,fun k x hx=>?_,fun k k' x x' hne hx hx' hl hl'=>?_⟩
 ·rcases getElem?_set' _ _ _ _ _ hx with⟨rfl,rfl⟩ | ⟨hne,hx⟩
  ·obtain⟨g0,g1,g2,g3,c,g4,g5,g6⟩:=h1.ob k _ ho'
   refine⟨g0,g1,g2,g3,c,g4,by simpa using g5,fun i x y hx hy=>?_⟩
   rcases getElem?_set' _ _ _ _ _ hx with⟨rfl,rfl⟩ | ⟨_,hx⟩
   ·have:=g6 i _ y hj hy
    cases this
    exact .sl0 sz (some st.length) none 0 fun t ht=>by simp at ht;subst ht;exact⟨hn,rfl,rfl⟩
   ·exact g6 i x y hx hy
  ·exact h1.ob k x hx
 ·have key:∀ (k:Nat) (x:AObj),((st++[AObj.tip 0 sz T']).set o (.cells ver T (cs.set j (.sl sz [] (some st.length)))))[k]? = some x→∃ x0:AObj,(st++[AObj.tip 0 sz T'])[k]? = some x0∧(x.live→x0.live):=fun k x hx=>by
   rcases getElem?_set' _ _ _ _ _ hx with⟨rfl,rfl⟩ | ⟨_,hx⟩
   ·exact⟨_,ho',fun _=>trivial⟩
   ·exact⟨x,hx,id⟩
  obtain⟨x0,e1,e2⟩:=key k x hx
  obtain⟨x1,e3,e4⟩:=key k' x' hx'
  exact h1.sep k k' x0 x1 hne e1 e3 (e2 hl) (e4 hl')
end
section
variable {E : Env} {rd : Option Nat} {N : Nat} {ops : Array Oper} {K : AS → Prop} {s : AS} {rest : List Oper} {d : Option Tmp} {T : TypeId} {p : String} {af : Array Edge}
def qb0:AV→Option Bool
 | .bx _ _ _=>some false
 | .pp _=>some false
 | .v (.pointer none)=>some true
 | _=>none
theorem qck {x:Operand} {t t' te:TypeId} {r:AV} {b:Bool} (hx:qj N s x=r) (hr:qb0 r=some b) (hu:E.P.underlying t=some (.pointer te)) (h:AOps E rd N ops rest K (s.put d (Bv b))):AOps E rd N ops (⟨d,.binOp .eql t x (.const (.pointer none)) t',T,p,af,none⟩::rest) K s:=by
 refine zf rfl (ze nofun fun B0 w0 G a w _ hI=>?_)
 have he:=hI.eval_of hx
 have key:∃ q:Option Addr,a.eval x = .pointer q∧q.isNone=b:=by
  generalize a.eval x=u at he
  cases he <;> try (simp [qb0] at hr;done)
  case v=>
   cases u <;> try (simp [qb0] at hr;done)
   case pointer q=>
    cases q <;> simp [qb0] at hr
    subst hr
    exact⟨_,rfl,rfl⟩
  case pp=>simp [qb0] at hr;subst hr;exact⟨_,rfl,rfl⟩
  case bx=>simp [qb0] at hr;subst hr;exact⟨_,rfl,rfl⟩
 obtain⟨q,hv,rfl⟩:=key
 have hc:a.eval (.const (.pointer none)) = .pointer none:=rfl
 have hq:=run_eql_pointer_nil (P:=E.P) w t q (by simp [Program.pointee,hu])
 refine⟨_,w,G,_,s.st,?_,.refl G,hI.agree,.v _,h⟩
 generalize a.eval = ρ at hv hc
 simp [execOp,hv,hc,eqGuard_at_pointer,hq]
theorem qgu {x:Operand} {t t' te:TypeId} {r:AV} {b:Bool} (hx:qj N s x=r) (hr:qb0 r=some b) (hu:E.P.underlying t=some (.pointer te)) (h:AOps E rd N ops rest K (s.put d (Bv !b))):AOps E rd N ops (⟨d,.binOp .neq t x (.const (.pointer none)) t',T,p,af,none⟩::rest) K s:=by
 refine zf rfl (ze nofun fun B0 w0 G a w _ hI=>?_)
 have he:=hI.eval_of hx
 have key:∃ q:Option Addr,a.eval x = .pointer q∧q.isNone=b:=by
  generalize a.eval x=u at he
  cases he <;> try (simp [qb0] at hr;done)
  case v=>
   cases u <;> try (simp [qb0] at hr;done)
   case pointer q=>
    cases q <;> simp [qb0] at hr
    subst hr
    exact⟨_,rfl,rfl⟩
  case pp=>simp [qb0] at hr;subst hr;exact⟨_,rfl,rfl⟩
  case bx=>simp [qb0] at hr;subst hr;exact⟨_,rfl,rfl⟩
 obtain⟨q,hv,rfl⟩:=key
 have hc:a.eval (.const (.pointer none)) = .pointer none:=rfl
 have hq:=run_neq_pointer_nil (P:=E.P) w t q (by simp [Program.pointee,hu])
 refine⟨_,w,G,_,s.st,?_,.refl G,hI.agree,.v _,h⟩
 generalize a.eval = ρ at hv hc
 simp [execOp,hv,hc,eqGuard_at_pointer,hq]
theorem Inv.ptr {B0:Nat} {w0:World} {G:Gh} {a:Act} {w:World} (hI:Inv B0 w0 N G s a w) {x:Operand} {o ver off:Nat} {T1:TypeId} {cs:List AV} (hx:qj N s x = .bx o ver off) (ho:s.st[o]? = some (.cells ver T1 cs)):a.eval x = .pointer (some ⟨(G.ob o).blk,off,none⟩):=by
 have he:=hI.eval_of hx
 obtain⟨_,h1,_⟩:=hI.agree.ob o _ ho
 generalize a.eval x=v at he
 cases he with
 |bx _ _ _ b hn hv hb=>rw [hb h1]
theorem qsa {x y:Operand} {t t' te:TypeId} {o ver off:Nat} {T1:TypeId} {cs:List AV} (hx:qj N s x = .bx o ver off) (hy:qj N s y = .bx o ver off) (ho:s.st[o]? = some (.cells ver T1 cs)) (hu:E.P.underlying t=some (.pointer te)) (hi:(E.P.info? te).isSome=true)
  (h:AOps E rd N ops rest K (s.put d (Bv false))):AOps E rd N ops (⟨d,.binOp .neq t x y t',T,p,af,none⟩::rest) K s:=by
 refine zf rfl (ze nofun fun B0 w0 G a w _ hI=>?_)
 obtain⟨j,hj⟩:=Option.isSome_iff_exists.1 hi
 have h1:=hI.ptr hx ho
 have h2:=hI.ptr hy ho
 have hq:=Lib.run_neq_ptr_same (P:=E.P) w ⟨(G.ob o).blk,off,none⟩ hu hj
 refine⟨_,w,G,_,s.st,?_,.refl G,hI.agree,.v _,h⟩
 generalize a.eval = ρ at h1 h2
 simp [execOp,h1,h2,eqGuard_at_pointer,hq]
theorem qu2 {x:Operand} {t t' te:TypeId} {o ver:Nat} {T1:TypeId} {cs:List AV} (hx:qj N s x = .bx o ver 0) (ho:s.st[o]? = some (.cells ver T1 cs)) (hne:0<cs.length) (hs:E.P.underlying t=some (.pointer te)) (hd:E.P.underlying t'=some .unsafePointer) (hi:(match E.P.info? te with|some j=>Nat.beq j.size 0|none=>true)=false)
  (h:AOps E rd N ops rest K (s.put d (.bx o ver 0))):AOps E rd N ops (⟨d,.convert t t' x,T,p,af,none⟩::rest) K s:=by
 refine zf rfl (ze nofun fun B0 w0 G a w _ hI=>?_)
 obtain⟨_,h1,h2,h3,c,h4,h5,h6⟩:=hI.agree.ob o _ ho
 have he:=hI.eval_of hx
 have hv:=hI.ptr hx ho
 cases hj:E.P.info? te with
 |none=>rw [hj] at hi;simp at hi
 |some j=>
  rw [hj] at hi
  have hj0:j.size≠0:=fun e=>by simp [e] at hi
  have hq:=Lib.run_to_unsafe (P:=E.P) w ⟨(G.ob o).blk,0,none⟩ hs hd hj hj0 (e:=T1) (cells:=c.size) (by simp [World.shape?,h4]) (by simpa [← h5] using hne)
  refine⟨_,w,G,_,s.st,?_,.refl G,hI.agree,hv▸he,h⟩
  generalize a.eval = ρ at hv
  simp [execOp,hv,hq]
theorem qp8 {x:Operand} {t t' te:TypeId} {o ver:Nat} {T1:TypeId} {cs:List AV} (hx:qj N s x = .bx o ver 0) (ho:s.st[o]? = some (.cells ver T1 cs)) (hs:E.P.underlying t=some .unsafePointer) (hd:E.P.underlying t'=some (.pointer te)) (hi:(E.P.info? te).isSome=true) (hl:liesAt E.P E.P.depth T1 (cs.length / E.P.cellsOf T1) 0 te 1=true)
  (h:AOps E rd N ops rest K (s.put d (.bx o ver 0))):AOps E rd N ops (⟨d,.convert t t' x,T,p,af,none⟩::rest) K s:=by
 refine zf rfl (ze nofun fun B0 w0 G a w _ hI=>?_)
 obtain⟨_,h1,h2,h3,c,h4,h5,h6⟩:=hI.agree.ob o _ ho
 obtain⟨j,hj⟩:=Option.isSome_iff_exists.1 hi
 have he:=hI.eval_of hx
 have hv:=hI.ptr hx ho
 have hq:=Lib.run_from_unsafe (P:=E.P) w ⟨(G.ob o).blk,0,none⟩ hs hd hj (e:=T1) (cells:=c.size) (by simp [World.shape?,h4]) (by rw [← h5];exact hl)
 refine⟨_,w,G,_,s.st,?_,.refl G,hI.agree,hv▸he,h⟩
 generalize a.eval = ρ at hv
 simp [execOp,hv,hq]
theorem qu1 {f:FuncId} {x:Operand} {ts:Array TypeId} {r:AV} (hrun:∀ v w,(callFunc f #[v]).run E.P w = .ok (.value v) w) (hx:qj N s x=r)
  (h:AOps E rd N ops rest K (s.put d r)):AOps E rd N ops (⟨d,.call ⟨.value (.func f),#[x],ts⟩,T,p,af,none⟩::rest) K s:=by
 refine zf rfl (ze nofun fun B0 w0 G a w _ hI=>?_)
 refine⟨a.eval x,w,G,_,s.st,?_,.refl G,hI.agree,hI.eval_of hx,h⟩
 have he:a.eval (.func f) = .func (.func f) #[] #[]:=rfl
 generalize a.eval = ρ at he
 simp [execOp,resolve,Deferred.ofValue,he,invoke,hrun]
theorem Inv.restate {B0:Nat} {w0:World} {G G':Gh} {a:Act} {w:World} {st':List AObj} (h:Inv B0 w0 N G s a w) (hG:G.le G') (hA:zk B0 w0 G' st' w):Inv B0 w0 N G' ⟨s.t,st',s.df⟩ a w:=
 ⟨hA,h.defers_mono hG,h.size,fun i y hy=>(h.tmps i y hy).mono hG⟩
theorem qwd {o ver j sz:Nat} {T1 T':TypeId} {cs:List AV} {l:List Oper} (ho:s.st[o]? = some (.cells ver T1 cs)) (hj:cs[j]? = some zu)
  (h:AOps E rd N ops l K ⟨s.t,s.st.set o (.cells ver T1 (cs.set j (.sl sz [] (some s.st.length))))++[AObj.tip 0 sz T'],s.df⟩):AOps E rd N ops l K s:=
 ⟨fun B0 w0 G a w hL hI Q hQ=>h.run B0 w0 _ a w hL (hI.restate (G.le_new 0 0 0 false) (hI.agree.tipCell ho hj)) Q fun G' s' a' w' hG=>hQ G' s' a' w' ((G.le_new 0 0 0 false).trans hG)⟩
theorem qn9 {o ver j sz:Nat} {T1 T':TypeId} {cs:List AV} {c:Code} {Q:Exit→AS→Prop} (ho:s.st[o]? = some (.cells ver T1 cs)) (hj:cs[j]? = some zu)
  (h:AWp E rd N c Q ⟨s.t,s.st.set o (.cells ver T1 (cs.set j (.sl sz [] (some s.st.length))))++[AObj.tip 0 sz T'],s.df⟩):AWp E rd N c Q s:=
 ⟨fun B0 w0 G a w hL hI=>wpIn_mono (h.run B0 w0 _ a w hL (hI.restate (G.le_new 0 0 0 false) (hI.agree.tipCell ho hj))) fun _ _ _ ⟨G',s',hG,h1,h2⟩=>⟨G',s',(G.le_new 0 0 0 false).trans hG,h1,h2⟩⟩
theorem Inv.newTip {B0:Nat} {w0:World} {G:Gh} {a:Act} {w:World} (h:Inv B0 w0 N G s a w) {i sz:Nat} {T':TypeId} (hi:s.t i=zu):Inv B0 w0 N (G.new 0 0 0 false) ⟨Av.put s.t i (.sl sz [] (some s.st.length)),s.st++[AObj.tip 0 sz T'],s.df⟩ a w:=by
 have hA:=h.agree.newTip sz T'
 have h2:=h.restate (G.le_new 0 0 0 false) hA
 refine⟨h2.agree,h2.defers,h2.size,fun k y hy=>?_⟩
 by_cases e:k=i
 ·subst e
  show Rel _ (Av.put s.t k _ k) y
  rw [xv]
  have:=h2.tmps k y hy
  simp only [hi] at this
  cases this
  exact .sl0 sz _ none 0 fun t ht=>by simp at ht;subst ht;exact⟨by rw [hA.n];simp,rfl,rfl⟩
 ·show Rel _ (Av.put s.t i _ k) y
  rw [qaw _ _ _ _ e]
  exact h2.tmps k y hy
theorem q2l {i sz:Nat} {T':TypeId} {c:Code} {Q:Exit→AS→Prop} (hi:s.t i=zu)
  (h:AWp E rd N c Q ⟨Av.put s.t i (.sl sz [] (some s.st.length)),s.st++[AObj.tip 0 sz T'],s.df⟩):AWp E rd N c Q s:=
 ⟨fun B0 w0 G a w hL hI=>wpIn_mono (h.run B0 w0 _ a w hL (hI.newTip hi)) fun _ _ _ ⟨G',s',hG,h1,h2⟩=>⟨G',s',(G.le_new 0 0 0 false).trans hG,h1,h2⟩⟩
end
end Go.Av
namespace Go.Av
open Go Go.RowKit
theorem qxi:∀ (vs:List Value) (off n:Nat) (c:Array Value),off+n+vs.length≤c.size →
  ((vs.zipIdx n).foldl (fun (cs:Array Value) (x:Value×Nat)=>cs.setIfInBounds (off+x.2) x.1) c).size=c.size ∧
  ∀ k,((vs.zipIdx n).foldl (fun (cs:Array Value) (x:Value×Nat)=>cs.setIfInBounds (off+x.2) x.1) c)[k]? = if off+n≤k∧k<off+n+vs.length then vs[k - (off+n)]? else c[k]?
 | [],off,n,c,_=>⟨by simp,fun k=>by simp;intro h1 h2;omega⟩
 |v::vs,off,n,c,h=>by
  simp only [List.zipIdx_cons,List.foldl_cons,List.length_cons] at h ⊢
  obtain⟨h1,h2⟩:=qxi vs off (n+1) (c.setIfInBounds (off+n) v) (by simp;omega)
  refine⟨by rw [h1];simp,fun k=>?_⟩
  rw [h2 k]
  by_cases hk:k=off+n
  ·subst hk
   rw [if_neg (by omega),if_pos (by omega),Array.getElem?_setIfInBounds_self,if_pos (by omega)]
   simp
  ·by_cases hr:off+n≤k∧k<off+n+(vs.length+1)
   ·rw [if_pos (by omega),if_pos hr]
    rw [show k - (off+n)=(k - (off+(n+1)))+1 by omega]
    simp
   ·rw [if_neg (by omega),if_neg hr]
    rw [Array.getElem?_setIfInBounds,if_neg (by omega)]
def qbr (place:Nat→Option (Nat×Nat)) (cells:List AV):List (Nat×AV)→Option (List AV)
 | []=>some cells
 |(i,x)::rest=>
  match place i with
  |none=>none
  |some (off,size)=>bif x.okc && Nat.beq x.cells.length size && Nat.ble (off+size) cells.length then qbr place (j9 cells off x.cells) rest else none
theorem qfw {G:Gh} (place:Nat→Option (Nat×Nat)):∀ (ps:List (Nat×AV)) (vs:List (Nat×Value)) (cs:List AV) (c:Array Value) (cs':List AV),ps.length=vs.length→(∀ (i:Nat) (p:Nat×AV) (v:Nat×Value),ps[i]? = some p→vs[i]? = some v→p.1=v.1∧Rel G p.2 v.2) →
  RelC G cs c→qbr place cs ps=some cs'→∃ c',Instr.fill place c vs=some c'∧RelC G cs' c'
 | [],[],cs,c,cs',_,_,hc,h=>by
  simp only [qbr,Option.some.injEq] at h
  subst h
  exact⟨c,rfl,hc⟩
 | [],v::vs,_,_,_,hl,_,_,_=>by simp at hl
 |p::ps,[],_,_,_,hl,_,_,_=>by simp at hl
 |(i,x)::ps,(j,v)::vs,cs,c,cs',hl,hr,hc,h=>by
  obtain⟨e,hx⟩:=hr 0 _ _ rfl rfl
  simp only at e hx
  subst e
  simp only [qbr] at h
  simp only [Instr.fill]
  cases hp:place i with
  |none=>simp [hp] at h
  |some q=>
   obtain⟨off,size⟩:=q
   simp only [hp] at h ⊢
   cases hb:(x.okc && Nat.beq x.cells.length size && Nat.ble (off+size) cs.length) with
   |false=>simp [hb] at h
   |true=>
    simp only [hb,cond_true] at h
    simp only [Bool.and_eq_true] at hb
    obtain⟨⟨hok,hsz⟩,hle⟩:=hb
    have hsz:=Nat.eq_of_beq_eq_true hsz
    have hle:=Nat.le_of_ble_eq_true hle
    have hcx:=hx.cells hok
    have hcs:v.cells.size=size:=by rw [← hcx.1];exact hsz
    have hfit:off+v.cells.size≤c.size:=by rw [hcs,← hc.1];exact hle
    rw [if_neg (by simp [hcs];rw [← hc.1];exact hle)]
    have hfold:v.cells.zipIdx.foldl (fun cs (x:Value×Nat)=>cs.setIfInBounds (off+x.2) x.1) c=(v.cells.toList.zipIdx 0).foldl (fun (cs:Array Value) (x:Value×Nat)=>cs.setIfInBounds (off+x.2) x.1) c:=by
     rw [← Array.foldl_toList,Array.toList_zipIdx]
    obtain⟨g1,g2⟩:=qxi v.cells.toList off 0 c (by simpa using hfit)
    have hnew:RelC G (j9 cs off x.cells) ((v.cells.toList.zipIdx 0).foldl (fun (cs:Array Value) (x:Value×Nat)=>cs.setIfInBounds (off+x.2) x.1) c):=by
     refine⟨?_,fun k a y h1 h2=>?_⟩
     ·rw [g1,← hc.1]
      simp [j9]
      omega
     ·rw [g2] at h2
      have e1:(cs.take off).length=off:=by simp;omega
      simp only [j9,List.append_assoc] at h1
      by_cases hk:k<off
      ·rw [List.getElem?_append_left (by omega),List.getElem?_take,if_pos hk] at h1
       rw [if_neg (by omega)] at h2
       exact hc.2 k a y h1 h2
      ·rw [List.getElem?_append_right (by omega),e1] at h1
       by_cases hk2:k - off<x.cells.length
       ·rw [List.getElem?_append_left hk2] at h1
        rw [if_pos ⟨by omega,by simp;omega⟩] at h2
        exact hcx.2 (k - off) a y h1 (by simpa using h2)
       ·rw [List.getElem?_append_right (by omega),List.getElem?_drop] at h1
        rw [if_neg (by simp;omega)] at h2
        rw [show off+x.cells.length+(k - off - x.cells.length)=k by omega] at h1
        exact hc.2 k a y h1 h2
    have:=qfw place ps vs _ _ cs' (by simpa using hl) (fun i p v h1 h2=>hr (i+1) p v (by simpa using h1) (by simpa using h2)) hnew h
    rw [← hfold] at this
    exact this
section
variable {E : Env} {rd : Option Nat} {N : Nat} {ops : Array Oper} {K : AS → Prop} {s : AS} {rest : List Oper} {d : Option Tmp} {T : TypeId} {p : String} {af : Array Edge}
def vb (N:Nat) (s:AS) (parts:Array (Nat×Operand)):List (Nat×AV):=parts.toList.map fun x=>(x.1,qj N s x.2)
def qj7 (P:Program) (t:TypeId):Option (List (Nat×Nat)):=
 match P.underlying t with
 |some (.struct fs)=>fs.toList.mapM (fun f=>(P.info? f.type).map fun i=>(f.offset,i.size))
 | _=>none
theorem qgp {B0:Nat} {w0:World} {G:Gh} {a:Act} {w:World} (hI:Inv B0 w0 N G s a w) (parts:Array (Nat×Operand)):∀ (i:Nat) (p:Nat×AV) (v:Nat×Value),(vb N s parts)[i]? = some p→(parts.toList.map fun x=>(x.1,a.eval x.2))[i]? = some v→p.1=v.1∧Rel G p.2 v.2:=fun i p v h1 h2=>by
 simp only [vb,List.getElem?_map] at h1 h2
 cases hq:parts.toList[i]? with
 |none=>simp [hq] at h1
 |some z=>simp [hq] at h1 h2;subst h1;subst h2;exact⟨rfl,hI.eval _⟩
theorem xi {t:TypeId} {parts:Array (Nat×Operand)} {zs cs:List AV} {pl:List (Nat×Nat)} (hz:qfo E.P t=some zs) (hp:qj7 E.P t=some pl) (hf:qbr (pl[·]?) zs (vb N s parts)=some cs)
  (h:AOps E rd N ops rest K (s.put d (.ag cs))):AOps E rd N ops (⟨d,.build t parts,T,p,af,none⟩::rest) K s:=by
 refine zf rfl (ze nofun fun B0 w0 G a w _ hI=>?_)
 obtain⟨z,hrun,hr⟩:=qng hz w
 obtain⟨c',h1,h2⟩:=qfw (pl[·]?) (vb N s parts) (parts.toList.map fun x=>(x.1,a.eval x.2)) zs z.cells cs (by simp [vb]) (qgp hI parts) (hr G) hf
 unfold qj7 at hp
 split at hp
 ·rename_i fs hu
  refine⟨.agg c',w,G,.ag cs,s.st,?_,.refl G,hI.agree,.ag _ _ h2.1 h2.2,h⟩
  generalize a.eval = ρ at h1
  simp [execOp,Instr.build,run_underlying hu,hrun,Array.mapM_eq_mapM_toList,run_places w _ _ hp,h1]
 ·simp at hp
def qfp (P:Program) (e:TypeId) (n:Nat):Option (List AV):=
 match P.info? e with
 |some i=>bif Nat.beq (n * i.size) 0 then some [] else i.zero.map fun z=>(List.range (n * i.size)).map fun k=>.v (z.cells[k % z.cells.size]!)
 |none=>none
theorem qjt {B0:Nat} {w0:World} {G:Gh} {a:Act} {w:World} (hI:Inv B0 w0 N G s a w) {t e:TypeId} {len sz:Nat} {agg:Bool} {parts:Array (Nat×Operand)} {zs cs:List AV} (hu:E.P.underlying t=some (.slice e)) (ht:tyOf E.P e=some (sz,agg)) (hz:qfp E.P e len=some zs)
  (hf:qbr (fun i=>some (i * sz,sz)) zs (vb N s parts)=some cs) (hsz:Nat.ble (len * sz) 16777216=true) :
  ∃ c':Array Value,(execOp a.eval ⟨d,.buildSlice t len parts,T,p,af,none⟩).run E.P w = .ok (.value (.slice (some ⟨w.heap.size,0,none⟩) len len)) (w.alloc (.cells c' e))∧RelC G cs c':=by
 have hsizeOf:=(vj ht w).1
 have hsz:=Nat.le_of_ble_eq_true hsz
 unfold qfp at hz
 cases hi:E.P.info? e with
 |none=>rw [hi] at hz;simp at hz
 |some i=>
  rw [hi] at hz
  simp only at hz
  have hs:i.size=sz:=by simpa [sizeOf,typeInfo,hi] using hsizeOf
  rw [hs] at hz
  -- the array that the run starts from
  have key:∃ c0:Array Value,RelC G zs c0∧∀ (Q:Array Value→Sem Value),((do
    let zero ← if len * sz=0 then pure #[] else do pure (← zeroValue e).cells
    Q ((Array.range (len * sz)).map (zero[· % zero.size]!)):Sem Value)).run E.P w=(Q c0).run E.P w:=by
   by_cases h0:len * sz=0
   ·rw [h0] at hz
    simp at hz
    subst hz
    exact⟨#[],⟨rfl,by simp⟩,fun Q=>by have e:Array.range 0 = #[]:=(by simp [Array.range]);simp [h0,e]⟩
   ·have:Nat.beq (len * sz) 0=false:=j7 h0
    rw [this] at hz
    simp only [cond_false] at hz
    cases hzr:i.zero with
    |none=>rw [hzr] at hz;simp at hz
    |some z=>
     rw [hzr] at hz
     simp only [Option.map_some,Option.some.injEq] at hz
     subst hz
     refine⟨(Array.range (len * sz)).map (z.cells[· % z.cells.size]!),⟨by simp,fun k x y h1 h2=>?_⟩,fun Q=>by simp [h0,zeroValue,typeInfo,hi,hzr]⟩
     have hk:k<len * sz:=by have:=lt_of_getElem? h1;simpa using this
     simp [hk] at h1 h2
     subst h1;subst h2
     exact .v _
  obtain⟨c0,hc0,hrun0⟩:=key
  obtain⟨c',h1,h2⟩:=qfw (fun i=>some (i * sz,sz)) (vb N s parts) (parts.toList.map fun x=>(x.1,a.eval x.2)) zs c0 cs (by simp [vb]) (qgp hI parts) hc0 hf
  refine⟨c',?_,h2⟩
  ·generalize a.eval = ρ at h1
   have hb:¬ 16777216<len * sz:=by omega
   have hg:∃ m:String,(execOp ρ ⟨d,.buildSlice t len parts,T,p,af,none⟩).run E.P w=(((do
    let zero ← if len * sz=0 then pure #[] else do pure (← zeroValue e).cells
    (fun c=>(do
    let some cells:=Instr.fill (fun i=>some (i * sz,sz)) c (parts.map fun x=>(x.1,ρ x.2)).toList|stuck m
    pure (Value.slice (some (← newRow e cells)) len len):Sem Value)) ((Array.range (len * sz)).map (zero[· % zero.size]!)):Sem Value)).run E.P w).andThen fun v w'=>.ok (.value v) w':=by
    apply Exists.intro
    simp only [execOp,Instr.buildSlice]
    simp [run_underlying hu,hsizeOf,hb]
    rfl
   obtain⟨m,hg⟩:=hg
   have hQ:=hrun0 (fun c=>do
    let some cells:=Instr.fill (fun i=>some (i * sz,sz)) c (parts.map fun x=>(x.1,ρ x.2)).toList|stuck m
    pure (.slice (some (← newRow e cells)) len len))
   rw [hg,hQ]
   simp [h1,newRow,newObj,Sem.run]
theorem zx {t e:TypeId} {len sz:Nat} {agg:Bool} {parts:Array (Nat×Operand)} {zs cs xs:List AV} (hu:E.P.underlying t=some (.slice e)) (ht:tyOf E.P e=some (sz,agg)) (hz:qfp E.P e len=some zs)
  (hf:qbr (fun i=>some (i * sz,sz)) zs (vb N s parts)=some cs) (hxs:(vb N s parts).map Prod.snd=xs) (hlen:xs.length=len) (hfl:flat xs=cs) (hw:xs.all (fun x=>Nat.beq x.cells.length sz)=true) (hsz:Nat.ble (len * sz) 16777216=true)
  (h:AOps E rd N ops rest K (s.put d (.sl sz xs none))):AOps E rd N ops (⟨d,.buildSlice t len parts,T,p,af,none⟩::rest) K s:=by
 refine zf rfl (ze nofun fun B0 w0 G a w _ hI=>?_)
 obtain⟨c',hrun,h2⟩:=qjt (d:=d) (T:=T) (p:=p) (af:=af) hI hu ht hz hf hsz
 obtain⟨hle,hA⟩:=hI.agree.newPub e c' (0,0) c'.toList (fun i y hy=>by simpa using hy)
 refine⟨.slice (some ⟨w.heap.size,0,none⟩) len len,w.alloc (.cells c' e),_,.sl sz xs none,s.st,hrun,hle,hA,?_,h⟩
 rw [← hlen]
 cases xs with
 |nil=>exact .sl0 sz none _ _ (by simp)
 |cons x0 xr=>
  refine .sl sz _ none w.heap.size 0 _ c'.toList (by simp [Gh.publish]) (fun x hx=>?_) (by rw [hfl,h2.1];simp) (fun k x y g1 g2=>?_) (fun t ht=>by simp at ht) (Nat.le_refl _)
  ·exact Nat.eq_of_beq_eq_true (List.all_eq_true.1 hw x hx)
  ·rw [hfl] at g1
   exact (h2.2 k x y g1 (by simpa using g2)).mono hle
end
end Go.Av
namespace Go.Av
open Go Go.RowKit
inductive qa3 (n:Nat):List AObj→List AObj→Prop
 |nil:qa3 n [] []
 |same {l l':List AObj} (x:AObj) (h:qa3 n l l'):qa3 n (x::l) (x::l')
 |cut {l l':List AObj} {x x':AObj} (hx:qg3 n x') (h:qa3 n l l'):qa3 n (x::l) (x'::l')
 |loop {l l':List AObj} {ls ls':LoopState} {pend pend':Option Code} {N:Nat} {t:Nat→AV} {ps:Array Tmp} {asg body:Code} (h:qa3 n l l'):qa3 n (.loop ls pend N t ps asg body::l) (.loop ls' pend' N t ps asg body::l')
theorem qhe (n:Nat):∀ l,qa3 n l l
 | []=>.nil
 |x::l=>.same x (qhe n l)
theorem qi1 {n:Nat} {l l':List AObj} (h:qa3 n l l'):∀ st,qa3 n (st++l) (st++l')
 | []=>h
 |x::st=>.same x (qi1 h st)
theorem qa3.length {n:Nat} {l l':List AObj} (h:qa3 n l l'):l'.length=l.length:=by
 induction h with
 |nil=>rfl
 | _=>simpa
theorem qa3.get {n:Nat} {l l':List AObj} (h:qa3 n l l') (hc:∀ (o:Nat) (x:AObj),l[o]? = some x→qg3 n x):∀ (o:Nat) (x:AObj),l'[o]? = some x→qg3 n x:=by
 induction h with
 |nil=>exact hc
 |same y h ih=>
  intro o x hx
  cases o with
  |zero=>exact hc 0 x hx
  |succ o=>exact ih (fun o x h=>hc (o+1) x h) o x (by simpa using hx)
 |cut hx' h ih=>
  intro o x hx
  cases o with
  |zero=>simp at hx;subst hx;exact hx'
  |succ o=>exact ih (fun o x h=>hc (o+1) x h) o x (by simpa using hx)
 |loop h ih=>
  intro o x hx
  cases o with
  |zero=>simp at hx;subst hx;have h0:=hc 0 _ rfl;exact h0
  |succ o=>exact ih (fun o x h=>hc (o+1) x h) o x (by simpa using hx)
theorem qzp {E:Env} {o:Nat} {xs:List AV} {st:List AObj} {R:Bool→List AObj→Prop}
  (h:qab E o xs st fun b st2=>∃ st1 ext,st2=st1++ext∧qa3 st.length st st1∧R b st1):qab E o xs st R:=by
 refine⟨fun B0 w0 G vals w hL hA hR=>?_⟩
 obtain⟨f,tmps,asg,body,h1,h2⟩:=h.run B0 w0 G vals w hL hA hR
 refine⟨f,tmps,asg,body,h1,h2.mono ?_⟩
 rintro e w' ⟨b,G',st2,he,hG,hA',st1,ext,rfl,hk,hRR⟩
 have hle:=hG.cut
 rw [hA.n] at hle
 refine⟨b,G'.cut st.length,st1,he,hle,?_,hRR⟩
 have hd:=hk.get (fun o x hx=>hA.cutOb hx)
 have hl:=hk.length
 rw [← hl] at hd ⊢
 exact hA'.drop hd
theorem qof {n ver:Nat} {T:TypeId} {cs:List AV} (h:∀ x∈cs,Cut n x):qg3 n (.cells ver T cs):=h
theorem qtq {n a b:Nat} {T:TypeId}:qg3 n (.tip a b T):=trivial
theorem q49 {n o ver off:Nat} (h:o<n):Cut n (.bx o ver off):=qfc (.bx o ver off h)
theorem qtr {n tp:Nat} {l:List UInt8} (h:tp<n):Cut n (.sl 1 (l.map fun c=>.v (.int .u8 (c.toNat:Nat))) (some tp)):=by
 refine qfc (.sl 1 _ _ (fun i x hx=>?_) (fun t ht=>by simp at ht;omega))
 have:=qg9 l
 rw [this] at hx
 simp only [List.getElem?_map] at hx
 cases hq:l[i]? with
 |none=>simp [hq] at hx
 |some c=>simp [hq] at hx;subst hx;exact .v _
def qki (F:LoopState→Option Code→AObj) (N:Nat) (t:Nat→AV) (ps:Array Tmp) (asg body:Code):Prop:=∀ ls pend,F ls pend=AObj.loop ls pend N t ps asg body
theorem q3g {n:Nat} {l l':List AObj} {F:LoopState→Option Code→AObj} {ls ls':LoopState} {pend pend':Option Code} {N:Nat} {t:Nat→AV} {ps:Array Tmp} {asg body:Code} (hF:qki F N t ps asg body) (h:qa3 n l l'):qa3 n (F ls pend::l) (F ls' pend'::l'):=by
 rw [hF,hF]
 exact .loop h
@[reducible] def zdi (o : Nat) (F : LoopState → Option Code → AObj) (R : Bool → List AObj → Prop) : Exit → AS → Prop
 | .normal,s=>s.st[o]? = some (F .busy none)∧R true (s.st.set o (F .ready none))
 | .ret,s=>s.st[o]? = some (F .busy none)∧R false (s.st.set o (F .done (some .ret)))
 | .exit id,s=>s.st[o]? = some (F .busy none)∧R false (s.st.set o (F .done (some (.exit id))))
 | _,_=>False
theorem qo4 {E:Env} {o N:Nat} {t:Nat→AV} {ps:Array Tmp} {asg body:Code} {st:List AObj} {R:Bool→List AObj→Prop} {xs:List AV} {F:LoopState→Option Code→AObj} (hF:qki F N t ps asg body) (ho:st[o]? = some (F .ready none)) (hps:ps.size=xs.length)
  (h:∀ l,AWp E (some l) N asg (only fun s1=>s1.st[o]? = some (F .ready none)∧s1.df=[]∧AWp E (some l) N body (zdi o F R) ⟨s1.t,s1.st.set o (F .busy none),[]⟩) ⟨qja t (ps.toList.zip xs),st,[]⟩):qab E o xs st R:=by
 refine qzn (N:=N) (t:=t) (ps:=ps) (asg:=asg) (body:=body) (by rw [ho,hF]) hps fun l=>(h l).mono fun e s1 hq=>?_
 cases e with
 |normal=>
  obtain⟨h1,h2,h3⟩:=hq
  refine⟨by rw [h1,hF],h2,?_⟩
  rw [hF] at h3
  refine h3.mono fun e s2 hq2=>?_
  cases e with
  |normal=>obtain⟨k1,k2⟩:=hq2;exact⟨by rw [k1,hF],by rw [hF] at k2;exact k2⟩
  |ret=>obtain⟨k1,k2⟩:=hq2;exact⟨by rw [k1,hF],by rw [hF] at k2;exact k2⟩
  |exit id=>obtain⟨k1,k2⟩:=hq2;exact⟨by rw [k1,hF],by rw [hF] at k2;exact k2⟩
  | _=>exact hq2.elim
 | _=>exact hq.elim
theorem qkp {E:Env} {N:Nat} {Q:Exit→AS→Prop} {s:AS} {f:Operand} {ps:Array Tmp} {asg body:Code} {st loc:List AObj} {g:FuncId} {fs cs:List AV} (hst:s.st=st++loc) (hx:qj N s f = .fn (.func g) fs cs)
  (hrun:∀ vs w,(callFunc g vs).run E.P w = .ok (.enter g vs) w)
  (h:∀ F,qki F N s.t ps asg body→qn E g (fs++[.yd (st.length+(loc.length+1))]++cs) (st++(loc++[.dfr,F .ready none])) fun _ st'=>∃ ls pend,ls≠LoopState.busy∧st'[st.length+(loc.length+1)]? = some (F ls pend) ∧
   match pend with
   |none=>Q .normal ⟨s.t,st'.set (st.length+(loc.length+1)) .dead,(st.length+loc.length)::s.df⟩
   |some c=>AWp E none N c Q ⟨s.t,st'.set (st.length+(loc.length+1)) .dead,(st.length+loc.length)::s.df⟩):AWp E none N (.rangeFunc f ps asg body) Q s:=
 qu4 hst hx hrun ((h (fun ls pend=>.loop ls pend N s.t ps asg body) (fun _ _=>rfl)).mono fun _ _ ⟨ls,pend,h1,h2,h3⟩=>⟨ls,pend,h1,h2,h3⟩)
theorem qim {E:Env} {rd:Option Nat} {N:Nat} {c:Code} {Q:Exit→AS→Prop} {s:AS} (L:List (Nat×AV)) (st':List AObj) (df':List Nat) (h:HasL s.t L) (hst:s.st=st') (hdf:s.df=df') (k:∀ t,AWp E rd N c Q ⟨puts t L,st',df'⟩):AWp E rd N c Q s:=by
 have:=k s.t
 rw [qka h,← hst,← hdf] at this
 exact this
theorem qga {E:Env} {B0:Nat} {w0:World} {N:Nat} {G:Gh} {s:AS} {a:Act} {w:World} (hI:Inv B0 w0 N G s a w) {x:Operand} {t:TypeId} {sz:Nat} {agg:Bool} {o ver off:Nat} {T':TypeId} {cs:List AV} {r:AV} (hx:qj N s x = .bx o ver off) (ho:s.st[o]? = some (.cells ver T' cs)) (ht:tyOf E.P t=some (sz,agg)) (hr:jq sz agg off cs=some r) :
  ∃ b v,a.eval x = .pointer (some ⟨b,off,none⟩)∧(loadVar t ⟨b,off,none⟩).run E.P w = .ok v w∧Rel G r v:=by
 have he:=hI.eval_of hx
 generalize hv:a.eval x=v at he
 cases he with
 |bx _ _ _ b hn hv' hb=>
  obtain⟨_,h1,h2,h3,c,h4,h5,h6⟩:=hI.agree.ob o _ ho
  have hb:=hb h1
  rw [hb] at h4
  obtain⟨v,hrun,hR⟩:=qaq (w:=w) (G:=G) (b:=b) (off:=off) (off':=off) ht (fun i x hx hi=>by
   obtain⟨y,hy⟩:=vz hx (Nat.le_of_eq h5)
   refine⟨y,?_,h6 i x y hx hy⟩
   simp [World.cell?,h4,show off+(i - off)=i by omega,hy]) hr
  exact⟨b,v,rfl,hrun,hR⟩
theorem q2g {E:Env} {fn:Func} {s:AS} {t u:Tmp} {Ta Tb:TypeId} {o1 v1 f1 sz1:Nat} {agg1:Bool} {T1:TypeId} {cs1:List AV} {r1:AV} {o2 v2 f2 sz2:Nat} {agg2:Bool} {T2:TypeId} {cs2:List AV} {r2:AV} (hr:fn.results = #[.cell t Ta,.cell u Tb])
  (hx1:qj fn.ntmps s (.tmp t) = .bx o1 v1 f1) (ho1:s.st[o1]? = some (.cells v1 T1 cs1)) (ht1:tyOf E.P Ta=some (sz1,agg1)) (hl1:jq sz1 agg1 f1 cs1=some r1)
  (hx2:qj fn.ntmps s (.tmp u) = .bx o2 v2 f2) (ho2:s.st[o2]? = some (.cells v2 T2 cs2)) (ht2:tyOf E.P Tb=some (sz2,agg2)) (hl2:jq sz2 agg2 f2 cs2=some r2):ARes E fn s (.tu [r1,r2]):=by
 refine⟨fun B0 w0 G a w _ hI=>?_⟩
 obtain⟨b1,y1,e1,e2,e3⟩:=qga hI hx1 ho1 ht1 hl1
 obtain⟨b2,y2,k1,k2,k3⟩:=qga hI hx2 ho2 ht2 hl2
 simp only [Act.eval,Array.getD_eq_getD_getElem?] at e1 k1
 refine⟨.tuple #[y1,y2],?_,qey e3 k3⟩
 simp [results,hr,e1,k1,asAddr,e2,k2]
theorem qlw {E:Env} {fn:Func} {R:AV→List AObj→Prop} {s:AS} {st loc:List AObj} {k:Nat} {ds:List Nat} (hs:s.st=st++loc) (hd:s.df=(st.length+k)::ds) (ho:loc[k]? = some .dfr) (h:ARet E fn R ⟨s.t,st++loc.set k .dead,ds⟩):ARet E fn R s:=
 qmb hd (by rw [hs];exact zl ho) (by rw [hs,xx];exact h)
theorem qjs {E:Env} {fn:Func} {s:AS} {t u:Tmp} {Ta Tb:TypeId} {st loc:List AObj} {k1 v1 f1 sz1:Nat} {agg1:Bool} {T1:TypeId} {cs1:List AV} {r1:AV} {k2 v2 f2 sz2:Nat} {agg2:Bool} {T2:TypeId} {cs2:List AV} {r2:AV} (hr:fn.results = #[.cell t Ta,.cell u Tb]) (hs:s.st=st++loc)
  (hx1:qj fn.ntmps s (.tmp t) = .bx (st.length+k1) v1 f1) (ho1:loc[k1]? = some (.cells v1 T1 cs1)) (ht1:tyOf E.P Ta=some (sz1,agg1)) (hl1:jq sz1 agg1 f1 cs1=some r1)
  (hx2:qj fn.ntmps s (.tmp u) = .bx (st.length+k2) v2 f2) (ho2:loc[k2]? = some (.cells v2 T2 cs2)) (ht2:tyOf E.P Tb=some (sz2,agg2)) (hl2:jq sz2 agg2 f2 cs2=some r2):ARes E fn s (.tu [r1,r2]):=
 q2g hr hx1 (by rw [hs];exact zl ho1) ht1 hl1 hx2 (by rw [hs];exact zl ho2) ht2 hl2
@[reducible] def Wv (x : BitVec 32) : AV := .v (.int .u32 (x.toNat : Nat))
theorem qf3 (n:Nat):IntKind.u32.wrap (n:Int)=((n % 4294967296:Nat):Int):=by
 simp [IntKind.wrap,IntKind.bits,IntKind.signed]
theorem jw (x:BitVec 32):BitVec.ofInt 32 (x.toNat:Int)=x:=by
 rw [BitVec.ofInt_natCast,BitVec.ofNat_toNat]
 simp
theorem qfn (x:BitVec 32):IntKind.u32.wrap (x.toNat:Int)=(x.toNat:Int):=by
 rw [qf3,Nat.mod_eq_of_lt x.isLt]
section
variable {E : Env} {rd : Option Nat} {N : Nat} {ops : Array Oper} {K : AS → Prop} {s : AS} {rest : List Oper} {d : Option Tmp} {T : TypeId} {p : String} {af : Array Edge}
theorem qr2 (x:BitVec 32):((x.toNat:Nat):Int)=0↔x=0#32:=by
 constructor
 ·intro h
  apply BitVec.eq_of_toNat_eq
  simpa using h
 ·rintro rfl
  rfl
theorem qdg {x y:Operand} {t t':TypeId} {m n:Int} {a b:BitVec 32} (hx:qj N s x = .v (.int .u32 m)) (hy:qj N s y = .v (.int .u32 n)) (ha:BitVec.ofInt 32 m=a) (hb:BitVec.ofInt 32 n=b) (h:AOps E rd N ops rest K (s.put d (Wv (a ^^^ b)))):AOps E rd N ops (⟨d,.binOp .xor t x y t',T,p,af,none⟩::rest) K s:=
 q7y hx hy (by subst ha;subst hb;simp only [qcb,IntKind.bits];rw [qfn];rfl) h
theorem qkl {x y:Operand} {t t':TypeId} {m n:Int} {a b:BitVec 32} (hx:qj N s x = .v (.int .u32 m)) (hy:qj N s y = .v (.int .u32 n)) (ha:BitVec.ofInt 32 m=a) (hb:BitVec.ofInt 32 n=b) (h:AOps E rd N ops rest K (s.put d (Wv (a &&& b)))):AOps E rd N ops (⟨d,.binOp .and t x y t',T,p,af,none⟩::rest) K s:=
 q7t hx hy (by subst ha;subst hb;simp only [qcb,IntKind.bits];rw [qfn];rfl) h
theorem q4m {x y:Operand} {t t':TypeId} {m n:Int} {a b:BitVec 32} (hx:qj N s x = .v (.int .u32 m)) (hy:qj N s y = .v (.int .u32 n)) (ha:BitVec.ofInt 32 m=a) (hb:BitVec.ofInt 32 n=b) (h:AOps E rd N ops rest K (s.put d (Wv (a |||b)))):AOps E rd N ops (⟨d,.binOp .or t x y t',T,p,af,none⟩::rest) K s:=
 zaq hx hy (by subst ha;subst hb;simp only [qcb,IntKind.bits];rw [qfn];rfl) h
theorem qht {x:Operand} {t:TypeId} {a:BitVec 32} (hx:qj N s x=Wv a) (h:AOps E rd N ops rest K (s.put d (Wv (~~~ a)))):AOps E rd N ops (⟨d,.unOp .xor t x,T,p,af,none⟩::rest) K s:=
 q2d hx (by
  simp only [qcb,IntKind.bits,IntKind.signed,Bool.false_eq_true,if_false]
  rw [jw]
  have h1:BitVec.ofInt 32 IntKind.u32.max=BitVec.allOnes 32:=by decide
  have h2:BitVec.ofInt 32 IntKind.u32.max ^^^ a = ~~~ a:=by rw [h1,BitVec.xor_comm,BitVec.xor_allOnes]
  exact (congrArg (fun z:BitVec 32=>IntKind.u32.wrap (z.toNat:Int)) h2).trans (qfn _)) h
theorem qe7 {x y:Operand} {t t':TypeId} {yk:IntKind} {a:BitVec 32} {n:Nat} (hx:qj N s x=Wv a) (hy:qj N s y = .v (.int yk (n:Int))) (hn:Nat.ble n 32=true) (h:AOps E rd N ops rest K (s.put d (Wv (a <<< n)))):AOps E rd N ops (⟨d,.binOp .shl t x y t',T,p,af,none⟩::rest) K s:=
 q7w hx hy (by omega) (by
  have hn:=Nat.le_of_ble_eq_true hn
  have:min (n:Int).toNat IntKind.u32.bits=n:=by simp [IntKind.bits];omega
  rw [this]
  have e:(a.toNat:Int) * 2 ^ n=((a.toNat * 2 ^ n:Nat):Int):=by simp
  rw [e,qf3,BitVec.toNat_shiftLeft,Nat.shiftLeft_eq]) h
theorem qg5 {x y:Operand} {t t':TypeId} {yk:IntKind} {a:BitVec 32} {n:Nat} (hx:qj N s x=Wv a) (hy:qj N s y = .v (.int yk (n:Int))) (hn:Nat.ble n 32=true) (h:AOps E rd N ops rest K (s.put d (Wv (a >>> n)))):AOps E rd N ops (⟨d,.binOp .shr t x y t',T,p,af,none⟩::rest) K s:=
 q7x hx hy (by omega) (by
  have hn:=Nat.le_of_ble_eq_true hn
  have:min (n:Int).toNat IntKind.u32.bits=n:=by simp [IntKind.bits];omega
  rw [this,BitVec.toNat_ushiftRight,Nat.shiftRight_eq_div_pow]
  have h0:(0:Int)≤2 ^ n:=by
   have:((2 ^ n:Nat):Int)=(2:Int) ^ n:=by simp
   rw [← this]
   exact Int.natCast_nonneg _
  rw [Int.fdiv_eq_ediv_of_nonneg _ h0]
  simp) h
theorem qjd {x y:Operand} {t e:TypeId} {len sz:Nat} {agg:Bool} {k:IntKind} {n:Nat} {cs:List AV} {r:AV} (hx:qj N s x = .ag cs) (hy:qj N s y = .v (.int k (n:Int))) (hu:E.P.underlying t=some (.array len e)) (ht:tyOf E.P e=some (sz,agg)) (hn:n<len) (hr:jq sz agg (n * sz) cs=some r)
  (h:AOps E rd N ops rest K (s.put d r)):AOps E rd N ops (⟨d,.index t x y,T,p,af,none⟩::rest) K s:=by
 refine zf rfl (ze nofun fun B0 w0 G a w _ hI=>?_)
 have he:=hI.eval_of hx
 have hey:=hI.evalv hy
 generalize hv:a.eval x=v at he
 cases he with
 |ag _ vs hl hrel=>
  obtain⟨i1,i2⟩:=vj ht w
  cases agg with
  |false=>
   simp only [jq,cond_false] at hr
   obtain⟨z,hz⟩:=vz hr (Nat.le_of_eq hl)
   refine⟨z,w,G,r,s.st,?_,.refl G,hI.agree,hrel _ r z hr hz,h⟩
   generalize a.eval = ρ at hv hey
   simp only [execOp,hv,hey]
   simp [Instr.index,asIntOf,run_underlying hu,hn,part,i1,i2,hz]
  |true=>
   simp only [jq,cond_true] at hr
   cases hb:Nat.ble (n * sz+sz) cs.length with
   |false=>rw [hb] at hr;simp at hr
   |true=>
    rw [hb] at hr
    simp only [cond_true,Option.some.injEq] at hr
    have hle:n * sz+sz≤cs.length:=Nat.le_of_ble_eq_true hb
    refine⟨.agg (vs.extract (n * sz) (n * sz+sz)),w,G,r,s.st,?_,.refl G,hI.agree,?_,h⟩
    ·generalize a.eval = ρ at hv hey
     simp only [execOp,hv,hey]
     simp [Instr.index,asIntOf,run_underlying hu,hn,part,i1,i2]
    ·subst hr
     refine .ag _ _ (by simp;omega) fun i x y h1 h2=>?_
     have hi:i<sz:=by have:=lt_of_getElem? h1;simp at this;omega
     simp [hi,List.getElem?_drop] at h1
     rw [Array.getElem?_extract] at h2
     split at h2
     ·exact hrel (n * sz+i) x y h1 h2
     ·simp at h2
theorem qcu {x y:Operand} {t e:TypeId} {len sz:Nat} {agg:Bool} {k:IntKind} {n o ver off:Nat} (hx:qj N s x = .bx o ver off) (hy:qj N s y = .v (.int k (n:Int))) (hu:E.P.underlying t=some (.array len e)) (ht:tyOf E.P e=some (sz,agg)) (hn:n<len)
  (h:AOps E rd N ops rest K (s.put d (.bx o ver (off+n * sz)))):AOps E rd N ops (⟨d,.indexAddr t x y,T,p,af,none⟩::rest) K s:=by
 refine zf rfl (ze nofun fun B0 w0 G a w _ hI=>?_)
 have he:=hI.eval_of hx
 have hey:=hI.evalv hy
 generalize hv:a.eval x=v at he
 cases he with
 |bx _ _ _ b hn' hver hb=>
  refine⟨.pointer (some ⟨b,off+n * sz,none⟩),w,G,_,s.st,?_,.refl G,hI.agree,.bx o ver _ b hn' hver hb,h⟩
  generalize a.eval = ρ at hv hey
  simp only [execOp,hv,hey]
  simp [Instr.indexAt,asIntOf,run_underlying hu,Instr.sureAddr,hn,(vj ht w).1,Addr.add_lit]
theorem qp7 {x:Operand} {t t':TypeId} {k:IntKind} {n:Nat} {e:TypeDesc} (hx:qj N s x = .v (.int k (n:Int))) (hs:E.P.underlying t=some e) (hd:E.P.underlying t'=some (.int .u32)) (hn:n<4294967296)
  (h:AOps E rd N ops rest K (s.put d (Wv (BitVec.ofNat 32 n)))):AOps E rd N ops (⟨d,.convert t t' x,T,p,af,none⟩::rest) K s:=
 qdf hx hs hd (by rw [qf3,Nat.mod_eq_of_lt hn,BitVec.toNat_ofNat,Nat.mod_eq_of_lt hn]) h
theorem qsb {x y:Operand} {t:TypeId} {sz:Nat} {agg:Bool} {st loc loc':List AObj} {k ver off:Nat} {T':TypeId} {cs xs:List AV} {r:AV} (hs:s.st=st++loc) (hx:qj N s x = .bx (st.length+k) ver off) (hy:qj N s y=r) (ho:loc[k]? = some (.cells ver T' cs)) (ht:tyOf E.P t=some (sz,agg))
  (hok:r.okc=true) (hc:r.cells=xs) (hsz:Nat.beq xs.length sz=true) (h1:ke xs=true) (hfit:off+sz≤cs.length) (hl:loc'=loc.set k (.cells ver T' (j9 cs off xs)))
  (h:AOps E rd N ops rest K (AS.put ⟨s.t,st++loc',s.df⟩ d (.v undef))):AOps E rd N ops (⟨d,.store t x y,T,p,af,none⟩::rest) K s:=
 jk hs hx hy ho ht hok hc hsz h1 (Nat.ble_eq_true_of_le hfit) hl h
theorem q34 {cs:List AV} {off:Nat} {x:AV} (h:off<cs.length):j9 cs off [x]=cs.set off x:=by
 rw [List.set_eq_take_append_cons_drop,if_pos h]
 simp [j9]
theorem qb4 {t:Nat→AV} {L:List (Nat×AV)} {st st':List AObj} {df:List Nat} (h:HasL t L) (e:st'=st):StA L st df ⟨t,st',df⟩:=by
 subst e
 exact zw h
theorem qse {fn:Func} {t:Tmp} {Ta:TypeId} {st loc:List AObj} {k1 v1 f1 sz1:Nat} {agg1:Bool} {T1:TypeId} {cs1:List AV} {r1:AV} (hr:fn.results = #[.cell t Ta]) (hs:s.st=st++loc)
  (hx1:qj fn.ntmps s (.tmp t) = .bx (st.length+k1) v1 f1) (ho1:loc[k1]? = some (.cells v1 T1 cs1)) (ht1:tyOf E.P Ta=some (sz1,agg1)) (hl1:jq sz1 agg1 f1 cs1=some r1):ARes E fn s r1:=by
 refine⟨fun B0 w0 G a w _ hI=>?_⟩
 obtain⟨b1,y1,e1,e2,e3⟩:=qga hI hx1 (by rw [hs];exact zl ho1) ht1 hl1
 simp only [Act.eval,Array.getD_eq_getD_getElem?] at e1
 refine⟨y1,?_,e3⟩
 simp [results,hr,e1,asAddr,e2]
def qsf (P:Program) (t:TypeId):Option Nat:=
 match P.underlying t with
 |some (.array _ e)=>match P.info? e with
  |some i=>some i.size
  |none=>none
 | _=>none
theorem qzm {P:Program} {t:TypeId} {sz:Nat} (h:qsf P t=some sz):∃ len e i,P.underlying t=some (.array len e)∧P.info? e=some i∧i.size=sz:=by
 unfold qsf at h
 split at h
 ·rename_i len e hu
  split at h
  ·rename_i i hi
   simp only [Option.some.injEq] at h
   exact⟨len,e,i,hu,hi,h⟩
  ·simp at h
 ·simp at h
theorem qtf {t:TypeId} {parts:Array (Nat×Operand)} {zs cs:List AV} {sz:Nat} (hz:qfo E.P t=some zs) (hp:qsf E.P t=some sz) (hf:qbr (fun i=>some (i * sz,sz)) zs (vb N s parts)=some cs)
  (h:AQ E N ops rest K (s.put d (.ag cs))):AQ E N ops (⟨d,.build t parts,T,p,af,none⟩::rest) K s:=by
 refine qca rfl nofun fun B0 w0 G a w _ hI=>?_
 obtain⟨len,e,i,hu,hi,rfl⟩:=qzm hp
 obtain⟨z,hrun,hr⟩:=qng hz w
 obtain⟨c',h1,h2⟩:=qfw (fun k=>some (k * i.size,i.size)) (vb N s parts) (parts.toList.map fun x=>(x.1,a.eval x.2)) zs z.cells cs (by simp [vb]) (qgp hI parts) (hr G) hf
 have hz':∃ ti,E.P.info? t=some ti∧ti.zero=some z:=by
  unfold zeroValue at hrun
  simp [typeInfo] at hrun
  cases hti:E.P.info? t with
  |none=>simp [hti] at hrun
  |some ti=>
   simp [hti] at hrun
   cases htz:ti.zero with
   |none=>simp [htz] at hrun
   |some y=>simp [htz] at hrun;exact⟨ti,rfl,by rw [htz,hrun]⟩
 obtain⟨ti,g1,g2⟩:=hz'
 refine⟨.agg c',.ag cs,fun w' _=>?_,.ag _ _ h2.1 h2.2,h⟩
 generalize a.eval = ρ at h1
 simp [execOp,Instr.build,run_underlying hu,zeroValue,typeInfo,g1,g2,sizeOf,hi,h1]
theorem q4o {x y:Operand} {t:TypeId} {m:List UInt8} {k:IntKind} {n:Nat} (hx:qj N s x=Sv m) (hy:qj N s y = .v (.int k (n:Int))) (hu:E.P.underlying t=some .string) (h1:n<m.length)
  (h:AQ E N ops rest K (s.put d (Uv (m.getD n 0)))):AQ E N ops (⟨d,.index t x y,T,p,af,none⟩::rest) K s:=
 yu _ rfl nofun (fun a w he=>by
  have hg:(⟨m.toArray⟩:ByteArray)[n]? = some (m.getD n 0):=by
   simp only [getElem?_def,qar,h1,dite_true,List.getD,Option.getD_some]
   rfl
  simp [execOp,Instr.index,he _ _ hx,he _ _ hy,asIntOf,run_underlying hu,hg]) h
theorem qwg {x:Operand} {t t':TypeId} {k:IntKind} {n:Nat} {e:TypeDesc} (hx:qj N s x = .v (.int k (n:Int))) (hs:E.P.underlying t=some e) (hd:E.P.underlying t'=some (.int .u32)) (hn:n<4294967296)
  (h:AQ E N ops rest K (s.put d (Wv (BitVec.ofNat 32 n)))):AQ E N ops (⟨d,.convert t t' x,T,p,af,none⟩::rest) K s:=by
 have hr:IntKind.u32.wrap (n:Int)=(((BitVec.ofNat 32 n).toNat:Nat):Int):=by rw [qf3,Nat.mod_eq_of_lt hn,BitVec.toNat_ofNat,Nat.mod_eq_of_lt hn]
 exact yu _ rfl nofun (fun a w he=>by rw [← hr];simp [execOp,he _ _ hx,convert,run_underlying hs,run_underlying hd,Conv.intToInt]) h
theorem q0w {x y:Operand} {t t':TypeId} {yk:IntKind} {c:UInt8} (hx:qj N s x=Uv c) (hy:qj N s y = .v (.int yk 4)) (h:AQ E N ops rest K (s.put d (.v (.int .u8 ((c.toNat / 16:Nat):Int))))):AQ E N ops (⟨d,.binOp .shr t x y t',T,p,af,none⟩::rest) K s:=
 yu _ rfl nofun (fun a w he=>by
  have:(c.toNat:Int).fdiv (2 ^ (min (4:Int).toNat IntKind.u8.bits))=((c.toNat / 16:Nat):Int):=by
   rw [Int.fdiv_eq_ediv_of_nonneg _ (by decide)]
   simp [IntKind.bits]
  rw [← this]
  simp [execOp,he _ _ hx,he _ _ hy,eqGuard_at_int,binOp_shr,Op.shift]) h
theorem qwf {x y:Operand} {t t':TypeId} {c:UInt8} (hx:qj N s x=Uv c) (hy:qj N s y = .v (.int .u8 15)) (h:AQ E N ops rest K (s.put d (.v (.int .u8 ((c.toNat % 16:Nat):Int))))):AQ E N ops (⟨d,.binOp .and t x y t',T,p,af,none⟩::rest) K s:=
 zcn hx hy (by
  simp only [qcb,IntKind.bits]
  have h1:BitVec.ofInt 8 (c.toNat:Int)=c.toBitVec:=by rw [BitVec.ofInt_natCast];simp
  have h2:(BitVec.ofInt 8 (c.toNat:Int) &&& BitVec.ofInt 8 15).toNat=c.toNat % 16:=by
   rw [h1,BitVec.toNat_and]
   exact Nat.and_two_pow_sub_one_eq_mod c.toNat 4
  have h3:IntKind.u8.wrap ((c.toNat % 16:Nat):Int)=((c.toNat % 16:Nat):Int):=by
   simp [IntKind.wrap,IntKind.bits,IntKind.signed]
   omega
  exact (congrArg (fun z:Nat=>IntKind.u8.wrap (z:Int)) h2).trans h3) h
theorem qzj {x y:Operand} {t t':TypeId} {yk:IntKind} {a:BitVec 32} {m:Int} {n:Nat} (hx:qj N s x=Wv a) (hy:qj N s y = .v (.int yk m)) (hm:m=(n:Int)) (hn:n≤32) (h:AOps E rd N ops rest K (s.put d (Wv (a >>> n)))):AOps E rd N ops (⟨d,.binOp .shr t x y t',T,p,af,none⟩::rest) K s:=
 qg5 hx (hm▸hy) (Nat.ble_eq_true_of_le hn) h
theorem and15_lt (x:BitVec 32):(x &&& BitVec.ofInt 32 15).toNat<16:=by
 rw [BitVec.toNat_and]
 exact Nat.lt_of_le_of_lt Nat.and_le_right (by decide)
theorem qtc {x y:Operand} {t t':TypeId} {k:IntKind} {m n:Nat} (hx:qj N s x = .v (.int k (m:Int))) (hy:qj N s y = .v (.int k (n:Int))) (hf:k.wrap ((m+n:Nat):Int)=((m+n:Nat):Int))
  (h:AOps E rd N ops rest K (s.put d (.v (.int k ((m+n:Nat):Int))))):AOps E rd N ops (⟨d,.binOp .add t x y t',T,p,af,none⟩::rest) K s:=
 zt hx hy (by rw [← Int.natCast_add];exact hf) h
theorem ql9 {x y:Operand} {t t':TypeId} {k:IntKind} {m n:Nat} (hx:qj N s x = .v (.int k (m:Int))) (hy:qj N s y = .v (.int k (n:Int))) (hn:n≠0) (hf:k.wrap ((m / n:Nat):Int)=((m / n:Nat):Int))
  (h:AOps E rd N ops rest K (s.put d (.v (.int k ((m / n:Nat):Int))))):AOps E rd N ops (⟨d,.binOp .quo t x y t',T,p,af,none⟩::rest) K s:=
 qwb hx hy (by omega) (by rw [Int.tdiv_eq_ediv_of_nonneg (by omega),← Int.natCast_ediv];exact hf) h
theorem qtd {x y:Operand} {t t':TypeId} {k:IntKind} {m n:Nat} (hx:qj N s x = .v (.int k (m:Int))) (hy:qj N s y = .v (.int k (n:Int))) (hn:n≠0)
  (h:AOps E rd N ops rest K (s.put d (.v (.int k ((m % n:Nat):Int))))):AOps E rd N ops (⟨d,.binOp .rem t x y t',T,p,af,none⟩::rest) K s:=
 qwc hx hy (by omega) (by rw [Int.tmod_eq_emod_of_nonneg (by omega),← Int.natCast_emod];exact h)
theorem qkh {n:Nat} (h:n<18446744073709551616):IntKind.u64.wrap (n:Int)=(n:Int):=by
 simp [IntKind.wrap,IntKind.bits,IntKind.signed]
 omega
theorem qta {n:Nat} (h:n<4294967296):IntKind.u32.wrap (n:Int)=(n:Int):=by
 rw [qf3,Nat.mod_eq_of_lt h]
end
end Go.Av
namespace Go.Av
open Go Go.RowKit
section
variable {E : Env} {rd : Option Nat} {N : Nat} {ops : Array Oper} {K : AS → Prop} {s : AS} {rest : List Oper} {d : Option Tmp} {T : TypeId} {p : String} {af : Array Edge}
theorem qe6 {x lo:Operand} {t:TypeId} {m r:List UInt8} {k:IntKind} {n:Nat} (hr:m.drop n=r) (hx:qj N s x=Sv m) (hl:qj N s lo = .v (.int k (n:Int))) (hu:E.P.underlying t=some .string) (h1:n≤m.length)
  (h:AOps E rd N ops rest K (s.put d (Sv r))):AOps E rd N ops (⟨d,.slice t x (some lo) none none,T,p,af,none⟩::rest) K s:=
 qgk hx hl hu h1 (by rw [hr];exact h)
end
end Go.Av
namespace Go.Av
open Go Go.RowKit
section
variable {E : Env} {rd : Option Nat} {N : Nat} {ops : Array Oper} {K : AS → Prop} {s : AS} {rest : List Oper} {d : Option Tmp} {T : TypeId} {p : String} {af : Array Edge}
def qnq:TypeDesc→Bool
 | .interface _=>false
 | _=>true
def qvu (P:Program) (t:TypeId):Option Value:=match P.info? t with|some i=>i.zero|none=>none
theorem quy {P:Program} {t:TypeId} {z:Value} (h:qvu P t=some z) (w:World):(zeroValue t).run P w = .ok z w:=by
 unfold qvu at h
 split at h
 ·rename_i i hi
  simp [zeroValue,typeInfo,hi,h]
 ·simp at h
theorem qde {x:Operand} {xt t:TypeId} {D:TypeDesc} {y:AV} (hx:qj N s x = .ifc t y) (hu:E.P.underlying t=some D) (hn:qnq D=true)
  (h:AOps E rd N ops rest K (s.put d (.tu [y,Bv true]))):AOps E rd N ops (⟨d,.typeAssert x xt t true,T,p,af,none⟩::rest) K s:=by
 refine zf rfl (ze nofun fun B0 w0 G a w _ hI=>?_)
 have he:=hI.eval_of hx
 generalize hv:a.eval x=v at he
 cases he with
 |ifc _ _ z hz=>
  refine⟨.tuple #[z,.bool true],w,G,_,s.st,?_,.refl G,hI.agree,qey hz (.v _),h⟩
  generalize a.eval = ρ at hv
  cases D <;> first|(simp [qnq] at hn;done)|simp [execOp,Instr.typeAssert,hv,run_underlying hu]
theorem qih {x:Operand} {xt t u:TypeId} {D:TypeDesc} {y:AV} {z:Value} (hx:qj N s x = .ifc u y) (hu:E.P.underlying t=some D) (hn:qnq D=true) (hne:Nat.beq u t=false) (hz:qvu E.P t=some z)
  (h:AOps E rd N ops rest K (s.put d (.tu [.v z,Bv false]))):AOps E rd N ops (⟨d,.typeAssert x xt t true,T,p,af,none⟩::rest) K s:=by
 refine zf rfl (ze nofun fun B0 w0 G a w _ hI=>?_)
 have he:=hI.eval_of hx
 generalize hv:a.eval x=v at he
 have hne':u≠t:=fun e=>by subst e;simp at hne
 have hz':=quy hz w
 cases he with
 |ifc _ _ q hq=>
  refine⟨.tuple #[z,.bool false],w,G,_,s.st,?_,.refl G,hI.agree,qey (.v _) (.v _),h⟩
  generalize a.eval = ρ at hv
  cases D <;> first|(simp [qnq] at hn;done)|simp [execOp,Instr.typeAssert,hv,run_underlying hu,hne',hz']
theorem qr9 {x:Operand} {xt t:TypeId} {D:TypeDesc} {z:Value} (hx:qj N s x = .v .nilIface) (hu:E.P.underlying t=some D) (hn:qnq D=true) (hz:qvu E.P t=some z)
  (h:AOps E rd N ops rest K (s.put d (.tu [.v z,Bv false]))):AOps E rd N ops (⟨d,.typeAssert x xt t true,T,p,af,none⟩::rest) K s:=by
 refine zf rfl (ze nofun fun B0 w0 G a w _ hI=>?_)
 have hv:=hI.evalv hx
 have hz':=quy hz w
 refine⟨.tuple #[z,.bool false],w,G,_,s.st,?_,.refl G,hI.agree,qey (.v _) (.v _),h⟩
 generalize a.eval = ρ at hv
 cases D <;> first|(simp [qnq] at hn;done)|simp [execOp,Instr.typeAssert,hv,run_underlying hu,hz']
end
end Go.Av
namespace Go.Proofs.YtneejjefekdgjaaGreatDoor
open Go Go.Av Go.RowKit Go.Proofs
structure Laid (w:World):Prop where
 shaped:World.ShapedOpen Tryz.prog w
 pow : Lib.TabIs Tryz.prog w "internal/strconv.uint64pow10" .u64 Lib.pow10Tab
 syn : ∃ tp p, World.var? Tryz.prog w "strconv.ErrSyntax" = some #[.iface tp p]
 ran : ∃ tp p, World.var? Tryz.prog w "strconv.ErrRange" = some #[.iface tp p]
 ert:w.cell? ⟨3,0,none⟩=some (.iface 381 (.agg #[.pointer (some ⟨9,24,none⟩)]))
@[reducible] noncomputable def E : Env := ⟨Tryz.prog, fun B0 w0 => ∀ w, Below B0 w0 w → Laid w⟩
theorem qqo (l m:List UInt8) (st:List AObj) (hl:l.length<4294967281):qn E 165 [Sv l,Sv m] st fun r st'=>r=Bv (Lib.contains l m)∧st'=st:=
 yi (vals:= #[.string ⟨l.toArray⟩,.string ⟨m.toArray⟩]) rfl fun _ _ w hL hb=>(Tryz.strings_Contains_shaped ⟨l.toArray⟩ ⟨m.toArray⟩ w (hL w hb).shaped (by simpa [ByteArray.size] using hl)).mono fun _ _ ⟨h1,h2⟩=>⟨h1,qdx h2⟩
theorem qd2 (l m:List UInt8) (st:List AObj):qn E 164 [Sv l,Sv m] st fun r st'=>r=Bv (Lib.hasPrefix l m)∧st'=st:=
 yi (vals:= #[.string ⟨l.toArray⟩,.string ⟨m.toArray⟩]) rfl fun _ _ w _ _=>(Tryz.strings_HasPrefix ⟨l.toArray⟩ ⟨m.toArray⟩ w).mono fun _ _ ⟨h1,h2⟩=>⟨h1,qdx h2⟩
theorem qom (l m:List UInt8) (st:List AObj) (hl:l.length≤9223372036854775807):qn E 240 [Sv l,Sv m] st fun r st'=>r=Bv (Lib.hasSuffix l m)∧st'=st:=
 yi (vals:= #[.string ⟨l.toArray⟩,.string ⟨m.toArray⟩]) rfl fun _ _ w _ _=>(Tryz.strings_HasSuffix ⟨l.toArray⟩ ⟨m.toArray⟩ w (by simpa [ByteArray.size] using hl)).mono fun _ _ ⟨h1,h2⟩=>⟨h1,qdx h2⟩
theorem qqp (l m:List UInt8) (st:List AObj) (hl:l.length<4294967281):qn E 72 [Sv l,Sv m] st fun r st'=>r = .tu [Sv (Lib.cut l m).1,Sv (Lib.cut l m).2.1,Bv (Lib.cut l m).2.2]∧st'=st:=
 qg2 (vals:= #[.string ⟨l.toArray⟩,.string ⟨m.toArray⟩]) (rs:= #[.string ⟨(Lib.cut l m).1.toArray⟩,.string ⟨(Lib.cut l m).2.1.toArray⟩,.bool (Lib.cut l m).2.2]) rfl fun _ _ w hL hb=>(Tryz.strings_Cut_shaped ⟨l.toArray⟩ ⟨m.toArray⟩ w (hL w hb).shaped (by simpa [ByteArray.size] using hl)).mono fun _ _ ⟨h1,n,h2⟩=>⟨h1,h2▸qzr w n⟩
theorem qdz (l m:List UInt8) (st:List AObj):qn E 260 [Sv l,Sv m] st fun r st'=>r = .tu [Sv (Lib.trimPrefix l m),Bv (Lib.hasPrefix l m)]∧st'=st:=
 qg2 (vals:= #[.string ⟨l.toArray⟩,.string ⟨m.toArray⟩]) (rs:= #[.string ⟨(Lib.trimPrefix l m).toArray⟩,.bool (Lib.hasPrefix l m)]) rfl fun _ _ w _ _=>(Tryz.strings_CutPrefix ⟨l.toArray⟩ ⟨m.toArray⟩ w).mono fun _ _ ⟨h1,h2⟩=>⟨h1,qdx h2⟩
theorem qmr (n:Int) (st:List AObj) (h0 : -9223372036854775808≤n) (h1:n≤9223372036854775807):qn E 133 [Iv n] st fun r st'=>r=Sv (Lib.itoa n)∧st'=st:=
 yi (vals:= #[.int .i64 n]) rfl fun _ _ w hL hb=>(Tryz.strconv_Itoa n h0 h1 w (hL w hb).pow).mono fun _ _ ⟨h1,k,os,h2⟩=>⟨h1,h2▸q2o w k os⟩
theorem q9t (l:List UInt8) (c:Nat) (st:List AObj) (h0:c≤9223372036854775807) (h1:l.length * c≤140737488355328):qn E 263 [Sv l,Iv c] st fun r st'=>r=Sv (Lib.repeatL l c)∧st'=st:=
 yi (vals:= #[.string ⟨l.toArray⟩,.int .i64 c]) rfl fun _ _ w _ _=>(Tryz.strings_Repeat ⟨l.toArray⟩ c w h0 (by simpa [ByteArray.size] using h1)).mono fun _ _ ⟨h1,h2⟩=>⟨h1,h2⟩
theorem q7h (l m:List UInt8) (st:List AObj) (hl:l.length≤9223372036854775807) (hm:m.length<4294967281) (ha:∀ (j:Nat) (b:UInt8),m[j]? = some b→b.toNat<128):qn E 209 [Sv l,Sv m] st fun r st'=>r=Sv (Lib.trimS l m)∧st'=st:=
 yi (vals:= #[.string ⟨l.toArray⟩,.string ⟨m.toArray⟩]) rfl fun _ _ w _ _=>(Any.strings_Trim_laid Tryz.lays160t (by kernel_rfl) ⟨l.toArray⟩ ⟨m.toArray⟩ w (by simpa [ByteArray.size] using hl) (by simpa [ByteArray.size] using hm) (by simpa using ha)).mono fun _ _ ⟨h1,h2⟩=>⟨h1,h2⟩
theorem qzq {w w':World} {T:TypeId} {s:ByteArray} (h:w'=w∨∃ t,w'=Lib.bytesWorld w T t):Below w.heap.size w w':=by
 rcases h with rfl | ⟨t,rfl⟩
 ·exact Below.refl _ _
 ·unfold Lib.bytesWorld
  exact Lib.below_freeze ((Below.drew (Below.refl w.heap.size w)).alloc (Nat.le_refl _) _) (p:=⟨w.heap.size,_,none⟩) (Nat.le_refl _) _
theorem qp3 {f:FuncId} {st:List AObj} {args:List AV} {vals:Array Value} {R:Int→Option (TypeId×Value)→Prop} (ha:args=vals.toList.map .v)
  (h:∀ B0 w0 w,E.L B0 w0→Below B0 w0 w→Calls E.P f vals w fun e w'=>∃ n x,e = .returned (.tuple #[.int .i64 n,match x with|none=>.nilIface|some (t,y)=>.iface t y])∧R n x∧Below w.heap.size w w') :
  qn E f args st fun r st'=>st'=st∧∃ n x,r = .tu [Iv n,match x with|none=>.v .nilIface|some (t,y)=>.ifc t (.v y)]∧R n x:=by
 subst ha
 refine⟨fun B0 w0 G vs w hL hA hR=>?_⟩
 have hv:vs=vals:=by
  have hs:vs.size=vals.size:=by have:=hR.1;simpa using this.symm
  apply Array.ext hs
  intro i h1 h2
  have:=hR.2 i (.v vals[i]) vs[i] (by simp [h2]) (by simp [h1])
  generalize vs[i]=y at this
  cases this
  rfl
 subst hv
 refine (h B0 w0 w hL hA.below).mono ?_
 rintro e w' ⟨n,x,rfl,hRR,hb⟩
 refine⟨_,G,_,st,rfl,.refl G,hA.fresh hb,qey (.v _) ?_,rfl,n,x,rfl,hRR⟩
 cases x with
 |none=>exact .v _
 |some p=>exact .ifc _ _ _ (.v _)
theorem qmc (l:List UInt8) (st:List AObj) (hl:l.length≤281474976710656):qn E 73 [Sv l] st fun r st'=>st'=st∧∃ n x,r = .tu [Iv n,match x with|none=>.v .nilIface|some (t,y)=>.ifc t (.v y)]∧match x with|none=>Lib.atoiAll l = .ok n|some _=>∀ v,Lib.atoiAll l≠.ok v:=by
 refine qp3 (vals:= #[.string ⟨l.toArray⟩]) (R:=fun n x=>match x with|none=>Lib.atoiAll l = .ok n|some _=>∀ v,Lib.atoiAll l≠.ok v) rfl fun B0 w0 w hL hb=>?_
 have hls:(⟨l.toArray⟩:ByteArray).data.toList=l:=rfl
 rcases ho:Lib.atoiAll l with v | _ | _
 ·
  refine (Tryz.strconv_Atoi_ok ⟨l.toArray⟩ (by simp [ByteArray.size];omega) v (by rw [hls];exact ho) w).mono ?_
  rintro e w' ⟨rfl,hw⟩
  exact⟨v,none,rfl,rfl,qzq (s:=⟨l.toArray⟩) hw⟩
 ·
  obtain⟨tp,p,hv⟩:=(hL w hb).syn
  refine (Any.strconv_Atoi_syntax_var Tryz.laysC172 ⟨l.toArray⟩ (by simpa [ByteArray.size] using hl) (by rw [hls];exact ho) tp p w hv).mono ?_
  rintro e w' ⟨N,rfl,_,_,hw⟩
  exact⟨_,some (_,_),rfl,by simp,hw⟩
 ·
  obtain⟨tp,p,hv⟩:=(hL w hb).ran
  refine (Tryz.strconv_Atoi_range_var ⟨l.toArray⟩ (by simpa [ByteArray.size] using hl) (by rw [hls];exact ho) tp p w hv).mono ?_
  rintro e w' ⟨N,rfl,_,_,hw⟩
  exact⟨_,some (_,_),rfl,by simp,hw⟩
theorem qs6 (l m:List UInt8) (st:List AObj) (hl:l.length≤9223372036854775807) (hm:Nat.blt m.length 4294967281=true) (ha:m.all (fun b=>Nat.blt b.toNat 128)=true):qn E 209 [Sv l,Sv m] st fun r st'=>r=Sv (Lib.trimS l m)∧st'=st:=
 q7h l m st hl (by simpa [Nat.blt_eq] using hm) fun j b h=>by
  have:=List.all_eq_true.1 ha b (List.mem_of_getElem? h)
  simpa [Nat.blt_eq] using this
end Go.Proofs.YtneejjefekdgjaaGreatDoor
namespace Go.Av
open Go Go.RowKit Go.WideShapes Go.ChangeShapes
theorem qs1 {P:Program} {W:World} {name:String} {k:IntKind} {zs:List Int} {g:Nat} {t e:TypeId} {n:Nat}
  (hg:P.globalNamed name=some g) (hty:(P.globals[g]?).map (·.type)=some t) (ht:P.underlying t=some (.array n e)) (he:P.underlying e=some (.int k)) (hce:P.cellsOf e=1) (hct:P.cellsOf t=n)
  (h:Lib.VarReads P W name (Lib.tabData k zs)):Lib.TabIs P W name k zs:=by
 obtain⟨g',t',cs,fuel,p,hg',ht',hvar,hd⟩:=h
 obtain rfl:=Option.some.inj (hg.symm.trans hg')
 obtain rfl:=Option.some.inj (hty.symm.trans ht')
 unfold Lib.TabIs
 rw [hvar,← Lib.cells_of_tab ht he hce hct hd]
theorem ql3 {P:Program} {W:World} {name s:String} {d:DataW Unit} {g:Nat} {t:TypeId} {ms:Array (String×TypeId)}
  (hg:P.globalNamed name=some g) (hty:(P.globals[g]?).map (·.type)=some t) (ht:P.underlying t=some (.interface ms))
  (h:Lib.VarReads P W name (.iface s d)):∃ tp p,W.var? P name=some #[.iface tp p]:=by
 obtain⟨g',t',cs,fuel,p,hg',ht',hvar,hd⟩:=h
 obtain rfl:=Option.some.inj (hg.symm.trans hg')
 obtain rfl:=Option.some.inj (hty.symm.trans ht')
 cases fuel with
 |zero=>simp [DataW.trod] at hd
 |succ fuel=>
  obtain⟨l⟩:=cs
  simp only [DataW.trod,ht] at hd
  split at hd
  all_goals simp_all
section
variable {H : Type} {enc : TypeId × Value → H} {P : Program}
theorem qvc {f:Func} {s:ChangeSpec} {qcv fresh handsOn again:Bool} {W W':World} {args:Array Value} {v:Value} {ds gs:List (DataW H)} {before pa pv:List MemPlace}
  (hW:DataW.Whole enc P f.params.toList s.vars qcv W args.toList ds gs before)
  (hres:∀ (b:Nat) (sp:Nat→Bool) (hd:Bool),DataW.TrodAll enc P W' b sp hd f.resultTypes.toList (v.resultList f.resultTypes.size) (s.fn H (ds++gs)).results [])
  (hargs:∀ sp:Nat→Bool,(∀ p∈before,sp p.block=true)→DataW.TrodAll enc P W' 0 sp true f.params.toList args.toList (s.fn H (ds++gs)).args pa)
  (hvars:∀ sp:Nat→Bool,(∀ p∈before,sp p.block=true)→DataW.TrodVars enc P W' sp s.vars (s.fn H (ds++gs)).vars pv)
  (hps:before=pa++pv) (hb:Below W.heap.size W W')
  (hok:∀ (j:Nat) (t:TypeId) (r:Value),f.resultTypes[j]? = some t→(v.resultList f.resultTypes.size)[j]? = some r→Value.okWide P W' .any 0 t r) :
  s.post enc P f qcv fresh handsOn again W args v W':=by
 have hlt:∀ p∈before,p.block<W.heap.size:=fun p hp=>hW.lt p hp
 have hold:∀ p∈before,(fun b=>decide (b<W.heap.size)) p.block=true:=fun p hp=>by simpa using hlt p hp
 refine⟨ds,gs,before,[],pa,pv,hW,hres _ _ _,hargs _ hold,hvars _ hold,World.keptBut_mono (fun p hp=>⟨hp,?_⟩) (hb.frame (·∈before)),fun _=>?_⟩
 ·rw [hps,List.mem_append] at hp
  exact Or.inr hp
 ·obtain⟨_,_,_,_,_,hz,hn⟩:=hW
  refine⟨hok,_,_,([]++pa)++pv,⟨[]++pa,pv,trodAll_append (hargs _ (fun _ _=>rfl)) (hres _ _ _),hvars _ (fun _ _=>rfl),rfl,?_,?_⟩,?_⟩
  ·intro b off hp
   have hin:MemPlace.cell b off∈before:=by rw [hps];simpa using hp
   rw [hb.frozen (hlt _ hin)]
   exact hz b off hin
  ·intro ha
   have:=hn ha
   rw [hps] at this
   simpa using this
  ·intro p hp _
   rw [hps]
   simpa using hp
end
end Go.Av
open Go in
theorem Go.Av.lit_i64 {n:Int} (h:(Lit.int .i64 n).wf=true) : -9223372036854775808≤n∧n≤9223372036854775807:=by
 simpa [Lit.wf,IntKind.min,IntKind.max,IntKind.signed,IntKind.bits] using h
namespace Go.Proofs.YtneejjefekdgjaaGreatDoor
open Go Go.Av Go.RowKit
theorem zdd:((List.range 436).filter fun t=>Tryz.prog.rowNamed t [101,114,114,111,114])=[24]:=by kernel_rfl
theorem zd7 : (Tryz.prog.cutTypes.find? (·.1 == "internal/reflectlite.rtype")).map (·.2) = some 381 := by kernel_rfl
theorem zd9:Tryz.prog.types.size=436:=by kernel_rfl
theorem zdy:typeHandle Tryz.prog 24 = .pointer (some ⟨9,24,none⟩):=by kernel_rfl
theorem zaa : Tryz.prog.globalNamed "errors.errorType" = some 3 := by kernel_rfl
theorem qx3 {l : List (String × DataW Unit)} (h : (l.all fun x => x.1 == "errors.errorType" || x.2.handleName?.isNone) = true) {x : String × DataW Unit} (hx : x ∈ l) (hn : (x.1 == "errors.errorType") = false) : x.2.handleName?.isNone = true := by
 have:=List.all_eq_true.1 h x hx
 rw [hn] at this
 simpa using this
theorem qxs {P:Program} {w0:World} {laid:List (String×DataW Unit)} (args:Array Value) (hf:w0.layFits P laid []=true) (hi:w0.layIfaces P laid (w0.layVars P laid)=true) :
  laidMet P laid ((w0.layVars P laid).forCall (fun _ _=>0) ⟨#[],args,[]⟩).memory:=by
 have e1:(laid.filter fun x=>(laid.map Prod.fst).contains x.1)=laid:=List.filter_eq_self.2 fun x hx=>List.contains_iff_mem.2 (List.mem_map_of_mem hx)
 have e2:(laid.filter fun x=> !(laid.map Prod.fst).contains x.1)=[]:=List.filter_eq_nil_iff.2 fun x hx=>by
  rw [List.contains_iff_mem.2 (List.mem_map_of_mem (f:=Prod.fst) hx)]
  simp
 have h:laidMet P laid (w0.layVars P laid):=laidMet_layVars (w0:=w0) (laid.map Prod.fst) [] (by rw [e1]) (by rw [e1];exact hf) (by rw [e1];exact hi) (by rw [e2];exact LaidIn.none)
 exact h.of_heap (by simp [World.memory,World.forCall,Input.heap])
noncomputable def zdx (os:Os):World:={ World.holding Tryz.prog os ⟨#[],#[],[]⟩ with heap:=(World.holding Tryz.prog os ⟨#[],#[],[]⟩).heap.modify 3 fun
 | .cells _ t fz=>.cells #[.iface 381 (.agg #[.pointer (some ⟨9,24,none⟩)])] t fz
 |o=>o }
theorem zbo {l:List (String×DataW Unit)} {W:World}
  (hp : (l.filter fun x => x.2.handleName?.isSome) = [("errors.errorType", Rows.laid_errors_errorType)] ∧ (l.all fun x => x.1 == "errors.errorType" || x.2.handleName?.isNone) = true)
  (hL:laidMetH Tryz.prog l W) (hs:W.ShapedOpen Tryz.prog)
  (h1 : ("internal/strconv.uint64pow10", Rows.laid_internal_strconv_uint64pow10) ∈ l) (h2 : ("strconv.ErrSyntax", Rows.laid_strconv_ErrSyntax) ∈ l) (h3 : ("strconv.ErrRange", Rows.laid_strconv_ErrRange) ∈ l) : E.L W.heap.size W := by
 unfold laidMetH at hL
 rw [hp.1] at hL
 simp only at hL
 intro w hb
 obtain⟨hL,hH⟩:=hL
 have h1:=(List.mem_filter (p:=fun x=>x.2.handleName?.isNone)).2 ⟨h1,qx3 hp.2 h1 (by decide)⟩
 have h2:=(List.mem_filter (p:=fun x=>x.2.handleName?.isNone)).2 ⟨h2,qx3 hp.2 h2 (by decide)⟩
 have h3:=(List.mem_filter (p:=fun x=>x.2.handleName?.isNone)).2 ⟨h3,qx3 hp.2 h3 (by decide)⟩
 obtain⟨name,u,ty,e1,e2,e3,e4,e5⟩:=hH _ (List.mem_singleton.2 rfl)
 have en:name=[101,114,114,111,114]:=(Option.some.inj e1).symm
 subst en
 obtain rfl:=Option.some.inj (zd7.symm.trans e2)
 have hm:ty∈(List.range 436).filter fun t=>Tryz.prog.rowNamed t [101,114,114,111,114]:=List.mem_filter.2 ⟨List.mem_range.2 (by rw [← zd9];exact e3),e4⟩
 rw [zdd] at hm
 obtain rfl:=List.mem_singleton.1 hm
 rw [zdy] at e5
 have hv:=World.var?_cell zaa (Go.Joins.var_stays zaa e5 hb (Nat.le_refl _)) 0
 have g1 : Tryz.prog.globalNamed "internal/strconv.uint64pow10" = some 4 := by kernel_rfl
 have g2 : Tryz.prog.globalNamed "strconv.ErrSyntax" = some 1 := by kernel_rfl
 have g3 : Tryz.prog.globalNamed "strconv.ErrRange" = some 2 := by kernel_rfl
 have t1:=qs1 (k:=.u64) (zs:=Lib.pow10Tab) (t:=399) (e:=262) (n:=20) g1 (by kernel_rfl) (by kernel_rfl) (by kernel_rfl) (by kernel_rfl) (by kernel_rfl) (Lib.laidMet.reads hL h1)
 obtain⟨tp2,p2,v2⟩:=ql3 (t:=24) g2 (by kernel_rfl) rfl (Lib.laidMet.reads hL h2)
 obtain⟨tp3,p3,v3⟩:=ql3 (t:=24) g3 (by kernel_rfl) rfl (Lib.laidMet.reads hL h3)
 exact⟨hs.keptBut (hb.frame (fun _=>False)) (fun _ h=>h.elim),Go.Joins.var_stays g1 t1 hb (Nat.le_refl _),⟨tp2,p2,Go.Joins.var_stays g2 v2 hb (Nat.le_refl _)⟩,⟨tp3,p3,Go.Joins.var_stays g3 v3 hb (Nat.le_refl _)⟩,by simpa using hv⟩
end Go.Proofs.YtneejjefekdgjaaGreatDoor
namespace Go.Pl
open Go
abbrev qa:=List UInt8
theorem qc5 (l:qa) (c:UInt8):0≤Lib.index l [c]↔c∈l:=by
 induction l with
 |nil=>simp [Lib.index]
 |cons b l ih=>
  have hge:=Lib.index_ge l [c]
  unfold Lib.index
  by_cases hb:c=b
  ·subst hb
   simp [List.isPrefixOf]
  ·have hp:([c]:qa).isPrefixOf (b::l)=false:=by simp [List.isPrefixOf,hb]
   rw [hp]
   by_cases hm:Lib.index l [c] = -1
   ·have:c∉l:=fun h=>by have:=ih.2 h;omega
    simp [hm,hb,this]
   ·have:c∈l:=ih.1 (by omega)
    simp [hm,this]
    omega
theorem qmi (l:qa) (c:UInt8):Lib.contains l [c]=decide (c∈l):=by
 unfold Lib.contains
 by_cases h:c∈l
 ·simp [h,(qc5 l c).2 h]
 ·have:¬ 0≤Lib.index l [c]:=fun h'=>h ((qc5 l c).1 h')
  simp [h,this]
theorem qlz (l:qa) (c:UInt8):Lib.hasPrefix l [c]=decide (l.head? = some c):=by
 cases l with
 |nil=>simp [Lib.hasPrefix]
 |cons b l=>
  by_cases h:c=b
  ·simp [Lib.hasPrefix,List.isPrefixOf,h]
  ·simp [Lib.hasPrefix,List.isPrefixOf,h,Ne.symm h]
def vv (c:UInt8):Prop:=c=32∨c=9
instance (c:UInt8):Decidable (vv c):=inferInstanceAs (Decidable (c=32∨c=9))
def qdy (l:qa):Prop:=∃ c,l.head? = some c∧vv c
instance (l:qa):Decidable (qdy l):=
 match l with
 | []=>.isFalse (by rintro⟨c,h,_⟩;simp at h)
 |c::r=>decidable_of_iff (vv c) ⟨fun h=>⟨c,rfl,h⟩,fun ⟨d,h,hd⟩=>by simp at h;subst h;exact hd⟩
def yq (l:qa):Prop:=l≠[]∧l.length≤32∧¬ qdy l∧¬ l.head? = some 35∧58∉l∧10∉l
instance (l:qa):Decidable (yq l):=inferInstanceAs (Decidable (_∧_∧_∧_∧_∧_))
theorem qi2 (l:qa):yq l↔1≤l.length∧l.length≤32∧¬ vv (l.getD 0 0)∧l.getD 0 0≠35∧58∉l∧10∉l:=by
 cases l with
 |nil=>simp [yq]
 |cons c l=>simp [yq,qdy]
theorem qsi (c:UInt8) (l:qa):Lib.contains [32,9] [c]=decide (qdy (c::l)):=by
 rw [qmi]
 have:qdy (c::l)↔vv c:=⟨fun ⟨d,h,hd⟩=>by simp at h;subst h;exact hd,fun h=>⟨c,rfl,h⟩⟩
 simp [this,vv]
def upto (c:UInt8) (l:qa):qa:=l.takeWhile (·≠c)
def past (c:UInt8) (l:qa):qa:=l.drop ((upto c l).length+1)
theorem qq6 (c:UInt8) (l:qa) (h:c∈l):Lib.index l [c]=((upto c l).length:Int):=by
 induction l with
 |nil=>simp at h
 |cons b l ih=>
  unfold Lib.index upto
  by_cases hb:b=c
  ·subst hb;simp [List.isPrefixOf]
  ·have hp:([c]:qa).isPrefixOf (b::l)=false:=by simp [List.isPrefixOf,Ne.symm hb]
   have hl:c∈l:=by simpa [Ne.symm hb] using h
   have e:=ih hl
   rw [hp]
   have:(Lib.index l [c] == -1)=false:=by rw [e];simp
   simp only [this]
   rw [e]
   simp [hb,upto]
theorem qe3 (c:UInt8) (l:qa):l.take (upto c l).length=upto c l:=by
 induction l with
 |nil=>simp [upto]
 |cons b l ih=>
  by_cases hb:b=c
  ·simp [upto,hb]
  ·have:upto c (b::l)=b::upto c l:=by simp [upto,hb]
   rw [this]
   simp [ih]
theorem wm {c:UInt8} {l:qa} (h:c∉l):upto c l=l:=by
 induction l with
 |nil=>rfl
 |cons b l ih=>
  have hb:b≠c:=fun e=>h (by simp [e])
  have:upto c (b::l)=b::upto c l:=by simp [upto,hb]
  rw [this,ih (fun h'=>h (by simp [h']))]
theorem kv (c:UInt8) (l:qa):(upto c l).length≤l.length:=by
 have:=congrArg List.length (qe3 c l)
 simp at this
 omega
theorem qdv {c:UInt8} {l:qa} (h:c∈l):(upto c l).length<l.length:=by
 induction l with
 |nil=>simp at h
 |cons b l ih=>
  by_cases hb:b=c
  ·simp [upto,hb]
  ·have:upto c (b::l)=b::upto c l:=by simp [upto,hb]
   rw [this]
   have:=ih (by simpa [Ne.symm hb] using h)
   simp
   omega
theorem kq (c:UInt8) (l:qa):(past c l).length=l.length - ((upto c l).length+1):=by simp [past]
theorem zbb (c:UInt8) (l:qa):Lib.cut l [c]=(upto c l,past c l,decide (c∈l)):=by
 unfold Lib.cut
 by_cases h:c∈l
 ·rw [if_pos ((qc5 l c).2 h),qq6 c l h]
  simp [qe3,past,h]
 ·rw [if_neg (fun h'=>h ((qc5 l c).1 h'))]
  simp [wm h,past,h]
theorem wi {c:UInt8} {l:qa} (h:l≠[]):(past c l).length<l.length:=by
 rw [kq]
 have:=List.length_pos_iff.2 h
 omega
def zr (l:qa):List (qa×Bool):=
 if h:l=[] then [] else (upto 10 l,decide (10∈l))::zr (past 10 l)
 termination_by l.length
 decreasing_by exact wi h
theorem wh:zr []=[]:=by rw [zr];simp
theorem wc {l:qa} (h:l≠[]):zr l=(upto 10 l,decide (10∈l))::zr (past 10 l):=by rw [zr];simp [h]
def wu (b:Bool):qa:=if b then [10] else []
def va (by' l:qa):qa×Bool:=
 if ∀ x∈zr l,by' <+: x.1 then ((zr l).flatMap fun x=>x.1.drop by'.length++wu x.2,true) else ([],false)
theorem qee (l m:qa):(Lib.trimPrefix l m).length≤l.length:=by
 unfold Lib.trimPrefix
 split
 ·simp
 ·exact Nat.le_refl _
theorem xo (l m:qa):Lib.hasPrefix l m=true↔m <+: l:=by
 unfold Lib.hasPrefix
 exact List.isPrefixOf_iff_prefix
theorem qcl {l m:qa} (h:m <+: l):Lib.trimPrefix l m=l.drop m.length:=by
 unfold Lib.trimPrefix
 rw [if_pos ((xo l m).2 h)]
theorem ve {c:UInt8} {a:qa} (r:qa) (h:c∉a):upto c (a++c::r)=a:=by
 induction a with
 |nil=>simp [upto]
 |cons b a ih=>
  have hb:b≠c:=fun e=>h (by simp [e])
  have h2:c∉a:=fun e=>h (by simp [e])
  have e:upto c (b::(a++c::r))=b::upto c (a++c::r):=by simp [upto,hb]
  rw [List.cons_append,e,ih h2]
theorem wx {c:UInt8} {a:qa} (r:qa) (h:c∉a):past c (a++c::r)=r:=by
 unfold past
 rw [ve r h,show a++c::r=(a++[c])++r by simp,show a.length+1=(a++[c]).length by simp,List.drop_left]
theorem vk {c:UInt8} {l:qa} (h:c∈l):l=upto c l++c::past c l:=by
 induction l with
 |nil=>simp at h
 |cons b l ih=>
  by_cases hb:b=c
  ·subst hb;simp [upto,past]
  ·have h2:c∈l:=by simpa [Ne.symm hb] using h
   have e1:upto c (b::l)=b::upto c l:=by simp [upto,hb]
   have e2:past c (b::l)=past c l:=by simp [past,e1]
   rw [e1,e2,List.cons_append,← ih h2]
theorem xp (c:UInt8) (l:qa):c∉upto c l:=by
 induction l with
 |nil=>simp [upto]
 |cons b l ih=>
  by_cases hb:b=c
  ·simp [upto,hb]
  ·have e1:upto c (b::l)=b::upto c l:=by simp [upto,hb]
   rw [e1]
   simp [Ne.symm hb,ih]
def z2 (l:qa):qa:=l.takeWhile (·≠58)
theorem qz0 (l:qa) (h:58∈l):Lib.index l [58]=((z2 l).length:Int):=by
 induction l with
 |nil=>simp at h
 |cons b l ih=>
  unfold Lib.index z2
  by_cases hb:b=58
  ·subst hb;simp [List.isPrefixOf]
  ·have hp:([58]:qa).isPrefixOf (b::l)=false:=by simp [List.isPrefixOf,Ne.symm hb]
   have hl:58∈l:=by simpa [Ne.symm hb] using h
   have e:=ih hl
   rw [hp]
   have:(Lib.index l [58] == -1)=false:=by rw [e];simp
   simp only [this]
   rw [e]
   simp [hb,z2]
theorem qzb (l:qa):l.take (z2 l).length=z2 l:=by
 induction l with
 |nil=>simp [z2]
 |cons b l ih=>
  by_cases hb:b=58
  ·simp [z2,hb]
  ·have:z2 (b::l)=b::z2 l:=by simp [z2,hb]
   rw [this]
   simp [ih]
def kf (l:qa):qa:=l.drop ((z2 l).length+1)
theorem qts (l:qa):Lib.cut l [58]=if 58∈l then (z2 l,kf l,true) else (l,[],false):=by
 unfold Lib.cut
 by_cases h:58∈l
 ·rw [if_pos ((qc5 l 58).2 h),if_pos h,qz0 l h]
  simp [qzb,kf]
 ·rw [if_neg (fun h'=>h ((qc5 l 58).1 h')),if_neg h]
theorem qq9 {l:qa} {k:Nat} (h:58∉l.take k) (hk:k<l.length) (e:l.getD k 0=58):z2 l=l.take k∧58∈l:=by
 induction l generalizing k with
 |nil=>simp at hk
 |cons b l ih=>
  cases k with
  |zero=>simp at e;subst e;simp [z2]
  |succ k=>
   simp only [List.take_succ_cons,List.mem_cons,not_or] at h
   obtain⟨h1,h2⟩:=ih h.2 (by simpa using hk) (by simpa using e)
   have:z2 (b::l)=b::z2 l:=by simp [z2,Ne.symm h.1]
   exact⟨by rw [this,h1];rfl,by simp [h2]⟩
def qd9 (l:qa):qa×qa×Bool:=if 10∉l∧58∈l∧yq (z2 l) then (z2 l,kf l,true) else ([],[],false)
def qy (l:qa):Int:=
 if 10∈l then 5 else if ∀ c∈l,vv c then 1 else if l.head? = some 35 then 2 else if qdy l then 3
 else if 58∈l∧yq (z2 l) then 4 else 5
theorem qoq {l:qa} (h:10∉l) (hb:¬ ∀ c∈l,vv c):0<l.length∧qy l=if l.getD 0 0=35 then 2 else if vv (l.getD 0 0) then 3 else if 58∈l∧yq (z2 l) then 4 else 5:=by
 cases l with
 |nil=>simp at hb
 |cons c l=>
  have e:qdy (c::l)↔vv c:=⟨fun ⟨d,h,hd⟩=>by simp at h;subst h;exact hd,fun h=>⟨c,rfl,h⟩⟩
  refine⟨by simp,?_⟩
  unfold qy
  rw [if_neg h,if_neg hb]
  simp [e]
theorem qlx {α : Type} (p : α→Bool) (l:List α):l.dropWhile p=[]↔∀ x∈l,p x=true:=by
 induction l with
 |nil=>simp
 |cons a l ih=>
  by_cases h:p a=true
  ·simp [h,ih]
  ·simp [h]
theorem q8i {α : Type} (p : α→Bool) (l:List α):(l.reverse.dropWhile p).reverse.dropWhile p=[]↔∀ x∈l,p x=true:=by
 rw [qlx]
 constructor
 ·intro h x hx
  by_cases hq:∀ y∈l,p y=true
  ·exact hq x hx
  ·have hr:¬ ∀ y∈l.reverse,p y=true:=fun h'=>hq fun y hy=>h' y (by simpa using hy)
   rw [← qlx] at hr
   obtain⟨a,r,hd⟩:=List.exists_cons_of_ne_nil hr
   have h1:=List.head?_dropWhile_not p l.reverse
   rw [hd] at h1
   have h2:=h a (by simp [hd])
   simp [h2] at h1
 ·intro h x hx
  exact h x (by
   have:=(List.dropWhile_sublist (l:=l.reverse) p).subset (by simpa using hx)
   simpa using this)
theorem qnc (l m:qa):Lib.trimS l m=[]↔∀ c∈l,c∈m:=by
 unfold Lib.trimS Lib.trimLeftS Lib.trimRightS
 rw [q8i]
 simp
theorem qqq (l m:qa):(Lib.cut l m).1.length≤l.length:=by
 unfold Lib.cut
 split
 ·simp;omega
 ·simp
def xm (l:qa):Prop:=2≤l.length∧l.length≤50000∧l.getLast? = some 10∧(va [32] l).2=true
instance (l:qa):Decidable (xm l):=inferInstanceAs (Decidable (_∧_∧_∧_))
def qhd (n:Nat) (fig:qa):qa:=[37,97,109,101,110,100,32]++Lib.itoa n++[32]++fig++[10]
def yc (n:Nat):qa:=[37,101,110,100,32]++Lib.itoa n++[10]
theorem qdm:∀ (k u:Nat),u<10 ^ (k+1)→Lib.nDigits u≤k+1
 | 0,u,h=>by rw [Lib.nDigits_small (by simpa using h)];omega
 |k+1,u,h=>by
  by_cases h':u<10
  ·rw [Lib.nDigits_small h'];omega
  ·rw [Lib.nDigits_big h']
   have:=qdm k (u / 10) (by rw [Nat.pow_succ] at h;omega)
   omega
theorem qcf (n:Nat) (h:n≤9223372036854775807):(Lib.itoa n).length≤19:=by
 unfold Lib.itoa
 rw [if_neg (by omega),Lib.decDigits_length]
 have:((n:Int)).toNat=n:=by simp
 rw [this]
 exact qdm 18 n (by omega)
theorem qgw (l:qa) (c:UInt8):Lib.hasSuffix l [c]=decide (l.getLast? = some c):=by
 have:Lib.hasSuffix l [c]=true↔l.getLast? = some c:=by
  unfold Lib.hasSuffix
  rw [List.isSuffixOf_iff_suffix,List.singleton_suffix_iff_getLast?_eq_some]
 by_cases h:l.getLast? = some c
 ·simp [this.2 h,h]
 ·have:¬ Lib.hasSuffix l [c]=true:=fun h'=>h (this.1 h')
  simp [this,h]
theorem atoiAll_bounds {l:qa} {v:Int} (h:Lib.atoiAll l = .ok v) : -9223372036854775808≤v∧v≤9223372036854775807:=by
 unfold Lib.atoiAll at h
 cases l with
 |nil=>simp at h
 |cons c r=>
  simp only at h
  split at h
  ·simp at h
  ·simp at h
  ·split at h
   ·simp at h
   ·split at h
    ·simp at h
    ·rename_i h1 h2
     simp only [Lib.NumEnd.ok.injEq] at h
     subst h
     by_cases hn:c.toNat=45
     ·simp only [hn,true_and,not_true,if_true] at *
      omega
     ·simp only [hn,not_false_iff,true_and,if_false] at *
      omega
def j6 (l:qa):Nat:=
 match Lib.atoiAll l with
 | .ok v=>if Lib.itoa v=l∧1≤v∧v≤50000 then v.toNat else 0
 | _=>0
def q6:qa:=[37,97,109,101,110,100,32]
def hexL:qa:=[48,49,50,51,52,53,54,55,56,57,97,98,99,100,101,102]
def wb (l:qa):Prop:=∀ c∈l,c∈hexL
instance (l:qa):Decidable (wb l):=inferInstanceAs (Decidable (∀ c∈l,c∈hexL))
theorem quw (l:qa):Lib.trimS l [48,49,50,51,52,53,54,55,56,57,97,98,99,100,101,102]=[]↔wb l:=qnc l hexL
def z6 (l:qa):Nat×qa×Bool:=
 (j6 (upto 32 (Lib.trimPrefix l q6)),past 32 (Lib.trimPrefix l q6),
  decide (q6 <+: l∧32∈Lib.trimPrefix l q6∧2≤j6 (upto 32 (Lib.trimPrefix l q6))∧(past 32 (Lib.trimPrefix l q6)).length=8∧wb (past 32 (Lib.trimPrefix l q6))))
def w9 (l:qa):Bool:=
 if q6 <+: l then decide (¬ (32∈l.drop 7∧j6 (upto 32 (l.drop 7))<2)∧¬ (upto 32 (l.drop 7)≠[]∧j6 (upto 32 (l.drop 7))=0)∧(past 32 (l.drop 7)).length≤8∧wb (past 32 (l.drop 7)))
 else decide (l <+: q6)
theorem qx7 {l:qa} (h:∀ v,Lib.atoiAll l≠.ok v):j6 l=0:=by
 unfold j6
 cases ho:Lib.atoiAll l with
 |ok v=>exact absurd ho (h v)
 | _=>rfl
theorem qrg {l:qa} {v:Int} (h:Lib.atoiAll l = .ok v):(j6 l:Int)=if Lib.itoa v=l∧1≤v∧v≤50000 then v else 0:=by
 unfold j6
 rw [h]
 simp only
 split
 ·omega
 ·rfl
theorem yr (l:qa):j6 l≤50000:=by
 unfold j6
 split
 ·split
  ·omega
  ·omega
 ·omega
def qcq (n:Int):Int:=if n<2∨50000<n then 0 else (qhd n.toNat [48,48,48,48,48,48,48,48]).length+n+(yc n.toNat).length
theorem qgv (l m:qa):Lib.hasPrefix l m=decide (m <+: l):=by
 by_cases h:m <+: l
 ·simp [(xo l m).2 h,h]
 ·have:¬ Lib.hasPrefix l m=true:=fun h'=>h ((xo l m).1 h')
  simp [this,h]
def xh (body:qa) (lack:Int):Int:=
 if (va [32] body).2=true∧¬ ((body=[]∨body.getLast? = some 10)∧lack<2) then 2 else 3
theorem rep8:Lib.repeatL [48] 8=[48,48,48,48,48,48,48,48]:=by decide
theorem qbx (n:Nat) (f:qa):(qhd n f).length=(Lib.itoa n).length+f.length+9:=by simp [qhd] <;> omega
theorem yy (n:Nat):(yc n).length=(Lib.itoa n).length+6:=by simp [yc] <;> omega
theorem qzx {u:Nat} (h:u<10):(([48,49,50,51,52,53,54,55,56,57]:qa).take (u+1)).drop u=Lib.decDigits u:=by
 rw [Lib.decDigits_one h]
 have:u=0∨u=1∨u=2∨u=3∨u=4∨u=5∨u=6∨u=7∨u=8∨u=9:=by omega
 rcases this with rfl|rfl|rfl|rfl|rfl|rfl|rfl|rfl|rfl|rfl <;> rfl
theorem xl {u:Nat} (h:¬ u<10):Lib.decDigits u=Lib.decDigits (u / 10)++Lib.decDigits (u % 10):=by
 rw [Lib.decDigits,dif_neg h,Lib.decDigits_one (Nat.mod_lt u (by omega))]
theorem qeg {u:Nat} (h:u<18446744073709551616):(Lib.decDigits u).length≤20:=by
 rw [Lib.decDigits_length]
 exact qdm 19 u (by omega)
end Go.Pl
namespace Go.Proofs.YtneejjefekdgjaaGreatDoor
open Go Go.Av Go.RowKit Go.Proofs Go.Pl
theorem qod (l:List UInt8) (c:UInt8) (st:List AObj) (hl:l.length<4294967281):qn E 165 [Sv l,Sv [c]] st fun r st'=>r=Bv (decide (c∈l))∧st'=st:=by
 rw [← qmi];exact qqo l [c] st hl
theorem qfd (l:List UInt8) (c:UInt8) (st:List AObj):qn E 164 [Sv l,Sv [c]] st fun r st'=>r=Bv (decide (l.head? = some c))∧st'=st:=by
 rw [← qlz];exact qd2 l [c] st
theorem q0y (l:List UInt8) (st:List AObj):qn E 163 [Sv l] st fun r st'=>r=Bv (decide (qdy l))∧st'=st:=by
 refine qu (qx _) (qo Tryz.func163 rfl (Nat.le_of_ble_eq_true rfl) ?_)
 cases l with
 |nil=>
  repeat' (first|apply qm|apply qd|apply qc|apply qi|apply qe|(apply jg;(iterate 3 exact rfl))|(apply qv;(iterate 4 exact rfl))|(apply ww;exact cRa)|(apply qh;exact rfl;apply pk_f;exact cRa)|apply qs)
  refine qk rfl (qz rfl) ⟨congrArg Bv (?_:_=_),_,rfl⟩
  simp [qdy]
 |cons c l=>
  have hne:¬ (c::l)=[]:=by simp
  repeat' (first|apply qm|apply qd|apply qc|apply qi|apply qe|(apply jg;(iterate 3 exact rfl))|(apply qv;(iterate 4 exact rfl))|(apply xq;exact cAo)|(apply qh;exact rfl;apply wp;exact cAo)|apply qs|refine qdw rfl rfl rfl ⟨_,rfl⟩ (by omega) (by omega) (by simp;omega) ?_|(apply qf;exact Tryz.call165;exact qqo _ _ _ (by simp)))
  refine qk rfl (qz rfl) ⟨congrArg Bv (?_:_=_),_,rfl⟩
  exact qsi c l
theorem zae (l:List UInt8) (st:List AObj) (hl:l.length<4294967281):qn E 99 [Sv l] st fun r st'=>r=Bv (decide (yq l))∧st'=st:=by
 refine qu (qx _) (qo Tryz.func99 rfl (Nat.le_of_ble_eq_true rfl) ?_)
 repeat' (first|apply qm|apply qd|apply qc|apply qi|apply qe|(apply qq;(iterate 3 exact rfl))|(apply jg;(iterate 3 exact rfl))|(apply jd;exact rfl)|(apply qv;(iterate 4 exact rfl))|(apply vl;exact cAo)|(apply vq;exact cAo)|(apply qt4;exact cRa)|(apply qq2;exact cRa)|(apply qhc <;> intro h)|(apply qak;exact cRa)|(apply je <;> intro h)|(apply qh;exact rfl;apply wp;exact cAo)|(apply qh;exact rfl;apply v8;exact cAo)|(apply qh;exact rfl;apply qhj;exact cRa)|(apply qh;exact rfl;apply qec;exact cRa)|(apply qh;exact rfl;apply pk_t;exact cRa)|(apply qb;exact rfl;apply cd_t;exact cRa)|(apply qb;exact rfl;apply cd_d <;> intro h)|(apply zo;(iterate 3 exact rfl))|apply qw|apply qs|(apply qf;exact Tryz.call165;exact qod _ _ _ hl)|(apply qf;exact Tryz.call164;exact qfd _ _ _)|(apply qf;exact Tryz.call163;exact q0y _ _))
 all_goals refine qk rfl (qz rfl) ⟨congrArg Bv (?_:_=_),_,rfl⟩
 all_goals simp [yq, *]
 all_goals omega
theorem qlh (c:UInt8) (st:List AObj):qn E 220 [Uv c] st fun r st'=>r=Bv (decide (vv c))∧st'=st:=by
 refine qu (qx _) (qo Tryz.func220 rfl (Nat.le_of_ble_eq_true rfl) ?_)
 repeat' (first|apply qm|apply qd|apply qc|apply qi|apply qe|(apply qq;(iterate 3 exact rfl))|(apply qv;(iterate 4 exact rfl))|(apply vl;exact cAo)|(apply vq;exact cAo)|(apply je <;> intro h)|(apply qh;exact rfl;apply wp;exact cAo)|(apply qh;exact rfl;apply v8;exact cAo)|apply qs)
 all_goals refine qk rfl (qz rfl) ⟨congrArg Bv (?_:_=_),_,rfl⟩
 all_goals simp_all [vv,qr5,u8_9]
theorem qyv (l:List UInt8) (st:List AObj) (hl:l.length<4294967281):qn E 143 [Sv l] st fun r st'=>r=Bv (decide (yq l))∧st'=st:=by
 refine qu (qx _) (qo Tryz.func143 rfl (Nat.le_of_ble_eq_true rfl) ?_)
 repeat' (first|apply qm|apply qt|apply qd|apply qc|apply qi|apply qe|(apply qq;(iterate 3 exact rfl))|(apply qv;(iterate 4 exact rfl))|(apply vl;exact cAo)|(apply vq;exact cAo)|(apply qak;exact cRa)|(apply je <;> intro h)|(apply qh;exact rfl;apply wp;exact cAo)|(apply qh;exact rfl;apply v8;exact cAo)|(apply qh;exact rfl;apply pk_t;exact cRa)|(apply qb;exact rfl;apply cd_t;exact cRa)|(apply qb;exact rfl;apply cd_d <;> intro h)|(apply zo;(iterate 3 exact rfl))|(apply vu;(iterate 3 exact rfl);exact cAs)|apply qw|apply qs|(apply qf;exact Tryz.call220;exact qlh _ _))
 rotate_left 4
 ·refine jh (fun (k:Nat) s=>k≤l.length∧58∉l.take k∧10∉l.take k∧StA [(0,Sv l),(3,Iv k)] (st++[]) [] s) (fun k=>l.length - k) 0 ⟨by omega,by simp,by simp,zw ⟨rfl,rfl,trivial⟩⟩ ?_
  rintro k _ ⟨hk,h1,h2,t,rfl⟩
  repeat' (first|apply qm|apply qt|apply qd|apply qc|apply qi|apply qe|(apply qq;(iterate 3 exact rfl))|(apply qv;(iterate 4 exact rfl))|(apply vl;exact cAo)|(apply vq;exact cAo)|(apply je <;> intro h)|(apply qh;exact rfl;apply wp;exact cAo)|(apply qh;exact rfl;apply v8;exact cAo)|(apply qb;exact rfl;apply cd_t;exact cRa)|(apply qb;exact rfl;apply cd_d <;> intro h)|(apply zo;(iterate 3 exact rfl))|(apply zt;exact rfl;exact rfl;exact zb (by omega) (by omega))|(apply vu;(iterate 3 exact rfl);exact cAs)|apply qw|apply z7|apply qs)
  rotate_left 2
  ·exact⟨k+1,⟨by omega,qcg (by omega) h1 (by simp_all [qr6]),qcg (by omega) h2 (by simp_all [qa1]),zw ⟨rfl,rfl,trivial⟩⟩,by omega⟩
  all_goals refine qk rfl (qz rfl) ⟨congrArg Bv (?_:_=_),_,rfl⟩
  ·have e:k=l.length:=by omega
   subst e
   simp_all [qi2,qnw]
   omega
  ·have:=qj3 (l:=l) (k:=k) (by omega)
   simp_all [qi2,qr6]
  ·have:=qj3 (l:=l) (k:=k) (by omega)
   simp_all [qi2,qa1]
 all_goals refine qk rfl (qz rfl) ⟨congrArg Bv (?_:_=_),_,rfl⟩
 all_goals simp_all [qi2,qnw]
 all_goals omega
theorem E_ok:qvh E:=fun _ _ _ h hb hB _ h2=>h _ (hb.trans (h2.mono hB))
theorem qyq (l:List UInt8) (st:List AObj) (hl:l.length<4294967281):qn E 221 [Sv l] st fun r st'=>r = .tu [Sv (qd9 l).1,Sv (qd9 l).2.1,Bv (qd9 l).2.2]∧st'=st:=by
 refine qu (qbg _ _ _) (qo Tryz.func221 rfl (Nat.le_of_ble_eq_true rfl) ?_)
 repeat' (first|apply qm|apply qt|apply qd|apply qc|apply qe)
 refine jh (fun (k:Nat) s=>k≤l.length∧10∉l.take k∧StA [(0,Sv l),(2,Sv []),(3,Sv []),(4,Bv false),(5,Iv k)] (st++[]) [] s) (fun k=>l.length - k) 0 ⟨by omega,by simp,zw ⟨rfl,rfl,rfl,rfl,rfl,trivial⟩⟩ ?_
 rintro k _ ⟨hk,h1,t,rfl⟩
 repeat' (first|apply qm|apply qt|apply qd|apply qc|apply qi|apply qe|(apply qq;(iterate 3 exact rfl))|(apply qb;exact rfl;apply cd_d <;> intro h)|(apply zo;(iterate 3 exact rfl))|(apply zt;exact rfl;exact rfl;exact zb (by omega) (by omega))|(apply vu;(iterate 3 exact rfl);exact cAs)|apply qw|apply z7|apply qs)
 rotate_left 1
 ·exact⟨k+1,⟨by omega,qcg (by omega) h1 (by simp_all [qa1]),zw ⟨rfl,rfl,rfl,rfl,rfl,trivial⟩⟩,by omega⟩
 ·have e:k=l.length:=by omega
  subst e
  rw [List.take_length] at h1
  refine jh (fun (k:Nat) s=>k≤l.length∧58∉l.take k∧StA [(0,Sv l),(2,Sv []),(3,Sv []),(4,Bv false),(6,Iv k)] (st++[]) [] s) (fun k=>l.length - k) 0 ⟨by omega,by simp,zw ⟨rfl,rfl,rfl,rfl,rfl,trivial⟩⟩ ?_
  rintro k _ ⟨hk,h2,t,rfl⟩
  repeat' (first|apply qm|apply qt|apply qd|apply qc|apply qi|apply qe|(apply qq;(iterate 3 exact rfl))|(apply jd;exact rfl)|(apply qb;exact rfl;apply cd_n <;> intro h)|(apply qb;exact rfl;apply cd_d <;> intro h)|(apply zo;(iterate 3 exact rfl))|(apply zt;exact rfl;exact rfl;exact zb (by omega) (by omega))|(apply vu;(iterate 3 exact rfl);exact cAs)|(apply qa5;(iterate 3 exact rfl);exact cAs)|(apply qau;exact rfl;kernel_rfl)|apply qbv|apply qao|apply qij|(apply qwe;exact rfl;exact rfl;exact zb (by omega) (by omega))|(apply qsd;(iterate 3 exact rfl);exact cAs)|(apply qsc;(iterate 3 exact rfl);exact cAs)|apply qw|apply z7|apply qs|(apply qf;exact Tryz.call143;exact qyv _ _ (by simp;omega)))
  rotate_left 2
  ·exact⟨k+1,⟨by omega,qcg (by omega) h2 (by simp_all [qr6]),zw ⟨rfl,rfl,rfl,rfl,rfl,trivial⟩⟩,by omega⟩
  all_goals refine qk rfl (xk rfl) ⟨qze (?_:_=_),_,rfl⟩
  ·have e:k=l.length:=by omega
   subst e
   rw [List.take_length] at h2
   simp [qd9,h2]
  ·obtain⟨e1,e2⟩:=qq9 h2 (by omega) (by simp_all [qr6])
   simp_all [qd9]
  ·obtain⟨e1,e2⟩:=qq9 h2 (by omega) (by simp_all [qr6])
   have hk':k<l.length:=by omega
   have hk2:(l.take k).length=k:=by simp;omega
   have hkey:yq (l.take k):=by simp_all
   simp only [qd9,kf,e1,e2,h1,hkey,hk2]
   simp
 ·refine qk rfl (xk rfl) ⟨qze (?_:_=_),_,rfl⟩
  have:=qj3 (l:=l) (k:=k) (by omega)
  simp_all [qd9,qa1]
theorem qgq (l:List UInt8) (st:List AObj) (hl:l.length<4294967281):qn E 138 [Sv l] st fun r st'=>r=Iv (qy l)∧st'=st:=by
 refine qu (qx _) (qo Tryz.func138 rfl (Nat.le_of_ble_eq_true rfl) ?_)
 repeat' (first|apply qm|apply qt|apply qd|apply qc|apply qe)
 refine jh (fun (k:Nat) s=>k≤l.length∧10∉l.take k∧∃ b,(b=true↔∀ c∈l.take k,vv c)∧StA [(0,Sv l),(3,Bv b),(4,Iv k)] (st++[]) [] s) (fun k=>l.length - k) 0 ⟨by omega,by simp,true,by simp,zw ⟨rfl,rfl,rfl,trivial⟩⟩ ?_
 rintro k _ ⟨hk,h1,b,hb,t,rfl⟩
 repeat' (first|apply qm|apply qt|apply qd|apply qc|apply qi|apply qe|(apply qq;(iterate 3 exact rfl))|(apply qv;(iterate 4 exact rfl))|(apply yj;exact cRa)|(apply ww;exact cRa)|(apply qfy <;> intro h)|(apply qh;exact rfl;apply pk_t;exact cRa)|(apply qh;exact rfl;apply pk_f;exact cRa)|(apply qb;exact rfl;apply cd_d <;> intro h)|(apply qb;exact rfl;apply cd_s <;> intro h)|(apply zo;(iterate 3 exact rfl))|(apply zt;exact rfl;exact rfl;exact zb (by omega) (by omega))|(apply vu;(iterate 3 exact rfl);exact cAs)|apply qw|apply z7|apply qs|(apply qf;exact Tryz.call220;exact qlh _ _))
 ·refine qk rfl (qz rfl) ⟨congrArg Iv (?_:_=_),_,rfl⟩
  have:=qj3 (l:=l) (k:=k) (by omega)
  simp_all [qy,qa1]
 ·exact⟨k+1,⟨by omega,qcg (by omega) h1 (by simp_all [qa1]),_,by rw [qkk (by omega),decide_eq_true_iff,← hb];simp [*],zw ⟨rfl,rfl,rfl,trivial⟩⟩,by omega⟩
 ·exact⟨k+1,⟨by omega,qcg (by omega) h1 (by simp_all [qa1]),_,by rw [qkk (by omega),← hb];simp [*],zw ⟨rfl,rfl,rfl,trivial⟩⟩,by omega⟩
 ·refine qk rfl (qz rfl) ⟨congrArg Iv (?_:_=_),_,rfl⟩
  have e:k=l.length:=by omega
  subst e
  simp_all [qy]
 ·have e:k=l.length:=by omega
  subst e
  rw [List.take_length] at h1 hb
  obtain⟨h0,hk⟩:=qoq h1 (fun h=>by simp_all)
  repeat' (first|apply qm|apply qd|apply qc|apply qi|apply qe|(apply q9;exact rfl;exact rfl)|(apply qq;(iterate 3 exact rfl))|(apply qb;exact rfl;apply cd_d <;> intro h)|(apply qb;exact rfl;apply cd_s <;> intro h)|(apply vu;(iterate 3 exact rfl);exact cAs)|apply qw|apply qs|(apply qf;exact Tryz.call220;exact qlh _ _)|(apply qf;exact Tryz.call221;exact qyq _ _ hl))
  all_goals refine qk rfl (qz rfl) ⟨congrArg Iv (?_:_=_),_,rfl⟩
  ·simp_all [qnw]
  ·simp_all [qnw]
  ·have hc:58∈l∧yq (z2 l):=by
    apply Classical.byContradiction
    intro hn
    have:qd9 l=([],[],false):=by unfold qd9;rw [if_neg (fun h=>hn h.2)]
    simp_all
   simp_all [qnw]
  ·have hc:¬ (58∈l∧yq (z2 l)):=fun hn=>by
    have:qd9 l=(z2 l,kf l,true):=by unfold qd9;rw [if_pos ⟨h1,hn⟩]
    simp_all
   simp_all [qnw]
theorem qj4 (l:List UInt8) (st:List AObj) (hl:l.length<4294967281):qn E 122 [Sv l] st fun r st'=>r=Iv (qy l)∧st'=st:=by
 refine qu (qx _) (qo Tryz.func122 rfl (Nat.le_of_ble_eq_true rfl) ?_)
 repeat' (first|apply qm|apply qt|apply qd|apply qc|apply qi|apply qe|(apply q9;exact rfl;exact rfl)|(apply jg;(iterate 3 exact rfl))|(apply qv;(iterate 4 exact rfl))|(apply yj;exact cRa)|(apply ww;exact cRa)|(apply qfy <;> intro h)|(apply qh;exact rfl;apply pk_t;exact cRa)|(apply qh;exact rfl;apply pk_f;exact cRa)|(apply qb;exact rfl;apply cd_f;exact cRa)|(apply qb;exact rfl;apply cd_d <;> intro h)|apply qw|apply qs|(apply qf;exact Tryz.call165;exact qod _ _ _ hl)|(apply qf;exact Tryz.call209;exact q7h _ _ _ (by omega) (by simp) (by intro j b h;match j with | 0=>simp at h;subst h;decide | 1=>simp at h;subst h;decide|j+2=>simp at h))|(apply qf;exact Tryz.call164;exact qfd _ _ _)|(apply qf;exact Tryz.call163;exact q0y _ _)|(apply qf;exact Tryz.call72;exact qqp _ _ _ hl)|(apply qf;exact Tryz.call99;exact zae _ _ (Nat.lt_of_le_of_lt (qqq _ _) hl)))
 all_goals refine qk rfl (qz rfl) ⟨congrArg Iv (?_:_=_),_,rfl⟩
 all_goals have hb:Lib.trimS l [32,9]=[]↔∀ c∈l,vv c:=by rw [qnc];simp [vv]
 all_goals by_cases hA:∀ c∈l,vv c <;> by_cases hC:58∈l <;> by_cases hK:yq (z2 l) <;> simp_all [qy,qts]
end Go.Proofs.YtneejjefekdgjaaGreatDoor
namespace Go.Proofs
open Go.Shelf Go.RowKit
variable {P : Program} {ρ : Ren}
set_option maxHeartbeats 4000000 in
theorem qqk (L:Lays.n169 P ρ) (X:Builder.Extra P ρ) (b n c:Nat) (ad:Option Addr) (q:Value) (str:ByteArray) (w w2:World) (c1:w.drew.cell? ⟨b,1,none⟩=some (.slice ad n c))
  (hSD:(Builtin.unsafeSliceData_ #[(ρ.t 37)] (ρ.t 127) #[.slice ad n c]).run P w.drew = .ok q w.drew)
  (hUS:(Builtin.unsafeString_ #[(ρ.t 127),(ρ.t 3)] (ρ.t 9) #[q,.int .i64 n]).run P w.drew = .ok (.string str) w2) :
  Calls P (ρ.f 169) #[.pointer (some ⟨b,0,none⟩)] w fun e w'=>e = .returned (.string str)∧w'=w2:=by
 have mixed:=L.mixed
 have t72:=L.t72;have a72:=L.a72;have z72:=L.z72;have v72:=L.v72;have u72:=run_underlying L.t72
 have t70:=L.t70;have a70:=L.a70;have z70:=L.z70;have v70:=L.v70;have u70:=run_underlying L.t70
 have t37:=L.t37;have a37:=L.a37;have z37:=L.z37;have v37:=L.v37;have u37:=run_underlying L.t37
 have t127:=L.t127;have a127:=L.a127;have z127:=L.z127;have v127:=L.v127;have u127:=run_underlying L.t127
 have t3:=L.t3;have a3:=L.a3;have z3:=L.z3;have v3:=L.v3;have u3:=run_underlying L.t3
 have t9:=L.t9;have a9:=L.a9;have z9:=L.z9;have v9:=L.v9;have u9:=run_underlying L.t9
 have t5:=X.t5;have a5:=X.a5;have z5:=X.z5;have v5:=X.v5;have u5:=run_underlying X.t5
 go_enter L.f169,Body.n169_ntmps ρ
 go_wp2
 go_region_o
 all_goals (go_wp2;go_ret;exact⟨rfl,rfl⟩)
end Go.Proofs
namespace Go.Proofs.YtneejjefekdgjaaGreatDoor
open Go Go.Av Go.RowKit Go.Proofs
@[reducible] def bldO (ver : Nat) (q : AV) (l : List UInt8) (tp : Nat) : AObj := .cells ver 246 [q, .sl 1 (l.map Uv) (some tp)]
theorem qx1 (v:Value) (w:World):(callFunc 295 #[v]).run E.P w = .ok (.value v) w:=by
 have h:=run_callFunc_extern (P:=E.P) Tryz.func295 (by kernel_rfl) (by kernel_rfl) (by kernel_rfl) (e:=Extern.AbiNoEscape.same) (by kernel_rfl) #[v] w
 rw [h,Lib.run_noEscape]
 rfl
theorem q01 (o ver:Nat) (q buf:AV) (st:List AObj) (ho:st[o]? = some (.cells ver 246 [q,buf])) (hq:q = .v (.pointer none)∨q = .bx o ver 0) :
  qn E 238 [.bx o ver 0] st fun r st'=>r = .tu []∧st'=st.set o (.cells ver 246 [.bx o ver 0,buf]):=by
 have ho':(st++[])[o]? = some (.cells ver 246 [q,buf]):=by rw [List.append_nil];exact ho
 refine qo Tryz.func238 rfl (Nat.le_of_ble_eq_true rfl) ?_
 rcases hq with rfl|rfl
 ·skip
  repeat' (first|apply qm|apply qd|apply qc|apply qi|(apply qb;exact rfl;apply cd_t;exact cRa)|(apply zm;(iterate 3 exact rfl))|(apply w6;exact rfl;exact rfl)|(apply qck;(iterate 3 exact rfl))|(apply zh;exact rfl;exact ho';exact rfl;exact rfl)|(apply xj;exact rfl;exact rfl;exact ho';(iterate 6 exact rfl))|(apply qu2;exact rfl;exact ho';(simp);exact rfl;exact rfl;kernel_rfl)|(apply qp8;exact rfl;exact ho';(iterate 3 exact rfl);kernel_rfl)|(apply qu1;exact qx1;exact rfl))
  refine qk rfl (qa6 rfl) ⟨rfl,?_⟩
  show (st++[]).set o _=_
  rw [List.append_nil]
  rfl
 ·skip
  repeat' (first|apply qm|apply qd|apply qc|apply qi|(apply qb;exact rfl;apply cd_f;exact cRa)|(apply zm;(iterate 3 exact rfl))|(apply w6;exact rfl;exact rfl)|(apply qck;(iterate 3 exact rfl))|apply qw|(apply zh;exact rfl;exact ho';exact rfl;exact rfl)|(apply qsa;exact rfl;exact rfl;exact ho';exact rfl;exact rfl))
  refine qk rfl (qa6 rfl) ⟨rfl,?_⟩
  show st++[]=_
  rw [List.append_nil,q9w ho]
theorem q05:qad E.P 5 1 1:=⟨_,_,rfl,rfl,rfl,rfl,rfl⟩
theorem qwl (o ver tp:Nat) (q:AV) (l m:List UInt8) (st:List AObj) (ho:st[o]? = some (bldO ver q l tp)) (ht:st[tp]? = some (.tip l.length 1 5)) (hq:q = .v (.pointer none)∨q = .bx o ver 0) (hlen:l.length+m.length≤140737488355328) :
  qn E 168 [.bx o ver 0,Sv m] st fun r st'=>r = .tu [Iv m.length,.v .nilIface]∧st'=(st.set o (bldO ver (.bx o ver 0) (l++m) tp)).set tp (.tip (l.length+m.length) 1 5):=by
 have hne:tp≠o:=fun e=>by rw [e,ho] at ht;simp at ht
 have ho':(st++[])[o]? = some (bldO ver q l tp):=by rw [List.append_nil];exact ho
 have ht':(st++[])[tp]? = some (.tip l.length 1 5):=by rw [List.append_nil];exact ht
 have h2:=zy (y:=.cells ver 246 [.bx o ver 0,.sl 1 (l.map Uv) (some tp)]) ho'
 have h3:=zi (y:=.cells ver 246 [.bx o ver 0,.sl 1 (l.map Uv) (some tp)]) ht' (Ne.symm hne)
 have h4:=zi (y:=.tip (l.length+m.length) 1 5) h2 hne
 have h5:maxLen=140737488351232∨True:=.inr trivial
 refine qo Tryz.func168 rfl (Nat.le_of_ble_eq_true rfl) ?_
 repeat' (first|apply qm|apply qd|apply qc|apply qi|apply qe|(apply zo;(iterate 3 exact rfl))|(apply zm;(iterate 3 exact rfl))|(apply w6;exact rfl;exact rfl)|apply qs|(apply qf;exact Tryz.call238;exact q01 o ver q _ (st++[]) ho' hq)|(apply zh;exact rfl;exact h2;exact rfl;exact rfl)|(apply qv6;exact rfl;exact rfl;exact h3;(simp);exact rfl;exact rfl;exact q05;(simp only [maxLen];omega);omega)|(apply xj;exact rfl;exact rfl;exact h4;(iterate 6 exact rfl)))
 refine qk rfl (j5 rfl) ⟨rfl,?_⟩
 show (((st++[]).set o _).set tp _).set o (.cells ver 246 [.bx o ver 0,.sl 1 (l.map Uv++m.map Uv) (some tp)])=_
 rw [List.append_nil,List.set_comm _ _ hne,List.set_set,← List.map_append]
theorem zay (o ver tp:Nat) (q:AV) (l:List UInt8) (c:UInt8) (st:List AObj) (ho:st[o]? = some (bldO ver q l tp)) (ht:st[tp]? = some (.tip l.length 1 5)) (hq:q = .v (.pointer none)∨q = .bx o ver 0) (hlen:l.length+1≤140737488355328) :
  qn E 242 [.bx o ver 0,Uv c] st fun r st'=>r = .v .nilIface∧st'=(st.set o (bldO ver (.bx o ver 0) (l++[c]) tp)).set tp (.tip (l.length+1) 1 5):=by
 have hne:tp≠o:=fun e=>by rw [e,ho] at ht;simp at ht
 have ho':(st++[])[o]? = some (bldO ver q l tp):=by rw [List.append_nil];exact ho
 have ht':(st++[])[tp]? = some (.tip l.length 1 5):=by rw [List.append_nil];exact ht
 have h2:=zy (y:=.cells ver 246 [.bx o ver 0,.sl 1 (l.map Uv) (some tp)]) ho'
 have h3:=zi (y:=.cells ver 246 [.bx o ver 0,.sl 1 (l.map Uv) (some tp)]) ht' (Ne.symm hne)
 have h4:=zi (y:=.tip (l.length+1) 1 5) h2 hne
 refine qo Tryz.func242 rfl (Nat.le_of_ble_eq_true rfl) ?_
 repeat' (first|apply qm|apply qd|apply qc|apply qi|apply qe|(apply zm;(iterate 3 exact rfl))|(apply zx;(iterate 9 exact rfl))|(apply w6;exact rfl;exact rfl)|apply qs|(apply qf;exact Tryz.call238;exact q01 o ver q _ (st++[]) ho' hq)|(apply zh;exact rfl;exact h2;exact rfl;exact rfl)|(apply qn3 (m:=1);exact rfl;exact rfl;exact h3;(simp);exact rfl;exact rfl;exact q05;exact rfl;exact rfl;(simp only [maxLen];omega);omega)|(apply xj;exact rfl;exact rfl;exact h4;(iterate 6 exact rfl)))
 refine qk rfl (qz rfl) ⟨rfl,?_⟩
 show (((st++[]).set o _).set tp _).set o (.cells ver 246 [.bx o ver 0,.sl 1 (l.map Uv++[c].map Uv) (some tp)])=_
 rw [List.append_nil,List.set_comm _ _ hne,List.set_set,← List.map_append]
theorem qtj (o ver tp:Nat) (q:AV) (l:List UInt8) (st:List AObj) (ho:st[o]? = some (bldO ver q l tp)) (ht:st[tp]? = some (.tip l.length 1 5)) :
  qn E 171 [.bx o ver 0] st fun r st'=>r=Sv l∧st'=st.set tp .dead:=by
 refine⟨fun B0 w0 G vals w hL hA hR=>?_⟩
 obtain⟨h0,h1,h2,h3,c,h4,h5,h6⟩:=hA.ob o _ ho
 obtain⟨g0,g1,g2⟩:=hA.ob tp _ ht
 have hne:tp≠o:=fun e=>by rw [e,ho] at ht;simp at ht
 have hvals:vals = #[.pointer (some ⟨(G.ob o).blk,0,none⟩)]:=by
  have hs:vals.size=1:=by have:=hR.1;simpa using this.symm
  have h:=hR.2 0 (.bx o ver 0) vals[0] rfl (by simp [hs])
  apply Array.ext
  ·simp [hs]
  ·intro i hi1 hi2
   have:i=0:=by simp at hi2;omega
   subst this
   have e:vals[0] = .pointer (some ⟨(G.ob o).blk,0,none⟩):=by
    generalize vals[0]=v at h
    cases h with
    |bx _ _ _ b hn e1 e2=>rw [e2 h1]
   simpa using e
 subst hvals
 have hc2:c.size=2:=by rw [← h5];rfl
 have hrel:=h6 1 (.sl 1 (l.map Uv) (some tp)) c[1] rfl (by simp [hc2])
 have hcell:w.drew.cell? ⟨(G.ob o).blk,1,none⟩=some c[1]:=by
  have h4':w.drew.heap[(G.ob o).blk]? = some (.cells c 246 (0,0)):=h4
  simp [World.cell?,h4',hc2]
 generalize hv:c[1]=v at hrel hcell
 have hdrew:Below w.heap.size w w.drew:=⟨rfl,rfl,rfl,Nat.le_refl _,fun _ _=>rfl⟩
 have hA1:=(hA.kill tp).fresh hdrew
 have hl:(l.map Uv).length=l.length:=by simp
 generalize hxs:l.map Uv=xs at hrel
 cases hrel with
 |sl0 _ _ base cap hto=>
  obtain⟨_,rfl,rfl⟩:=hto tp rfl
  have hl0:l=[]:=by simpa using hxs
  subst hl0
  refine (qqk Tryz.lays169 Tryz.Builder_Extra_169 (G.ob o).blk 0 0 none (.pointer none) .empty w w.drew hcell rfl (Lib.run_unsafeString_none w.drew _ _ _ none)).mono ?_
  rintro e w' ⟨rfl,rfl⟩
  exact⟨_,G,Sv [],_,rfl,.refl G,hA1,.v _,rfl,rfl⟩
 |sl _ _ _ b off cap pub hp hw hlen hr hto hcap0=>
  subst hxs
  rw [hl] at hto hcell
  obtain⟨_,hn0,_,hcur⟩:=hto tp rfl
  obtain⟨hb,rfl,hcp,hcm,hcl⟩:=hcur g1
  obtain⟨hB,c2,vs,e1,e2,e3,e4⟩:=g2 hn0
  rw [hb] at e1 e2 hB
  have hcells:∀ j x,l[j]? = some x→w.drew.cell? ((⟨b,0,none⟩:Addr).add j)=some (.int .u8 x.toNat):=fun j x hx=>by
   obtain⟨c3,T3,fz3,k1,k2⟩:=hA.pub b pub hp
   have k1':w.drew.heap[b]? = some (.cells c3 T3 fz3):=k1
   have hj:j<(flat (l.map Uv)).length:=by rw [qg9];simpa using lt_of_getElem? hx
   have hy:pub[0+j]? = some (pub[0+j]'(by omega)):=List.getElem?_eq_getElem (by omega)
   have hrj:=hr j (Uv x) _ (by rw [qg9];simp [hx]) hy
   have:pub[0+j]'(by omega) = .int .u8 x.toNat:=by
    generalize pub[0+j]'(by omega)=y at hrj
    cases hrj;rfl
   rw [this] at hy
   rw [Addr.add_lit]
   simp only [World.cell?,k1']
   simpa using k2 _ _ hy
  have hle:l.length≤c2.size:=by rw [e4,← hcp];omega
  have e1':w.drew.heap[b]? = some (.cells c2 5 (0,0)):=e1
  have hUS:=Lib.run_unsafeString_row (P:=E.P) w.drew 311 3 9 5 rfl (by kernel_rfl) b c2.size (by simp [World.shape?,e1']) l (by rintro rfl;exact hn0 rfl) hle (by simp only [maxLen] at hcm;omega) hcells
  have hSD:(Builtin.unsafeSliceData_ #[244] 311 #[.slice (some ⟨b,0,none⟩) l.length cap]).run E.P w.drew = .ok (.pointer (some ⟨b,0,none⟩)) w.drew:=Lib.run_unsafeSliceData_row _ _ _ _ _ _ (by omega)
  refine (qqk Tryz.lays169 Tryz.Builder_Extra_169 (G.ob o).blk l.length cap (some ⟨b,0,none⟩) _ _ w _ hcell hSD hUS).mono ?_
  rintro e w' ⟨rfl,rfl⟩
  have hfz:∃ fz',(w.drew.freeze ⟨b,0,none⟩ l.length).heap[b]? = some (.cells c2 5 fz'):=by
   unfold World.freeze
   rw [if_neg hn0]
   simp [Array.getElem?_modify,e1']
  obtain⟨fz',hfz⟩:=hfz
  have hoth:∀ k,k≠b→(w.drew.freeze ⟨b,0,none⟩ l.length).heap[k]? = w.drew.heap[k]?:=fun k hk=>by
   unfold World.freeze
   rw [if_neg hn0]
   simp [Array.getElem?_modify,Ne.symm hk]
  refine⟨_,G,Sv l,_,rfl,.refl G,hA1.refroze e1' hfz hoth hB (by unfold World.freeze;rw [if_neg hn0];simp) (by unfold World.freeze;rw [if_neg hn0]) (by unfold World.freeze;rw [if_neg hn0]) (by unfold World.freeze;rw [if_neg hn0]) (fun k x hx hlv=>?_),.v _,rfl,rfl⟩
  rcases getElem?_set' _ _ _ _ _ hx with⟨_,e⟩ | ⟨k1,k2⟩
  ·subst e;exact hlv.elim
  ·have:=hA.sep k tp x _ k1 k2 ht hlv hn0
   rwa [hb] at this
theorem q4x (st loc loc':List AObj) (k kt ver:Nat) (q:AV) (l:List UInt8) (c:UInt8) (hk:loc[k]? = some (bldO ver q l (st.length+kt))) (hkt:loc[kt]? = some (.tip l.length 1 5)) (hq:q = .v (.pointer none)∨q = .bx (st.length+k) ver 0)
  (hlen:l.length+1≤140737488355328) (hl:loc'=(loc.set k (bldO ver (.bx (st.length+k) ver 0) (l++[c]) (st.length+kt))).set kt (.tip (l++[c]).length 1 5)) :
  qn E 242 [.bx (st.length+k) ver 0,Uv c] (st++loc) fun r st'=>r = .v .nilIface∧st'=st++loc':=by
 refine (zay (st.length+k) ver (st.length+kt) q l c (st++loc) (zl hk) (zl hkt) hq hlen).mono fun r st' ⟨h1,h2⟩=>⟨h1,?_⟩
 rw [h2,xx,xx,hl,List.length_append]
 rfl
end Go.Proofs.YtneejjefekdgjaaGreatDoor
namespace Go.Proofs.YtneejjefekdgjaaGreatDoor
open Go Go.Av Go.RowKit Go.Proofs Go.Pl
theorem qhw (l:List UInt8) (c:UInt8) (st:List AObj) (hl:l.length<4294967281):qn E 72 [Sv l,Sv [c]] st fun r st'=>r = .tu [Sv (upto c l),Sv (past c l),Bv (decide (c∈l))]∧st'=st:=by
 have:=qqp l [c] st hl
 rw [zbb] at this
 exact this
@[reducible] def qdk (k : Nat) (text rest : List UInt8) : AV := .ag [Iv k, Iv ((text.length : Int) - rest.length), Sv (upto 10 rest), Bv (decide (10 ∈ rest))]
theorem q9z (text:List UInt8) (o kb ver n:Nat) (I:Nat→List UInt8→List AObj→Prop) (D:List AObj→Prop) (st:List AObj) (ht:text.length<4294967281) (h0:I 0 text st)
  (hI:∀ k rest st',I k rest st'→st'.length=n∧st'[kb]? = some (.cells ver 9 [Sv text]))
  (hY:∀ k rest st' own,I k rest st'→rest≠[]→rest.length≤text.length→qab E o [qdk k text rest] (st'++[own]) fun b st2=>∃ st3,st2=st3++[own]∧(b=true→I (k+1) (past 10 rest) st3)∧(b=false→D st3)) :
  qn E 121 [.yd o,.bx kb ver 0] st fun r st'=>∃ st3 ext',st'=st3++ext'∧((∃ k,I k [] st3)∨D st3):=by
 refine qo Tryz.func121 rfl (Nat.le_of_ble_eq_true rfl) ?_
 obtain⟨hn,hb⟩:=hI 0 text st h0
 subst hn
 repeat' (first|apply qm|apply qt|apply qd|apply qc|apply qe|(apply kc;exact rfl;exact rfl)|(apply jk;(iterate 11 exact rfl))|(apply xi;(iterate 3 exact rfl))|(apply qcj;exact rfl;exact rfl;exact hb;exact rfl;exact rfl))
 refine jh (fun (x:Nat×List UInt8) s=>match x with|(k,rest)=>∃ stk at' ta eb,I k rest stk∧k+rest.length≤text.length∧at'=(text.length:Int) - rest.length∧StA [(0,.yd o),(1,.bx kb ver 0),(3,.bx (st.length+0) 0 0),(4,Sv rest)] (stk++(.cells 0 145 [Iv k,Iv at',Sv ta,Bv eb]::[])) [] s) (fun x=>x.2.length) (0,text)
  ⟨st,0,[],false,h0,by simp,by simp,?_⟩ ?_
 ·exact zw ⟨rfl,rfl,rfl,rfl,trivial⟩
 rintro⟨k,rest⟩ _ ⟨stk,_,ta,eb,hi,hle,rfl,t,rfl⟩
 obtain⟨hn,hb'⟩:=hI k rest stk hi
 repeat' (first|apply qm|apply qt|apply qd|apply qc|apply qi|apply qe|(apply q9;exact rfl;exact rfl)|(apply jg;(iterate 3 exact rfl))|(apply qb;exact rfl;apply cd_d <;> intro h)|(apply zm;(iterate 3 exact rfl))|apply qw|apply z7|(apply qf;exact Tryz.call72;exact qhw _ _ _ (by omega))|(apply qa4;exact rfl;assumption;(iterate 10 exact rfl))|(apply qbu;exact rfl;assumption;(iterate 4 exact rfl)))
 ·refine qfq rfl ((hY k rest stk _ hi h (by omega)).mono ?_)
  rintro b _ ⟨st3,rfl,h1,h2⟩
  cases b
  ·skip
   repeat' (first|apply qc|(apply jd;exact rfl)|(apply qb;exact rfl;apply qkr;exact cRa)|apply qs)
   refine qk rfl (qa6 rfl) ⟨st3,_,rfl,.inr (h2 rfl)⟩
  ·have hi3:=h1 rfl
   obtain⟨hn3,hb3⟩:=hI _ _ _ hi3
   have hp:=kq 10 rest
   have hr0:0<rest.length:=List.length_pos_iff.2 h
   repeat' (first|apply qm|apply qd|apply qc|apply qi|(apply jd;exact rfl)|(apply qb;exact rfl;apply qiq;exact cRa)|(apply zo;(iterate 3 exact rfl))|(apply zt;exact rfl;exact rfl;exact zb (by omega) (by omega))|(apply w8;exact rfl;exact rfl;exact zb (by omega) (by omega))|(apply zm;(iterate 3 exact rfl))|apply qw|(apply qcj;exact rfl;exact rfl;exact hb3;exact rfl;exact rfl)|(apply qa4;exact rfl;assumption;(iterate 10 exact rfl))|(apply qbu;exact rfl;assumption;(iterate 4 exact rfl)))
   exact⟨(k+1,past 10 rest),⟨st3,_,_,_,hi3,by omega,rfl,zw ⟨rfl,rfl,rfl,rfl,trivial⟩⟩,by simp only;omega⟩
 ·have hr:rest=[]:=Classical.not_not.1 h
  subst hr
  exact qk rfl (qa6 rfl) ⟨stk,_,rfl,.inl ⟨k,hi⟩⟩
theorem qsz (text:List UInt8) (st st':List AObj) (n:Nat) (hn:st.length=n) (hst:st++[.cells 0 9 [Sv text]]=st'):qn E 67 [Sv text] st fun r st1=>r = .fn (.func 121) [] [.bx n 0 0]∧st1=st':=by
 subst hn
 subst hst
 refine qo Tryz.func67 rfl (Nat.le_of_ble_eq_true rfl) ?_
 repeat' (first|apply qm|apply qd|apply qc|apply qe|apply qgt|(apply qbm;(iterate 4 exact rfl))|apply qs)
 exact qk rfl (qz rfl) ⟨rfl,rfl⟩
theorem q2m (st loc loc':List AObj) (k kt ver:Nat) (q:AV) (l m:List UInt8) (hk:loc[k]? = some (bldO ver q l (st.length+kt))) (hkt:loc[kt]? = some (.tip l.length 1 5)) (hq:q = .v (.pointer none)∨q = .bx (st.length+k) ver 0)
  (hlen:l.length+m.length≤140737488355328) (hl:loc'=(loc.set k (bldO ver (.bx (st.length+k) ver 0) (l++m) (st.length+kt))).set kt (.tip (l++m).length 1 5)) :
  qn E 168 [.bx (st.length+k) ver 0,Sv m] (st++loc) fun r st'=>r = .tu [Iv m.length,.v .nilIface]∧st'=st++loc':=by
 refine (qwl (st.length+k) ver (st.length+kt) q l m (st++loc) (zl hk) (zl hkt) hq hlen).mono fun r st' ⟨h1,h2⟩=>⟨h1,?_⟩
 rw [h2,xx,xx,hl,List.length_append]
theorem qoa (st loc loc':List AObj) (k kt ver:Nat) (q:AV) (l:List UInt8) (hk:loc[k]? = some (bldO ver q l (st.length+kt))) (hkt:loc[kt]? = some (.tip l.length 1 5)) (hl:loc'=loc.set kt .dead) :
  qn E 171 [.bx (st.length+k) ver 0] (st++loc) fun r st'=>r=Sv l∧st'=st++loc':=by
 refine (qtj (st.length+k) ver (st.length+kt) q l (st++loc) (zl hk) (zl hkt)).mono fun r st' ⟨h1,h2⟩=>⟨h1,?_⟩
 rw [h2,xx,hl]
@[reducible] def dedL (st : List AObj) (by' text : List UInt8) (q : AV) (acc : List UInt8) (lp : AObj) : List AObj :=
 [.cells 0 9 [Sv by'],.cells 0 9 [Sv []],.cells 0 4 [Bv false],bldO 0 q acc (st.length+5),.cells 0 9 [Sv text],.tip acc.length 1 5,.dfr,lp]
theorem qwz (text by':List UInt8) (st:List AObj) (hl:text.length<4294967281):qn E 264 [Sv text,Sv by'] st fun r st'=>r = .tu [Sv (va by' text).1,Bv (va by' text).2]∧st'=st:=by
 refine qu (qi8 _ _) (qo Tryz.func264 rfl (Nat.le_of_ble_eq_true rfl) ?_)
 repeat' (first|apply qm|apply qd|apply qc|apply qi|(apply kc;exact rfl;exact rfl)|(apply qbm;(iterate 4 exact rfl)))
 refine qf Tryz.call67 (qsz text _ (st++[.cells 0 9 [Sv by'],.cells 0 9 [Sv []],.cells 0 4 [Bv false],.cells 0 246 [.v (.pointer none),zu],.cells 0 9 [Sv text]]) (st.length+4) ?_ ?_) ?_
 ·show (st++[_,_,_,_]).length=_
  simp
 ·show (st++[_,_,_,_])++[_]=_
  rw [List.append_assoc]
  rfl
 repeat' (first|apply qt|apply qc)
 refine qn9 (o:=st.length+3) (j:=1) (sz:=1) (T':=5) (zl rfl) rfl ?_
 refine qim [(3,.bx (st.length+0) 0 0),(4,.bx (st.length+1) 0 0),(5,.bx (st.length+2) 0 0),(6,.bx (st.length+3) 0 0),(11,.fn (.func 121) [] [.bx (st.length+4) 0 0])]
  (st++[.cells 0 9 [Sv by'],.cells 0 9 [Sv []],.cells 0 4 [Bv false],bldO 0 (.v (.pointer none)) [] (st.length+5),.cells 0 9 [Sv text],.tip 0 1 5]) [] ⟨rfl,rfl,rfl,rfl,rfl,trivial⟩ ?_ rfl (fun t=>?_)
 ·show (st++[_,_,_,_,_]).set (st.length+3) (.cells 0 246 [_,.sl 1 [] (some (st++[_,_,_,_,_]).length)])++[_]=_
  rw [xx,List.append_assoc]
  simp
 refine qkp (st:=st) (loc:=[.cells 0 9 [Sv by'],.cells 0 9 [Sv []],.cells 0 4 [Bv false],bldO 0 (.v (.pointer none)) [] (st.length+5),.cells 0 9 [Sv text],.tip 0 1 5]) rfl rfl Tryz.call121 fun F hF=>?_
 refine qn.mono (q9z text (st.length+7) (st.length+4) 0 (st.length+8)
  (fun _ rest st'=>∃ q acc don,(q = .v (.pointer none)∨q = .bx (st.length+3) 0 0)∧zr text=don++zr rest∧(∀ x∈don,by' <+: x.1)∧acc=don.flatMap (fun x=>x.1.drop by'.length++wu x.2)∧acc.length+rest.length≤text.length∧st'=st++dedL st by' text q acc (F .ready none))
  (fun st'=>(¬ ∀ x∈zr text,by' <+: x.1)∧∃ q acc,st'=st++dedL st by' text q acc (F .done (some .ret)))
  (st++dedL st by' text (.v (.pointer none)) [] (F .ready none)) hl ⟨_,[],[],.inl rfl,rfl,by simp,rfl,by simp,rfl⟩ ?_ ?_) ?_
 ·rintro k rest _ ⟨q,acc,don,hq,h1,h2,h3,h4,rfl⟩
  exact⟨by simp,zl rfl⟩
 ·rintro k rest _ own ⟨q,acc,don,hq,h1,h2,h3,h4,rfl⟩ hne hle
  refine qzp ?_
  rw [List.append_assoc]
  refine qo4 hF (zl rfl) rfl fun l=>?_
  repeat' (first|apply qd|apply qc|(apply kc;exact rfl;exact rfl)|(apply jk;(iterate 11 exact rfl)))
  refine⟨zl rfl,rfl,?_⟩
  refine qim [(3,.bx (st.length+0) 0 0),(4,.bx (st.length+1) 0 0),(5,.bx (st.length+2) 0 0),(6,.bx (st.length+3) 0 0),(7,.bx (st.length+9) 0 0)]
   (st++(dedL st by' text q acc (F .busy none)++[own,.cells 0 145 (qdk k text rest).cells])) [] ⟨rfl,rfl,rfl,rfl,rfl,trivial⟩ ?_ rfl (fun t=>?_)
  ·show (st++(dedL st by' text q acc (F .ready none)++[own,_])).set (st.length+7) _=_
   rw [xx]
   rfl
  have hb1:=qee (upto 10 rest) by'
  have hb2:=kv 10 rest
  have hmem:(upto 10 rest,decide (10∈rest))∈zr text:=by rw [h1,wc hne];simp
  have hcons:=wc hne
  have hpl:=kq 10 rest
  have hlt:10∈rest→(upto 10 rest).length<rest.length:=qdv
  repeat' (first|apply qm|apply qt|apply qd|apply qc|apply qi|apply qe|(apply q9;exact rfl;exact rfl)|(apply jd;exact rfl)|(apply qb;exact rfl;apply cd_n <;> intro h)|(apply qb;exact rfl;apply cd_d <;> intro h)|(apply zm;(iterate 3 exact rfl))|(apply za;(iterate 5 exact rfl))|(apply jk;(iterate 11 exact rfl))|apply qw|apply qs|(apply qf;exact Tryz.call260;exact qdz _ _ _)|(refine qf Tryz.call168 (q2m st _ _ 3 5 0 _ _ _ rfl rfl ?_ ?_ rfl) ?_;(first|exact hq|exact .inr rfl);(first|omega|(simp;omega))))
  ·have hno:¬ ∀ x∈zr text,by' <+: x.1:=fun hall=>by
    have:=(xo _ _).2 (hall _ hmem)
    simp_all
   refine⟨zl rfl,st++(dedL st by' text q acc (F .done (some .ret))++[own]),[.cells 0 145 (qdk k text rest).cells],?_,?_,st++dedL st by' text q acc (F .done (some .ret)),(List.append_assoc _ _ _).symm,nofun,fun _=>⟨hno,q,acc,rfl⟩⟩
   ·show (st++_).set (st.length+7) _=_
    rw [xx,List.append_assoc st]
    rfl
   ·exact qi1 (.same _ (.same _ (.same _ (.same _ (.same _ (.same _ (.same _ (q3g hF (qhe _ _))))))))) st
  all_goals
   have hpre:by' <+: upto 10 rest:=(xo _ _).1 (by simp_all)
   have htp:=qcl hpre
  ·refine⟨zl rfl,st++(dedL st by' text (.bx (st.length+3) 0 0) (acc++Lib.trimPrefix (upto 10 rest) by'++[10]) (F .ready none)++[own]),[.cells 0 145 (qdk k text rest).cells],?_,?_,
    st++dedL st by' text (.bx (st.length+3) 0 0) (acc++Lib.trimPrefix (upto 10 rest) by'++[10]) (F .ready none),(List.append_assoc _ _ _).symm,fun _=>⟨_,_,don++[(upto 10 rest,true)],.inr rfl,?_,?_,?_,?_,rfl⟩,nofun⟩
   ·show (st++_).set (st.length+7) _=_
    rw [xx,List.append_assoc st]
    rfl
   ·refine qi1 (.same _ (.same _ (.same _ (.cut (qof ?_) (.same _ (.cut qtq (.same _ (q3g hF (qhe _ _))))))))) st
    intro x hx
    simp only [List.mem_cons,List.not_mem_nil,or_false] at hx
    rcases hx with rfl|rfl
    ·exact q49 (by simp)
    ·exact qtr (by simp)
   ·rw [h1,hcons];simp_all
   ·intro x hx
    rcases List.mem_append.1 hx with hx|hx
    ·exact h2 x hx
    ·simp at hx;subst hx;exact hpre
   ·rw [h3,htp];simp [wu]
   ·have:=hlt (by assumption)
    simp
    omega
  ·refine⟨zl rfl,st++(dedL st by' text (.bx (st.length+3) 0 0) (acc++Lib.trimPrefix (upto 10 rest) by') (F .ready none)++[own]),[.cells 0 145 (qdk k text rest).cells],?_,?_,
    st++dedL st by' text (.bx (st.length+3) 0 0) (acc++Lib.trimPrefix (upto 10 rest) by') (F .ready none),(List.append_assoc _ _ _).symm,fun _=>⟨_,_,don++[(upto 10 rest,false)],.inr rfl,?_,?_,?_,?_,rfl⟩,nofun⟩
   ·show (st++_).set (st.length+7) _=_
    rw [xx,List.append_assoc st]
    rfl
   ·refine qi1 (.same _ (.same _ (.same _ (.cut (qof ?_) (.same _ (.cut qtq (.same _ (q3g hF (qhe _ _))))))))) st
    intro x hx
    simp only [List.mem_cons,List.not_mem_nil,or_false] at hx
    rcases hx with rfl|rfl
    ·exact q49 (by simp)
    ·exact qtr (by simp)
   ·rw [h1,hcons];simp_all
   ·intro x hx
    rcases List.mem_append.1 hx with hx|hx
    ·exact h2 x hx
    ·simp at hx;subst hx;exact hpre
   ·rw [h3,htp];simp [wu]
   ·simp
    omega
 ·rintro r st' ⟨st3,ext,rfl,⟨k,q,acc,don,hq,h1,h2,h3,h4,rfl⟩ | ⟨hno,q,acc,rfl⟩⟩
  ·refine⟨.ready,none,nofun,by rw [List.append_assoc];exact zl rfl,?_⟩
   refine qim [(4,.bx (st.length+1) 0 0),(5,.bx (st.length+2) 0 0),(6,.bx (st.length+3) 0 0)] (st++(dedL st by' text q acc .dead++ext)) [st.length+6] ⟨rfl,rfl,rfl,trivial⟩ ?_ rfl (fun t=>?_)
   ·show ((st++_)++ext).set (st.length+7) _=_
    rw [List.append_assoc,xx]
    rfl
   repeat' (first|apply qm|apply qd|apply qc|(apply jk;(iterate 11 exact rfl))|apply qs|(refine qf Tryz.call171 (qoa st _ _ 3 5 0 _ _ rfl rfl rfl) ?_))
   refine qlw rfl rfl rfl (qk rfl (qjs rfl rfl rfl rfl rfl rfl rfl rfl rfl rfl) ⟨zan (?_:_=_),_,rfl⟩)
   rw [wh,List.append_nil] at h1
   unfold va
   rw [h1,if_pos h2,h3]
  ·refine⟨.done,some .ret,nofun,by rw [List.append_assoc];exact zl rfl,?_⟩
   refine qim [(4,.bx (st.length+1) 0 0),(5,.bx (st.length+2) 0 0),(6,.bx (st.length+3) 0 0)] (st++(dedL st by' text q acc .dead++ext)) [st.length+6] ⟨rfl,rfl,rfl,trivial⟩ ?_ rfl (fun t=>?_)
   ·show ((st++_)++ext).set (st.length+7) _=_
    rw [List.append_assoc,xx]
    rfl
   repeat' (first|apply qs)
   refine qlw rfl rfl rfl (qk rfl (qjs rfl rfl rfl rfl rfl rfl rfl rfl rfl rfl) ⟨zan (?_:_=_),_,rfl⟩)
   unfold va
   rw [if_neg hno]
theorem qq5 (l:List UInt8) (st:List AObj) (hl:l.length<4294967281):qn E 241 [Sv l] st fun r st'=>r=Bv (va [32] l).2∧st'=st:=by
 refine qu (qx _) (qo Tryz.func241 rfl (Nat.le_of_ble_eq_true rfl) ?_)
 repeat' (first|apply qm|apply qd|apply qc|apply qi|apply qe|(apply q9;exact rfl;exact rfl)|apply qs|(apply qf;exact Tryz.call264;exact qwz _ _ _ hl))
 exact qk rfl (qz rfl) ⟨rfl,_,rfl⟩
theorem q5q (l:List UInt8) (st:List AObj) (hl:l.length<4294967281):qn E 172 [Sv l] st fun r st'=>r=Bv (decide (xm l))∧st'=st:=by
 refine qu (qx _) (qo Tryz.func172 rfl (Nat.le_of_ble_eq_true rfl) ?_)
 repeat' (first|apply qm|apply qd|apply qc|apply qi|apply qe|(apply qq;(iterate 3 exact rfl))|(apply jd;exact rfl)|(apply qv;(iterate 4 exact rfl))|(apply vl;exact cAo)|(apply vq;exact cAo)|(apply qak;exact cRa)|(apply je <;> intro h)|(apply qh;exact rfl;apply wp;exact cAo)|(apply qh;exact rfl;apply v8;exact cAo)|(apply qh;exact rfl;apply pk_t;exact cRa)|(apply qb;exact rfl;apply cd_n <;> intro h)|(apply qb;exact rfl;apply cd_t;exact cRa)|(apply zo;(iterate 3 exact rfl))|apply qw|apply qs|(apply qf;exact Tryz.call240;exact qom _ _ _ (by omega))|(apply qf;exact Tryz.call241;exact qq5 _ _ hl))
 all_goals refine qk rfl (qz rfl) ⟨congrArg Bv (?_:_=_),_,rfl⟩
 ·exact (decide_eq_false fun ⟨a,b,c,d⟩=>by omega).symm
 ·exact (decide_eq_false fun ⟨a,b,c,d⟩=>by omega).symm
 ·exact (decide_eq_false fun ⟨a,b,c,d⟩=>by simp_all [qgw]).symm
 ·have e:xm l↔(va [32] l).2=true:=⟨fun h=>h.2.2.2,fun h=>⟨by omega,by omega,by simp_all [qgw],h⟩⟩
  simp [e]
theorem q5u (n:Nat) (l:List UInt8) (st:List AObj) (hn:n≤9223372036854775807) (hl:l.length<4294967281):qn E 173 [Iv n,Sv l] st fun r st'=>r=Sv (qhd n l)∧st'=st:=by
 refine qu (qx _) (qo Tryz.func173 rfl (Nat.le_of_ble_eq_true rfl) ?_)
 have h1:=qcf n hn
 repeat' (first|apply qm|apply qd|apply qc|apply qi|apply qe|(apply jl;exact rfl;exact rfl;exact cOs)|apply qs|(apply qf;exact Tryz.call133;exact qmr _ _ (by omega) (by omega)))
 exact qk rfl (qz rfl) ⟨rfl,_,rfl⟩
theorem qy9 (n:Nat) (st:List AObj) (hn:n≤9223372036854775807):qn E 176 [Iv n] st fun r st'=>r=Sv (yc n)∧st'=st:=by
 refine qu (qx _) (qo Tryz.func176 rfl (Nat.le_of_ble_eq_true rfl) ?_)
 have h1:=qcf n hn
 repeat' (first|apply qm|apply qd|apply qc|apply qi|apply qe|(apply jl;exact rfl;exact rfl;exact cOs)|apply qs|(apply qf;exact Tryz.call133;exact qmr _ _ (by omega) (by omega)))
 exact qk rfl (qz rfl) ⟨rfl,_,rfl⟩
theorem qx8 (l:List UInt8) (st:List AObj) (hl:l.length<4294967281):qn E 261 [Sv l] st fun r st'=>r=Iv (j6 l)∧st'=st:=by
 refine qu (qx _) (qo Tryz.func261 rfl (Nat.le_of_ble_eq_true rfl) ?_)
 repeat' (first|apply qm|apply qd|apply qc|apply qi|apply qe)
 refine qeo Tryz.call73 ((qmc l _ (by omega)).mono ?_)
 rintro _ _ ⟨rfl,n,x,rfl,hx⟩
 rcases x with _ | ⟨t',y⟩
 ·simp only at hx
  have hb:=atoiAll_bounds hx
  repeat' (first|apply qm|apply qd|apply qc|apply qi|apply qe|(apply q9;exact rfl;exact rfl)|(apply qq;(iterate 3 exact rfl))|(apply jg;(iterate 3 exact rfl))|(apply qv;(iterate 4 exact rfl))|(apply vl;exact cAo)|(apply vq;exact cAo)|(apply qei;exact cRa)|(apply qak;exact cRa)|(apply je <;> intro h)|(apply qh;exact rfl;apply wp;exact cAo)|(apply qh;exact rfl;apply v8;exact cAo)|(apply qh;exact rfl;apply pk_t;exact cRa)|(apply qh;exact rfl;apply pk_f;exact cRa)|(apply qb;exact rfl;apply cd_t;exact cRa)|(apply qb;exact rfl;apply cd_d <;> intro h)|(apply vt;exact rfl;exact rfl)|apply qw|apply qs|(apply qf;exact Tryz.call133;exact qmr _ _ (by omega) (by omega)))
  all_goals refine qk rfl (qz rfl) ⟨congrArg Iv (?_:_=_),_,rfl⟩
  all_goals rw [qrg hx]
  ·rw [if_neg (by simp_all)]
  ·rw [if_neg (by omega)]
  ·rw [if_neg (by omega)]
  ·rw [if_pos ⟨Classical.not_not.1 (by assumption),by omega,by omega⟩]
 ·simp only at hx
  repeat' (first|apply qm|apply qd|apply qc|apply qi|apply qe|(apply q9;exact rfl;exact rfl)|(apply qv;(iterate 4 exact rfl))|(apply qak;exact cRa)|(apply qh;exact rfl;apply pk_t;exact cRa)|(apply qb;exact rfl;apply cd_t;exact cRa)|(apply wz;exact rfl;exact rfl)|apply qs)
  refine qk rfl (qz rfl) ⟨congrArg Iv (?_:_=_),_,rfl⟩
  rw [qx7 hx]
  rfl
theorem q88 (l:List UInt8) (st:List AObj) (hl:l.length<4294967281):qn E 202 [Sv l] st fun r st'=>r = .tu [Iv (z6 l).1,Sv (z6 l).2.1,Bv (z6 l).2.2]∧st'=st:=by
 refine qu (qbg _ _ _) (qo Tryz.func202 rfl (Nat.le_of_ble_eq_true rfl) ?_)
 have hb1:=qee l q6
 have hb2:=kv 32 (Lib.trimPrefix l q6)
 have hb3:=kq 32 (Lib.trimPrefix l q6)
 repeat' (first|apply qm|apply qd|apply qc|apply qi|apply qe|(apply q9;exact rfl;exact rfl)|(apply qq;(iterate 3 exact rfl))|(apply jg;(iterate 3 exact rfl))|(apply qv;(iterate 4 exact rfl))|(apply xq;exact cAo)|(apply xc;exact cAo)|(apply yj;exact cRa)|(apply ww;exact cRa)|(apply je <;> intro h)|(apply qfy <;> intro h)|(apply qh;exact rfl;apply wp;exact cAo)|(apply qh;exact rfl;apply v8;exact cAo)|(apply qh;exact rfl;apply pk_t;exact cRa)|(apply qh;exact rfl;apply pk_f;exact cRa)|(apply zo;(iterate 3 exact rfl))|apply qs|(apply qf;exact Tryz.call260;exact qdz l q6 _)|(apply qf;exact Tryz.call72;exact qhw (Lib.trimPrefix l q6) 32 _ (by omega))|(apply qf;exact Tryz.call261;exact qx8 (upto 32 (Lib.trimPrefix l q6)) _ (by omega))|(apply qf;exact Tryz.call209;exact qs6 _ _ _ (by omega) rfl rfl))
 all_goals refine qk rfl (xk rfl) ⟨zdq (?_:_=_),_,rfl⟩
 all_goals simp only [z6,Prod.mk.injEq,true_and]
 all_goals clear hb1 hb2 hb3
 all_goals have c3:(2:Int)≤↑(j6 (upto 32 (Lib.trimPrefix l q6)))↔2≤j6 (upto 32 (Lib.trimPrefix l q6)):=by omega
 all_goals have c4:(↑(past 32 (Lib.trimPrefix l q6)).length:Int)=8↔(past 32 (Lib.trimPrefix l q6)).length=8:=by omega
 all_goals simp only [c3,c4,qgv,quw] at *
 all_goals clear c3 c4
 all_goals simp_all
 all_goals first|(intros;omega)|skip
theorem q6a (l:List UInt8) (st:List AObj) (hl:l.length<4294967281):qn E 201 [Sv l] st fun r st'=>r=Bv (w9 l)∧st'=st:=by
 refine qu (qx _) (qo Tryz.func201 rfl (Nat.le_of_ble_eq_true rfl) ?_)
 have hb1:=qee l q6
 have hb2:=kv 32 (Lib.trimPrefix l q6)
 have hb3:=kq 32 (Lib.trimPrefix l q6)
 repeat' (first|apply qm|apply qt|apply qd|apply qc|apply qi|apply qe|(apply q9;exact rfl;exact rfl)|(apply qq;(iterate 3 exact rfl))|(apply jg;(iterate 3 exact rfl))|(apply jd;exact rfl)|(apply qv;(iterate 4 exact rfl))|(apply xq;exact cAo)|(apply xc;exact cAo)|(apply je <;> intro h)|(apply qh;exact rfl;apply wp;exact cAo)|(apply qh;exact rfl;apply v8;exact cAo)|(apply qb;exact rfl;apply vw;exact cAo)|(apply qb;exact rfl;apply cd_n <;> intro h)|(apply qb;exact rfl;apply cd_f;exact cRa)|(apply qb;exact rfl;apply cd_d <;> intro h)|(apply zo;(iterate 3 exact rfl))|apply qw|apply qs|(apply qf;exact Tryz.call260;exact qdz l q6 _)|(apply qf;exact Tryz.call164;exact qd2 _ _ _)|(apply qf;exact Tryz.call72;exact qhw (Lib.trimPrefix l q6) 32 _ (by omega))|(apply qf;exact Tryz.call261;exact qx8 (upto 32 (Lib.trimPrefix l q6)) _ (by omega))|(apply qf;exact Tryz.call209;exact qs6 _ _ _ (by omega) rfl rfl))
 all_goals refine qk rfl (qz rfl) ⟨congrArg Bv (?_:_=_),_,rfl⟩
 all_goals clear hb1 hb2 hb3
 all_goals by_cases hp:q6 <+: l
 all_goals have c1:(↑(j6 (upto 32 (Lib.trimPrefix l q6))):Int)<2↔j6 (upto 32 (Lib.trimPrefix l q6))<2:=by omega
 all_goals have c2:(↑(j6 (upto 32 (Lib.trimPrefix l q6))):Int)=0↔j6 (upto 32 (Lib.trimPrefix l q6))=0:=by omega
 all_goals have c4:(↑(past 32 (Lib.trimPrefix l q6)).length:Int)≤8↔(past 32 (Lib.trimPrefix l q6)).length≤8:=by omega
 all_goals simp only [c1,c2,c4,qgv,quw] at *
 all_goals clear c1 c2 c4
 all_goals try (have e:Lib.trimPrefix l q6=l.drop 7:=qcl hp;simp only [e] at *)
 all_goals unfold w9
 all_goals first|rw [if_pos hp]|rw [if_neg hp]
 all_goals simp_all
 all_goals first|exact Iff.rfl|(intros;omega)|skip
theorem q9e (l:List UInt8) (n:Int) (st:List AObj) (hl:l.length<4294967281):qn E 203 [Sv l,Iv n] st fun r st'=>r=Iv (xh l n)∧st'=st:=by
 refine qu (qx _) (qo Tryz.func203 rfl (Nat.le_of_ble_eq_true rfl) ?_)
 repeat' (first|apply qm|apply qd|apply qc|apply qi|apply qe|(apply qq;(iterate 3 exact rfl))|(apply jg;(iterate 3 exact rfl))|(apply jd;exact rfl)|(apply qv;(iterate 4 exact rfl))|(apply vl;exact cAo)|(apply vq;exact cAo)|(apply qat;(iterate 4 exact rfl))|(apply yw;exact cRa)|(apply qbe;exact cRa)|(apply qhc <;> intro h)|(apply yj;exact cRa)|(apply ww;exact cRa)|(apply je <;> intro h)|(apply qfy <;> intro h)|(apply qh;exact rfl;apply wp;exact cAo)|(apply qh;exact rfl;apply v8;exact cAo)|(apply qh;exact rfl;apply qhj;exact cRa)|(apply qh;exact rfl;apply qec;exact cRa)|(apply qh;exact rfl;apply pk_t;exact cRa)|(apply qh;exact rfl;apply pk_f;exact cRa)|(apply qb;exact rfl;apply cd_t;exact cRa)|(apply qb;exact rfl;apply cd_f;exact cRa)|(apply qb;exact rfl;apply cd_d <;> intro h)|apply qw|apply qs|(apply qf;exact Tryz.call240;exact qom _ _ _ (by omega))|(apply qf;exact Tryz.call241;exact qq5 _ _ hl))
 all_goals refine qk rfl (qz rfl) ⟨congrArg Iv (?_:_=_),_,rfl⟩
 all_goals simp_all [xh,qgw]
theorem q8z (n:Int) (st:List AObj):qn E 205 [Iv n] st fun r st'=>r=Iv (qcq n)∧st'=st:=by
 refine qu (qx _) (qo Tryz.func205 rfl (Nat.le_of_ble_eq_true rfl) ?_)
 by_cases hr:n<2∨50000<n
 ·skip
  repeat' (first|apply qm|apply qd|apply qc|apply qi|apply qe|(apply qq;(iterate 3 exact rfl))|(apply qv;(iterate 4 exact rfl))|(apply vl;exact cAo)|(apply vq;exact cAo)|(apply je <;> intro h)|(apply qh;exact rfl;apply wp;exact cAo)|(apply qh;exact rfl;apply v8;exact cAo)|(apply qb;exact rfl;apply ki;exact cAo)|(apply qb;exact rfl;apply cd_t;exact cRa)|apply qs)
  all_goals refine qk rfl (qz rfl) ⟨congrArg Iv (?_:_=_),_,rfl⟩
  all_goals first|exact (if_pos hr).symm|omega
 ·obtain⟨k,rfl⟩:=Int.eq_ofNat_of_zero_le (by omega:0≤n)
  have h1:=qcf k (by omega)
  have h2:=qbx k (Lib.repeatL [48] 8)
  have h3:=yy k
  have h4:(Lib.repeatL [48] 8).length=8:=by decide
  repeat' (first|apply qm|apply qd|apply qc|apply qi|apply qe|(apply qq;(iterate 3 exact rfl))|(apply qv;(iterate 4 exact rfl))|(apply vl;exact cAo)|(apply qh;exact rfl;apply v8;exact cAo)|(apply qb;exact rfl;apply vw;exact cAo)|(apply zo;(iterate 3 exact rfl))|(apply zt;exact rfl;exact rfl;exact zb (by omega) (by omega))|apply qw|apply qs|(apply qf;exact Tryz.call263;exact q9t [48] 8 _ (by omega) (by decide))|(apply qf;exact Tryz.call173;exact q5u k _ _ (by omega) (by decide))|(apply qf;exact Tryz.call176;exact qy9 k _ (by omega)))
  refine qk rfl (qz rfl) ⟨congrArg Iv (?_:_=_),_,rfl⟩
  unfold qcq
  rw [if_neg hr,← rep8]
  rfl
def qba (x:BitVec 32):BitVec 32:=if x &&& 2147483648#32≠0#32 then (x <<< 1) ^^^ 79764919#32 else x <<< 1
def wt:Nat→BitVec 32→BitVec 32
 | 0,x=>x
 |n+1,x=>qba (wt n x)
theorem zd6 (x:BitVec 32) (st:List AObj):qn E 321 [Wv x] st fun r st'=>r=Wv (wt 4 (x <<< 28))∧st'=st:=by
 refine qu (qx _) (qo Tryz.func321 rfl (Nat.le_of_ble_eq_true rfl) ?_)
 repeat' (first|apply qm|apply qt|apply qd|apply qc|apply qi|apply qe|(apply qe7;(iterate 3 exact rfl)))
 refine jh (fun (k:Nat) s=>k≤4∧StA [(3,Wv (wt k (x <<< 28))),(6,Iv k)] (st++[]) [] s) (fun k=>4 - k) 0 ⟨by omega,zw ⟨rfl,rfl,trivial⟩⟩ ?_
 rintro k _ ⟨hk,t,rfl⟩
 repeat' (first|apply qm|apply qt|apply qd|apply qc|apply qi|apply qe|(apply qq;(iterate 3 exact rfl))|(apply qb;exact rfl;apply cd_d <;> intro h)|(apply zt;exact rfl;exact rfl;exact zb (by omega) (by omega))|(apply qdg;exact rfl;exact rfl;(first|exact jw _|exact rfl);first|exact jw _|exact rfl)|(apply qkl;exact rfl;exact rfl;(first|exact jw _|exact rfl);first|exact jw _|exact rfl)|(apply qe7;(iterate 3 exact rfl))|apply qw|apply z7|apply qs)
 ·refine⟨k+1,⟨by omega,zw ⟨?_,rfl,trivial⟩⟩,by omega⟩
  refine congrArg Wv (?_:_=qba _)
  unfold qba
  rw [if_pos (fun e=>by rename_i h;exact h ((qr2 _).2 e))]
  rfl
 ·refine⟨k+1,⟨by omega,zw ⟨?_,rfl,trivial⟩⟩,by omega⟩
  refine congrArg Wv (?_:_=qba _)
  unfold qba
  rw [if_neg (fun e=>by rename_i h;exact h (fun h'=>e ((qr2 _).1 h')))]
 ·have e:k=4:=by omega
  subst e
  exact qk rfl (qz rfl) ⟨rfl,_,rfl⟩
def rowT (i:Nat):BitVec 32:=wt 4 (BitVec.ofNat 32 i <<< 28)
def tabA (k:Nat):List AV:=(List.range 16).map fun i=>if i<k then Wv (rowT i) else .v (.int .u32 0)
theorem q0o (k:Nat):(tabA k).length=16:=by simp [tabA]
theorem q7b {k:Nat} (h:k<16):(tabA k).set k (Wv (rowT k))=tabA (k+1):=by
 apply List.ext_getElem
 ·simp [tabA]
 ·intro i h1 h2
  simp only [tabA,List.length_map,List.length_range] at h2
  rw [List.getElem_set]
  by_cases e:k=i
  ·subst e
   simp [tabA]
  ·rw [if_neg e]
   simp only [tabA,List.getElem_map,List.getElem_range]
   by_cases hi:i<k
   ·rw [if_pos hi,if_pos (by omega)]
   ·rw [if_neg hi,if_neg (by omega)]
theorem q93 {i:Nat} (h:i<16):(tabA 16)[i]? = some (Wv (rowT i)):=by
 simp [tabA,h]
theorem zdk (st:List AObj):qn E 297 [] st fun r st'=>r = .ag (tabA 16)∧st'=st:=by
 refine qu (qj9 (fun x hx=>?_)) (qo Tryz.func297 rfl (Nat.le_of_ble_eq_true rfl) ?_)
 ·simp only [tabA,List.mem_map] at hx
  obtain⟨i,_,rfl⟩:=hx
  split <;> exact qx _
 repeat' (first|apply qm|apply qt|apply qd|apply qc|apply qi|(apply kc;exact rfl;exact rfl))
 refine jh (fun (k:Nat) s=>k≤16∧StA [(0,.bx (st.length+0) 0 0),(2,Iv k)] (st++[.cells 0 358 (tabA k)]) [] s) (fun k=>16 - k) 0 ⟨by omega,qb4 ⟨rfl,rfl,trivial⟩ (by show st++[AObj.cells 0 _ _]=_;rfl)⟩ ?_
 rintro k _ ⟨hk,t,rfl⟩
 have hlen:=q0o k
 repeat' (first|apply qm|apply qt|apply qd|apply qc|apply qi|apply qe|(apply qq;(iterate 3 exact rfl))|(apply qb;exact rfl;apply cd_d <;> intro h)|(apply zt;exact rfl;exact rfl;exact zb (by omega) (by omega))|(apply za;(iterate 5 exact rfl))|(apply qcu;(iterate 4 exact rfl);first|assumption|omega|decide)|apply qw|apply z7|(apply qf;exact Tryz.call321;exact zd6 _ _)|(apply qp7;(iterate 3 exact rfl);omega)|(apply qsb;(iterate 9 exact rfl);(show 0+k * 1+1≤_;omega);exact rfl))
 ·refine⟨k+1,⟨by omega,qb4 ⟨rfl,rfl,trivial⟩ ?_⟩,by omega⟩
  show st++[AObj.cells 0 _ (j9 (tabA k) (0+k * 1) [Wv (rowT k)])]=_
  rw [Nat.zero_add,Nat.mul_one,q34 (by omega),q7b (by omega)]
 ·have e:k=16:=by omega
  subst e
  repeat' (first|apply qc|(apply jk;(iterate 11 exact rfl))|apply qs)
  exact qk rfl (qse rfl rfl rfl rfl rfl rfl) ⟨rfl,_,rfl⟩
def crcN (x:BitVec 32) (n:Nat):BitVec 32:=(x <<< 4) ^^^ rowT ((x >>> 28) ^^^ BitVec.ofNat 32 n).toNat
def crcP (x:BitVec 32) (c:UInt8):BitVec 32:=crcN (crcN x (c.toNat / 16)) (c.toNat % 16)
def addP (s:BitVec 32) (l:List UInt8):BitVec 32:= ~~~ (l.foldl crcP (~~~ s))
def qvr (y:BitVec 32) (c:UInt8):Nat→BitVec 32
 | 0=>y
 | 1=>crcN y (c.toNat / 16)
 | _=>crcP y c
theorem q53 (x:BitVec 32) {n:Nat} (h:n<16):((x >>> 28) ^^^ BitVec.ofNat 32 n).toNat<16:=by
 rw [BitVec.toNat_xor]
 refine Nat.xor_lt_two_pow (n:=4) ?_ ?_
 ·rw [BitVec.toNat_ushiftRight,Nat.shiftRight_eq_div_pow]
  have:=x.isLt
  omega
 ·rw [BitVec.toNat_ofNat]
  omega
theorem qy8 {n:Nat} (h:n<16):jq 1 false (0+n * 1) (tabA 16)=some (Wv (rowT n)):=by
 rw [Nat.zero_add,Nat.mul_one]
 exact q93 h
theorem zdv (x:BitVec 32) (l:List UInt8) (st:List AObj) (hl:l.length<4294967281):qn E 243 [Wv x,Sv l] st fun r st'=>r=Wv (addP x l)∧st'=st:=by
 refine qu (qx _) (qo Tryz.func243 rfl (Nat.le_of_ble_eq_true rfl) ?_)
 repeat' (first|apply qm|apply qt|apply qd|apply qc|apply qi|apply qe|(apply zo;(iterate 3 exact rfl))|(apply kc;exact rfl;exact rfl)|(apply jk;(iterate 11 exact rfl))|(apply qht;exact rfl)|(apply qf;exact Tryz.call297;exact zdk _))
 refine jh (fun (k:Nat) s=>k≤l.length∧StA [(1,Sv l),(5,.bx (st.length+0) 0 0),(6,Wv ((l.take k).foldl crcP (~~~ x))),(14,Iv l.length),(15,Iv k)] (st++[.cells 0 358 (tabA 16)]) [] s) (fun k=>l.length - k) 0 ⟨by omega,qb4 ⟨rfl,rfl,rfl,rfl,rfl,trivial⟩ (by show st++[AObj.cells 0 _ _]=_;rfl)⟩ ?_
 rintro k _ ⟨hk,t,rfl⟩
 generalize hx:(l.take k).foldl crcP (~~~ x)=y
 have hc:=UInt8.toNat_lt (l.getD k 0)
 repeat' (first|apply qm|apply qt|apply qd|apply qc|apply qi|apply qe|(apply qq;(iterate 3 exact rfl))|(apply qb;exact rfl;apply cd_d <;> intro h)|(apply qht;exact rfl)|(apply qau;exact rfl;kernel_rfl)|apply qbv|(apply q4o;(iterate 3 exact rfl);exact cAs)|(apply q0w;exact rfl;exact rfl)|(apply qwf;exact rfl;exact rfl)|(apply qwg;(iterate 3 exact rfl);omega)|(apply qtf;(iterate 3 exact rfl))|apply qao|apply qw|apply z7|apply qs)
 ·generalize hcc:l.getD k 0=c at *
  refine jh (fun (j:Nat) s=>j≤2∧StA [(1,Sv l),(5,.bx (st.length+0) 0 0),(6,Wv (qvr y c j)),(14,Iv l.length),(15,Iv k),(28,.ag [Wv (BitVec.ofNat 32 (c.toNat / 16)),Wv (BitVec.ofNat 32 (c.toNat % 16))]),(29,Iv j)] (st++[.cells 0 358 (tabA 16)]) [] s) (fun j=>2 - j) 0 ⟨by omega,qb4 ⟨rfl,rfl,rfl,rfl,rfl,rfl,rfl,trivial⟩ rfl⟩ ?_
  rintro j _ ⟨hj,t2,rfl⟩
  have hj3:j=0∨j=1∨j=2:=by omega
  have hn1:=q53 (qvr y c j) (n:=c.toNat / 16) (by omega)
  have hn2:=q53 (qvr y c j) (n:=c.toNat % 16) (by omega)
  generalize hz:qvr y c j=z at hn1 hn2 ⊢
  rcases hj3 with rfl|rfl|rfl
  ·skip
   repeat' (first|apply qm|apply qt|apply qd|apply qc|apply qi|apply qe|(apply qq;(iterate 3 exact rfl))|(apply qb;exact rfl;apply ki;exact cAo)|(apply zt;exact rfl;exact rfl;exact zb (by omega) (by omega))|(apply qdg;exact rfl;exact rfl;(first|exact jw _|exact rfl);first|exact jw _|exact rfl)|(apply qe7;(iterate 3 exact rfl))|(apply qg5;(iterate 3 exact rfl))|(apply qjd;(iterate 4 exact rfl);(first|assumption|omega|decide);exact rfl)|(apply qcu;(iterate 4 exact rfl);first|assumption|omega|decide)|apply qw|(apply za;(iterate 4 exact rfl);exact qy8 hn1))
   subst hz
   exact⟨1,⟨by omega,qb4 ⟨rfl,rfl,rfl,rfl,rfl,rfl,rfl,trivial⟩ rfl⟩,by omega⟩
  ·skip
   repeat' (first|apply qm|apply qt|apply qd|apply qc|apply qi|apply qe|(apply qq;(iterate 3 exact rfl))|(apply qb;exact rfl;apply ki;exact cAo)|(apply zt;exact rfl;exact rfl;exact zb (by omega) (by omega))|(apply qdg;exact rfl;exact rfl;(first|exact jw _|exact rfl);first|exact jw _|exact rfl)|(apply qe7;(iterate 3 exact rfl))|(apply qg5;(iterate 3 exact rfl))|(apply qjd;(iterate 4 exact rfl);(first|assumption|omega|decide);exact rfl)|(apply qcu;(iterate 4 exact rfl);first|assumption|omega|decide)|apply qw|(apply za;(iterate 4 exact rfl);exact qy8 hn2))
   subst hz
   exact⟨2,⟨by omega,qb4 ⟨rfl,rfl,rfl,rfl,rfl,rfl,rfl,trivial⟩ rfl⟩,by omega⟩
  ·skip
   repeat' (first|apply qm|apply qd|apply qc|apply qi|(apply qq;(iterate 3 exact rfl))|(apply qb;exact rfl;apply vw;exact cAo)|(apply zt;exact rfl;exact rfl;exact zb (by omega) (by omega))|apply z7)
   subst hz
   refine⟨k+1,⟨by omega,qb4 ⟨rfl,rfl,?_,rfl,rfl,trivial⟩ rfl⟩,by omega⟩
   refine congrArg Wv (?_:crcP y c=_)
   rw [qam (by omega),List.foldl_append,hx,hcc]
   rfl
 ·have e:k=l.length:=by omega
  subst e
  refine qk rfl (qz rfl) ⟨congrArg Wv (?_:_=_),_,rfl⟩
  unfold addP
  rw [← hx,List.take_length]
theorem q7a (l:List UInt8) (st:List AObj) (hl:l.length<4294967281):qn E 175 [.sl 1 [Sv l] none] st fun r st'=>r=Wv (addP 0 l)∧st'=st:=by
 refine qu (qx _) (qo Tryz.func175 rfl (Nat.le_of_ble_eq_true rfl) ?_)
 repeat' (first|apply qm|apply qt|apply qd|apply qc|apply qi|apply qe|(apply kl;(iterate 4 exact rfl)))
 refine jh (fun (k:Nat) s=>k≤1∧StA [(3,Wv (if k=0 then 0 else addP 0 l)),(6,.sl 1 [Sv l] none),(7,Iv 1),(8,Iv k)] (st++[]) [] s) (fun k=>1 - k) 0 ⟨by omega,qb4 ⟨rfl,rfl,rfl,rfl,trivial⟩ rfl⟩ ?_
 rintro k _ ⟨hk,t,rfl⟩
 have hk2:k=0∨k=1:=by omega
 rcases hk2 with rfl|rfl
 ·skip
  repeat' (first|apply qm|apply qt|apply qd|apply qc|apply qi|apply qe|(apply qq;(iterate 3 exact rfl))|(apply qb;exact rfl;apply ki;exact cAo)|(apply zt;exact rfl;exact rfl;exact zb (by omega) (by omega))|(apply zg;(iterate 3 exact rfl))|apply qw|(apply kr;(iterate 4 exact rfl);exact (rfl:(0:Int)=((0:Nat):Int));exact rfl)|(apply qf;exact Tryz.call243;exact zdv 0 _ _ hl))
  exact⟨1,⟨by omega,qb4 ⟨rfl,rfl,rfl,rfl,trivial⟩ rfl⟩,by omega⟩
 ·skip
  repeat' (first|apply qm|apply qd|apply qc|apply qi|apply qe|(apply qq;(iterate 3 exact rfl))|(apply qb;exact rfl;apply vw;exact cAo)|apply z7|apply qs)
  exact qk rfl (qz rfl) ⟨rfl,_,rfl⟩
def figP (s:BitVec 32) (j:Nat):UInt8:=[48,49,50,51,52,53,54,55,56,57,97,98,99,100,101,102].getD ((s >>> (4 * (7 - j))) &&& BitVec.ofInt 32 15).toNat 0
def wo (s:BitVec 32) (n:Nat):List UInt8:=(List.range n).map (figP s)
theorem qt0 (x:BitVec 32) (st:List AObj):qn E 174 [Wv x] st fun r st'=>r=Sv (wo x 8)∧st'=st:=by
 refine qu (qx _) (qo Tryz.func174 rfl (Nat.le_of_ble_eq_true rfl) ?_)
 repeat' (first|apply qm|apply qt|apply qd|apply qc|apply qe|(apply kc;exact rfl;exact rfl))
 refine qn9 (o:=st.length+0) (j:=1) (sz:=1) (T':=5) (zl rfl) rfl ?_
 refine jh (fun (j:Nat) s=>j≤8∧∃ q,(q = .v (.pointer none)∨q = .bx (st.length+0) 0 0)∧StA [(0,Wv x),(3,.bx (st.length+0) 0 0),(4,Iv (7 - (j:Int)))] (st++[bldO 0 q (wo x j) (st.length+1),.tip (wo x j).length 1 5]) [] s) (fun j=>8 - j) 0
  ⟨by omega,_,.inl rfl,qb4 ⟨rfl,rfl,rfl,trivial⟩ ?_⟩ ?_
 ·show (st++[_]).set (st.length+0) (.cells 0 246 [_,.sl 1 [] (some (st++[_]).length)])++[_]=_
  rw [xx,List.append_assoc]
  simp [wo]
 rintro j _ ⟨hj,q,hq,t,rfl⟩
 have hf:(wo x j).length=j:=by simp [wo]
 repeat' (first|apply qm|apply qt|apply qd|apply qc|apply qi|apply qe|(apply qq;(iterate 3 exact rfl))|(apply qb;exact rfl;apply cd_d <;> intro h)|(apply w8;exact rfl;exact rfl;exact zb (by omega) (by omega))|(apply qkl;exact rfl;exact rfl;(first|exact jw _|exact rfl);first|exact jw _|exact rfl)|apply qw|apply z7|apply qs|(apply qfr;exact rfl;exact rfl;exact zb (by omega) (by omega))|(apply qzj (n:=4 * (7 - j));exact rfl;exact rfl;omega;omega)|(apply vu;(iterate 3 exact rfl);exact and15_lt _)|(refine qf Tryz.call242 (q4x st _ _ 0 1 0 _ _ _ rfl rfl ?_ ?_ rfl) ?_;exact hq;omega)|(refine qf Tryz.call171 (qoa st _ _ 0 1 0 _ _ rfl rfl rfl) ?_))
 ·have e1:wo x j++[figP x j]=wo x (j+1):=by simp [wo,List.range_succ]
  refine⟨j+1,⟨by omega,_,.inr rfl,qb4 ⟨rfl,rfl,congrArg Iv (by omega:(7 - (j:Int)) - 1=7 - ((j+1:Nat):Int)),trivial⟩ ?_⟩,by omega⟩
  show st++[bldO 0 _ (wo x j++[figP x j]) (st.length+1),.tip (wo x j++[figP x j]).length 1 5]=_
  rw [e1]
 ·have e:j=8:=by omega
  subst e
  exact qk rfl (qz rfl) ⟨rfl,_,rfl⟩
def sumF (l:List UInt8):List UInt8:=wo (addP 0 l) 8
theorem qgg (l:List UInt8):(sumF l).length=8:=by simp [sumF,wo]
theorem is_c (f l:List UInt8) (st:List AObj) (hl:l.length<4294967281):qn E 262 [Sv f,.sl 1 [Sv l] none] st fun r st'=>r=Bv (decide (f=sumF l))∧st'=st:=by
 refine qu (qx _) (qo Tryz.func262 rfl (Nat.le_of_ble_eq_true rfl) ?_)
 repeat' (first|apply qm|apply qd|apply qc|apply qi|apply qe|(apply jg;(iterate 3 exact rfl))|apply qs|(apply qf;exact Tryz.call175;exact q7a l _ hl)|(apply qf;exact Tryz.call174;exact qt0 _ _))
 exact qk rfl (qz rfl) ⟨rfl,_,rfl⟩
def wg (rest body sums:List UInt8) (size:Int):Int×List UInt8×Int:=
 if rest.length<(yc body.length).length∧rest <+: yc body.length then (2,[],0)
 else if yc body.length <+: rest∧sums=sumF body then (1,body,size) else (3,[],0)
theorem q8c (rest body sums:List UInt8) (size:Int) (st:List AObj) (hb:body.length<4294967281):qn E 204 [Sv rest,Sv body,Sv sums,Iv size] st fun r st'=>r = .tu [Iv (wg rest body sums size).1,Sv (wg rest body sums size).2.1,Iv (wg rest body sums size).2.2]∧st'=st:=by
 refine qu (qbg _ _ _) (qo Tryz.func204 rfl (Nat.le_of_ble_eq_true rfl) ?_)
 repeat' (first|apply qm|apply qt|apply qd|apply qc|apply qi|apply qe|(apply qq;(iterate 3 exact rfl))|(apply qv;(iterate 4 exact rfl))|(apply xq;exact cAo)|(apply xc;exact cAo)|(apply yj;exact cRa)|(apply ww;exact cRa)|(apply je <;> intro h)|(apply qfy <;> intro h)|(apply qh;exact rfl;apply wp;exact cAo)|(apply qh;exact rfl;apply v8;exact cAo)|(apply qh;exact rfl;apply pk_t;exact cRa)|(apply qh;exact rfl;apply pk_f;exact cRa)|(apply qb;exact rfl;apply cd_f;exact cRa)|(apply qb;exact rfl;apply cd_d <;> intro h)|(apply qb;exact rfl;apply cd_s <;> intro h)|(apply zo;(iterate 3 exact rfl))|(apply zx;(iterate 9 exact rfl))|apply qw|apply qs|(apply qf;exact Tryz.call176;exact qy9 body.length _ (by omega))|(apply qf;exact Tryz.call164;exact qd2 _ _ _)|(apply qf;exact Tryz.call262;exact is_c sums body _ hb))
 all_goals refine qk rfl (xk rfl) ⟨qr4 (?_:_=_),_,rfl⟩
 all_goals show _=wg rest body sums size
 all_goals
  have c1:(↑rest.length:Int) < ↑(yc body.length).length↔rest.length<(yc body.length).length:=by omega
  simp only [c1,qgv,decide_eq_true_eq,decide_eq_false_iff_not] at *
  simp_all [wg] <;> (intros;omega)
theorem q74 (l:List UInt8) (st:List AObj) (hl:l.length<4294967281):qn E 118 [Sv l] st fun r st'=>r=Bv (decide (l.head? = some 37∧qy l=5))∧st'=st:=by
 refine qu (qx _) (qo Tryz.func118 rfl (Nat.le_of_ble_eq_true rfl) ?_)
 repeat' (first|apply qm|apply qd|apply qc|apply qi|apply qe|(apply qq;(iterate 3 exact rfl))|(apply qv;(iterate 4 exact rfl))|(apply xq;exact cAo)|(apply xc;exact cAo)|(apply je <;> intro h)|(apply qh;exact rfl;apply wp;exact cAo)|(apply qh;exact rfl;apply v8;exact cAo)|apply qs|(apply qf;exact Tryz.call164;exact qfd _ _ _)|(apply qf;exact Tryz.call122;exact qj4 _ _ hl))
 all_goals refine qk rfl (qz rfl) ⟨congrArg Bv (?_:_=_),_,rfl⟩
 all_goals simp_all
def zd (l:List UInt8):Int×List UInt8×Int:=
 if 10∈l then
  if (z6 (upto 10 l)).2.2=true then
   if (past 10 l).length<(z6 (upto 10 l)).1 then (xh (past 10 l) ((z6 (upto 10 l)).1 - (past 10 l).length),[],0)
   else if xm ((past 10 l).take (z6 (upto 10 l)).1) then wg ((past 10 l).drop (z6 (upto 10 l)).1) ((past 10 l).take (z6 (upto 10 l)).1) (z6 (upto 10 l)).2.1 (qcq (z6 (upto 10 l)).1)
   else (3,[],0)
  else (3,[],0)
 else if w9 l=true then (2,[],0) else (3,[],0)
theorem zdg (l:List UInt8) (st:List AObj) (hl:l.length<4294967281):qn E 119 [Sv l] st fun r st'=>r = .tu [Iv (zd l).1,Sv (zd l).2.1,Iv (zd l).2.2]∧st'=st:=by
 refine qu (qbg _ _ _) (qo Tryz.func119 rfl (Nat.le_of_ble_eq_true rfl) ?_)
 have hb2:=kv 10 l
 have hb3:=kq 10 l
 have hn:(z6 (upto 10 l)).1≤50000:=yr _
 repeat' (first|apply qm|apply qt|apply qd|apply qc|apply qi|apply qe|(apply q9;exact rfl;exact rfl)|(apply qq;(iterate 3 exact rfl))|(apply jd;exact rfl)|(apply qb;exact rfl;apply cd_n <;> intro h)|(apply qb;exact rfl;apply cd_d <;> intro h)|(apply qb;exact rfl;apply cd_s <;> intro h)|(apply zo;(iterate 3 exact rfl))|(apply w8;exact rfl;exact rfl;exact zb (by omega) (by omega))|(apply qa5;(iterate 3 exact rfl);exact cAs)|(apply qau;exact rfl;kernel_rfl)|apply qbv|apply qao|apply qij|(apply qsd;(iterate 3 exact rfl);exact cAs)|(apply qsc;(iterate 3 exact rfl);exact cAs)|(apply qqc;exact rfl;exact rfl)|apply qw|apply qs|(apply qf;exact Tryz.call72;exact qhw l 10 _ hl)|(apply qf;exact Tryz.call201;exact q6a _ _ hl)|(apply qf;exact Tryz.call202;exact q88 (upto 10 l) _ (by omega))|(apply qf;exact Tryz.call203;exact q9e _ _ _ (by omega))|(apply qf;exact Tryz.call172;exact q5q ((past 10 l).take (z6 (upto 10 l)).1) _ (by simp;omega))|(refine q0t (vals:=[.int .i64 (z6 (upto 10 l)).1]) E_ok Tryz.call205 rfl (qfl _) (fun _=>.v _) (q8z _ _) ?_)|(refine q0t (vals:=[.string ⟨((past 10 l).drop (z6 (upto 10 l)).1).toArray⟩,.string ⟨((past 10 l).take (z6 (upto 10 l)).1).toArray⟩,.string ⟨(z6 (upto 10 l)).2.1.toArray⟩,.int .i64 (qcq (z6 (upto 10 l)).1)]) E_ok Tryz.call204 rfl q92 (fun _=>qsw (.v _) (.v _) (.v _)) (q8c _ _ _ _ _ (by simp;omega)) ?_))
 all_goals refine qk rfl (xk rfl) ⟨qr4 (?_:_=zd l),_,rfl⟩
 all_goals
  have c1:(↑(past 10 l).length:Int) < ↑(z6 (upto 10 l)).1↔(past 10 l).length<(z6 (upto 10 l)).1:=by omega
  simp only [c1,decide_eq_true_eq,decide_eq_false_iff_not] at *
  clear c1 hb2 hb3 hn hl
 ·unfold zd;rw [if_neg (by assumption),if_pos (by assumption)]
 ·unfold zd;rw [if_neg (by assumption),if_neg (by simp_all)]
 ·unfold zd;rw [if_pos (by assumption),if_neg (by simp_all)]
 ·unfold zd;rw [if_pos (by assumption),if_pos (by assumption),if_pos (by assumption)]
 ·unfold zd;rw [if_pos (by assumption),if_pos (by assumption),if_neg (by assumption),if_neg (by assumption)]
 ·unfold zd;rw [if_pos (by assumption),if_pos (by assumption),if_neg (by assumption),if_pos (by assumption)]
def recF (l:List UInt8):List UInt8:=qhd l.length (sumF l)++l++yc l.length
def q07:AV:=.ifc 62 (.v (.int .i64 2))
def qex (l:List UInt8):AV:=if xm l then .tu [Sv (recF l),.v .nilIface] else .tu [Sv [],q07]
theorem qyh (l:List UInt8):Pure (qex l):=by
 unfold qex
 split
 ·exact qi8 _ _
 ·exact qdq (by simp;exact⟨qx _,qch (qx _)⟩)
theorem q9p (l:List UInt8) (st:List AObj) (hl:l.length<4294967281):qn E 104 [Sv l] st fun r st'=>r=qex l∧st'=st:=by
 refine qu (qyh l) (qo Tryz.func104 rfl (Nat.le_of_ble_eq_true rfl) ?_)
 have h1:=qcf l.length (by omega)
 have h2:=qbx l.length (sumF l)
 have h3:=yy l.length
 have h4:=qgg l
 repeat' (first|apply qm|apply qd|apply qc|apply qi|apply qe|(apply jd;exact rfl)|(apply qb;exact rfl;apply cd_n <;> intro h)|(apply zo;(iterate 3 exact rfl))|(apply jl;exact rfl;exact rfl;exact cOs)|(apply vf;exact rfl;exact rfl)|(apply zx;(iterate 9 exact rfl))|apply qw|apply qs|(apply qf;exact Tryz.call172;exact q5q _ _ hl)|(apply qf;exact Tryz.call175;exact q7a l _ hl)|(apply qf;exact Tryz.call174;exact qt0 _ _)|(apply qf;exact Tryz.call173;exact q5u l.length (sumF l) _ (by omega) (by omega))|(apply qf;exact Tryz.call176;exact qy9 l.length _ (by omega)))
 ·have e:AV.tu [Sv [],q07]=qex l:=by unfold qex;rw [if_neg (of_decide_eq_false (by assumption))]
  exact qk rfl (j5 rfl) ⟨e,_,rfl⟩
 ·have e:AV.tu [Sv (recF l),.v .nilIface]=qex l:=by unfold qex;rw [if_pos (of_decide_eq_true (by assumption))]
  exact qk rfl (j5 rfl) ⟨e,_,rfl⟩
end Go.Proofs.YtneejjefekdgjaaGreatDoor
