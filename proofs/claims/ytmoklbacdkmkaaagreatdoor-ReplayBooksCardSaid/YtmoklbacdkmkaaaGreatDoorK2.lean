/- Contracts and plain facts that the closing text leans on (part 2). No condition of their own beyond those that each states. -/
import Derived.Test.YtmoklbacdkmkaaaGreatDoorK1
import Derived.Lib.Builder
import Derived.Laws.Pointers
import Derived.Laws.Externs
import Derived.Laws.Tables
import Derived.Test.YtmoklbacdkmkaaaGreatDoorK0
import Derived.Test.YtmoklbacdkmkaaaGreatDoorRows
import Derived.LaidHandle
import Derived.ProofKit
import Derived.OpenShut
import Derived.ShutString
import Derived.Deep.DeepHandedRow
import Derived.Deep.DeepWitnessRowRef
import Derived.Lib.LaidU8
import Derived.Lib.SmallJoins
import Derived.ChangeSame
import Derived.ChangeAgain
import Derived.Lay
import Derived.Lib.Index
import Derived.Lib.SlTrimSet
import Derived.Shelf.Strings.Prefix
import Derived.Shelf.Strings.Cut
import Derived.Lib.ItoaNum
import Derived.Lib.AtoiAll
import Derived.Lib.Repeat
set_option maxRecDepth 100000
set_option linter.unusedVariables false
set_option linter.unusedSimpArgs false
namespace Go.Av
open Go Go.RowKit
section
variable {E : Env} {rd : Option Nat} {N : Nat} {ops : Array Oper} {K : AS → Prop} {s : AS} {rest : List Oper} {d : Option Tmp} {T : TypeId} {p : String} {af : Array Edge}
def q92:AV→Bool
 | .bx _ _ _=>true
 | .pp _=>true
 | _=>false
theorem v6 {x:Operand} {r:AV} (hx:qj N s x=r) (hr:q92 r=true) (h:AOps E rd N ops rest K (s.put d r)):AOps E rd N ops (⟨d,.nilCheck x,T,p,af,none⟩::rest) K s:=by
 refine q6 rfl (qz nofun fun B0 w0 G a w _ hI=>?_)
 have he:=hI.eval_of hx
 have key:∃ q,a.eval x = .pointer (some q):=by
  generalize a.eval x=u at he
  cases he <;> simp [q92] at hr
  ·exact⟨_,rfl⟩
  ·exact⟨_,rfl⟩
 obtain⟨q,hv⟩:=key
 refine⟨_,w,G,r,s.st,?_,.refl G,hI.agree,hv▸he,h⟩
 generalize a.eval = ρ at hv
 simp [execOp,hv]
end
section
variable {B0 : Nat} {w0 : World} {G : Gh} {st : List AObj} {w : World}
theorem zf.refroze (h:zf B0 w0 G st w) {w':World} {g:Nat} {c:Array Value} {T:TypeId} {fz fz':Nat×Nat} (hg:w.heap[g]? = some (.cells c T fz)) (hg':w'.heap[g]? = some (.cells c T fz')) (ho:∀ k,k≠g→w'.heap[k]? = w.heap[k]?) (hB:B0≤g)
  (hsz:w'.heap.size=w.heap.size) (hos:w'.os=w.os) (htape:w'.tape=w.tape) (hout:w'.output=w.output) (hs:∀ o x,st[o]? = some x→x.live→(G.ob o).blk≠g):zf B0 w0 G st w':=by
 refine⟨h.below.trans ⟨hos,htape,hout,by omega,fun k hk=>ho k (by omega)⟩,by rw [hsz];exact h.hB,h.n,fun b vs hb=>?_,fun o x hx=>(h.ob o x hx).mono (.refl G) rfl (fun _=>rfl) (fun hl=>ho _ (hs o x hx hl)),h.sep⟩
 by_cases e:b=g
 ·subst e
  obtain⟨c2,T2,fz2,e1,e2⟩:=h.pub b vs hb
  rw [hg] at e1
  simp only [Option.some.injEq,Obj.cells.injEq] at e1
  exact⟨c,T,fz',hg',by rw [e1.1];exact e2⟩
 ·rw [ho b e]
  exact h.pub b vs hb
theorem zf.tipCell (h:zf B0 w0 G st w) {o ver j sz:Nat} {T T':TypeId} {cs:List AV} (ho:st[o]? = some (.cells ver T cs)) (hj:cs[j]? = some zh) :
  zf B0 w0 (G.new 0 0 0 false) (st.set o (.cells ver T (cs.set j (.sl sz [] (some st.length))))++[AObj.tip 0 sz T']) w:=by
 have h1:=h.newTip sz T'
 have hle:=G.le_new 0 0 0 false
 have hlt:=lt_of_getElem? ho
 have e:st.set o (.cells ver T (cs.set j (.sl sz [] (some st.length))))++[AObj.tip 0 sz T']=(st++[AObj.tip 0 sz T']).set o (.cells ver T (cs.set j (.sl sz [] (some st.length)))):=by
  rw [List.set_append_left _ _ hlt]
 rw [e]
 have ho':(st++[AObj.tip 0 sz T'])[o]? = some (.cells ver T cs):=by rw [List.getElem?_append_left hlt];exact ho
 generalize hG:G.new 0 0 0 false=G' at h1 hle
 have hn:st.length<G'.n:=by rw [h1.n];simp
 refine⟨h1.below,h1.hB,by simp [h1.n],h1.pub,fun k x hx=>?_,fun k k' x x' hne hx hx' hl hl'=>?_⟩
 ·rcases getElem?_set' _ _ _ _ _ hx with⟨rfl,rfl⟩ | ⟨hne,hx⟩
  ·obtain⟨g0,g1,g2,g3,c,g4,g5,g6⟩:=h1.ob k _ ho'
   refine⟨g0,g1,g2,g3,c,g4,by simpa using g5,fun i x y hx hy=>?_⟩
   rcases getElem?_set' _ _ _ _ _ hx with⟨rfl,rfl⟩ | ⟨_,hx⟩
   ·have:=g6 i _ y hj hy
    cases this
    exact .sl0 sz (some st.length) none 0 fun t ht=>by simp at ht;subst ht;exact⟨hn,rfl,rfl⟩
   ·exact g6 i x y hx hy
  ·exact h1.ob k x hx
 ·have key:∀ (k:Nat) (x:AObj),((st++[AObj.tip 0 sz T']).set o (.cells ver T (cs.set j (.sl sz [] (some st.length)))))[k]? = some x→∃ x0:AObj,(st++[AObj.tip 0 sz T'])[k]? = some x0∧(x.live→x0.live):=fun k x hx=>by
   rcases getElem?_set' _ _ _ _ _ hx with⟨rfl,rfl⟩ | ⟨_,hx⟩
   ·exact⟨_,ho',fun _=>trivial⟩
   ·exact⟨x,hx,id⟩
  obtain⟨x0,e1,e2⟩:=key k x hx
  obtain⟨x1,e3,e4⟩:=key k' x' hx'
  exact h1.sep k k' x0 x1 hne e1 e3 (e2 hl) (e4 hl')
end
section
variable {E : Env} {rd : Option Nat} {N : Nat} {ops : Array Oper} {K : AS → Prop} {s : AS} {rest : List Oper} {d : Option Tmp} {T : TypeId} {p : String} {af : Array Edge}
def qbd:AV→Option Bool
 | .bx _ _ _=>some false
 | .pp _=>some false
 | .v (.pointer none)=>some true
 | _=>none
theorem qaa {x:Operand} {t t' te:TypeId} {r:AV} {b:Bool} (hx:qj N s x=r) (hr:qbd r=some b) (hu:E.P.underlying t=some (.pointer te)) (h:AOps E rd N ops rest K (s.put d (Bv b))):AOps E rd N ops (⟨d,.binOp .eql t x (.const (.pointer none)) t',T,p,af,none⟩::rest) K s:=by
 refine q6 rfl (qz nofun fun B0 w0 G a w _ hI=>?_)
 have he:=hI.eval_of hx
 have key:∃ q:Option Addr,a.eval x = .pointer q∧q.isNone=b:=by
  generalize a.eval x=u at he
  cases he <;> try (simp [qbd] at hr;done)
  case v=>
   cases u <;> try (simp [qbd] at hr;done)
   case pointer q=>
    cases q <;> simp [qbd] at hr
    subst hr
    exact⟨_,rfl,rfl⟩
  case pp=>simp [qbd] at hr;subst hr;exact⟨_,rfl,rfl⟩
  case bx=>simp [qbd] at hr;subst hr;exact⟨_,rfl,rfl⟩
 obtain⟨q,hv,rfl⟩:=key
 have hc:a.eval (.const (.pointer none)) = .pointer none:=rfl
 have hq:=run_eql_pointer_nil (P:=E.P) w t q (by simp [Program.pointee,hu])
 refine⟨_,w,G,_,s.st,?_,.refl G,hI.agree,.v _,h⟩
 generalize a.eval = ρ at hv hc
 simp [execOp,hv,hc,eqGuard_at_pointer,hq]
theorem qf6 {x:Operand} {t t' te:TypeId} {r:AV} {b:Bool} (hx:qj N s x=r) (hr:qbd r=some b) (hu:E.P.underlying t=some (.pointer te)) (h:AOps E rd N ops rest K (s.put d (Bv !b))):AOps E rd N ops (⟨d,.binOp .neq t x (.const (.pointer none)) t',T,p,af,none⟩::rest) K s:=by
 refine q6 rfl (qz nofun fun B0 w0 G a w _ hI=>?_)
 have he:=hI.eval_of hx
 have key:∃ q:Option Addr,a.eval x = .pointer q∧q.isNone=b:=by
  generalize a.eval x=u at he
  cases he <;> try (simp [qbd] at hr;done)
  case v=>
   cases u <;> try (simp [qbd] at hr;done)
   case pointer q=>
    cases q <;> simp [qbd] at hr
    subst hr
    exact⟨_,rfl,rfl⟩
  case pp=>simp [qbd] at hr;subst hr;exact⟨_,rfl,rfl⟩
  case bx=>simp [qbd] at hr;subst hr;exact⟨_,rfl,rfl⟩
 obtain⟨q,hv,rfl⟩:=key
 have hc:a.eval (.const (.pointer none)) = .pointer none:=rfl
 have hq:=run_neq_pointer_nil (P:=E.P) w t q (by simp [Program.pointee,hu])
 refine⟨_,w,G,_,s.st,?_,.refl G,hI.agree,.v _,h⟩
 generalize a.eval = ρ at hv hc
 simp [execOp,hv,hc,eqGuard_at_pointer,hq]
theorem Inv.ptr {B0:Nat} {w0:World} {G:Gh} {a:Act} {w:World} (hI:Inv B0 w0 N G s a w) {x:Operand} {o ver off:Nat} {T1:TypeId} {cs:List AV} (hx:qj N s x = .bx o ver off) (ho:s.st[o]? = some (.cells ver T1 cs)):a.eval x = .pointer (some ⟨(G.ob o).blk,off,none⟩):=by
 have he:=hI.eval_of hx
 obtain⟨_,h1,_⟩:=hI.agree.ob o _ ho
 generalize a.eval x=v at he
 cases he with
 |bx _ _ _ b hn hv hb=>rw [hb h1]
theorem qrt {x y:Operand} {t t' te:TypeId} {o ver off:Nat} {T1:TypeId} {cs:List AV} (hx:qj N s x = .bx o ver off) (hy:qj N s y = .bx o ver off) (ho:s.st[o]? = some (.cells ver T1 cs)) (hu:E.P.underlying t=some (.pointer te)) (hi:(E.P.info? te).isSome=true)
  (h:AOps E rd N ops rest K (s.put d (Bv false))):AOps E rd N ops (⟨d,.binOp .neq t x y t',T,p,af,none⟩::rest) K s:=by
 refine q6 rfl (qz nofun fun B0 w0 G a w _ hI=>?_)
 obtain⟨j,hj⟩:=Option.isSome_iff_exists.1 hi
 have h1:=hI.ptr hx ho
 have h2:=hI.ptr hy ho
 have hq:=Lib.run_neq_ptr_same (P:=E.P) w ⟨(G.ob o).blk,off,none⟩ hu hj
 refine⟨_,w,G,_,s.st,?_,.refl G,hI.agree,.v _,h⟩
 generalize a.eval = ρ at h1 h2
 simp [execOp,h1,h2,eqGuard_at_pointer,hq]
theorem que {x:Operand} {t t' te:TypeId} {o ver:Nat} {T1:TypeId} {cs:List AV} (hx:qj N s x = .bx o ver 0) (ho:s.st[o]? = some (.cells ver T1 cs)) (hne:0<cs.length) (hs:E.P.underlying t=some (.pointer te)) (hd:E.P.underlying t'=some .unsafePointer) (hi:(match E.P.info? te with|some j=>Nat.beq j.size 0|none=>true)=false)
  (h:AOps E rd N ops rest K (s.put d (.bx o ver 0))):AOps E rd N ops (⟨d,.convert t t' x,T,p,af,none⟩::rest) K s:=by
 refine q6 rfl (qz nofun fun B0 w0 G a w _ hI=>?_)
 obtain⟨_,h1,h2,h3,c,h4,h5,h6⟩:=hI.agree.ob o _ ho
 have he:=hI.eval_of hx
 have hv:=hI.ptr hx ho
 cases hj:E.P.info? te with
 |none=>rw [hj] at hi;simp at hi
 |some j=>
  rw [hj] at hi
  have hj0:j.size≠0:=fun e=>by simp [e] at hi
  have hq:=Lib.run_to_unsafe (P:=E.P) w ⟨(G.ob o).blk,0,none⟩ hs hd hj hj0 (e:=T1) (cells:=c.size) (by simp [World.shape?,h4]) (by simpa [← h5] using hne)
  refine⟨_,w,G,_,s.st,?_,.refl G,hI.agree,hv▸he,h⟩
  generalize a.eval = ρ at hv
  simp [execOp,hv,hq]
theorem qpk {x:Operand} {t t' te:TypeId} {o ver:Nat} {T1:TypeId} {cs:List AV} (hx:qj N s x = .bx o ver 0) (ho:s.st[o]? = some (.cells ver T1 cs)) (hs:E.P.underlying t=some .unsafePointer) (hd:E.P.underlying t'=some (.pointer te)) (hi:(E.P.info? te).isSome=true) (hl:liesAt E.P E.P.depth T1 (cs.length / E.P.cellsOf T1) 0 te 1=true)
  (h:AOps E rd N ops rest K (s.put d (.bx o ver 0))):AOps E rd N ops (⟨d,.convert t t' x,T,p,af,none⟩::rest) K s:=by
 refine q6 rfl (qz nofun fun B0 w0 G a w _ hI=>?_)
 obtain⟨_,h1,h2,h3,c,h4,h5,h6⟩:=hI.agree.ob o _ ho
 obtain⟨j,hj⟩:=Option.isSome_iff_exists.1 hi
 have he:=hI.eval_of hx
 have hv:=hI.ptr hx ho
 have hq:=Lib.run_from_unsafe (P:=E.P) w ⟨(G.ob o).blk,0,none⟩ hs hd hj (e:=T1) (cells:=c.size) (by simp [World.shape?,h4]) (by rw [← h5];exact hl)
 refine⟨_,w,G,_,s.st,?_,.refl G,hI.agree,hv▸he,h⟩
 generalize a.eval = ρ at hv
 simp [execOp,hv,hq]
theorem quc {f:FuncId} {x:Operand} {ts:Array TypeId} {r:AV} (hrun:∀ v w,(callFunc f #[v]).run E.P w = .ok (.value v) w) (hx:qj N s x=r)
  (h:AOps E rd N ops rest K (s.put d r)):AOps E rd N ops (⟨d,.call ⟨.value (.func f),#[x],ts⟩,T,p,af,none⟩::rest) K s:=by
 refine q6 rfl (qz nofun fun B0 w0 G a w _ hI=>?_)
 refine⟨a.eval x,w,G,_,s.st,?_,.refl G,hI.agree,hI.eval_of hx,h⟩
 have he:a.eval (.func f) = .func (.func f) #[] #[]:=rfl
 generalize a.eval = ρ at he
 simp [execOp,resolve,Deferred.ofValue,he,invoke,hrun]
theorem Inv.restate {B0:Nat} {w0:World} {G G':Gh} {a:Act} {w:World} {st':List AObj} (h:Inv B0 w0 N G s a w) (hG:G.le G') (hA:zf B0 w0 G' st' w):Inv B0 w0 N G' ⟨s.t,st',s.df⟩ a w:=
 ⟨hA,h.defers_mono hG,h.size,fun i y hy=>(h.tmps i y hy).mono hG⟩
theorem qvl {o ver j sz:Nat} {T1 T':TypeId} {cs:List AV} {l:List Oper} (ho:s.st[o]? = some (.cells ver T1 cs)) (hj:cs[j]? = some zh)
  (h:AOps E rd N ops l K ⟨s.t,s.st.set o (.cells ver T1 (cs.set j (.sl sz [] (some s.st.length))))++[AObj.tip 0 sz T'],s.df⟩):AOps E rd N ops l K s:=
 ⟨fun B0 w0 G a w hL hI Q hQ=>h.run B0 w0 _ a w hL (hI.restate (G.le_new 0 0 0 false) (hI.agree.tipCell ho hj)) Q fun G' s' a' w' hG=>hQ G' s' a' w' ((G.le_new 0 0 0 false).trans hG)⟩
theorem qni {o ver j sz:Nat} {T1 T':TypeId} {cs:List AV} {c:Code} {Q:Exit→AS→Prop} (ho:s.st[o]? = some (.cells ver T1 cs)) (hj:cs[j]? = some zh)
  (h:AWp E rd N c Q ⟨s.t,s.st.set o (.cells ver T1 (cs.set j (.sl sz [] (some s.st.length))))++[AObj.tip 0 sz T'],s.df⟩):AWp E rd N c Q s:=
 ⟨fun B0 w0 G a w hL hI=>wpIn_mono (h.run B0 w0 _ a w hL (hI.restate (G.le_new 0 0 0 false) (hI.agree.tipCell ho hj))) fun _ _ _ ⟨G',s',hG,h1,h2⟩=>⟨G',s',(G.le_new 0 0 0 false).trans hG,h1,h2⟩⟩
theorem Inv.newTip {B0:Nat} {w0:World} {G:Gh} {a:Act} {w:World} (h:Inv B0 w0 N G s a w) {i sz:Nat} {T':TypeId} (hi:s.t i=zh):Inv B0 w0 N (G.new 0 0 0 false) ⟨Av.put s.t i (.sl sz [] (some s.st.length)),s.st++[AObj.tip 0 sz T'],s.df⟩ a w:=by
 have hA:=h.agree.newTip sz T'
 have h2:=h.restate (G.le_new 0 0 0 false) hA
 refine⟨h2.agree,h2.defers,h2.size,fun k y hy=>?_⟩
 by_cases e:k=i
 ·subst e
  show Rel _ (Av.put s.t k _ k) y
  rw [wi]
  have:=h2.tmps k y hy
  simp only [hi] at this
  cases this
  exact .sl0 sz _ none 0 fun t ht=>by simp at ht;subst ht;exact⟨by rw [hA.n];simp,rfl,rfl⟩
 ·show Rel _ (Av.put s.t i _ k) y
  rw [yh _ _ _ _ e]
  exact h2.tmps k y hy
theorem q1h {i sz:Nat} {T':TypeId} {c:Code} {Q:Exit→AS→Prop} (hi:s.t i=zh)
  (h:AWp E rd N c Q ⟨Av.put s.t i (.sl sz [] (some s.st.length)),s.st++[AObj.tip 0 sz T'],s.df⟩):AWp E rd N c Q s:=
 ⟨fun B0 w0 G a w hL hI=>wpIn_mono (h.run B0 w0 _ a w hL (hI.newTip hi)) fun _ _ _ ⟨G',s',hG,h1,h2⟩=>⟨G',s',(G.le_new 0 0 0 false).trans hG,h1,h2⟩⟩
end
end Go.Av
namespace Go.Av
open Go Go.RowKit
theorem qwh:∀ (vs:List Value) (off n:Nat) (c:Array Value),off+n+vs.length≤c.size →
  ((vs.zipIdx n).foldl (fun (cs:Array Value) (x:Value×Nat)=>cs.setIfInBounds (off+x.2) x.1) c).size=c.size ∧
  ∀ k,((vs.zipIdx n).foldl (fun (cs:Array Value) (x:Value×Nat)=>cs.setIfInBounds (off+x.2) x.1) c)[k]? = if off+n≤k∧k<off+n+vs.length then vs[k - (off+n)]? else c[k]?
 | [],off,n,c,_=>⟨by simp,fun k=>by simp;intro h1 h2;omega⟩
 |v::vs,off,n,c,h=>by
  simp only [List.zipIdx_cons,List.foldl_cons,List.length_cons] at h ⊢
  obtain⟨h1,h2⟩:=qwh vs off (n+1) (c.setIfInBounds (off+n) v) (by simp;omega)
  refine⟨by rw [h1];simp,fun k=>?_⟩
  rw [h2 k]
  by_cases hk:k=off+n
  ·subst hk
   rw [if_neg (by omega),if_pos (by omega),Array.getElem?_setIfInBounds_self,if_pos (by omega)]
   simp
  ·by_cases hr:off+n≤k∧k<off+n+(vs.length+1)
   ·rw [if_pos (by omega),if_pos hr]
    rw [show k - (off+n)=(k - (off+(n+1)))+1 by omega]
    simp
   ·rw [if_neg (by omega),if_neg hr]
    rw [Array.getElem?_setIfInBounds,if_neg (by omega)]
def qbr (place:Nat→Option (Nat×Nat)) (cells:List AV):List (Nat×AV)→Option (List AV)
 | []=>some cells
 |(i,x)::rest=>
  match place i with
  |none=>none
  |some (off,size)=>bif x.okc && Nat.beq x.cells.length size && Nat.ble (off+size) cells.length then qbr place (zu cells off x.cells) rest else none
theorem qhi {G:Gh} (place:Nat→Option (Nat×Nat)):∀ (ps:List (Nat×AV)) (vs:List (Nat×Value)) (cs:List AV) (c:Array Value) (cs':List AV),ps.length=vs.length→(∀ (i:Nat) (p:Nat×AV) (v:Nat×Value),ps[i]? = some p→vs[i]? = some v→p.1=v.1∧Rel G p.2 v.2) →
  RelC G cs c→qbr place cs ps=some cs'→∃ c',Instr.fill place c vs=some c'∧RelC G cs' c'
 | [],[],cs,c,cs',_,_,hc,h=>by
  simp only [qbr,Option.some.injEq] at h
  subst h
  exact⟨c,rfl,hc⟩
 | [],v::vs,_,_,_,hl,_,_,_=>by simp at hl
 |p::ps,[],_,_,_,hl,_,_,_=>by simp at hl
 |(i,x)::ps,(j,v)::vs,cs,c,cs',hl,hr,hc,h=>by
  obtain⟨e,hx⟩:=hr 0 _ _ rfl rfl
  simp only at e hx
  subst e
  simp only [qbr] at h
  simp only [Instr.fill]
  cases hp:place i with
  |none=>simp [hp] at h
  |some q=>
   obtain⟨off,size⟩:=q
   simp only [hp] at h ⊢
   cases hb:(x.okc && Nat.beq x.cells.length size && Nat.ble (off+size) cs.length) with
   |false=>simp [hb] at h
   |true=>
    simp only [hb,cond_true] at h
    simp only [Bool.and_eq_true] at hb
    obtain⟨⟨hok,hsz⟩,hle⟩:=hb
    have hsz:=Nat.eq_of_beq_eq_true hsz
    have hle:=Nat.le_of_ble_eq_true hle
    have hcx:=hx.cells hok
    have hcs:v.cells.size=size:=by rw [← hcx.1];exact hsz
    have hfit:off+v.cells.size≤c.size:=by rw [hcs,← hc.1];exact hle
    rw [if_neg (by simp [hcs];rw [← hc.1];exact hle)]
    have hfold:v.cells.zipIdx.foldl (fun cs (x:Value×Nat)=>cs.setIfInBounds (off+x.2) x.1) c=(v.cells.toList.zipIdx 0).foldl (fun (cs:Array Value) (x:Value×Nat)=>cs.setIfInBounds (off+x.2) x.1) c:=by
     rw [← Array.foldl_toList,Array.toList_zipIdx]
    obtain⟨g1,g2⟩:=qwh v.cells.toList off 0 c (by simpa using hfit)
    have hnew:RelC G (zu cs off x.cells) ((v.cells.toList.zipIdx 0).foldl (fun (cs:Array Value) (x:Value×Nat)=>cs.setIfInBounds (off+x.2) x.1) c):=by
     refine⟨?_,fun k a y h1 h2=>?_⟩
     ·rw [g1,← hc.1]
      simp [zu]
      omega
     ·rw [g2] at h2
      have e1:(cs.take off).length=off:=by simp;omega
      simp only [zu,List.append_assoc] at h1
      by_cases hk:k<off
      ·rw [List.getElem?_append_left (by omega),List.getElem?_take,if_pos hk] at h1
       rw [if_neg (by omega)] at h2
       exact hc.2 k a y h1 h2
      ·rw [List.getElem?_append_right (by omega),e1] at h1
       by_cases hk2:k - off<x.cells.length
       ·rw [List.getElem?_append_left hk2] at h1
        rw [if_pos ⟨by omega,by simp;omega⟩] at h2
        exact hcx.2 (k - off) a y h1 (by simpa using h2)
       ·rw [List.getElem?_append_right (by omega),List.getElem?_drop] at h1
        rw [if_neg (by simp;omega)] at h2
        rw [show off+x.cells.length+(k - off - x.cells.length)=k by omega] at h1
        exact hc.2 k a y h1 h2
    have:=qhi place ps vs _ _ cs' (by simpa using hl) (fun i p v h1 h2=>hr (i+1) p v (by simpa using h1) (by simpa using h2)) hnew h
    rw [← hfold] at this
    exact this
section
variable {E : Env} {rd : Option Nat} {N : Nat} {ops : Array Oper} {K : AS → Prop} {s : AS} {rest : List Oper} {d : Option Tmp} {T : TypeId} {p : String} {af : Array Edge}
def vl (N:Nat) (s:AS) (parts:Array (Nat×Operand)):List (Nat×AV):=parts.toList.map fun x=>(x.1,qj N s x.2)
def qse (P:Program) (t:TypeId):Option (List (Nat×Nat)):=
 match P.underlying t with
 |some (.struct fs)=>fs.toList.mapM (fun f=>(P.info? f.type).map fun i=>(f.offset,i.size))
 | _=>none
theorem qiw {B0:Nat} {w0:World} {G:Gh} {a:Act} {w:World} (hI:Inv B0 w0 N G s a w) (parts:Array (Nat×Operand)):∀ (i:Nat) (p:Nat×AV) (v:Nat×Value),(vl N s parts)[i]? = some p→(parts.toList.map fun x=>(x.1,a.eval x.2))[i]? = some v→p.1=v.1∧Rel G p.2 v.2:=fun i p v h1 h2=>by
 simp only [vl,List.getElem?_map] at h1 h2
 cases hq:parts.toList[i]? with
 |none=>simp [hq] at h1
 |some z=>simp [hq] at h1 h2;subst h1;subst h2;exact⟨rfl,hI.eval _⟩
theorem vd {t:TypeId} {parts:Array (Nat×Operand)} {zs cs:List AV} {pl:List (Nat×Nat)} (hz:qg4 E.P t=some zs) (hp:qse E.P t=some pl) (hf:qbr (pl[·]?) zs (vl N s parts)=some cs)
  (h:AOps E rd N ops rest K (s.put d (.ag cs))):AOps E rd N ops (⟨d,.build t parts,T,p,af,none⟩::rest) K s:=by
 refine q6 rfl (qz nofun fun B0 w0 G a w _ hI=>?_)
 obtain⟨z,hrun,hr⟩:=qmq hz w
 obtain⟨c',h1,h2⟩:=qhi (pl[·]?) (vl N s parts) (parts.toList.map fun x=>(x.1,a.eval x.2)) zs z.cells cs (by simp [vl]) (qiw hI parts) (hr G) hf
 unfold qse at hp
 split at hp
 ·rename_i fs hu
  refine⟨.agg c',w,G,.ag cs,s.st,?_,.refl G,hI.agree,.ag _ _ h2.1 h2.2,h⟩
  generalize a.eval = ρ at h1
  simp [execOp,Instr.build,run_underlying hu,hrun,Array.mapM_eq_mapM_toList,run_places w _ _ hp,h1]
 ·simp at hp
def qew (P:Program) (e:TypeId) (n:Nat):Option (List AV):=
 match P.info? e with
 |some i=>bif Nat.beq (n * i.size) 0 then some [] else i.zero.map fun z=>(List.range (n * i.size)).map fun k=>.v (z.cells[k % z.cells.size]!)
 |none=>none
theorem qjf {B0:Nat} {w0:World} {G:Gh} {a:Act} {w:World} (hI:Inv B0 w0 N G s a w) {t e:TypeId} {len sz:Nat} {agg:Bool} {parts:Array (Nat×Operand)} {zs cs:List AV} (hu:E.P.underlying t=some (.slice e)) (ht:tyOf E.P e=some (sz,agg)) (hz:qew E.P e len=some zs)
    (hf:qbr (fun i=>some (i * sz,sz)) zs (vl N s parts)=some cs) (hsz:Nat.ble (len * sz) 16777216=true) :
    ∃ c':Array Value,(execOp a.eval ⟨d,.buildSlice t len parts,T,p,af,none⟩).run E.P w = .ok (.value (.slice (some ⟨w.heap.size,0,none⟩) len len)) (w.alloc (.cells c' e))∧RelC G cs c':=by
  have hsizeOf:=(kq ht w).1
  have hsz:=Nat.le_of_ble_eq_true hsz
  unfold qew at hz
  cases hi:E.P.info? e with
  |none=>rw [hi] at hz;simp at hz
  |some i=>
    rw [hi] at hz
    simp only at hz
    have hs:i.size=sz:=by simpa [sizeOf,typeInfo,hi] using hsizeOf
    rw [hs] at hz
    -- the array that the run starts from
    have key:∃ c0:Array Value,RelC G zs c0∧∀ (Q:Array Value→Sem Value),((do
        let zero ← if len * sz=0 then pure #[] else do pure (← zeroValue e).cells
        Q ((Array.range (len * sz)).map (zero[· % zero.size]!)):Sem Value)).run E.P w=(Q c0).run E.P w:=by
      by_cases h0:len * sz=0
      · rw [h0] at hz
        simp at hz
        subst hz
        exact ⟨#[], ⟨rfl, by simp⟩, fun Q => by have e : Array.range 0 = #[] := by simp [Array.range]
                                                simp [h0,e]⟩
      · have:Nat.beq (len * sz) 0=false:=jx h0
        rw [this] at hz
        simp only [cond_false] at hz
        cases hzr:i.zero with
        |none=>rw [hzr] at hz;simp at hz
        |some z=>
          rw [hzr] at hz
          simp only [Option.map_some,Option.some.injEq] at hz
          subst hz
          refine⟨(Array.range (len * sz)).map (z.cells[· % z.cells.size]!),⟨by simp,fun k x y h1 h2=>?_⟩,fun Q=>by simp [h0,zeroValue,typeInfo,hi,hzr]⟩
          have hk:k<len * sz:=by have:=lt_of_getElem? h1;simpa using this
          simp [hk] at h1 h2
          subst h1;subst h2
          exact .v _
    obtain⟨c0,hc0,hrun0⟩:=key
    obtain⟨c',h1,h2⟩:=qhi (fun i=>some (i * sz,sz)) (vl N s parts) (parts.toList.map fun x=>(x.1,a.eval x.2)) zs c0 cs (by simp [vl]) (qiw hI parts) hc0 hf
    refine⟨c',?_,h2⟩
    · generalize a.eval = ρ at h1
      have hb:¬ 16777216<len * sz:=by omega
      have hg:∃ m:String,(execOp ρ ⟨d,.buildSlice t len parts,T,p,af,none⟩).run E.P w=(((do
        let zero ← if len * sz=0 then pure #[] else do pure (← zeroValue e).cells
        (fun c=>(do
        let some cells:=Instr.fill (fun i=>some (i * sz,sz)) c (parts.map fun x=>(x.1,ρ x.2)).toList|stuck m
        pure (Value.slice (some (← newRow e cells)) len len):Sem Value)) ((Array.range (len * sz)).map (zero[· % zero.size]!)):Sem Value)).run E.P w).andThen fun v w'=>.ok (.value v) w':=by
        apply Exists.intro
        simp only [execOp,Instr.buildSlice]
        simp [run_underlying hu,hsizeOf,hb]
        rfl
      obtain⟨m,hg⟩:=hg
      have hQ:=hrun0 (fun c=>do
        let some cells:=Instr.fill (fun i=>some (i * sz,sz)) c (parts.map fun x=>(x.1,ρ x.2)).toList|stuck m
        pure (.slice (some (← newRow e cells)) len len))
      rw [hg,hQ]
      simp [h1,newRow,newObj,Sem.run]
theorem j7 {t e:TypeId} {len sz:Nat} {agg:Bool} {parts:Array (Nat×Operand)} {zs cs xs:List AV} (hu:E.P.underlying t=some (.slice e)) (ht:tyOf E.P e=some (sz,agg)) (hz:qew E.P e len=some zs)
  (hf:qbr (fun i=>some (i * sz,sz)) zs (vl N s parts)=some cs) (hxs:(vl N s parts).map Prod.snd=xs) (hlen:xs.length=len) (hfl:flat xs=cs) (hw:xs.all (fun x=>Nat.beq x.cells.length sz)=true) (hsz:Nat.ble (len * sz) 16777216=true)
  (h:AOps E rd N ops rest K (s.put d (.sl sz xs none))):AOps E rd N ops (⟨d,.buildSlice t len parts,T,p,af,none⟩::rest) K s:=by
 refine q6 rfl (qz nofun fun B0 w0 G a w _ hI=>?_)
 obtain⟨c',hrun,h2⟩:=qjf (d:=d) (T:=T) (p:=p) (af:=af) hI hu ht hz hf hsz
 obtain⟨hle,hA⟩:=hI.agree.newPub e c' (0,0) c'.toList (fun i y hy=>by simpa using hy)
 refine⟨.slice (some ⟨w.heap.size,0,none⟩) len len,w.alloc (.cells c' e),_,.sl sz xs none,s.st,hrun,hle,hA,?_,h⟩
 rw [← hlen]
 cases xs with
 |nil=>exact .sl0 sz none _ _ (by simp)
 |cons x0 xr=>
  refine .sl sz _ none w.heap.size 0 _ c'.toList (by simp [Gh.publish]) (fun x hx=>?_) (by rw [hfl,h2.1];simp) (fun k x y g1 g2=>?_) (fun t ht=>by simp at ht) (Nat.le_refl _)
  ·exact Nat.eq_of_beq_eq_true (List.all_eq_true.1 hw x hx)
  ·rw [hfl] at g1
   exact (h2.2 k x y g1 (by simpa using g2)).mono hle
end
end Go.Av
namespace Go.Av
open Go Go.RowKit
inductive qah (n:Nat):List AObj→List AObj→Prop
 |nil:qah n [] []
 |same {l l':List AObj} (x:AObj) (h:qah n l l'):qah n (x::l) (x::l')
 |cut {l l':List AObj} {x x':AObj} (hx:qgd n x') (h:qah n l l'):qah n (x::l) (x'::l')
 |loop {l l':List AObj} {ls ls':LoopState} {pend pend':Option Code} {N:Nat} {t:Nat→AV} {ps:Array Tmp} {asg body:Code} (h:qah n l l'):qah n (.loop ls pend N t ps asg body::l) (.loop ls' pend' N t ps asg body::l')
theorem qgq (n:Nat):∀ l,qah n l l
 | []=>.nil
 |x::l=>.same x (qgq n l)
theorem qir {n:Nat} {l l':List AObj} (h:qah n l l'):∀ st,qah n (st++l) (st++l')
 | []=>h
 |x::st=>.same x (qir h st)
theorem qah.length {n:Nat} {l l':List AObj} (h:qah n l l'):l'.length=l.length:=by
 induction h with
 |nil=>rfl
 | _=>simpa
theorem qah.get {n:Nat} {l l':List AObj} (h:qah n l l') (hc:∀ (o:Nat) (x:AObj),l[o]? = some x→qgd n x):∀ (o:Nat) (x:AObj),l'[o]? = some x→qgd n x:=by
 induction h with
 |nil=>exact hc
 |same y h ih=>
  intro o x hx
  cases o with
  |zero=>exact hc 0 x hx
  |succ o=>exact ih (fun o x h=>hc (o+1) x h) o x (by simpa using hx)
 |cut hx' h ih=>
  intro o x hx
  cases o with
  |zero=>simp at hx;subst hx;exact hx'
  |succ o=>exact ih (fun o x h=>hc (o+1) x h) o x (by simpa using hx)
 |loop h ih=>
  intro o x hx
  cases o with
  |zero=>simp at hx;subst hx;have h0:=hc 0 _ rfl;exact h0
  |succ o=>exact ih (fun o x h=>hc (o+1) x h) o x (by simpa using hx)
theorem qyn {E:Env} {o:Nat} {xs:List AV} {st:List AObj} {R:Bool→List AObj→Prop}
  (h:xx E o xs st fun b st2=>∃ st1 ext,st2=st1++ext∧qah st.length st st1∧R b st1):xx E o xs st R:=by
 refine⟨fun B0 w0 G vals w hL hA hR=>?_⟩
 obtain⟨f,tmps,asg,body,h1,h2⟩:=h.run B0 w0 G vals w hL hA hR
 refine⟨f,tmps,asg,body,h1,h2.mono ?_⟩
 rintro e w' ⟨b,G',st2,he,hG,hA',st1,ext,rfl,hk,hRR⟩
 have hle:=hG.cut
 rw [hA.n] at hle
 refine⟨b,G'.cut st.length,st1,he,hle,?_,hRR⟩
 have hd:=hk.get (fun o x hx=>hA.cutOb hx)
 have hl:=hk.length
 rw [← hl] at hd ⊢
 exact hA'.drop hd
theorem qnm {n ver:Nat} {T:TypeId} {cs:List AV} (h:∀ x∈cs,Cut n x):qgd n (.cells ver T cs):=h
theorem qs3 {n a b:Nat} {T:TypeId}:qgd n (.tip a b T):=trivial
theorem q4b {n o ver off:Nat} (h:o<n):Cut n (.bx o ver off):=qei (.bx o ver off h)
theorem qs4 {n tp:Nat} {l:List UInt8} (h:tp<n):Cut n (.sl 1 (l.map fun c=>.v (.int .u8 (c.toNat:Nat))) (some tp)):=by
 refine qei (.sl 1 _ _ (fun i x hx=>?_) (fun t ht=>by simp at ht;omega))
 have:=qgo l
 rw [this] at hx
 simp only [List.getElem?_map] at hx
 cases hq:l[i]? with
 |none=>simp [hq] at hx
 |some c=>simp [hq] at hx;subst hx;exact .v _
def qjv (F:LoopState→Option Code→AObj) (N:Nat) (t:Nat→AV) (ps:Array Tmp) (asg body:Code):Prop:=∀ ls pend,F ls pend=AObj.loop ls pend N t ps asg body
theorem q2a {n:Nat} {l l':List AObj} {F:LoopState→Option Code→AObj} {ls ls':LoopState} {pend pend':Option Code} {N:Nat} {t:Nat→AV} {ps:Array Tmp} {asg body:Code} (hF:qjv F N t ps asg body) (h:qah n l l'):qah n (F ls pend::l) (F ls' pend'::l'):=by
 rw [hF,hF]
 exact .loop h
@[reducible] def zds (o : Nat) (F : LoopState → Option Code → AObj) (R : Bool → List AObj → Prop) : Exit → AS → Prop
 | .normal,s=>s.st[o]? = some (F .busy none)∧R true (s.st.set o (F .ready none))
 | .ret,s=>s.st[o]? = some (F .busy none)∧R false (s.st.set o (F .done (some .ret)))
 | .exit id,s=>s.st[o]? = some (F .busy none)∧R false (s.st.set o (F .done (some (.exit id))))
 | _,_=>False
theorem qob {E:Env} {o N:Nat} {t:Nat→AV} {ps:Array Tmp} {asg body:Code} {st:List AObj} {R:Bool→List AObj→Prop} {xs:List AV} {F:LoopState→Option Code→AObj} (hF:qjv F N t ps asg body) (ho:st[o]? = some (F .ready none)) (hps:ps.size=xs.length)
  (h:∀ l,AWp E (some l) N asg (only fun s1=>s1.st[o]? = some (F .ready none)∧s1.df=[]∧AWp E (some l) N body (zds o F R) ⟨s1.t,s1.st.set o (F .busy none),[]⟩) ⟨qiy t (ps.toList.zip xs),st,[]⟩):xx E o xs st R:=by
 refine qyl (N:=N) (t:=t) (ps:=ps) (asg:=asg) (body:=body) (by rw [ho,hF]) hps fun l=>(h l).mono fun e s1 hq=>?_
 cases e with
 |normal=>
  obtain⟨h1,h2,h3⟩:=hq
  refine⟨by rw [h1,hF],h2,?_⟩
  rw [hF] at h3
  refine h3.mono fun e s2 hq2=>?_
  cases e with
  |normal=>obtain⟨k1,k2⟩:=hq2;exact⟨by rw [k1,hF],by rw [hF] at k2;exact k2⟩
  |ret=>obtain⟨k1,k2⟩:=hq2;exact⟨by rw [k1,hF],by rw [hF] at k2;exact k2⟩
  |exit id=>obtain⟨k1,k2⟩:=hq2;exact⟨by rw [k1,hF],by rw [hF] at k2;exact k2⟩
  | _=>exact hq2.elim
 | _=>exact hq.elim
theorem qj1 {E:Env} {N:Nat} {Q:Exit→AS→Prop} {s:AS} {f:Operand} {ps:Array Tmp} {asg body:Code} {st loc:List AObj} {g:FuncId} {fs cs:List AV} (hst:s.st=st++loc) (hx:qj N s f = .fn (.func g) fs cs)
  (hrun:∀ vs w,(callFunc g vs).run E.P w = .ok (.enter g vs) w)
  (h:∀ F,qjv F N s.t ps asg body→qm E g (fs++[.yd (st.length+(loc.length+1))]++cs) (st++(loc++[.dfr,F .ready none])) fun _ st'=>∃ ls pend,ls≠LoopState.busy∧st'[st.length+(loc.length+1)]? = some (F ls pend) ∧
   match pend with
   |none=>Q .normal ⟨s.t,st'.set (st.length+(loc.length+1)) .dead,(st.length+loc.length)::s.df⟩
   |some c=>AWp E none N c Q ⟨s.t,st'.set (st.length+(loc.length+1)) .dead,(st.length+loc.length)::s.df⟩):AWp E none N (.rangeFunc f ps asg body) Q s:=
 qug hst hx hrun ((h (fun ls pend=>.loop ls pend N s.t ps asg body) (fun _ _=>rfl)).mono fun _ _ ⟨ls,pend,h1,h2,h3⟩=>⟨ls,pend,h1,h2,h3⟩)
theorem qdx {E:Env} {rd:Option Nat} {N:Nat} {c:Code} {Q:Exit→AS→Prop} {s:AS} (L:List (Nat×AV)) (st':List AObj) (df':List Nat) (h:HasL s.t L) (hst:s.st=st') (hdf:s.df=df') (k:∀ t,AWp E rd N c Q ⟨puts t L,st',df'⟩):AWp E rd N c Q s:=by
 have:=k s.t
 rw [qg7 h,← hst,← hdf] at this
 exact this
theorem qfi {E:Env} {B0:Nat} {w0:World} {N:Nat} {G:Gh} {s:AS} {a:Act} {w:World} (hI:Inv B0 w0 N G s a w) {x:Operand} {t:TypeId} {sz:Nat} {agg:Bool} {o ver off:Nat} {T':TypeId} {cs:List AV} {r:AV} (hx:qj N s x = .bx o ver off) (ho:s.st[o]? = some (.cells ver T' cs)) (ht:tyOf E.P t=some (sz,agg)) (hr:jk sz agg off cs=some r) :
  ∃ b v,a.eval x = .pointer (some ⟨b,off,none⟩)∧(loadVar t ⟨b,off,none⟩).run E.P w = .ok v w∧Rel G r v:=by
 have he:=hI.eval_of hx
 generalize hv:a.eval x=v at he
 cases he with
 |bx _ _ _ b hn hv' hb=>
  obtain⟨_,h1,h2,h3,c,h4,h5,h6⟩:=hI.agree.ob o _ ho
  have hb:=hb h1
  rw [hb] at h4
  obtain⟨v,hrun,hR⟩:=yz (w:=w) (G:=G) (b:=b) (off:=off) (off':=off) ht (fun i x hx hi=>by
   obtain⟨y,hy⟩:=vp hx (Nat.le_of_eq h5)
   refine⟨y,?_,h6 i x y hx hy⟩
   simp [World.cell?,h4,show off+(i - off)=i by omega,hy]) hr
  exact⟨b,v,rfl,hrun,hR⟩
theorem q1b {E:Env} {fn:Func} {s:AS} {t u:Tmp} {Ta Tb:TypeId} {o1 v1 f1 sz1:Nat} {agg1:Bool} {T1:TypeId} {cs1:List AV} {r1:AV} {o2 v2 f2 sz2:Nat} {agg2:Bool} {T2:TypeId} {cs2:List AV} {r2:AV} (hr:fn.results = #[.cell t Ta,.cell u Tb])
  (hx1:qj fn.ntmps s (.tmp t) = .bx o1 v1 f1) (ho1:s.st[o1]? = some (.cells v1 T1 cs1)) (ht1:tyOf E.P Ta=some (sz1,agg1)) (hl1:jk sz1 agg1 f1 cs1=some r1)
  (hx2:qj fn.ntmps s (.tmp u) = .bx o2 v2 f2) (ho2:s.st[o2]? = some (.cells v2 T2 cs2)) (ht2:tyOf E.P Tb=some (sz2,agg2)) (hl2:jk sz2 agg2 f2 cs2=some r2):ARes E fn s (.tu [r1,r2]):=by
 refine⟨fun B0 w0 G a w _ hI=>?_⟩
 obtain⟨b1,y1,e1,e2,e3⟩:=qfi hI hx1 ho1 ht1 hl1
 obtain⟨b2,y2,k1,k2,k3⟩:=qfi hI hx2 ho2 ht2 hl2
 simp only [Act.eval,Array.getD_eq_getD_getElem?] at e1 k1
 refine⟨.tuple #[y1,y2],?_,qd7 e3 k3⟩
 simp [results,hr,e1,k1,asAddr,e2,k2]
theorem qld {E:Env} {fn:Func} {R:AV→List AObj→Prop} {s:AS} {st loc:List AObj} {k:Nat} {ds:List Nat} (hs:s.st=st++loc) (hd:s.df=(st.length+k)::ds) (ho:loc[k]? = some .dfr) (h:ARet E fn R ⟨s.t,st++loc.set k .dead,ds⟩):ARet E fn R s:=
 qlr hd (by rw [hs];exact jb ho) (by rw [hs,wp];exact h)
theorem qje {E:Env} {fn:Func} {s:AS} {t u:Tmp} {Ta Tb:TypeId} {st loc:List AObj} {k1 v1 f1 sz1:Nat} {agg1:Bool} {T1:TypeId} {cs1:List AV} {r1:AV} {k2 v2 f2 sz2:Nat} {agg2:Bool} {T2:TypeId} {cs2:List AV} {r2:AV} (hr:fn.results = #[.cell t Ta,.cell u Tb]) (hs:s.st=st++loc)
  (hx1:qj fn.ntmps s (.tmp t) = .bx (st.length+k1) v1 f1) (ho1:loc[k1]? = some (.cells v1 T1 cs1)) (ht1:tyOf E.P Ta=some (sz1,agg1)) (hl1:jk sz1 agg1 f1 cs1=some r1)
  (hx2:qj fn.ntmps s (.tmp u) = .bx (st.length+k2) v2 f2) (ho2:loc[k2]? = some (.cells v2 T2 cs2)) (ht2:tyOf E.P Tb=some (sz2,agg2)) (hl2:jk sz2 agg2 f2 cs2=some r2):ARes E fn s (.tu [r1,r2]):=
 q1b hr hx1 (by rw [hs];exact jb ho1) ht1 hl1 hx2 (by rw [hs];exact jb ho2) ht2 hl2
@[reducible] def Wv (x : BitVec 32) : AV := .v (.int .u32 (x.toNat : Nat))
theorem qk9 (n:Nat):IntKind.u32.wrap (n:Int)=((n % 4294967296:Nat):Int):=by
 simp [IntKind.wrap,IntKind.bits,IntKind.signed]
theorem kj (x:BitVec 32):BitVec.ofInt 32 (x.toNat:Int)=x:=by
 rw [BitVec.ofInt_natCast,BitVec.ofNat_toNat]
 simp
theorem qg3 (x:BitVec 32):IntKind.u32.wrap (x.toNat:Int)=(x.toNat:Int):=by
 rw [qk9,Nat.mod_eq_of_lt x.isLt]
section
variable {E : Env} {rd : Option Nat} {N : Nat} {ops : Array Oper} {K : AS → Prop} {s : AS} {rest : List Oper} {d : Option Tmp} {T : TypeId} {p : String} {af : Array Edge}
theorem qrm (x:BitVec 32):((x.toNat:Nat):Int)=0↔x=0#32:=by
 constructor
 ·intro h
  apply BitVec.eq_of_toNat_eq
  simpa using h
 ·rintro rfl
  rfl
theorem qgh {x y:Operand} {t t':TypeId} {m n:Int} {a b:BitVec 32} (hx:qj N s x = .v (.int .u32 m)) (hy:qj N s y = .v (.int .u32 n)) (ha:BitVec.ofInt 32 m=a) (hb:BitVec.ofInt 32 n=b) (h:AOps E rd N ops rest K (s.put d (Wv (a ^^^ b)))):AOps E rd N ops (⟨d,.binOp .xor t x y t',T,p,af,none⟩::rest) K s:=
 q65 hx hy (by subst ha;subst hb;simp only [qbn,IntKind.bits];rw [qg3];rfl) h
theorem qjz {x y:Operand} {t t':TypeId} {m n:Int} {a b:BitVec 32} (hx:qj N s x = .v (.int .u32 m)) (hy:qj N s y = .v (.int .u32 n)) (ha:BitVec.ofInt 32 m=a) (hb:BitVec.ofInt 32 n=b) (h:AOps E rd N ops rest K (s.put d (Wv (a &&& b)))):AOps E rd N ops (⟨d,.binOp .and t x y t',T,p,af,none⟩::rest) K s:=
 q6y hx hy (by subst ha;subst hb;simp only [qbn,IntKind.bits];rw [qg3];rfl) h
theorem q3m {x y:Operand} {t t':TypeId} {m n:Int} {a b:BitVec 32} (hx:qj N s x = .v (.int .u32 m)) (hy:qj N s y = .v (.int .u32 n)) (ha:BitVec.ofInt 32 m=a) (hb:BitVec.ofInt 32 n=b) (h:AOps E rd N ops rest K (s.put d (Wv (a |||b)))):AOps E rd N ops (⟨d,.binOp .or t x y t',T,p,af,none⟩::rest) K s:=
 zae hx hy (by subst ha;subst hb;simp only [qbn,IntKind.bits];rw [qg3];rfl) h
theorem qhc {x:Operand} {t:TypeId} {a:BitVec 32} (hx:qj N s x=Wv a) (h:AOps E rd N ops rest K (s.put d (Wv (~~~ a)))):AOps E rd N ops (⟨d,.unOp .xor t x,T,p,af,none⟩::rest) K s:=
 q07 hx (by
  simp only [qbn,IntKind.bits,IntKind.signed,Bool.false_eq_true,if_false]
  rw [kj]
  have h1:BitVec.ofInt 32 IntKind.u32.max=BitVec.allOnes 32:=by decide
  have h2:BitVec.ofInt 32 IntKind.u32.max ^^^ a = ~~~ a:=by rw [h1,BitVec.xor_comm,BitVec.xor_allOnes]
  exact (congrArg (fun z:BitVec 32=>IntKind.u32.wrap (z.toNat:Int)) h2).trans (qg3 _)) h
theorem qed {x y:Operand} {t t':TypeId} {yk:IntKind} {a:BitVec 32} {n:Nat} (hx:qj N s x=Wv a) (hy:qj N s y = .v (.int yk (n:Int))) (hn:Nat.ble n 32=true) (h:AOps E rd N ops rest K (s.put d (Wv (a <<< n)))):AOps E rd N ops (⟨d,.binOp .shl t x y t',T,p,af,none⟩::rest) K s:=
 q63 hx hy (by omega) (by
  have hn:=Nat.le_of_ble_eq_true hn
  have:min (n:Int).toNat IntKind.u32.bits=n:=by simp [IntKind.bits];omega
  rw [this]
  have e:(a.toNat:Int) * 2 ^ n=((a.toNat * 2 ^ n:Nat):Int):=by simp
  rw [e,qk9,BitVec.toNat_shiftLeft,Nat.shiftLeft_eq]) h
theorem qgg {x y:Operand} {t t':TypeId} {yk:IntKind} {a:BitVec 32} {n:Nat} (hx:qj N s x=Wv a) (hy:qj N s y = .v (.int yk (n:Int))) (hn:Nat.ble n 32=true) (h:AOps E rd N ops rest K (s.put d (Wv (a >>> n)))):AOps E rd N ops (⟨d,.binOp .shr t x y t',T,p,af,none⟩::rest) K s:=
 q64 hx hy (by omega) (by
  have hn:=Nat.le_of_ble_eq_true hn
  have:min (n:Int).toNat IntKind.u32.bits=n:=by simp [IntKind.bits];omega
  rw [this,BitVec.toNat_ushiftRight,Nat.shiftRight_eq_div_pow]
  have h0:(0:Int)≤2 ^ n:=by
   have:((2 ^ n:Nat):Int)=(2:Int) ^ n:=by simp
   rw [← this]
   exact Int.natCast_nonneg _
  rw [Int.fdiv_eq_ediv_of_nonneg _ h0]
  simp) h
theorem qi3 {x y:Operand} {t e:TypeId} {len sz:Nat} {agg:Bool} {k:IntKind} {n:Nat} {cs:List AV} {r:AV} (hx:qj N s x = .ag cs) (hy:qj N s y = .v (.int k (n:Int))) (hu:E.P.underlying t=some (.array len e)) (ht:tyOf E.P e=some (sz,agg)) (hn:n<len) (hr:jk sz agg (n * sz) cs=some r)
  (h:AOps E rd N ops rest K (s.put d r)):AOps E rd N ops (⟨d,.index t x y,T,p,af,none⟩::rest) K s:=by
 refine q6 rfl (qz nofun fun B0 w0 G a w _ hI=>?_)
 have he:=hI.eval_of hx
 have hey:=hI.evalv hy
 generalize hv:a.eval x=v at he
 cases he with
 |ag _ vs hl hrel=>
  obtain⟨i1,i2⟩:=kq ht w
  cases agg with
  |false=>
   simp only [jk,cond_false] at hr
   obtain⟨z,hz⟩:=vp hr (Nat.le_of_eq hl)
   refine⟨z,w,G,r,s.st,?_,.refl G,hI.agree,hrel _ r z hr hz,h⟩
   generalize a.eval = ρ at hv hey
   simp only [execOp,hv,hey]
   simp [Instr.index,asIntOf,run_underlying hu,hn,part,i1,i2,hz]
  |true=>
   simp only [jk,cond_true] at hr
   cases hb:Nat.ble (n * sz+sz) cs.length with
   |false=>rw [hb] at hr;simp at hr
   |true=>
    rw [hb] at hr
    simp only [cond_true,Option.some.injEq] at hr
    have hle:n * sz+sz≤cs.length:=Nat.le_of_ble_eq_true hb
    refine⟨.agg (vs.extract (n * sz) (n * sz+sz)),w,G,r,s.st,?_,.refl G,hI.agree,?_,h⟩
    ·generalize a.eval = ρ at hv hey
     simp only [execOp,hv,hey]
     simp [Instr.index,asIntOf,run_underlying hu,hn,part,i1,i2]
    ·subst hr
     refine .ag _ _ (by simp;omega) fun i x y h1 h2=>?_
     have hi:i<sz:=by have:=lt_of_getElem? h1;simp at this;omega
     simp [hi,List.getElem?_drop] at h1
     rw [Array.getElem?_extract] at h2
     split at h2
     ·exact hrel (n * sz+i) x y h1 h2
     ·simp at h2
theorem qcb {x y:Operand} {t e:TypeId} {len sz:Nat} {agg:Bool} {k:IntKind} {n o ver off:Nat} (hx:qj N s x = .bx o ver off) (hy:qj N s y = .v (.int k (n:Int))) (hu:E.P.underlying t=some (.array len e)) (ht:tyOf E.P e=some (sz,agg)) (hn:n<len)
  (h:AOps E rd N ops rest K (s.put d (.bx o ver (off+n * sz)))):AOps E rd N ops (⟨d,.indexAddr t x y,T,p,af,none⟩::rest) K s:=by
 refine q6 rfl (qz nofun fun B0 w0 G a w _ hI=>?_)
 have he:=hI.eval_of hx
 have hey:=hI.evalv hy
 generalize hv:a.eval x=v at he
 cases he with
 |bx _ _ _ b hn' hver hb=>
  refine⟨.pointer (some ⟨b,off+n * sz,none⟩),w,G,_,s.st,?_,.refl G,hI.agree,.bx o ver _ b hn' hver hb,h⟩
  generalize a.eval = ρ at hv hey
  simp only [execOp,hv,hey]
  simp [Instr.indexAt,asIntOf,run_underlying hu,Instr.sureAddr,hn,(kq ht w).1,Addr.add_lit]
theorem q08 {x:Operand} {t t':TypeId} {k:IntKind} {n:Nat} {e:TypeDesc} (hx:qj N s x = .v (.int k (n:Int))) (hs:E.P.underlying t=some e) (hd:E.P.underlying t'=some (.int .u32)) (hn:n<4294967296)
  (h:AOps E rd N ops rest K (s.put d (Wv (BitVec.ofNat 32 n)))):AOps E rd N ops (⟨d,.convert t t' x,T,p,af,none⟩::rest) K s:=
 qpj hx hs hd (by rw [qk9,Nat.mod_eq_of_lt hn,BitVec.toNat_ofNat,Nat.mod_eq_of_lt hn]) h
theorem qru {x y:Operand} {t:TypeId} {sz:Nat} {agg:Bool} {st loc loc':List AObj} {k ver off:Nat} {T':TypeId} {cs xs:List AV} {r:AV} (hs:s.st=st++loc) (hx:qj N s x = .bx (st.length+k) ver off) (hy:qj N s y=r) (ho:loc[k]? = some (.cells ver T' cs)) (ht:tyOf E.P t=some (sz,agg))
  (hok:r.okc=true) (hc:r.cells=xs) (hsz:Nat.beq xs.length sz=true) (h1:ju xs=true) (hfit:off+sz≤cs.length) (hl:loc'=loc.set k (.cells ver T' (zu cs off xs)))
  (h:AOps E rd N ops rest K (AS.put ⟨s.t,st++loc',s.df⟩ d (.v undef))):AOps E rd N ops (⟨d,.store t x y,T,p,af,none⟩::rest) K s:=
 zp hs hx hy ho ht hok hc hsz h1 (Nat.ble_eq_true_of_le hfit) hl h
theorem q24 {cs:List AV} {off:Nat} {x:AV} (h:off<cs.length):zu cs off [x]=cs.set off x:=by
 rw [List.set_eq_take_append_cons_drop,if_pos h]
 simp [zu]
theorem qbf {t:Nat→AV} {L:List (Nat×AV)} {st st':List AObj} {df:List Nat} (h:HasL t L) (e:st'=st):StA L st df ⟨t,st',df⟩:=by
 subst e
 exact jw h
theorem qrx {fn:Func} {t:Tmp} {Ta:TypeId} {st loc:List AObj} {k1 v1 f1 sz1:Nat} {agg1:Bool} {T1:TypeId} {cs1:List AV} {r1:AV} (hr:fn.results = #[.cell t Ta]) (hs:s.st=st++loc)
  (hx1:qj fn.ntmps s (.tmp t) = .bx (st.length+k1) v1 f1) (ho1:loc[k1]? = some (.cells v1 T1 cs1)) (ht1:tyOf E.P Ta=some (sz1,agg1)) (hl1:jk sz1 agg1 f1 cs1=some r1):ARes E fn s r1:=by
 refine⟨fun B0 w0 G a w _ hI=>?_⟩
 obtain⟨b1,y1,e1,e2,e3⟩:=qfi hI hx1 (by rw [hs];exact jb ho1) ht1 hl1
 simp only [Act.eval,Array.getD_eq_getD_getElem?] at e1
 refine⟨y1,?_,e3⟩
 simp [results,hr,e1,asAddr,e2]
def qry (P:Program) (t:TypeId):Option Nat:=
 match P.underlying t with
 |some (.array _ e)=>match P.info? e with
  |some i=>some i.size
  |none=>none
 | _=>none
theorem qyk {P:Program} {t:TypeId} {sz:Nat} (h:qry P t=some sz):∃ len e i,P.underlying t=some (.array len e)∧P.info? e=some i∧i.size=sz:=by
 unfold qry at h
 split at h
 ·rename_i len e hu
  split at h
  ·rename_i i hi
   simp only [Option.some.injEq] at h
   exact⟨len,e,i,hu,hi,h⟩
  ·simp at h
 ·simp at h
theorem qsv {t:TypeId} {parts:Array (Nat×Operand)} {zs cs:List AV} {sz:Nat} (hz:qg4 E.P t=some zs) (hp:qry E.P t=some sz) (hf:qbr (fun i=>some (i * sz,sz)) zs (vl N s parts)=some cs)
  (h:AQ E N ops rest K (s.put d (.ag cs))):AQ E N ops (⟨d,.build t parts,T,p,af,none⟩::rest) K s:=by
 refine qcu rfl nofun fun B0 w0 G a w _ hI=>?_
 obtain⟨len,e,i,hu,hi,rfl⟩:=qyk hp
 obtain⟨z,hrun,hr⟩:=qmq hz w
 obtain⟨c',h1,h2⟩:=qhi (fun k=>some (k * i.size,i.size)) (vl N s parts) (parts.toList.map fun x=>(x.1,a.eval x.2)) zs z.cells cs (by simp [vl]) (qiw hI parts) (hr G) hf
 have hz':∃ ti,E.P.info? t=some ti∧ti.zero=some z:=by
  unfold zeroValue at hrun
  simp [typeInfo] at hrun
  cases hti:E.P.info? t with
  |none=>simp [hti] at hrun
  |some ti=>
   simp [hti] at hrun
   cases htz:ti.zero with
   |none=>simp [htz] at hrun
   |some y=>simp [htz] at hrun;exact⟨ti,rfl,by rw [htz,hrun]⟩
 obtain⟨ti,g1,g2⟩:=hz'
 refine⟨.agg c',.ag cs,fun w' _=>?_,.ag _ _ h2.1 h2.2,h⟩
 generalize a.eval = ρ at h1
 simp [execOp,Instr.build,run_underlying hu,zeroValue,typeInfo,g1,g2,sizeOf,hi,h1]
theorem q3o {x y:Operand} {t:TypeId} {m:List UInt8} {k:IntKind} {n:Nat} (hx:qj N s x=Sv m) (hy:qj N s y = .v (.int k (n:Int))) (hu:E.P.underlying t=some .string) (h1:n<m.length)
  (h:AQ E N ops rest K (s.put d (Uv (m.getD n 0)))):AQ E N ops (⟨d,.index t x y,T,p,af,none⟩::rest) K s:=
 qak _ rfl nofun (fun a w he=>by
  have hg:(⟨m.toArray⟩:ByteArray)[n]? = some (m.getD n 0):=by
   simp only [getElem?_def,y0,h1,dite_true,List.getD,Option.getD_some]
   rfl
  simp [execOp,Instr.index,he _ _ hx,he _ _ hy,asIntOf,run_underlying hu,hg]) h
theorem qvo {x:Operand} {t t':TypeId} {k:IntKind} {n:Nat} {e:TypeDesc} (hx:qj N s x = .v (.int k (n:Int))) (hs:E.P.underlying t=some e) (hd:E.P.underlying t'=some (.int .u32)) (hn:n<4294967296)
  (h:AQ E N ops rest K (s.put d (Wv (BitVec.ofNat 32 n)))):AQ E N ops (⟨d,.convert t t' x,T,p,af,none⟩::rest) K s:=by
 have hr:IntKind.u32.wrap (n:Int)=(((BitVec.ofNat 32 n).toNat:Nat):Int):=by rw [qk9,Nat.mod_eq_of_lt hn,BitVec.toNat_ofNat,Nat.mod_eq_of_lt hn]
 exact qak _ rfl nofun (fun a w he=>by rw [← hr];simp [execOp,he _ _ hx,convert,run_underlying hs,run_underlying hd,Conv.intToInt]) h
theorem qzy {x y:Operand} {t t':TypeId} {yk:IntKind} {c:UInt8} (hx:qj N s x=Uv c) (hy:qj N s y = .v (.int yk 4)) (h:AQ E N ops rest K (s.put d (.v (.int .u8 ((c.toNat / 16:Nat):Int))))):AQ E N ops (⟨d,.binOp .shr t x y t',T,p,af,none⟩::rest) K s:=
 qak _ rfl nofun (fun a w he=>by
  have:(c.toNat:Int).fdiv (2 ^ (min (4:Int).toNat IntKind.u8.bits))=((c.toNat / 16:Nat):Int):=by
   rw [Int.fdiv_eq_ediv_of_nonneg _ (by decide)]
   simp [IntKind.bits]
  rw [← this]
  simp [execOp,he _ _ hx,he _ _ hy,eqGuard_at_int,binOp_shr,Op.shift]) h
theorem qvn {x y:Operand} {t t':TypeId} {c:UInt8} (hx:qj N s x=Uv c) (hy:qj N s y = .v (.int .u8 15)) (h:AQ E N ops rest K (s.put d (.v (.int .u8 ((c.toNat % 16:Nat):Int))))):AQ E N ops (⟨d,.binOp .and t x y t',T,p,af,none⟩::rest) K s:=
 zck hx hy (by
  simp only [qbn,IntKind.bits]
  have h1:BitVec.ofInt 8 (c.toNat:Int)=c.toBitVec:=by rw [BitVec.ofInt_natCast];simp
  have h2:(BitVec.ofInt 8 (c.toNat:Int) &&& BitVec.ofInt 8 15).toNat=c.toNat % 16:=by
   rw [h1,BitVec.toNat_and]
   exact Nat.and_two_pow_sub_one_eq_mod c.toNat 4
  have h3:IntKind.u8.wrap ((c.toNat % 16:Nat):Int)=((c.toNat % 16:Nat):Int):=by
   simp [IntKind.wrap,IntKind.bits,IntKind.signed]
   omega
  exact (congrArg (fun z:Nat=>IntKind.u8.wrap (z:Int)) h2).trans h3) h
theorem qyi {x y:Operand} {t t':TypeId} {yk:IntKind} {a:BitVec 32} {m:Int} {n:Nat} (hx:qj N s x=Wv a) (hy:qj N s y = .v (.int yk m)) (hm:m=(n:Int)) (hn:n≤32) (h:AOps E rd N ops rest K (s.put d (Wv (a >>> n)))):AOps E rd N ops (⟨d,.binOp .shr t x y t',T,p,af,none⟩::rest) K s:=
 qgg hx (hm▸hy) (Nat.ble_eq_true_of_le hn) h
theorem and15_lt (x:BitVec 32):(x &&& BitVec.ofInt 32 15).toNat<16:=by
 rw [BitVec.toNat_and]
 exact Nat.lt_of_le_of_lt Nat.and_le_right (by decide)
end
end Go.Av
namespace Go.Av
open Go Go.RowKit
section
variable {E : Env} {rd : Option Nat} {N : Nat} {ops : Array Oper} {K : AS → Prop} {s : AS} {rest : List Oper} {d : Option Tmp} {T : TypeId} {p : String} {af : Array Edge}
def qmz:TypeDesc→Bool
 | .interface _=>false
 | _=>true
def qu5 (P:Program) (t:TypeId):Option Value:=match P.info? t with|some i=>i.zero|none=>none
theorem qt9 {P:Program} {t:TypeId} {z:Value} (h:qu5 P t=some z) (w:World):(zeroValue t).run P w = .ok z w:=by
 unfold qu5 at h
 split at h
 ·rename_i i hi
  simp [zeroValue,typeInfo,hi,h]
 ·simp at h
theorem qcs {x:Operand} {xt t:TypeId} {D:TypeDesc} {y:AV} (hx:qj N s x = .ifc t y) (hu:E.P.underlying t=some D) (hn:qmz D=true)
  (h:AOps E rd N ops rest K (s.put d (.tu [y,Bv true]))):AOps E rd N ops (⟨d,.typeAssert x xt t true,T,p,af,none⟩::rest) K s:=by
 refine q6 rfl (qz nofun fun B0 w0 G a w _ hI=>?_)
 have he:=hI.eval_of hx
 generalize hv:a.eval x=v at he
 cases he with
 |ifc _ _ z hz=>
  refine⟨.tuple #[z,.bool true],w,G,_,s.st,?_,.refl G,hI.agree,qd7 hz (.v _),h⟩
  generalize a.eval = ρ at hv
  cases D <;> first|(simp [qmz] at hn;done)|simp [execOp,Instr.typeAssert,hv,run_underlying hu]
theorem qia {x:Operand} {xt t u:TypeId} {D:TypeDesc} {y:AV} {z:Value} (hx:qj N s x = .ifc u y) (hu:E.P.underlying t=some D) (hn:qmz D=true) (hne:Nat.beq u t=false) (hz:qu5 E.P t=some z)
  (h:AOps E rd N ops rest K (s.put d (.tu [.v z,Bv false]))):AOps E rd N ops (⟨d,.typeAssert x xt t true,T,p,af,none⟩::rest) K s:=by
 refine q6 rfl (qz nofun fun B0 w0 G a w _ hI=>?_)
 have he:=hI.eval_of hx
 generalize hv:a.eval x=v at he
 have hne':u≠t:=fun e=>by subst e;simp at hne
 have hz':=qt9 hz w
 cases he with
 |ifc _ _ q hq=>
  refine⟨.tuple #[z,.bool false],w,G,_,s.st,?_,.refl G,hI.agree,qd7 (.v _) (.v _),h⟩
  generalize a.eval = ρ at hv
  cases D <;> first|(simp [qmz] at hn;done)|simp [execOp,Instr.typeAssert,hv,run_underlying hu,hne',hz']
theorem qrs {x:Operand} {xt t:TypeId} {D:TypeDesc} {z:Value} (hx:qj N s x = .v .nilIface) (hu:E.P.underlying t=some D) (hn:qmz D=true) (hz:qu5 E.P t=some z)
  (h:AOps E rd N ops rest K (s.put d (.tu [.v z,Bv false]))):AOps E rd N ops (⟨d,.typeAssert x xt t true,T,p,af,none⟩::rest) K s:=by
 refine q6 rfl (qz nofun fun B0 w0 G a w _ hI=>?_)
 have hv:=hI.evalv hx
 have hz':=qt9 hz w
 refine⟨.tuple #[z,.bool false],w,G,_,s.st,?_,.refl G,hI.agree,qd7 (.v _) (.v _),h⟩
 generalize a.eval = ρ at hv
 cases D <;> first|(simp [qmz] at hn;done)|simp [execOp,Instr.typeAssert,hv,run_underlying hu,hz']
end
end Go.Av
namespace Go.Proofs.YtmoklbacdkmkaaaGreatDoor
open Go Go.Av Go.RowKit Go.Proofs
structure Laid (w:World):Prop where
 shaped:World.ShapedOpen Tryz.prog w
 pow : Lib.TabIs Tryz.prog w "internal/strconv.uint64pow10" .u64 Lib.pow10Tab
 syn : ∃ tp p, World.var? Tryz.prog w "strconv.ErrSyntax" = some #[.iface tp p]
 ran : ∃ tp p, World.var? Tryz.prog w "strconv.ErrRange" = some #[.iface tp p]
 ert:w.cell? ⟨0,0,none⟩=some (.iface 277 (.agg #[.pointer (some ⟨9,29,none⟩)]))
@[reducible] noncomputable def E : Env := ⟨Tryz.prog, fun B0 w0 => ∀ w, Below B0 w0 w → Laid w⟩
theorem qp4 (l m:List UInt8) (st:List AObj) (hl:l.length<4294967281):qm E 212 [Sv l,Sv m] st fun r st'=>r=Bv (Lib.contains l m)∧st'=st:=
 x5 (vals:= #[.string ⟨l.toArray⟩,.string ⟨m.toArray⟩]) rfl fun _ _ w hL hb=>(Tryz.strings_Contains_shaped ⟨l.toArray⟩ ⟨m.toArray⟩ w (hL w hb).shaped (by simpa [ByteArray.size] using hl)).mono fun _ _ ⟨h1,h2⟩=>⟨h1,qdc h2⟩
theorem qdf (l m:List UInt8) (st:List AObj):qm E 164 [Sv l,Sv m] st fun r st'=>r=Bv (Lib.hasPrefix l m)∧st'=st:=
 x5 (vals:= #[.string ⟨l.toArray⟩,.string ⟨m.toArray⟩]) rfl fun _ _ w _ _=>(Tryz.strings_HasPrefix ⟨l.toArray⟩ ⟨m.toArray⟩ w).mono fun _ _ ⟨h1,h2⟩=>⟨h1,qdc h2⟩
theorem qnt (l m:List UInt8) (st:List AObj) (hl:l.length≤9223372036854775807):qm E 192 [Sv l,Sv m] st fun r st'=>r=Bv (Lib.hasSuffix l m)∧st'=st:=
 x5 (vals:= #[.string ⟨l.toArray⟩,.string ⟨m.toArray⟩]) rfl fun _ _ w _ _=>(Tryz.strings_HasSuffix ⟨l.toArray⟩ ⟨m.toArray⟩ w (by simpa [ByteArray.size] using hl)).mono fun _ _ ⟨h1,h2⟩=>⟨h1,qdc h2⟩
theorem qp5 (l m:List UInt8) (st:List AObj) (hl:l.length<4294967281):qm E 96 [Sv l,Sv m] st fun r st'=>r = .tu [Sv (Lib.cut l m).1,Sv (Lib.cut l m).2.1,Bv (Lib.cut l m).2.2]∧st'=st:=
 qgc (vals:= #[.string ⟨l.toArray⟩,.string ⟨m.toArray⟩]) (rs:= #[.string ⟨(Lib.cut l m).1.toArray⟩,.string ⟨(Lib.cut l m).2.1.toArray⟩,.bool (Lib.cut l m).2.2]) rfl fun _ _ w hL hb=>(Tryz.strings_Cut_shaped ⟨l.toArray⟩ ⟨m.toArray⟩ w (hL w hb).shaped (by simpa [ByteArray.size] using hl)).mono fun _ _ ⟨h1,n,h2⟩=>⟨h1,h2▸qyq w n⟩
theorem qdd (l m:List UInt8) (st:List AObj):qm E 217 [Sv l,Sv m] st fun r st'=>r = .tu [Sv (Lib.trimPrefix l m),Bv (Lib.hasPrefix l m)]∧st'=st:=
 qgc (vals:= #[.string ⟨l.toArray⟩,.string ⟨m.toArray⟩]) (rs:= #[.string ⟨(Lib.trimPrefix l m).toArray⟩,.bool (Lib.hasPrefix l m)]) rfl fun _ _ w _ _=>(Tryz.strings_CutPrefix ⟨l.toArray⟩ ⟨m.toArray⟩ w).mono fun _ _ ⟨h1,h2⟩=>⟨h1,qdc h2⟩
theorem ql8 (n:Int) (st:List AObj) (h0 : -9223372036854775808≤n) (h1:n≤9223372036854775807):qm E 155 [Iv n] st fun r st'=>r=Sv (Lib.itoa n)∧st'=st:=
 x5 (vals:= #[.int .i64 n]) rfl fun _ _ w hL hb=>(Tryz.strconv_Itoa n h0 h1 w (hL w hb).pow).mono fun _ _ ⟨h1,k,os,h2⟩=>⟨h1,h2▸q1j w k os⟩
theorem q9a (l:List UInt8) (c:Nat) (st:List AObj) (h0:c≤9223372036854775807) (h1:l.length * c≤140737488355328):qm E 220 [Sv l,Iv c] st fun r st'=>r=Sv (Lib.repeatL l c)∧st'=st:=
 x5 (vals:= #[.string ⟨l.toArray⟩,.int .i64 c]) rfl fun _ _ w _ _=>(Tryz.strings_Repeat ⟨l.toArray⟩ c w h0 (by simpa [ByteArray.size] using h1)).mono fun _ _ ⟨h1,h2⟩=>⟨h1,h2⟩
theorem q6l (l m:List UInt8) (st:List AObj) (hl:l.length≤9223372036854775807) (hm:m.length<4294967281) (ha:∀ (j:Nat) (b:UInt8),m[j]? = some b→b.toNat<128):qm E 213 [Sv l,Sv m] st fun r st'=>r=Sv (Lib.trimS l m)∧st'=st:=
 x5 (vals:= #[.string ⟨l.toArray⟩,.string ⟨m.toArray⟩]) rfl fun _ _ w _ _=>(Any.strings_Trim_laid Tryz.lays160t (by kernel_rfl) ⟨l.toArray⟩ ⟨m.toArray⟩ w (by simpa [ByteArray.size] using hl) (by simpa [ByteArray.size] using hm) (by simpa using ha)).mono fun _ _ ⟨h1,h2⟩=>⟨h1,h2⟩
theorem qyp {w w':World} {T:TypeId} {s:ByteArray} (h:w'=w∨∃ t,w'=Lib.bytesWorld w T t):Below w.heap.size w w':=by
 rcases h with rfl | ⟨t,rfl⟩
 ·exact Below.refl _ _
 ·unfold Lib.bytesWorld
  exact Lib.below_freeze ((Below.drew (Below.refl w.heap.size w)).alloc (Nat.le_refl _) _) (p:=⟨w.heap.size,_,none⟩) (Nat.le_refl _) _
theorem qpe {f:FuncId} {st:List AObj} {args:List AV} {vals:Array Value} {R:Int→Option (TypeId×Value)→Prop} (ha:args=vals.toList.map .v)
  (h:∀ B0 w0 w,E.L B0 w0→Below B0 w0 w→Calls E.P f vals w fun e w'=>∃ n x,e = .returned (.tuple #[.int .i64 n,match x with|none=>.nilIface|some (t,y)=>.iface t y])∧R n x∧Below w.heap.size w w') :
  qm E f args st fun r st'=>st'=st∧∃ n x,r = .tu [Iv n,match x with|none=>.v .nilIface|some (t,y)=>.ifc t (.v y)]∧R n x:=by
 subst ha
 refine⟨fun B0 w0 G vs w hL hA hR=>?_⟩
 have hv:vs=vals:=by
  have hs:vs.size=vals.size:=by have:=hR.1;simpa using this.symm
  apply Array.ext hs
  intro i h1 h2
  have:=hR.2 i (.v vals[i]) vs[i] (by simp [h2]) (by simp [h1])
  generalize vs[i]=y at this
  cases this
  rfl
 subst hv
 refine (h B0 w0 w hL hA.below).mono ?_
 rintro e w' ⟨n,x,rfl,hRR,hb⟩
 refine⟨_,G,_,st,rfl,.refl G,hA.fresh hb,qd7 (.v _) ?_,rfl,n,x,rfl,hRR⟩
 cases x with
 |none=>exact .v _
 |some p=>exact .ifc _ _ _ (.v _)
theorem qls (l:List UInt8) (st:List AObj) (hl:l.length≤281474976710656):qm E 97 [Sv l] st fun r st'=>st'=st∧∃ n x,r = .tu [Iv n,match x with|none=>.v .nilIface|some (t,y)=>.ifc t (.v y)]∧match x with|none=>Lib.atoiAll l = .ok n|some _=>∀ v,Lib.atoiAll l≠.ok v:=by
 refine qpe (vals:= #[.string ⟨l.toArray⟩]) (R:=fun n x=>match x with|none=>Lib.atoiAll l = .ok n|some _=>∀ v,Lib.atoiAll l≠.ok v) rfl fun B0 w0 w hL hb=>?_
 have hls:(⟨l.toArray⟩:ByteArray).data.toList=l:=rfl
 rcases ho:Lib.atoiAll l with v | _ | _
 ·
  refine (Tryz.strconv_Atoi_ok ⟨l.toArray⟩ (by simp [ByteArray.size];omega) v (by rw [hls];exact ho) w).mono ?_
  rintro e w' ⟨rfl,hw⟩
  exact⟨v,none,rfl,rfl,qyp (s:=⟨l.toArray⟩) hw⟩
 ·
  obtain⟨tp,p,hv⟩:=(hL w hb).syn
  refine (Any.strconv_Atoi_syntax_var Tryz.laysC172 ⟨l.toArray⟩ (by simpa [ByteArray.size] using hl) (by rw [hls];exact ho) tp p w hv).mono ?_
  rintro e w' ⟨N,rfl,_,_,hw⟩
  exact⟨_,some (_,_),rfl,by simp,hw⟩
 ·
  obtain⟨tp,p,hv⟩:=(hL w hb).ran
  refine (Tryz.strconv_Atoi_range_var ⟨l.toArray⟩ (by simpa [ByteArray.size] using hl) (by rw [hls];exact ho) tp p w hv).mono ?_
  rintro e w' ⟨N,rfl,_,_,hw⟩
  exact⟨_,some (_,_),rfl,by simp,hw⟩
theorem qsr (l m:List UInt8) (st:List AObj) (hl:l.length≤9223372036854775807) (hm:Nat.blt m.length 4294967281=true) (ha:m.all (fun b=>Nat.blt b.toNat 128)=true):qm E 213 [Sv l,Sv m] st fun r st'=>r=Sv (Lib.trimS l m)∧st'=st:=
 q6l l m st hl (by simpa [Nat.blt_eq] using hm) fun j b h=>by
  have:=List.all_eq_true.1 ha b (List.mem_of_getElem? h)
  simpa [Nat.blt_eq] using this
end Go.Proofs.YtmoklbacdkmkaaaGreatDoor
namespace Go.Av
open Go Go.RowKit Go.WideShapes Go.ChangeShapes
theorem qso {P:Program} {W:World} {name:String} {k:IntKind} {zs:List Int} {g:Nat} {t e:TypeId} {n:Nat}
  (hg:P.globalNamed name=some g) (hty:(P.globals[g]?).map (·.type)=some t) (ht:P.underlying t=some (.array n e)) (he:P.underlying e=some (.int k)) (hce:P.cellsOf e=1) (hct:P.cellsOf t=n)
  (h:Lib.VarReads P W name (Lib.tabData k zs)):Lib.TabIs P W name k zs:=by
 obtain⟨g',t',cs,fuel,p,hg',ht',hvar,hd⟩:=h
 obtain rfl:=Option.some.inj (hg.symm.trans hg')
 obtain rfl:=Option.some.inj (hty.symm.trans ht')
 unfold Lib.TabIs
 rw [hvar,← Lib.cells_of_tab ht he hce hct hd]
theorem qli {P:Program} {W:World} {name s:String} {d:DataW Unit} {g:Nat} {t:TypeId} {ms:Array (String×TypeId)}
  (hg:P.globalNamed name=some g) (hty:(P.globals[g]?).map (·.type)=some t) (ht:P.underlying t=some (.interface ms))
  (h:Lib.VarReads P W name (.iface s d)):∃ tp p,W.var? P name=some #[.iface tp p]:=by
 obtain⟨g',t',cs,fuel,p,hg',ht',hvar,hd⟩:=h
 obtain rfl:=Option.some.inj (hg.symm.trans hg')
 obtain rfl:=Option.some.inj (hty.symm.trans ht')
 cases fuel with
 |zero=>simp [DataW.trod] at hd
 |succ fuel=>
  obtain⟨l⟩:=cs
  simp only [DataW.trod,ht] at hd
  split at hd
  all_goals simp_all
section
variable {H : Type} {enc : TypeId × Value → H} {P : Program}
theorem qul {f:Func} {s:ChangeSpec} {qcc fresh handsOn again:Bool} {W W':World} {args:Array Value} {v:Value} {ds gs:List (DataW H)} {before pa pv:List MemPlace}
  (hW:DataW.Whole enc P f.params.toList s.vars qcc W args.toList ds gs before)
  (hres:∀ (b:Nat) (sp:Nat→Bool) (hd:Bool),DataW.TrodAll enc P W' b sp hd f.resultTypes.toList (v.resultList f.resultTypes.size) (s.fn H (ds++gs)).results [])
  (hargs:∀ sp:Nat→Bool,(∀ p∈before,sp p.block=true)→DataW.TrodAll enc P W' 0 sp true f.params.toList args.toList (s.fn H (ds++gs)).args pa)
  (hvars:∀ sp:Nat→Bool,(∀ p∈before,sp p.block=true)→DataW.TrodVars enc P W' sp s.vars (s.fn H (ds++gs)).vars pv)
  (hps:before=pa++pv) (hb:Below W.heap.size W W')
  (hok:∀ (j:Nat) (t:TypeId) (r:Value),f.resultTypes[j]? = some t→(v.resultList f.resultTypes.size)[j]? = some r→Value.okWide P W' .any 0 t r) :
  s.post enc P f qcc fresh handsOn again W args v W':=by
 have hlt:∀ p∈before,p.block<W.heap.size:=fun p hp=>hW.lt p hp
 have hold:∀ p∈before,(fun b=>decide (b<W.heap.size)) p.block=true:=fun p hp=>by simpa using hlt p hp
 refine⟨ds,gs,before,[],pa,pv,hW,hres _ _ _,hargs _ hold,hvars _ hold,World.keptBut_mono (fun p hp=>⟨hp,?_⟩) (hb.frame (·∈before)),fun _=>?_⟩
 ·rw [hps,List.mem_append] at hp
  exact Or.inr hp
 ·obtain⟨_,_,_,_,_,hz,hn⟩:=hW
  refine⟨hok,_,_,([]++pa)++pv,⟨[]++pa,pv,trodAll_append (hargs _ (fun _ _=>rfl)) (hres _ _ _),hvars _ (fun _ _=>rfl),rfl,?_,?_⟩,?_⟩
  ·intro b off hp
   have hin:MemPlace.cell b off∈before:=by rw [hps];simpa using hp
   rw [hb.frozen (hlt _ hin)]
   exact hz b off hin
  ·intro ha
   have:=hn ha
   rw [hps] at this
   simpa using this
  ·intro p hp _
   rw [hps]
   simpa using hp
end
end Go.Av
open Go in
theorem Go.Av.lit_i64 {n:Int} (h:(Lit.int .i64 n).wf=true) : -9223372036854775808≤n∧n≤9223372036854775807:=by
 simpa [Lit.wf,IntKind.min,IntKind.max,IntKind.signed,IntKind.bits] using h
namespace Go.Proofs.YtmoklbacdkmkaaaGreatDoor
open Go Go.Av Go.RowKit
theorem zdk:((List.range 395).filter fun t=>Tryz.prog.rowNamed t [101,114,114,111,114])=[29]:=by kernel_rfl
theorem zec : (Tryz.prog.cutTypes.find? (·.1 == "internal/reflectlite.rtype")).map (·.2) = some 277 := by kernel_rfl
theorem zee:Tryz.prog.types.size=395:=by kernel_rfl
theorem zd8:typeHandle Tryz.prog 29 = .pointer (some ⟨9,29,none⟩):=by kernel_rfl
theorem q90 : Tryz.prog.globalNamed "errors.errorType" = some 0 := by kernel_rfl
theorem qw4 {l : List (String × DataW Unit)} (h : (l.all fun x => x.1 == "errors.errorType" || x.2.handleName?.isNone) = true) {x : String × DataW Unit} (hx : x ∈ l) (hn : (x.1 == "errors.errorType") = false) : x.2.handleName?.isNone = true := by
 have:=List.all_eq_true.1 h x hx
 rw [hn] at this
 simpa using this
theorem qws {P:Program} {w0:World} {laid:List (String×DataW Unit)} (args:Array Value) (hf:w0.layFits P laid []=true) (hi:w0.layIfaces P laid (w0.layVars P laid)=true) :
  laidMet P laid ((w0.layVars P laid).forCall (fun _ _=>0) ⟨#[],args,[]⟩).memory:=by
 have e1:(laid.filter fun x=>(laid.map Prod.fst).contains x.1)=laid:=List.filter_eq_self.2 fun x hx=>List.contains_iff_mem.2 (List.mem_map_of_mem hx)
 have e2:(laid.filter fun x=> !(laid.map Prod.fst).contains x.1)=[]:=List.filter_eq_nil_iff.2 fun x hx=>by
  rw [List.contains_iff_mem.2 (List.mem_map_of_mem (f:=Prod.fst) hx)]
  simp
 have h:laidMet P laid (w0.layVars P laid):=laidMet_layVars (w0:=w0) (laid.map Prod.fst) [] (by rw [e1]) (by rw [e1];exact hf) (by rw [e1];exact hi) (by rw [e2];exact LaidIn.none)
 exact h.of_heap (by simp [World.memory,World.forCall,Input.heap])
noncomputable def zd7 (os:Os):World:={ World.holding Tryz.prog os ⟨#[],#[],[]⟩ with heap:=(World.holding Tryz.prog os ⟨#[],#[],[]⟩).heap.modify 0 fun
 | .cells _ t fz=>.cells #[.iface 277 (.agg #[.pointer (some ⟨9,29,none⟩)])] t fz
 |o=>o }
theorem zbf {l:List (String×DataW Unit)} {W:World}
  (hp : (l.filter fun x => x.2.handleName?.isSome) = [("errors.errorType", Rows.laid_errors_errorType)] ∧ (l.all fun x => x.1 == "errors.errorType" || x.2.handleName?.isNone) = true)
  (hL:laidMetH Tryz.prog l W) (hs:W.ShapedOpen Tryz.prog)
  (h1 : ("internal/strconv.uint64pow10", Rows.laid_internal_strconv_uint64pow10) ∈ l) (h2 : ("strconv.ErrSyntax", Rows.laid_strconv_ErrSyntax) ∈ l) (h3 : ("strconv.ErrRange", Rows.laid_strconv_ErrRange) ∈ l) : E.L W.heap.size W := by
 unfold laidMetH at hL
 rw [hp.1] at hL
 simp only at hL
 intro w hb
 obtain⟨hL,hH⟩:=hL
 have h1:=(List.mem_filter (p:=fun x=>x.2.handleName?.isNone)).2 ⟨h1,qw4 hp.2 h1 (by decide)⟩
 have h2:=(List.mem_filter (p:=fun x=>x.2.handleName?.isNone)).2 ⟨h2,qw4 hp.2 h2 (by decide)⟩
 have h3:=(List.mem_filter (p:=fun x=>x.2.handleName?.isNone)).2 ⟨h3,qw4 hp.2 h3 (by decide)⟩
 obtain⟨name,u,ty,e1,e2,e3,e4,e5⟩:=hH _ (List.mem_singleton.2 rfl)
 have en:name=[101,114,114,111,114]:=(Option.some.inj e1).symm
 subst en
 obtain rfl:=Option.some.inj (zec.symm.trans e2)
 have hm:ty∈(List.range 395).filter fun t=>Tryz.prog.rowNamed t [101,114,114,111,114]:=List.mem_filter.2 ⟨List.mem_range.2 (by rw [← zee];exact e3),e4⟩
 rw [zdk] at hm
 obtain rfl:=List.mem_singleton.1 hm
 rw [zd8] at e5
 have hv:=World.var?_cell q90 (Go.Joins.var_stays q90 e5 hb (Nat.le_refl _)) 0
 have g1 : Tryz.prog.globalNamed "internal/strconv.uint64pow10" = some 4 := by kernel_rfl
 have g2 : Tryz.prog.globalNamed "strconv.ErrSyntax" = some 2 := by kernel_rfl
 have g3 : Tryz.prog.globalNamed "strconv.ErrRange" = some 3 := by kernel_rfl
 have t1:=qso (k:=.u64) (zs:=Lib.pow10Tab) (t:=357) (e:=294) (n:=20) g1 (by kernel_rfl) (by kernel_rfl) (by kernel_rfl) (by kernel_rfl) (by kernel_rfl) (Lib.laidMet.reads hL h1)
 obtain⟨tp2,p2,v2⟩:=qli (t:=29) g2 (by kernel_rfl) rfl (Lib.laidMet.reads hL h2)
 obtain⟨tp3,p3,v3⟩:=qli (t:=29) g3 (by kernel_rfl) rfl (Lib.laidMet.reads hL h3)
 exact⟨hs.keptBut (hb.frame (fun _=>False)) (fun _ h=>h.elim),Go.Joins.var_stays g1 t1 hb (Nat.le_refl _),⟨tp2,p2,Go.Joins.var_stays g2 v2 hb (Nat.le_refl _)⟩,⟨tp3,p3,Go.Joins.var_stays g3 v3 hb (Nat.le_refl _)⟩,by simpa using hv⟩
end Go.Proofs.YtmoklbacdkmkaaaGreatDoor
namespace Go.Pl
open Go
abbrev qb:=List UInt8
theorem qcn (l:qb) (c:UInt8):0≤Lib.index l [c]↔c∈l:=by
 induction l with
 |nil=>simp [Lib.index]
 |cons b l ih=>
  have hge:=Lib.index_ge l [c]
  unfold Lib.index
  by_cases hb:c=b
  ·subst hb
   simp [List.isPrefixOf]
  ·have hp:([c]:qb).isPrefixOf (b::l)=false:=by simp [List.isPrefixOf,hb]
   rw [hp]
   by_cases hm:Lib.index l [c] = -1
   ·have:c∉l:=fun h=>by have:=ih.2 h;omega
    simp [hm,hb,this]
   ·have:c∈l:=ih.1 (by omega)
    simp [hm,this]
    omega
theorem qly (l:qb) (c:UInt8):Lib.contains l [c]=decide (c∈l):=by
 unfold Lib.contains
 by_cases h:c∈l
 ·simp [h,(qcn l c).2 h]
 ·have:¬ 0≤Lib.index l [c]:=fun h'=>h ((qcn l c).1 h')
  simp [h,this]
theorem qlf (l:qb) (c:UInt8):Lib.hasPrefix l [c]=decide (l.head? = some c):=by
 cases l with
 |nil=>simp [Lib.hasPrefix]
 |cons b l=>
  by_cases h:c=b
  ·simp [Lib.hasPrefix,List.isPrefixOf,h]
  ·simp [Lib.hasPrefix,List.isPrefixOf,h,Ne.symm h]
def vu (c:UInt8):Prop:=c=32∨c=9
instance (c:UInt8):Decidable (vu c):=inferInstanceAs (Decidable (c=32∨c=9))
def qeg (l:qb):Prop:=∃ c,l.head? = some c∧vu c
instance (l:qb):Decidable (qeg l):=
 match l with
 | []=>.isFalse (by rintro⟨c,h,_⟩;simp at h)
 |c::r=>decidable_of_iff (vu c) ⟨fun h=>⟨c,rfl,h⟩,fun ⟨d,h,hd⟩=>by simp at h;subst h;exact hd⟩
def yl (l:qb):Prop:=l≠[]∧l.length≤32∧¬ qeg l∧¬ l.head? = some 35∧58∉l∧10∉l
instance (l:qb):Decidable (yl l):=inferInstanceAs (Decidable (_∧_∧_∧_∧_∧_))
theorem qis (l:qb):yl l↔1≤l.length∧l.length≤32∧¬ vu (l.getD 0 0)∧l.getD 0 0≠35∧58∉l∧10∉l:=by
 cases l with
 |nil=>simp [yl]
 |cons c l=>simp [yl,qeg]
theorem qr3 (c:UInt8) (l:qb):Lib.contains [32,9] [c]=decide (qeg (c::l)):=by
 rw [qly]
 have:qeg (c::l)↔vu c:=⟨fun ⟨d,h,hd⟩=>by simp at h;subst h;exact hd,fun h=>⟨c,rfl,h⟩⟩
 simp [this,vu]
def upto (c:UInt8) (l:qb):qb:=l.takeWhile (·≠c)
def past (c:UInt8) (l:qb):qb:=l.drop ((upto c l).length+1)
theorem qqm (c:UInt8) (l:qb) (h:c∈l):Lib.index l [c]=((upto c l).length:Int):=by
 induction l with
 |nil=>simp at h
 |cons b l ih=>
  unfold Lib.index upto
  by_cases hb:b=c
  ·subst hb;simp [List.isPrefixOf]
  ·have hp:([c]:qb).isPrefixOf (b::l)=false:=by simp [List.isPrefixOf,Ne.symm hb]
   have hl:c∈l:=by simpa [Ne.symm hb] using h
   have e:=ih hl
   rw [hp]
   have:(Lib.index l [c] == -1)=false:=by rw [e];simp
   simp only [this]
   rw [e]
   simp [hb,upto]
theorem qiz (c:UInt8) (l:qb):l.take (upto c l).length=upto c l:=by
 induction l with
 |nil=>simp [upto]
 |cons b l ih=>
  by_cases hb:b=c
  ·simp [upto,hb]
  ·have:upto c (b::l)=b::upto c l:=by simp [upto,hb]
   rw [this]
   simp [ih]
theorem qb0 {c:UInt8} {l:qb} (h:c∉l):upto c l=l:=by
 induction l with
 |nil=>rfl
 |cons b l ih=>
  have hb:b≠c:=fun e=>h (by simp [e])
  have:upto c (b::l)=b::upto c l:=by simp [upto,hb]
  rw [this,ih (fun h'=>h (by simp [h']))]
theorem j8 (c:UInt8) (l:qb):(upto c l).length≤l.length:=by
 have:=congrArg List.length (qiz c l)
 simp at this
 omega
theorem qc8 {c:UInt8} {l:qb} (h:c∈l):(upto c l).length<l.length:=by
 induction l with
 |nil=>simp at h
 |cons b l ih=>
  by_cases hb:b=c
  ·simp [upto,hb]
  ·have:upto c (b::l)=b::upto c l:=by simp [upto,hb]
   rw [this]
   have:=ih (by simpa [Ne.symm hb] using h)
   simp
   omega
theorem j9 (c:UInt8) (l:qb):(past c l).length=l.length - ((upto c l).length+1):=by simp [past]
theorem zau (c:UInt8) (l:qb):Lib.cut l [c]=(upto c l,past c l,decide (c∈l)):=by
 unfold Lib.cut
 by_cases h:c∈l
 ·rw [if_pos ((qcn l c).2 h),qqm c l h]
  simp [qiz,past,h]
 ·rw [if_neg (fun h'=>h ((qcn l c).1 h'))]
  simp [qb0 h,past,h]
theorem wo {c:UInt8} {l:qb} (h:l≠[]):(past c l).length<l.length:=by
 rw [j9]
 have:=List.length_pos_iff.2 h
 omega
def zl (l:qb):List (qb×Bool):=
 if h:l=[] then [] else (upto 10 l,decide (10∈l))::zl (past 10 l)
 termination_by l.length
 decreasing_by exact wo h
theorem vq:zl []=[]:=by rw [zl];simp
theorem v7 {l:qb} (h:l≠[]):zl l=(upto 10 l,decide (10∈l))::zl (past 10 l):=by rw [zl];simp [h]
def x9 (b:Bool):qb:=if b then [10] else []
def vn (by' l:qb):qb×Bool:=
 if ∀ x∈zl l,by' <+: x.1 then ((zl l).flatMap fun x=>x.1.drop by'.length++x9 x.2,true) else ([],false)
theorem qdm (l m:qb):(Lib.trimPrefix l m).length≤l.length:=by
 unfold Lib.trimPrefix
 split
 ·simp
 ·exact Nat.le_refl _
theorem w6 (l m:qb):Lib.hasPrefix l m=true↔m <+: l:=by
 unfold Lib.hasPrefix
 exact List.isPrefixOf_iff_prefix
theorem qb3 {l m:qb} (h:m <+: l):Lib.trimPrefix l m=l.drop m.length:=by
 unfold Lib.trimPrefix
 rw [if_pos ((w6 l m).2 h)]
theorem yp {c:UInt8} {a:qb} (r:qb) (h:c∉a):upto c (a++c::r)=a:=by
 induction a with
 |nil=>simp [upto]
 |cons b a ih=>
  have hb:b≠c:=fun e=>h (by simp [e])
  have h2:c∉a:=fun e=>h (by simp [e])
  have e:upto c (b::(a++c::r))=b::upto c (a++c::r):=by simp [upto,hb]
  rw [List.cons_append,e,ih h2]
theorem qa7 {c:UInt8} {a:qb} (r:qb) (h:c∉a):past c (a++c::r)=r:=by
 unfold past
 rw [yp r h,show a++c::r=(a++[c])++r by simp,show a.length+1=(a++[c]).length by simp,List.drop_left]
theorem xw {c:UInt8} {l:qb} (h:c∈l):l=upto c l++c::past c l:=by
 induction l with
 |nil=>simp at h
 |cons b l ih=>
  by_cases hb:b=c
  ·subst hb;simp [upto,past]
  ·have h2:c∈l:=by simpa [Ne.symm hb] using h
   have e1:upto c (b::l)=b::upto c l:=by simp [upto,hb]
   have e2:past c (b::l)=past c l:=by simp [past,e1]
   rw [e1,e2,List.cons_append,← ih h2]
theorem qaw (c:UInt8) (l:qb):c∉upto c l:=by
 induction l with
 |nil=>simp [upto]
 |cons b l ih=>
  by_cases hb:b=c
  ·simp [upto,hb]
  ·have e1:upto c (b::l)=b::upto c l:=by simp [upto,hb]
   rw [e1]
   simp [Ne.symm hb,ih]
def z4 (l:qb):qb:=l.takeWhile (·≠58)
theorem qy4 (l:qb) (h:58∈l):Lib.index l [58]=((z4 l).length:Int):=by
 induction l with
 |nil=>simp at h
 |cons b l ih=>
  unfold Lib.index z4
  by_cases hb:b=58
  ·subst hb;simp [List.isPrefixOf]
  ·have hp:([58]:qb).isPrefixOf (b::l)=false:=by simp [List.isPrefixOf,Ne.symm hb]
   have hl:58∈l:=by simpa [Ne.symm hb] using h
   have e:=ih hl
   rw [hp]
   have:(Lib.index l [58] == -1)=false:=by rw [e];simp
   simp only [this]
   rw [e]
   simp [hb,z4]
theorem qx9 (l:qb):l.take (z4 l).length=z4 l:=by
 induction l with
 |nil=>simp [z4]
 |cons b l ih=>
  by_cases hb:b=58
  ·simp [z4,hb]
  ·have:z4 (b::l)=b::z4 l:=by simp [z4,hb]
   rw [this]
   simp [ih]
def js (l:qb):qb:=l.drop ((z4 l).length+1)
theorem qs5 (l:qb):Lib.cut l [58]=if 58∈l then (z4 l,js l,true) else (l,[],false):=by
 unfold Lib.cut
 by_cases h:58∈l
 ·rw [if_pos ((qcn l 58).2 h),if_pos h,qy4 l h]
  simp [qx9,js]
 ·rw [if_neg (fun h'=>h ((qcn l 58).1 h')),if_neg h]
theorem qqq {l:qb} {k:Nat} (h:58∉l.take k) (hk:k<l.length) (e:l.getD k 0=58):z4 l=l.take k∧58∈l:=by
 induction l generalizing k with
 |nil=>simp at hk
 |cons b l ih=>
  cases k with
  |zero=>simp at e;subst e;simp [z4]
  |succ k=>
   simp only [List.take_succ_cons,List.mem_cons,not_or] at h
   obtain⟨h1,h2⟩:=ih h.2 (by simpa using hk) (by simpa using e)
   have:z4 (b::l)=b::z4 l:=by simp [z4,Ne.symm h.1]
   exact⟨by rw [this,h1];rfl,by simp [h2]⟩
def qdi (l:qb):qb×qb×Bool:=if 10∉l∧58∈l∧yl (z4 l) then (z4 l,js l,true) else ([],[],false)
def qw (l:qb):Int:=
 if 10∈l then 5 else if ∀ c∈l,vu c then 1 else if l.head? = some 35 then 2 else if qeg l then 3
 else if 58∈l∧yl (z4 l) then 4 else 5
theorem qnx {l:qb} (h:10∉l) (hb:¬ ∀ c∈l,vu c):0<l.length∧qw l=if l.getD 0 0=35 then 2 else if vu (l.getD 0 0) then 3 else if 58∈l∧yl (z4 l) then 4 else 5:=by
 cases l with
 |nil=>simp at hb
 |cons c l=>
  have e:qeg (c::l)↔vu c:=⟨fun ⟨d,h,hd⟩=>by simp at h;subst h;exact hd,fun h=>⟨c,rfl,h⟩⟩
  refine⟨by simp,?_⟩
  unfold qw
  rw [if_neg h,if_neg hb]
  simp [e]
theorem qle {α : Type} (p : α→Bool) (l:List α):l.dropWhile p=[]↔∀ x∈l,p x=true:=by
 induction l with
 |nil=>simp
 |cons a l ih=>
  by_cases h:p a=true
  ·simp [h,ih]
  ·simp [h]
theorem q7t {α : Type} (p : α→Bool) (l:List α):(l.reverse.dropWhile p).reverse.dropWhile p=[]↔∀ x∈l,p x=true:=by
 rw [qle]
 constructor
 ·intro h x hx
  by_cases hq:∀ y∈l,p y=true
  ·exact hq x hx
  ·have hr:¬ ∀ y∈l.reverse,p y=true:=fun h'=>hq fun y hy=>h' y (by simpa using hy)
   rw [← qle] at hr
   obtain⟨a,r,hd⟩:=List.exists_cons_of_ne_nil hr
   have h1:=List.head?_dropWhile_not p l.reverse
   rw [hd] at h1
   have h2:=h a (by simp [hd])
   simp [h2] at h1
 ·intro h x hx
  exact h x (by
   have:=(List.dropWhile_sublist (l:=l.reverse) p).subset (by simpa using hx)
   simpa using this)
theorem qmo (l m:qb):Lib.trimS l m=[]↔∀ c∈l,c∈m:=by
 unfold Lib.trimS Lib.trimLeftS Lib.trimRightS
 rw [q7t]
 simp
theorem qp6 (l m:qb):(Lib.cut l m).1.length≤l.length:=by
 unfold Lib.cut
 split
 ·simp;omega
 ·simp
def qas (l:qb):Prop:=2≤l.length∧l.length≤50000∧l.getLast? = some 10∧(vn [32] l).2=true
instance (l:qb):Decidable (qas l):=inferInstanceAs (Decidable (_∧_∧_∧_))
def qip (n:Nat) (fig:qb):qb:=[37,97,109,101,110,100,32]++Lib.itoa n++[32]++fig++[10]
def qdl (n:Nat):qb:=[37,101,110,100,32]++Lib.itoa n++[10]
theorem qgv:∀ (k u:Nat),u<10 ^ (k+1)→Lib.nDigits u≤k+1
 | 0,u,h=>by rw [Lib.nDigits_small (by simpa using h)];omega
 |k+1,u,h=>by
  by_cases h':u<10
  ·rw [Lib.nDigits_small h'];omega
  ·rw [Lib.nDigits_big h']
   have:=qgv k (u / 10) (by rw [Nat.pow_succ] at h;omega)
   omega
theorem qhp (n:Nat) (h:n≤9223372036854775807):(Lib.itoa n).length≤19:=by
 unfold Lib.itoa
 rw [if_neg (by omega),Lib.decDigits_length]
 have:((n:Int)).toNat=n:=by simp
 rw [this]
 exact qgv 18 n (by omega)
theorem qf9 (l:qb) (c:UInt8):Lib.hasSuffix l [c]=decide (l.getLast? = some c):=by
 have:Lib.hasSuffix l [c]=true↔l.getLast? = some c:=by
  unfold Lib.hasSuffix
  rw [List.isSuffixOf_iff_suffix,List.singleton_suffix_iff_getLast?_eq_some]
 by_cases h:l.getLast? = some c
 ·simp [this.2 h,h]
 ·have:¬ Lib.hasSuffix l [c]=true:=fun h'=>h (this.1 h')
  simp [this,h]
theorem atoiAll_bounds {l:qb} {v:Int} (h:Lib.atoiAll l = .ok v) : -9223372036854775808≤v∧v≤9223372036854775807:=by
 unfold Lib.atoiAll at h
 cases l with
 |nil=>simp at h
 |cons c r=>
  simp only at h
  split at h
  ·simp at h
  ·simp at h
  ·split at h
   ·simp at h
   ·split at h
    ·simp at h
    ·rename_i h1 h2
     simp only [Lib.NumEnd.ok.injEq] at h
     subst h
     by_cases hn:c.toNat=45
     ·simp only [hn,true_and,not_true,if_true] at *
      omega
     ·simp only [hn,not_false_iff,true_and,if_false] at *
      omega
def vc (l:qb):Nat:=
 match Lib.atoiAll l with
 | .ok v=>if Lib.itoa v=l∧1≤v∧v≤50000 then v.toNat else 0
 | _=>0
def zy:qb:=[37,97,109,101,110,100,32]
def hexL:qb:=[48,49,50,51,52,53,54,55,56,57,97,98,99,100,101,102]
def qau (l:qb):Prop:=∀ c∈l,c∈hexL
instance (l:qb):Decidable (qau l):=inferInstanceAs (Decidable (∀ c∈l,c∈hexL))
theorem qt7 (l:qb):Lib.trimS l [48,49,50,51,52,53,54,55,56,57,97,98,99,100,101,102]=[]↔qau l:=qmo l hexL
def jd (l:qb):Nat×qb×Bool:=
 (vc (upto 32 (Lib.trimPrefix l zy)),past 32 (Lib.trimPrefix l zy),
  decide (zy <+: l∧32∈Lib.trimPrefix l zy∧2≤vc (upto 32 (Lib.trimPrefix l zy))∧(past 32 (Lib.trimPrefix l zy)).length=8∧qau (past 32 (Lib.trimPrefix l zy))))
def qdp (l:qb):Bool:=
 if zy <+: l then decide (¬ (32∈l.drop 7∧vc (upto 32 (l.drop 7))<2)∧¬ (upto 32 (l.drop 7)≠[]∧vc (upto 32 (l.drop 7))=0)∧(past 32 (l.drop 7)).length≤8∧qau (past 32 (l.drop 7)))
 else decide (l <+: zy)
theorem qw8 {l:qb} (h:∀ v,Lib.atoiAll l≠.ok v):vc l=0:=by
 unfold vc
 cases ho:Lib.atoiAll l with
 |ok v=>exact absurd ho (h v)
 | _=>rfl
theorem qq1 {l:qb} {v:Int} (h:Lib.atoiAll l = .ok v):(vc l:Int)=if Lib.itoa v=l∧1≤v∧v≤50000 then v else 0:=by
 unfold vc
 rw [h]
 simp only
 split
 ·omega
 ·rfl
theorem qbw (l:qb):vc l≤50000:=by
 unfold vc
 split
 ·split
  ·omega
  ·omega
 ·omega
def qg6 (n:Int):Int:=if n<2∨50000<n then 0 else (qip n.toNat [48,48,48,48,48,48,48,48]).length+n+(qdl n.toNat).length
theorem qf8 (l m:qb):Lib.hasPrefix l m=decide (m <+: l):=by
 by_cases h:m <+: l
 ·simp [(w6 l m).2 h,h]
 ·have:¬ Lib.hasPrefix l m=true:=fun h'=>h ((w6 l m).1 h')
  simp [this,h]
def qd4 (body:qb) (lack:Int):Int:=
 if (vn [32] body).2=true∧¬ ((body=[]∨body.getLast? = some 10)∧lack<2) then 2 else 3
theorem rep8:Lib.repeatL [48] 8=[48,48,48,48,48,48,48,48]:=by decide
theorem qem (n:Nat) (f:qb):(qip n f).length=(Lib.itoa n).length+f.length+9:=by simp [qip] <;> omega
theorem qet (n:Nat):(qdl n).length=(Lib.itoa n).length+6:=by simp [qdl] <;> omega
theorem qb1 {u:Nat} (h:¬ u<10):Lib.decDigits u=Lib.decDigits (u / 10)++Lib.decDigits (u % 10):=by
 rw [Lib.decDigits,dif_neg h,Lib.decDigits_one (Nat.mod_lt u (by omega))]
end Go.Pl
namespace Go.Proofs.YtmoklbacdkmkaaaGreatDoor
open Go Go.Av Go.RowKit Go.Proofs Go.Pl
theorem qnl (l:List UInt8) (c:UInt8) (st:List AObj) (hl:l.length<4294967281):qm E 212 [Sv l,Sv [c]] st fun r st'=>r=Bv (decide (c∈l))∧st'=st:=by
 rw [← qly];exact qp4 l [c] st hl
theorem qek (l:List UInt8) (c:UInt8) (st:List AObj):qm E 164 [Sv l,Sv [c]] st fun r st'=>r=Bv (decide (l.head? = some c))∧st'=st:=by
 rw [← qlf];exact qdf l [c] st
theorem qz1 (l:List UInt8) (st:List AObj):qm E 214 [Sv l] st fun r st'=>r=Bv (decide (qeg l))∧st'=st:=by
 refine qy (qq _) (qp Tryz.func214 rfl (Nat.le_of_ble_eq_true rfl) ?_)
 cases l with
 |nil=>
  repeat' (first|apply ql|apply qe|apply qf|apply qi|apply qg|(apply jo;(iterate 3 exact rfl))|(apply qx;(iterate 4 exact rfl))|(apply yf;exact cRa)|(apply qo;exact rfl;apply pk_f;exact cRa)|apply qt)
  refine qn rfl (q9 rfl) ⟨congrArg Bv (?_:_=_),_,rfl⟩
  simp [qeg]
 |cons c l=>
  have hne:¬ (c::l)=[]:=by simp
  repeat' (first|apply ql|apply qe|apply qf|apply qi|apply qg|(apply jo;(iterate 3 exact rfl))|(apply qx;(iterate 4 exact rfl))|(apply qbs;exact cAo)|(apply qo;exact rfl;apply y6;exact cAo)|apply qt|refine qda rfl rfl rfl ⟨_,rfl⟩ (by omega) (by omega) (by simp;omega) ?_|(apply qk;exact Tryz.call212;exact qp4 _ _ _ (by simp)))
  refine qn rfl (q9 rfl) ⟨congrArg Bv (?_:_=_),_,rfl⟩
  exact qr3 c l
theorem q93 (l:List UInt8) (st:List AObj) (hl:l.length<4294967281):qm E 215 [Sv l] st fun r st'=>r=Bv (decide (yl l))∧st'=st:=by
 refine qy (qq _) (qp Tryz.func215 rfl (Nat.le_of_ble_eq_true rfl) ?_)
 repeat' (first|apply ql|apply qe|apply qf|apply qi|apply qg|(apply qr;(iterate 3 exact rfl))|(apply jo;(iterate 3 exact rfl))|(apply z6;exact rfl)|(apply qx;(iterate 4 exact rfl))|(apply yn;exact cAo)|(apply ye;exact cAo)|(apply qti;exact cRa)|(apply qqj;exact cRa)|(apply qka <;> intro h)|(apply qar;exact cRa)|(apply wg <;> intro h)|(apply qo;exact rfl;apply y6;exact cAo)|(apply qo;exact rfl;apply qay;exact cAo)|(apply qo;exact rfl;apply qkt;exact cRa)|(apply qo;exact rfl;apply qfl;exact cRa)|(apply qo;exact rfl;apply pk_t;exact cRa)|(apply qc;exact rfl;apply cd_t;exact cRa)|(apply qc;exact rfl;apply cd_d <;> intro h)|(apply jp;(iterate 3 exact rfl))|apply qs|apply qt|(apply qk;exact Tryz.call212;exact qnl _ _ _ hl)|(apply qk;exact Tryz.call164;exact qek _ _ _)|(apply qk;exact Tryz.call214;exact qz1 _ _))
 all_goals refine qn rfl (q9 rfl) ⟨congrArg Bv (?_:_=_),_,rfl⟩
 all_goals simp [yl, *]
 all_goals omega
theorem qkw (c:UInt8) (st:List AObj):qm E 178 [Uv c] st fun r st'=>r=Bv (decide (vu c))∧st'=st:=by
 refine qy (qq _) (qp Tryz.func178 rfl (Nat.le_of_ble_eq_true rfl) ?_)
 repeat' (first|apply ql|apply qe|apply qf|apply qi|apply qg|(apply qr;(iterate 3 exact rfl))|(apply qx;(iterate 4 exact rfl))|(apply yn;exact cAo)|(apply ye;exact cAo)|(apply wg <;> intro h)|(apply qo;exact rfl;apply y6;exact cAo)|(apply qo;exact rfl;apply qay;exact cAo)|apply qt)
 all_goals refine qn rfl (q9 rfl) ⟨congrArg Bv (?_:_=_),_,rfl⟩
 all_goals simp_all [vu,q3b,u8_9]
theorem qxu (l:List UInt8) (st:List AObj) (hl:l.length<4294967281):qm E 223 [Sv l] st fun r st'=>r=Bv (decide (yl l))∧st'=st:=by
 refine qy (qq _) (qp Tryz.func223 rfl (Nat.le_of_ble_eq_true rfl) ?_)
 repeat' (first|apply ql|apply qv|apply qe|apply qf|apply qi|apply qg|(apply qr;(iterate 3 exact rfl))|(apply qx;(iterate 4 exact rfl))|(apply yn;exact cAo)|(apply ye;exact cAo)|(apply qar;exact cRa)|(apply wg <;> intro h)|(apply qo;exact rfl;apply y6;exact cAo)|(apply qo;exact rfl;apply qay;exact cAo)|(apply qo;exact rfl;apply pk_t;exact cRa)|(apply qc;exact rfl;apply cd_t;exact cRa)|(apply qc;exact rfl;apply cd_d <;> intro h)|(apply jp;(iterate 3 exact rfl))|(apply ym;(iterate 3 exact rfl);exact cAs)|apply qs|apply qt|(apply qk;exact Tryz.call178;exact qkw _ _))
 rotate_left 4
 ·refine kh (fun (k:Nat) s=>k≤l.length∧58∉l.take k∧10∉l.take k∧StA [(0,Sv l),(3,Iv k)] (st++[]) [] s) (fun k=>l.length - k) 0 ⟨by omega,by simp,by simp,jw ⟨rfl,rfl,trivial⟩⟩ ?_
  rintro k _ ⟨hk,h1,h2,t,rfl⟩
  repeat' (first|apply ql|apply qv|apply qe|apply qf|apply qi|apply qg|(apply qr;(iterate 3 exact rfl))|(apply qx;(iterate 4 exact rfl))|(apply yn;exact cAo)|(apply ye;exact cAo)|(apply wg <;> intro h)|(apply qo;exact rfl;apply y6;exact cAo)|(apply qo;exact rfl;apply qay;exact cAo)|(apply qc;exact rfl;apply cd_t;exact cRa)|(apply qc;exact rfl;apply cd_d <;> intro h)|(apply jp;(iterate 3 exact rfl))|(apply zk;exact rfl;exact rfl;exact zb (by omega) (by omega))|(apply ym;(iterate 3 exact rfl);exact cAs)|apply qs|apply jh|apply qt)
  rotate_left 2
  ·exact⟨k+1,⟨by omega,qc0 (by omega) h1 (by simp_all [qrp]),qc0 (by omega) h2 (by simp_all [qeu]),jw ⟨rfl,rfl,trivial⟩⟩,by omega⟩
  all_goals refine qn rfl (q9 rfl) ⟨congrArg Bv (?_:_=_),_,rfl⟩
  ·have e:k=l.length:=by omega
   subst e
   simp_all [qis,qm7]
   omega
  ·have:=qjm (l:=l) (k:=k) (by omega)
   simp_all [qis,qrp]
  ·have:=qjm (l:=l) (k:=k) (by omega)
   simp_all [qis,qeu]
 all_goals refine qn rfl (q9 rfl) ⟨congrArg Bv (?_:_=_),_,rfl⟩
 all_goals simp_all [qis,qm7]
 all_goals omega
theorem E_ok:q9v E:=fun _ _ _ h hb hB _ h2=>h _ (hb.trans (h2.mono hB))
theorem qxs (l:List UInt8) (st:List AObj) (hl:l.length<4294967281):qm E 179 [Sv l] st fun r st'=>r = .tu [Sv (qdi l).1,Sv (qdi l).2.1,Bv (qdi l).2.2]∧st'=st:=by
 refine qy (qd5 _ _ _) (qp Tryz.func179 rfl (Nat.le_of_ble_eq_true rfl) ?_)
 repeat' (first|apply ql|apply qv|apply qe|apply qf|apply qg)
 refine kh (fun (k:Nat) s=>k≤l.length∧10∉l.take k∧StA [(0,Sv l),(2,Sv []),(3,Sv []),(4,Bv false),(5,Iv k)] (st++[]) [] s) (fun k=>l.length - k) 0 ⟨by omega,by simp,jw ⟨rfl,rfl,rfl,rfl,rfl,trivial⟩⟩ ?_
 rintro k _ ⟨hk,h1,t,rfl⟩
 repeat' (first|apply ql|apply qv|apply qe|apply qf|apply qi|apply qg|(apply qr;(iterate 3 exact rfl))|(apply qc;exact rfl;apply cd_d <;> intro h)|(apply jp;(iterate 3 exact rfl))|(apply zk;exact rfl;exact rfl;exact zb (by omega) (by omega))|(apply ym;(iterate 3 exact rfl);exact cAs)|apply qs|apply jh|apply qt)
 rotate_left 1
 ·exact⟨k+1,⟨by omega,qc0 (by omega) h1 (by simp_all [qeu]),jw ⟨rfl,rfl,rfl,rfl,rfl,trivial⟩⟩,by omega⟩
 ·have e:k=l.length:=by omega
  subst e
  rw [List.take_length] at h1
  refine kh (fun (k:Nat) s=>k≤l.length∧58∉l.take k∧StA [(0,Sv l),(2,Sv []),(3,Sv []),(4,Bv false),(6,Iv k)] (st++[]) [] s) (fun k=>l.length - k) 0 ⟨by omega,by simp,jw ⟨rfl,rfl,rfl,rfl,rfl,trivial⟩⟩ ?_
  rintro k _ ⟨hk,h2,t,rfl⟩
  repeat' (first|apply ql|apply qv|apply qe|apply qf|apply qi|apply qg|(apply qr;(iterate 3 exact rfl))|(apply z6;exact rfl)|(apply qc;exact rfl;apply cd_n <;> intro h)|(apply qc;exact rfl;apply cd_d <;> intro h)|(apply jp;(iterate 3 exact rfl))|(apply zk;exact rfl;exact rfl;exact zb (by omega) (by omega))|(apply ym;(iterate 3 exact rfl);exact cAs)|(apply qid;(iterate 3 exact rfl);exact cAs)|(apply qhe;exact rfl;kernel_rfl)|apply qfq|apply qdw|apply qlp|(apply qvm;exact rfl;exact rfl;exact zb (by omega) (by omega))|(apply qrw;(iterate 3 exact rfl);exact cAs)|(apply qrv;(iterate 3 exact rfl);exact cAs)|apply qs|apply jh|apply qt|(apply qk;exact Tryz.call223;exact qxu _ _ (by simp;omega)))
  rotate_left 2
  ·exact⟨k+1,⟨by omega,qc0 (by omega) h2 (by simp_all [qrp]),jw ⟨rfl,rfl,rfl,rfl,rfl,trivial⟩⟩,by omega⟩
  all_goals refine qn rfl (qbm rfl) ⟨qyb (?_:_=_),_,rfl⟩
  ·have e:k=l.length:=by omega
   subst e
   rw [List.take_length] at h2
   simp [qdi,h2]
  ·obtain⟨e1,e2⟩:=qqq h2 (by omega) (by simp_all [qrp])
   simp_all [qdi]
  ·obtain⟨e1,e2⟩:=qqq h2 (by omega) (by simp_all [qrp])
   have hk':k<l.length:=by omega
   have hk2:(l.take k).length=k:=by simp;omega
   have hkey:yl (l.take k):=by simp_all
   simp only [qdi,js,e1,e2,h1,hkey,hk2]
   simp
 ·refine qn rfl (qbm rfl) ⟨qyb (?_:_=_),_,rfl⟩
  have:=qjm (l:=l) (k:=k) (by omega)
  simp_all [qdi,qeu]
theorem qf2 (l:List UInt8) (st:List AObj) (hl:l.length<4294967281):qm E 108 [Sv l] st fun r st'=>r=Iv (qw l)∧st'=st:=by
 refine qy (qq _) (qp Tryz.func108 rfl (Nat.le_of_ble_eq_true rfl) ?_)
 repeat' (first|apply ql|apply qv|apply qe|apply qf|apply qg)
 refine kh (fun (k:Nat) s=>k≤l.length∧10∉l.take k∧∃ b,(b=true↔∀ c∈l.take k,vu c)∧StA [(0,Sv l),(3,Bv b),(4,Iv k)] (st++[]) [] s) (fun k=>l.length - k) 0 ⟨by omega,by simp,true,by simp,jw ⟨rfl,rfl,rfl,trivial⟩⟩ ?_
 rintro k _ ⟨hk,h1,b,hb,t,rfl⟩
 repeat' (first|apply ql|apply qv|apply qe|apply qf|apply qi|apply qg|(apply qr;(iterate 3 exact rfl))|(apply qx;(iterate 4 exact rfl))|(apply y3;exact cRa)|(apply yf;exact cRa)|(apply qe6 <;> intro h)|(apply qo;exact rfl;apply pk_t;exact cRa)|(apply qo;exact rfl;apply pk_f;exact cRa)|(apply qc;exact rfl;apply cd_d <;> intro h)|(apply qc;exact rfl;apply cd_s <;> intro h)|(apply jp;(iterate 3 exact rfl))|(apply zk;exact rfl;exact rfl;exact zb (by omega) (by omega))|(apply ym;(iterate 3 exact rfl);exact cAs)|apply qs|apply jh|apply qt|(apply qk;exact Tryz.call178;exact qkw _ _))
 ·refine qn rfl (q9 rfl) ⟨congrArg Iv (?_:_=_),_,rfl⟩
  have:=qjm (l:=l) (k:=k) (by omega)
  simp_all [qw,qeu]
 ·exact⟨k+1,⟨by omega,qc0 (by omega) h1 (by simp_all [qeu]),_,by rw [qva (by omega),decide_eq_true_iff,← hb];simp [*],jw ⟨rfl,rfl,rfl,trivial⟩⟩,by omega⟩
 ·exact⟨k+1,⟨by omega,qc0 (by omega) h1 (by simp_all [qeu]),_,by rw [qva (by omega),← hb];simp [*],jw ⟨rfl,rfl,rfl,trivial⟩⟩,by omega⟩
 ·refine qn rfl (q9 rfl) ⟨congrArg Iv (?_:_=_),_,rfl⟩
  have e:k=l.length:=by omega
  subst e
  simp_all [qw]
 ·have e:k=l.length:=by omega
  subst e
  rw [List.take_length] at h1 hb
  obtain⟨h0,hk⟩:=qnx h1 (fun h=>by simp_all)
  repeat' (first|apply ql|apply qe|apply qf|apply qi|apply qg|(apply za;exact rfl;exact rfl)|(apply qr;(iterate 3 exact rfl))|(apply qc;exact rfl;apply cd_d <;> intro h)|(apply qc;exact rfl;apply cd_s <;> intro h)|(apply ym;(iterate 3 exact rfl);exact cAs)|apply qs|apply qt|(apply qk;exact Tryz.call178;exact qkw _ _)|(apply qk;exact Tryz.call179;exact qxs _ _ hl))
  all_goals refine qn rfl (q9 rfl) ⟨congrArg Iv (?_:_=_),_,rfl⟩
  ·simp_all [qm7]
  ·simp_all [qm7]
  ·have hc:58∈l∧yl (z4 l):=by
    apply Classical.byContradiction
    intro hn
    have:qdi l=([],[],false):=by unfold qdi;rw [if_neg (fun h=>hn h.2)]
    simp_all
   simp_all [qm7]
  ·have hc:¬ (58∈l∧yl (z4 l)):=fun hn=>by
    have:qdi l=(z4 l,js l,true):=by unfold qdi;rw [if_pos ⟨h1,hn⟩]
    simp_all
   simp_all [qm7]
theorem qhs (l:List UInt8) (st:List AObj) (hl:l.length<4294967281):qm E 165 [Sv l] st fun r st'=>r=Iv (qw l)∧st'=st:=by
 refine qy (qq _) (qp Tryz.func165 rfl (Nat.le_of_ble_eq_true rfl) ?_)
 repeat' (first|apply ql|apply qv|apply qe|apply qf|apply qi|apply qg|(apply za;exact rfl;exact rfl)|(apply jo;(iterate 3 exact rfl))|(apply qx;(iterate 4 exact rfl))|(apply y3;exact cRa)|(apply yf;exact cRa)|(apply qe6 <;> intro h)|(apply qo;exact rfl;apply pk_t;exact cRa)|(apply qo;exact rfl;apply pk_f;exact cRa)|(apply qc;exact rfl;apply cd_f;exact cRa)|(apply qc;exact rfl;apply cd_d <;> intro h)|apply qs|apply qt|(apply qk;exact Tryz.call212;exact qnl _ _ _ hl)|(apply qk;exact Tryz.call213;exact q6l _ _ _ (by omega) (by simp) (by intro j b h;match j with | 0=>simp at h;subst h;decide | 1=>simp at h;subst h;decide|j+2=>simp at h))|(apply qk;exact Tryz.call164;exact qek _ _ _)|(apply qk;exact Tryz.call214;exact qz1 _ _)|(apply qk;exact Tryz.call96;exact qp5 _ _ _ hl)|(apply qk;exact Tryz.call215;exact q93 _ _ (Nat.lt_of_le_of_lt (qp6 _ _) hl)))
 all_goals refine qn rfl (q9 rfl) ⟨congrArg Iv (?_:_=_),_,rfl⟩
 all_goals have hb:Lib.trimS l [32,9]=[]↔∀ c∈l,vu c:=by rw [qmo];simp [vu]
 all_goals by_cases hA:∀ c∈l,vu c <;> by_cases hC:58∈l <;> by_cases hK:yl (z4 l) <;> simp_all [qw,qs5]
end Go.Proofs.YtmoklbacdkmkaaaGreatDoor
namespace Go.Proofs
open Go.Shelf Go.RowKit
variable {P : Program} {ρ : Ren}
set_option maxHeartbeats 4000000 in
theorem qpz (L:Lays.n169 P ρ) (X:Builder.Extra P ρ) (b n c:Nat) (ad:Option Addr) (q:Value) (str:ByteArray) (w w2:World) (c1:w.drew.cell? ⟨b,1,none⟩=some (.slice ad n c))
  (hSD:(Builtin.unsafeSliceData_ #[(ρ.t 37)] (ρ.t 127) #[.slice ad n c]).run P w.drew = .ok q w.drew)
  (hUS:(Builtin.unsafeString_ #[(ρ.t 127),(ρ.t 3)] (ρ.t 9) #[q,.int .i64 n]).run P w.drew = .ok (.string str) w2) :
  Calls P (ρ.f 169) #[.pointer (some ⟨b,0,none⟩)] w fun e w'=>e = .returned (.string str)∧w'=w2:=by
 have mixed:=L.mixed
 have t72:=L.t72;have a72:=L.a72;have z72:=L.z72;have v72:=L.v72;have u72:=run_underlying L.t72
 have t70:=L.t70;have a70:=L.a70;have z70:=L.z70;have v70:=L.v70;have u70:=run_underlying L.t70
 have t37:=L.t37;have a37:=L.a37;have z37:=L.z37;have v37:=L.v37;have u37:=run_underlying L.t37
 have t127:=L.t127;have a127:=L.a127;have z127:=L.z127;have v127:=L.v127;have u127:=run_underlying L.t127
 have t3:=L.t3;have a3:=L.a3;have z3:=L.z3;have v3:=L.v3;have u3:=run_underlying L.t3
 have t9:=L.t9;have a9:=L.a9;have z9:=L.z9;have v9:=L.v9;have u9:=run_underlying L.t9
 have t5:=X.t5;have a5:=X.a5;have z5:=X.z5;have v5:=X.v5;have u5:=run_underlying X.t5
 go_enter L.f169,Body.n169_ntmps ρ
 go_wp2
 go_region_o
 all_goals (go_wp2;go_ret;exact⟨rfl,rfl⟩)
end Go.Proofs
namespace Go.Proofs.YtmoklbacdkmkaaaGreatDoor
open Go Go.Av Go.RowKit Go.Proofs
@[reducible] def bldO (ver : Nat) (q : AV) (l : List UInt8) (tp : Nat) : AObj := .cells ver 219 [q, .sl 1 (l.map Uv) (some tp)]
theorem qw2 (v:Value) (w:World):(callFunc 231 #[v]).run E.P w = .ok (.value v) w:=by
 have h:=run_callFunc_extern (P:=E.P) Tryz.func231 (by kernel_rfl) (by kernel_rfl) (by kernel_rfl) (e:=Extern.AbiNoEscape.same) (by kernel_rfl) #[v] w
 rw [h,Lib.run_noEscape]
 rfl
theorem qz4 (o ver:Nat) (q buf:AV) (st:List AObj) (ho:st[o]? = some (.cells ver 219 [q,buf])) (hq:q = .v (.pointer none)∨q = .bx o ver 0) :
  qm E 190 [.bx o ver 0] st fun r st'=>r = .tu []∧st'=st.set o (.cells ver 219 [.bx o ver 0,buf]):=by
 have ho':(st++[])[o]? = some (.cells ver 219 [q,buf]):=by rw [List.append_nil];exact ho
 refine qp Tryz.func190 rfl (Nat.le_of_ble_eq_true rfl) ?_
 rcases hq with rfl|rfl
 ·skip
  repeat' (first|apply ql|apply qe|apply qf|apply qi|(apply qc;exact rfl;apply cd_t;exact cRa)|(apply zg;(iterate 3 exact rfl))|(apply v6;exact rfl;exact rfl)|(apply qaa;(iterate 3 exact rfl))|(apply ka;exact rfl;exact ho';exact rfl;exact rfl)|(apply xq;exact rfl;exact rfl;exact ho';(iterate 6 exact rfl))|(apply que;exact rfl;exact ho';(simp);exact rfl;exact rfl;kernel_rfl)|(apply qpk;exact rfl;exact ho';(iterate 3 exact rfl);kernel_rfl)|(apply quc;exact qw2;exact rfl))
  refine qn rfl (yc rfl) ⟨rfl,?_⟩
  show (st++[]).set o _=_
  rw [List.append_nil]
  rfl
 ·skip
  repeat' (first|apply ql|apply qe|apply qf|apply qi|(apply qc;exact rfl;apply cd_f;exact cRa)|(apply zg;(iterate 3 exact rfl))|(apply v6;exact rfl;exact rfl)|(apply qaa;(iterate 3 exact rfl))|apply qs|(apply ka;exact rfl;exact ho';exact rfl;exact rfl)|(apply qrt;exact rfl;exact rfl;exact ho';exact rfl;exact rfl))
  refine qn rfl (yc rfl) ⟨rfl,?_⟩
  show st++[]=_
  rw [List.append_nil,q9j ho]
theorem qz6:xb E.P 5 1 1:=⟨_,_,rfl,rfl,rfl,rfl,rfl⟩
theorem qvr (o ver tp:Nat) (q:AV) (l m:List UInt8) (st:List AObj) (ho:st[o]? = some (bldO ver q l tp)) (ht:st[tp]? = some (.tip l.length 1 5)) (hq:q = .v (.pointer none)∨q = .bx o ver 0) (hlen:l.length+m.length≤140737488355328) :
  qm E 136 [.bx o ver 0,Sv m] st fun r st'=>r = .tu [Iv m.length,.v .nilIface]∧st'=(st.set o (bldO ver (.bx o ver 0) (l++m) tp)).set tp (.tip (l.length+m.length) 1 5):=by
 have hne:tp≠o:=fun e=>by rw [e,ho] at ht;simp at ht
 have ho':(st++[])[o]? = some (bldO ver q l tp):=by rw [List.append_nil];exact ho
 have ht':(st++[])[tp]? = some (.tip l.length 1 5):=by rw [List.append_nil];exact ht
 have h2:=jy (y:=.cells ver 219 [.bx o ver 0,.sl 1 (l.map Uv) (some tp)]) ho'
 have h3:=kf (y:=.cells ver 219 [.bx o ver 0,.sl 1 (l.map Uv) (some tp)]) ht' (Ne.symm hne)
 have h4:=kf (y:=.tip (l.length+m.length) 1 5) h2 hne
 have h5:maxLen=140737488351232∨True:=.inr trivial
 refine qp Tryz.func136 rfl (Nat.le_of_ble_eq_true rfl) ?_
 repeat' (first|apply ql|apply qe|apply qf|apply qi|apply qg|(apply jp;(iterate 3 exact rfl))|(apply zg;(iterate 3 exact rfl))|(apply v6;exact rfl;exact rfl)|apply qt|(apply qk;exact Tryz.call190;exact qz4 o ver q _ (st++[]) ho' hq)|(apply ka;exact rfl;exact h2;exact rfl;exact rfl)|(apply qve;exact rfl;exact rfl;exact h3;(simp);exact rfl;exact rfl;exact qz6;(simp only [maxLen];omega);omega)|(apply xq;exact rfl;exact rfl;exact h4;(iterate 6 exact rfl)))
 refine qn rfl (wc rfl) ⟨rfl,?_⟩
 show (((st++[]).set o _).set tp _).set o (.cells ver 219 [.bx o ver 0,.sl 1 (l.map Uv++m.map Uv) (some tp)])=_
 rw [List.append_nil,List.set_comm _ _ hne,List.set_set,← List.map_append]
theorem zak (o ver tp:Nat) (q:AV) (l:List UInt8) (c:UInt8) (st:List AObj) (ho:st[o]? = some (bldO ver q l tp)) (ht:st[tp]? = some (.tip l.length 1 5)) (hq:q = .v (.pointer none)∨q = .bx o ver 0) (hlen:l.length+1≤140737488355328) :
  qm E 194 [.bx o ver 0,Uv c] st fun r st'=>r = .v .nilIface∧st'=(st.set o (bldO ver (.bx o ver 0) (l++[c]) tp)).set tp (.tip (l.length+1) 1 5):=by
 have hne:tp≠o:=fun e=>by rw [e,ho] at ht;simp at ht
 have ho':(st++[])[o]? = some (bldO ver q l tp):=by rw [List.append_nil];exact ho
 have ht':(st++[])[tp]? = some (.tip l.length 1 5):=by rw [List.append_nil];exact ht
 have h2:=jy (y:=.cells ver 219 [.bx o ver 0,.sl 1 (l.map Uv) (some tp)]) ho'
 have h3:=kf (y:=.cells ver 219 [.bx o ver 0,.sl 1 (l.map Uv) (some tp)]) ht' (Ne.symm hne)
 have h4:=kf (y:=.tip (l.length+1) 1 5) h2 hne
 refine qp Tryz.func194 rfl (Nat.le_of_ble_eq_true rfl) ?_
 repeat' (first|apply ql|apply qe|apply qf|apply qi|apply qg|(apply zg;(iterate 3 exact rfl))|(apply j7;(iterate 9 exact rfl))|(apply v6;exact rfl;exact rfl)|apply qt|(apply qk;exact Tryz.call190;exact qz4 o ver q _ (st++[]) ho' hq)|(apply ka;exact rfl;exact h2;exact rfl;exact rfl)|(apply qnc (m:=1);exact rfl;exact rfl;exact h3;(simp);exact rfl;exact rfl;exact qz6;exact rfl;exact rfl;(simp only [maxLen];omega);omega)|(apply xq;exact rfl;exact rfl;exact h4;(iterate 6 exact rfl)))
 refine qn rfl (q9 rfl) ⟨rfl,?_⟩
 show (((st++[]).set o _).set tp _).set o (.cells ver 219 [.bx o ver 0,.sl 1 (l.map Uv++[c].map Uv) (some tp)])=_
 rw [List.append_nil,List.set_comm _ _ hne,List.set_set,← List.map_append]
theorem qsy (o ver tp:Nat) (q:AV) (l:List UInt8) (st:List AObj) (ho:st[o]? = some (bldO ver q l tp)) (ht:st[tp]? = some (.tip l.length 1 5)) :
  qm E 139 [.bx o ver 0] st fun r st'=>r=Sv l∧st'=st.set tp .dead:=by
 refine⟨fun B0 w0 G vals w hL hA hR=>?_⟩
 obtain⟨h0,h1,h2,h3,c,h4,h5,h6⟩:=hA.ob o _ ho
 obtain⟨g0,g1,g2⟩:=hA.ob tp _ ht
 have hne:tp≠o:=fun e=>by rw [e,ho] at ht;simp at ht
 have hvals:vals = #[.pointer (some ⟨(G.ob o).blk,0,none⟩)]:=by
  have hs:vals.size=1:=by have:=hR.1;simpa using this.symm
  have h:=hR.2 0 (.bx o ver 0) vals[0] rfl (by simp [hs])
  apply Array.ext
  ·simp [hs]
  ·intro i hi1 hi2
   have:i=0:=by simp at hi2;omega
   subst this
   have e:vals[0] = .pointer (some ⟨(G.ob o).blk,0,none⟩):=by
    generalize vals[0]=v at h
    cases h with
    |bx _ _ _ b hn e1 e2=>rw [e2 h1]
   simpa using e
 subst hvals
 have hc2:c.size=2:=by rw [← h5];rfl
 have hrel:=h6 1 (.sl 1 (l.map Uv) (some tp)) c[1] rfl (by simp [hc2])
 have hcell:w.drew.cell? ⟨(G.ob o).blk,1,none⟩=some c[1]:=by
  have h4':w.drew.heap[(G.ob o).blk]? = some (.cells c 219 (0,0)):=h4
  simp [World.cell?,h4',hc2]
 generalize hv:c[1]=v at hrel hcell
 have hdrew:Below w.heap.size w w.drew:=⟨rfl,rfl,rfl,Nat.le_refl _,fun _ _=>rfl⟩
 have hA1:=(hA.kill tp).fresh hdrew
 have hl:(l.map Uv).length=l.length:=by simp
 generalize hxs:l.map Uv=xs at hrel
 cases hrel with
 |sl0 _ _ base cap hto=>
  obtain⟨_,rfl,rfl⟩:=hto tp rfl
  have hl0:l=[]:=by simpa using hxs
  subst hl0
  refine (qpz Tryz.lays169 Tryz.Builder_Extra_169 (G.ob o).blk 0 0 none (.pointer none) .empty w w.drew hcell rfl (Lib.run_unsafeString_none w.drew _ _ _ none)).mono ?_
  rintro e w' ⟨rfl,rfl⟩
  exact⟨_,G,Sv [],_,rfl,.refl G,hA1,.v _,rfl,rfl⟩
 |sl _ _ _ b off cap pub hp hw hlen hr hto hcap0=>
  subst hxs
  rw [hl] at hto hcell
  obtain⟨_,hn0,_,hcur⟩:=hto tp rfl
  obtain⟨hb,rfl,hcp,hcm,hcl⟩:=hcur g1
  obtain⟨hB,c2,vs,e1,e2,e3,e4⟩:=g2 hn0
  rw [hb] at e1 e2 hB
  have hcells:∀ j x,l[j]? = some x→w.drew.cell? ((⟨b,0,none⟩:Addr).add j)=some (.int .u8 x.toNat):=fun j x hx=>by
   obtain⟨c3,T3,fz3,k1,k2⟩:=hA.pub b pub hp
   have k1':w.drew.heap[b]? = some (.cells c3 T3 fz3):=k1
   have hj:j<(flat (l.map Uv)).length:=by rw [qgo];simpa using lt_of_getElem? hx
   have hy:pub[0+j]? = some (pub[0+j]'(by omega)):=List.getElem?_eq_getElem (by omega)
   have hrj:=hr j (Uv x) _ (by rw [qgo];simp [hx]) hy
   have:pub[0+j]'(by omega) = .int .u8 x.toNat:=by
    generalize pub[0+j]'(by omega)=y at hrj
    cases hrj;rfl
   rw [this] at hy
   rw [Addr.add_lit]
   simp only [World.cell?,k1']
   simpa using k2 _ _ hy
  have hle:l.length≤c2.size:=by rw [e4,← hcp];omega
  have e1':w.drew.heap[b]? = some (.cells c2 5 (0,0)):=e1
  have hUS:=Lib.run_unsafeString_row (P:=E.P) w.drew 269 3 9 5 rfl (by kernel_rfl) b c2.size (by simp [World.shape?,e1']) l (by rintro rfl;exact hn0 rfl) hle (by simp only [maxLen] at hcm;omega) hcells
  have hSD:(Builtin.unsafeSliceData_ #[81] 269 #[.slice (some ⟨b,0,none⟩) l.length cap]).run E.P w.drew = .ok (.pointer (some ⟨b,0,none⟩)) w.drew:=Lib.run_unsafeSliceData_row _ _ _ _ _ _ (by omega)
  refine (qpz Tryz.lays169 Tryz.Builder_Extra_169 (G.ob o).blk l.length cap (some ⟨b,0,none⟩) _ _ w _ hcell hSD hUS).mono ?_
  rintro e w' ⟨rfl,rfl⟩
  have hfz:∃ fz',(w.drew.freeze ⟨b,0,none⟩ l.length).heap[b]? = some (.cells c2 5 fz'):=by
   unfold World.freeze
   rw [if_neg hn0]
   simp [Array.getElem?_modify,e1']
  obtain⟨fz',hfz⟩:=hfz
  have hoth:∀ k,k≠b→(w.drew.freeze ⟨b,0,none⟩ l.length).heap[k]? = w.drew.heap[k]?:=fun k hk=>by
   unfold World.freeze
   rw [if_neg hn0]
   simp [Array.getElem?_modify,Ne.symm hk]
  refine⟨_,G,Sv l,_,rfl,.refl G,hA1.refroze e1' hfz hoth hB (by unfold World.freeze;rw [if_neg hn0];simp) (by unfold World.freeze;rw [if_neg hn0]) (by unfold World.freeze;rw [if_neg hn0]) (by unfold World.freeze;rw [if_neg hn0]) (fun k x hx hlv=>?_),.v _,rfl,rfl⟩
  rcases getElem?_set' _ _ _ _ _ hx with⟨_,e⟩ | ⟨k1,k2⟩
  ·subst e;exact hlv.elim
  ·have:=hA.sep k tp x _ k1 k2 ht hlv hn0
   rwa [hb] at this
theorem q3x (st loc loc':List AObj) (k kt ver:Nat) (q:AV) (l:List UInt8) (c:UInt8) (hk:loc[k]? = some (bldO ver q l (st.length+kt))) (hkt:loc[kt]? = some (.tip l.length 1 5)) (hq:q = .v (.pointer none)∨q = .bx (st.length+k) ver 0)
  (hlen:l.length+1≤140737488355328) (hl:loc'=(loc.set k (bldO ver (.bx (st.length+k) ver 0) (l++[c]) (st.length+kt))).set kt (.tip (l++[c]).length 1 5)) :
  qm E 194 [.bx (st.length+k) ver 0,Uv c] (st++loc) fun r st'=>r = .v .nilIface∧st'=st++loc':=by
 refine (zak (st.length+k) ver (st.length+kt) q l c (st++loc) (jb hk) (jb hkt) hq hlen).mono fun r st' ⟨h1,h2⟩=>⟨h1,?_⟩
 rw [h2,wp,wp,hl,List.length_append]
 rfl
end Go.Proofs.YtmoklbacdkmkaaaGreatDoor
namespace Go.Proofs.YtmoklbacdkmkaaaGreatDoor
open Go Go.Av Go.RowKit Go.Proofs Go.Pl
theorem qhg (l:List UInt8) (c:UInt8) (st:List AObj) (hl:l.length<4294967281):qm E 96 [Sv l,Sv [c]] st fun r st'=>r = .tu [Sv (upto c l),Sv (past c l),Bv (decide (c∈l))]∧st'=st:=by
 have:=qp5 l [c] st hl
 rw [zau] at this
 exact this
@[reducible] def qcy (k : Nat) (text rest : List UInt8) : AV := .ag [Iv k, Iv ((text.length : Int) - rest.length), Sv (upto 10 rest), Bv (decide (10 ∈ rest))]
theorem q9l (text:List UInt8) (o kb ver n:Nat) (I:Nat→List UInt8→List AObj→Prop) (D:List AObj→Prop) (st:List AObj) (ht:text.length<4294967281) (h0:I 0 text st)
  (hI:∀ k rest st',I k rest st'→st'.length=n∧st'[kb]? = some (.cells ver 9 [Sv text]))
  (hY:∀ k rest st' own,I k rest st'→rest≠[]→rest.length≤text.length→xx E o [qcy k text rest] (st'++[own]) fun b st2=>∃ st3,st2=st3++[own]∧(b=true→I (k+1) (past 10 rest) st3)∧(b=false→D st3)) :
  qm E 163 [.yd o,.bx kb ver 0] st fun r st'=>∃ st3 ext',st'=st3++ext'∧((∃ k,I k [] st3)∨D st3):=by
 refine qp Tryz.func163 rfl (Nat.le_of_ble_eq_true rfl) ?_
 obtain⟨hn,hb⟩:=hI 0 text st h0
 subst hn
 repeat' (first|apply ql|apply qv|apply qe|apply qf|apply qg|(apply ja;exact rfl;exact rfl)|(apply zp;(iterate 11 exact rfl))|(apply vd;(iterate 3 exact rfl))|(apply y9;exact rfl;exact rfl;exact hb;exact rfl;exact rfl))
 refine kh (fun (x:Nat×List UInt8) s=>match x with|(k,rest)=>∃ stk at' ta eb,I k rest stk∧k+rest.length≤text.length∧at'=(text.length:Int) - rest.length∧StA [(0,.yd o),(1,.bx kb ver 0),(3,.bx (st.length+0) 0 0),(4,Sv rest)] (stk++(.cells 0 181 [Iv k,Iv at',Sv ta,Bv eb]::[])) [] s) (fun x=>x.2.length) (0,text)
  ⟨st,0,[],false,h0,by simp,by simp,?_⟩ ?_
 ·exact jw ⟨rfl,rfl,rfl,rfl,trivial⟩
 rintro⟨k,rest⟩ _ ⟨stk,_,ta,eb,hi,hle,rfl,t,rfl⟩
 obtain⟨hn,hb'⟩:=hI k rest stk hi
 repeat' (first|apply ql|apply qv|apply qe|apply qf|apply qi|apply qg|(apply za;exact rfl;exact rfl)|(apply jo;(iterate 3 exact rfl))|(apply qc;exact rfl;apply cd_d <;> intro h)|(apply zg;(iterate 3 exact rfl))|apply qs|apply jh|(apply qk;exact Tryz.call96;exact qhg _ _ _ (by omega))|(apply qai;exact rfl;assumption;(iterate 10 exact rfl))|(apply qbc;exact rfl;assumption;(iterate 4 exact rfl)))
 ·refine qct rfl ((hY k rest stk _ hi h (by omega)).mono ?_)
  rintro b _ ⟨st3,rfl,h1,h2⟩
  cases b
  ·skip
   repeat' (first|apply qf|(apply z6;exact rfl)|(apply qc;exact rfl;apply qii;exact cRa)|apply qt)
   refine qn rfl (yc rfl) ⟨st3,_,rfl,.inr (h2 rfl)⟩
  ·have hi3:=h1 rfl
   obtain⟨hn3,hb3⟩:=hI _ _ _ hi3
   have hp:=j9 10 rest
   have hr0:0<rest.length:=List.length_pos_iff.2 h
   repeat' (first|apply ql|apply qe|apply qf|apply qi|(apply z6;exact rfl)|(apply qc;exact rfl;apply qmt;exact cRa)|(apply jp;(iterate 3 exact rfl))|(apply zk;exact rfl;exact rfl;exact zb (by omega) (by omega))|(apply qch;exact rfl;exact rfl;exact zb (by omega) (by omega))|(apply zg;(iterate 3 exact rfl))|apply qs|(apply y9;exact rfl;exact rfl;exact hb3;exact rfl;exact rfl)|(apply qai;exact rfl;assumption;(iterate 10 exact rfl))|(apply qbc;exact rfl;assumption;(iterate 4 exact rfl)))
   exact⟨(k+1,past 10 rest),⟨st3,_,_,_,hi3,by omega,rfl,jw ⟨rfl,rfl,rfl,rfl,trivial⟩⟩,by simp only;omega⟩
 ·have hr:rest=[]:=Classical.not_not.1 h
  subst hr
  exact qn rfl (yc rfl) ⟨stk,_,rfl,.inl ⟨k,hi⟩⟩
theorem qsl (text:List UInt8) (st st':List AObj) (n:Nat) (hn:st.length=n) (hst:st++[.cells 0 9 [Sv text]]=st'):qm E 100 [Sv text] st fun r st1=>r = .fn (.func 163) [] [.bx n 0 0]∧st1=st':=by
 subst hn
 subst hst
 refine qp Tryz.func100 rfl (Nat.le_of_ble_eq_true rfl) ?_
 repeat' (first|apply ql|apply qe|apply qf|apply qg|apply qf5|(apply qa5;(iterate 4 exact rfl))|apply qt)
 exact qn rfl (q9 rfl) ⟨rfl,rfl⟩
theorem q1i (st loc loc':List AObj) (k kt ver:Nat) (q:AV) (l m:List UInt8) (hk:loc[k]? = some (bldO ver q l (st.length+kt))) (hkt:loc[kt]? = some (.tip l.length 1 5)) (hq:q = .v (.pointer none)∨q = .bx (st.length+k) ver 0)
  (hlen:l.length+m.length≤140737488355328) (hl:loc'=(loc.set k (bldO ver (.bx (st.length+k) ver 0) (l++m) (st.length+kt))).set kt (.tip (l++m).length 1 5)) :
  qm E 136 [.bx (st.length+k) ver 0,Sv m] (st++loc) fun r st'=>r = .tu [Iv m.length,.v .nilIface]∧st'=st++loc':=by
 refine (qvr (st.length+k) ver (st.length+kt) q l m (st++loc) (jb hk) (jb hkt) hq hlen).mono fun r st' ⟨h1,h2⟩=>⟨h1,?_⟩
 rw [h2,wp,wp,hl,List.length_append]
theorem qnj (st loc loc':List AObj) (k kt ver:Nat) (q:AV) (l:List UInt8) (hk:loc[k]? = some (bldO ver q l (st.length+kt))) (hkt:loc[kt]? = some (.tip l.length 1 5)) (hl:loc'=loc.set kt .dead) :
  qm E 139 [.bx (st.length+k) ver 0] (st++loc) fun r st'=>r=Sv l∧st'=st++loc':=by
 refine (qsy (st.length+k) ver (st.length+kt) q l (st++loc) (jb hk) (jb hkt)).mono fun r st' ⟨h1,h2⟩=>⟨h1,?_⟩
 rw [h2,wp,hl]
@[reducible] def dedL (st : List AObj) (by' text : List UInt8) (q : AV) (acc : List UInt8) (lp : AObj) : List AObj :=
 [.cells 0 9 [Sv by'],.cells 0 9 [Sv []],.cells 0 4 [Bv false],bldO 0 q acc (st.length+5),.cells 0 9 [Sv text],.tip acc.length 1 5,.dfr,lp]
theorem qv2 (text by':List UInt8) (st:List AObj) (hl:text.length<4294967281):qm E 221 [Sv text,Sv by'] st fun r st'=>r = .tu [Sv (vn by' text).1,Bv (vn by' text).2]∧st'=st:=by
 refine qy (qty _ _) (qp Tryz.func221 rfl (Nat.le_of_ble_eq_true rfl) ?_)
 repeat' (first|apply ql|apply qe|apply qf|apply qi|(apply ja;exact rfl;exact rfl)|(apply qa5;(iterate 4 exact rfl)))
 refine qk Tryz.call100 (qsl text _ (st++[.cells 0 9 [Sv by'],.cells 0 9 [Sv []],.cells 0 4 [Bv false],.cells 0 219 [.v (.pointer none),zh],.cells 0 9 [Sv text]]) (st.length+4) ?_ ?_) ?_
 ·show (st++[_,_,_,_]).length=_
  simp
 ·show (st++[_,_,_,_])++[_]=_
  rw [List.append_assoc]
  rfl
 repeat' (first|apply qv|apply qf)
 refine qni (o:=st.length+3) (j:=1) (sz:=1) (T':=5) (jb rfl) rfl ?_
 refine qdx [(3,.bx (st.length+0) 0 0),(4,.bx (st.length+1) 0 0),(5,.bx (st.length+2) 0 0),(6,.bx (st.length+3) 0 0),(11,.fn (.func 163) [] [.bx (st.length+4) 0 0])]
  (st++[.cells 0 9 [Sv by'],.cells 0 9 [Sv []],.cells 0 4 [Bv false],bldO 0 (.v (.pointer none)) [] (st.length+5),.cells 0 9 [Sv text],.tip 0 1 5]) [] ⟨rfl,rfl,rfl,rfl,rfl,trivial⟩ ?_ rfl (fun t=>?_)
 ·show (st++[_,_,_,_,_]).set (st.length+3) (.cells 0 219 [_,.sl 1 [] (some (st++[_,_,_,_,_]).length)])++[_]=_
  rw [wp,List.append_assoc]
  simp
 refine qj1 (st:=st) (loc:=[.cells 0 9 [Sv by'],.cells 0 9 [Sv []],.cells 0 4 [Bv false],bldO 0 (.v (.pointer none)) [] (st.length+5),.cells 0 9 [Sv text],.tip 0 1 5]) rfl rfl Tryz.call163 fun F hF=>?_
 refine qm.mono (q9l text (st.length+7) (st.length+4) 0 (st.length+8)
  (fun _ rest st'=>∃ q acc don,(q = .v (.pointer none)∨q = .bx (st.length+3) 0 0)∧zl text=don++zl rest∧(∀ x∈don,by' <+: x.1)∧acc=don.flatMap (fun x=>x.1.drop by'.length++x9 x.2)∧acc.length+rest.length≤text.length∧st'=st++dedL st by' text q acc (F .ready none))
  (fun st'=>(¬ ∀ x∈zl text,by' <+: x.1)∧∃ q acc,st'=st++dedL st by' text q acc (F .done (some .ret)))
  (st++dedL st by' text (.v (.pointer none)) [] (F .ready none)) hl ⟨_,[],[],.inl rfl,rfl,by simp,rfl,by simp,rfl⟩ ?_ ?_) ?_
 ·rintro k rest _ ⟨q,acc,don,hq,h1,h2,h3,h4,rfl⟩
  exact⟨by simp,jb rfl⟩
 ·rintro k rest _ own ⟨q,acc,don,hq,h1,h2,h3,h4,rfl⟩ hne hle
  refine qyn ?_
  rw [List.append_assoc]
  refine qob hF (jb rfl) rfl fun l=>?_
  repeat' (first|apply qe|apply qf|(apply ja;exact rfl;exact rfl)|(apply zp;(iterate 11 exact rfl)))
  refine⟨jb rfl,rfl,?_⟩
  refine qdx [(3,.bx (st.length+0) 0 0),(4,.bx (st.length+1) 0 0),(5,.bx (st.length+2) 0 0),(6,.bx (st.length+3) 0 0),(7,.bx (st.length+9) 0 0)]
   (st++(dedL st by' text q acc (F .busy none)++[own,.cells 0 181 (qcy k text rest).cells])) [] ⟨rfl,rfl,rfl,rfl,rfl,trivial⟩ ?_ rfl (fun t=>?_)
  ·show (st++(dedL st by' text q acc (F .ready none)++[own,_])).set (st.length+7) _=_
   rw [wp]
   rfl
  have hb1:=qdm (upto 10 rest) by'
  have hb2:=j8 10 rest
  have hmem:(upto 10 rest,decide (10∈rest))∈zl text:=by rw [h1,v7 hne];simp
  have hcons:=v7 hne
  have hpl:=j9 10 rest
  have hlt:10∈rest→(upto 10 rest).length<rest.length:=qc8
  repeat' (first|apply ql|apply qv|apply qe|apply qf|apply qi|apply qg|(apply za;exact rfl;exact rfl)|(apply z6;exact rfl)|(apply qc;exact rfl;apply cd_n <;> intro h)|(apply qc;exact rfl;apply cd_d <;> intro h)|(apply zg;(iterate 3 exact rfl))|(apply jc;(iterate 5 exact rfl))|(apply zp;(iterate 11 exact rfl))|apply qs|apply qt|(apply qk;exact Tryz.call217;exact qdd _ _ _)|(refine qk Tryz.call136 (q1i st _ _ 3 5 0 _ _ _ rfl rfl ?_ ?_ rfl) ?_;(first|exact hq|exact .inr rfl);(first|omega|(simp;omega))))
  ·have hno:¬ ∀ x∈zl text,by' <+: x.1:=fun hall=>by
    have:=(w6 _ _).2 (hall _ hmem)
    simp_all
   refine⟨jb rfl,st++(dedL st by' text q acc (F .done (some .ret))++[own]),[.cells 0 181 (qcy k text rest).cells],?_,?_,st++dedL st by' text q acc (F .done (some .ret)),(List.append_assoc _ _ _).symm,nofun,fun _=>⟨hno,q,acc,rfl⟩⟩
   ·show (st++_).set (st.length+7) _=_
    rw [wp,List.append_assoc st]
    rfl
   ·exact qir (.same _ (.same _ (.same _ (.same _ (.same _ (.same _ (.same _ (q2a hF (qgq _ _))))))))) st
  all_goals
   have hpre:by' <+: upto 10 rest:=(w6 _ _).1 (by simp_all)
   have htp:=qb3 hpre
  ·refine⟨jb rfl,st++(dedL st by' text (.bx (st.length+3) 0 0) (acc++Lib.trimPrefix (upto 10 rest) by'++[10]) (F .ready none)++[own]),[.cells 0 181 (qcy k text rest).cells],?_,?_,
    st++dedL st by' text (.bx (st.length+3) 0 0) (acc++Lib.trimPrefix (upto 10 rest) by'++[10]) (F .ready none),(List.append_assoc _ _ _).symm,fun _=>⟨_,_,don++[(upto 10 rest,true)],.inr rfl,?_,?_,?_,?_,rfl⟩,nofun⟩
   ·show (st++_).set (st.length+7) _=_
    rw [wp,List.append_assoc st]
    rfl
   ·refine qir (.same _ (.same _ (.same _ (.cut (qnm ?_) (.same _ (.cut qs3 (.same _ (q2a hF (qgq _ _))))))))) st
    intro x hx
    simp only [List.mem_cons,List.not_mem_nil,or_false] at hx
    rcases hx with rfl|rfl
    ·exact q4b (by simp)
    ·exact qs4 (by simp)
   ·rw [h1,hcons];simp_all
   ·intro x hx
    rcases List.mem_append.1 hx with hx|hx
    ·exact h2 x hx
    ·simp at hx;subst hx;exact hpre
   ·rw [h3,htp];simp [x9]
   ·have:=hlt (by assumption)
    simp
    omega
  ·refine⟨jb rfl,st++(dedL st by' text (.bx (st.length+3) 0 0) (acc++Lib.trimPrefix (upto 10 rest) by') (F .ready none)++[own]),[.cells 0 181 (qcy k text rest).cells],?_,?_,
    st++dedL st by' text (.bx (st.length+3) 0 0) (acc++Lib.trimPrefix (upto 10 rest) by') (F .ready none),(List.append_assoc _ _ _).symm,fun _=>⟨_,_,don++[(upto 10 rest,false)],.inr rfl,?_,?_,?_,?_,rfl⟩,nofun⟩
   ·show (st++_).set (st.length+7) _=_
    rw [wp,List.append_assoc st]
    rfl
   ·refine qir (.same _ (.same _ (.same _ (.cut (qnm ?_) (.same _ (.cut qs3 (.same _ (q2a hF (qgq _ _))))))))) st
    intro x hx
    simp only [List.mem_cons,List.not_mem_nil,or_false] at hx
    rcases hx with rfl|rfl
    ·exact q4b (by simp)
    ·exact qs4 (by simp)
   ·rw [h1,hcons];simp_all
   ·intro x hx
    rcases List.mem_append.1 hx with hx|hx
    ·exact h2 x hx
    ·simp at hx;subst hx;exact hpre
   ·rw [h3,htp];simp [x9]
   ·simp
    omega
 ·rintro r st' ⟨st3,ext,rfl,⟨k,q,acc,don,hq,h1,h2,h3,h4,rfl⟩ | ⟨hno,q,acc,rfl⟩⟩
  ·refine⟨.ready,none,nofun,by rw [List.append_assoc];exact jb rfl,?_⟩
   refine qdx [(4,.bx (st.length+1) 0 0),(5,.bx (st.length+2) 0 0),(6,.bx (st.length+3) 0 0)] (st++(dedL st by' text q acc .dead++ext)) [st.length+6] ⟨rfl,rfl,rfl,trivial⟩ ?_ rfl (fun t=>?_)
   ·show ((st++_)++ext).set (st.length+7) _=_
    rw [List.append_assoc,wp]
    rfl
   repeat' (first|apply ql|apply qe|apply qf|(apply zp;(iterate 11 exact rfl))|apply qt|(refine qk Tryz.call139 (qnj st _ _ 3 5 0 _ _ rfl rfl rfl) ?_))
   refine qld rfl rfl rfl (qn rfl (qje rfl rfl rfl rfl rfl rfl rfl rfl rfl rfl) ⟨q98 (?_:_=_),_,rfl⟩)
   rw [vq,List.append_nil] at h1
   unfold vn
   rw [h1,if_pos h2,h3]
  ·refine⟨.done,some .ret,nofun,by rw [List.append_assoc];exact jb rfl,?_⟩
   refine qdx [(4,.bx (st.length+1) 0 0),(5,.bx (st.length+2) 0 0),(6,.bx (st.length+3) 0 0)] (st++(dedL st by' text q acc .dead++ext)) [st.length+6] ⟨rfl,rfl,rfl,trivial⟩ ?_ rfl (fun t=>?_)
   ·show ((st++_)++ext).set (st.length+7) _=_
    rw [List.append_assoc,wp]
    rfl
   repeat' (first|apply qt)
   refine qld rfl rfl rfl (qn rfl (qje rfl rfl rfl rfl rfl rfl rfl rfl rfl rfl) ⟨q98 (?_:_=_),_,rfl⟩)
   unfold vn
   rw [if_neg hno]
theorem qql (l:List UInt8) (st:List AObj) (hl:l.length<4294967281):qm E 193 [Sv l] st fun r st'=>r=Bv (vn [32] l).2∧st'=st:=by
 refine qy (qq _) (qp Tryz.func193 rfl (Nat.le_of_ble_eq_true rfl) ?_)
 repeat' (first|apply ql|apply qe|apply qf|apply qi|apply qg|(apply za;exact rfl;exact rfl)|apply qt|(apply qk;exact Tryz.call221;exact qv2 _ _ _ hl))
 exact qn rfl (q9 rfl) ⟨rfl,_,rfl⟩
theorem q4q (l:List UInt8) (st:List AObj) (hl:l.length<4294967281):qm E 140 [Sv l] st fun r st'=>r=Bv (decide (qas l))∧st'=st:=by
 refine qy (qq _) (qp Tryz.func140 rfl (Nat.le_of_ble_eq_true rfl) ?_)
 repeat' (first|apply ql|apply qe|apply qf|apply qi|apply qg|(apply qr;(iterate 3 exact rfl))|(apply z6;exact rfl)|(apply qx;(iterate 4 exact rfl))|(apply yn;exact cAo)|(apply ye;exact cAo)|(apply qar;exact cRa)|(apply wg <;> intro h)|(apply qo;exact rfl;apply y6;exact cAo)|(apply qo;exact rfl;apply qay;exact cAo)|(apply qo;exact rfl;apply pk_t;exact cRa)|(apply qc;exact rfl;apply cd_n <;> intro h)|(apply qc;exact rfl;apply cd_t;exact cRa)|(apply jp;(iterate 3 exact rfl))|apply qs|apply qt|(apply qk;exact Tryz.call192;exact qnt _ _ _ (by omega))|(apply qk;exact Tryz.call193;exact qql _ _ hl))
 all_goals refine qn rfl (q9 rfl) ⟨congrArg Bv (?_:_=_),_,rfl⟩
 ·exact (decide_eq_false fun ⟨a,b,c,d⟩=>by omega).symm
 ·exact (decide_eq_false fun ⟨a,b,c,d⟩=>by omega).symm
 ·exact (decide_eq_false fun ⟨a,b,c,d⟩=>by simp_all [qf9]).symm
 ·have e:qas l↔(vn [32] l).2=true:=⟨fun h=>h.2.2.2,fun h=>⟨by omega,by omega,by simp_all [qf9],h⟩⟩
  simp [e]
theorem q4u (n:Nat) (l:List UInt8) (st:List AObj) (hn:n≤9223372036854775807) (hl:l.length<4294967281):qm E 141 [Iv n,Sv l] st fun r st'=>r=Sv (qip n l)∧st'=st:=by
 refine qy (qq _) (qp Tryz.func141 rfl (Nat.le_of_ble_eq_true rfl) ?_)
 have h1:=qhp n hn
 repeat' (first|apply ql|apply qe|apply qf|apply qi|apply qg|(apply jt;exact rfl;exact rfl;exact cOs)|apply qt|(apply qk;exact Tryz.call155;exact ql8 _ _ (by omega) (by omega)))
 exact qn rfl (q9 rfl) ⟨rfl,_,rfl⟩
theorem qx8 (n:Nat) (st:List AObj) (hn:n≤9223372036854775807):qm E 144 [Iv n] st fun r st'=>r=Sv (qdl n)∧st'=st:=by
 refine qy (qq _) (qp Tryz.func144 rfl (Nat.le_of_ble_eq_true rfl) ?_)
 have h1:=qhp n hn
 repeat' (first|apply ql|apply qe|apply qf|apply qi|apply qg|(apply jt;exact rfl;exact rfl;exact cOs)|apply qt|(apply qk;exact Tryz.call155;exact ql8 _ _ (by omega) (by omega)))
 exact qn rfl (q9 rfl) ⟨rfl,_,rfl⟩
theorem qw9 (l:List UInt8) (st:List AObj) (hl:l.length<4294967281):qm E 218 [Sv l] st fun r st'=>r=Iv (vc l)∧st'=st:=by
 refine qy (qq _) (qp Tryz.func218 rfl (Nat.le_of_ble_eq_true rfl) ?_)
 repeat' (first|apply ql|apply qe|apply qf|apply qi|apply qg)
 refine qdu Tryz.call97 ((qls l _ (by omega)).mono ?_)
 rintro _ _ ⟨rfl,n,x,rfl,hx⟩
 rcases x with _ | ⟨t',y⟩
 ·simp only at hx
  have hb:=atoiAll_bounds hx
  repeat' (first|apply ql|apply qe|apply qf|apply qi|apply qg|(apply za;exact rfl;exact rfl)|(apply qr;(iterate 3 exact rfl))|(apply jo;(iterate 3 exact rfl))|(apply qx;(iterate 4 exact rfl))|(apply yn;exact cAo)|(apply ye;exact cAo)|(apply qe5;exact cRa)|(apply qar;exact cRa)|(apply wg <;> intro h)|(apply qo;exact rfl;apply y6;exact cAo)|(apply qo;exact rfl;apply qay;exact cAo)|(apply qo;exact rfl;apply pk_t;exact cRa)|(apply qo;exact rfl;apply pk_f;exact cRa)|(apply qc;exact rfl;apply cd_t;exact cRa)|(apply qc;exact rfl;apply cd_d <;> intro h)|(apply vb;exact rfl;exact rfl)|apply qs|apply qt|(apply qk;exact Tryz.call155;exact ql8 _ _ (by omega) (by omega)))
  all_goals refine qn rfl (q9 rfl) ⟨congrArg Iv (?_:_=_),_,rfl⟩
  all_goals rw [qq1 hx]
  ·rw [if_neg (by simp_all)]
  ·rw [if_neg (by omega)]
  ·rw [if_neg (by omega)]
  ·rw [if_pos ⟨Classical.not_not.1 (by assumption),by omega,by omega⟩]
 ·simp only at hx
  repeat' (first|apply ql|apply qe|apply qf|apply qi|apply qg|(apply za;exact rfl;exact rfl)|(apply qx;(iterate 4 exact rfl))|(apply qar;exact cRa)|(apply qo;exact rfl;apply pk_t;exact cRa)|(apply qc;exact rfl;apply cd_t;exact cRa)|(apply vz;exact rfl;exact rfl)|apply qt)
  refine qn rfl (q9 rfl) ⟨congrArg Iv (?_:_=_),_,rfl⟩
  rw [qw8 hx]
  rfl
theorem q8r (l:List UInt8) (st:List AObj) (hl:l.length<4294967281):qm E 171 [Sv l] st fun r st'=>r = .tu [Iv (jd l).1,Sv (jd l).2.1,Bv (jd l).2.2]∧st'=st:=by
 refine qy (qd5 _ _ _) (qp Tryz.func171 rfl (Nat.le_of_ble_eq_true rfl) ?_)
 have hb1:=qdm l zy
 have hb2:=j8 32 (Lib.trimPrefix l zy)
 have hb3:=j9 32 (Lib.trimPrefix l zy)
 repeat' (first|apply ql|apply qe|apply qf|apply qi|apply qg|(apply za;exact rfl;exact rfl)|(apply qr;(iterate 3 exact rfl))|(apply jo;(iterate 3 exact rfl))|(apply qx;(iterate 4 exact rfl))|(apply qbs;exact cAo)|(apply qd0;exact cAo)|(apply y3;exact cRa)|(apply yf;exact cRa)|(apply wg <;> intro h)|(apply qe6 <;> intro h)|(apply qo;exact rfl;apply y6;exact cAo)|(apply qo;exact rfl;apply qay;exact cAo)|(apply qo;exact rfl;apply pk_t;exact cRa)|(apply qo;exact rfl;apply pk_f;exact cRa)|(apply jp;(iterate 3 exact rfl))|apply qt|(apply qk;exact Tryz.call217;exact qdd l zy _)|(apply qk;exact Tryz.call96;exact qhg (Lib.trimPrefix l zy) 32 _ (by omega))|(apply qk;exact Tryz.call218;exact qw9 (upto 32 (Lib.trimPrefix l zy)) _ (by omega))|(apply qk;exact Tryz.call213;exact qsr _ _ _ (by omega) rfl rfl))
 all_goals refine qn rfl (qbm rfl) ⟨zdz (?_:_=_),_,rfl⟩
 all_goals simp only [jd,Prod.mk.injEq,true_and]
 all_goals clear hb1 hb2 hb3
 all_goals have c3:(2:Int)≤↑(vc (upto 32 (Lib.trimPrefix l zy)))↔2≤vc (upto 32 (Lib.trimPrefix l zy)):=by omega
 all_goals have c4:(↑(past 32 (Lib.trimPrefix l zy)).length:Int)=8↔(past 32 (Lib.trimPrefix l zy)).length=8:=by omega
 all_goals simp only [c3,c4,qf8,qt7] at *
 all_goals clear c3 c4
 all_goals simp_all
 all_goals first|(intros;omega)|skip
theorem q5h (l:List UInt8) (st:List AObj) (hl:l.length<4294967281):qm E 170 [Sv l] st fun r st'=>r=Bv (qdp l)∧st'=st:=by
  refine qy (qq _) (qp Tryz.func170 rfl (Nat.le_of_ble_eq_true rfl) ?_)
  have hb1:=qdm l zy
  have hb2:=j8 32 (Lib.trimPrefix l zy)
  have hb3:=j9 32 (Lib.trimPrefix l zy)
  repeat' (first|apply ql|apply qv|apply qe|apply qf|apply qi|apply qg|(apply za;exact rfl;exact rfl)|(apply qr;(iterate 3 exact rfl))|(apply jo;(iterate 3 exact rfl))|(apply z6;exact rfl)|(apply qx;(iterate 4 exact rfl))|(apply qbs;exact cAo)|(apply qd0;exact cAo)|(apply wg <;> intro h)|(apply qo;exact rfl;apply y6;exact cAo)|(apply qo;exact rfl;apply qay;exact cAo)|(apply qc;exact rfl;apply vo;exact cAo)|(apply qc;exact rfl;apply cd_n <;> intro h)|(apply qc;exact rfl;apply cd_f;exact cRa)|(apply qc;exact rfl;apply cd_d <;> intro h)|(apply jp;(iterate 3 exact rfl))|apply qs|apply qt|(apply qk;exact Tryz.call217;exact qdd l zy _)|(apply qk;exact Tryz.call164;exact qdf _ _ _)|(apply qk;exact Tryz.call96;exact qhg (Lib.trimPrefix l zy) 32 _ (by omega))|(apply qk;exact Tryz.call218;exact qw9 (upto 32 (Lib.trimPrefix l zy)) _ (by omega))|(apply qk;exact Tryz.call213;exact qsr _ _ _ (by omega) rfl rfl))
  all_goals refine qn rfl (q9 rfl) ⟨congrArg Bv (?_:_=_),_,rfl⟩
  all_goals clear hb1 hb2 hb3
  all_goals by_cases hp:zy <+: l
  all_goals have c1:(↑(vc (upto 32 (Lib.trimPrefix l zy))):Int)<2↔vc (upto 32 (Lib.trimPrefix l zy))<2:=by omega
  all_goals have c2:(↑(vc (upto 32 (Lib.trimPrefix l zy))):Int)=0↔vc (upto 32 (Lib.trimPrefix l zy))=0:=by omega
  all_goals have c4:(↑(past 32 (Lib.trimPrefix l zy)).length:Int)≤8↔(past 32 (Lib.trimPrefix l zy)).length≤8:=by omega
  all_goals simp only [c1,c2,c4,qf8,qt7] at *
  all_goals clear c1 c2 c4
  all_goals try (have e : Lib.trimPrefix l zy = l.drop 7 := qb3 hp
                 simp only [e] at *)
  all_goals unfold qdp
  all_goals first|rw [if_pos hp]|rw [if_neg hp]
  all_goals simp_all
  all_goals first|exact Iff.rfl|(intros;omega)|skip
theorem q8x (l:List UInt8) (n:Int) (st:List AObj) (hl:l.length<4294967281):qm E 172 [Sv l,Iv n] st fun r st'=>r=Iv (qd4 l n)∧st'=st:=by
 refine qy (qq _) (qp Tryz.func172 rfl (Nat.le_of_ble_eq_true rfl) ?_)
 repeat' (first|apply ql|apply qe|apply qf|apply qi|apply qg|(apply qr;(iterate 3 exact rfl))|(apply jo;(iterate 3 exact rfl))|(apply z6;exact rfl)|(apply qx;(iterate 4 exact rfl))|(apply yn;exact cAo)|(apply ye;exact cAo)|(apply qdn;(iterate 4 exact rfl))|(apply qaq;exact cRa)|(apply qcw;exact cRa)|(apply qka <;> intro h)|(apply y3;exact cRa)|(apply yf;exact cRa)|(apply wg <;> intro h)|(apply qe6 <;> intro h)|(apply qo;exact rfl;apply y6;exact cAo)|(apply qo;exact rfl;apply qay;exact cAo)|(apply qo;exact rfl;apply qkt;exact cRa)|(apply qo;exact rfl;apply qfl;exact cRa)|(apply qo;exact rfl;apply pk_t;exact cRa)|(apply qo;exact rfl;apply pk_f;exact cRa)|(apply qc;exact rfl;apply cd_t;exact cRa)|(apply qc;exact rfl;apply cd_f;exact cRa)|(apply qc;exact rfl;apply cd_d <;> intro h)|apply qs|apply qt|(apply qk;exact Tryz.call192;exact qnt _ _ _ (by omega))|(apply qk;exact Tryz.call193;exact qql _ _ hl))
 all_goals refine qn rfl (q9 rfl) ⟨congrArg Iv (?_:_=_),_,rfl⟩
 all_goals simp_all [qd4,qf9]
theorem q8e (n:Int) (st:List AObj):qm E 174 [Iv n] st fun r st'=>r=Iv (qg6 n)∧st'=st:=by
 refine qy (qq _) (qp Tryz.func174 rfl (Nat.le_of_ble_eq_true rfl) ?_)
 by_cases hr:n<2∨50000<n
 ·skip
  repeat' (first|apply ql|apply qe|apply qf|apply qi|apply qg|(apply qr;(iterate 3 exact rfl))|(apply qx;(iterate 4 exact rfl))|(apply yn;exact cAo)|(apply ye;exact cAo)|(apply wg <;> intro h)|(apply qo;exact rfl;apply y6;exact cAo)|(apply qo;exact rfl;apply qay;exact cAo)|(apply qc;exact rfl;apply km;exact cAo)|(apply qc;exact rfl;apply cd_t;exact cRa)|apply qt)
  all_goals refine qn rfl (q9 rfl) ⟨congrArg Iv (?_:_=_),_,rfl⟩
  all_goals first|exact (if_pos hr).symm|omega
 ·obtain⟨k,rfl⟩:=Int.eq_ofNat_of_zero_le (by omega:0≤n)
  have h1:=qhp k (by omega)
  have h2:=qem k (Lib.repeatL [48] 8)
  have h3:=qet k
  have h4:(Lib.repeatL [48] 8).length=8:=by decide
  repeat' (first|apply ql|apply qe|apply qf|apply qi|apply qg|(apply qr;(iterate 3 exact rfl))|(apply qx;(iterate 4 exact rfl))|(apply yn;exact cAo)|(apply qo;exact rfl;apply qay;exact cAo)|(apply qc;exact rfl;apply vo;exact cAo)|(apply jp;(iterate 3 exact rfl))|(apply zk;exact rfl;exact rfl;exact zb (by omega) (by omega))|apply qs|apply qt|(apply qk;exact Tryz.call220;exact q9a [48] 8 _ (by omega) (by decide))|(apply qk;exact Tryz.call141;exact q4u k _ _ (by omega) (by decide))|(apply qk;exact Tryz.call144;exact qx8 k _ (by omega)))
  refine qn rfl (q9 rfl) ⟨congrArg Iv (?_:_=_),_,rfl⟩
  unfold qg6
  rw [if_neg hr,← rep8]
  rfl
def qlz (x:BitVec 32):BitVec 32:=if x &&& 2147483648#32≠0#32 then (x <<< 1) ^^^ 79764919#32 else x <<< 1
def qmu:Nat→BitVec 32→BitVec 32
 | 0,x=>x
 |n+1,x=>qlz (qmu n x)
theorem zeb (x:BitVec 32) (st:List AObj):qm E 262 [Wv x] st fun r st'=>r=Wv (qmu 4 (x <<< 28))∧st'=st:=by
 refine qy (qq _) (qp Tryz.func262 rfl (Nat.le_of_ble_eq_true rfl) ?_)
 repeat' (first|apply ql|apply qv|apply qe|apply qf|apply qi|apply qg|(apply qed;(iterate 3 exact rfl)))
 refine kh (fun (k:Nat) s=>k≤4∧StA [(3,Wv (qmu k (x <<< 28))),(6,Iv k)] (st++[]) [] s) (fun k=>4 - k) 0 ⟨by omega,jw ⟨rfl,rfl,trivial⟩⟩ ?_
 rintro k _ ⟨hk,t,rfl⟩
 repeat' (first|apply ql|apply qv|apply qe|apply qf|apply qi|apply qg|(apply qr;(iterate 3 exact rfl))|(apply qc;exact rfl;apply cd_d <;> intro h)|(apply zk;exact rfl;exact rfl;exact zb (by omega) (by omega))|(apply qgh;exact rfl;exact rfl;(first|exact kj _|exact rfl);first|exact kj _|exact rfl)|(apply qjz;exact rfl;exact rfl;(first|exact kj _|exact rfl);first|exact kj _|exact rfl)|(apply qed;(iterate 3 exact rfl))|apply qs|apply jh|apply qt)
 ·refine⟨k+1,⟨by omega,jw ⟨?_,rfl,trivial⟩⟩,by omega⟩
  refine congrArg Wv (?_:_=qlz _)
  unfold qlz
  rw [if_pos (fun e=>by rename_i h;exact h ((qrm _).2 e))]
  rfl
 ·refine⟨k+1,⟨by omega,jw ⟨?_,rfl,trivial⟩⟩,by omega⟩
  refine congrArg Wv (?_:_=qlz _)
  unfold qlz
  rw [if_neg (fun e=>by rename_i h;exact h (fun h'=>e ((qrm _).1 h')))]
 ·have e:k=4:=by omega
  subst e
  exact qn rfl (q9 rfl) ⟨rfl,_,rfl⟩
def rowT (i:Nat):BitVec 32:=qmu 4 (BitVec.ofNat 32 i <<< 28)
def tabA (k:Nat):List AV:=(List.range 16).map fun i=>if i<k then Wv (rowT i) else .v (.int .u32 0)
theorem qzr (k:Nat):(tabA k).length=16:=by simp [tabA]
theorem q6f {k:Nat} (h:k<16):(tabA k).set k (Wv (rowT k))=tabA (k+1):=by
 apply List.ext_getElem
 ·simp [tabA]
 ·intro i h1 h2
  simp only [tabA,List.length_map,List.length_range] at h2
  rw [List.getElem_set]
  by_cases e:k=i
  ·subst e
   simp [tabA]
  ·rw [if_neg e]
   simp only [tabA,List.getElem_map,List.getElem_range]
   by_cases hi:i<k
   ·rw [if_pos hi,if_pos (by omega)]
   ·rw [if_neg hi,if_neg (by omega)]
theorem q9p {i:Nat} (h:i<16):(tabA 16)[i]? = some (Wv (rowT i)):=by
 simp [tabA,h]
theorem zdu (st:List AObj):qm E 233 [] st fun r st'=>r = .ag (tabA 16)∧st'=st:=by
 refine qy (qjr (fun x hx=>?_)) (qp Tryz.func233 rfl (Nat.le_of_ble_eq_true rfl) ?_)
 ·simp only [tabA,List.mem_map] at hx
  obtain⟨i,_,rfl⟩:=hx
  split <;> exact qq _
 repeat' (first|apply ql|apply qv|apply qe|apply qf|apply qi|(apply ja;exact rfl;exact rfl))
 refine kh (fun (k:Nat) s=>k≤16∧StA [(0,.bx (st.length+0) 0 0),(2,Iv k)] (st++[.cells 0 314 (tabA k)]) [] s) (fun k=>16 - k) 0 ⟨by omega,qbf ⟨rfl,rfl,trivial⟩ (by show st++[AObj.cells 0 _ _]=_;rfl)⟩ ?_
 rintro k _ ⟨hk,t,rfl⟩
 have hlen:=qzr k
 repeat' (first|apply ql|apply qv|apply qe|apply qf|apply qi|apply qg|(apply qr;(iterate 3 exact rfl))|(apply qc;exact rfl;apply cd_d <;> intro h)|(apply zk;exact rfl;exact rfl;exact zb (by omega) (by omega))|(apply jc;(iterate 5 exact rfl))|(apply qcb;(iterate 4 exact rfl);first|assumption|omega|decide)|apply qs|apply jh|(apply qk;exact Tryz.call262;exact zeb _ _)|(apply q08;(iterate 3 exact rfl);omega)|(apply qru;(iterate 9 exact rfl);(show 0+k * 1+1≤_;omega);exact rfl))
 ·refine⟨k+1,⟨by omega,qbf ⟨rfl,rfl,trivial⟩ ?_⟩,by omega⟩
  show st++[AObj.cells 0 _ (zu (tabA k) (0+k * 1) [Wv (rowT k)])]=_
  rw [Nat.zero_add,Nat.mul_one,q24 (by omega),q6f (by omega)]
 ·have e:k=16:=by omega
  subst e
  repeat' (first|apply qf|(apply zp;(iterate 11 exact rfl))|apply qt)
  exact qn rfl (qrx rfl rfl rfl rfl rfl rfl) ⟨rfl,_,rfl⟩
def crcN (x:BitVec 32) (n:Nat):BitVec 32:=(x <<< 4) ^^^ rowT ((x >>> 28) ^^^ BitVec.ofNat 32 n).toNat
def crcP (x:BitVec 32) (c:UInt8):BitVec 32:=crcN (crcN x (c.toNat / 16)) (c.toNat % 16)
def addP (s:BitVec 32) (l:List UInt8):BitVec 32:= ~~~ (l.foldl crcP (~~~ s))
def qu3 (y:BitVec 32) (c:UInt8):Nat→BitVec 32
 | 0=>y
 | 1=>crcN y (c.toNat / 16)
 | _=>crcP y c
theorem q45 (x:BitVec 32) {n:Nat} (h:n<16):((x >>> 28) ^^^ BitVec.ofNat 32 n).toNat<16:=by
 rw [BitVec.toNat_xor]
 refine Nat.xor_lt_two_pow (n:=4) ?_ ?_
 ·rw [BitVec.toNat_ushiftRight,Nat.shiftRight_eq_div_pow]
  have:=x.isLt
  omega
 ·rw [BitVec.toNat_ofNat]
  omega
theorem qx7 {n:Nat} (h:n<16):jk 1 false (0+n * 1) (tabA 16)=some (Wv (rowT n)):=by
 rw [Nat.zero_add,Nat.mul_one]
 exact q9p h
theorem zd5 (x:BitVec 32) (l:List UInt8) (st:List AObj) (hl:l.length<4294967281):qm E 195 [Wv x,Sv l] st fun r st'=>r=Wv (addP x l)∧st'=st:=by
 refine qy (qq _) (qp Tryz.func195 rfl (Nat.le_of_ble_eq_true rfl) ?_)
 repeat' (first|apply ql|apply qv|apply qe|apply qf|apply qi|apply qg|(apply jp;(iterate 3 exact rfl))|(apply ja;exact rfl;exact rfl)|(apply zp;(iterate 11 exact rfl))|(apply qhc;exact rfl)|(apply qk;exact Tryz.call233;exact zdu _))
 refine kh (fun (k:Nat) s=>k≤l.length∧StA [(1,Sv l),(5,.bx (st.length+0) 0 0),(6,Wv ((l.take k).foldl crcP (~~~ x))),(14,Iv l.length),(15,Iv k)] (st++[.cells 0 314 (tabA 16)]) [] s) (fun k=>l.length - k) 0 ⟨by omega,qbf ⟨rfl,rfl,rfl,rfl,rfl,trivial⟩ (by show st++[AObj.cells 0 _ _]=_;rfl)⟩ ?_
 rintro k _ ⟨hk,t,rfl⟩
 generalize hx:(l.take k).foldl crcP (~~~ x)=y
 have hc:=UInt8.toNat_lt (l.getD k 0)
 repeat' (first|apply ql|apply qv|apply qe|apply qf|apply qi|apply qg|(apply qr;(iterate 3 exact rfl))|(apply qc;exact rfl;apply cd_d <;> intro h)|(apply qhc;exact rfl)|(apply qhe;exact rfl;kernel_rfl)|apply qfq|(apply q3o;(iterate 3 exact rfl);exact cAs)|(apply qzy;exact rfl;exact rfl)|(apply qvn;exact rfl;exact rfl)|(apply qvo;(iterate 3 exact rfl);omega)|(apply qsv;(iterate 3 exact rfl))|apply qdw|apply qs|apply jh|apply qt)
 ·generalize hcc:l.getD k 0=c at *
  refine kh (fun (j:Nat) s=>j≤2∧StA [(1,Sv l),(5,.bx (st.length+0) 0 0),(6,Wv (qu3 y c j)),(14,Iv l.length),(15,Iv k),(28,.ag [Wv (BitVec.ofNat 32 (c.toNat / 16)),Wv (BitVec.ofNat 32 (c.toNat % 16))]),(29,Iv j)] (st++[.cells 0 314 (tabA 16)]) [] s) (fun j=>2 - j) 0 ⟨by omega,qbf ⟨rfl,rfl,rfl,rfl,rfl,rfl,rfl,trivial⟩ rfl⟩ ?_
  rintro j _ ⟨hj,t2,rfl⟩
  have hj3:j=0∨j=1∨j=2:=by omega
  have hn1:=q45 (qu3 y c j) (n:=c.toNat / 16) (by omega)
  have hn2:=q45 (qu3 y c j) (n:=c.toNat % 16) (by omega)
  generalize hz:qu3 y c j=z at hn1 hn2 ⊢
  rcases hj3 with rfl|rfl|rfl
  ·skip
   repeat' (first|apply ql|apply qv|apply qe|apply qf|apply qi|apply qg|(apply qr;(iterate 3 exact rfl))|(apply qc;exact rfl;apply km;exact cAo)|(apply zk;exact rfl;exact rfl;exact zb (by omega) (by omega))|(apply qgh;exact rfl;exact rfl;(first|exact kj _|exact rfl);first|exact kj _|exact rfl)|(apply qed;(iterate 3 exact rfl))|(apply qgg;(iterate 3 exact rfl))|(apply qi3;(iterate 4 exact rfl);(first|assumption|omega|decide);exact rfl)|(apply qcb;(iterate 4 exact rfl);first|assumption|omega|decide)|apply qs|(apply jc;(iterate 4 exact rfl);exact qx7 hn1))
   subst hz
   exact⟨1,⟨by omega,qbf ⟨rfl,rfl,rfl,rfl,rfl,rfl,rfl,trivial⟩ rfl⟩,by omega⟩
  ·skip
   repeat' (first|apply ql|apply qv|apply qe|apply qf|apply qi|apply qg|(apply qr;(iterate 3 exact rfl))|(apply qc;exact rfl;apply km;exact cAo)|(apply zk;exact rfl;exact rfl;exact zb (by omega) (by omega))|(apply qgh;exact rfl;exact rfl;(first|exact kj _|exact rfl);first|exact kj _|exact rfl)|(apply qed;(iterate 3 exact rfl))|(apply qgg;(iterate 3 exact rfl))|(apply qi3;(iterate 4 exact rfl);(first|assumption|omega|decide);exact rfl)|(apply qcb;(iterate 4 exact rfl);first|assumption|omega|decide)|apply qs|(apply jc;(iterate 4 exact rfl);exact qx7 hn2))
   subst hz
   exact⟨2,⟨by omega,qbf ⟨rfl,rfl,rfl,rfl,rfl,rfl,rfl,trivial⟩ rfl⟩,by omega⟩
  ·skip
   repeat' (first|apply ql|apply qe|apply qf|apply qi|(apply qr;(iterate 3 exact rfl))|(apply qc;exact rfl;apply vo;exact cAo)|(apply zk;exact rfl;exact rfl;exact zb (by omega) (by omega))|apply jh)
   subst hz
   refine⟨k+1,⟨by omega,qbf ⟨rfl,rfl,?_,rfl,rfl,trivial⟩ rfl⟩,by omega⟩
   refine congrArg Wv (?_:crcP y c=_)
   rw [qcr (by omega),List.foldl_append,hx,hcc]
   rfl
 ·have e:k=l.length:=by omega
  subst e
  refine qn rfl (q9 rfl) ⟨congrArg Wv (?_:_=_),_,rfl⟩
  unfold addP
  rw [← hx,List.take_length]
theorem q6e (l:List UInt8) (st:List AObj) (hl:l.length<4294967281):qm E 143 [.sl 1 [Sv l] none] st fun r st'=>r=Wv (addP 0 l)∧st'=st:=by
 refine qy (qq _) (qp Tryz.func143 rfl (Nat.le_of_ble_eq_true rfl) ?_)
 repeat' (first|apply ql|apply qv|apply qe|apply qf|apply qi|apply qg|(apply zr;(iterate 4 exact rfl)))
 refine kh (fun (k:Nat) s=>k≤1∧StA [(3,Wv (if k=0 then 0 else addP 0 l)),(6,.sl 1 [Sv l] none),(7,Iv 1),(8,Iv k)] (st++[]) [] s) (fun k=>1 - k) 0 ⟨by omega,qbf ⟨rfl,rfl,rfl,rfl,trivial⟩ rfl⟩ ?_
 rintro k _ ⟨hk,t,rfl⟩
 have hk2:k=0∨k=1:=by omega
 rcases hk2 with rfl|rfl
 ·skip
  repeat' (first|apply ql|apply qv|apply qe|apply qf|apply qi|apply qg|(apply qr;(iterate 3 exact rfl))|(apply qc;exact rfl;apply km;exact cAo)|(apply zk;exact rfl;exact rfl;exact zb (by omega) (by omega))|(apply zo;(iterate 3 exact rfl))|apply qs|(apply zw;(iterate 4 exact rfl);exact (rfl:(0:Int)=((0:Nat):Int));exact rfl)|(apply qk;exact Tryz.call195;exact zd5 0 _ _ hl))
  exact⟨1,⟨by omega,qbf ⟨rfl,rfl,rfl,rfl,trivial⟩ rfl⟩,by omega⟩
 ·skip
  repeat' (first|apply ql|apply qe|apply qf|apply qi|apply qg|(apply qr;(iterate 3 exact rfl))|(apply qc;exact rfl;apply vo;exact cAo)|apply jh|apply qt)
  exact qn rfl (q9 rfl) ⟨rfl,_,rfl⟩
def figP (s:BitVec 32) (j:Nat):UInt8:=[48,49,50,51,52,53,54,55,56,57,97,98,99,100,101,102].getD ((s >>> (4 * (7 - j))) &&& BitVec.ofInt 32 15).toNat 0
def qbq (s:BitVec 32) (n:Nat):List UInt8:=(List.range n).map (figP s)
theorem qtd (x:BitVec 32) (st:List AObj):qm E 142 [Wv x] st fun r st'=>r=Sv (qbq x 8)∧st'=st:=by
 refine qy (qq _) (qp Tryz.func142 rfl (Nat.le_of_ble_eq_true rfl) ?_)
 repeat' (first|apply ql|apply qv|apply qe|apply qf|apply qg|(apply ja;exact rfl;exact rfl))
 refine qni (o:=st.length+0) (j:=1) (sz:=1) (T':=5) (jb rfl) rfl ?_
 refine kh (fun (j:Nat) s=>j≤8∧∃ q,(q = .v (.pointer none)∨q = .bx (st.length+0) 0 0)∧StA [(0,Wv x),(3,.bx (st.length+0) 0 0),(4,Iv (7 - (j:Int)))] (st++[bldO 0 q (qbq x j) (st.length+1),.tip (qbq x j).length 1 5]) [] s) (fun j=>8 - j) 0
  ⟨by omega,_,.inl rfl,qbf ⟨rfl,rfl,rfl,trivial⟩ ?_⟩ ?_
 ·show (st++[_]).set (st.length+0) (.cells 0 219 [_,.sl 1 [] (some (st++[_]).length)])++[_]=_
  rw [wp,List.append_assoc]
  simp [qbq]
 rintro j _ ⟨hj,q,hq,t,rfl⟩
 have hf:(qbq x j).length=j:=by simp [qbq]
 repeat' (first|apply ql|apply qv|apply qe|apply qf|apply qi|apply qg|(apply qr;(iterate 3 exact rfl))|(apply qc;exact rfl;apply cd_d <;> intro h)|(apply qch;exact rfl;exact rfl;exact zb (by omega) (by omega))|(apply qjz;exact rfl;exact rfl;(first|exact kj _|exact rfl);first|exact kj _|exact rfl)|apply qs|apply jh|apply qt|(apply qvj;exact rfl;exact rfl;exact zb (by omega) (by omega))|(apply qyi (n:=4 * (7 - j));exact rfl;exact rfl;omega;omega)|(apply ym;(iterate 3 exact rfl);exact and15_lt _)|(refine qk Tryz.call194 (q3x st _ _ 0 1 0 _ _ _ rfl rfl ?_ ?_ rfl) ?_;exact hq;omega)|(refine qk Tryz.call139 (qnj st _ _ 0 1 0 _ _ rfl rfl rfl) ?_))
 ·have e1:qbq x j++[figP x j]=qbq x (j+1):=by simp [qbq,List.range_succ]
  refine⟨j+1,⟨by omega,_,.inr rfl,qbf ⟨rfl,rfl,congrArg Iv (by omega:(7 - (j:Int)) - 1=7 - ((j+1:Nat):Int)),trivial⟩ ?_⟩,by omega⟩
  show st++[bldO 0 _ (qbq x j++[figP x j]) (st.length+1),.tip (qbq x j++[figP x j]).length 1 5]=_
  rw [e1]
 ·have e:j=8:=by omega
  subst e
  exact qn rfl (q9 rfl) ⟨rfl,_,rfl⟩
def sumF (l:List UInt8):List UInt8:=qbq (addP 0 l) 8
theorem qja (l:List UInt8):(sumF l).length=8:=by simp [sumF,qbq]
theorem is_c (f l:List UInt8) (st:List AObj) (hl:l.length<4294967281):qm E 219 [Sv f,.sl 1 [Sv l] none] st fun r st'=>r=Bv (decide (f=sumF l))∧st'=st:=by
 refine qy (qq _) (qp Tryz.func219 rfl (Nat.le_of_ble_eq_true rfl) ?_)
 repeat' (first|apply ql|apply qe|apply qf|apply qi|apply qg|(apply jo;(iterate 3 exact rfl))|apply qt|(apply qk;exact Tryz.call143;exact q6e l _ hl)|(apply qk;exact Tryz.call142;exact qtd _ _))
 exact qn rfl (q9 rfl) ⟨rfl,_,rfl⟩
def qb8 (rest body sums:List UInt8) (size:Int):Int×List UInt8×Int:=
 if rest.length<(qdl body.length).length∧rest <+: qdl body.length then (2,[],0)
 else if qdl body.length <+: rest∧sums=sumF body then (1,body,size) else (3,[],0)
theorem q7j (rest body sums:List UInt8) (size:Int) (st:List AObj) (hb:body.length<4294967281):qm E 173 [Sv rest,Sv body,Sv sums,Iv size] st fun r st'=>r = .tu [Iv (qb8 rest body sums size).1,Sv (qb8 rest body sums size).2.1,Iv (qb8 rest body sums size).2.2]∧st'=st:=by
 refine qy (qd5 _ _ _) (qp Tryz.func173 rfl (Nat.le_of_ble_eq_true rfl) ?_)
 repeat' (first|apply ql|apply qv|apply qe|apply qf|apply qi|apply qg|(apply qr;(iterate 3 exact rfl))|(apply qx;(iterate 4 exact rfl))|(apply qbs;exact cAo)|(apply qd0;exact cAo)|(apply y3;exact cRa)|(apply yf;exact cRa)|(apply wg <;> intro h)|(apply qe6 <;> intro h)|(apply qo;exact rfl;apply y6;exact cAo)|(apply qo;exact rfl;apply qay;exact cAo)|(apply qo;exact rfl;apply pk_t;exact cRa)|(apply qo;exact rfl;apply pk_f;exact cRa)|(apply qc;exact rfl;apply cd_f;exact cRa)|(apply qc;exact rfl;apply cd_d <;> intro h)|(apply qc;exact rfl;apply cd_s <;> intro h)|(apply jp;(iterate 3 exact rfl))|(apply j7;(iterate 9 exact rfl))|apply qs|apply qt|(apply qk;exact Tryz.call144;exact qx8 body.length _ (by omega))|(apply qk;exact Tryz.call164;exact qdf _ _ _)|(apply qk;exact Tryz.call219;exact is_c sums body _ hb))
 all_goals refine qn rfl (qbm rfl) ⟨q6m (?_:_=_),_,rfl⟩
 all_goals show _=qb8 rest body sums size
 all_goals
  have c1:(↑rest.length:Int) < ↑(qdl body.length).length↔rest.length<(qdl body.length).length:=by omega
  simp only [c1,qf8,decide_eq_true_eq,decide_eq_false_iff_not] at *
  simp_all [qb8] <;> (intros;omega)
theorem q7b (l:List UInt8) (st:List AObj) (hl:l.length<4294967281):qm E 101 [Sv l] st fun r st'=>r=Bv (decide (l.head? = some 37∧qw l=5))∧st'=st:=by
 refine qy (qq _) (qp Tryz.func101 rfl (Nat.le_of_ble_eq_true rfl) ?_)
 repeat' (first|apply ql|apply qe|apply qf|apply qi|apply qg|(apply qr;(iterate 3 exact rfl))|(apply qx;(iterate 4 exact rfl))|(apply qbs;exact cAo)|(apply qd0;exact cAo)|(apply wg <;> intro h)|(apply qo;exact rfl;apply y6;exact cAo)|(apply qo;exact rfl;apply qay;exact cAo)|apply qt|(apply qk;exact Tryz.call164;exact qek _ _ _)|(apply qk;exact Tryz.call165;exact qhs _ _ hl))
 all_goals refine qn rfl (q9 rfl) ⟨congrArg Bv (?_:_=_),_,rfl⟩
 all_goals simp_all
def z8 (l:List UInt8):Int×List UInt8×Int:=
 if 10∈l then
  if (jd (upto 10 l)).2.2=true then
   if (past 10 l).length<(jd (upto 10 l)).1 then (qd4 (past 10 l) ((jd (upto 10 l)).1 - (past 10 l).length),[],0)
   else if qas ((past 10 l).take (jd (upto 10 l)).1) then qb8 ((past 10 l).drop (jd (upto 10 l)).1) ((past 10 l).take (jd (upto 10 l)).1) (jd (upto 10 l)).2.1 (qg6 (jd (upto 10 l)).1)
   else (3,[],0)
  else (3,[],0)
 else if qdp l=true then (2,[],0) else (3,[],0)
theorem zdq (l:List UInt8) (st:List AObj) (hl:l.length<4294967281):qm E 104 [Sv l] st fun r st'=>r = .tu [Iv (z8 l).1,Sv (z8 l).2.1,Iv (z8 l).2.2]∧st'=st:=by
 refine qy (qd5 _ _ _) (qp Tryz.func104 rfl (Nat.le_of_ble_eq_true rfl) ?_)
 have hb2:=j8 10 l
 have hb3:=j9 10 l
 have hn:(jd (upto 10 l)).1≤50000:=qbw _
 repeat' (first|apply ql|apply qv|apply qe|apply qf|apply qi|apply qg|(apply za;exact rfl;exact rfl)|(apply qr;(iterate 3 exact rfl))|(apply z6;exact rfl)|(apply qc;exact rfl;apply cd_n <;> intro h)|(apply qc;exact rfl;apply cd_d <;> intro h)|(apply qc;exact rfl;apply cd_s <;> intro h)|(apply jp;(iterate 3 exact rfl))|(apply qch;exact rfl;exact rfl;exact zb (by omega) (by omega))|(apply qid;(iterate 3 exact rfl);exact cAs)|(apply qhe;exact rfl;kernel_rfl)|apply qfq|apply qdw|apply qlp|(apply qrw;(iterate 3 exact rfl);exact cAs)|(apply qrv;(iterate 3 exact rfl);exact cAs)|(apply qpq;exact rfl;exact rfl)|apply qs|apply qt|(apply qk;exact Tryz.call96;exact qhg l 10 _ hl)|(apply qk;exact Tryz.call170;exact q5h _ _ hl)|(apply qk;exact Tryz.call171;exact q8r (upto 10 l) _ (by omega))|(apply qk;exact Tryz.call172;exact q8x _ _ _ (by omega))|(apply qk;exact Tryz.call140;exact q4q ((past 10 l).take (jd (upto 10 l)).1) _ (by simp;omega))|(refine qzw (vals:=[.int .i64 (jd (upto 10 l)).1]) E_ok Tryz.call174 rfl (qrl _) (fun _=>.v _) (q8e _ _) ?_)|(refine qzw (vals:=[.string ⟨((past 10 l).drop (jd (upto 10 l)).1).toArray⟩,.string ⟨((past 10 l).take (jd (upto 10 l)).1).toArray⟩,.string ⟨(jd (upto 10 l)).2.1.toArray⟩,.int .i64 (qg6 (jd (upto 10 l)).1)]) E_ok Tryz.call173 rfl q9o (fun _=>qsj (.v _) (.v _) (.v _)) (q7j _ _ _ _ _ (by simp;omega)) ?_))
 all_goals refine qn rfl (qbm rfl) ⟨q6m (?_:_=z8 l),_,rfl⟩
 all_goals
  have c1:(↑(past 10 l).length:Int) < ↑(jd (upto 10 l)).1↔(past 10 l).length<(jd (upto 10 l)).1:=by omega
  simp only [c1,decide_eq_true_eq,decide_eq_false_iff_not] at *
  clear c1 hb2 hb3 hn hl
 ·unfold z8;rw [if_neg (by assumption),if_pos (by assumption)]
 ·unfold z8;rw [if_neg (by assumption),if_neg (by simp_all)]
 ·unfold z8;rw [if_pos (by assumption),if_neg (by simp_all)]
 ·unfold z8;rw [if_pos (by assumption),if_pos (by assumption),if_pos (by assumption)]
 ·unfold z8;rw [if_pos (by assumption),if_pos (by assumption),if_neg (by assumption),if_neg (by assumption)]
 ·unfold z8;rw [if_pos (by assumption),if_pos (by assumption),if_neg (by assumption),if_pos (by assumption)]
def recF (l:List UInt8):List UInt8:=qip l.length (sumF l)++l++qdl l.length
def qz8:AV:=.ifc 76 (.v (.int .i64 2))
def qd6 (l:List UInt8):AV:=if qas l then .tu [Sv (recF l),.v .nilIface] else .tu [Sv [],qz8]
theorem qxn (l:List UInt8):Pure (qd6 l):=by
 unfold qd6
 split
 ·exact qty _ _
 ·exact qca (by simp;exact⟨qq _,qbx (qq _)⟩)
theorem q87 (l:List UInt8) (st:List AObj) (hl:l.length<4294967281):qm E 76 [Sv l] st fun r st'=>r=qd6 l∧st'=st:=by
 refine qy (qxn l) (qp Tryz.func76 rfl (Nat.le_of_ble_eq_true rfl) ?_)
 have h1:=qhp l.length (by omega)
 have h2:=qem l.length (sumF l)
 have h3:=qet l.length
 have h4:=qja l
 repeat' (first|apply ql|apply qe|apply qf|apply qi|apply qg|(apply z6;exact rfl)|(apply qc;exact rfl;apply cd_n <;> intro h)|(apply jp;(iterate 3 exact rfl))|(apply jt;exact rfl;exact rfl;exact cOs)|(apply jq;exact rfl;exact rfl)|(apply j7;(iterate 9 exact rfl))|apply qs|apply qt|(apply qk;exact Tryz.call140;exact q4q _ _ hl)|(apply qk;exact Tryz.call143;exact q6e l _ hl)|(apply qk;exact Tryz.call142;exact qtd _ _)|(apply qk;exact Tryz.call141;exact q4u l.length (sumF l) _ (by omega) (by omega))|(apply qk;exact Tryz.call144;exact qx8 l.length _ (by omega)))
 ·have e:AV.tu [Sv [],qz8]=qd6 l:=by unfold qd6;rw [if_neg (of_decide_eq_false (by assumption))]
  exact qn rfl (wc rfl) ⟨e,_,rfl⟩
 ·have e:AV.tu [Sv (recF l),.v .nilIface]=qd6 l:=by unfold qd6;rw [if_pos (of_decide_eq_true (by assumption))]
  exact qn rfl (wc rfl) ⟨e,_,rfl⟩
def qqn (c:UInt8):Bool:=decide (48≤c.toNat∧c.toNat≤57)
end Go.Proofs.YtmoklbacdkmkaaaGreatDoor
namespace Go.Pl
open Go
theorem wt:∀ (n u:Nat),u≤n→∀ c∈Lib.decDigits u,48≤c.toNat∧c.toNat≤57
 |n,u,hn,c,hc=>by
  by_cases h:u<10
  ·rw [Lib.decDigits_one h] at hc
   simp only [List.mem_singleton] at hc
   subst hc
   rw [UInt8.toNat_ofNat']
   omega
  ·rw [qb1 h,List.mem_append] at hc
   cases n with
   |zero=>omega
   |succ n=>
    rcases hc with hc|hc
    ·exact wt n (u / 10) (by omega) c hc
    ·exact wt n (u % 10) (by omega) c hc
theorem qf7 (u:Nat):1≤(Lib.decDigits u).length:=by
 rw [Lib.decDigits_length]
 exact Lib.nDigits_pos u
theorem qhq {v:Int} (h:v<0):Lib.itoa v=45::Lib.decDigits v.natAbs:=by
 unfold Lib.itoa
 rw [if_pos h]
theorem qhr {v:Int} (h:0≤v):Lib.itoa v=Lib.decDigits v.toNat:=by
 unfold Lib.itoa
 rw [if_neg (by omega)]
theorem ql9 {v:Int} (h1 : -9223372036854775808≤v) (h2:v≤9223372036854775807):(Lib.itoa v).length≤20:=by
 by_cases h:v<0
 ·rw [qhq h,List.length_cons,Lib.decDigits_length]
  have:=qgv 18 v.natAbs (by omega)
  omega
 ·rw [qhr (by omega),Lib.decDigits_length]
  have:=qgv 18 v.toNat (by omega)
  omega
theorem qts:∀ (a:Nat) (l m:qb) (b:Nat),Lib.parseUint10 a l = .ok b→Lib.parseUint10 a (l++m)=Lib.parseUint10 b m
 |a,[],m,b,h=>by
  simp only [Lib.parseUint10,Lib.NumEnd.ok.injEq] at h
  subst h;rfl
 |a,c::l,m,b,h=>by
  simp only [List.cons_append,Lib.parseUint10] at h ⊢
  split at h
  ·rename_i hd
   rw [if_pos hd]
   split at h
   ·cases h
   ·rename_i h1
    rw [if_neg h1]
    split at h
    ·cases h
    ·rename_i h2
     rw [if_neg h2]
     exact qts _ l m b h
  ·cases h
theorem qkn:∀ (n u:Nat),u≤n→u≤9223372036854775808→Lib.parseUint10 0 (Lib.decDigits u) = .ok u
 |n,u,hn,hu=>by
  have key:∀ (a d:Nat),a≤922337203685477580→d<10→Lib.parseUint10 a (Lib.decDigits d) = .ok (a * 10+d):=by
   intro a d ha hd
   have e:(UInt8.ofNat (48+d)).toNat=48+d:=by rw [UInt8.toNat_ofNat'];omega
   rw [Lib.decDigits_one hd]
   simp only [Lib.parseUint10,e]
   rw [if_pos (by omega),if_neg (by omega),if_neg (by omega)]
   congr 1
   omega
  by_cases h:u<10
  ·have:=key 0 u (by omega) h
   simpa using this
  ·cases n with
   |zero=>omega
   |succ n=>
    rw [qb1 h,qts 0 _ _ (u / 10) (qkn n (u / 10) (by omega) (by omega)),key _ _ (by omega) (by omega)]
    congr 1
    omega
theorem qpw {v:Int} (h1 : -9223372036854775808≤v) (h2:v≤9223372036854775807):Lib.atoiAll (Lib.itoa v) = .ok v:=by
 by_cases h:v<0
 ·have hp:=qkn v.natAbs v.natAbs (Nat.le_refl _) (by omega)
  rw [qhq h]
  have hm:Lib.parseMag (Lib.decDigits v.natAbs) = .ok v.natAbs:=by
   unfold Lib.parseMag
   rw [if_neg (fun e=>by have:=qf7 v.natAbs;rw [e] at this;simp at this)]
   exact hp
  have e45:(45:UInt8).toNat=45:=rfl
  simp only [Lib.atoiAll,e45]
  rw [if_pos (Or.inr trivial),hm]
  simp only [not_true,false_and,if_false,true_and]
  rw [if_neg (by omega)]
  simp only [if_true]
  congr 1
  omega
 ·have hp:=qkn v.toNat v.toNat (Nat.le_refl _) (by omega)
  have hd:=wt v.toNat v.toNat (Nat.le_refl _)
  rw [qhr (by omega)]
  cases hl:Lib.decDigits v.toNat with
  |nil=>have:=qf7 v.toNat;rw [hl] at this;simp at this
  |cons c r=>
   rw [hl] at hp hd
   have hc:=hd c (by simp)
   simp only [Lib.atoiAll]
   have g1:¬ (c.toNat=43∨c.toNat=45):=by omega
   rw [if_neg g1]
   have hm:Lib.parseMag (c::r) = .ok v.toNat:=by unfold Lib.parseMag;rw [if_neg (by simp)];exact hp
   rw [hm]
   have g2:¬ c.toNat=45:=by omega
   simp only [g2,not_false_iff,true_and,false_and,if_false]
   rw [if_neg (by omega)]
   congr 1
   omega
def numZ (l:qb):Option Int:=
 match Lib.atoiAll l with
 | .ok v=>if Lib.itoa v=l then some v else none
 | _=>none
theorem q46 {v:Int} (h1 : -9223372036854775808≤v) (h2:v≤9223372036854775807):numZ (Lib.itoa v)=some v:=by
 unfold numZ
 rw [qpw h1 h2]
 simp
theorem q47 {l:qb} {v:Int} (h:numZ l=some v):l=Lib.itoa v∧-9223372036854775808≤v∧v≤9223372036854775807:=by
 unfold numZ at h
 split at h
 ·rename_i u hu
  split at h
  ·rename_i he
   simp only [Option.some.injEq] at h
   subst h
   exact⟨he.symm,atoiAll_bounds hu⟩
  ·simp at h
 ·simp at h
end Go.Pl
