/- Contracts and plain facts that the closing text leans on (part 2). No condition of their own beyond those that each states. -/
import Derived.Test.YtihlchbgjdkmpaaGreatDoorK1
import Derived.Lib.Builder
import Derived.Laws.Pointers
import Derived.Laws.Externs
import Derived.Laws.Tables
import Derived.Test.YtihlchbgjdkmpaaGreatDoorK0
import Derived.Test.YtihlchbgjdkmpaaGreatDoorRows
import Derived.LaidHandle
import Derived.ProofKit
import Derived.OpenShut
import Derived.ShutString
import Derived.Deep.DeepHandedRow
import Derived.Deep.DeepWitnessRowRef
import Derived.Lib.LaidU8
import Derived.Lib.SmallJoins
import Derived.ChangeSame
import Derived.ChangeAgain
import Derived.Lay
import Derived.Lib.Index
import Derived.Lib.SlTrimSet
import Derived.Shelf.Strings.Prefix
import Derived.Shelf.Strings.Cut
import Derived.Lib.ItoaNum
import Derived.Lib.AtoiAll
import Derived.Lib.Repeat
set_option maxRecDepth 100000
set_option linter.unusedVariables false
set_option linter.unusedSimpArgs false
namespace Go.Av
open Go Go.RowKit
section
variable {E : Env} {rd : Option Nat} {N : Nat} {ops : Array Oper} {K : AS → Prop} {s : AS} {rest : List Oper} {d : Option Tmp} {T : TypeId} {p : String} {af : Array Edge}
def zcp:AV→Bool
 | .bx _ _ _=>true
 | .pp _=>true
 | _=>false
theorem wt {x:Operand} {r:AV} (hx:qg N s x=r) (hr:zcp r=true) (h:AOps E rd N ops rest K (s.put d r)):AOps E rd N ops (⟨d,.nilCheck x,T,p,af,none⟩::rest) K s:=by
 refine qz rfl (qw nofun fun B0 w0 G a w _ hI=>?_);have he:=hI.eval_of hx
 have key:∃ q,a.eval x = .pointer (some q):=by
  generalize a.eval x=u at he
  cases he <;> simp [zcp] at hr
  ·exact⟨_,rfl⟩
  ·exact⟨_,rfl⟩
 obtain⟨q,hv⟩:=key;refine⟨_,w,G,r,s.st,?_,.refl G,hI.agree,hv▸he,h⟩;generalize a.eval = ρ at hv;simp [execOp,hv]
end
section
variable {B0 : Nat} {w0 : World} {G : Gh} {st : List AObj} {w : World}
theorem zf.refroze (h:zf B0 w0 G st w) {w':World} {g:Nat} {c:Array Value} {T:TypeId} {fz fz':Nat×Nat} (hg:w.heap[g]? = some (.cells c T fz)) (hg':w'.heap[g]? = some (.cells c T fz')) (ho:∀ k,k≠g→w'.heap[k]? = w.heap[k]?) (hB:B0≤g)
  (i5:w'.heap.size=w.heap.size) (hos:w'.os=w.os) (htape:w'.tape=w.tape) (hout:w'.output=w.output) (hs:∀ o x,st[o]? = some x→x.live→(G.ob o).blk≠g):zf B0 w0 G st w':=by
 refine⟨h.below.trans ⟨hos,htape,hout,by omega,fun k hk=>ho k (by omega)⟩,by rw [i5];exact h.hB,h.n,fun b vs hb=>?_,fun o x hx=>(h.ob o x hx).mono (.refl G) rfl (fun _=>rfl) (fun hl=>ho _ (hs o x hx hl)),h.sep⟩;by_cases e:b=g
 ·subst e
  obtain⟨c2,T2,fz2,e1,e2⟩:=h.pub b vs hb;rw [hg] at e1;simp only [Option.some.injEq,Obj.cells.injEq] at e1;exact⟨c,T,fz',hg',by rw [e1.1];exact e2⟩
 ·rw [ho b e]
  exact h.pub b vs hb
theorem zf.tipCell (h:zf B0 w0 G st w) {o ver j sz:Nat} {T T':TypeId} {cs:List AV} (ho:st[o]? = some (.cells ver T cs)) (hj:cs[j]? = some zj) :
  zf B0 w0 (G.new 0 0 0 false) (st.set o (.cells ver T (cs.set j (.sl sz [] (some st.length))))++[AObj.tip 0 sz T']) w:=by
 have h1:=h.newTip sz T';have d6:=G.le_new 0 0 0 false;have d9:=lt_of_getElem? ho
 have e:st.set o (.cells ver T (cs.set j (.sl sz [] (some st.length))))++[AObj.tip 0 sz T']=(st++[AObj.tip 0 sz T']).set o (.cells ver T (cs.set j (.sl sz [] (some st.length)))):=by
  rw [List.set_append_left _ _ d9]
 rw [e];have d7:(st++[AObj.tip 0 sz T'])[o]? = some (.cells ver T cs):=by rw [List.getElem?_append_left d9];exact ho
 generalize hG:G.new 0 0 0 false=G' at h1 d6;have hn:st.length<G'.n:=by rw [h1.n];simp
 refine⟨h1.below,h1.hB,by simp [h1.n],h1.pub,fun k x hx=>?_,fun k k' x x' b9 hx e7 hl s4=>?_⟩
 ·rcases getElem?_set' _ _ _ _ _ hx with⟨rfl,rfl⟩ | ⟨b9,hx⟩
  ·obtain⟨g0,g1,g2,g3,c,g4,g5,g6⟩:=h1.ob k _ d7
   refine⟨g0,g1,g2,g3,c,g4,by simpa using g5,fun i x y hx hy=>?_⟩;rcases getElem?_set' _ _ _ _ _ hx with⟨rfl,rfl⟩ | ⟨_,hx⟩
   ·have:=g6 i _ y hj hy
    cases this
    exact .sl0 sz (some st.length) none 0 fun t ht=>by simp at ht;subst ht;exact⟨hn,rfl,rfl⟩
   ·exact g6 i x y hx hy
  ·exact h1.ob k x hx
 ·have key:∀ (k:Nat) (x:AObj),((st++[AObj.tip 0 sz T']).set o (.cells ver T (cs.set j (.sl sz [] (some st.length)))))[k]? = some x→∃ x0:AObj,(st++[AObj.tip 0 sz T'])[k]? = some x0∧(x.live→x0.live):=fun k x hx=>by
   rcases getElem?_set' _ _ _ _ _ hx with⟨rfl,rfl⟩ | ⟨_,hx⟩
   ·exact⟨_,d7,fun _=>trivial⟩
   ·exact⟨x,hx,id⟩
  obtain⟨x0,e1,e2⟩:=key k x hx;obtain⟨x1,e3,e4⟩:=key k' x' e7;exact h1.sep k k' x0 x1 b9 e1 e3 (e2 hl) (e4 s4)
end
section
variable {E : Env} {rd : Option Nat} {N : Nat} {ops : Array Oper} {K : AS → Prop} {s : AS} {rest : List Oper} {d : Option Tmp} {T : TypeId} {p : String} {af : Array Edge}
def qbm:AV→Option Bool
 | .bx _ _ _=>some false
 | .pp _=>some false
 | .v (.pointer none)=>some true
 | _=>none
theorem qan {x:Operand} {t t' te:TypeId} {r:AV} {b:Bool} (hx:qg N s x=r) (hr:qbm r=some b) (hu:E.P.underlying t=some (.pointer te)) (h:AOps E rd N ops rest K (s.put d (Bv b))):AOps E rd N ops (⟨d,.binOp .eql t x (.const (.pointer none)) t',T,p,af,none⟩::rest) K s:=by
 refine qz rfl (qw nofun fun B0 w0 G a w _ hI=>?_);have he:=hI.eval_of hx
 have key:∃ q:Option Addr,a.eval x = .pointer q∧q.isNone=b:=by
  generalize a.eval x=u at he
  cases he <;> try (simp [qbm] at hr;done)
  case v=>
   cases u <;> try (simp [qbm] at hr;done)
   case pointer q=>
    cases q <;> simp [qbm] at hr
    subst hr;exact⟨_,rfl,rfl⟩
  case pp=>simp [qbm] at hr;subst hr;exact⟨_,rfl,rfl⟩
  case bx=>simp [qbm] at hr;subst hr;exact⟨_,rfl,rfl⟩
 obtain⟨q,hv,rfl⟩:=key;have hc:a.eval (.const (.pointer none)) = .pointer none:=rfl;have hq:=run_eql_pointer_nil (P:=E.P) w t q (by simp [Program.pointee,hu]);refine⟨_,w,G,_,s.st,?_,.refl G,hI.agree,.v _,h⟩;generalize a.eval = ρ at hv hc;simp [execOp,hv,hc,eqGuard_at_pointer,hq]
theorem qmb {x:Operand} {t t' te:TypeId} {r:AV} {b:Bool} (hx:qg N s x=r) (hr:qbm r=some b) (hu:E.P.underlying t=some (.pointer te)) (h:AOps E rd N ops rest K (s.put d (Bv !b))):AOps E rd N ops (⟨d,.binOp .neq t x (.const (.pointer none)) t',T,p,af,none⟩::rest) K s:=by
 refine qz rfl (qw nofun fun B0 w0 G a w _ hI=>?_);have he:=hI.eval_of hx
 have key:∃ q:Option Addr,a.eval x = .pointer q∧q.isNone=b:=by
  generalize a.eval x=u at he
  cases he <;> try (simp [qbm] at hr;done)
  case v=>
   cases u <;> try (simp [qbm] at hr;done)
   case pointer q=>
    cases q <;> simp [qbm] at hr
    subst hr;exact⟨_,rfl,rfl⟩
  case pp=>simp [qbm] at hr;subst hr;exact⟨_,rfl,rfl⟩
  case bx=>simp [qbm] at hr;subst hr;exact⟨_,rfl,rfl⟩
 obtain⟨q,hv,rfl⟩:=key;have hc:a.eval (.const (.pointer none)) = .pointer none:=rfl;have hq:=run_neq_pointer_nil (P:=E.P) w t q (by simp [Program.pointee,hu]);refine⟨_,w,G,_,s.st,?_,.refl G,hI.agree,.v _,h⟩;generalize a.eval = ρ at hv hc;simp [execOp,hv,hc,eqGuard_at_pointer,hq]
theorem Inv.ptr {B0:Nat} {w0:World} {G:Gh} {a:Act} {w:World} (hI:Inv B0 w0 N G s a w) {x:Operand} {o ver off:Nat} {T1:TypeId} {cs:List AV} (hx:qg N s x = .bx o ver off) (ho:s.st[o]? = some (.cells ver T1 cs)):a.eval x = .pointer (some ⟨(G.ob o).blk,off,none⟩):=by
 have he:=hI.eval_of hx;obtain⟨_,h1,_⟩:=hI.agree.ob o _ ho;generalize a.eval x=v at he
 cases he with
 |bx _ _ _ b hn hv hb=>rw [hb h1]
theorem qta {x y:Operand} {t t' te:TypeId} {o ver off:Nat} {T1:TypeId} {cs:List AV} (hx:qg N s x = .bx o ver off) (hy:qg N s y = .bx o ver off) (ho:s.st[o]? = some (.cells ver T1 cs)) (hu:E.P.underlying t=some (.pointer te)) (hi:(E.P.info? te).isSome=true)
  (h:AOps E rd N ops rest K (s.put d (Bv false))):AOps E rd N ops (⟨d,.binOp .neq t x y t',T,p,af,none⟩::rest) K s:=by
 refine qz rfl (qw nofun fun B0 w0 G a w _ hI=>?_);obtain⟨j,hj⟩:=Option.isSome_iff_exists.1 hi;have h1:=hI.ptr hx ho;have h2:=hI.ptr hy ho;have hq:=Lib.run_neq_ptr_same (P:=E.P) w ⟨(G.ob o).blk,off,none⟩ hu hj;refine⟨_,w,G,_,s.st,?_,.refl G,hI.agree,.v _,h⟩;generalize a.eval = ρ at h1 h2;simp [execOp,h1,h2,eqGuard_at_pointer,hq]
theorem qwb {x:Operand} {t t' te:TypeId} {o ver:Nat} {T1:TypeId} {cs:List AV} (hx:qg N s x = .bx o ver 0) (ho:s.st[o]? = some (.cells ver T1 cs)) (b9:0<cs.length) (hs:E.P.underlying t=some (.pointer te)) (hd:E.P.underlying t'=some .unsafePointer) (hi:(match E.P.info? te with|some j=>Nat.beq j.size 0|none=>true)=false)
  (h:AOps E rd N ops rest K (s.put d (.bx o ver 0))):AOps E rd N ops (⟨d,.convert t t' x,T,p,af,none⟩::rest) K s:=by
 refine qz rfl (qw nofun fun B0 w0 G a w _ hI=>?_);obtain⟨_,h1,h2,h3,c,h4,h5,h6⟩:=hI.agree.ob o _ ho;have he:=hI.eval_of hx;have hv:=hI.ptr hx ho
 cases hj:E.P.info? te with
 |none=>rw [hj] at hi;simp at hi
 |some j=>
  rw [hj] at hi;have hj0:j.size≠0:=fun e=>by simp [e] at hi
  have hq:=Lib.run_to_unsafe (P:=E.P) w ⟨(G.ob o).blk,0,none⟩ hs hd hj hj0 (e:=T1) (cells:=c.size) (by simp [World.shape?,h4]) (by simpa [← h5] using b9);refine⟨_,w,G,_,s.st,?_,.refl G,hI.agree,hv▸he,h⟩;generalize a.eval = ρ at hv;simp [execOp,hv,hq]
theorem qrb {x:Operand} {t t' te:TypeId} {o ver:Nat} {T1:TypeId} {cs:List AV} (hx:qg N s x = .bx o ver 0) (ho:s.st[o]? = some (.cells ver T1 cs)) (hs:E.P.underlying t=some .unsafePointer) (hd:E.P.underlying t'=some (.pointer te)) (hi:(E.P.info? te).isSome=true) (hl:liesAt E.P E.P.depth T1 (cs.length / E.P.cellsOf T1) 0 te 1=true)
  (h:AOps E rd N ops rest K (s.put d (.bx o ver 0))):AOps E rd N ops (⟨d,.convert t t' x,T,p,af,none⟩::rest) K s:=by
 refine qz rfl (qw nofun fun B0 w0 G a w _ hI=>?_);obtain⟨_,h1,h2,h3,c,h4,h5,h6⟩:=hI.agree.ob o _ ho;obtain⟨j,hj⟩:=Option.isSome_iff_exists.1 hi;have he:=hI.eval_of hx;have hv:=hI.ptr hx ho;have hq:=Lib.run_from_unsafe (P:=E.P) w ⟨(G.ob o).blk,0,none⟩ hs hd hj (e:=T1) (cells:=c.size) (by simp [World.shape?,h4]) (by rw [← h5];exact hl);refine⟨_,w,G,_,s.st,?_,.refl G,hI.agree,hv▸he,h⟩;generalize a.eval = ρ at hv;simp [execOp,hv,hq]
theorem qv9 {f:FuncId} {x:Operand} {ts:Array TypeId} {r:AV} (a8:∀ v w,(callFunc f #[v]).run E.P w = .ok (.value v) w) (hx:qg N s x=r)
  (h:AOps E rd N ops rest K (s.put d r)):AOps E rd N ops (⟨d,.call ⟨.value (.func f),#[x],ts⟩,T,p,af,none⟩::rest) K s:=by
 refine qz rfl (qw nofun fun B0 w0 G a w _ hI=>?_);refine⟨a.eval x,w,G,_,s.st,?_,.refl G,hI.agree,hI.eval_of hx,h⟩;have he:a.eval (.func f) = .func (.func f) #[] #[]:=rfl;generalize a.eval = ρ at he;simp [execOp,resolve,Deferred.ofValue,he,invoke,a8]
theorem Inv.restate {B0:Nat} {w0:World} {G G':Gh} {a:Act} {w:World} {st':List AObj} (h:Inv B0 w0 N G s a w) (hG:G.le G') (hA:zf B0 w0 G' st' w):Inv B0 w0 N G' ⟨s.t,st',s.df⟩ a w:=
 ⟨hA,h.defers_mono hG,h.size,fun i y hy=>(h.tmps i y hy).mono hG⟩
theorem qxi {o ver j sz:Nat} {T1 T':TypeId} {cs:List AV} {l:List Oper} (ho:s.st[o]? = some (.cells ver T1 cs)) (hj:cs[j]? = some zj)
  (h:AOps E rd N ops l K ⟨s.t,s.st.set o (.cells ver T1 (cs.set j (.sl sz [] (some s.st.length))))++[AObj.tip 0 sz T'],s.df⟩):AOps E rd N ops l K s:=
 ⟨fun B0 w0 G a w hL hI Q hQ=>h.run B0 w0 _ a w hL (hI.restate (G.le_new 0 0 0 false) (hI.agree.tipCell ho hj)) Q fun G' s' a' w' hG=>hQ G' s' a' w' ((G.le_new 0 0 0 false).trans hG)⟩
theorem qow {o ver j sz:Nat} {T1 T':TypeId} {cs:List AV} {c:Code} {Q:Exit→AS→Prop} (ho:s.st[o]? = some (.cells ver T1 cs)) (hj:cs[j]? = some zj)
  (h:AWp E rd N c Q ⟨s.t,s.st.set o (.cells ver T1 (cs.set j (.sl sz [] (some s.st.length))))++[AObj.tip 0 sz T'],s.df⟩):AWp E rd N c Q s:=
 ⟨fun B0 w0 G a w hL hI=>wpIn_mono (h.run B0 w0 _ a w hL (hI.restate (G.le_new 0 0 0 false) (hI.agree.tipCell ho hj))) fun _ _ _ ⟨G',s',hG,h1,h2⟩=>⟨G',s',(G.le_new 0 0 0 false).trans hG,h1,h2⟩⟩
theorem Inv.newTip {B0:Nat} {w0:World} {G:Gh} {a:Act} {w:World} (h:Inv B0 w0 N G s a w) {i sz:Nat} {T':TypeId} (hi:s.t i=zj):Inv B0 w0 N (G.new 0 0 0 false) ⟨Av.put s.t i (.sl sz [] (some s.st.length)),s.st++[AObj.tip 0 sz T'],s.df⟩ a w:=by
 have hA:=h.agree.newTip sz T';have h2:=h.restate (G.le_new 0 0 0 false) hA;refine⟨h2.agree,h2.defers,h2.size,fun k y hy=>?_⟩;by_cases e:k=i
 ·subst e
  show Rel _ (Av.put s.t k _ k) y
  rw [wz];have:=h2.tmps k y hy;simp only [hi] at this
  cases this
  exact .sl0 sz _ none 0 fun t ht=>by simp at ht;subst ht;exact⟨by rw [hA.n];simp,rfl,rfl⟩
 ·show Rel _ (Av.put s.t i _ k) y
  rw [y3 _ _ _ _ e];exact h2.tmps k y hy
end
end Go.Av
namespace Go.Av
open Go Go.RowKit
theorem qyh:∀ (vs:List Value) (off n:Nat) (c:Array Value),off+n+vs.length≤c.size →
  ((vs.zipIdx n).foldl (fun (cs:Array Value) (x:Value×Nat)=>cs.setIfInBounds (off+x.2) x.1) c).size=c.size ∧
  ∀ k,((vs.zipIdx n).foldl (fun (cs:Array Value) (x:Value×Nat)=>cs.setIfInBounds (off+x.2) x.1) c)[k]? = if off+n≤k∧k<off+n+vs.length then vs[k - (off+n)]? else c[k]?
 | [],off,n,c,_=>⟨by simp,fun k=>by simp;intro h1 h2;omega⟩
 |v::vs,off,n,c,h=>by
  simp only [List.zipIdx_cons,List.foldl_cons,List.length_cons] at h ⊢;obtain⟨h1,h2⟩:=qyh vs off (n+1) (c.setIfInBounds (off+n) v) (by simp;omega);refine⟨by rw [h1];simp,fun k=>?_⟩;rw [h2 k];by_cases hk:k=off+n
  ·subst hk
   rw [if_neg (by omega),if_pos (by omega),Array.getElem?_setIfInBounds_self,if_pos (by omega)];simp
  ·by_cases hr:off+n≤k∧k<off+n+(vs.length+1)
   ·rw [if_pos (by omega),if_pos hr]
    rw [show k - (off+n)=(k - (off+(n+1)))+1 by omega];simp
   ·rw [if_neg (by omega),if_neg hr]
    rw [Array.getElem?_setIfInBounds,if_neg (by omega)]
def qb1 (place:Nat→Option (Nat×Nat)) (cells:List AV):List (Nat×AV)→Option (List AV)
 | []=>some cells
 |(i,x)::rest=>
  match place i with
  |none=>none
  |some (off,size)=>bif x.okc && Nat.beq x.cells.length size && Nat.ble (off+size) cells.length then qb1 place (zr cells off x.cells) rest else none
theorem qh4 {G:Gh} (place:Nat→Option (Nat×Nat)):∀ (ps:List (Nat×AV)) (vs:List (Nat×Value)) (cs:List AV) (c:Array Value) (cs':List AV),ps.length=vs.length→(∀ (i:Nat) (p:Nat×AV) (v:Nat×Value),ps[i]? = some p→vs[i]? = some v→p.1=v.1∧Rel G p.2 v.2) →
  RelC G cs c→qb1 place cs ps=some cs'→∃ c',Instr.fill place c vs=some c'∧RelC G cs' c'
 | [],[],cs,c,cs',_,_,hc,h=>by
  simp only [qb1,Option.some.injEq] at h;subst h
  exact⟨c,rfl,hc⟩
 | [],v::vs,_,_,_,hl,_,_,_=>by simp at hl
 |p::ps,[],_,_,_,hl,_,_,_=>by simp at hl
 |(i,x)::ps,(j,v)::vs,cs,c,cs',hl,hr,hc,h=>by
  obtain⟨e,hx⟩:=hr 0 _ _ rfl rfl;simp only at e hx;subst e;simp only [qb1] at h;simp only [Instr.fill]
  cases hp:place i with
  |none=>simp [hp] at h
  |some q=>
   obtain⟨off,size⟩:=q;simp only [hp] at h ⊢
   cases hb:(x.okc && Nat.beq x.cells.length size && Nat.ble (off+size) cs.length) with
   |false=>simp [hb] at h
   |true=>
    simp only [hb,cond_true] at h;simp only [Bool.and_eq_true] at hb;obtain⟨⟨hok,i5⟩,d6⟩:=hb;have i5:=Nat.eq_of_beq_eq_true i5;have d6:=Nat.le_of_ble_eq_true d6;have hcx:=hx.cells hok;have nj:v.cells.size=size:=by rw [← hcx.1];exact i5
    have i4:off+v.cells.size≤c.size:=by rw [nj,← hc.1];exact d6
    rw [if_neg (by simp [nj];rw [← hc.1];exact d6)]
    have hfold:v.cells.zipIdx.foldl (fun cs (x:Value×Nat)=>cs.setIfInBounds (off+x.2) x.1) c=(v.cells.toList.zipIdx 0).foldl (fun (cs:Array Value) (x:Value×Nat)=>cs.setIfInBounds (off+x.2) x.1) c:=by
     rw [← Array.foldl_toList,Array.toList_zipIdx]
    obtain⟨g1,g2⟩:=qyh v.cells.toList off 0 c (by simpa using i4)
    have p8:RelC G (zr cs off x.cells) ((v.cells.toList.zipIdx 0).foldl (fun (cs:Array Value) (x:Value×Nat)=>cs.setIfInBounds (off+x.2) x.1) c):=by
     refine⟨?_,fun k a y h1 h2=>?_⟩
     ·rw [g1,← hc.1]
      simp [zr];omega
     ·rw [g2] at h2
      have e1:(cs.take off).length=off:=by simp;omega
      simp only [zr,List.append_assoc] at h1;by_cases hk:k<off
      ·rw [List.getElem?_append_left (by omega),List.getElem?_take,if_pos hk] at h1
       rw [if_neg (by omega)] at h2;exact hc.2 k a y h1 h2
      ·rw [List.getElem?_append_right (by omega),e1] at h1
       by_cases bq:k - off<x.cells.length
       ·rw [List.getElem?_append_left bq] at h1
        rw [if_pos ⟨by omega,by simp;omega⟩] at h2;exact hcx.2 (k - off) a y h1 (by simpa using h2)
       ·rw [List.getElem?_append_right (by omega),List.getElem?_drop] at h1
        rw [if_neg (by simp;omega)] at h2;rw [show off+x.cells.length+(k - off - x.cells.length)=k by omega] at h1;exact hc.2 k a y h1 h2
    have:=qh4 place ps vs _ _ cs' (by simpa using hl) (fun i p v h1 h2=>hr (i+1) p v (by simpa using h1) (by simpa using h2)) p8 h;rw [← hfold] at this;exact this
section
variable {E : Env} {rd : Option Nat} {N : Nat} {ops : Array Oper} {K : AS → Prop} {s : AS} {rest : List Oper} {d : Option Tmp} {T : TypeId} {p : String} {af : Array Edge}
def vz (N:Nat) (s:AS) (parts:Array (Nat×Operand)):List (Nat×AV):=parts.toList.map fun x=>(x.1,qg N s x.2)
def qtu (P:Program) (t:TypeId):Option (List (Nat×Nat)):=
 match P.underlying t with
 |some (.struct fs)=>fs.toList.mapM (fun f=>(P.info? f.type).map fun i=>(f.offset,i.size))
 | _=>none
theorem qjg {B0:Nat} {w0:World} {G:Gh} {a:Act} {w:World} (hI:Inv B0 w0 N G s a w) (parts:Array (Nat×Operand)):∀ (i:Nat) (p:Nat×AV) (v:Nat×Value),(vz N s parts)[i]? = some p→(parts.toList.map fun x=>(x.1,a.eval x.2))[i]? = some v→p.1=v.1∧Rel G p.2 v.2:=fun i p v h1 h2=>by
 simp only [vz,List.getElem?_map] at h1 h2
 cases hq:parts.toList[i]? with
 |none=>simp [hq] at h1
 |some z=>simp [hq] at h1 h2;subst h1;subst h2;exact⟨rfl,hI.eval _⟩
theorem yl {t:TypeId} {parts:Array (Nat×Operand)} {zs cs:List AV} {pl:List (Nat×Nat)} (hz:qhm E.P t=some zs) (hp:qtu E.P t=some pl) (hf:qb1 (pl[·]?) zs (vz N s parts)=some cs)
  (h:AOps E rd N ops rest K (s.put d (.ag cs))):AOps E rd N ops (⟨d,.build t parts,T,p,af,none⟩::rest) K s:=by
 refine qz rfl (qw nofun fun B0 w0 G a w _ hI=>?_);obtain⟨z,a8,hr⟩:=qn4 hz w;obtain⟨c',h1,h2⟩:=qh4 (pl[·]?) (vz N s parts) (parts.toList.map fun x=>(x.1,a.eval x.2)) zs z.cells cs (by simp [vz]) (qjg hI parts) (hr G) hf;unfold qtu at hp;split at hp
 ·rename_i fs hu
  refine⟨.agg c',w,G,.ag cs,s.st,?_,.refl G,hI.agree,.ag _ _ h2.1 h2.2,h⟩;generalize a.eval = ρ at h1;simp [execOp,Instr.build,run_underlying hu,a8,Array.mapM_eq_mapM_toList,run_places w _ _ hp,h1]
 ·simp at hp
def qfb (P:Program) (e:TypeId) (n:Nat):Option (List AV):=
 match P.info? e with
 |some i=>bif Nat.beq (n * i.size) 0 then some [] else i.zero.map fun z=>(List.range (n * i.size)).map fun k=>.v (z.cells[k % z.cells.size]!)
 |none=>none
theorem qj8 {B0:Nat} {w0:World} {G:Gh} {a:Act} {w:World} (hI:Inv B0 w0 N G s a w) {t e:TypeId} {len sz:Nat} {agg:Bool} {parts:Array (Nat×Operand)} {zs cs:List AV} (hu:E.P.underlying t=some (.slice e)) (ht:tyOf E.P e=some (sz,agg)) (hz:qfb E.P e len=some zs)
  (hf:qb1 (fun i=>some (i * sz,sz)) zs (vz N s parts)=some cs) (i5:Nat.ble (len * sz) 16777216=true) :
  ∃ c':Array Value,(execOp a.eval ⟨d,.buildSlice t len parts,T,p,af,none⟩).run E.P w = .ok (.value (.slice (some ⟨w.heap.size,0,none⟩) len len)) (w.alloc (.cells c' e))∧RelC G cs c':=by
 have cg:=(vg ht w).1;have i5:=Nat.le_of_ble_eq_true i5;unfold qfb at hz
 cases hi:E.P.info? e with
 |none=>rw [hi] at hz;simp at hz
 |some i=>
  rw [hi] at hz;simp only at hz;have hs:i.size=sz:=by simpa [sizeOf,typeInfo,hi] using cg
  rw [hs] at hz
  -- the array that the run starts from
  have key:∃ c0:Array Value,RelC G zs c0∧∀ (Q:Array Value→Sem Value),((do
    let zero ← if len * sz=0 then pure #[] else do pure (← zeroValue e).cells
    Q ((Array.range (len * sz)).map (zero[· % zero.size]!)):Sem Value)).run E.P w=(Q c0).run E.P w:=by
   by_cases h0:len * sz=0
   ·rw [h0] at hz
    simp at hz;subst hz;exact⟨#[],⟨rfl,by simp⟩,fun Q=>by have e:Array.range 0 = #[]:=(by simp [Array.range]);simp [h0,e]⟩
   ·have:Nat.beq (len * sz) 0=false:=ji h0
    rw [this] at hz;simp only [cond_false] at hz
    cases hzr:i.zero with
    |none=>rw [hzr] at hz;simp at hz
    |some z=>
     rw [hzr] at hz;simp only [Option.map_some,Option.some.injEq] at hz;subst hz;refine⟨(Array.range (len * sz)).map (z.cells[· % z.cells.size]!),⟨by simp,fun k x y h1 h2=>?_⟩,fun Q=>by simp [h0,zeroValue,typeInfo,hi,hzr]⟩;have hk:k<len * sz:=by have:=lt_of_getElem? h1;simpa using this
     simp [hk] at h1 h2;subst h1;subst h2;exact .v _
  obtain⟨c0,hc0,hrun0⟩:=key;obtain⟨c',h1,h2⟩:=qh4 (fun i=>some (i * sz,sz)) (vz N s parts) (parts.toList.map fun x=>(x.1,a.eval x.2)) zs c0 cs (by simp [vz]) (qjg hI parts) hc0 hf;refine⟨c',?_,h2⟩
  ·generalize a.eval = ρ at h1
   have hb:¬ 16777216<len * sz:=by omega
   have hg:∃ m:String,(execOp ρ ⟨d,.buildSlice t len parts,T,p,af,none⟩).run E.P w=(((do
    let zero ← if len * sz=0 then pure #[] else do pure (← zeroValue e).cells
    (fun c=>(do
    let some cells:=Instr.fill (fun i=>some (i * sz,sz)) c (parts.map fun x=>(x.1,ρ x.2)).toList|stuck m
    pure (Value.slice (some (← newRow e cells)) len len):Sem Value)) ((Array.range (len * sz)).map (zero[· % zero.size]!)):Sem Value)).run E.P w).andThen fun v w'=>.ok (.value v) w':=by
    apply Exists.intro;simp only [execOp,Instr.buildSlice];simp [run_underlying hu,cg,hb];rfl
   obtain⟨m,hg⟩:=hg
   have hQ:=hrun0 (fun c=>do
    let some cells:=Instr.fill (fun i=>some (i * sz,sz)) c (parts.map fun x=>(x.1,ρ x.2)).toList|stuck m
    pure (.slice (some (← newRow e cells)) len len))
   rw [hg,hQ];simp [h1,newRow,newObj,Sem.run]
theorem xw {t e:TypeId} {len sz:Nat} {agg:Bool} {parts:Array (Nat×Operand)} {zs cs xs:List AV} (hu:E.P.underlying t=some (.slice e)) (ht:tyOf E.P e=some (sz,agg)) (hz:qfb E.P e len=some zs)
  (hf:qb1 (fun i=>some (i * sz,sz)) zs (vz N s parts)=some cs) (lj:(vz N s parts).map Prod.snd=xs) (d5:xs.length=len) (p7:flat xs=cs) (hw:xs.all (fun x=>Nat.beq x.cells.length sz)=true) (i5:Nat.ble (len * sz) 16777216=true)
  (h:AOps E rd N ops rest K (s.put d (.sl sz xs none))):AOps E rd N ops (⟨d,.buildSlice t len parts,T,p,af,none⟩::rest) K s:=by
 refine qz rfl (qw nofun fun B0 w0 G a w _ hI=>?_);obtain⟨c',a8,h2⟩:=qj8 (d:=d) (T:=T) (p:=p) (af:=af) hI hu ht hz hf i5;obtain⟨d6,hA⟩:=hI.agree.newPub e c' (0,0) c'.toList (fun i y hy=>by simpa using hy);refine⟨.slice (some ⟨w.heap.size,0,none⟩) len len,w.alloc (.cells c' e),_,.sl sz xs none,s.st,a8,d6,hA,?_,h⟩;rw [← d5]
 cases xs with
 |nil=>exact .sl0 sz none _ _ (by simp)
 |cons x0 xr=>
  refine .sl sz _ none w.heap.size 0 _ c'.toList (by simp [Gh.publish]) (fun x hx=>?_) (by rw [p7,h2.1];simp) (fun k x y g1 g2=>?_) (fun t ht=>by simp at ht) (Nat.le_refl _)
  ·exact Nat.eq_of_beq_eq_true (List.all_eq_true.1 hw x hx)
  ·rw [p7] at g1
   exact (h2.2 k x y g1 (by simpa using g2)).mono d6
end
end Go.Av
namespace Go.Av
open Go Go.RowKit
inductive qas (n:Nat):List AObj→List AObj→Prop
 |nil:qas n [] []
 |same {l l':List AObj} (x:AObj) (h:qas n l l'):qas n (x::l) (x::l')
 |cut {l l':List AObj} {x x':AObj} (hx:qgw n x') (h:qas n l l'):qas n (x::l) (x'::l')
 |loop {l l':List AObj} {ls ls':LoopState} {pend pend':Option Code} {N:Nat} {t:Nat→AV} {ps:Array Tmp} {asg body:Code} (h:qas n l l'):qas n (.loop ls pend N t ps asg body::l) (.loop ls' pend' N t ps asg body::l')
theorem qhb (n:Nat):∀ l,qas n l l
 | []=>.nil
 |x::l=>.same x (qhb n l)
theorem qi9 {n:Nat} {l l':List AObj} (h:qas n l l'):∀ st,qas n (st++l) (st++l')
 | []=>h
 |x::st=>.same x (qi9 h st)
theorem qas.length {n:Nat} {l l':List AObj} (h:qas n l l'):l'.length=l.length:=by
 induction h with
 |nil=>rfl
 | _=>simpa
theorem qas.get {n:Nat} {l l':List AObj} (h:qas n l l') (hc:∀ (o:Nat) (x:AObj),l[o]? = some x→qgw n x):∀ (o:Nat) (x:AObj),l'[o]? = some x→qgw n x:=by
 induction h with
 |nil=>exact hc
 |same y h ih=>
  intro o x hx
  cases o with
  |zero=>exact hc 0 x hx
  |succ o=>exact ih (fun o x h=>hc (o+1) x h) o x (by simpa using hx)
 |cut e7 h ih=>
  intro o x hx
  cases o with
  |zero=>simp at hx;subst hx;exact e7
  |succ o=>exact ih (fun o x h=>hc (o+1) x h) o x (by simpa using hx)
 |loop h ih=>
  intro o x hx
  cases o with
  |zero=>simp at hx;subst hx;have h0:=hc 0 _ rfl;exact h0
  |succ o=>exact ih (fun o x h=>hc (o+1) x h) o x (by simpa using hx)
theorem q0w {E:Env} {o:Nat} {xs:List AV} {st:List AObj} {R:Bool→List AObj→Prop}
  (h:xk E o xs st fun b st2=>∃ st1 ext,st2=st1++ext∧qas st.length st st1∧R b st1):xk E o xs st R:=by
 refine⟨fun B0 w0 G vals w hL hA hR=>?_⟩;obtain⟨f,tmps,asg,body,h1,h2⟩:=h.run B0 w0 G vals w hL hA hR;refine⟨f,tmps,asg,body,h1,h2.mono ?_⟩;rintro e w' ⟨b,G',st2,he,hG,hA',st1,ext,rfl,hk,hRR⟩;have d6:=hG.cut;rw [hA.n] at d6;refine⟨b,G'.cut st.length,st1,he,d6,?_,hRR⟩;have hd:=hk.get (fun o x hx=>hA.cutOb hx);have hl:=hk.length;rw [← hl] at hd ⊢;exact hA'.drop hd
theorem qo0 {n ver:Nat} {T:TypeId} {cs:List AV} (h:∀ x∈cs,Cut n x):qgw n (.cells ver T cs):=h
theorem qus {n a b:Nat} {T:TypeId}:qgw n (.tip a b T):=trivial
theorem q6v {n o ver off:Nat} (h:o<n):Cut n (.bx o ver off):=qex (.bx o ver off h)
theorem qut {n tp:Nat} {l:List UInt8} (h:tp<n):Cut n (.sl 1 (l.map fun c=>.v (.int .u8 (c.toNat:Nat))) (some tp)):=by
 refine qex (.sl 1 _ _ (fun i x hx=>?_) (fun t ht=>by simp at ht;omega));have:=qg8 l;rw [this] at hx;simp only [List.getElem?_map] at hx
 cases hq:l[i]? with
 |none=>simp [hq] at hx
 |some c=>simp [hq] at hx;subst hx;exact .v _
def qis (F:LoopState→Option Code→AObj) (N:Nat) (t:Nat→AV) (ps:Array Tmp) (asg body:Code):Prop:=∀ ls pend,F ls pend=AObj.loop ls pend N t ps asg body
theorem q4u {n:Nat} {l l':List AObj} {F:LoopState→Option Code→AObj} {ls ls':LoopState} {pend pend':Option Code} {N:Nat} {t:Nat→AV} {ps:Array Tmp} {asg body:Code} (hF:qis F N t ps asg body) (h:qas n l l'):qas n (F ls pend::l) (F ls' pend'::l'):=by
 rw [hF,hF];exact .loop h
@[reducible] def zgf (o : Nat) (F : LoopState → Option Code → AObj) (R : Bool → List AObj → Prop) : Exit → AS → Prop
 | .normal,s=>s.st[o]? = some (F .busy none)∧R true (s.st.set o (F .ready none))
 | .ret,s=>s.st[o]? = some (F .busy none)∧R false (s.st.set o (F .done (some .ret)))
 | .exit id,s=>s.st[o]? = some (F .busy none)∧R false (s.st.set o (F .done (some (.exit id))))
 | _,_=>False
theorem qkr {E:Env} {o N:Nat} {t:Nat→AV} {ps:Array Tmp} {asg body:Code} {st:List AObj} {R:Bool→List AObj→Prop} {xs:List AV} {F:LoopState→Option Code→AObj} (hF:qis F N t ps asg body) (ho:st[o]? = some (F .ready none)) (hps:ps.size=xs.length)
  (h:∀ l,AWp E (some l) N asg (only fun s1=>s1.st[o]? = some (F .ready none)∧s1.df=[]∧AWp E (some l) N body (zgf o F R) ⟨s1.t,s1.st.set o (F .busy none),[]⟩) ⟨qji t (ps.toList.zip xs),st,[]⟩):xk E o xs st R:=by
 refine q0u (N:=N) (t:=t) (ps:=ps) (asg:=asg) (body:=body) (by rw [ho,hF]) hps fun l=>(h l).mono fun e s1 hq=>?_
 cases e with
 |normal=>
  obtain⟨h1,h2,h3⟩:=hq;refine⟨by rw [h1,hF],h2,?_⟩;rw [hF] at h3;refine h3.mono fun e s2 o6=>?_
  cases e with
  |normal=>obtain⟨k1,k2⟩:=o6;exact⟨by rw [k1,hF],by rw [hF] at k2;exact k2⟩
  |ret=>obtain⟨k1,k2⟩:=o6;exact⟨by rw [k1,hF],by rw [hF] at k2;exact k2⟩
  |exit id=>obtain⟨k1,k2⟩:=o6;exact⟨by rw [k1,hF],by rw [hF] at k2;exact k2⟩
  | _=>exact o6.elim
 | _=>exact hq.elim
theorem qg3 {E:Env} {N:Nat} {Q:Exit→AS→Prop} {s:AS} {f:Operand} {ps:Array Tmp} {asg body:Code} {st loc:List AObj} {g:FuncId} {fs cs:List AV} (d8:s.st=st++loc) (hx:qg N s f = .fn (.func g) fs cs)
  (a8:∀ vs w,(callFunc g vs).run E.P w = .ok (.enter g vs) w)
  (h:∀ F,qis F N s.t ps asg body→qn E g (fs++[.yd (st.length+(loc.length+1))]++cs) (st++(loc++[.dfr,F .ready none])) fun _ st'=>∃ ls pend,ls≠LoopState.busy∧st'[st.length+(loc.length+1)]? = some (F ls pend) ∧
   match pend with
   |none=>Q .normal ⟨s.t,st'.set (st.length+(loc.length+1)) .dead,(st.length+loc.length)::s.df⟩
   |some c=>AWp E none N c Q ⟨s.t,st'.set (st.length+(loc.length+1)) .dead,(st.length+loc.length)::s.df⟩):AWp E none N (.rangeFunc f ps asg body) Q s:=
 qwd d8 hx a8 ((h (fun ls pend=>.loop ls pend N s.t ps asg body) (fun _ _=>rfl)).mono fun _ _ ⟨ls,pend,h1,h2,h3⟩=>⟨ls,pend,h1,h2,h3⟩)
theorem qec {E:Env} {rd:Option Nat} {N:Nat} {c:Code} {Q:Exit→AS→Prop} {s:AS} (L:List (Nat×AV)) (st':List AObj) (df':List Nat) (h:HasL s.t L) (d8:s.st=st') (i8:s.df=df') (k:∀ t,AWp E rd N c Q ⟨puts t L,st',df'⟩):AWp E rd N c Q s:=by
 have:=k s.t;rw [qhp h,← d8,← i8] at this;exact this
theorem qf0 {E:Env} {B0:Nat} {w0:World} {N:Nat} {G:Gh} {s:AS} {a:Act} {w:World} (hI:Inv B0 w0 N G s a w) {x:Operand} {t:TypeId} {sz:Nat} {agg:Bool} {o ver off:Nat} {T':TypeId} {cs:List AV} {r:AV} (hx:qg N s x = .bx o ver off) (ho:s.st[o]? = some (.cells ver T' cs)) (ht:tyOf E.P t=some (sz,agg)) (hr:jo sz agg off cs=some r) :
  ∃ b v,a.eval x = .pointer (some ⟨b,off,none⟩)∧(loadVar t ⟨b,off,none⟩).run E.P w = .ok v w∧Rel G r v:=by
 have he:=hI.eval_of hx;generalize hv:a.eval x=v at he
 cases he with
 |bx _ _ _ b hn bv hb=>
  obtain⟨_,h1,h2,h3,c,h4,h5,h6⟩:=hI.agree.ob o _ ho;have hb:=hb h1;rw [hb] at h4
  obtain⟨v,a8,hR⟩:=qac (w:=w) (G:=G) (b:=b) (off:=off) (off':=off) ht (fun i x hx hi=>by
   obtain⟨y,hy⟩:=wa hx (Nat.le_of_eq h5);refine⟨y,?_,h6 i x y hx hy⟩
   simp [World.cell?,h4,show off+(i - off)=i by omega,hy]) hr
  exact⟨b,v,rfl,a8,hR⟩
theorem q3u {E:Env} {fn:Func} {s:AS} {t u:Tmp} {Ta Tb:TypeId} {o1 v1 f1 sz1:Nat} {agg1:Bool} {T1:TypeId} {cs1:List AV} {r1:AV} {o2 v2 f2 sz2:Nat} {agg2:Bool} {T2:TypeId} {cs2:List AV} {r2:AV} (hr:fn.results = #[.cell t Ta,.cell u Tb])
  (tz:qg fn.ntmps s (.tmp t) = .bx o1 v1 f1) (ho1:s.st[o1]? = some (.cells v1 T1 cs1)) (pq:tyOf E.P Ta=some (sz1,agg1)) (u0:jo sz1 agg1 f1 cs1=some r1)
  (hx2:qg fn.ntmps s (.tmp u) = .bx o2 v2 f2) (ft:s.st[o2]? = some (.cells v2 T2 cs2)) (ht2:tyOf E.P Tb=some (sz2,agg2)) (lq:jo sz2 agg2 f2 cs2=some r2):ARes E fn s (.tu [r1,r2]):=by
 refine⟨fun B0 w0 G a w _ hI=>?_⟩;obtain⟨b1,y1,e1,e2,e3⟩:=qf0 hI tz ho1 pq u0;obtain⟨b2,y2,k1,k2,k3⟩:=qf0 hI hx2 ft ht2 lq;simp only [Act.eval,Array.getD_eq_getD_getElem?] at e1 k1;refine⟨.tuple #[y1,y2],?_,qel e3 k3⟩;simp [results,hr,e1,k1,asAddr,e2,k2]
theorem qmc {E:Env} {fn:Func} {R:AV→List AObj→Prop} {s:AS} {st loc:List AObj} {k:Nat} {ds:List Nat} (hs:s.st=st++loc) (hd:s.df=(st.length+k)::ds) (ho:loc[k]? = some .dfr) (h:ARet E fn R ⟨s.t,st++loc.set k .dead,ds⟩):ARet E fn R s:=
 qmp hd (by rw [hs];exact jh ho) (by rw [hs,xv];exact h)
theorem qj6 {E:Env} {fn:Func} {s:AS} {t u:Tmp} {Ta Tb:TypeId} {st loc:List AObj} {k1 v1 f1 sz1:Nat} {agg1:Bool} {T1:TypeId} {cs1:List AV} {r1:AV} {k2 v2 f2 sz2:Nat} {agg2:Bool} {T2:TypeId} {cs2:List AV} {r2:AV} (hr:fn.results = #[.cell t Ta,.cell u Tb]) (hs:s.st=st++loc)
  (tz:qg fn.ntmps s (.tmp t) = .bx (st.length+k1) v1 f1) (ho1:loc[k1]? = some (.cells v1 T1 cs1)) (pq:tyOf E.P Ta=some (sz1,agg1)) (u0:jo sz1 agg1 f1 cs1=some r1)
  (hx2:qg fn.ntmps s (.tmp u) = .bx (st.length+k2) v2 f2) (ft:loc[k2]? = some (.cells v2 T2 cs2)) (ht2:tyOf E.P Tb=some (sz2,agg2)) (lq:jo sz2 agg2 f2 cs2=some r2):ARes E fn s (.tu [r1,r2]):=
 q3u hr tz (by rw [hs];exact jh ho1) pq u0 hx2 (by rw [hs];exact jh ft) ht2 lq
@[reducible] def Wv (x : BitVec 32) : AV := .v (.int .u32 (x.toNat : Nat))
theorem ql7 (n:Nat):IntKind.u32.wrap (n:Int)=((n % 4294967296:Nat):Int):=by
 simp [IntKind.wrap,IntKind.bits,IntKind.signed]
theorem va (x:BitVec 32):BitVec.ofInt 32 (x.toNat:Int)=x:=by
 rw [BitVec.ofInt_natCast,BitVec.ofNat_toNat];simp
theorem qhl (x:BitVec 32):IntKind.u32.wrap (x.toNat:Int)=(x.toNat:Int):=by
 rw [ql7,Nat.mod_eq_of_lt x.isLt]
section
variable {E : Env} {rd : Option Nat} {N : Nat} {ops : Array Oper} {K : AS → Prop} {s : AS} {rest : List Oper} {d : Option Tmp} {T : TypeId} {p : String} {af : Array Edge}
theorem qs6 (x:BitVec 32):((x.toNat:Nat):Int)=0↔x=0#32:=by
 constructor
 ·intro h
  apply BitVec.eq_of_toNat_eq
  simpa using h
 ·rintro rfl
  rfl
theorem qg0 {x y:Operand} {t t':TypeId} {m n:Int} {a b:BitVec 32} (hx:qg N s x = .v (.int .u32 m)) (hy:qg N s y = .v (.int .u32 n)) (ha:BitVec.ofInt 32 m=a) (hb:BitVec.ofInt 32 n=b) (h:AOps E rd N ops rest K (s.put d (Wv (a ^^^ b)))):AOps E rd N ops (⟨d,.binOp .xor t x y t',T,p,af,none⟩::rest) K s:=
 q9x hx hy (by subst ha;subst hb;simp only [qby,IntKind.bits];rw [qhl];rfl) h
theorem qkn {x y:Operand} {t t':TypeId} {m n:Int} {a b:BitVec 32} (hx:qg N s x = .v (.int .u32 m)) (hy:qg N s y = .v (.int .u32 n)) (ha:BitVec.ofInt 32 m=a) (hb:BitVec.ofInt 32 n=b) (h:AOps E rd N ops rest K (s.put d (Wv (a &&& b)))):AOps E rd N ops (⟨d,.binOp .and t x y t',T,p,af,none⟩::rest) K s:=
 q9q hx hy (by subst ha;subst hb;simp only [qby,IntKind.bits];rw [qhl];rfl) h
theorem q53 {x y:Operand} {t t':TypeId} {m n:Int} {a b:BitVec 32} (hx:qg N s x = .v (.int .u32 m)) (hy:qg N s y = .v (.int .u32 n)) (ha:BitVec.ofInt 32 m=a) (hb:BitVec.ofInt 32 n=b) (h:AOps E rd N ops rest K (s.put d (Wv (a |||b)))):AOps E rd N ops (⟨d,.binOp .or t x y t',T,p,af,none⟩::rest) K s:=
 zcz hx hy (by subst ha;subst hb;simp only [qby,IntKind.bits];rw [qhl];rfl) h
theorem qhx {x:Operand} {t:TypeId} {a:BitVec 32} (hx:qg N s x=Wv a) (h:AOps E rd N ops rest K (s.put d (Wv (~~~ a)))):AOps E rd N ops (⟨d,.unOp .xor t x,T,p,af,none⟩::rest) K s:=
 q3q hx (by
  simp only [qby,IntKind.bits,IntKind.signed,Bool.false_eq_true,if_false];rw [va];have h1:BitVec.ofInt 32 IntKind.u32.max=BitVec.allOnes 32:=by decide
  have h2:BitVec.ofInt 32 IntKind.u32.max ^^^ a = ~~~ a:=by rw [h1,BitVec.xor_comm,BitVec.xor_allOnes]
  exact (congrArg (fun z:BitVec 32=>IntKind.u32.wrap (z.toNat:Int)) h2).trans (qhl _)) h
theorem qer {x y:Operand} {t t':TypeId} {yk:IntKind} {a:BitVec 32} {n:Nat} (hx:qg N s x=Wv a) (hy:qg N s y = .v (.int yk (n:Int))) (hn:Nat.ble n 32=true) (h:AOps E rd N ops rest K (s.put d (Wv (a <<< n)))):AOps E rd N ops (⟨d,.binOp .shl t x y t',T,p,af,none⟩::rest) K s:=
 q9v hx hy (by omega) (by
  have hn:=Nat.le_of_ble_eq_true hn;have:min (n:Int).toNat IntKind.u32.bits=n:=by simp [IntKind.bits];omega
  rw [this];have e:(a.toNat:Int) * 2 ^ n=((a.toNat * 2 ^ n:Nat):Int):=by simp
  rw [e,ql7,BitVec.toNat_shiftLeft,Nat.shiftLeft_eq]) h
theorem qgy {x y:Operand} {t t':TypeId} {yk:IntKind} {a:BitVec 32} {n:Nat} (hx:qg N s x=Wv a) (hy:qg N s y = .v (.int yk (n:Int))) (hn:Nat.ble n 32=true) (h:AOps E rd N ops rest K (s.put d (Wv (a >>> n)))):AOps E rd N ops (⟨d,.binOp .shr t x y t',T,p,af,none⟩::rest) K s:=
 q9w hx hy (by omega) (by
  have hn:=Nat.le_of_ble_eq_true hn;have:min (n:Int).toNat IntKind.u32.bits=n:=by simp [IntKind.bits];omega
  rw [this,BitVec.toNat_ushiftRight,Nat.shiftRight_eq_div_pow]
  have h0:(0:Int)≤2 ^ n:=by
   have:((2 ^ n:Nat):Int)=(2:Int) ^ n:=by simp
   rw [← this];exact Int.natCast_nonneg _
  rw [Int.fdiv_eq_ediv_of_nonneg _ h0]
  simp) h
theorem qjq {x y:Operand} {t e:TypeId} {len sz:Nat} {agg:Bool} {k:IntKind} {n:Nat} {cs:List AV} {r:AV} (hx:qg N s x = .ag cs) (hy:qg N s y = .v (.int k (n:Int))) (hu:E.P.underlying t=some (.array len e)) (ht:tyOf E.P e=some (sz,agg)) (hn:n<len) (hr:jo sz agg (n * sz) cs=some r)
  (h:AOps E rd N ops rest K (s.put d r)):AOps E rd N ops (⟨d,.index t x y,T,p,af,none⟩::rest) K s:=by
 refine qz rfl (qw nofun fun B0 w0 G a w _ hI=>?_);have he:=hI.eval_of hx;have dg:=hI.evalv hy;generalize hv:a.eval x=v at he
 cases he with
 |ag _ vs hl g9=>
  obtain⟨i1,i2⟩:=vg ht w
  cases agg with
  |false=>
   simp only [jo,cond_false] at hr;obtain⟨z,hz⟩:=wa hr (Nat.le_of_eq hl);refine⟨z,w,G,r,s.st,?_,.refl G,hI.agree,g9 _ r z hr hz,h⟩;generalize a.eval = ρ at hv dg;simp only [execOp,hv,dg]
   simp [Instr.index,asIntOf,run_underlying hu,hn,part,i1,i2,hz]
  |true=>
   simp only [jo,cond_true] at hr
   cases hb:Nat.ble (n * sz+sz) cs.length with
   |false=>rw [hb] at hr;simp at hr
   |true=>
    rw [hb] at hr;simp only [cond_true,Option.some.injEq] at hr;have d6:n * sz+sz≤cs.length:=Nat.le_of_ble_eq_true hb;refine⟨.agg (vs.extract (n * sz) (n * sz+sz)),w,G,r,s.st,?_,.refl G,hI.agree,?_,h⟩
    ·generalize a.eval = ρ at hv dg
     simp only [execOp,hv,dg];simp [Instr.index,asIntOf,run_underlying hu,hn,part,i1,i2]
    ·subst hr
     refine .ag _ _ (by simp;omega) fun i x y h1 h2=>?_;have hi:i<sz:=by have:=lt_of_getElem? h1;simp at this;omega
     simp [hi,List.getElem?_drop] at h1;rw [Array.getElem?_extract] at h2;split at h2
     ·exact g9 (n * sz+i) x y h1 h2
     ·simp at h2
theorem qck {x y:Operand} {t e:TypeId} {len sz:Nat} {agg:Bool} {k:IntKind} {n o ver off:Nat} (hx:qg N s x = .bx o ver off) (hy:qg N s y = .v (.int k (n:Int))) (hu:E.P.underlying t=some (.array len e)) (ht:tyOf E.P e=some (sz,agg)) (hn:n<len)
  (h:AOps E rd N ops rest K (s.put d (.bx o ver (off+n * sz)))):AOps E rd N ops (⟨d,.indexAddr t x y,T,p,af,none⟩::rest) K s:=by
 refine qz rfl (qw nofun fun B0 w0 G a w _ hI=>?_);have he:=hI.eval_of hx;have dg:=hI.evalv hy;generalize hv:a.eval x=v at he
 cases he with
 |bx _ _ _ b mf bf hb=>
  refine⟨.pointer (some ⟨b,off+n * sz,none⟩),w,G,_,s.st,?_,.refl G,hI.agree,.bx o ver _ b mf bf hb,h⟩;generalize a.eval = ρ at hv dg;simp only [execOp,hv,dg];simp [Instr.indexAt,asIntOf,run_underlying hu,Instr.sureAddr,hn,(vg ht w).1,Addr.add_lit]
theorem q3r {x:Operand} {t t':TypeId} {k:IntKind} {n:Nat} {e:TypeDesc} (hx:qg N s x = .v (.int k (n:Int))) (hs:E.P.underlying t=some e) (hd:E.P.underlying t'=some (.int .u32)) (hn:n<4294967296)
  (h:AOps E rd N ops rest K (s.put d (Wv (BitVec.ofNat 32 n)))):AOps E rd N ops (⟨d,.convert t t' x,T,p,af,none⟩::rest) K s:=
 qra hx hs hd (by rw [ql7,Nat.mod_eq_of_lt hn,BitVec.toNat_ofNat,Nat.mod_eq_of_lt hn]) h
theorem qtb {x y:Operand} {t:TypeId} {sz:Nat} {agg:Bool} {st loc loc':List AObj} {k ver off:Nat} {T':TypeId} {cs xs:List AV} {r:AV} (hs:s.st=st++loc) (hx:qg N s x = .bx (st.length+k) ver off) (hy:qg N s y=r) (ho:loc[k]? = some (.cells ver T' cs)) (ht:tyOf E.P t=some (sz,agg))
  (hok:r.okc=true) (hc:r.cells=xs) (i5:Nat.beq xs.length sz=true) (h1:kr xs=true) (i4:off+sz≤cs.length) (hl:loc'=loc.set k (.cells ver T' (zr cs off xs)))
  (h:AOps E rd N ops rest K (AS.put ⟨s.t,st++loc',s.df⟩ d (.v undef))):AOps E rd N ops (⟨d,.store t x y,T,p,af,none⟩::rest) K s:=
 z8 hs hx hy ho ht hok hc i5 h1 (Nat.ble_eq_true_of_le i4) hl h
theorem q5j {cs:List AV} {off:Nat} {x:AV} (h:off<cs.length):zr cs off [x]=cs.set off x:=by
 rw [List.set_eq_take_append_cons_drop,if_pos h];simp [zr]
theorem qbo {t:Nat→AV} {L:List (Nat×AV)} {st st':List AObj} {df:List Nat} (h:HasL t L) (e:st'=st):StA L st df ⟨t,st',df⟩:=by
 subst e;exact vk h
theorem qtc {fn:Func} {t:Tmp} {Ta:TypeId} {st loc:List AObj} {k1 v1 f1 sz1:Nat} {agg1:Bool} {T1:TypeId} {cs1:List AV} {r1:AV} (hr:fn.results = #[.cell t Ta]) (hs:s.st=st++loc)
  (tz:qg fn.ntmps s (.tmp t) = .bx (st.length+k1) v1 f1) (ho1:loc[k1]? = some (.cells v1 T1 cs1)) (pq:tyOf E.P Ta=some (sz1,agg1)) (u0:jo sz1 agg1 f1 cs1=some r1):ARes E fn s r1:=by
 refine⟨fun B0 w0 G a w _ hI=>?_⟩;obtain⟨b1,y1,e1,e2,e3⟩:=qf0 hI tz (by rw [hs];exact jh ho1) pq u0;simp only [Act.eval,Array.getD_eq_getD_getElem?] at e1;refine⟨y1,?_,e3⟩;simp [results,hr,e1,asAddr,e2]
def qtd (P:Program) (t:TypeId):Option Nat:=
 match P.underlying t with
 |some (.array _ e)=>match P.info? e with
  |some i=>some i.size
  |none=>none
 | _=>none
theorem q0t {P:Program} {t:TypeId} {sz:Nat} (h:qtd P t=some sz):∃ len e i,P.underlying t=some (.array len e)∧P.info? e=some i∧i.size=sz:=by
 unfold qtd at h;split at h
 ·rename_i len e hu
  split at h
  ·rename_i i hi
   simp only [Option.some.injEq] at h;exact⟨len,e,i,hu,hi,h⟩
  ·simp at h
 ·simp at h
theorem qui {t:TypeId} {parts:Array (Nat×Operand)} {zs cs:List AV} {sz:Nat} (hz:qhm E.P t=some zs) (hp:qtd E.P t=some sz) (hf:qb1 (fun i=>some (i * sz,sz)) zs (vz N s parts)=some cs)
  (h:AQ E N ops rest K (s.put d (.ag cs))):AQ E N ops (⟨d,.build t parts,T,p,af,none⟩::rest) K s:=by
 refine qc6 rfl nofun fun B0 w0 G a w _ hI=>?_;obtain⟨len,e,i,hu,hi,rfl⟩:=q0t hp;obtain⟨z,a8,hr⟩:=qn4 hz w;obtain⟨c',h1,h2⟩:=qh4 (fun k=>some (k * i.size,i.size)) (vz N s parts) (parts.toList.map fun x=>(x.1,a.eval x.2)) zs z.cells cs (by simp [vz]) (qjg hI parts) (hr G) hf
 have dn:∃ ti,E.P.info? t=some ti∧ti.zero=some z:=by
  unfold zeroValue at a8;simp [typeInfo] at a8
  cases hti:E.P.info? t with
  |none=>simp [hti] at a8
  |some ti=>
   simp [hti] at a8
   cases htz:ti.zero with
   |none=>simp [htz] at a8
   |some y=>simp [htz] at a8;exact⟨ti,rfl,by rw [htz,a8]⟩
 obtain⟨ti,g1,g2⟩:=dn;refine⟨.agg c',.ag cs,fun w' _=>?_,.ag _ _ h2.1 h2.2,h⟩;generalize a.eval = ρ at h1;simp [execOp,Instr.build,run_underlying hu,zeroValue,typeInfo,g1,g2,sizeOf,hi,h1]
theorem q55 {x y:Operand} {t:TypeId} {m:List UInt8} {k:IntKind} {n:Nat} (hx:qg N s x=Sv m) (hy:qg N s y = .v (.int k (n:Int))) (hu:E.P.underlying t=some .string) (h1:n<m.length)
  (h:AQ E N ops rest K (s.put d (Uv (m.getD n 0)))):AQ E N ops (⟨d,.index t x y,T,p,af,none⟩::rest) K s:=
 qau _ rfl nofun (fun a w he=>by
  have hg:(⟨m.toArray⟩:ByteArray)[n]? = some (m.getD n 0):=by
   simp only [getElem?_def,qad,h1,dite_true,List.getD,Option.getD_some];rfl
  simp [execOp,Instr.index,he _ _ hx,he _ _ hy,asIntOf,run_underlying hu,hg]) h
theorem qxl {x:Operand} {t t':TypeId} {k:IntKind} {n:Nat} {e:TypeDesc} (hx:qg N s x = .v (.int k (n:Int))) (hs:E.P.underlying t=some e) (hd:E.P.underlying t'=some (.int .u32)) (hn:n<4294967296)
  (h:AQ E N ops rest K (s.put d (Wv (BitVec.ofNat 32 n)))):AQ E N ops (⟨d,.convert t t' x,T,p,af,none⟩::rest) K s:=by
 have hr:IntKind.u32.wrap (n:Int)=(((BitVec.ofNat 32 n).toNat:Nat):Int):=by rw [ql7,Nat.mod_eq_of_lt hn,BitVec.toNat_ofNat,Nat.mod_eq_of_lt hn]
 exact qau _ rfl nofun (fun a w he=>by rw [← hr];simp [execOp,he _ _ hx,convert,run_underlying hs,run_underlying hd,Conv.intToInt]) h
theorem q12 {x y:Operand} {t t':TypeId} {yk:IntKind} {c:UInt8} (hx:qg N s x=Uv c) (hy:qg N s y = .v (.int yk 4)) (h:AQ E N ops rest K (s.put d (.v (.int .u8 ((c.toNat / 16:Nat):Int))))):AQ E N ops (⟨d,.binOp .shr t x y t',T,p,af,none⟩::rest) K s:=
 qau _ rfl nofun (fun a w he=>by
  have:(c.toNat:Int).fdiv (2 ^ (min (4:Int).toNat IntKind.u8.bits))=((c.toNat / 16:Nat):Int):=by
   rw [Int.fdiv_eq_ediv_of_nonneg _ (by decide)];simp [IntKind.bits]
  rw [← this]
  simp [execOp,he _ _ hx,he _ _ hy,eqGuard_at_int,binOp_shr,Op.shift]) h
theorem qxk {x y:Operand} {t t':TypeId} {c:UInt8} (hx:qg N s x=Uv c) (hy:qg N s y = .v (.int .u8 15)) (h:AQ E N ops rest K (s.put d (.v (.int .u8 ((c.toNat % 16:Nat):Int))))):AQ E N ops (⟨d,.binOp .and t x y t',T,p,af,none⟩::rest) K s:=
 zfc hx hy (by
  simp only [qby,IntKind.bits];have h1:BitVec.ofInt 8 (c.toNat:Int)=c.toBitVec:=by rw [BitVec.ofInt_natCast];simp
  have h2:(BitVec.ofInt 8 (c.toNat:Int) &&& BitVec.ofInt 8 15).toNat=c.toNat % 16:=by
   rw [h1,BitVec.toNat_and];exact Nat.and_two_pow_sub_one_eq_mod c.toNat 4
  have h3:IntKind.u8.wrap ((c.toNat % 16:Nat):Int)=((c.toNat % 16:Nat):Int):=by
   simp [IntKind.wrap,IntKind.bits,IntKind.signed];omega
  exact (congrArg (fun z:Nat=>IntKind.u8.wrap (z:Int)) h2).trans h3) h
theorem q0q {x y:Operand} {t t':TypeId} {yk:IntKind} {a:BitVec 32} {m:Int} {n:Nat} (hx:qg N s x=Wv a) (hy:qg N s y = .v (.int yk m)) (hm:m=(n:Int)) (hn:n≤32) (h:AOps E rd N ops rest K (s.put d (Wv (a >>> n)))):AOps E rd N ops (⟨d,.binOp .shr t x y t',T,p,af,none⟩::rest) K s:=
 qgy hx (hm▸hy) (Nat.ble_eq_true_of_le hn) h
theorem and15_lt (x:BitVec 32):(x &&& BitVec.ofInt 32 15).toNat<16:=by
 rw [BitVec.toNat_and];exact Nat.lt_of_le_of_lt Nat.and_le_right (by decide)
end
end Go.Av
namespace Go.Av
open Go Go.RowKit
section
variable {E : Env} {rd : Option Nat} {N : Nat} {ops : Array Oper} {K : AS → Prop} {s : AS} {rest : List Oper} {d : Option Tmp} {T : TypeId} {p : String} {af : Array Edge}
def qwv:TypeDesc→Bool
 | .interface _=>false
 | _=>true
def q5x (P:Program) (t:TypeId):Option Value:=match P.info? t with|some i=>i.zero|none=>none
theorem q9o {P:Program} {t:TypeId} {z:Value} (h:q5x P t=some z) (w:World):(zeroValue t).run P w = .ok z w:=by
 unfold q5x at h;split at h
 ·rename_i i hi
  simp [zeroValue,typeInfo,hi,h]
 ·simp at h
theorem qfc {x:Operand} {xt t:TypeId} {D:TypeDesc} {y:AV} (hx:qg N s x = .ifc t y) (hu:E.P.underlying t=some D) (hn:qwv D=true)
  (h:AOps E rd N ops rest K (s.put d (.tu [y,Bv true]))):AOps E rd N ops (⟨d,.typeAssert x xt t true,T,p,af,none⟩::rest) K s:=by
 refine qz rfl (qw nofun fun B0 w0 G a w _ hI=>?_);have he:=hI.eval_of hx;generalize hv:a.eval x=v at he
 cases he with
 |ifc _ _ z hz=>
  refine⟨.tuple #[z,.bool true],w,G,_,s.st,?_,.refl G,hI.agree,qel hz (.v _),h⟩;generalize a.eval = ρ at hv
  cases D <;> first|(simp [qwv] at hn;done)|simp [execOp,Instr.typeAssert,hv,run_underlying hu]
theorem qq8 {x:Operand} {xt t u:TypeId} {D:TypeDesc} {y:AV} {z:Value} (hx:qg N s x = .ifc u y) (hu:E.P.underlying t=some D) (hn:qwv D=true) (b9:Nat.beq u t=false) (hz:q5x E.P t=some z)
  (h:AOps E rd N ops rest K (s.put d (.tu [.v z,Bv false]))):AOps E rd N ops (⟨d,.typeAssert x xt t true,T,p,af,none⟩::rest) K s:=by
 refine qz rfl (qw nofun fun B0 w0 G a w _ hI=>?_);have he:=hI.eval_of hx;generalize hv:a.eval x=v at he;have hne':u≠t:=fun e=>by subst e;simp at b9
 have dn:=q9o hz w
 cases he with
 |ifc _ _ q hq=>
  refine⟨.tuple #[z,.bool false],w,G,_,s.st,?_,.refl G,hI.agree,qel (.v _) (.v _),h⟩;generalize a.eval = ρ at hv
  cases D <;> first|(simp [qwv] at hn;done)|simp [execOp,Instr.typeAssert,hv,run_underlying hu,hne',dn]
end
end Go.Av
namespace Go.Proofs.YtihlchbgjdkmpaaGreatDoor
open Go Go.Av Go.RowKit Go.Proofs
structure Laid (w:World):Prop where
 shaped:World.ShapedOpen Tryz.prog w
 pow : Lib.TabIs Tryz.prog w "internal/strconv.uint64pow10" .u64 Lib.pow10Tab
 syn : ∃ tp p, World.var? Tryz.prog w "strconv.ErrSyntax" = some #[.iface tp p]
 ran : ∃ tp p, World.var? Tryz.prog w "strconv.ErrRange" = some #[.iface tp p]
 ert:w.cell? ⟨4,0,none⟩=some (.iface 365 (.agg #[.pointer (some ⟨9,29,none⟩)]))
@[reducible] noncomputable def E : Env := ⟨Tryz.prog, fun B0 w0 => ∀ w, Below B0 w0 w → Laid w⟩
theorem qrr (l m:List UInt8) (st:List AObj) (hl:l.length<4294967281):qn E 214 [Sv l,Sv m] st fun r st'=>r=Bv (Lib.contains l m)∧st'=st:=
 yg (vals:= #[.string ⟨l.toArray⟩,.string ⟨m.toArray⟩]) rfl fun _ _ w hL hb=>(Tryz.strings_Contains_shaped ⟨l.toArray⟩ ⟨m.toArray⟩ w (hL w hb).shaped (by simpa [ByteArray.size] using hl)).mono fun _ _ ⟨h1,h2⟩=>⟨h1,qdq h2⟩
theorem qdu (l m:List UInt8) (st:List AObj):qn E 155 [Sv l,Sv m] st fun r st'=>r=Bv (Lib.hasPrefix l m)∧st'=st:=
 yg (vals:= #[.string ⟨l.toArray⟩,.string ⟨m.toArray⟩]) rfl fun _ _ w _ _=>(Tryz.strings_HasPrefix ⟨l.toArray⟩ ⟨m.toArray⟩ w).mono fun _ _ ⟨h1,h2⟩=>⟨h1,qdq h2⟩
theorem qo7 (l m:List UInt8) (st:List AObj) (hl:l.length≤9223372036854775807):qn E 146 [Sv l,Sv m] st fun r st'=>r=Bv (Lib.hasSuffix l m)∧st'=st:=
 yg (vals:= #[.string ⟨l.toArray⟩,.string ⟨m.toArray⟩]) rfl fun _ _ w _ _=>(Tryz.strings_HasSuffix ⟨l.toArray⟩ ⟨m.toArray⟩ w (by simpa [ByteArray.size] using hl)).mono fun _ _ ⟨h1,h2⟩=>⟨h1,qdq h2⟩
theorem qrs (l m:List UInt8) (st:List AObj) (hl:l.length<4294967281):qn E 110 [Sv l,Sv m] st fun r st'=>r = .tu [Sv (Lib.cut l m).1,Sv (Lib.cut l m).2.1,Bv (Lib.cut l m).2.2]∧st'=st:=
 qgu (vals:= #[.string ⟨l.toArray⟩,.string ⟨m.toArray⟩]) (rs:= #[.string ⟨(Lib.cut l m).1.toArray⟩,.string ⟨(Lib.cut l m).2.1.toArray⟩,.bool (Lib.cut l m).2.2]) rfl fun _ _ w hL hb=>(Tryz.strings_Cut_shaped ⟨l.toArray⟩ ⟨m.toArray⟩ w (hL w hb).shaped (by simpa [ByteArray.size] using hl)).mono fun _ _ ⟨h1,n,h2⟩=>⟨h1,h2▸q0z w n⟩
theorem qdr (l m:List UInt8) (st:List AObj):qn E 219 [Sv l,Sv m] st fun r st'=>r = .tu [Sv (Lib.trimPrefix l m),Bv (Lib.hasPrefix l m)]∧st'=st:=
 qgu (vals:= #[.string ⟨l.toArray⟩,.string ⟨m.toArray⟩]) (rs:= #[.string ⟨(Lib.trimPrefix l m).toArray⟩,.bool (Lib.hasPrefix l m)]) rfl fun _ _ w _ _=>(Tryz.strings_CutPrefix ⟨l.toArray⟩ ⟨m.toArray⟩ w).mono fun _ _ ⟨h1,h2⟩=>⟨h1,qdq h2⟩
theorem qm9 (n:Int) (st:List AObj) (h0 : -9223372036854775808≤n) (h1:n≤9223372036854775807):qn E 54 [Iv n] st fun r st'=>r=Sv (Lib.itoa n)∧st'=st:=
 yg (vals:= #[.int .i64 n]) rfl fun _ _ w hL hb=>(Tryz.strconv_Itoa n h0 h1 w (hL w hb).pow).mono fun _ _ ⟨h1,k,os,h2⟩=>⟨h1,h2▸q34 w k os⟩
theorem zbx (l:List UInt8) (c:Nat) (st:List AObj) (h0:c≤9223372036854775807) (h1:l.length * c≤140737488355328):qn E 222 [Sv l,Iv c] st fun r st'=>r=Sv (Lib.repeatL l c)∧st'=st:=
 yg (vals:= #[.string ⟨l.toArray⟩,.int .i64 c]) rfl fun _ _ w _ _=>(Tryz.strings_Repeat ⟨l.toArray⟩ c w h0 (by simpa [ByteArray.size] using h1)).mono fun _ _ ⟨h1,h2⟩=>⟨h1,h2⟩
theorem q9e (l m:List UInt8) (st:List AObj) (hl:l.length≤9223372036854775807) (hm:m.length<4294967281) (ha:∀ (j:Nat) (b:UInt8),m[j]? = some b→b.toNat<128):qn E 215 [Sv l,Sv m] st fun r st'=>r=Sv (Lib.trimS l m)∧st'=st:=
 yg (vals:= #[.string ⟨l.toArray⟩,.string ⟨m.toArray⟩]) rfl fun _ _ w _ _=>(Any.strings_Trim_laid Tryz.lays160t (by kernel_rfl) ⟨l.toArray⟩ ⟨m.toArray⟩ w (by simpa [ByteArray.size] using hl) (by simpa [ByteArray.size] using hm) (by simpa using ha)).mono fun _ _ ⟨h1,h2⟩=>⟨h1,h2⟩
theorem q0y {w w':World} {T:TypeId} {s:ByteArray} (h:w'=w∨∃ t,w'=Lib.bytesWorld w T t):Below w.heap.size w w':=by
 rcases h with rfl | ⟨t,rfl⟩
 ·exact Below.refl _ _
 ·unfold Lib.bytesWorld
  exact Lib.below_freeze ((Below.drew (Below.refl w.heap.size w)).alloc (Nat.le_refl _) _) (p:=⟨w.heap.size,_,none⟩) (Nat.le_refl _) _
theorem qq1 {f:FuncId} {st:List AObj} {args:List AV} {vals:Array Value} {R:Int→Option (TypeId×Value)→Prop} (ha:args=vals.toList.map .v)
  (h:∀ B0 w0 w,E.L B0 w0→Below B0 w0 w→Calls E.P f vals w fun e w'=>∃ n x,e = .returned (.tuple #[.int .i64 n,match x with|none=>.nilIface|some (t,y)=>.iface t y])∧R n x∧Below w.heap.size w w') :
  qn E f args st fun r st'=>st'=st∧∃ n x,r = .tu [Iv n,match x with|none=>.v .nilIface|some (t,y)=>.ifc t (.v y)]∧R n x:=by
 subst ha;refine⟨fun B0 w0 G vs w hL hA hR=>?_⟩
 have hv:vs=vals:=by
  have hs:vs.size=vals.size:=by have:=hR.1;simpa using this.symm
  apply Array.ext hs;intro i h1 h2;have:=hR.2 i (.v vals[i]) vs[i] (by simp [h2]) (by simp [h1]);generalize vs[i]=y at this
  cases this
  rfl
 subst hv;refine (h B0 w0 w hL hA.below).mono ?_;rintro e w' ⟨n,x,rfl,hRR,hb⟩;refine⟨_,G,_,st,rfl,.refl G,hA.fresh hb,qel (.v _) ?_,rfl,n,x,rfl,hRR⟩
 cases x with
 |none=>exact .v _
 |some p=>exact .ifc _ _ _ (.v _)
theorem qmq (l:List UInt8) (st:List AObj) (hl:l.length≤281474976710656):qn E 111 [Sv l] st fun r st'=>st'=st∧∃ n x,r = .tu [Iv n,match x with|none=>.v .nilIface|some (t,y)=>.ifc t (.v y)]∧match x with|none=>Lib.atoiAll l = .ok n|some _=>∀ v,Lib.atoiAll l≠.ok v:=by
 refine qq1 (vals:= #[.string ⟨l.toArray⟩]) (R:=fun n x=>match x with|none=>Lib.atoiAll l = .ok n|some _=>∀ v,Lib.atoiAll l≠.ok v) rfl fun B0 w0 w hL hb=>?_;have sb:(⟨l.toArray⟩:ByteArray).data.toList=l:=rfl;rcases ho:Lib.atoiAll l with v | _ | _
 ·
  refine (Tryz.strconv_Atoi_ok ⟨l.toArray⟩ (by simp [ByteArray.size];omega) v (by rw [sb];exact ho) w).mono ?_;rintro e w' ⟨rfl,hw⟩;exact⟨v,none,rfl,rfl,q0y (s:=⟨l.toArray⟩) hw⟩
 ·
  obtain⟨tp,p,hv⟩:=(hL w hb).syn;refine (Any.strconv_Atoi_syntax_var Tryz.laysC172 ⟨l.toArray⟩ (by simpa [ByteArray.size] using hl) (by rw [sb];exact ho) tp p w hv).mono ?_;rintro e w' ⟨N,rfl,_,_,hw⟩;exact⟨_,some (_,_),rfl,by simp,hw⟩
 ·
  obtain⟨tp,p,hv⟩:=(hL w hb).ran;refine (Tryz.strconv_Atoi_range_var ⟨l.toArray⟩ (by simpa [ByteArray.size] using hl) (by rw [sb];exact ho) tp p w hv).mono ?_;rintro e w' ⟨N,rfl,_,_,hw⟩;exact⟨_,some (_,_),rfl,by simp,hw⟩
theorem qt8 (l m:List UInt8) (st:List AObj) (hl:l.length≤9223372036854775807) (hm:Nat.blt m.length 4294967281=true) (ha:m.all (fun b=>Nat.blt b.toNat 128)=true):qn E 215 [Sv l,Sv m] st fun r st'=>r=Sv (Lib.trimS l m)∧st'=st:=
 q9e l m st hl (by simpa [Nat.blt_eq] using hm) fun j b h=>by
  have:=List.all_eq_true.1 ha b (List.mem_of_getElem? h)
  simpa [Nat.blt_eq] using this
end Go.Proofs.YtihlchbgjdkmpaaGreatDoor
namespace Go.Av
open Go Go.RowKit Go.WideShapes Go.ChangeShapes
def G0:Gh:=⟨fun _=>none,fun _=>⟨0,0,0,false⟩,0⟩
theorem q0l (W:World):zf W.heap.size W G0 [] W:=
 ⟨Below.refl _ _,Nat.le_refl _,rfl,fun b vs h=>by simp [G0] at h,fun o x h=>by simp at h,fun o o' x x' _ h=>by simp at h⟩
theorem q8p (G:Gh) (vals:Array Value):RelL G (vals.toList.map .v) vals:=by
 refine⟨by simp,fun i x y hx hy=>?_⟩;rw [List.getElem?_map] at hx;rw [Array.getElem?_toList,hy] at hx;simp at hx;subst hx;exact .v y
theorem qtj {E:Env} {f:FuncId} {args:List AV} {vals:Array Value} {b:Bool} {W:World} (h:qn E f args [] fun r st'=>r=Bv b∧st'=[]) (hL:E.L W.heap.size W) (ha:args=vals.toList.map .v) :
  Calls E.P f vals W fun e w'=>e = .returned (.bool b)∧Below W.heap.size W w':=by
 subst ha;refine (h.run W.heap.size W G0 vals W hL (q0l W) (q8p _ _)).mono ?_;rintro e w' ⟨v,G',r,st',rfl,_,hA,hr,rfl,_⟩
 cases hr
 exact⟨rfl,hA.below⟩
theorem qt5 {P:Program} {W:World} {name:String} {k:IntKind} {zs:List Int} {g:Nat} {t e:TypeId} {n:Nat}
  (hg:P.globalNamed name=some g) (hty:(P.globals[g]?).map (·.type)=some t) (ht:P.underlying t=some (.array n e)) (he:P.underlying e=some (.int k)) (hce:P.cellsOf e=1) (hct:P.cellsOf t=n)
  (h:Lib.VarReads P W name (Lib.tabData k zs)):Lib.TabIs P W name k zs:=by
 obtain⟨g',t',cs,fuel,p,hg',ht',hvar,hd⟩:=h;obtain rfl:=Option.some.inj (hg.symm.trans hg');obtain rfl:=Option.some.inj (hty.symm.trans ht');unfold Lib.TabIs;rw [hvar,← Lib.cells_of_tab ht he hce hct hd]
theorem qmi {P:Program} {W:World} {name s:String} {d:DataW Unit} {g:Nat} {t:TypeId} {ms:Array (String×TypeId)}
  (hg:P.globalNamed name=some g) (hty:(P.globals[g]?).map (·.type)=some t) (ht:P.underlying t=some (.interface ms))
  (h:Lib.VarReads P W name (.iface s d)):∃ tp p,W.var? P name=some #[.iface tp p]:=by
 obtain⟨g',t',cs,fuel,p,hg',ht',hvar,hd⟩:=h;obtain rfl:=Option.some.inj (hg.symm.trans hg');obtain rfl:=Option.some.inj (hty.symm.trans ht')
 cases fuel with
 |zero=>simp [DataW.trod] at hd
 |succ fuel=>
  obtain⟨l⟩:=cs;simp only [DataW.trod,ht] at hd;split at hd;all_goals simp_all
section
variable {H : Type} {enc : TypeId × Value → H} {P : Program}
theorem qwl {f:Func} {s:ChangeSpec} {qai fresh handsOn again:Bool} {W W':World} {args:Array Value} {v:Value} {ds gs:List (DataW H)} {before pa pv:List MemPlace}
  (hW:DataW.Whole enc P f.params.toList s.vars qai W args.toList ds gs before)
  (hres:∀ (b:Nat) (sp:Nat→Bool) (hd:Bool),DataW.TrodAll enc P W' b sp hd f.resultTypes.toList (v.resultList f.resultTypes.size) (s.fn H (ds++gs)).results [])
  (lx:∀ sp:Nat→Bool,(∀ p∈before,sp p.block=true)→DataW.TrodAll enc P W' 0 sp true f.params.toList args.toList (s.fn H (ds++gs)).args pa)
  (hvars:∀ sp:Nat→Bool,(∀ p∈before,sp p.block=true)→DataW.TrodVars enc P W' sp s.vars (s.fn H (ds++gs)).vars pv)
  (hps:before=pa++pv) (hb:Below W.heap.size W W')
  (hok:∀ (j:Nat) (t:TypeId) (r:Value),f.resultTypes[j]? = some t→(v.resultList f.resultTypes.size)[j]? = some r→Value.okWide P W' .any 0 t r) :
  s.post enc P f qai fresh handsOn again W args v W':=by
 have d9:∀ p∈before,p.block<W.heap.size:=fun p hp=>hW.lt p hp;have e8:∀ p∈before,(fun b=>decide (b<W.heap.size)) p.block=true:=fun p hp=>by simpa using d9 p hp
 refine⟨ds,gs,before,[],pa,pv,hW,hres _ _ _,lx _ e8,hvars _ e8,World.keptBut_mono (fun p hp=>⟨hp,?_⟩) (hb.frame (·∈before)),fun _=>?_⟩
 ·rw [hps,List.mem_append] at hp
  exact Or.inr hp
 ·obtain⟨_,_,_,_,_,hz,hn⟩:=hW
  refine⟨hok,_,_,([]++pa)++pv,⟨[]++pa,pv,trodAll_append (lx _ (fun _ _=>rfl)) (hres _ _ _),hvars _ (fun _ _=>rfl),rfl,?_,?_⟩,?_⟩
  ·intro b off hp
   have hin:MemPlace.cell b off∈before:=by rw [hps];simpa using hp
   rw [hb.frozen (d9 _ hin)];exact hz b off hin
  ·intro ha
   have:=hn ha;rw [hps] at this
   simpa using this
  ·intro p hp _
   rw [hps]
   simpa using hp
end
end Go.Av
namespace Go.Proofs.YtihlchbgjdkmpaaGreatDoor
open Go Go.Av Go.RowKit
theorem zga:((List.range 412).filter fun t=>Tryz.prog.rowNamed t [101,114,114,111,114])=[29]:=by kernel_rfl
theorem zg0 : (Tryz.prog.cutTypes.find? (·.1 == "internal/reflectlite.rtype")).map (·.2) = some 365 := by kernel_rfl
theorem zg1:Tryz.prog.types.size=412:=by kernel_rfl
theorem zgw:typeHandle Tryz.prog 29 = .pointer (some ⟨9,29,none⟩):=by kernel_rfl
theorem zcm : Tryz.prog.globalNamed "errors.errorType" = some 4 := by kernel_rfl
theorem qy5 {l : List (String × DataW Unit)} (h : (l.all fun x => x.1 == "errors.errorType" || x.2.handleName?.isNone) = true) {x : String × DataW Unit} (hx : x ∈ l) (hn : (x.1 == "errors.errorType") = false) : x.2.handleName?.isNone = true := by
 have:=List.all_eq_true.1 h x hx;rw [hn] at this
 simpa using this
theorem qyv {P:Program} {w0:World} {laid:List (String×DataW Unit)} (args:Array Value) (hf:w0.layFits P laid []=true) (hi:w0.layIfaces P laid (w0.layVars P laid)=true) :
  laidMet P laid ((w0.layVars P laid).forCall (fun _ _=>0) ⟨#[],args,[]⟩).memory:=by
 have e1:(laid.filter fun x=>(laid.map Prod.fst).contains x.1)=laid:=List.filter_eq_self.2 fun x hx=>List.contains_iff_mem.2 (List.mem_map_of_mem hx)
 have e2:(laid.filter fun x=> !(laid.map Prod.fst).contains x.1)=[]:=List.filter_eq_nil_iff.2 fun x hx=>by
  rw [List.contains_iff_mem.2 (List.mem_map_of_mem (f:=Prod.fst) hx)];simp
 have h:laidMet P laid (w0.layVars P laid):=laidMet_layVars (w0:=w0) (laid.map Prod.fst) [] (by rw [e1]) (by rw [e1];exact hf) (by rw [e1];exact hi) (by rw [e2];exact LaidIn.none);exact h.of_heap (by simp [World.memory,World.forCall,Input.heap])
noncomputable def zgv (os:Os):World:={ World.holding Tryz.prog os ⟨#[],#[],[]⟩ with heap:=(World.holding Tryz.prog os ⟨#[],#[],[]⟩).heap.modify 4 fun
 | .cells _ t fz=>.cells #[.iface 365 (.agg #[.pointer (some ⟨9,29,none⟩)])] t fz
 |o=>o }
theorem zd7 {l:List (String×DataW Unit)} {W:World}
  (hp : (l.filter fun x => x.2.handleName?.isSome) = [("errors.errorType", Rows.laid_errors_errorType)] ∧ (l.all fun x => x.1 == "errors.errorType" || x.2.handleName?.isNone) = true)
  (hL:laidMetH Tryz.prog l W) (hs:W.ShapedOpen Tryz.prog)
  (h1 : ("internal/strconv.uint64pow10", Rows.laid_internal_strconv_uint64pow10) ∈ l) (h2 : ("strconv.ErrSyntax", Rows.laid_strconv_ErrSyntax) ∈ l) (h3 : ("strconv.ErrRange", Rows.laid_strconv_ErrRange) ∈ l) : E.L W.heap.size W := by
 unfold laidMetH at hL;rw [hp.1] at hL;simp only at hL;intro w hb;obtain⟨hL,hH⟩:=hL;have h1:=(List.mem_filter (p:=fun x=>x.2.handleName?.isNone)).2 ⟨h1,qy5 hp.2 h1 (by decide)⟩;have h2:=(List.mem_filter (p:=fun x=>x.2.handleName?.isNone)).2 ⟨h2,qy5 hp.2 h2 (by decide)⟩;have h3:=(List.mem_filter (p:=fun x=>x.2.handleName?.isNone)).2 ⟨h3,qy5 hp.2 h3 (by decide)⟩;obtain⟨name,u,ty,e1,e2,e3,e4,e5⟩:=hH _ (List.mem_singleton.2 rfl);have en:name=[101,114,114,111,114]:=(Option.some.inj e1).symm;subst en;obtain rfl:=Option.some.inj (zg0.symm.trans e2);have hm:ty∈(List.range 412).filter fun t=>Tryz.prog.rowNamed t [101,114,114,111,114]:=List.mem_filter.2 ⟨List.mem_range.2 (by rw [← zg1];exact e3),e4⟩;rw [zga] at hm;obtain rfl:=List.mem_singleton.1 hm;rw [zgw] at e5;have hv:=World.var?_cell zcm (Go.Joins.var_stays zcm e5 hb (Nat.le_refl _)) 0
 have g1 : Tryz.prog.globalNamed "internal/strconv.uint64pow10" = some 0 := by kernel_rfl
 have g2 : Tryz.prog.globalNamed "strconv.ErrSyntax" = some 2 := by kernel_rfl
 have g3 : Tryz.prog.globalNamed "strconv.ErrRange" = some 3 := by kernel_rfl
 have t1:=qt5 (k:=.u64) (zs:=Lib.pow10Tab) (t:=318) (e:=189) (n:=20) g1 (by kernel_rfl) (by kernel_rfl) (by kernel_rfl) (by kernel_rfl) (by kernel_rfl) (Lib.laidMet.reads hL h1);obtain⟨tp2,p2,v2⟩:=qmi (t:=29) g2 (by kernel_rfl) rfl (Lib.laidMet.reads hL h2);obtain⟨tp3,p3,v3⟩:=qmi (t:=29) g3 (by kernel_rfl) rfl (Lib.laidMet.reads hL h3);exact⟨hs.keptBut (hb.frame (fun _=>False)) (fun _ h=>h.elim),Go.Joins.var_stays g1 t1 hb (Nat.le_refl _),⟨tp2,p2,Go.Joins.var_stays g2 v2 hb (Nat.le_refl _)⟩,⟨tp3,p3,Go.Joins.var_stays g3 v3 hb (Nat.le_refl _)⟩,by simpa using hv⟩
end Go.Proofs.YtihlchbgjdkmpaaGreatDoor
namespace Go.Pl
open Go
abbrev qa:=List UInt8
theorem qcz (l:qa) (c:UInt8):0≤Lib.index l [c]↔c∈l:=by
 induction l with
 |nil=>simp [Lib.index]
 |cons b l ih=>
  have dj:=Lib.index_ge l [c];unfold Lib.index;by_cases hb:c=b
  ·subst hb
   simp [List.isPrefixOf]
  ·have hp:([c]:qa).isPrefixOf (b::l)=false:=by simp [List.isPrefixOf,hb]
   rw [hp];by_cases hm:Lib.index l [c] = -1
   ·have:c∉l:=fun h=>by have:=ih.2 h;omega
    simp [hm,hb,this]
   ·have:c∈l:=ih.1 (by omega)
    simp [hm,this];omega
theorem qmy (l:qa) (c:UInt8):Lib.contains l [c]=decide (c∈l):=by
 unfold Lib.contains;by_cases h:c∈l
 ·simp [h,(qcz l c).2 h]
 ·have:¬ 0≤Lib.index l [c]:=fun h'=>h ((qcz l c).1 h')
  simp [h,this]
theorem qmg (l:qa) (c:UInt8):Lib.hasPrefix l [c]=decide (l.head? = some c):=by
 cases l with
 |nil=>simp [Lib.hasPrefix]
 |cons b l=>
  by_cases h:c=b
  ·simp [Lib.hasPrefix,List.isPrefixOf,h]
  ·simp [Lib.hasPrefix,List.isPrefixOf,h,Ne.symm h]
def xp (c:UInt8):Prop:=c=32∨c=9
instance (c:UInt8):Decidable (xp c):=inferInstanceAs (Decidable (c=32∨c=9))
def qf8 (l:qa):Prop:=∃ c,l.head? = some c∧xp c
instance (l:qa):Decidable (qf8 l):=
 match l with
 | []=>.isFalse (by rintro⟨c,h,_⟩;simp at h)
 |c::r=>decidable_of_iff (xp c) ⟨fun h=>⟨c,rfl,h⟩,fun ⟨d,h,hd⟩=>by simp at h;subst h;exact hd⟩
def qdc (l:qa):Prop:=l≠[]∧l.length≤32∧¬ qf8 l∧¬ l.head? = some 35∧58∉l∧10∉l
instance (l:qa):Decidable (qdc l):=inferInstanceAs (Decidable (_∧_∧_∧_∧_∧_))
theorem qth (c:UInt8) (l:qa):Lib.contains [32,9] [c]=decide (qf8 (c::l)):=by
 rw [qmy];have:qf8 (c::l)↔xp c:=⟨fun ⟨d,h,hd⟩=>by simp at h;subst h;exact hd,fun h=>⟨c,rfl,h⟩⟩;simp [this,xp]
def upto (c:UInt8) (l:qa):qa:=l.takeWhile (·≠c)
def past (c:UInt8) (l:qa):qa:=l.drop ((upto c l).length+1)
theorem qsa (c:UInt8) (l:qa) (h:c∈l):Lib.index l [c]=((upto c l).length:Int):=by
 induction l with
 |nil=>simp at h
 |cons b l ih=>
  unfold Lib.index upto;by_cases hb:b=c
  ·subst hb;simp [List.isPrefixOf]
  ·have hp:([c]:qa).isPrefixOf (b::l)=false:=by simp [List.isPrefixOf,Ne.symm hb]
   have hl:c∈l:=by simpa [Ne.symm hb] using h
   have e:=ih hl;rw [hp];have:(Lib.index l [c] == -1)=false:=by rw [e];simp
   simp only [this];rw [e];simp [hb,upto]
theorem qjm (c:UInt8) (l:qa):l.take (upto c l).length=upto c l:=by
 induction l with
 |nil=>simp [upto]
 |cons b l ih=>
  by_cases hb:b=c
  ·simp [upto,hb]
  ·have:upto c (b::l)=b::upto c l:=by simp [upto,hb]
   rw [this];simp [ih]
theorem qd7 {c:UInt8} {l:qa} (h:c∉l):upto c l=l:=by
 induction l with
 |nil=>rfl
 |cons b l ih=>
  have hb:b≠c:=fun e=>h (by simp [e]);have:upto c (b::l)=b::upto c l:=by simp [upto,hb]
  rw [this,ih (fun h'=>h (by simp [h']))]
theorem vb (c:UInt8) (l:qa):(upto c l).length≤l.length:=by
 have:=congrArg List.length (qjm c l);simp at this;omega
theorem qdo {c:UInt8} {l:qa} (h:c∈l):(upto c l).length<l.length:=by
 induction l with
 |nil=>simp at h
 |cons b l ih=>
  by_cases hb:b=c
  ·simp [upto,hb]
  ·have:upto c (b::l)=b::upto c l:=by simp [upto,hb]
   rw [this];have:=ih (by simpa [Ne.symm hb] using h);simp;omega
theorem km (c:UInt8) (l:qa):(past c l).length=l.length - ((upto c l).length+1):=by simp [past]
theorem zdj (c:UInt8) (l:qa):Lib.cut l [c]=(upto c l,past c l,decide (c∈l)):=by
 unfold Lib.cut;by_cases h:c∈l
 ·rw [if_pos ((qcz l c).2 h),qsa c l h]
  simp [qjm,past,h]
 ·rw [if_neg (fun h'=>h ((qcz l c).1 h'))]
  simp [qd7 h,past,h]
theorem x6 {c:UInt8} {l:qa} (h:l≠[]):(past c l).length<l.length:=by
 rw [km];have:=List.length_pos_iff.2 h;omega
def zl (l:qa):List (qa×Bool):=
 if h:l=[] then [] else (upto 10 l,decide (10∈l))::zl (past 10 l)
 termination_by l.length
 decreasing_by exact x6 h
theorem vi:zl []=[]:=by rw [zl];simp
theorem v8 {l:qa} (h:l≠[]):zl l=(upto 10 l,decide (10∈l))::zl (past 10 l):=by rw [zl];simp [h]
def x5 (b:Bool):qa:=if b then [10] else []
def vd (by' l:qa):qa×Bool:=
 if ∀ x∈zl l,by' <+: x.1 then ((zl l).flatMap fun x=>x.1.drop by'.length++x5 x.2,true) else ([],false)
theorem qd0 (l m:qa):(Lib.trimPrefix l m).length≤l.length:=by
 unfold Lib.trimPrefix;split
 ·simp
 ·exact Nat.le_refl _
theorem xi (l m:qa):Lib.hasPrefix l m=true↔m <+: l:=by
 unfold Lib.hasPrefix;exact List.isPrefixOf_iff_prefix
theorem qcc {l m:qa} (h:m <+: l):Lib.trimPrefix l m=l.drop m.length:=by
 unfold Lib.trimPrefix;rw [if_pos ((xi l m).2 h)]
theorem xj {c:UInt8} {a:qa} (r:qa) (h:c∉a):upto c (a++c::r)=a:=by
 induction a with
 |nil=>simp [upto]
 |cons b a ih=>
  have hb:b≠c:=fun e=>h (by simp [e]);have h2:c∉a:=fun e=>h (by simp [e]);have e:upto c (b::(a++c::r))=b::upto c (a++c::r):=by simp [upto,hb]
  rw [List.cons_append,e,ih h2]
theorem yi {c:UInt8} {a:qa} (r:qa) (h:c∉a):past c (a++c::r)=r:=by
 unfold past;rw [xj r h,show a++c::r=(a++[c])++r by simp,show a.length+1=(a++[c]).length by simp,List.drop_left]
theorem qaa {c:UInt8} {l:qa} (h:c∈l):l=upto c l++c::past c l:=by
 induction l with
 |nil=>simp at h
 |cons b l ih=>
  by_cases hb:b=c
  ·subst hb;simp [upto,past]
  ·have h2:c∈l:=by simpa [Ne.symm hb] using h
   have e1:upto c (b::l)=b::upto c l:=by simp [upto,hb]
   have e2:past c (b::l)=past c l:=by simp [past,e1]
   rw [e1,e2,List.cons_append,← ih h2]
theorem qdf (c:UInt8) (l:qa):c∉upto c l:=by
 induction l with
 |nil=>simp [upto]
 |cons b l ih=>
  by_cases hb:b=c
  ·simp [upto,hb]
  ·have e1:upto c (b::l)=b::upto c l:=by simp [upto,hb]
   rw [e1];simp [Ne.symm hb,ih]
def j7 (l:qa):qa:=l.takeWhile (·≠58)
theorem q1a (l:qa) (h:58∈l):Lib.index l [58]=((j7 l).length:Int):=by
 induction l with
 |nil=>simp at h
 |cons b l ih=>
  unfold Lib.index j7;by_cases hb:b=58
  ·subst hb;simp [List.isPrefixOf]
  ·have hp:([58]:qa).isPrefixOf (b::l)=false:=by simp [List.isPrefixOf,Ne.symm hb]
   have hl:58∈l:=by simpa [Ne.symm hb] using h
   have e:=ih hl;rw [hp];have:(Lib.index l [58] == -1)=false:=by rw [e];simp
   simp only [this];rw [e];simp [hb,j7]
theorem q0d (l:qa):l.take (j7 l).length=j7 l:=by
 induction l with
 |nil=>simp [j7]
 |cons b l ih=>
  by_cases hb:b=58
  ·simp [j7,hb]
  ·have:j7 (b::l)=b::j7 l:=by simp [j7,hb]
   rw [this];simp [ih]
def yj (l:qa):qa:=l.drop ((j7 l).length+1)
theorem quu (l:qa):Lib.cut l [58]=if 58∈l then (j7 l,yj l,true) else (l,[],false):=by
 unfold Lib.cut;by_cases h:58∈l
 ·rw [if_pos ((qcz l 58).2 h),if_pos h,q1a l h]
  simp [q0d,yj]
 ·rw [if_neg (fun h'=>h ((qcz l 58).1 h')),if_neg h]
def qs (l:qa):Int:=
 if 10∈l then 5 else if ∀ c∈l,xp c then 1 else if l.head? = some 35 then 2 else if qf8 l then 3
 else if 58∈l∧qdc (j7 l) then 4 else 5
theorem q1d {l:qa} (h:10∉l) (hb:¬ ∀ c∈l,xp c):0<l.length∧qs l=if l.getD 0 0=35 then 2 else if xp (l.getD 0 0) then 3 else if 58∈l∧qdc (j7 l) then 4 else 5:=by
 cases l with
 |nil=>simp at hb
 |cons c l=>
  have e:qf8 (c::l)↔xp c:=⟨fun ⟨d,h,hd⟩=>by simp at h;subst h;exact hd,fun h=>⟨c,rfl,h⟩⟩;refine⟨by simp,?_⟩;unfold qs;rw [if_neg h,if_neg hb];simp [e]
theorem qme {α : Type} (p : α→Bool) (l:List α):l.dropWhile p=[]↔∀ x∈l,p x=true:=by
 induction l with
 |nil=>simp
 |cons a l ih=>
  by_cases h:p a=true
  ·simp [h,ih]
  ·simp [h]
theorem zah {α : Type} (p : α→Bool) (l:List α):(l.reverse.dropWhile p).reverse.dropWhile p=[]↔∀ x∈l,p x=true:=by
 rw [qme];constructor
 ·intro h x hx
  by_cases hq:∀ y∈l,p y=true
  ·exact hq x hx
  ·have hr:¬ ∀ y∈l.reverse,p y=true:=fun h'=>hq fun y hy=>h' y (by simpa using hy)
   rw [← qme] at hr;obtain⟨a,r,hd⟩:=List.exists_cons_of_ne_nil hr;have h1:=List.head?_dropWhile_not p l.reverse;rw [hd] at h1;have h2:=h a (by simp [hd]);simp [h2] at h1
 ·intro h x hx
  exact h x (by
   have:=(List.dropWhile_sublist (l:=l.reverse) p).subset (by simpa using hx)
   simpa using this)
theorem qn1 (l m:qa):Lib.trimS l m=[]↔∀ c∈l,c∈m:=by
 unfold Lib.trimS Lib.trimLeftS Lib.trimRightS;rw [zah];simp
theorem qrt (l m:qa):(Lib.cut l m).1.length≤l.length:=by
 unfold Lib.cut;split
 ·simp;omega
 ·simp
def yv (l:qa):Prop:=2≤l.length∧l.length≤50000∧l.getLast? = some 10∧(vd [32] l).2=true
instance (l:qa):Decidable (yv l):=inferInstanceAs (Decidable (_∧_∧_∧_))
def qi7 (n:Nat) (fig:qa):qa:=[37,97,109,101,110,100,32]++Lib.itoa n++[32]++fig++[10]
def qdz (n:Nat):qa:=[37,101,110,100,32]++Lib.itoa n++[10]
theorem qhg:∀ (k u:Nat),u<10 ^ (k+1)→Lib.nDigits u≤k+1
 | 0,u,h=>by rw [Lib.nDigits_small (by simpa using h)];omega
 |k+1,u,h=>by
  by_cases h':u<10
  ·rw [Lib.nDigits_small h'];omega
  ·rw [Lib.nDigits_big h']
   have:=qhg k (u / 10) (by rw [Nat.pow_succ] at h;omega);omega
theorem qia (n:Nat) (h:n≤9223372036854775807):(Lib.itoa n).length≤19:=by
 unfold Lib.itoa;rw [if_neg (by omega),Lib.decDigits_length];have:((n:Int)).toNat=n:=by simp
 rw [this];exact qhg 18 n (by omega)
theorem qgr (l:qa) (c:UInt8):Lib.hasSuffix l [c]=decide (l.getLast? = some c):=by
 have:Lib.hasSuffix l [c]=true↔l.getLast? = some c:=by
  unfold Lib.hasSuffix;rw [List.isSuffixOf_iff_suffix,List.singleton_suffix_iff_getLast?_eq_some]
 by_cases h:l.getLast? = some c
 ·simp [this.2 h,h]
 ·have:¬ Lib.hasSuffix l [c]=true:=fun h'=>h (this.1 h')
  simp [this,h]
theorem atoiAll_bounds {l:qa} {v:Int} (h:Lib.atoiAll l = .ok v) : -9223372036854775808≤v∧v≤9223372036854775807:=by
 unfold Lib.atoiAll at h
 cases l with
 |nil=>simp at h
 |cons c r=>
  simp only at h;split at h
  ·simp at h
  ·simp at h
  ·split at h
   ·simp at h
   ·split at h
    ·simp at h
    ·rename_i h1 h2
     simp only [Lib.NumEnd.ok.injEq] at h;subst h;by_cases hn:c.toNat=45
     ·simp only [hn,true_and,not_true,if_true] at *
      omega
     ·simp only [hn,not_false_iff,true_and,if_false] at *
      omega
def vm (l:qa):Nat:=
 match Lib.atoiAll l with
 | .ok v=>if Lib.itoa v=l∧1≤v∧v≤50000 then v.toNat else 0
 | _=>0
def zu:qa:=[37,97,109,101,110,100,32]
def hexL:qa:=[48,49,50,51,52,53,54,55,56,57,97,98,99,100,101,102]
def y0 (l:qa):Prop:=∀ c∈l,c∈hexL
instance (l:qa):Decidable (y0 l):=inferInstanceAs (Decidable (∀ c∈l,c∈hexL))
theorem qv4 (l:qa):Lib.trimS l [48,49,50,51,52,53,54,55,56,57,97,98,99,100,101,102]=[]↔y0 l:=qn1 l hexL
def zz (l:qa):Nat×qa×Bool:=
 (vm (upto 32 (Lib.trimPrefix l zu)),past 32 (Lib.trimPrefix l zu),
  decide (zu <+: l∧32∈Lib.trimPrefix l zu∧2≤vm (upto 32 (Lib.trimPrefix l zu))∧(past 32 (Lib.trimPrefix l zu)).length=8∧y0 (past 32 (Lib.trimPrefix l zu))))
def qd3 (l:qa):Bool:=
 if zu <+: l then decide (¬ (32∈l.drop 7∧vm (upto 32 (l.drop 7))<2)∧¬ (upto 32 (l.drop 7)≠[]∧vm (upto 32 (l.drop 7))=0)∧(past 32 (l.drop 7)).length≤8∧y0 (past 32 (l.drop 7)))
 else decide (l <+: zu)
theorem qy8 {l:qa} (h:∀ v,Lib.atoiAll l≠.ok v):vm l=0:=by
 unfold vm
 cases ho:Lib.atoiAll l with
 |ok v=>exact absurd ho (h v)
 | _=>rfl
theorem qsk {l:qa} {v:Int} (h:Lib.atoiAll l = .ok v):(vm l:Int)=if Lib.itoa v=l∧1≤v∧v≤50000 then v else 0:=by
 unfold vm;rw [h];simp only;split
 ·omega
 ·rfl
theorem qb6 (l:qa):vm l≤50000:=by
 unfold vm;split
 ·split
  ·omega
  ·omega
 ·omega
def qfm (n:Int):Int:=if n<2∨50000<n then 0 else (qi7 n.toNat [48,48,48,48,48,48,48,48]).length+n+(qdz n.toNat).length
theorem qgq (l m:qa):Lib.hasPrefix l m=decide (m <+: l):=by
 by_cases h:m <+: l
 ·simp [(xi l m).2 h,h]
 ·have:¬ Lib.hasPrefix l m=true:=fun h'=>h ((xi l m).1 h')
  simp [this,h]
def qdh (body:qa) (lack:Int):Int:=
 if (vd [32] body).2=true∧¬ ((body=[]∨body.getLast? = some 10)∧lack<2) then 2 else 3
theorem rep8:Lib.repeatL [48] 8=[48,48,48,48,48,48,48,48]:=by decide
theorem qez (n:Nat) (f:qa):(qi7 n f).length=(Lib.itoa n).length+f.length+9:=by simp [qi7] <;> omega
theorem qe9 (n:Nat):(qdz n).length=(Lib.itoa n).length+6:=by simp [qdz] <;> omega
theorem qca {u:Nat} (h:¬ u<10):Lib.decDigits u=Lib.decDigits (u / 10)++Lib.decDigits (u % 10):=by
 rw [Lib.decDigits,dif_neg h,Lib.decDigits_one (Nat.mod_lt u (by omega))]
end Go.Pl
namespace Go.Proofs.YtihlchbgjdkmpaaGreatDoor
open Go Go.Av Go.RowKit Go.Proofs Go.Pl
theorem qoz (l:List UInt8) (c:UInt8) (st:List AObj) (hl:l.length<4294967281):qn E 214 [Sv l,Sv [c]] st fun r st'=>r=Bv (decide (c∈l))∧st'=st:=by
 rw [← qmy];exact qrr l [c] st hl
theorem qey (l:List UInt8) (c:UInt8) (st:List AObj):qn E 155 [Sv l,Sv [c]] st fun r st'=>r=Bv (decide (l.head? = some c))∧st'=st:=by
 rw [← qmg];exact qdu l [c] st
theorem q15 (l:List UInt8) (st:List AObj):qn E 216 [Sv l] st fun r st'=>r=Bv (decide (qf8 l))∧st'=st:=by
 refine zb (qt _) (qr Tryz.func216 rfl (Nat.le_of_ble_eq_true rfl) ?_)
 cases l with
 |nil=>
  repeat' (first|apply qm|apply qe|apply qf|apply qj|apply qh|(apply jv;(iterate 3 exact rfl))|(apply ze;(iterate 4 exact rfl))|(apply qbr;exact cRa)|(apply qp;exact rfl;apply pk_f;exact cRa)|apply qu)
  refine qo rfl (zi rfl) ⟨congrArg Bv (?_:_=_),_,rfl⟩
  simp [qf8]
 |cons c l=>
  have b9:¬ (c::l)=[]:=by simp
  repeat' (first|apply qm|apply qe|apply qf|apply qj|apply qh|(apply jv;(iterate 3 exact rfl))|(apply ze;(iterate 4 exact rfl))|(apply qb2;exact cAo)|(apply qp;exact rfl;apply qcm;exact cAo)|apply qu|refine qdp rfl rfl rfl ⟨_,rfl⟩ (by omega) (by omega) (by simp;omega) ?_|(apply qk;exact Tryz.call214;exact qrr _ _ _ (by simp)))
  refine qo rfl (zi rfl) ⟨congrArg Bv (?_:_=_),_,rfl⟩;exact qth c l
theorem zcq (l:List UInt8) (st:List AObj) (hl:l.length<4294967281):qn E 217 [Sv l] st fun r st'=>r=Bv (decide (qdc l))∧st'=st:=by
 refine zb (qt _) (qr Tryz.func217 rfl (Nat.le_of_ble_eq_true rfl) ?_);repeat' (first|apply qm|apply qe|apply qf|apply qj|apply qh|(apply qy;(iterate 3 exact rfl))|(apply jv;(iterate 3 exact rfl))|(apply jb;exact rfl)|(apply ze;(iterate 4 exact rfl))|(apply qcw;exact cAo)|(apply qcx;exact cAo)|(apply qu6;exact cRa)|(apply qr7;exact cRa)|(apply qk5 <;> intro h)|(apply qbs;exact cRa)|(apply xx <;> intro h)|(apply qp;exact rfl;apply qcm;exact cAo)|(apply qp;exact rfl;apply qdi;exact cAo)|(apply qp;exact rfl;apply qlr;exact cRa)|(apply qp;exact rfl;apply qf2;exact cRa)|(apply qp;exact rfl;apply pk_t;exact cRa)|(apply qc;exact rfl;apply cd_t;exact cRa)|(apply qc;exact rfl;apply cd_d <;> intro h)|(apply wl;(iterate 3 exact rfl))|apply qx|apply qu|(apply qk;exact Tryz.call214;exact qoz _ _ _ hl)|(apply qk;exact Tryz.call155;exact qey _ _ _)|(apply qk;exact Tryz.call216;exact q15 _ _))
 all_goals refine qo rfl (zi rfl) ⟨congrArg Bv (?_:_=_),_,rfl⟩
 all_goals simp [qdc, *]
 all_goals omega
theorem E_ok:q3l E:=fun _ _ _ h hb hB _ h2=>h _ (hb.trans (h2.mono hB))
theorem qkd (l:List UInt8) (st:List AObj) (hl:l.length<4294967281):qn E 156 [Sv l] st fun r st'=>r=Iv (qs l)∧st'=st:=by
 refine zb (qt _) (qr Tryz.func156 rfl (Nat.le_of_ble_eq_true rfl) ?_);repeat' (first|apply qm|apply q9|apply qe|apply qf|apply qj|apply qh|(apply zh;exact rfl;exact rfl)|(apply jv;(iterate 3 exact rfl))|(apply ze;(iterate 4 exact rfl))|(apply qb3;exact cRa)|(apply qbr;exact cRa)|(apply qh9 <;> intro h)|(apply qp;exact rfl;apply pk_t;exact cRa)|(apply qp;exact rfl;apply pk_f;exact cRa)|(apply qc;exact rfl;apply cd_f;exact cRa)|(apply qc;exact rfl;apply cd_d <;> intro h)|apply qx|apply qu|(apply qk;exact Tryz.call214;exact qoz _ _ _ hl)|(apply qk;exact Tryz.call215;exact q9e _ _ _ (by omega) (by simp) (by intro j b h;match j with | 0=>simp at h;subst h;decide | 1=>simp at h;subst h;decide|j+2=>simp at h))|(apply qk;exact Tryz.call155;exact qey _ _ _)|(apply qk;exact Tryz.call216;exact q15 _ _)|(apply qk;exact Tryz.call110;exact qrs _ _ _ hl)|(apply qk;exact Tryz.call217;exact zcq _ _ (Nat.lt_of_le_of_lt (qrt _ _) hl)))
 all_goals refine qo rfl (zi rfl) ⟨congrArg Iv (?_:_=_),_,rfl⟩
 all_goals have hb:Lib.trimS l [32,9]=[]↔∀ c∈l,xp c:=by rw [qn1];simp [xp]
 all_goals by_cases hA:∀ c∈l,xp c <;> by_cases hC:58∈l <;> by_cases hK:qdc (j7 l) <;> simp_all [qs,quu]
end Go.Proofs.YtihlchbgjdkmpaaGreatDoor
namespace Go.Proofs
open Go.Shelf Go.RowKit
variable {P : Program} {ρ : Ren}
set_option maxHeartbeats 4000000 in
theorem qrp (L:Lays.n169 P ρ) (X:Builder.Extra P ρ) (b n c:Nat) (ad:Option Addr) (q:Value) (str:ByteArray) (w w2:World) (c1:w.drew.cell? ⟨b,1,none⟩=some (.slice ad n c))
  (hSD:(Builtin.unsafeSliceData_ #[(ρ.t 37)] (ρ.t 127) #[.slice ad n c]).run P w.drew = .ok q w.drew)
  (hUS:(Builtin.unsafeString_ #[(ρ.t 127),(ρ.t 3)] (ρ.t 9) #[q,.int .i64 n]).run P w.drew = .ok (.string str) w2) :
  Calls P (ρ.f 169) #[.pointer (some ⟨b,0,none⟩)] w fun e w'=>e = .returned (.string str)∧w'=w2:=by
 have mixed:=L.mixed;have t72:=L.t72;have a72:=L.a72;have z72:=L.z72;have v72:=L.v72;have u72:=run_underlying L.t72;have t70:=L.t70;have a70:=L.a70;have z70:=L.z70;have v70:=L.v70;have u70:=run_underlying L.t70;have t37:=L.t37;have a37:=L.a37;have z37:=L.z37;have v37:=L.v37;have u37:=run_underlying L.t37;have t127:=L.t127;have a127:=L.a127;have z127:=L.z127;have v127:=L.v127;have u127:=run_underlying L.t127;have t3:=L.t3;have a3:=L.a3;have z3:=L.z3;have v3:=L.v3;have u3:=run_underlying L.t3;have t9:=L.t9;have a9:=L.a9;have z9:=L.z9;have v9:=L.v9;have u9:=run_underlying L.t9;have t5:=X.t5;have a5:=X.a5;have z5:=X.z5;have v5:=X.v5;have u5:=run_underlying X.t5
 go_enter L.f169,Body.n169_ntmps ρ
 go_wp2
 go_region_o
 all_goals (go_wp2;go_ret;exact⟨rfl,rfl⟩)
end Go.Proofs
namespace Go.Proofs.YtihlchbgjdkmpaaGreatDoor
open Go Go.Av Go.RowKit Go.Proofs
@[reducible] def bldO (ver : Nat) (q : AV) (l : List UInt8) (tp : Nat) : AObj := .cells ver 194 [q, .sl 1 (l.map Uv) (some tp)]
theorem qy4 (v:Value) (w:World):(callFunc 203 #[v]).run E.P w = .ok (.value v) w:=by
 have h:=run_callFunc_extern (P:=E.P) Tryz.func203 (by kernel_rfl) (by kernel_rfl) (by kernel_rfl) (e:=Extern.AbiNoEscape.same) (by kernel_rfl) #[v] w;rw [h,Lib.run_noEscape];rfl
theorem q17 (o ver:Nat) (q buf:AV) (st:List AObj) (ho:st[o]? = some (.cells ver 194 [q,buf])) (hq:q = .v (.pointer none)∨q = .bx o ver 0) :
  qn E 144 [.bx o ver 0] st fun r st'=>r = .tu []∧st'=st.set o (.cells ver 194 [.bx o ver 0,buf]):=by
 have d7:(st++[])[o]? = some (.cells ver 194 [q,buf]):=by rw [List.append_nil];exact ho
 refine qr Tryz.func144 rfl (Nat.le_of_ble_eq_true rfl) ?_;rcases hq with rfl|rfl
 ·skip
  repeat' (first|apply qm|apply qe|apply qf|apply qj|(apply qc;exact rfl;apply cd_t;exact cRa)|(apply zk;(iterate 3 exact rfl))|(apply wt;exact rfl;exact rfl)|(apply qan;(iterate 3 exact rfl))|(apply j9;exact rfl;exact d7;exact rfl;exact rfl)|(apply x7;exact rfl;exact rfl;exact d7;(iterate 6 exact rfl))|(apply qwb;exact rfl;exact d7;(simp);exact rfl;exact rfl;kernel_rfl)|(apply qrb;exact rfl;exact d7;(iterate 3 exact rfl);kernel_rfl)|(apply qv9;exact qy4;exact rfl))
  refine qo rfl (xl rfl) ⟨rfl,?_⟩
  show (st++[]).set o _=_
  rw [List.append_nil];rfl
 ·skip
  repeat' (first|apply qm|apply qe|apply qf|apply qj|(apply qc;exact rfl;apply cd_f;exact cRa)|(apply zk;(iterate 3 exact rfl))|(apply wt;exact rfl;exact rfl)|(apply qan;(iterate 3 exact rfl))|apply qx|(apply j9;exact rfl;exact d7;exact rfl;exact rfl)|(apply qta;exact rfl;exact rfl;exact d7;exact rfl;exact rfl))
  refine qo rfl (xl rfl) ⟨rfl,?_⟩
  show st++[]=_
  rw [List.append_nil,zb6 ho]
theorem q2d:yb E.P 5 1 1:=⟨_,_,rfl,rfl,rfl,rfl,rfl⟩
theorem qxp (o ver tp:Nat) (q:AV) (l m:List UInt8) (st:List AObj) (ho:st[o]? = some (bldO ver q l tp)) (ht:st[tp]? = some (.tip l.length 1 5)) (hq:q = .v (.pointer none)∨q = .bx o ver 0) (d5:l.length+m.length≤140737488355328) :
  qn E 101 [.bx o ver 0,Sv m] st fun r st'=>r = .tu [Iv m.length,.v .nilIface]∧st'=(st.set o (bldO ver (.bx o ver 0) (l++m) tp)).set tp (.tip (l.length+m.length) 1 5):=by
 have b9:tp≠o:=fun e=>by rw [e,ho] at ht;simp at ht
 have d7:(st++[])[o]? = some (bldO ver q l tp):=by rw [List.append_nil];exact ho
 have ht':(st++[])[tp]? = some (.tip l.length 1 5):=by rw [List.append_nil];exact ht
 have h2:=jq (y:=.cells ver 194 [.bx o ver 0,.sl 1 (l.map Uv) (some tp)]) d7;have h3:=jg (y:=.cells ver 194 [.bx o ver 0,.sl 1 (l.map Uv) (some tp)]) ht' (Ne.symm b9);have h4:=jg (y:=.tip (l.length+m.length) 1 5) h2 b9;have h5:maxLen=140737488351232∨True:=.inr trivial;refine qr Tryz.func101 rfl (Nat.le_of_ble_eq_true rfl) ?_;repeat' (first|apply qm|apply qe|apply qf|apply qj|apply qh|(apply wl;(iterate 3 exact rfl))|(apply zk;(iterate 3 exact rfl))|(apply wt;exact rfl;exact rfl)|apply qu|(apply qk;exact Tryz.call144;exact q17 o ver q _ (st++[]) d7 hq)|(apply j9;exact rfl;exact h2;exact rfl;exact rfl)|(apply qxa;exact rfl;exact rfl;exact h3;(simp);exact rfl;exact rfl;exact q2d;(simp only [maxLen];omega);omega)|(apply x7;exact rfl;exact rfl;exact h4;(iterate 6 exact rfl)))
 refine qo rfl (wm rfl) ⟨rfl,?_⟩
 show (((st++[]).set o _).set tp _).set o (.cells ver 194 [.bx o ver 0,.sl 1 (l.map Uv++m.map Uv) (some tp)])=_
 rw [List.append_nil,List.set_comm _ _ b9,List.set_set,← List.map_append]
theorem zc8 (o ver tp:Nat) (q:AV) (l:List UInt8) (c:UInt8) (st:List AObj) (ho:st[o]? = some (bldO ver q l tp)) (ht:st[tp]? = some (.tip l.length 1 5)) (hq:q = .v (.pointer none)∨q = .bx o ver 0) (d5:l.length+1≤140737488355328) :
  qn E 148 [.bx o ver 0,Uv c] st fun r st'=>r = .v .nilIface∧st'=(st.set o (bldO ver (.bx o ver 0) (l++[c]) tp)).set tp (.tip (l.length+1) 1 5):=by
 have b9:tp≠o:=fun e=>by rw [e,ho] at ht;simp at ht
 have d7:(st++[])[o]? = some (bldO ver q l tp):=by rw [List.append_nil];exact ho
 have ht':(st++[])[tp]? = some (.tip l.length 1 5):=by rw [List.append_nil];exact ht
 have h2:=jq (y:=.cells ver 194 [.bx o ver 0,.sl 1 (l.map Uv) (some tp)]) d7;have h3:=jg (y:=.cells ver 194 [.bx o ver 0,.sl 1 (l.map Uv) (some tp)]) ht' (Ne.symm b9);have h4:=jg (y:=.tip (l.length+1) 1 5) h2 b9;refine qr Tryz.func148 rfl (Nat.le_of_ble_eq_true rfl) ?_;repeat' (first|apply qm|apply qe|apply qf|apply qj|apply qh|(apply zk;(iterate 3 exact rfl))|(apply xw;(iterate 9 exact rfl))|(apply wt;exact rfl;exact rfl)|apply qu|(apply qk;exact Tryz.call144;exact q17 o ver q _ (st++[]) d7 hq)|(apply j9;exact rfl;exact h2;exact rfl;exact rfl)|(apply qor (m:=1);exact rfl;exact rfl;exact h3;(simp);exact rfl;exact rfl;exact q2d;exact rfl;exact rfl;(simp only [maxLen];omega);omega)|(apply x7;exact rfl;exact rfl;exact h4;(iterate 6 exact rfl)))
 refine qo rfl (zi rfl) ⟨rfl,?_⟩
 show (((st++[]).set o _).set tp _).set o (.cells ver 194 [.bx o ver 0,.sl 1 (l.map Uv++[c].map Uv) (some tp)])=_
 rw [List.append_nil,List.set_comm _ _ b9,List.set_set,← List.map_append]
theorem qul (o ver tp:Nat) (q:AV) (l:List UInt8) (st:List AObj) (ho:st[o]? = some (bldO ver q l tp)) (ht:st[tp]? = some (.tip l.length 1 5)) :
  qn E 104 [.bx o ver 0] st fun r st'=>r=Sv l∧st'=st.set tp .dead:=by
 refine⟨fun B0 w0 G vals w hL hA hR=>?_⟩;obtain⟨h0,h1,h2,h3,c,h4,h5,h6⟩:=hA.ob o _ ho;obtain⟨g0,g1,g2⟩:=hA.ob tp _ ht;have b9:tp≠o:=fun e=>by rw [e,ho] at ht;simp at ht
 have hvals:vals = #[.pointer (some ⟨(G.ob o).blk,0,none⟩)]:=by
  have hs:vals.size=1:=by have:=hR.1;simpa using this.symm
  have h:=hR.2 0 (.bx o ver 0) vals[0] rfl (by simp [hs]);apply Array.ext
  ·simp [hs]
  ·intro i hi1 dt
   have:i=0:=by simp at dt;omega
   subst this
   have e:vals[0] = .pointer (some ⟨(G.ob o).blk,0,none⟩):=by
    generalize vals[0]=v at h
    cases h with
    |bx _ _ _ b hn e1 e2=>rw [e2 h1]
   simpa using e
 subst hvals;have hc2:c.size=2:=by rw [← h5];rfl
 have g9:=h6 1 (.sl 1 (l.map Uv) (some tp)) c[1] rfl (by simp [hc2])
 have bp:w.drew.cell? ⟨(G.ob o).blk,1,none⟩=some c[1]:=by
  have h4':w.drew.heap[(G.ob o).blk]? = some (.cells c 194 (0,0)):=h4;simp [World.cell?,h4',hc2]
 generalize hv:c[1]=v at g9 bp;have t8:Below w.heap.size w w.drew:=⟨rfl,rfl,rfl,Nat.le_refl _,fun _ _=>rfl⟩;have dp:=(hA.kill tp).fresh t8;have hl:(l.map Uv).length=l.length:=by simp
 generalize lj:l.map Uv=xs at g9
 cases g9 with
 |sl0 _ _ base cap pt=>
  obtain⟨_,rfl,rfl⟩:=pt tp rfl;have hl0:l=[]:=by simpa using lj
  subst hl0;refine (qrp Tryz.lays169 Tryz.Builder_Extra_169 (G.ob o).blk 0 0 none (.pointer none) .empty w w.drew bp rfl (Lib.run_unsafeString_none w.drew _ _ _ none)).mono ?_;rintro e w' ⟨rfl,rfl⟩
  exact⟨_,G,Sv [],_,rfl,.refl G,dp,.v _,rfl,rfl⟩
 |sl _ _ _ b off cap pub hp hw d5 hr pt rk=>
  subst lj;rw [hl] at pt bp;obtain⟨_,mg,_,hcur⟩:=pt tp rfl;obtain⟨hb,rfl,ng,nw,nc⟩:=hcur g1;obtain⟨hB,c2,vs,e1,e2,e3,e4⟩:=g2 mg;rw [hb] at e1 e2 hB
  have hcells:∀ j x,l[j]? = some x→w.drew.cell? ((⟨b,0,none⟩:Addr).add j)=some (.int .u8 x.toNat):=fun j x hx=>by
   obtain⟨c3,T3,fz3,k1,k2⟩:=hA.pub b pub hp;have k1':w.drew.heap[b]? = some (.cells c3 T3 fz3):=k1;have hj:j<(flat (l.map Uv)).length:=by rw [qg8];simpa using lt_of_getElem? hx
   have hy:pub[0+j]? = some (pub[0+j]'(by omega)):=List.getElem?_eq_getElem (by omega);have hrj:=hr j (Uv x) _ (by rw [qg8];simp [hx]) hy
   have:pub[0+j]'(by omega) = .int .u8 x.toNat:=by
    generalize pub[0+j]'(by omega)=y at hrj
    cases hrj;rfl
   rw [this] at hy;rw [Addr.add_lit];simp only [World.cell?,k1']
   simpa using k2 _ _ hy
  have d6:l.length≤c2.size:=by rw [e4,← ng];omega
  have e1':w.drew.heap[b]? = some (.cells c2 5 (0,0)):=e1;have hUS:=Lib.run_unsafeString_row (P:=E.P) w.drew 248 3 9 5 rfl (by kernel_rfl) b c2.size (by simp [World.shape?,e1']) l (by rintro rfl;exact mg rfl) d6 (by simp only [maxLen] at nw;omega) hcells;have hSD:(Builtin.unsafeSliceData_ #[192] 248 #[.slice (some ⟨b,0,none⟩) l.length cap]).run E.P w.drew = .ok (.pointer (some ⟨b,0,none⟩)) w.drew:=Lib.run_unsafeSliceData_row _ _ _ _ _ _ (by omega);refine (qrp Tryz.lays169 Tryz.Builder_Extra_169 (G.ob o).blk l.length cap (some ⟨b,0,none⟩) _ _ w _ bp hSD hUS).mono ?_;rintro e w' ⟨rfl,rfl⟩
  have hfz:∃ fz',(w.drew.freeze ⟨b,0,none⟩ l.length).heap[b]? = some (.cells c2 5 fz'):=by
   unfold World.freeze;rw [if_neg mg];simp [Array.getElem?_modify,e1']
  obtain⟨fz',hfz⟩:=hfz
  have p9:∀ k,k≠b→(w.drew.freeze ⟨b,0,none⟩ l.length).heap[k]? = w.drew.heap[k]?:=fun k hk=>by
   unfold World.freeze;rw [if_neg mg];simp [Array.getElem?_modify,Ne.symm hk]
  refine⟨_,G,Sv l,_,rfl,.refl G,dp.refroze e1' hfz p9 hB (by unfold World.freeze;rw [if_neg mg];simp) (by unfold World.freeze;rw [if_neg mg]) (by unfold World.freeze;rw [if_neg mg]) (by unfold World.freeze;rw [if_neg mg]) (fun k x hx hlv=>?_),.v _,rfl,rfl⟩;rcases getElem?_set' _ _ _ _ _ hx with⟨_,e⟩ | ⟨k1,k2⟩
  ·subst e;exact hlv.elim
  ·have:=hA.sep k tp x _ k1 k2 ht hlv mg
   rwa [hb] at this
theorem q6e (st loc loc':List AObj) (k kt ver:Nat) (q:AV) (l:List UInt8) (c:UInt8) (hk:loc[k]? = some (bldO ver q l (st.length+kt))) (ln:loc[kt]? = some (.tip l.length 1 5)) (hq:q = .v (.pointer none)∨q = .bx (st.length+k) ver 0)
  (d5:l.length+1≤140737488355328) (hl:loc'=(loc.set k (bldO ver (.bx (st.length+k) ver 0) (l++[c]) (st.length+kt))).set kt (.tip (l++[c]).length 1 5)) :
  qn E 148 [.bx (st.length+k) ver 0,Uv c] (st++loc) fun r st'=>r = .v .nilIface∧st'=st++loc':=by
 refine (zc8 (st.length+k) ver (st.length+kt) q l c (st++loc) (jh hk) (jh ln) hq d5).mono fun r st' ⟨h1,h2⟩=>⟨h1,?_⟩;rw [h2,xv,xv,hl,List.length_append];rfl
end Go.Proofs.YtihlchbgjdkmpaaGreatDoor
namespace Go.Proofs.YtihlchbgjdkmpaaGreatDoor
open Go Go.Av Go.RowKit Go.Proofs Go.Pl
theorem qhz (l:List UInt8) (c:UInt8) (st:List AObj) (hl:l.length<4294967281):qn E 110 [Sv l,Sv [c]] st fun r st'=>r = .tu [Sv (upto c l),Sv (past c l),Bv (decide (c∈l))]∧st'=st:=by
 have:=qrs l [c] st hl;rw [zdj] at this;exact this
@[reducible] def qdd (k : Nat) (text rest : List UInt8) : AV := .ag [Iv k, Iv ((text.length : Int) - rest.length), Sv (upto 10 rest), Bv (decide (10 ∈ rest))]
theorem zb9 (text:List UInt8) (o kb ver n:Nat) (I:Nat→List UInt8→List AObj→Prop) (D:List AObj→Prop) (st:List AObj) (ht:text.length<4294967281) (h0:I 0 text st)
  (hI:∀ k rest st',I k rest st'→st'.length=n∧st'[kb]? = some (.cells ver 9 [Sv text]))
  (hY:∀ k rest st' own,I k rest st'→rest≠[]→rest.length≤text.length→xk E o [qdd k text rest] (st'++[own]) fun b st2=>∃ st3,st2=st3++[own]∧(b=true→I (k+1) (past 10 rest) st3)∧(b=false→D st3)) :
  qn E 154 [.yd o,.bx kb ver 0] st fun r st'=>∃ st3 ext',st'=st3++ext'∧((∃ k,I k [] st3)∨D st3):=by
 refine qr Tryz.func154 rfl (Nat.le_of_ble_eq_true rfl) ?_;obtain⟨hn,hb⟩:=hI 0 text st h0;subst hn;repeat' (first|apply qm|apply q9|apply qe|apply qf|apply qh|(apply jy;exact rfl;exact rfl)|(apply z8;(iterate 11 exact rfl))|(apply yl;(iterate 3 exact rfl))|(apply yx;exact rfl;exact rfl;exact hb;exact rfl;exact rfl))
 refine v4 (fun (x:Nat×List UInt8) s=>match x with|(k,rest)=>∃ stk at' ta eb,I k rest stk∧k+rest.length≤text.length∧at'=(text.length:Int) - rest.length∧StA [(0,.yd o),(1,.bx kb ver 0),(3,.bx (st.length+0) 0 0),(4,Sv rest)] (stk++(.cells 0 206 [Iv k,Iv at',Sv ta,Bv eb]::[])) [] s) (fun x=>x.2.length) (0,text)
  ⟨st,0,[],false,h0,by simp,by simp,?_⟩ ?_
 ·exact vk ⟨rfl,rfl,rfl,rfl,trivial⟩
 rintro⟨k,rest⟩ _ ⟨stk,_,ta,eb,hi,d6,rfl,t,rfl⟩;obtain⟨hn,cx⟩:=hI k rest stk hi;repeat' (first|apply qm|apply q9|apply qe|apply qf|apply qj|apply qh|(apply zh;exact rfl;exact rfl)|(apply jv;(iterate 3 exact rfl))|(apply qc;exact rfl;apply cd_d <;> intro h)|(apply zk;(iterate 3 exact rfl))|apply qx|apply vc|(apply qk;exact Tryz.call110;exact qhz _ _ _ (by omega))|(apply qat;exact rfl;assumption;(iterate 10 exact rfl))|(apply qbj;exact rfl;assumption;(iterate 4 exact rfl)))
 ·refine qbi rfl ((hY k rest stk _ hi h (by omega)).mono ?_)
  rintro b _ ⟨st3,rfl,h1,h2⟩
  cases b
  ·skip
   repeat' (first|apply qf|(apply jb;exact rfl)|(apply qc;exact rfl;apply qkx;exact cRa)|apply qu)
   refine qo rfl (xl rfl) ⟨st3,_,rfl,.inr (h2 rfl)⟩
  ·have hi3:=h1 rfl
   obtain⟨hn3,mv⟩:=hI _ _ _ hi3;have hp:=km 10 rest;have hr0:0<rest.length:=List.length_pos_iff.2 h;repeat' (first|apply qm|apply qe|apply qf|apply qj|(apply jb;exact rfl)|(apply qc;exact rfl;apply qn9;exact cRa)|(apply wl;(iterate 3 exact rfl))|(apply z7;exact rfl;exact rfl;exact zn (by omega) (by omega))|(apply qa6;exact rfl;exact rfl;exact zn (by omega) (by omega))|(apply zk;(iterate 3 exact rfl))|apply qx|(apply yx;exact rfl;exact rfl;exact mv;exact rfl;exact rfl)|(apply qat;exact rfl;assumption;(iterate 10 exact rfl))|(apply qbj;exact rfl;assumption;(iterate 4 exact rfl)))
   exact⟨(k+1,past 10 rest),⟨st3,_,_,_,hi3,by omega,rfl,vk ⟨rfl,rfl,rfl,rfl,trivial⟩⟩,by simp only;omega⟩
 ·have hr:rest=[]:=Classical.not_not.1 h
  subst hr;exact qo rfl (xl rfl) ⟨stk,_,rfl,.inl ⟨k,hi⟩⟩
theorem qt1 (text:List UInt8) (st st':List AObj) (n:Nat) (hn:st.length=n) (d8:st++[.cells 0 9 [Sv text]]=st'):qn E 113 [Sv text] st fun r st1=>r = .fn (.func 154) [] [.bx n 0 0]∧st1=st':=by
 subst hn;subst d8;refine qr Tryz.func113 rfl (Nat.le_of_ble_eq_true rfl) ?_;repeat' (first|apply qm|apply qe|apply qf|apply qh|apply qgo|(apply qcq;(iterate 4 exact rfl))|apply qu)
 exact qo rfl (zi rfl) ⟨rfl,rfl⟩
theorem q3z (st loc loc':List AObj) (k kt ver:Nat) (q:AV) (l m:List UInt8) (hk:loc[k]? = some (bldO ver q l (st.length+kt))) (ln:loc[kt]? = some (.tip l.length 1 5)) (hq:q = .v (.pointer none)∨q = .bx (st.length+k) ver 0)
  (d5:l.length+m.length≤140737488355328) (hl:loc'=(loc.set k (bldO ver (.bx (st.length+k) ver 0) (l++m) (st.length+kt))).set kt (.tip (l++m).length 1 5)) :
  qn E 101 [.bx (st.length+k) ver 0,Sv m] (st++loc) fun r st'=>r = .tu [Iv m.length,.v .nilIface]∧st'=st++loc':=by
 refine (qxp (st.length+k) ver (st.length+kt) q l m (st++loc) (jh hk) (jh ln) hq d5).mono fun r st' ⟨h1,h2⟩=>⟨h1,?_⟩;rw [h2,xv,xv,hl,List.length_append]
theorem qox (st loc loc':List AObj) (k kt ver:Nat) (q:AV) (l:List UInt8) (hk:loc[k]? = some (bldO ver q l (st.length+kt))) (ln:loc[kt]? = some (.tip l.length 1 5)) (hl:loc'=loc.set kt .dead) :
  qn E 104 [.bx (st.length+k) ver 0] (st++loc) fun r st'=>r=Sv l∧st'=st++loc':=by
 refine (qul (st.length+k) ver (st.length+kt) q l (st++loc) (jh hk) (jh ln)).mono fun r st' ⟨h1,h2⟩=>⟨h1,?_⟩;rw [h2,xv,hl]
@[reducible] def dedL (st : List AObj) (by' text : List UInt8) (q : AV) (acc : List UInt8) (lp : AObj) : List AObj :=
 [.cells 0 9 [Sv by'],.cells 0 9 [Sv []],.cells 0 4 [Bv false],bldO 0 q acc (st.length+5),.cells 0 9 [Sv text],.tip acc.length 1 5,.dfr,lp]
theorem qxz (text by':List UInt8) (st:List AObj) (hl:text.length<4294967281):qn E 205 [Sv text,Sv by'] st fun r st'=>r = .tu [Sv (vd by' text).1,Bv (vd by' text).2]∧st'=st:=by
 refine zb (qvt _ _) (qr Tryz.func205 rfl (Nat.le_of_ble_eq_true rfl) ?_);repeat' (first|apply qm|apply qe|apply qf|apply qj|(apply jy;exact rfl;exact rfl)|(apply qcq;(iterate 4 exact rfl)))
 refine qk Tryz.call113 (qt1 text _ (st++[.cells 0 9 [Sv by'],.cells 0 9 [Sv []],.cells 0 4 [Bv false],.cells 0 194 [.v (.pointer none),zj],.cells 0 9 [Sv text]]) (st.length+4) ?_ ?_) ?_
 ·show (st++[_,_,_,_]).length=_
  simp
 ·show (st++[_,_,_,_])++[_]=_
  rw [List.append_assoc];rfl
 repeat' (first|apply q9|apply qf)
 refine qow (o:=st.length+3) (j:=1) (sz:=1) (T':=5) (jh rfl) rfl ?_
 refine qec [(3,.bx (st.length+0) 0 0),(4,.bx (st.length+1) 0 0),(5,.bx (st.length+2) 0 0),(6,.bx (st.length+3) 0 0),(11,.fn (.func 154) [] [.bx (st.length+4) 0 0])]
  (st++[.cells 0 9 [Sv by'],.cells 0 9 [Sv []],.cells 0 4 [Bv false],bldO 0 (.v (.pointer none)) [] (st.length+5),.cells 0 9 [Sv text],.tip 0 1 5]) [] ⟨rfl,rfl,rfl,rfl,rfl,trivial⟩ ?_ rfl (fun t=>?_)
 ·show (st++[_,_,_,_,_]).set (st.length+3) (.cells 0 194 [_,.sl 1 [] (some (st++[_,_,_,_,_]).length)])++[_]=_
  rw [xv,List.append_assoc];simp
 refine qg3 (st:=st) (loc:=[.cells 0 9 [Sv by'],.cells 0 9 [Sv []],.cells 0 4 [Bv false],bldO 0 (.v (.pointer none)) [] (st.length+5),.cells 0 9 [Sv text],.tip 0 1 5]) rfl rfl Tryz.call154 fun F hF=>?_
 refine qn.mono (zb9 text (st.length+7) (st.length+4) 0 (st.length+8)
  (fun _ rest st'=>∃ q acc don,(q = .v (.pointer none)∨q = .bx (st.length+3) 0 0)∧zl text=don++zl rest∧(∀ x∈don,by' <+: x.1)∧acc=don.flatMap (fun x=>x.1.drop by'.length++x5 x.2)∧acc.length+rest.length≤text.length∧st'=st++dedL st by' text q acc (F .ready none))
  (fun st'=>(¬ ∀ x∈zl text,by' <+: x.1)∧∃ q acc,st'=st++dedL st by' text q acc (F .done (some .ret)))
  (st++dedL st by' text (.v (.pointer none)) [] (F .ready none)) hl ⟨_,[],[],.inl rfl,rfl,by simp,rfl,by simp,rfl⟩ ?_ ?_) ?_
 ·rintro k rest _ ⟨q,acc,don,hq,h1,h2,h3,h4,rfl⟩
  exact⟨by simp,jh rfl⟩
 ·rintro k rest _ own ⟨q,acc,don,hq,h1,h2,h3,h4,rfl⟩ b9 d6
  refine q0w ?_;rw [List.append_assoc];refine qkr hF (jh rfl) rfl fun l=>?_;repeat' (first|apply qe|apply qf|(apply jy;exact rfl;exact rfl)|(apply z8;(iterate 11 exact rfl)))
  refine⟨jh rfl,rfl,?_⟩
  refine qec [(3,.bx (st.length+0) 0 0),(4,.bx (st.length+1) 0 0),(5,.bx (st.length+2) 0 0),(6,.bx (st.length+3) 0 0),(7,.bx (st.length+9) 0 0)]
   (st++(dedL st by' text q acc (F .busy none)++[own,.cells 0 206 (qdd k text rest).cells])) [] ⟨rfl,rfl,rfl,rfl,rfl,trivial⟩ ?_ rfl (fun t=>?_)
  ·show (st++(dedL st by' text q acc (F .ready none)++[own,_])).set (st.length+7) _=_
   rw [xv];rfl
  have p6:=qd0 (upto 10 rest) by';have cn:=vb 10 rest;have pk:(upto 10 rest,decide (10∈rest))∈zl text:=by rw [h1,v8 b9];simp
  have gj:=v8 b9;have fc:=km 10 rest;have d9:10∈rest→(upto 10 rest).length<rest.length:=qdo;repeat' (first|apply qm|apply q9|apply qe|apply qf|apply qj|apply qh|(apply zh;exact rfl;exact rfl)|(apply jb;exact rfl)|(apply qc;exact rfl;apply cd_n <;> intro h)|(apply qc;exact rfl;apply cd_d <;> intro h)|(apply zk;(iterate 3 exact rfl))|(apply j5;(iterate 5 exact rfl))|(apply z8;(iterate 11 exact rfl))|apply qx|apply qu|(apply qk;exact Tryz.call219;exact qdr _ _ _)|(refine qk Tryz.call101 (q3z st _ _ 3 5 0 _ _ _ rfl rfl ?_ ?_ rfl) ?_;(first|exact hq|exact .inr rfl);(first|omega|(simp;omega))))
  ·have sd:¬ ∀ x∈zl text,by' <+: x.1:=fun s6=>by
    have:=(xi _ _).2 (s6 _ pk);simp_all
   refine⟨jh rfl,st++(dedL st by' text q acc (F .done (some .ret))++[own]),[.cells 0 206 (qdd k text rest).cells],?_,?_,st++dedL st by' text q acc (F .done (some .ret)),(List.append_assoc _ _ _).symm,nofun,fun _=>⟨sd,q,acc,rfl⟩⟩
   ·show (st++_).set (st.length+7) _=_
    rw [xv,List.append_assoc st];rfl
   ·exact qi9 (.same _ (.same _ (.same _ (.same _ (.same _ (.same _ (.same _ (q4u hF (qhb _ _))))))))) st
  all_goals
   have gz:by' <+: upto 10 rest:=(xi _ _).1 (by simp_all);have htp:=qcc gz
  ·refine⟨jh rfl,st++(dedL st by' text (.bx (st.length+3) 0 0) (acc++Lib.trimPrefix (upto 10 rest) by'++[10]) (F .ready none)++[own]),[.cells 0 206 (qdd k text rest).cells],?_,?_,
    st++dedL st by' text (.bx (st.length+3) 0 0) (acc++Lib.trimPrefix (upto 10 rest) by'++[10]) (F .ready none),(List.append_assoc _ _ _).symm,fun _=>⟨_,_,don++[(upto 10 rest,true)],.inr rfl,?_,?_,?_,?_,rfl⟩,nofun⟩
   ·show (st++_).set (st.length+7) _=_
    rw [xv,List.append_assoc st];rfl
   ·refine qi9 (.same _ (.same _ (.same _ (.cut (qo0 ?_) (.same _ (.cut qus (.same _ (q4u hF (qhb _ _))))))))) st
    intro x hx;simp only [List.mem_cons,List.not_mem_nil,or_false] at hx;rcases hx with rfl|rfl
    ·exact q6v (by simp)
    ·exact qut (by simp)
   ·rw [h1,gj];simp_all
   ·intro x hx
    rcases List.mem_append.1 hx with hx|hx
    ·exact h2 x hx
    ·simp at hx;subst hx;exact gz
   ·rw [h3,htp];simp [x5]
   ·have:=d9 (by assumption)
    simp;omega
  ·refine⟨jh rfl,st++(dedL st by' text (.bx (st.length+3) 0 0) (acc++Lib.trimPrefix (upto 10 rest) by') (F .ready none)++[own]),[.cells 0 206 (qdd k text rest).cells],?_,?_,
    st++dedL st by' text (.bx (st.length+3) 0 0) (acc++Lib.trimPrefix (upto 10 rest) by') (F .ready none),(List.append_assoc _ _ _).symm,fun _=>⟨_,_,don++[(upto 10 rest,false)],.inr rfl,?_,?_,?_,?_,rfl⟩,nofun⟩
   ·show (st++_).set (st.length+7) _=_
    rw [xv,List.append_assoc st];rfl
   ·refine qi9 (.same _ (.same _ (.same _ (.cut (qo0 ?_) (.same _ (.cut qus (.same _ (q4u hF (qhb _ _))))))))) st
    intro x hx;simp only [List.mem_cons,List.not_mem_nil,or_false] at hx;rcases hx with rfl|rfl
    ·exact q6v (by simp)
    ·exact qut (by simp)
   ·rw [h1,gj];simp_all
   ·intro x hx
    rcases List.mem_append.1 hx with hx|hx
    ·exact h2 x hx
    ·simp at hx;subst hx;exact gz
   ·rw [h3,htp];simp [x5]
   ·simp
    omega
 ·rintro r st' ⟨st3,ext,rfl,⟨k,q,acc,don,hq,h1,h2,h3,h4,rfl⟩ | ⟨sd,q,acc,rfl⟩⟩
  ·refine⟨.ready,none,nofun,by rw [List.append_assoc];exact jh rfl,?_⟩
   refine qec [(4,.bx (st.length+1) 0 0),(5,.bx (st.length+2) 0 0),(6,.bx (st.length+3) 0 0)] (st++(dedL st by' text q acc .dead++ext)) [st.length+6] ⟨rfl,rfl,rfl,trivial⟩ ?_ rfl (fun t=>?_)
   ·show ((st++_)++ext).set (st.length+7) _=_
    rw [List.append_assoc,xv];rfl
   repeat' (first|apply qm|apply qe|apply qf|(apply z8;(iterate 11 exact rfl))|apply qu|(refine qk Tryz.call104 (qox st _ _ 3 5 0 _ _ rfl rfl rfl) ?_))
   refine qmc rfl rfl rfl (qo rfl (qj6 rfl rfl rfl rfl rfl rfl rfl rfl rfl rfl) ⟨zcv (?_:_=_),_,rfl⟩);rw [vi,List.append_nil] at h1;unfold vd;rw [h1,if_pos h2,h3]
  ·refine⟨.done,some .ret,nofun,by rw [List.append_assoc];exact jh rfl,?_⟩
   refine qec [(4,.bx (st.length+1) 0 0),(5,.bx (st.length+2) 0 0),(6,.bx (st.length+3) 0 0)] (st++(dedL st by' text q acc .dead++ext)) [st.length+6] ⟨rfl,rfl,rfl,trivial⟩ ?_ rfl (fun t=>?_)
   ·show ((st++_)++ext).set (st.length+7) _=_
    rw [List.append_assoc,xv];rfl
   repeat' (first|apply qu)
   refine qmc rfl rfl rfl (qo rfl (qj6 rfl rfl rfl rfl rfl rfl rfl rfl rfl rfl) ⟨zcv (?_:_=_),_,rfl⟩);unfold vd;rw [if_neg sd]
theorem qr9 (l:List UInt8) (st:List AObj) (hl:l.length<4294967281):qn E 147 [Sv l] st fun r st'=>r=Bv (vd [32] l).2∧st'=st:=by
 refine zb (qt _) (qr Tryz.func147 rfl (Nat.le_of_ble_eq_true rfl) ?_);repeat' (first|apply qm|apply qe|apply qf|apply qj|apply qh|(apply zh;exact rfl;exact rfl)|apply qu|(apply qk;exact Tryz.call205;exact qxz _ _ _ hl))
 exact qo rfl (zi rfl) ⟨rfl,_,rfl⟩
theorem q7e (l:List UInt8) (st:List AObj) (hl:l.length<4294967281):qn E 105 [Sv l] st fun r st'=>r=Bv (decide (yv l))∧st'=st:=by
 refine zb (qt _) (qr Tryz.func105 rfl (Nat.le_of_ble_eq_true rfl) ?_);repeat' (first|apply qm|apply qe|apply qf|apply qj|apply qh|(apply qy;(iterate 3 exact rfl))|(apply jb;exact rfl)|(apply ze;(iterate 4 exact rfl))|(apply qcw;exact cAo)|(apply qcx;exact cAo)|(apply qbs;exact cRa)|(apply xx <;> intro h)|(apply qp;exact rfl;apply qcm;exact cAo)|(apply qp;exact rfl;apply qdi;exact cAo)|(apply qp;exact rfl;apply pk_t;exact cRa)|(apply qc;exact rfl;apply cd_n <;> intro h)|(apply qc;exact rfl;apply cd_t;exact cRa)|(apply wl;(iterate 3 exact rfl))|apply qx|apply qu|(apply qk;exact Tryz.call146;exact qo7 _ _ _ (by omega))|(apply qk;exact Tryz.call147;exact qr9 _ _ hl))
 all_goals refine qo rfl (zi rfl) ⟨congrArg Bv (?_:_=_),_,rfl⟩
 ·exact (decide_eq_false fun ⟨a,b,c,d⟩=>by omega).symm
 ·exact (decide_eq_false fun ⟨a,b,c,d⟩=>by omega).symm
 ·exact (decide_eq_false fun ⟨a,b,c,d⟩=>by simp_all [qgr]).symm
 ·have e:yv l↔(vd [32] l).2=true:=⟨fun h=>h.2.2.2,fun h=>⟨by omega,by omega,by simp_all [qgr],h⟩⟩
  simp [e]
theorem q7i (n:Nat) (l:List UInt8) (st:List AObj) (hn:n≤9223372036854775807) (hl:l.length<4294967281):qn E 106 [Iv n,Sv l] st fun r st'=>r=Sv (qi7 n l)∧st'=st:=by
 refine zb (qt _) (qr Tryz.func106 rfl (Nat.le_of_ble_eq_true rfl) ?_);have h1:=qia n hn;repeat' (first|apply qm|apply qe|apply qf|apply qj|apply qh|(apply vh;exact rfl;exact rfl;exact cOs)|apply qu|(apply qk;exact Tryz.call54;exact qm9 _ _ (by omega) (by omega)))
 exact qo rfl (zi rfl) ⟨rfl,_,rfl⟩
theorem q0b (n:Nat) (st:List AObj) (hn:n≤9223372036854775807):qn E 109 [Iv n] st fun r st'=>r=Sv (qdz n)∧st'=st:=by
 refine zb (qt _) (qr Tryz.func109 rfl (Nat.le_of_ble_eq_true rfl) ?_);have h1:=qia n hn;repeat' (first|apply qm|apply qe|apply qf|apply qj|apply qh|(apply vh;exact rfl;exact rfl;exact cOs)|apply qu|(apply qk;exact Tryz.call54;exact qm9 _ _ (by omega) (by omega)))
 exact qo rfl (zi rfl) ⟨rfl,_,rfl⟩
theorem qy9 (l:List UInt8) (st:List AObj) (hl:l.length<4294967281):qn E 220 [Sv l] st fun r st'=>r=Iv (vm l)∧st'=st:=by
 refine zb (qt _) (qr Tryz.func220 rfl (Nat.le_of_ble_eq_true rfl) ?_);repeat' (first|apply qm|apply qe|apply qf|apply qj|apply qh)
 refine qd9 Tryz.call111 ((qmq l _ (by omega)).mono ?_);rintro _ _ ⟨rfl,n,x,rfl,hx⟩;rcases x with _ | ⟨t',y⟩
 ·simp only at hx
  have hb:=atoiAll_bounds hx;repeat' (first|apply qm|apply qe|apply qf|apply qj|apply qh|(apply zh;exact rfl;exact rfl)|(apply qy;(iterate 3 exact rfl))|(apply jv;(iterate 3 exact rfl))|(apply ze;(iterate 4 exact rfl))|(apply qcw;exact cAo)|(apply qcx;exact cAo)|(apply qfj;exact cRa)|(apply qbs;exact cRa)|(apply xx <;> intro h)|(apply qp;exact rfl;apply qcm;exact cAo)|(apply qp;exact rfl;apply qdi;exact cAo)|(apply qp;exact rfl;apply pk_t;exact cRa)|(apply qp;exact rfl;apply pk_f;exact cRa)|(apply qc;exact rfl;apply cd_t;exact cRa)|(apply qc;exact rfl;apply cd_d <;> intro h)|(apply v7;exact rfl;exact rfl)|apply qx|apply qu|(apply qk;exact Tryz.call54;exact qm9 _ _ (by omega) (by omega)))
  all_goals refine qo rfl (zi rfl) ⟨congrArg Iv (?_:_=_),_,rfl⟩
  all_goals rw [qsk hx]
  ·rw [if_neg (by simp_all)]
  ·rw [if_neg (by omega)]
  ·rw [if_neg (by omega)]
  ·rw [if_pos ⟨Classical.not_not.1 (by assumption),by omega,by omega⟩]
 ·simp only at hx
  repeat' (first|apply qm|apply qe|apply qf|apply qj|apply qh|(apply zh;exact rfl;exact rfl)|(apply ze;(iterate 4 exact rfl))|(apply qbs;exact cRa)|(apply qp;exact rfl;apply pk_t;exact cRa)|(apply qc;exact rfl;apply cd_t;exact cRa)|(apply wr;exact rfl;exact rfl)|apply qu)
  refine qo rfl (zi rfl) ⟨congrArg Iv (?_:_=_),_,rfl⟩;rw [qy8 hx];rfl
theorem zbh (l:List UInt8) (st:List AObj) (hl:l.length<4294967281):qn E 162 [Sv l] st fun r st'=>r = .tu [Iv (zz l).1,Sv (zz l).2.1,Bv (zz l).2.2]∧st'=st:=by
 refine zb (qgi _ _ _) (qr Tryz.func162 rfl (Nat.le_of_ble_eq_true rfl) ?_);have p6:=qd0 l zu;have cn:=vb 32 (Lib.trimPrefix l zu);have mv:=km 32 (Lib.trimPrefix l zu);repeat' (first|apply qm|apply qe|apply qf|apply qj|apply qh|(apply zh;exact rfl;exact rfl)|(apply qy;(iterate 3 exact rfl))|(apply jv;(iterate 3 exact rfl))|(apply ze;(iterate 4 exact rfl))|(apply qb2;exact cAo)|(apply qee;exact cAo)|(apply qb3;exact cRa)|(apply qbr;exact cRa)|(apply xx <;> intro h)|(apply qh9 <;> intro h)|(apply qp;exact rfl;apply qcm;exact cAo)|(apply qp;exact rfl;apply qdi;exact cAo)|(apply qp;exact rfl;apply pk_t;exact cRa)|(apply qp;exact rfl;apply pk_f;exact cRa)|(apply wl;(iterate 3 exact rfl))|apply qu|(apply qk;exact Tryz.call219;exact qdr l zu _)|(apply qk;exact Tryz.call110;exact qhz (Lib.trimPrefix l zu) 32 _ (by omega))|(apply qk;exact Tryz.call220;exact qy9 (upto 32 (Lib.trimPrefix l zu)) _ (by omega))|(apply qk;exact Tryz.call215;exact qt8 _ _ _ (by omega) rfl rfl))
 all_goals refine qo rfl (qet rfl) ⟨zgl (?_:_=_),_,rfl⟩
 all_goals simp only [zz,Prod.mk.injEq,true_and]
 all_goals clear p6 cn mv
 all_goals have c3:(2:Int)≤↑(vm (upto 32 (Lib.trimPrefix l zu)))↔2≤vm (upto 32 (Lib.trimPrefix l zu)):=by omega
 all_goals have c4:(↑(past 32 (Lib.trimPrefix l zu)).length:Int)=8↔(past 32 (Lib.trimPrefix l zu)).length=8:=by omega
 all_goals simp only [c3,c4,qgq,qv4] at *
 all_goals clear c3 c4
 all_goals simp_all
 all_goals first|(intros;omega)|skip
theorem q77 (l:List UInt8) (st:List AObj) (hl:l.length<4294967281):qn E 161 [Sv l] st fun r st'=>r=Bv (qd3 l)∧st'=st:=by
 refine zb (qt _) (qr Tryz.func161 rfl (Nat.le_of_ble_eq_true rfl) ?_);have p6:=qd0 l zu;have cn:=vb 32 (Lib.trimPrefix l zu);have mv:=km 32 (Lib.trimPrefix l zu);repeat' (first|apply qm|apply q9|apply qe|apply qf|apply qj|apply qh|(apply zh;exact rfl;exact rfl)|(apply qy;(iterate 3 exact rfl))|(apply jv;(iterate 3 exact rfl))|(apply jb;exact rfl)|(apply ze;(iterate 4 exact rfl))|(apply qb2;exact cAo)|(apply qee;exact cAo)|(apply xx <;> intro h)|(apply qp;exact rfl;apply qcm;exact cAo)|(apply qp;exact rfl;apply qdi;exact cAo)|(apply qc;exact rfl;apply xh;exact cAo)|(apply qc;exact rfl;apply cd_n <;> intro h)|(apply qc;exact rfl;apply cd_f;exact cRa)|(apply qc;exact rfl;apply cd_d <;> intro h)|(apply wl;(iterate 3 exact rfl))|apply qx|apply qu|(apply qk;exact Tryz.call219;exact qdr l zu _)|(apply qk;exact Tryz.call155;exact qdu _ _ _)|(apply qk;exact Tryz.call110;exact qhz (Lib.trimPrefix l zu) 32 _ (by omega))|(apply qk;exact Tryz.call220;exact qy9 (upto 32 (Lib.trimPrefix l zu)) _ (by omega))|(apply qk;exact Tryz.call215;exact qt8 _ _ _ (by omega) rfl rfl))
 all_goals refine qo rfl (zi rfl) ⟨congrArg Bv (?_:_=_),_,rfl⟩
 all_goals clear p6 cn mv
 all_goals by_cases hp:zu <+: l
 all_goals have c1:(↑(vm (upto 32 (Lib.trimPrefix l zu))):Int)<2↔vm (upto 32 (Lib.trimPrefix l zu))<2:=by omega
 all_goals have c2:(↑(vm (upto 32 (Lib.trimPrefix l zu))):Int)=0↔vm (upto 32 (Lib.trimPrefix l zu))=0:=by omega
 all_goals have c4:(↑(past 32 (Lib.trimPrefix l zu)).length:Int)≤8↔(past 32 (Lib.trimPrefix l zu)).length≤8:=by omega
 all_goals simp only [c1,c2,c4,qgq,qv4] at *
 all_goals clear c1 c2 c4
 all_goals try (have e:Lib.trimPrefix l zu=l.drop 7:=qcc hp;simp only [e] at *)
 all_goals unfold qd3
 all_goals first|rw [if_pos hp]|rw [if_neg hp]
 all_goals simp_all
 all_goals first|exact Iff.rfl|(intros;omega)|skip
theorem zbk (l:List UInt8) (n:Int) (st:List AObj) (hl:l.length<4294967281):qn E 163 [Sv l,Iv n] st fun r st'=>r=Iv (qdh l n)∧st'=st:=by
 refine zb (qt _) (qr Tryz.func163 rfl (Nat.le_of_ble_eq_true rfl) ?_);repeat' (first|apply qm|apply qe|apply qf|apply qj|apply qh|(apply qy;(iterate 3 exact rfl))|(apply jv;(iterate 3 exact rfl))|(apply jb;exact rfl)|(apply ze;(iterate 4 exact rfl))|(apply qcw;exact cAo)|(apply qcx;exact cAo)|(apply qd1;(iterate 4 exact rfl))|(apply qax;exact cRa)|(apply qc9;exact cRa)|(apply qk5 <;> intro h)|(apply qb3;exact cRa)|(apply qbr;exact cRa)|(apply xx <;> intro h)|(apply qh9 <;> intro h)|(apply qp;exact rfl;apply qcm;exact cAo)|(apply qp;exact rfl;apply qdi;exact cAo)|(apply qp;exact rfl;apply qlr;exact cRa)|(apply qp;exact rfl;apply qf2;exact cRa)|(apply qp;exact rfl;apply pk_t;exact cRa)|(apply qp;exact rfl;apply pk_f;exact cRa)|(apply qc;exact rfl;apply cd_t;exact cRa)|(apply qc;exact rfl;apply cd_f;exact cRa)|(apply qc;exact rfl;apply cd_d <;> intro h)|apply qx|apply qu|(apply qk;exact Tryz.call146;exact qo7 _ _ _ (by omega))|(apply qk;exact Tryz.call147;exact qr9 _ _ hl))
 all_goals refine qo rfl (zi rfl) ⟨congrArg Iv (?_:_=_),_,rfl⟩
 all_goals simp_all [qdh,qgr]
theorem za4 (n:Int) (st:List AObj):qn E 165 [Iv n] st fun r st'=>r=Iv (qfm n)∧st'=st:=by
 refine zb (qt _) (qr Tryz.func165 rfl (Nat.le_of_ble_eq_true rfl) ?_);by_cases hr:n<2∨50000<n
 ·skip
  repeat' (first|apply qm|apply qe|apply qf|apply qj|apply qh|(apply qy;(iterate 3 exact rfl))|(apply ze;(iterate 4 exact rfl))|(apply qcw;exact cAo)|(apply qcx;exact cAo)|(apply xx <;> intro h)|(apply qp;exact rfl;apply qcm;exact cAo)|(apply qp;exact rfl;apply qdi;exact cAo)|(apply qc;exact rfl;apply wg;exact cAo)|(apply qc;exact rfl;apply cd_t;exact cRa)|apply qu)
  all_goals refine qo rfl (zi rfl) ⟨congrArg Iv (?_:_=_),_,rfl⟩
  all_goals first|exact (if_pos hr).symm|omega
 ·obtain⟨k,rfl⟩:=Int.eq_ofNat_of_zero_le (by omega:0≤n)
  have h1:=qia k (by omega);have h2:=qez k (Lib.repeatL [48] 8);have h3:=qe9 k;have h4:(Lib.repeatL [48] 8).length=8:=by decide
  repeat' (first|apply qm|apply qe|apply qf|apply qj|apply qh|(apply qy;(iterate 3 exact rfl))|(apply ze;(iterate 4 exact rfl))|(apply qcw;exact cAo)|(apply qp;exact rfl;apply qdi;exact cAo)|(apply qc;exact rfl;apply xh;exact cAo)|(apply wl;(iterate 3 exact rfl))|(apply z7;exact rfl;exact rfl;exact zn (by omega) (by omega))|apply qx|apply qu|(apply qk;exact Tryz.call222;exact zbx [48] 8 _ (by omega) (by decide))|(apply qk;exact Tryz.call106;exact q7i k _ _ (by omega) (by decide))|(apply qk;exact Tryz.call109;exact q0b k _ (by omega)))
  refine qo rfl (zi rfl) ⟨congrArg Iv (?_:_=_),_,rfl⟩;unfold qfm;rw [if_neg hr,← rep8];rfl
def qmz (x:BitVec 32):BitVec 32:=if x &&& 2147483648#32≠0#32 then (x <<< 1) ^^^ 79764919#32 else x <<< 1
def qoa:Nat→BitVec 32→BitVec 32
 | 0,x=>x
 |n+1,x=>qmz (qoa n x)
theorem zgz (x:BitVec 32) (st:List AObj):qn E 243 [Wv x] st fun r st'=>r=Wv (qoa 4 (x <<< 28))∧st'=st:=by
 refine zb (qt _) (qr Tryz.func243 rfl (Nat.le_of_ble_eq_true rfl) ?_);repeat' (first|apply qm|apply q9|apply qe|apply qf|apply qj|apply qh|(apply qer;(iterate 3 exact rfl)))
 refine v4 (fun (k:Nat) s=>k≤4∧StA [(3,Wv (qoa k (x <<< 28))),(6,Iv k)] (st++[]) [] s) (fun k=>4 - k) 0 ⟨by omega,vk ⟨rfl,rfl,trivial⟩⟩ ?_;rintro k _ ⟨hk,t,rfl⟩;repeat' (first|apply qm|apply q9|apply qe|apply qf|apply qj|apply qh|(apply qy;(iterate 3 exact rfl))|(apply qc;exact rfl;apply cd_d <;> intro h)|(apply z7;exact rfl;exact rfl;exact zn (by omega) (by omega))|(apply qg0;exact rfl;exact rfl;(first|exact va _|exact rfl);first|exact va _|exact rfl)|(apply qkn;exact rfl;exact rfl;(first|exact va _|exact rfl);first|exact va _|exact rfl)|(apply qer;(iterate 3 exact rfl))|apply qx|apply vc|apply qu)
 ·refine⟨k+1,⟨by omega,vk ⟨?_,rfl,trivial⟩⟩,by omega⟩
  refine congrArg Wv (?_:_=qmz _);unfold qmz;rw [if_pos (fun e=>by rename_i h;exact h ((qs6 _).2 e))];rfl
 ·refine⟨k+1,⟨by omega,vk ⟨?_,rfl,trivial⟩⟩,by omega⟩
  refine congrArg Wv (?_:_=qmz _);unfold qmz;rw [if_neg (fun e=>by rename_i h;exact h (fun h'=>e ((qs6 _).1 h')))]
 ·have e:k=4:=by omega
  subst e;exact qo rfl (zi rfl) ⟨rfl,_,rfl⟩
def rowT (i:Nat):BitVec 32:=qoa 4 (BitVec.ofNat 32 i <<< 28)
def tabA (k:Nat):List AV:=(List.range 16).map fun i=>if i<k then Wv (rowT i) else .v (.int .u32 0)
theorem q1t (k:Nat):(tabA k).length=16:=by simp [tabA]
theorem q88 {k:Nat} (h:k<16):(tabA k).set k (Wv (rowT k))=tabA (k+1):=by
 apply List.ext_getElem
 ·simp [tabA]
 ·intro i h1 h2
  simp only [tabA,List.length_map,List.length_range] at h2;rw [List.getElem_set];by_cases e:k=i
  ·subst e
   simp [tabA]
  ·rw [if_neg e]
   simp only [tabA,List.getElem_map,List.getElem_range];by_cases hi:i<k
   ·rw [if_pos hi,if_pos (by omega)]
   ·rw [if_neg hi,if_neg (by omega)]
theorem zcd {i:Nat} (h:i<16):(tabA 16)[i]? = some (Wv (rowT i)):=by
 simp [tabA,h]
theorem zgg (st:List AObj):qn E 206 [] st fun r st'=>r = .ag (tabA 16)∧st'=st:=by
 refine zb (qoh (fun x hx=>?_)) (qr Tryz.func206 rfl (Nat.le_of_ble_eq_true rfl) ?_)
 ·simp only [tabA,List.mem_map] at hx
  obtain⟨i,_,rfl⟩:=hx;split <;> exact qt _
 repeat' (first|apply qm|apply q9|apply qe|apply qf|apply qj|(apply jy;exact rfl;exact rfl))
 refine v4 (fun (k:Nat) s=>k≤16∧StA [(0,.bx (st.length+0) 0 0),(2,Iv k)] (st++[.cells 0 290 (tabA k)]) [] s) (fun k=>16 - k) 0 ⟨by omega,qbo ⟨rfl,rfl,trivial⟩ (by show st++[AObj.cells 0 _ _]=_;rfl)⟩ ?_;rintro k _ ⟨hk,t,rfl⟩;have d5:=q1t k;repeat' (first|apply qm|apply q9|apply qe|apply qf|apply qj|apply qh|(apply qy;(iterate 3 exact rfl))|(apply qc;exact rfl;apply cd_d <;> intro h)|(apply z7;exact rfl;exact rfl;exact zn (by omega) (by omega))|(apply j5;(iterate 5 exact rfl))|(apply qck;(iterate 4 exact rfl);first|assumption|omega|decide)|apply qx|apply vc|(apply qk;exact Tryz.call243;exact zgz _ _)|(apply q3r;(iterate 3 exact rfl);omega)|(apply qtb;(iterate 9 exact rfl);(show 0+k * 1+1≤_;omega);exact rfl))
 ·refine⟨k+1,⟨by omega,qbo ⟨rfl,rfl,trivial⟩ ?_⟩,by omega⟩
  show st++[AObj.cells 0 _ (zr (tabA k) (0+k * 1) [Wv (rowT k)])]=_
  rw [Nat.zero_add,Nat.mul_one,q5j (by omega),q88 (by omega)]
 ·have e:k=16:=by omega
  subst e;repeat' (first|apply qf|(apply z8;(iterate 11 exact rfl))|apply qu)
  exact qo rfl (qtc rfl rfl rfl rfl rfl rfl) ⟨rfl,_,rfl⟩
def crcN (x:BitVec 32) (n:Nat):BitVec 32:=(x <<< 4) ^^^ rowT ((x >>> 28) ^^^ BitVec.ofNat 32 n).toNat
def crcP (x:BitVec 32) (c:UInt8):BitVec 32:=crcN (crcN x (c.toNat / 16)) (c.toNat % 16)
def addP (s:BitVec 32) (l:List UInt8):BitVec 32:= ~~~ (l.foldl crcP (~~~ s))
def qwx (y:BitVec 32) (c:UInt8):Nat→BitVec 32
 | 0=>y
 | 1=>crcN y (c.toNat / 16)
 | _=>crcP y c
theorem q7v (x:BitVec 32) {n:Nat} (h:n<16):((x >>> 28) ^^^ BitVec.ofNat 32 n).toNat<16:=by
 rw [BitVec.toNat_xor];refine Nat.xor_lt_two_pow (n:=4) ?_ ?_
 ·rw [BitVec.toNat_ushiftRight,Nat.shiftRight_eq_div_pow]
  have:=x.isLt;omega
 ·rw [BitVec.toNat_ofNat]
  omega
theorem q0a {n:Nat} (h:n<16):jo 1 false (0+n * 1) (tabA 16)=some (Wv (rowT n)):=by
 rw [Nat.zero_add,Nat.mul_one];exact zcd h
theorem zgt (x:BitVec 32) (l:List UInt8) (st:List AObj) (hl:l.length<4294967281):qn E 149 [Wv x,Sv l] st fun r st'=>r=Wv (addP x l)∧st'=st:=by
 refine zb (qt _) (qr Tryz.func149 rfl (Nat.le_of_ble_eq_true rfl) ?_);repeat' (first|apply qm|apply q9|apply qe|apply qf|apply qj|apply qh|(apply wl;(iterate 3 exact rfl))|(apply jy;exact rfl;exact rfl)|(apply z8;(iterate 11 exact rfl))|(apply qhx;exact rfl)|(apply qk;exact Tryz.call206;exact zgg _))
 refine v4 (fun (k:Nat) s=>k≤l.length∧StA [(1,Sv l),(5,.bx (st.length+0) 0 0),(6,Wv ((l.take k).foldl crcP (~~~ x))),(14,Iv l.length),(15,Iv k)] (st++[.cells 0 290 (tabA 16)]) [] s) (fun k=>l.length - k) 0 ⟨by omega,qbo ⟨rfl,rfl,rfl,rfl,rfl,trivial⟩ (by show st++[AObj.cells 0 _ _]=_;rfl)⟩ ?_;rintro k _ ⟨hk,t,rfl⟩;generalize hx:(l.take k).foldl crcP (~~~ x)=y;have hc:=UInt8.toNat_lt (l.getD k 0);repeat' (first|apply qm|apply q9|apply qe|apply qf|apply qj|apply qh|(apply qy;(iterate 3 exact rfl))|(apply qc;exact rfl;apply cd_d <;> intro h)|(apply qhx;exact rfl)|(apply qkq;exact rfl;kernel_rfl)|apply qj5|(apply q55;(iterate 3 exact rfl);exact cAs)|(apply q12;exact rfl;exact rfl)|(apply qxk;exact rfl;exact rfl)|(apply qxl;(iterate 3 exact rfl);omega)|(apply qui;(iterate 3 exact rfl))|apply qhn|apply qx|apply vc|apply qu)
 ·generalize rm:l.getD k 0=c at *
  refine v4 (fun (j:Nat) s=>j≤2∧StA [(1,Sv l),(5,.bx (st.length+0) 0 0),(6,Wv (qwx y c j)),(14,Iv l.length),(15,Iv k),(28,.ag [Wv (BitVec.ofNat 32 (c.toNat / 16)),Wv (BitVec.ofNat 32 (c.toNat % 16))]),(29,Iv j)] (st++[.cells 0 290 (tabA 16)]) [] s) (fun j=>2 - j) 0 ⟨by omega,qbo ⟨rfl,rfl,rfl,rfl,rfl,rfl,rfl,trivial⟩ rfl⟩ ?_;rintro j _ ⟨hj,t2,rfl⟩;have hj3:j=0∨j=1∨j=2:=by omega
  have hn1:=q7v (qwx y c j) (n:=c.toNat / 16) (by omega);have tq:=q7v (qwx y c j) (n:=c.toNat % 16) (by omega);generalize hz:qwx y c j=z at hn1 tq ⊢;rcases hj3 with rfl|rfl|rfl
  ·skip
   repeat' (first|apply qm|apply q9|apply qe|apply qf|apply qj|apply qh|(apply qy;(iterate 3 exact rfl))|(apply qc;exact rfl;apply wg;exact cAo)|(apply z7;exact rfl;exact rfl;exact zn (by omega) (by omega))|(apply qg0;exact rfl;exact rfl;(first|exact va _|exact rfl);first|exact va _|exact rfl)|(apply qer;(iterate 3 exact rfl))|(apply qgy;(iterate 3 exact rfl))|(apply qjq;(iterate 4 exact rfl);(first|assumption|omega|decide);exact rfl)|(apply qck;(iterate 4 exact rfl);first|assumption|omega|decide)|apply qx|(apply j5;(iterate 4 exact rfl);exact q0a hn1))
   subst hz;exact⟨1,⟨by omega,qbo ⟨rfl,rfl,rfl,rfl,rfl,rfl,rfl,trivial⟩ rfl⟩,by omega⟩
  ·skip
   repeat' (first|apply qm|apply q9|apply qe|apply qf|apply qj|apply qh|(apply qy;(iterate 3 exact rfl))|(apply qc;exact rfl;apply wg;exact cAo)|(apply z7;exact rfl;exact rfl;exact zn (by omega) (by omega))|(apply qg0;exact rfl;exact rfl;(first|exact va _|exact rfl);first|exact va _|exact rfl)|(apply qer;(iterate 3 exact rfl))|(apply qgy;(iterate 3 exact rfl))|(apply qjq;(iterate 4 exact rfl);(first|assumption|omega|decide);exact rfl)|(apply qck;(iterate 4 exact rfl);first|assumption|omega|decide)|apply qx|(apply j5;(iterate 4 exact rfl);exact q0a tq))
   subst hz;exact⟨2,⟨by omega,qbo ⟨rfl,rfl,rfl,rfl,rfl,rfl,rfl,trivial⟩ rfl⟩,by omega⟩
  ·skip
   repeat' (first|apply qm|apply qe|apply qf|apply qj|(apply qy;(iterate 3 exact rfl))|(apply qc;exact rfl;apply xh;exact cAo)|(apply z7;exact rfl;exact rfl;exact zn (by omega) (by omega))|apply vc)
   subst hz;refine⟨k+1,⟨by omega,qbo ⟨rfl,rfl,?_,rfl,rfl,trivial⟩ rfl⟩,by omega⟩;refine congrArg Wv (?_:crcP y c=_);rw [qjl (by omega),List.foldl_append,hx,rm];rfl
 ·have e:k=l.length:=by omega
  subst e;refine qo rfl (zi rfl) ⟨congrArg Wv (?_:_=_),_,rfl⟩;unfold addP;rw [← hx,List.take_length]
theorem q87 (l:List UInt8) (st:List AObj) (hl:l.length<4294967281):qn E 108 [.sl 1 [Sv l] none] st fun r st'=>r=Wv (addP 0 l)∧st'=st:=by
 refine zb (qt _) (qr Tryz.func108 rfl (Nat.le_of_ble_eq_true rfl) ?_);repeat' (first|apply qm|apply q9|apply qe|apply qf|apply qj|apply qh|(apply jl;(iterate 4 exact rfl)))
 refine v4 (fun (k:Nat) s=>k≤1∧StA [(3,Wv (if k=0 then 0 else addP 0 l)),(6,.sl 1 [Sv l] none),(7,Iv 1),(8,Iv k)] (st++[]) [] s) (fun k=>1 - k) 0 ⟨by omega,qbo ⟨rfl,rfl,rfl,rfl,trivial⟩ rfl⟩ ?_;rintro k _ ⟨hk,t,rfl⟩;have bq:k=0∨k=1:=by omega
 rcases bq with rfl|rfl
 ·skip
  repeat' (first|apply qm|apply q9|apply qe|apply qf|apply qj|apply qh|(apply qy;(iterate 3 exact rfl))|(apply qc;exact rfl;apply wg;exact cAo)|(apply z7;exact rfl;exact rfl;exact zn (by omega) (by omega))|(apply js;(iterate 3 exact rfl))|apply qx|(apply kh;(iterate 4 exact rfl);exact (rfl:(0:Int)=((0:Nat):Int));exact rfl)|(apply qk;exact Tryz.call149;exact zgt 0 _ _ hl))
  exact⟨1,⟨by omega,qbo ⟨rfl,rfl,rfl,rfl,trivial⟩ rfl⟩,by omega⟩
 ·skip
  repeat' (first|apply qm|apply qe|apply qf|apply qj|apply qh|(apply qy;(iterate 3 exact rfl))|(apply qc;exact rfl;apply xh;exact cAo)|apply vc|apply qu)
  exact qo rfl (zi rfl) ⟨rfl,_,rfl⟩
def figP (s:BitVec 32) (j:Nat):UInt8:=[48,49,50,51,52,53,54,55,56,57,97,98,99,100,101,102].getD ((s >>> (4 * (7 - j))) &&& BitVec.ofInt 32 15).toNat 0
def qb0 (s:BitVec 32) (n:Nat):List UInt8:=(List.range n).map (figP s)
theorem qu3 (x:BitVec 32) (st:List AObj):qn E 107 [Wv x] st fun r st'=>r=Sv (qb0 x 8)∧st'=st:=by
 refine zb (qt _) (qr Tryz.func107 rfl (Nat.le_of_ble_eq_true rfl) ?_);repeat' (first|apply qm|apply q9|apply qe|apply qf|apply qh|(apply jy;exact rfl;exact rfl))
 refine qow (o:=st.length+0) (j:=1) (sz:=1) (T':=5) (jh rfl) rfl ?_
 refine v4 (fun (j:Nat) s=>j≤8∧∃ q,(q = .v (.pointer none)∨q = .bx (st.length+0) 0 0)∧StA [(0,Wv x),(3,.bx (st.length+0) 0 0),(4,Iv (7 - (j:Int)))] (st++[bldO 0 q (qb0 x j) (st.length+1),.tip (qb0 x j).length 1 5]) [] s) (fun j=>8 - j) 0
  ⟨by omega,_,.inl rfl,qbo ⟨rfl,rfl,rfl,trivial⟩ ?_⟩ ?_
 ·show (st++[_]).set (st.length+0) (.cells 0 194 [_,.sl 1 [] (some (st++[_]).length)])++[_]=_
  rw [xv,List.append_assoc];simp [qb0]
 rintro j _ ⟨hj,q,hq,t,rfl⟩;have hf:(qb0 x j).length=j:=by simp [qb0]
 repeat' (first|apply qm|apply q9|apply qe|apply qf|apply qj|apply qh|(apply qy;(iterate 3 exact rfl))|(apply qc;exact rfl;apply cd_d <;> intro h)|(apply qa6;exact rfl;exact rfl;exact zn (by omega) (by omega))|(apply qkn;exact rfl;exact rfl;(first|exact va _|exact rfl);first|exact va _|exact rfl)|apply qx|apply vc|apply qu|(apply qxg;exact rfl;exact rfl;exact zn (by omega) (by omega))|(apply q0q (n:=4 * (7 - j));exact rfl;exact rfl;omega;omega)|(apply qps;(iterate 3 exact rfl);exact and15_lt _)|(refine qk Tryz.call148 (q6e st _ _ 0 1 0 _ _ _ rfl rfl ?_ ?_ rfl) ?_;exact hq;omega)|(refine qk Tryz.call104 (qox st _ _ 0 1 0 _ _ rfl rfl rfl) ?_))
 ·have e1:qb0 x j++[figP x j]=qb0 x (j+1):=by simp [qb0,List.range_succ]
  refine⟨j+1,⟨by omega,_,.inr rfl,qbo ⟨rfl,rfl,congrArg Iv (by omega:(7 - (j:Int)) - 1=7 - ((j+1:Nat):Int)),trivial⟩ ?_⟩,by omega⟩
  show st++[bldO 0 _ (qb0 x j++[figP x j]) (st.length+1),.tip (qb0 x j++[figP x j]).length 1 5]=_
  rw [e1]
 ·have e:j=8:=by omega
  subst e;exact qo rfl (zi rfl) ⟨rfl,_,rfl⟩
def sumF (l:List UInt8):List UInt8:=qb0 (addP 0 l) 8
theorem qf7 (l:List UInt8):(sumF l).length=8:=by simp [sumF,qb0]
theorem is_c (f l:List UInt8) (st:List AObj) (hl:l.length<4294967281):qn E 221 [Sv f,.sl 1 [Sv l] none] st fun r st'=>r=Bv (decide (f=sumF l))∧st'=st:=by
 refine zb (qt _) (qr Tryz.func221 rfl (Nat.le_of_ble_eq_true rfl) ?_);repeat' (first|apply qm|apply qe|apply qf|apply qj|apply qh|(apply jv;(iterate 3 exact rfl))|apply qu|(apply qk;exact Tryz.call108;exact q87 l _ hl)|(apply qk;exact Tryz.call107;exact qu3 _ _))
 exact qo rfl (zi rfl) ⟨rfl,_,rfl⟩
def qao (rest body sums:List UInt8) (size:Int):Int×List UInt8×Int:=
 if rest.length<(qdz body.length).length∧rest <+: qdz body.length then (2,[],0)
 else if qdz body.length <+: rest∧sums=sumF body then (1,body,size) else (3,[],0)
theorem q98 (rest body sums:List UInt8) (size:Int) (st:List AObj) (hb:body.length<4294967281):qn E 164 [Sv rest,Sv body,Sv sums,Iv size] st fun r st'=>r = .tu [Iv (qao rest body sums size).1,Sv (qao rest body sums size).2.1,Iv (qao rest body sums size).2.2]∧st'=st:=by
 refine zb (qgi _ _ _) (qr Tryz.func164 rfl (Nat.le_of_ble_eq_true rfl) ?_);repeat' (first|apply qm|apply q9|apply qe|apply qf|apply qj|apply qh|(apply qy;(iterate 3 exact rfl))|(apply ze;(iterate 4 exact rfl))|(apply qb2;exact cAo)|(apply qee;exact cAo)|(apply qb3;exact cRa)|(apply qbr;exact cRa)|(apply xx <;> intro h)|(apply qh9 <;> intro h)|(apply qp;exact rfl;apply qcm;exact cAo)|(apply qp;exact rfl;apply qdi;exact cAo)|(apply qp;exact rfl;apply pk_t;exact cRa)|(apply qp;exact rfl;apply pk_f;exact cRa)|(apply qc;exact rfl;apply cd_f;exact cRa)|(apply qc;exact rfl;apply cd_d <;> intro h)|(apply qc;exact rfl;apply cd_s <;> intro h)|(apply wl;(iterate 3 exact rfl))|(apply xw;(iterate 9 exact rfl))|apply qx|apply qu|(apply qk;exact Tryz.call109;exact q0b body.length _ (by omega))|(apply qk;exact Tryz.call155;exact qdu _ _ _)|(apply qk;exact Tryz.call221;exact is_c sums body _ hb))
 all_goals refine qo rfl (qet rfl) ⟨q9f (?_:_=_),_,rfl⟩
 all_goals show _=qao rest body sums size
 all_goals
  have c1:(↑rest.length:Int) < ↑(qdz body.length).length↔rest.length<(qdz body.length).length:=by omega
  simp only [c1,qgq,decide_eq_true_eq,decide_eq_false_iff_not] at *;simp_all [qao] <;> (intros;omega)
theorem q92 (l:List UInt8) (st:List AObj) (hl:l.length<4294967281):qn E 114 [Sv l] st fun r st'=>r=Bv (decide (l.head? = some 37∧qs l=5))∧st'=st:=by
 refine zb (qt _) (qr Tryz.func114 rfl (Nat.le_of_ble_eq_true rfl) ?_);repeat' (first|apply qm|apply qe|apply qf|apply qj|apply qh|(apply qy;(iterate 3 exact rfl))|(apply ze;(iterate 4 exact rfl))|(apply qb2;exact cAo)|(apply qee;exact cAo)|(apply xx <;> intro h)|(apply qp;exact rfl;apply qcm;exact cAo)|(apply qp;exact rfl;apply qdi;exact cAo)|apply qu|(apply qk;exact Tryz.call155;exact qey _ _ _)|(apply qk;exact Tryz.call156;exact qkd _ _ hl))
 all_goals refine qo rfl (zi rfl) ⟨congrArg Bv (?_:_=_),_,rfl⟩
 all_goals simp_all
def zt (l:List UInt8):Int×List UInt8×Int:=
 if 10∈l then
  if (zz (upto 10 l)).2.2=true then
   if (past 10 l).length<(zz (upto 10 l)).1 then (qdh (past 10 l) ((zz (upto 10 l)).1 - (past 10 l).length),[],0)
   else if yv ((past 10 l).take (zz (upto 10 l)).1) then qao ((past 10 l).drop (zz (upto 10 l)).1) ((past 10 l).take (zz (upto 10 l)).1) (zz (upto 10 l)).2.1 (qfm (zz (upto 10 l)).1)
   else (3,[],0)
  else (3,[],0)
 else if qd3 l=true then (2,[],0) else (3,[],0)
theorem zgd (l:List UInt8) (st:List AObj) (hl:l.length<4294967281):qn E 117 [Sv l] st fun r st'=>r = .tu [Iv (zt l).1,Sv (zt l).2.1,Iv (zt l).2.2]∧st'=st:=by
 refine zb (qgi _ _ _) (qr Tryz.func117 rfl (Nat.le_of_ble_eq_true rfl) ?_);have cn:=vb 10 l;have mv:=km 10 l;have hn:(zz (upto 10 l)).1≤50000:=qb6 _;repeat' (first|apply qm|apply q9|apply qe|apply qf|apply qj|apply qh|(apply zh;exact rfl;exact rfl)|(apply qy;(iterate 3 exact rfl))|(apply jb;exact rfl)|(apply qc;exact rfl;apply cd_n <;> intro h)|(apply qc;exact rfl;apply cd_d <;> intro h)|(apply qc;exact rfl;apply cd_s <;> intro h)|(apply wl;(iterate 3 exact rfl))|(apply qa6;exact rfl;exact rfl;exact zn (by omega) (by omega))|(apply qmo;(iterate 3 exact rfl);exact cAs)|(apply qkq;exact rfl;kernel_rfl)|apply qj5|apply qhn|apply quh|(apply q13;(iterate 3 exact rfl);exact cAs)|(apply q11;(iterate 3 exact rfl);exact cAs)|(apply qrg;exact rfl;exact rfl)|apply qx|apply qu|(apply qk;exact Tryz.call110;exact qhz l 10 _ hl)|(apply qk;exact Tryz.call161;exact q77 _ _ hl)|(apply qk;exact Tryz.call162;exact zbh (upto 10 l) _ (by omega))|(apply qk;exact Tryz.call163;exact zbk _ _ _ (by omega))|(apply qk;exact Tryz.call105;exact q7e ((past 10 l).take (zz (upto 10 l)).1) _ (by simp;omega))|(refine q10 (vals:=[.int .i64 (zz (upto 10 l)).1]) E_ok Tryz.call165 rfl (qs4 _) (fun _=>.v _) (za4 _ _) ?_)|(refine q10 (vals:=[.string ⟨((past 10 l).drop (zz (upto 10 l)).1).toArray⟩,.string ⟨((past 10 l).take (zz (upto 10 l)).1).toArray⟩,.string ⟨(zz (upto 10 l)).2.1.toArray⟩,.int .i64 (qfm (zz (upto 10 l)).1)]) E_ok Tryz.call164 rfl zcc (fun _=>qtx (.v _) (.v _) (.v _)) (q98 _ _ _ _ _ (by simp;omega)) ?_))
 all_goals refine qo rfl (qet rfl) ⟨q9f (?_:_=zt l),_,rfl⟩
 all_goals
  have c1:(↑(past 10 l).length:Int) < ↑(zz (upto 10 l)).1↔(past 10 l).length<(zz (upto 10 l)).1:=by omega
  simp only [c1,decide_eq_true_eq,decide_eq_false_iff_not] at *;clear c1 cn mv hn hl
 ·unfold zt;rw [if_neg (by assumption),if_pos (by assumption)]
 ·unfold zt;rw [if_neg (by assumption),if_neg (by simp_all)]
 ·unfold zt;rw [if_pos (by assumption),if_neg (by simp_all)]
 ·unfold zt;rw [if_pos (by assumption),if_pos (by assumption),if_pos (by assumption)]
 ·unfold zt;rw [if_pos (by assumption),if_pos (by assumption),if_neg (by assumption),if_neg (by assumption)]
 ·unfold zt;rw [if_pos (by assumption),if_pos (by assumption),if_neg (by assumption),if_pos (by assumption)]
def recF (l:List UInt8):List UInt8:=qi7 l.length (sumF l)++l++qdz l.length
def q2g:AV:=.ifc 37 (.v (.int .i64 2))
def qek (l:List UInt8):AV:=if yv l then .tu [Sv (recF l),.v .nilIface] else .tu [Sv [],q2g]
theorem qzt (l:List UInt8):Pure (qek l):=by
 unfold qek;split
 ·exact qvt _ _
 ·exact qeh (by simp;exact⟨qt _,qb7 (qt _)⟩)
theorem zbt (l:List UInt8) (st:List AObj) (hl:l.length<4294967281):qn E 61 [Sv l] st fun r st'=>r=qek l∧st'=st:=by
 refine zb (qzt l) (qr Tryz.func61 rfl (Nat.le_of_ble_eq_true rfl) ?_);have h1:=qia l.length (by omega);have h2:=qez l.length (sumF l);have h3:=qe9 l.length;have h4:=qf7 l;repeat' (first|apply qm|apply qe|apply qf|apply qj|apply qh|(apply jb;exact rfl)|(apply qc;exact rfl;apply cd_n <;> intro h)|(apply wl;(iterate 3 exact rfl))|(apply vh;exact rfl;exact rfl;exact cOs)|(apply vn;exact rfl;exact rfl)|(apply xw;(iterate 9 exact rfl))|apply qx|apply qu|(apply qk;exact Tryz.call105;exact q7e _ _ hl)|(apply qk;exact Tryz.call108;exact q87 l _ hl)|(apply qk;exact Tryz.call107;exact qu3 _ _)|(apply qk;exact Tryz.call106;exact q7i l.length (sumF l) _ (by omega) (by omega))|(apply qk;exact Tryz.call109;exact q0b l.length _ (by omega)))
 ·have e:AV.tu [Sv [],q2g]=qek l:=by unfold qek;rw [if_neg (of_decide_eq_false (by assumption))]
  exact qo rfl (wm rfl) ⟨e,_,rfl⟩
 ·have e:AV.tu [Sv (recF l),.v .nilIface]=qek l:=by unfold qek;rw [if_pos (of_decide_eq_true (by assumption))]
  exact qo rfl (wm rfl) ⟨e,_,rfl⟩
def qsb (c:UInt8):Bool:=decide (48≤c.toNat∧c.toNat≤57)
end Go.Proofs.YtihlchbgjdkmpaaGreatDoor
namespace Go.Pl
open Go
theorem xa:∀ (n u:Nat),u≤n→∀ c∈Lib.decDigits u,48≤c.toNat∧c.toNat≤57
 |n,u,hn,c,hc=>by
  by_cases h:u<10
  ·rw [Lib.decDigits_one h] at hc
   simp only [List.mem_singleton] at hc;subst hc;rw [UInt8.toNat_ofNat'];omega
  ·rw [qca h,List.mem_append] at hc
   cases n with
   |zero=>omega
   |succ n=>
    rcases hc with hc|hc
    ·exact xa n (u / 10) (by omega) c hc
    ·exact xa n (u % 10) (by omega) c hc
theorem qgp (u:Nat):1≤(Lib.decDigits u).length:=by
 rw [Lib.decDigits_length];exact Lib.nDigits_pos u
theorem qib {v:Int} (h:v<0):Lib.itoa v=45::Lib.decDigits v.natAbs:=by
 unfold Lib.itoa;rw [if_pos h]
theorem qic {v:Int} (h:0≤v):Lib.itoa v=Lib.decDigits v.toNat:=by
 unfold Lib.itoa;rw [if_neg (by omega)]
theorem qna {v:Int} (h1 : -9223372036854775808≤v) (h2:v≤9223372036854775807):(Lib.itoa v).length≤20:=by
 by_cases h:v<0
 ·rw [qib h,List.length_cons,Lib.decDigits_length]
  have:=qhg 18 v.natAbs (by omega);omega
 ·rw [qic (by omega),Lib.decDigits_length]
  have:=qhg 18 v.toNat (by omega);omega
theorem qvo:∀ (a:Nat) (l m:qa) (b:Nat),Lib.parseUint10 a l = .ok b→Lib.parseUint10 a (l++m)=Lib.parseUint10 b m
 |a,[],m,b,h=>by
  simp only [Lib.parseUint10,Lib.NumEnd.ok.injEq] at h
  subst h;rfl
 |a,c::l,m,b,h=>by
  simp only [List.cons_append,Lib.parseUint10] at h ⊢;split at h
  ·rename_i hd
   rw [if_pos hd];split at h
   ·cases h
   ·rename_i h1
    rw [if_neg h1];split at h
    ·cases h
    ·rename_i h2
     rw [if_neg h2];exact qvo _ l m b h
  ·cases h
theorem qlm:∀ (n u:Nat),u≤n→u≤9223372036854775808→Lib.parseUint10 0 (Lib.decDigits u) = .ok u
 |n,u,hn,hu=>by
  have key:∀ (a d:Nat),a≤922337203685477580→d<10→Lib.parseUint10 a (Lib.decDigits d) = .ok (a * 10+d):=by
   intro a d ha hd;have e:(UInt8.ofNat (48+d)).toNat=48+d:=by rw [UInt8.toNat_ofNat'];omega
   rw [Lib.decDigits_one hd];simp only [Lib.parseUint10,e];rw [if_pos (by omega),if_neg (by omega),if_neg (by omega)];congr 1;omega
  by_cases h:u<10
  ·have:=key 0 u (by omega) h
   simpa using this
  ·cases n with
   |zero=>omega
   |succ n=>
    rw [qca h,qvo 0 _ _ (u / 10) (qlm n (u / 10) (by omega) (by omega)),key _ _ (by omega) (by omega)];congr 1;omega
theorem qkp {v:Int} (h1 : -9223372036854775808≤v) (h2:v≤9223372036854775807):Lib.atoiAll (Lib.itoa v) = .ok v:=by
 by_cases h:v<0
 ·have hp:=qlm v.natAbs v.natAbs (Nat.le_refl _) (by omega)
  rw [qib h]
  have hm:Lib.parseMag (Lib.decDigits v.natAbs) = .ok v.natAbs:=by
   unfold Lib.parseMag;rw [if_neg (fun e=>by have:=qgp v.natAbs;rw [e] at this;simp at this)];exact hp
  have e45:(45:UInt8).toNat=45:=rfl;simp only [Lib.atoiAll,e45];rw [if_pos (Or.inr trivial),hm];simp only [not_true,false_and,if_false,true_and];rw [if_neg (by omega)];simp only [if_true];congr 1;omega
 ·have hp:=qlm v.toNat v.toNat (Nat.le_refl _) (by omega)
  have hd:=xa v.toNat v.toNat (Nat.le_refl _);rw [qic (by omega)]
  cases hl:Lib.decDigits v.toNat with
  |nil=>have:=qgp v.toNat;rw [hl] at this;simp at this
  |cons c r=>
   rw [hl] at hp hd;have hc:=hd c (by simp);simp only [Lib.atoiAll];have g1:¬ (c.toNat=43∨c.toNat=45):=by omega
   rw [if_neg g1];have hm:Lib.parseMag (c::r) = .ok v.toNat:=by unfold Lib.parseMag;rw [if_neg (by simp)];exact hp
   rw [hm];have g2:¬ c.toNat=45:=by omega
   simp only [g2,not_false_iff,true_and,false_and,if_false];rw [if_neg (by omega)];congr 1;omega
def numZ (l:qa):Option Int:=
 match Lib.atoiAll l with
 | .ok v=>if Lib.itoa v=l then some v else none
 | _=>none
theorem q7w {v:Int} (h1 : -9223372036854775808≤v) (h2:v≤9223372036854775807):numZ (Lib.itoa v)=some v:=by
 unfold numZ;rw [qkp h1 h2];simp
theorem q7x {l:qa} {v:Int} (h:numZ l=some v):l=Lib.itoa v∧-9223372036854775808≤v∧v≤9223372036854775807:=by
 unfold numZ at h;split at h
 ·rename_i u hu
  split at h
  ·rename_i he
   simp only [Option.some.injEq] at h;subst h;exact⟨he.symm,atoiAll_bounds hu⟩
  ·simp at h
 ·simp at h
end Go.Pl
namespace Go.Proofs.YtihlchbgjdkmpaaGreatDoor
open Go Go.Av Go.RowKit Go.Proofs Go.Pl
theorem q7m {l:qa} {v:Int} (h:l=Lib.itoa v):(v<0→(l.getD 0 0).toNat=45∧l.drop 1=Lib.decDigits v.natAbs)∧(0≤v→(l.getD 0 0).toNat≠45∧l=Lib.decDigits v.toNat):=by
 subst h;refine⟨fun h=>?_,fun h=>?_⟩
 ·rw [qib h];exact⟨rfl,rfl⟩
 ·rw [qic h]
  refine⟨?_,rfl⟩;have hp:=qgp v.toNat;have hd:=xa v.toNat v.toNat (Nat.le_refl _)
  cases hl:Lib.decDigits v.toNat with
  |nil=>rw [hl] at hp;simp at hp
  |cons c r=>
   rw [hl] at hd;have:=hd c (by simp);simp;omega
def sgn (l:qa):Nat:=if (l.getD 0 0).toNat=45 then 1 else 0
theorem qpc {l:qa} {v:Int} (h:l=Lib.itoa v):l.drop (sgn l)=Lib.decDigits v.natAbs:=by
 obtain⟨h1,h2⟩:=q7m h;unfold sgn;by_cases hv:v<0
 ·obtain⟨a,b⟩:=h1 hv
  rw [if_pos a,b]
 ·obtain⟨a,b⟩:=h2 (by omega)
  rw [if_neg a,List.drop_zero,show v.natAbs=v.toNat by omega];exact b
end Go.Proofs.YtihlchbgjdkmpaaGreatDoor
namespace Go.Pl
open Go
def sp:Bool→qa→Bool
 | _,[]=>true
 |f,c::l=>(!f ||decide (c=32)) && sp (decide (c=10)) l
theorem qmj:∀ l,sp false l=sp true (past 10 l)
 | []=>rfl
 |c::l=>by
  by_cases h:c=10
  ·subst h;simp [sp,past,upto]
  ·have e:past 10 (c::l)=past 10 l:=by simp [past,upto,h]
   rw [e,← qmj l];simp [sp,h]
theorem qz7 {l:qa} (h:l≠[]):sp true l=(decide ([32] <+: upto 10 l) && sp true (past 10 l)):=by
 cases l with
 |nil=>exact absurd rfl h
 |cons c r=>
  by_cases hc:c=10
  ·subst hc;simp [sp,upto]
  ·have e:past 10 (c::r)=past 10 r:=by simp [past,upto,hc]
   have e2:upto 10 (c::r)=c::upto 10 r:=by simp [upto,hc]
   rw [e,e2,← qmj];simp [sp,hc,eq_comm]
theorem qlc:∀ (n:Nat) (l:qa),l.length≤n→((∀ x∈zl l,[32] <+: x.1)↔sp true l=true)
 | 0,l,h=>by
  have:l=[]:=List.length_eq_zero_iff.1 (by omega);subst this
  simp [vi,sp]
 |n+1,l,h=>by
  by_cases hl:l=[]
  ·subst hl;simp [vi,sp]
  ·rw [v8 hl,qz7 hl,Bool.and_eq_true,← qlc n (past 10 l) (by have:=x6 (c:=10) hl;omega)]
   simp only [List.mem_cons,forall_eq_or_imp,decide_eq_true_eq]
theorem qi1 (l:qa):(vd [32] l).2=sp true l:=by
 unfold vd;by_cases h:sp true l=true
 ·rw [if_pos ((qlc _ l (Nat.le_refl _)).2 h),h]
 ·rw [if_neg (fun h'=>h ((qlc _ l (Nat.le_refl _)).1 h'))]
  simp only [Bool.not_eq_true] at h;rw [h]
def qi4 (f:Bool) (l:qa):Bool:=match l.getLast? with|none=>f|some c=>decide (c=10)
theorem q4l (f:Bool) (c:UInt8) (l:qa):qi4 f (c::l)=qi4 (decide (c=10)) l:=by
 cases l with
 |nil=>simp [qi4]
 |cons b l=>
  unfold qi4;rw [List.getLast?_cons_cons]
  cases hb:(b::l).getLast? with
  |none=>simp at hb
  |some x=>rfl
theorem qz6:∀ (f:Bool) (l m:qa),sp f (l++m)=(sp f l && sp (qi4 f l) m)
 |f,[],m=>by simp [sp,qi4]
 |f,c::l,m=>by
  simp only [List.cons_append,sp];rw [qz6 _ l m,q4l,Bool.and_assoc]
theorem qu7 (l:qa):yv l↔2≤l.length∧l.length≤50000∧l.getLast? = some 10∧sp true l=true:=by
 unfold yv;rw [qi1]
theorem qdx:∀ (n u:Nat),u≤n→∀ c∈Lib.decDigits u,48≤c.toNat∧c.toNat≤57
 |n,u,hn,c,hc=>by
  by_cases h:u<10
  ·rw [Lib.decDigits_one h] at hc
   simp only [List.mem_singleton] at hc;subst hc;rw [UInt8.toNat_ofNat'];omega
  ·rw [qca h,List.mem_append] at hc
   cases n with
   |zero=>omega
   |succ n=>
    rcases hc with hc|hc
    ·exact qdx n (u / 10) (by omega) c hc
    ·exact qdx n (u % 10) (by omega) c hc
theorem qk9 (n:Nat):Lib.itoa (n:Int)=Lib.decDigits n:=by
 unfold Lib.itoa;rw [if_neg (by omega)];simp
theorem za1 (n:Nat):∀ c∈Lib.itoa (n:Int),48≤c.toNat∧c.toNat≤57:=by
 rw [qk9];exact qdx n n (Nat.le_refl _)
theorem qxx (u:Nat):Lib.decDigits u≠[]:=by
 intro h;have:=congrArg List.length h;rw [Lib.decDigits_length] at this;have:=Lib.nDigits_pos u;simp at *;omega
theorem qvn:∀ (a:Nat) (l m:qa) (b:Nat),Lib.parseUint10 a l = .ok b→Lib.parseUint10 a (l++m)=Lib.parseUint10 b m
 |a,[],m,b,h=>by
  simp only [Lib.parseUint10,Lib.NumEnd.ok.injEq] at h
  subst h;rfl
 |a,c::l,m,b,h=>by
  simp only [List.cons_append,Lib.parseUint10] at h ⊢;split at h
  ·rename_i hd
   rw [if_pos hd];split at h
   ·cases h
   ·rename_i h1
    rw [if_neg h1];split at h
    ·cases h
    ·rename_i h2
     rw [if_neg h2];exact qvn _ l m b h
  ·cases h
theorem qvp:∀ (n u:Nat),u≤n→u<1000000000000000000→Lib.parseUint10 0 (Lib.decDigits u) = .ok u
 |n,u,hn,hu=>by
  have key:∀ (a d:Nat),a<100000000000000000→d<10→Lib.parseUint10 a (Lib.decDigits d) = .ok (a * 10+d):=by
   intro a d ha hd;have e:(UInt8.ofNat (48+d)).toNat=48+d:=by rw [UInt8.toNat_ofNat'];omega
   rw [Lib.decDigits_one hd];simp only [Lib.parseUint10,e];rw [if_pos (by omega),if_neg (by omega),if_neg (by omega)];congr 1;omega
  by_cases h:u<10
  ·have:=key 0 u (by omega) h
   simpa using this
  ·cases n with
   |zero=>omega
   |succ n=>
    rw [qca h,qvn 0 _ _ (u / 10) (qvp n (u / 10) (by omega) (by omega)),key _ _ (by omega) (by omega)];congr 1;omega
theorem q59 {n:Nat} (h:n<1000000000000000000):Lib.atoiAll (Lib.itoa (n:Int)) = .ok (n:Int):=by
 have hp:=qvp n n (Nat.le_refl _) h;have hd:=qdx n n (Nat.le_refl _);rw [qk9]
 cases hl:Lib.decDigits n with
 |nil=>exact absurd hl (qxx n)
 |cons c r=>
  rw [hl] at hp hd;have hc:=hd c (by simp);simp only [Lib.atoiAll];have h1:¬ (c.toNat=43∨c.toNat=45):=by omega
  rw [if_neg h1];have hm:Lib.parseMag (c::r) = .ok n:=by unfold Lib.parseMag;rw [if_neg (by simp)];exact hp
  rw [hm];have h2:¬ c.toNat=45:=by omega
  simp only [h2,not_false_iff,true_and,false_and,if_false];rw [if_neg (by omega)]
theorem qnj {n:Nat} (h1:1≤n) (h2:n≤50000):vm (Lib.itoa (n:Int))=n:=by
 have:=qsk (q59 (n:=n) (by omega));rw [if_pos ⟨rfl,by omega,by omega⟩] at this;omega
theorem qf1 {l:qa} {n:Nat} (h:vm l=n) (hn:1≤n):l=Lib.itoa (n:Int):=by
 unfold vm at h;split at h
 ·split at h
  ·rename_i v _ hv
   have:v=(n:Int):=by omega
   rw [← this,hv.1]
  ·omega
 ·omega
end Go.Pl
namespace Go.Proofs.YtihlchbgjdkmpaaGreatDoor
open Go Go.Pl
def wo (n:Nat) (fig:qa):qa:=zu++(Lib.itoa n++32::fig)
theorem zav (n:Nat) (fig:qa):qi7 n fig=wo n fig++[10]:=by simp [qi7,wo,zu]
theorem qlj (n:Nat) {c:UInt8} (h:¬ (48≤c.toNat∧c.toNat≤57)):c∉Lib.itoa (n:Int):=fun hc=>h (za1 n c hc)
theorem qm7 {f:qa} (h:y0 f) {c:UInt8} (hc:c∉hexL):c∉f:=fun h'=>hc (h c h')
theorem qda (n:Nat) {fig:qa} (h:y0 fig):10∉wo n fig:=by
 unfold wo;simp only [List.mem_append,List.mem_cons,not_or];exact⟨by decide,qlj n (by decide),by decide,qm7 h (by decide)⟩
theorem ql5 (l:qa):Lib.trimPrefix (zu++l) zu=l:=by
 rw [qcc (List.prefix_append _ _),List.drop_left]
theorem qzf {n:Nat} {fig:qa} (h2:2≤n) (hn:n≤50000) (hf:fig.length=8) (hx:y0 fig):zz (wo n fig)=(n,fig,true):=by
 unfold zz wo;have h32:32∉Lib.itoa (n:Int):=qlj n (by decide);rw [ql5,xj fig h32,yi fig h32,qnj (by omega) hn];rw [decide_eq_true ⟨List.prefix_append _ _,by simp,h2,hf,hx⟩]
theorem q49 {n:Nat} {fig:qa} (r:qa) (h2:2≤n) (hn:n≤50000) (hf:fig.length=8) (hx:y0 fig) :
  zt (wo n fig++10::r)=if r.length<n then (qdh r ((n:Int) - r.length),[],0)
   else if yv (r.take n) then qao (r.drop n) (r.take n) fig (qfm n) else (3,[],0):=by
 have hm:10∈wo n fig++10::r:=by simp
 have i3:=qda n hx;unfold zt;rw [if_pos hm,xj r i3,yi r i3,qzf h2 hn hf hx];simp only [if_true]
structure q1x (n:Nat) (fig body:qa):Prop where
 two:2≤n
 most:n≤50000
 len:body.length=n
 good:yv body
 figs:fig.length=8
 hex:y0 fig
def recL (n:Nat) (fig body:qa):qa:=wo n fig++10::(body++qdz n)
theorem qkh (l:qa):recF l=recL l.length (sumF l) l:=by
 unfold recF recL;rw [zav];simp
theorem qvs {l a b:qa} (h:l <+: a++b):l <+: a∨∃ r,l=a++r∧r <+: b:=by
 rcases Nat.le_total l.length a.length with hl|hl
 ·exact .inl (List.prefix_of_prefix_length_le h (List.prefix_append _ _) hl)
 ·obtain⟨r,hr⟩:=List.prefix_of_prefix_length_le (List.prefix_append a b) h hl
  exact .inr ⟨r,hr.symm,by rw [← hr] at h;exact (List.prefix_append_right_inj a).1 h⟩
theorem qtv {a b:qa} {c:UInt8} (h:a <+: b) (hc:c∉b):c∉a:=fun h'=>hc (h.subset h')
theorem q48 (f:qa) (hl:f.length≤8) (hx:y0 f):∃ g:qa,g.length=8∧y0 g∧f <+: g:=
 ⟨f++List.replicate (8 - f.length) 48,by simp;omega,fun c hc=>by
  rw [List.mem_append,List.mem_replicate] at hc;rcases hc with hc | ⟨_,rfl⟩
  ·exact hx c hc
  ·decide,List.prefix_append _ _⟩
theorem qt0:∀ (k:Nat),sp false (List.replicate k 97++[10])=true
 | 0=>by simp [sp]
 |k+1=>by rw [List.replicate_succ,List.cons_append];simp only [sp];exact by simpa using qt0 k
theorem qxr {n:Nat} {r:qa} (hn:n≤50000) (d9:r.length<n) (h2:2≤n) (hp:qdh r ((n:Int) - r.length)=2):∃ body:qa,body.length=n∧yv body∧r <+: body:=by
 unfold qdh at hp;split at hp
 ·rename_i h
  obtain⟨hs,hfr⟩:=h;rw [qi1] at hs;by_cases hf:r=[]∨r.getLast? = some 10
  ·have hk:r.length+2≤n:=by
    rcases Nat.lt_or_ge (r.length+1) n with h|h
    ·omega
    ·exact absurd ⟨hf,by omega⟩ hfr
   refine⟨r++(32::(List.replicate (n - r.length - 2) 97++[10])),by simp;omega,?_,List.prefix_append _ _⟩;rw [qu7];refine⟨by simp;omega,by simp;omega,by simp [List.getLast?_append,List.getLast?_cons],?_⟩;rw [qz6,hs];simp only [sp,Bool.true_and];have:=qt0 (n - r.length - 2)
   simpa using this
  ·refine⟨r++(List.replicate (n - r.length - 1) 97++[10]),by simp;omega,?_,List.prefix_append _ _⟩
   rw [qu7];refine⟨by simp;omega,by simp;omega,by simp [List.getLast?_append],?_⟩;rw [qz6,hs]
   have e:qi4 true r=false:=by
    unfold qi4
    cases hq:r.getLast? with
    |none=>exact absurd (.inl (List.getLast?_eq_none_iff.1 hq)) hf
    |some c=>
     refine decide_eq_false fun h=>hf (.inr ?_);rw [hq,h]
   rw [e,qt0];rfl
 ·simp at hp
theorem qgl {n:Nat} (h2:2≤n) (hn:n≤50000):∃ body:qa,body.length=n∧yv body:=by
 obtain⟨b,h1,h3,_⟩:=qxr (n:=n) (r:=[]) hn (by simp;omega) h2 (by
  unfold qdh;rw [qi1]
  rw [if_pos ⟨rfl,by rintro⟨_,h⟩;simp at h;omega⟩])
 exact⟨b,h1,h3⟩
theorem qgt {a b c:qa} (h:a <+: b):a <+: b++c:=h.trans (List.prefix_append _ _)
theorem qgh {n:Nat} {fig body l:qa} (h:l <+: wo n fig):l <+: recL n fig body∧l.length<(recL n fig body).length:=by
 refine⟨qgt h,?_⟩;have:=h.length_le;unfold recL;simp;omega
theorem zej {l:qa} (h:(zt l).1=2):∃ n fig body,q1x n fig body∧l <+: recL n fig body∧l.length<(recL n fig body).length:=by
 unfold zt at h;split at h
 ·rename_i i3
  split at h
  ·rename_i ho
   generalize hr:past 10 l=r at *;have hl:=qaa i3;rw [hr] at hl;generalize hu:upto 10 l=u at *
   -- the first line
   have hop:u=wo (zz u).1 (zz u).2.1∧2≤(zz u).1∧(zz u).1≤50000∧(zz u).2.1.length=8∧y0 (zz u).2.1:=by
    simp only [zz,decide_eq_true_eq] at ho ⊢;obtain⟨o1,o2,o3,o4,o5⟩:=ho;refine⟨?_,o3,qb6 _,o4,o5⟩;obtain⟨t,rfl⟩:=o1;rw [ql5] at *;have:=qf1 rfl (Nat.le_trans (by decide) o3);unfold wo;rw [← this,← qaa o2]
   generalize (zz u).1=n at *;generalize (zz u).2.1=fig at *;obtain⟨rfl,h2,hn,hf,hx⟩:=hop;split at h
   ·rename_i d9
    obtain⟨body,b1,b2,b3⟩:=qxr hn d9 h2 h;refine⟨n,fig,body,⟨h2,hn,b1,b2,hf,hx⟩,?_,?_⟩
    ·rw [hl]
     unfold recL;rw [List.prefix_append_right_inj,List.cons_prefix_cons];exact⟨rfl,qgt b3⟩
    ·rw [hl]
     unfold recL;have:=b3.length_le;have:=qe9 n;simp;omega
   ·rename_i dj
    split at h
    ·rename_i hg
     have d5:(r.take n).length=n:=by simp;omega
     refine⟨n,fig,r.take n,⟨h2,hn,d5,hg,hf,hx⟩,?_⟩;unfold qao at h;rw [d5] at h;split at h
     ·rename_i hc
      rw [hl];unfold recL;constructor
      ·rw [List.prefix_append_right_inj,List.cons_prefix_cons]
       refine⟨rfl,?_⟩
       conv=>lhs;rw [← List.take_append_drop n r]
       rw [List.prefix_append_right_inj];exact hc.2
      ·have:=hc.1
       simp at this ⊢;omega
     ·split at h <;> simp at h
    ·simp at h
  ·simp at h
 ·rename_i i3
  split at h
  ·rename_i ho
   unfold qd3 at ho;split at ho
   ·rename_i hb
    obtain⟨t,rfl⟩:=hb;have ed:(zu++t).drop 7=t:=by rw [show (7:Nat)=zu.length by rfl,List.drop_left]
    rw [ed] at ho;obtain⟨o1,o2,o3,o4⟩:=of_decide_eq_true ho;by_cases h32:32∈t
    ·have tq:2≤vm (upto 32 t):=by
      rcases Nat.lt_or_ge (vm (upto 32 t)) 2 with h|h
      ·exact absurd ⟨h32,h⟩ o1
      ·exact h
     obtain⟨fig,f1,f2,f3⟩:=q48 _ o3 o4;obtain⟨body,b1,b2⟩:=qgl tq (qb6 _);refine⟨_,fig,body,⟨tq,qb6 _,b1,b2,f1,f2⟩,qgh ?_⟩;unfold wo;rw [List.prefix_append_right_inj]
     conv=>lhs;rw [qaa h32]
     rw [qf1 (l:=upto 32 t) rfl (by omega)];rw [qnj (by omega) (qb6 _),List.prefix_append_right_inj,List.cons_prefix_cons];exact⟨rfl,f3⟩
    ·rw [qd7 h32] at o2
     by_cases ht:t=[]
     ·subst ht
      obtain⟨body,b1,b2⟩:=qgl (n:=2) (by omega) (by omega);refine⟨2,List.replicate 8 48,body,⟨by omega,by omega,b1,b2,by simp,by decide⟩,qgh ?_⟩;unfold wo;simp
     ·have pn:1≤vm t:=by
       rcases Nat.eq_zero_or_pos (vm t) with h|h
       ·exact absurd ⟨ht,h⟩ o2
       ·exact h
      have d6:=qb6 t;have ht2:=qf1 (l:=t) rfl pn;generalize vm t=m at *;subst ht2;by_cases hm:m=1
      ·subst hm
       obtain⟨body,b1,b2⟩:=qgl (n:=10) (by omega) (by omega);refine⟨10,List.replicate 8 48,body,⟨by omega,by omega,b1,b2,by simp,by decide⟩,qgh ?_⟩;unfold wo;rw [List.prefix_append_right_inj];have e1:Lib.itoa ((1:Nat):Int)=[49]:=by rw [qk9,Lib.decDigits_one (by decide)];rfl
       have e2:Lib.itoa ((10:Nat):Int)=[49,48]:=by rw [qk9,qca (by decide),Lib.decDigits_one (by decide),Lib.decDigits_one (by decide)];rfl
       rw [e1,e2];exact⟨_,rfl⟩
      ·obtain⟨body,b1,b2⟩:=qgl (n:=m) (by omega) (by omega)
       refine⟨m,List.replicate 8 48,body,⟨by omega,by omega,b1,b2,by simp,by decide⟩,qgh ?_⟩;unfold wo;rw [List.prefix_append_right_inj];exact List.prefix_append _ _
   ·rename_i hb
    have hp:=of_decide_eq_true ho;obtain⟨body,b1,b2⟩:=qgl (n:=2) (by omega) (by omega);refine⟨2,List.replicate 8 48,body,⟨by omega,by omega,b1,b2,by simp,by decide⟩,qgh ?_⟩;unfold wo;exact qgt hp
  ·simp at h
theorem qo8 (s:BitVec 32):y0 (qb0 s 8):=by
 intro c hc;simp only [qb0,List.mem_map] at hc;obtain⟨j,_,rfl⟩:=hc;unfold figP;have h:=Go.Av.and15_lt (s >>> (4 * (7 - j)));generalize ((s >>> (4 * (7 - j))) &&& BitVec.ofInt 32 15).toNat=k at h;have key:∀ i:Fin 16,([48,49,50,51,52,53,54,55,56,57,97,98,99,100,101,102]:qa).getD i.val 0∈hexL:=by decide
 exact key ⟨k,h⟩
theorem q5d {b:qa} (h:yv b):q1x b.length (sumF b) b:=⟨h.1,h.2.1,rfl,h,qf7 b,qo8 _⟩
theorem qpj (b:qa) (h:yv b):((recF b).length:Int)=qfm b.length:=by
 obtain⟨g1,g2,_⟩:=h;unfold recF qfm;rw [if_neg (by omega)];simp only [List.length_append,qez,qf7];simp
theorem zbs {b:qa} (m:qa) (h:yv b):zt (recF b++m)=(1,b,((recF b).length:Int)):=by
 have R:=q5d h;rw [qpj b h,qkh];unfold recL;rw [List.append_assoc,List.cons_append,List.append_assoc,q49 _ R.two R.most R.figs R.hex,if_neg (by simp),List.take_left,List.drop_left,if_pos h];unfold qao;rw [if_neg (by simp;intro h;omega),if_pos ⟨List.prefix_append _ _,rfl⟩]
end Go.Proofs.YtihlchbgjdkmpaaGreatDoor
