/- Contracts and plain facts that the closing text leans on (part 2). No condition of their own beyond those that each states. -/
import Derived.Test.YtneejjefekdgjaaGreatDoorK1
import Derived.Lib.Builder
import Derived.Laws.Pointers
import Derived.Laws.Externs
import Derived.Laws.Tables
import Derived.Test.YtneejjefekdgjaaGreatDoorK0
import Derived.Test.YtneejjefekdgjaaGreatDoorRows
import Derived.LaidHandle
import Derived.ProofKit
import Derived.OpenShut
import Derived.ShutString
import Derived.Deep.DeepHandedRow
import Derived.Deep.DeepWitnessRowRef
import Derived.Lib.LaidU8
import Derived.Lib.SmallJoins
import Derived.ChangeSame
import Derived.ChangeAgain
import Derived.Lay
import Derived.Lib.Index
import Derived.Lib.SlTrimSet
import Derived.Shelf.Strings.Prefix
import Derived.Shelf.Strings.Cut
import Derived.Lib.ItoaNum
import Derived.Lib.AtoiAll
import Derived.Lib.Repeat
set_option maxRecDepth 100000
set_option linter.unusedVariables false
set_option linter.unusedSimpArgs false
namespace Go.Av
open Go Go.RowKit
section
variable {E : Env} {rd : Option Nat} {N : Nat} {ops : Array Oper} {K : AS → Prop} {s : AS} {rest : List Oper} {d : Option Tmp} {T : TypeId} {p : String} {af : Array Edge}
def zgg:AV→Bool
 | .bx _ _ _=>true
 | .pp _=>true
 | _=>false
theorem wm {x:Operand} {r:AV} (hx:ql N s x=r) (hr:zgg r=true) (h:AOps E rd N ops rest K (s.put d r)):AOps E rd N ops (⟨d,.nilCheck x,T,p,af,none⟩::rest) K s:=by
 refine za rfl (q8 nofun fun B0 w0 G a w _ hI=>?_);have he:=hI.eval_of hx
 have key:∃ q,a.eval x = .pointer (some q):=by
  generalize a.eval x=u at he
  cases he <;> simp [zgg] at hr
  ·exact⟨_,rfl⟩
  ·exact⟨_,rfl⟩
 obtain⟨q,hv⟩:=key;refine⟨_,w,G,r,s.st,?_,.refl G,hI.agree,hv▸he,h⟩;generalize a.eval = ρ at hv;simp [execOp,hv]
end
section
variable {B0 : Nat} {w0 : World} {G : Gh} {st : List AObj} {w : World}
theorem zk.refroze (h:zk B0 w0 G st w) {w':World} {g:Nat} {c:Array Value} {T:TypeId} {fz fz':Nat×Nat} (hg:w.heap[g]? = some (.cells c T fz)) (hg':w'.heap[g]? = some (.cells c T fz')) (ho:∀ k,k≠g→w'.heap[k]? = w.heap[k]?) (hB:B0≤g)
  (d9:w'.heap.size=w.heap.size) (hos:w'.os=w.os) (htape:w'.tape=w.tape) (hout:w'.output=w.output) (hs:∀ o x,st[o]? = some x→x.live→(G.ob o).blk≠g):zk B0 w0 G st w':=by
 refine⟨h.below.trans ⟨hos,htape,hout,by omega,fun k hk=>ho k (by omega)⟩,by rw [d9];exact h.hB,h.n,fun b vs hb=>?_,fun o x hx=>(h.ob o x hx).mono (.refl G) rfl (fun _=>rfl) (fun hl=>ho _ (hs o x hx hl)),h.sep⟩;by_cases e:b=g
 ·subst e
  obtain⟨c2,T2,fz2,e1,e2⟩:=h.pub b vs hb;rw [hg] at e1;simp only [Option.some.injEq,Obj.cells.injEq] at e1;exact⟨c,T,fz',hg',by rw [e1.1];exact e2⟩
 ·rw [ho b e]
  exact h.pub b vs hb
theorem zk.tipCell (h:zk B0 w0 G st w) {o ver j sz:Nat} {T T':TypeId} {cs:List AV} (ho:st[o]? = some (.cells ver T cs)) (hj:cs[j]? = some zp) :
  zk B0 w0 (G.new 0 0 0 false) (st.set o (.cells ver T (cs.set j (.sl sz [] (some st.length))))++[AObj.tip 0 sz T']) w:=by
 have h1:=h.newTip sz T';have b0:=G.le_new 0 0 0 false;have b4:=lt_of_getElem? ho
 have e:st.set o (.cells ver T (cs.set j (.sl sz [] (some st.length))))++[AObj.tip 0 sz T']=(st++[AObj.tip 0 sz T']).set o (.cells ver T (cs.set j (.sl sz [] (some st.length)))):=by
  rw [List.set_append_left _ _ b4]
 rw [e];have b6:(st++[AObj.tip 0 sz T'])[o]? = some (.cells ver T cs):=by rw [List.getElem?_append_left b4];exact ho
 generalize hG:G.new 0 0 0 false=G' at h1 b0;have hn:st.length<G'.n:=by rw [h1.n];simp
 refine⟨h1.below,h1.hB,by simp [h1.n],h1.pub,fun k x hx=>?_,fun k k' x x' a6 hx c9 hl m0=>?_⟩
 ·rcases getElem?_set' _ _ _ _ _ hx with⟨rfl,rfl⟩ | ⟨a6,hx⟩
  ·obtain⟨g0,g1,g2,g3,c,g4,g5,g6⟩:=h1.ob k _ b6
   refine⟨g0,g1,g2,g3,c,g4,by simpa using g5,fun i x y hx hy=>?_⟩;rcases getElem?_set' _ _ _ _ _ hx with⟨rfl,rfl⟩ | ⟨_,hx⟩
   ·have:=g6 i _ y hj hy
    cases this
    exact .sl0 sz (some st.length) none 0 fun t ht=>by simp at ht;subst ht;exact⟨hn,rfl,rfl⟩
   ·exact g6 i x y hx hy
  ·exact h1.ob k x hx
 ·have key:∀ (k:Nat) (x:AObj),((st++[AObj.tip 0 sz T']).set o (.cells ver T (cs.set j (.sl sz [] (some st.length)))))[k]? = some x→∃ x0:AObj,(st++[AObj.tip 0 sz T'])[k]? = some x0∧(x.live→x0.live):=fun k x hx=>by
   rcases getElem?_set' _ _ _ _ _ hx with⟨rfl,rfl⟩ | ⟨_,hx⟩
   ·exact⟨_,b6,fun _=>trivial⟩
   ·exact⟨x,hx,id⟩
  obtain⟨x0,e1,e2⟩:=key k x hx;obtain⟨x1,e3,e4⟩:=key k' x' c9;exact h1.sep k k' x0 x1 a6 e1 e3 (e2 hl) (e4 m0)
end
section
variable {E : Env} {rd : Option Nat} {N : Nat} {ops : Array Oper} {K : AS → Prop} {s : AS} {rest : List Oper} {d : Option Tmp} {T : TypeId} {p : String} {af : Array Edge}
def qcs:AV→Option Bool
 | .bx _ _ _=>some false
 | .pp _=>some false
 | .v (.pointer none)=>some true
 | _=>none
theorem qax {x:Operand} {t t' te:TypeId} {r:AV} {b:Bool} (hx:ql N s x=r) (hr:qcs r=some b) (hu:E.P.underlying t=some (.pointer te)) (h:AOps E rd N ops rest K (s.put d (Bv b))):AOps E rd N ops (⟨d,.binOp .eql t x (.const (.pointer none)) t',T,p,af,none⟩::rest) K s:=by
 refine za rfl (q8 nofun fun B0 w0 G a w _ hI=>?_);have he:=hI.eval_of hx
 have key:∃ q:Option Addr,a.eval x = .pointer q∧q.isNone=b:=by
  generalize a.eval x=u at he
  cases he <;> try (simp [qcs] at hr;done)
  case v=>
   cases u <;> try (simp [qcs] at hr;done)
   case pointer q=>
    cases q <;> simp [qcs] at hr
    subst hr;exact⟨_,rfl,rfl⟩
  case pp=>simp [qcs] at hr;subst hr;exact⟨_,rfl,rfl⟩
  case bx=>simp [qcs] at hr;subst hr;exact⟨_,rfl,rfl⟩
 obtain⟨q,hv,rfl⟩:=key;have hc:a.eval (.const (.pointer none)) = .pointer none:=rfl;have hq:=run_eql_pointer_nil (P:=E.P) w t q (by simp [Program.pointee,hu]);refine⟨_,w,G,_,s.st,?_,.refl G,hI.agree,.v _,h⟩;generalize a.eval = ρ at hv hc;simp [execOp,hv,hc,eqGuard_at_pointer,hq]
theorem qfc {x:Operand} {t t' te:TypeId} {r:AV} {b:Bool} (hx:ql N s x=r) (hr:qcs r=some b) (hu:E.P.underlying t=some (.pointer te)) (h:AOps E rd N ops rest K (s.put d (Bv !b))):AOps E rd N ops (⟨d,.binOp .neq t x (.const (.pointer none)) t',T,p,af,none⟩::rest) K s:=by
 refine za rfl (q8 nofun fun B0 w0 G a w _ hI=>?_);have he:=hI.eval_of hx
 have key:∃ q:Option Addr,a.eval x = .pointer q∧q.isNone=b:=by
  generalize a.eval x=u at he
  cases he <;> try (simp [qcs] at hr;done)
  case v=>
   cases u <;> try (simp [qcs] at hr;done)
   case pointer q=>
    cases q <;> simp [qcs] at hr
    subst hr;exact⟨_,rfl,rfl⟩
  case pp=>simp [qcs] at hr;subst hr;exact⟨_,rfl,rfl⟩
  case bx=>simp [qcs] at hr;subst hr;exact⟨_,rfl,rfl⟩
 obtain⟨q,hv,rfl⟩:=key;have hc:a.eval (.const (.pointer none)) = .pointer none:=rfl;have hq:=run_neq_pointer_nil (P:=E.P) w t q (by simp [Program.pointee,hu]);refine⟨_,w,G,_,s.st,?_,.refl G,hI.agree,.v _,h⟩;generalize a.eval = ρ at hv hc;simp [execOp,hv,hc,eqGuard_at_pointer,hq]
theorem Inv.ptr {B0:Nat} {w0:World} {G:Gh} {a:Act} {w:World} (hI:Inv B0 w0 N G s a w) {x:Operand} {o ver off:Nat} {T1:TypeId} {cs:List AV} (hx:ql N s x = .bx o ver off) (ho:s.st[o]? = some (.cells ver T1 cs)):a.eval x = .pointer (some ⟨(G.ob o).blk,off,none⟩):=by
 have he:=hI.eval_of hx;obtain⟨_,h1,_⟩:=hI.agree.ob o _ ho;generalize a.eval x=v at he
 cases he with
 |bx _ _ _ b hn hv hb=>rw [hb h1]
theorem qv4 {x y:Operand} {t t' te:TypeId} {o ver off:Nat} {T1:TypeId} {cs:List AV} (hx:ql N s x = .bx o ver off) (hy:ql N s y = .bx o ver off) (ho:s.st[o]? = some (.cells ver T1 cs)) (hu:E.P.underlying t=some (.pointer te)) (hi:(E.P.info? te).isSome=true)
  (h:AOps E rd N ops rest K (s.put d (Bv false))):AOps E rd N ops (⟨d,.binOp .neq t x y t',T,p,af,none⟩::rest) K s:=by
 refine za rfl (q8 nofun fun B0 w0 G a w _ hI=>?_);obtain⟨j,hj⟩:=Option.isSome_iff_exists.1 hi;have h1:=hI.ptr hx ho;have h2:=hI.ptr hy ho;have hq:=Lib.run_neq_ptr_same (P:=E.P) w ⟨(G.ob o).blk,off,none⟩ hu hj;refine⟨_,w,G,_,s.st,?_,.refl G,hI.agree,.v _,h⟩;generalize a.eval = ρ at h1 h2;simp [execOp,h1,h2,eqGuard_at_pointer,hq]
theorem qzh {x:Operand} {t t' te:TypeId} {o ver:Nat} {T1:TypeId} {cs:List AV} (hx:ql N s x = .bx o ver 0) (ho:s.st[o]? = some (.cells ver T1 cs)) (a6:0<cs.length) (hs:E.P.underlying t=some (.pointer te)) (hd:E.P.underlying t'=some .unsafePointer) (hi:(match E.P.info? te with|some j=>Nat.beq j.size 0|none=>true)=false)
  (h:AOps E rd N ops rest K (s.put d (.bx o ver 0))):AOps E rd N ops (⟨d,.convert t t' x,T,p,af,none⟩::rest) K s:=by
 refine za rfl (q8 nofun fun B0 w0 G a w _ hI=>?_);obtain⟨_,h1,h2,h3,c,h4,h5,h6⟩:=hI.agree.ob o _ ho;have he:=hI.eval_of hx;have hv:=hI.ptr hx ho
 cases hj:E.P.info? te with
 |none=>rw [hj] at hi;simp at hi
 |some j=>
  rw [hj] at hi;have hj0:j.size≠0:=fun e=>by simp [e] at hi
  have hq:=Lib.run_to_unsafe (P:=E.P) w ⟨(G.ob o).blk,0,none⟩ hs hd hj hj0 (e:=T1) (cells:=c.size) (by simp [World.shape?,h4]) (by simpa [← h5] using a6);refine⟨_,w,G,_,s.st,?_,.refl G,hI.agree,hv▸he,h⟩;generalize a.eval = ρ at hv;simp [execOp,hv,hq]
theorem qtg {x:Operand} {t t' te:TypeId} {o ver:Nat} {T1:TypeId} {cs:List AV} (hx:ql N s x = .bx o ver 0) (ho:s.st[o]? = some (.cells ver T1 cs)) (hs:E.P.underlying t=some .unsafePointer) (hd:E.P.underlying t'=some (.pointer te)) (hi:(E.P.info? te).isSome=true) (hl:liesAt E.P E.P.depth T1 (cs.length / E.P.cellsOf T1) 0 te 1=true)
  (h:AOps E rd N ops rest K (s.put d (.bx o ver 0))):AOps E rd N ops (⟨d,.convert t t' x,T,p,af,none⟩::rest) K s:=by
 refine za rfl (q8 nofun fun B0 w0 G a w _ hI=>?_);obtain⟨_,h1,h2,h3,c,h4,h5,h6⟩:=hI.agree.ob o _ ho;obtain⟨j,hj⟩:=Option.isSome_iff_exists.1 hi;have he:=hI.eval_of hx;have hv:=hI.ptr hx ho;have hq:=Lib.run_from_unsafe (P:=E.P) w ⟨(G.ob o).blk,0,none⟩ hs hd hj (e:=T1) (cells:=c.size) (by simp [World.shape?,h4]) (by rw [← h5];exact hl);refine⟨_,w,G,_,s.st,?_,.refl G,hI.agree,hv▸he,h⟩;generalize a.eval = ρ at hv;simp [execOp,hv,hq]
theorem qzf {f:FuncId} {x:Operand} {ts:Array TypeId} {r:AV} (a4:∀ v w,(callFunc f #[v]).run E.P w = .ok (.value v) w) (hx:ql N s x=r)
  (h:AOps E rd N ops rest K (s.put d r)):AOps E rd N ops (⟨d,.call ⟨.value (.func f),#[x],ts⟩,T,p,af,none⟩::rest) K s:=by
 refine za rfl (q8 nofun fun B0 w0 G a w _ hI=>?_);refine⟨a.eval x,w,G,_,s.st,?_,.refl G,hI.agree,hI.eval_of hx,h⟩;have he:a.eval (.func f) = .func (.func f) #[] #[]:=rfl;generalize a.eval = ρ at he;simp [execOp,resolve,Deferred.ofValue,he,invoke,a4]
theorem Inv.restate {B0:Nat} {w0:World} {G G':Gh} {a:Act} {w:World} {st':List AObj} (h:Inv B0 w0 N G s a w) (hG:G.le G') (hA:zk B0 w0 G' st' w):Inv B0 w0 N G' ⟨s.t,st',s.df⟩ a w:=
 ⟨hA,h.defers_mono hG,h.size,fun i y hy=>(h.tmps i y hy).mono hG⟩
theorem q0s {o ver j sz:Nat} {T1 T':TypeId} {cs:List AV} {l:List Oper} (ho:s.st[o]? = some (.cells ver T1 cs)) (hj:cs[j]? = some zp)
  (h:AOps E rd N ops l K ⟨s.t,s.st.set o (.cells ver T1 (cs.set j (.sl sz [] (some s.st.length))))++[AObj.tip 0 sz T'],s.df⟩):AOps E rd N ops l K s:=
 ⟨fun B0 w0 G a w hL hI Q hQ=>h.run B0 w0 _ a w hL (hI.restate (G.le_new 0 0 0 false) (hI.agree.tipCell ho hj)) Q fun G' s' a' w' hG=>hQ G' s' a' w' ((G.le_new 0 0 0 false).trans hG)⟩
theorem qq4 {o ver j sz:Nat} {T1 T':TypeId} {cs:List AV} {c:Code} {Q:Exit→AS→Prop} (ho:s.st[o]? = some (.cells ver T1 cs)) (hj:cs[j]? = some zp)
  (h:AWp E rd N c Q ⟨s.t,s.st.set o (.cells ver T1 (cs.set j (.sl sz [] (some s.st.length))))++[AObj.tip 0 sz T'],s.df⟩):AWp E rd N c Q s:=
 ⟨fun B0 w0 G a w hL hI=>wpIn_mono (h.run B0 w0 _ a w hL (hI.restate (G.le_new 0 0 0 false) (hI.agree.tipCell ho hj))) fun _ _ _ ⟨G',s',hG,h1,h2⟩=>⟨G',s',(G.le_new 0 0 0 false).trans hG,h1,h2⟩⟩
theorem Inv.newTip {B0:Nat} {w0:World} {G:Gh} {a:Act} {w:World} (h:Inv B0 w0 N G s a w) {i sz:Nat} {T':TypeId} (hi:s.t i=zp):Inv B0 w0 N (G.new 0 0 0 false) ⟨Av.put s.t i (.sl sz [] (some s.st.length)),s.st++[AObj.tip 0 sz T'],s.df⟩ a w:=by
 have hA:=h.agree.newTip sz T';have h2:=h.restate (G.le_new 0 0 0 false) hA;refine⟨h2.agree,h2.defers,h2.size,fun k y hy=>?_⟩;by_cases e:k=i
 ·subst e
  show Rel _ (Av.put s.t k _ k) y
  rw [xd];have:=h2.tmps k y hy;simp only [hi] at this
  cases this
  exact .sl0 sz _ none 0 fun t ht=>by simp at ht;subst ht;exact⟨by rw [hA.n];simp,rfl,rfl⟩
 ·show Rel _ (Av.put s.t i _ k) y
  rw [qab _ _ _ _ e];exact h2.tmps k y hy
theorem q7p {i sz:Nat} {T':TypeId} {c:Code} {Q:Exit→AS→Prop} (hi:s.t i=zp)
  (h:AWp E rd N c Q ⟨Av.put s.t i (.sl sz [] (some s.st.length)),s.st++[AObj.tip 0 sz T'],s.df⟩):AWp E rd N c Q s:=
 ⟨fun B0 w0 G a w hL hI=>wpIn_mono (h.run B0 w0 _ a w hL (hI.newTip hi)) fun _ _ _ ⟨G',s',hG,h1,h2⟩=>⟨G',s',(G.le_new 0 0 0 false).trans hG,h1,h2⟩⟩
end
end Go.Av
namespace Go.Av
open Go Go.RowKit
theorem q1x:∀ (vs:List Value) (off n:Nat) (c:Array Value),off+n+vs.length≤c.size →
  ((vs.zipIdx n).foldl (fun (cs:Array Value) (x:Value×Nat)=>cs.setIfInBounds (off+x.2) x.1) c).size=c.size ∧
  ∀ k,((vs.zipIdx n).foldl (fun (cs:Array Value) (x:Value×Nat)=>cs.setIfInBounds (off+x.2) x.1) c)[k]? = if off+n≤k∧k<off+n+vs.length then vs[k - (off+n)]? else c[k]?
 | [],off,n,c,_=>⟨by simp,fun k=>by simp;intro h1 h2;omega⟩
 |v::vs,off,n,c,h=>by
  simp only [List.zipIdx_cons,List.foldl_cons,List.length_cons] at h ⊢;obtain⟨h1,h2⟩:=q1x vs off (n+1) (c.setIfInBounds (off+n) v) (by simp;omega);refine⟨by rw [h1];simp,fun k=>?_⟩;rw [h2 k];by_cases hk:k=off+n
  ·subst hk
   rw [if_neg (by omega),if_pos (by omega),Array.getElem?_setIfInBounds_self,if_pos (by omega)];simp
  ·by_cases hr:off+n≤k∧k<off+n+(vs.length+1)
   ·rw [if_pos (by omega),if_pos hr]
    rw [show k - (off+n)=(k - (off+(n+1)))+1 by omega];simp
   ·rw [if_neg (by omega),if_neg hr]
    rw [Array.getElem?_setIfInBounds,if_neg (by omega)]
def qc7 (place:Nat→Option (Nat×Nat)) (cells:List AV):List (Nat×AV)→Option (List AV)
 | []=>some cells
 |(i,x)::rest=>
  match place i with
  |none=>none
  |some (off,size)=>bif x.okc && Nat.beq x.cells.length size && Nat.ble (off+size) cells.length then qc7 place (zx cells off x.cells) rest else none
theorem qjx {G:Gh} (place:Nat→Option (Nat×Nat)):∀ (ps:List (Nat×AV)) (vs:List (Nat×Value)) (cs:List AV) (c:Array Value) (cs':List AV),ps.length=vs.length→(∀ (i:Nat) (p:Nat×AV) (v:Nat×Value),ps[i]? = some p→vs[i]? = some v→p.1=v.1∧Rel G p.2 v.2) →
  RelC G cs c→qc7 place cs ps=some cs'→∃ c',Instr.fill place c vs=some c'∧RelC G cs' c'
 | [],[],cs,c,cs',_,_,hc,h=>by
  simp only [qc7,Option.some.injEq] at h;subst h
  exact⟨c,rfl,hc⟩
 | [],v::vs,_,_,_,hl,_,_,_=>by simp at hl
 |p::ps,[],_,_,_,hl,_,_,_=>by simp at hl
 |(i,x)::ps,(j,v)::vs,cs,c,cs',hl,hr,hc,h=>by
  obtain⟨e,hx⟩:=hr 0 _ _ rfl rfl;simp only at e hx;subst e;simp only [qc7] at h;simp only [Instr.fill]
  cases hp:place i with
  |none=>simp [hp] at h
  |some q=>
   obtain⟨off,size⟩:=q;simp only [hp] at h ⊢
   cases hb:(x.okc && Nat.beq x.cells.length size && Nat.ble (off+size) cs.length) with
   |false=>simp [hb] at h
   |true=>
    simp only [hb,cond_true] at h;simp only [Bool.and_eq_true] at hb;obtain⟨⟨hok,d9⟩,b0⟩:=hb;have d9:=Nat.eq_of_beq_eq_true d9;have b0:=Nat.le_of_ble_eq_true b0;have hcx:=hx.cells hok;have nw:v.cells.size=size:=by rw [← hcx.1];exact d9
    have d3:off+v.cells.size≤c.size:=by rw [nw,← hc.1];exact b0
    rw [if_neg (by simp [nw];rw [← hc.1];exact b0)]
    have hfold:v.cells.zipIdx.foldl (fun cs (x:Value×Nat)=>cs.setIfInBounds (off+x.2) x.1) c=(v.cells.toList.zipIdx 0).foldl (fun (cs:Array Value) (x:Value×Nat)=>cs.setIfInBounds (off+x.2) x.1) c:=by
     rw [← Array.foldl_toList,Array.toList_zipIdx]
    obtain⟨g1,g2⟩:=q1x v.cells.toList off 0 c (by simpa using d3)
    have i4:RelC G (zx cs off x.cells) ((v.cells.toList.zipIdx 0).foldl (fun (cs:Array Value) (x:Value×Nat)=>cs.setIfInBounds (off+x.2) x.1) c):=by
     refine⟨?_,fun k a y h1 h2=>?_⟩
     ·rw [g1,← hc.1]
      simp [zx];omega
     ·rw [g2] at h2
      have e1:(cs.take off).length=off:=by simp;omega
      simp only [zx,List.append_assoc] at h1;by_cases hk:k<off
      ·rw [List.getElem?_append_left (by omega),List.getElem?_take,if_pos hk] at h1
       rw [if_neg (by omega)] at h2;exact hc.2 k a y h1 h2
      ·rw [List.getElem?_append_right (by omega),e1] at h1
       by_cases s3:k - off<x.cells.length
       ·rw [List.getElem?_append_left s3] at h1
        rw [if_pos ⟨by omega,by simp;omega⟩] at h2;exact hcx.2 (k - off) a y h1 (by simpa using h2)
       ·rw [List.getElem?_append_right (by omega),List.getElem?_drop] at h1
        rw [if_neg (by simp;omega)] at h2;rw [show off+x.cells.length+(k - off - x.cells.length)=k by omega] at h1;exact hc.2 k a y h1 h2
    have:=qjx place ps vs _ _ cs' (by simpa using hl) (fun i p v h1 h2=>hr (i+1) p v (by simpa using h1) (by simpa using h2)) i4 h;rw [← hfold] at this;exact this
section
variable {E : Env} {rd : Option Nat} {N : Nat} {ops : Array Oper} {K : AS → Prop} {s : AS} {rest : List Oper} {d : Option Tmp} {T : TypeId} {p : String} {af : Array Edge}
def wd (N:Nat) (s:AS) (parts:Array (Nat×Operand)):List (Nat×AV):=parts.toList.map fun x=>(x.1,ql N s x.2)
def qwt (P:Program) (t:TypeId):Option (List (Nat×Nat)):=
 match P.underlying t with
 |some (.struct fs)=>fs.toList.mapM (fun f=>(P.info? f.type).map fun i=>(f.offset,i.size))
 | _=>none
theorem qlc {B0:Nat} {w0:World} {G:Gh} {a:Act} {w:World} (hI:Inv B0 w0 N G s a w) (parts:Array (Nat×Operand)):∀ (i:Nat) (p:Nat×AV) (v:Nat×Value),(wd N s parts)[i]? = some p→(parts.toList.map fun x=>(x.1,a.eval x.2))[i]? = some v→p.1=v.1∧Rel G p.2 v.2:=fun i p v h1 h2=>by
 simp only [wd,List.getElem?_map] at h1 h2
 cases hq:parts.toList[i]? with
 |none=>simp [hq] at h1
 |some z=>simp [hq] at h1 h2;subst h1;subst h2;exact⟨rfl,hI.eval _⟩
theorem xw {t:TypeId} {parts:Array (Nat×Operand)} {zs cs:List AV} {pl:List (Nat×Nat)} (hz:qji E.P t=some zs) (hp:qwt E.P t=some pl) (hf:qc7 (pl[·]?) zs (wd N s parts)=some cs)
  (h:AOps E rd N ops rest K (s.put d (.ag cs))):AOps E rd N ops (⟨d,.build t parts,T,p,af,none⟩::rest) K s:=by
 refine za rfl (q8 nofun fun B0 w0 G a w _ hI=>?_);obtain⟨z,a4,hr⟩:=qp9 hz w;obtain⟨c',h1,h2⟩:=qjx (pl[·]?) (wd N s parts) (parts.toList.map fun x=>(x.1,a.eval x.2)) zs z.cells cs (by simp [wd]) (qlc hI parts) (hr G) hf;unfold qwt at hp;split at hp
 ·rename_i fs hu
  refine⟨.agg c',w,G,.ag cs,s.st,?_,.refl G,hI.agree,.ag _ _ h2.1 h2.2,h⟩;generalize a.eval = ρ at h1;simp [execOp,Instr.build,run_underlying hu,a4,Array.mapM_eq_mapM_toList,run_places w _ _ hp,h1]
 ·simp at hp
def qg0 (P:Program) (e:TypeId) (n:Nat):Option (List AV):=
 match P.info? e with
 |some i=>bif Nat.beq (n * i.size) 0 then some [] else i.zero.map fun z=>(List.range (n * i.size)).map fun k=>.v (z.cells[k % z.cells.size]!)
 |none=>none
theorem qlz {B0:Nat} {w0:World} {G:Gh} {a:Act} {w:World} (hI:Inv B0 w0 N G s a w) {t e:TypeId} {len sz:Nat} {agg:Bool} {parts:Array (Nat×Operand)} {zs cs:List AV} (hu:E.P.underlying t=some (.slice e)) (ht:tyOf E.P e=some (sz,agg)) (hz:qg0 E.P e len=some zs)
  (hf:qc7 (fun i=>some (i * sz,sz)) zs (wd N s parts)=some cs) (d9:Nat.ble (len * sz) 16777216=true) :
  ∃ c':Array Value,(execOp a.eval ⟨d,.buildSlice t len parts,T,p,af,none⟩).run E.P w = .ok (.value (.slice (some ⟨w.heap.size,0,none⟩) len len)) (w.alloc (.cells c' e))∧RelC G cs c':=by
 have t8:=(vj ht w).1;have d9:=Nat.le_of_ble_eq_true d9;unfold qg0 at hz
 cases hi:E.P.info? e with
 |none=>rw [hi] at hz;simp at hz
 |some i=>
  rw [hi] at hz;simp only at hz;have hs:i.size=sz:=by simpa [sizeOf,typeInfo,hi] using t8
  rw [hs] at hz
  -- the array that the run starts from
  have key:∃ c0:Array Value,RelC G zs c0∧∀ (Q:Array Value→Sem Value),((do
    let zero ← if len * sz=0 then pure #[] else do pure (← zeroValue e).cells
    Q ((Array.range (len * sz)).map (zero[· % zero.size]!)):Sem Value)).run E.P w=(Q c0).run E.P w:=by
   by_cases h0:len * sz=0
   ·rw [h0] at hz
    simp at hz;subst hz;exact⟨#[],⟨rfl,by simp⟩,fun Q=>by have e:Array.range 0 = #[]:=(by simp [Array.range]);simp [h0,e]⟩
   ·have:Nat.beq (len * sz) 0=false:=j9 h0
    rw [this] at hz;simp only [cond_false] at hz
    cases hzr:i.zero with
    |none=>rw [hzr] at hz;simp at hz
    |some z=>
     rw [hzr] at hz;simp only [Option.map_some,Option.some.injEq] at hz;subst hz;refine⟨(Array.range (len * sz)).map (z.cells[· % z.cells.size]!),⟨by simp,fun k x y h1 h2=>?_⟩,fun Q=>by simp [h0,zeroValue,typeInfo,hi,hzr]⟩;have hk:k<len * sz:=by have:=lt_of_getElem? h1;simpa using this
     simp [hk] at h1 h2;subst h1;subst h2;exact .v _
  obtain⟨c0,hc0,hrun0⟩:=key;obtain⟨c',h1,h2⟩:=qjx (fun i=>some (i * sz,sz)) (wd N s parts) (parts.toList.map fun x=>(x.1,a.eval x.2)) zs c0 cs (by simp [wd]) (qlc hI parts) hc0 hf;refine⟨c',?_,h2⟩
  ·generalize a.eval = ρ at h1
   have hb:¬ 16777216<len * sz:=by omega
   have hg:∃ m:String,(execOp ρ ⟨d,.buildSlice t len parts,T,p,af,none⟩).run E.P w=(((do
    let zero ← if len * sz=0 then pure #[] else do pure (← zeroValue e).cells
    (fun c=>(do
    let some cells:=Instr.fill (fun i=>some (i * sz,sz)) c (parts.map fun x=>(x.1,ρ x.2)).toList|stuck m
    pure (Value.slice (some (← newRow e cells)) len len):Sem Value)) ((Array.range (len * sz)).map (zero[· % zero.size]!)):Sem Value)).run E.P w).andThen fun v w'=>.ok (.value v) w':=by
    apply Exists.intro;simp only [execOp,Instr.buildSlice];simp [run_underlying hu,t8,hb];rfl
   obtain⟨m,hg⟩:=hg
   have hQ:=hrun0 (fun c=>do
    let some cells:=Instr.fill (fun i=>some (i * sz,sz)) c (parts.map fun x=>(x.1,ρ x.2)).toList|stuck m
    pure (.slice (some (← newRow e cells)) len len))
   rw [hg,hQ];simp [h1,newRow,newObj,Sem.run]
theorem v6 {t e:TypeId} {len sz:Nat} {agg:Bool} {parts:Array (Nat×Operand)} {zs cs xs:List AV} (hu:E.P.underlying t=some (.slice e)) (ht:tyOf E.P e=some (sz,agg)) (hz:qg0 E.P e len=some zs)
  (hf:qc7 (fun i=>some (i * sz,sz)) zs (wd N s parts)=some cs) (dv:(wd N s parts).map Prod.snd=xs) (a7:xs.length=len) (d8:flat xs=cs) (hw:xs.all (fun x=>Nat.beq x.cells.length sz)=true) (d9:Nat.ble (len * sz) 16777216=true)
  (h:AOps E rd N ops rest K (s.put d (.sl sz xs none))):AOps E rd N ops (⟨d,.buildSlice t len parts,T,p,af,none⟩::rest) K s:=by
 refine za rfl (q8 nofun fun B0 w0 G a w _ hI=>?_);obtain⟨c',a4,h2⟩:=qlz (d:=d) (T:=T) (p:=p) (af:=af) hI hu ht hz hf d9;obtain⟨b0,hA⟩:=hI.agree.newPub e c' (0,0) c'.toList (fun i y hy=>by simpa using hy);refine⟨.slice (some ⟨w.heap.size,0,none⟩) len len,w.alloc (.cells c' e),_,.sl sz xs none,s.st,a4,b0,hA,?_,h⟩;rw [← a7]
 cases xs with
 |nil=>exact .sl0 sz none _ _ (by simp)
 |cons x0 xr=>
  refine .sl sz _ none w.heap.size 0 _ c'.toList (by simp [Gh.publish]) (fun x hx=>?_) (by rw [d8,h2.1];simp) (fun k x y g1 g2=>?_) (fun t ht=>by simp at ht) (Nat.le_refl _)
  ·exact Nat.eq_of_beq_eq_true (List.all_eq_true.1 hw x hx)
  ·rw [d8] at g1
   exact (h2.2 k x y g1 (by simpa using g2)).mono b0
end
end Go.Av
namespace Go.Av
open Go Go.RowKit
inductive qbr (n:Nat):List AObj→List AObj→Prop
 |nil:qbr n [] []
 |same {l l':List AObj} (x:AObj) (h:qbr n l l'):qbr n (x::l) (x::l')
 |cut {l l':List AObj} {x x':AObj} (hx:qiq n x') (h:qbr n l l'):qbr n (x::l) (x'::l')
 |loop {l l':List AObj} {ls ls':LoopState} {pend pend':Option Code} {N:Nat} {t:Nat→AV} {ps:Array Tmp} {asg body:Code} (h:qbr n l l'):qbr n (.loop ls pend N t ps asg body::l) (.loop ls' pend' N t ps asg body::l')
theorem qi5 (n:Nat):∀ l,qbr n l l
 | []=>.nil
 |x::l=>.same x (qi5 n l)
theorem qk3 {n:Nat} {l l':List AObj} (h:qbr n l l'):∀ st,qbr n (st++l) (st++l')
 | []=>h
 |x::st=>.same x (qk3 h st)
theorem qbr.length {n:Nat} {l l':List AObj} (h:qbr n l l'):l'.length=l.length:=by
 induction h with
 |nil=>rfl
 | _=>simpa
theorem qbr.get {n:Nat} {l l':List AObj} (h:qbr n l l') (hc:∀ (o:Nat) (x:AObj),l[o]? = some x→qiq n x):∀ (o:Nat) (x:AObj),l'[o]? = some x→qiq n x:=by
 induction h with
 |nil=>exact hc
 |same y h ih=>
  intro o x hx
  cases o with
  |zero=>exact hc 0 x hx
  |succ o=>exact ih (fun o x h=>hc (o+1) x h) o x (by simpa using hx)
 |cut c9 h ih=>
  intro o x hx
  cases o with
  |zero=>simp at hx;subst hx;exact c9
  |succ o=>exact ih (fun o x h=>hc (o+1) x h) o x (by simpa using hx)
 |loop h ih=>
  intro o x hx
  cases o with
  |zero=>simp at hx;subst hx;have h0:=hc 0 _ rfl;exact h0
  |succ o=>exact ih (fun o x h=>hc (o+1) x h) o x (by simpa using hx)
theorem q4e {E:Env} {o:Nat} {xs:List AV} {st:List AObj} {R:Bool→List AObj→Prop}
  (h:y9 E o xs st fun b st2=>∃ st1 ext,st2=st1++ext∧qbr st.length st st1∧R b st1):y9 E o xs st R:=by
 refine⟨fun B0 w0 G vals w hL hA hR=>?_⟩;obtain⟨f,tmps,asg,body,h1,h2⟩:=h.run B0 w0 G vals w hL hA hR;refine⟨f,tmps,asg,body,h1,h2.mono ?_⟩;rintro e w' ⟨b,G',st2,he,hG,hA',st1,ext,rfl,hk,hRR⟩;have b0:=hG.cut;rw [hA.n] at b0;refine⟨b,G'.cut st.length,st1,he,b0,?_,hRR⟩;have hd:=hk.get (fun o x hx=>hA.cutOb hx);have hl:=hk.length;rw [← hl] at hd ⊢;exact hA'.drop hd
theorem qq8 {n ver:Nat} {T:TypeId} {cs:List AV} (h:∀ x∈cs,Cut n x):qiq n (.cells ver T cs):=h
theorem qxu {n a b:Nat} {T:TypeId}:qiq n (.tip a b T):=trivial
theorem zae {n o ver off:Nat} (h:o<n):Cut n (.bx o ver off):=qgo (.bx o ver off h)
theorem qxv {n tp:Nat} {l:List UInt8} (h:tp<n):Cut n (.sl 1 (l.map fun c=>.v (.int .u8 (c.toNat:Nat))) (some tp)):=by
 refine qgo (.sl 1 _ _ (fun i x hx=>?_) (fun t ht=>by simp at ht;omega));have:=qi2 l;rw [this] at hx;simp only [List.getElem?_map] at hx
 cases hq:l[i]? with
 |none=>simp [hq] at hx
 |some c=>simp [hq] at hx;subst hx;exact .v _
def qmi (F:LoopState→Option Code→AObj) (N:Nat) (t:Nat→AV) (ps:Array Tmp) (asg body:Code):Prop:=∀ ls pend,F ls pend=AObj.loop ls pend N t ps asg body
theorem q8h {n:Nat} {l l':List AObj} {F:LoopState→Option Code→AObj} {ls ls':LoopState} {pend pend':Option Code} {N:Nat} {t:Nat→AV} {ps:Array Tmp} {asg body:Code} (hF:qmi F N t ps asg body) (h:qbr n l l'):qbr n (F ls pend::l) (F ls' pend'::l'):=by
 rw [hF,hF];exact .loop h
@[reducible] def zkb (o : Nat) (F : LoopState → Option Code → AObj) (R : Bool → List AObj → Prop) : Exit → AS → Prop
 | .normal,s=>s.st[o]? = some (F .busy none)∧R true (s.st.set o (F .ready none))
 | .ret,s=>s.st[o]? = some (F .busy none)∧R false (s.st.set o (F .done (some .ret)))
 | .exit id,s=>s.st[o]? = some (F .busy none)∧R false (s.st.set o (F .done (some (.exit id))))
 | _,_=>False
theorem qr7 {E:Env} {o N:Nat} {t:Nat→AV} {ps:Array Tmp} {asg body:Code} {st:List AObj} {R:Bool→List AObj→Prop} {xs:List AV} {F:LoopState→Option Code→AObj} (hF:qmi F N t ps asg body) (ho:st[o]? = some (F .ready none)) (pg:ps.size=xs.length)
  (h:∀ l,AWp E (some l) N asg (only fun s1=>s1.st[o]? = some (F .ready none)∧s1.df=[]∧AWp E (some l) N body (zkb o F R) ⟨s1.t,s1.st.set o (F .busy none),[]⟩) ⟨qlg t (ps.toList.zip xs),st,[]⟩):y9 E o xs st R:=by
 refine q4c (N:=N) (t:=t) (ps:=ps) (asg:=asg) (body:=body) (by rw [ho,hF]) pg fun l=>(h l).mono fun e s1 hq=>?_
 cases e with
 |normal=>
  obtain⟨h1,h2,h3⟩:=hq;refine⟨by rw [h1,hF],h2,?_⟩;rw [hF] at h3;refine h3.mono fun e s2 cj=>?_
  cases e with
  |normal=>obtain⟨k1,k2⟩:=cj;exact⟨by rw [k1,hF],by rw [hF] at k2;exact k2⟩
  |ret=>obtain⟨k1,k2⟩:=cj;exact⟨by rw [k1,hF],by rw [hF] at k2;exact k2⟩
  |exit id=>obtain⟨k1,k2⟩:=cj;exact⟨by rw [k1,hF],by rw [hF] at k2;exact k2⟩
  | _=>exact cj.elim
 | _=>exact hq.elim
theorem qmq {E:Env} {N:Nat} {Q:Exit→AS→Prop} {s:AS} {f:Operand} {ps:Array Tmp} {asg body:Code} {st loc:List AObj} {g:FuncId} {fs cs:List AV} (b7:s.st=st++loc) (hx:ql N s f = .fn (.func g) fs cs)
  (a4:∀ vs w,(callFunc g vs).run E.P w = .ok (.enter g vs) w)
  (h:∀ F,qmi F N s.t ps asg body→qo E g (fs++[.yd (st.length+(loc.length+1))]++cs) (st++(loc++[.dfr,F .ready none])) fun _ st'=>∃ ls pend,ls≠LoopState.busy∧st'[st.length+(loc.length+1)]? = some (F ls pend) ∧
   match pend with
   |none=>Q .normal ⟨s.t,st'.set (st.length+(loc.length+1)) .dead,(st.length+loc.length)::s.df⟩
   |some c=>AWp E none N c Q ⟨s.t,st'.set (st.length+(loc.length+1)) .dead,(st.length+loc.length)::s.df⟩):AWp E none N (.rangeFunc f ps asg body) Q s:=
 qzj b7 hx a4 ((h (fun ls pend=>.loop ls pend N s.t ps asg body) (fun _ _=>rfl)).mono fun _ _ ⟨ls,pend,h1,h2,h3⟩=>⟨ls,pend,h1,h2,h3⟩)
theorem qfy {E:Env} {rd:Option Nat} {N:Nat} {c:Code} {Q:Exit→AS→Prop} {s:AS} (L:List (Nat×AV)) (st':List AObj) (df':List Nat) (h:HasL s.t L) (b7:s.st=st') (d7:s.df=df') (k:∀ t,AWp E rd N c Q ⟨puts t L,st',df'⟩):AWp E rd N c Q s:=by
 have:=k s.t;rw [qjn h,← b7,← d7] at this;exact this
theorem qhs {E:Env} {B0:Nat} {w0:World} {N:Nat} {G:Gh} {s:AS} {a:Act} {w:World} (hI:Inv B0 w0 N G s a w) {x:Operand} {t:TypeId} {sz:Nat} {agg:Bool} {o ver off:Nat} {T':TypeId} {cs:List AV} {r:AV} (hx:ql N s x = .bx o ver off) (ho:s.st[o]? = some (.cells ver T' cs)) (ht:tyOf E.P t=some (sz,agg)) (hr:j8 sz agg off cs=some r) :
  ∃ b v,a.eval x = .pointer (some ⟨b,off,none⟩)∧(loadVar t ⟨b,off,none⟩).run E.P w = .ok v w∧Rel G r v:=by
 have he:=hI.eval_of hx;generalize hv:a.eval x=v at he
 cases he with
 |bx _ _ _ b hn r9 hb=>
  obtain⟨_,h1,h2,h3,c,h4,h5,h6⟩:=hI.agree.ob o _ ho;have hb:=hb h1;rw [hb] at h4
  obtain⟨v,a4,hR⟩:=qbb (w:=w) (G:=G) (b:=b) (off:=off) (off':=off) ht (fun i x hx hi=>by
   obtain⟨y,hy⟩:=wr hx (Nat.le_of_eq h5);refine⟨y,?_,h6 i x y hx hy⟩
   simp [World.cell?,h4,show off+(i - off)=i by omega,hy]) hr
  exact⟨b,v,rfl,a4,hR⟩
theorem q7k {E:Env} {fn:Func} {s:AS} {t u:Tmp} {Ta Tb:TypeId} {o1 v1 f1 sz1:Nat} {agg1:Bool} {T1:TypeId} {cs1:List AV} {r1:AV} {o2 v2 f2 sz2:Nat} {agg2:Bool} {T2:TypeId} {cs2:List AV} {r2:AV} (hr:fn.results = #[.cell t Ta,.cell u Tb])
  (rn:ql fn.ntmps s (.tmp t) = .bx o1 v1 f1) (ho1:s.st[o1]? = some (.cells v1 T1 cs1)) (ht1:tyOf E.P Ta=some (sz1,agg1)) (r6:j8 sz1 agg1 f1 cs1=some r1)
  (hx2:ql fn.ntmps s (.tmp u) = .bx o2 v2 f2) (dr:s.st[o2]? = some (.cells v2 T2 cs2)) (ht2:tyOf E.P Tb=some (sz2,agg2)) (lf:j8 sz2 agg2 f2 cs2=some r2):ARes E fn s (.tu [r1,r2]):=by
 refine⟨fun B0 w0 G a w _ hI=>?_⟩;obtain⟨b1,y1,e1,e2,e3⟩:=qhs hI rn ho1 ht1 r6;obtain⟨b2,y2,k1,k2,k3⟩:=qhs hI hx2 dr ht2 lf;simp only [Act.eval,Array.getD_eq_getD_getElem?] at e1 k1;refine⟨.tuple #[y1,y2],?_,qf8 e3 k3⟩;simp [results,hr,e1,k1,asAddr,e2,k2]
theorem qn2 {E:Env} {fn:Func} {R:AV→List AObj→Prop} {s:AS} {st loc:List AObj} {k:Nat} {ds:List Nat} (hs:s.st=st++loc) (hd:s.df=(st.length+k)::ds) (ho:loc[k]? = some .dfr) (h:ARet E fn R ⟨s.t,st++loc.set k .dead,ds⟩):ARet E fn R s:=
 qom hd (by rw [hs];exact jy ho) (by rw [hs,yn];exact h)
theorem qlx {E:Env} {fn:Func} {s:AS} {t u:Tmp} {Ta Tb:TypeId} {st loc:List AObj} {k1 v1 f1 sz1:Nat} {agg1:Bool} {T1:TypeId} {cs1:List AV} {r1:AV} {k2 v2 f2 sz2:Nat} {agg2:Bool} {T2:TypeId} {cs2:List AV} {r2:AV} (hr:fn.results = #[.cell t Ta,.cell u Tb]) (hs:s.st=st++loc)
  (rn:ql fn.ntmps s (.tmp t) = .bx (st.length+k1) v1 f1) (ho1:loc[k1]? = some (.cells v1 T1 cs1)) (ht1:tyOf E.P Ta=some (sz1,agg1)) (r6:j8 sz1 agg1 f1 cs1=some r1)
  (hx2:ql fn.ntmps s (.tmp u) = .bx (st.length+k2) v2 f2) (dr:loc[k2]? = some (.cells v2 T2 cs2)) (ht2:tyOf E.P Tb=some (sz2,agg2)) (lf:j8 sz2 agg2 f2 cs2=some r2):ARes E fn s (.tu [r1,r2]):=
 q7k hr rn (by rw [hs];exact jy ho1) ht1 r6 hx2 (by rw [hs];exact jy dr) ht2 lf
@[reducible] def Wv (x : BitVec 32) : AV := .v (.int .u32 (x.toNat : Nat))
theorem qhh (n:Nat):IntKind.u32.wrap (n:Int)=((n % 4294967296:Nat):Int):=by
 simp [IntKind.wrap,IntKind.bits,IntKind.signed]
theorem jb (x:BitVec 32):BitVec.ofInt 32 (x.toNat:Int)=x:=by
 rw [BitVec.ofInt_natCast,BitVec.ofNat_toNat];simp
theorem qgz (x:BitVec 32):IntKind.u32.wrap (x.toNat:Int)=(x.toNat:Int):=by
 rw [qhh,Nat.mod_eq_of_lt x.isLt]
section
variable {E : Env} {rd : Option Nat} {N : Nat} {ops : Array Oper} {K : AS → Prop} {s : AS} {rest : List Oper} {d : Option Tmp} {T : TypeId} {p : String} {af : Array Edge}
theorem qvu (x:BitVec 32):((x.toNat:Nat):Int)=0↔x=0#32:=by
 constructor
 ·intro h
  apply BitVec.eq_of_toNat_eq
  simpa using h
 ·rintro rfl
  rfl
theorem qc4 {x y:Operand} {t t':TypeId} {m n:Int} {a b:BitVec 32} (hx:ql N s x = .v (.int .u32 m)) (hy:ql N s y = .v (.int .u32 n)) (ha:BitVec.ofInt 32 m=a) (hb:BitVec.ofInt 32 n=b) (h:AOps E rd N ops rest K (s.put d (Wv (a ^^^ b)))):AOps E rd N ops (⟨d,.binOp .xor t x y t',T,p,af,none⟩::rest) K s:=
 zdj hx hy (by subst ha;subst hb;simp only [qc5,IntKind.bits];rw [qgz];rfl) h
theorem qis {x y:Operand} {t t':TypeId} {m n:Int} {a b:BitVec 32} (hx:ql N s x = .v (.int .u32 m)) (hy:ql N s y = .v (.int .u32 n)) (ha:BitVec.ofInt 32 m=a) (hb:BitVec.ofInt 32 n=b) (h:AOps E rd N ops rest K (s.put d (Wv (a &&& b)))):AOps E rd N ops (⟨d,.binOp .and t x y t',T,p,af,none⟩::rest) K s:=
 zde hx hy (by subst ha;subst hb;simp only [qc5,IntKind.bits];rw [qgz];rfl) h
theorem qxi {x y:Operand} {t t':TypeId} {m n:Int} {a b:BitVec 32} (hx:ql N s x = .v (.int .u32 m)) (hy:ql N s y = .v (.int .u32 n)) (ha:BitVec.ofInt 32 m=a) (hb:BitVec.ofInt 32 n=b) (h:AOps E rd N ops rest K (s.put d (Wv (a |||b)))):AOps E rd N ops (⟨d,.binOp .or t x y t',T,p,af,none⟩::rest) K s:=
 zgq hx hy (by subst ha;subst hb;simp only [qc5,IntKind.bits];rw [qgz];rfl) h
theorem qgg {x:Operand} {t:TypeId} {a:BitVec 32} (hx:ql N s x=Wv a) (h:AOps E rd N ops rest K (s.put d (Wv (~~~ a)))):AOps E rd N ops (⟨d,.unOp .xor t x,T,p,af,none⟩::rest) K s:=
 q7h hx (by
  simp only [qc5,IntKind.bits,IntKind.signed,Bool.false_eq_true,if_false];rw [jb];have h1:BitVec.ofInt 32 IntKind.u32.max=BitVec.allOnes 32:=by decide
  have h2:BitVec.ofInt 32 IntKind.u32.max ^^^ a = ~~~ a:=by rw [h1,BitVec.xor_comm,BitVec.xor_allOnes]
  exact (congrArg (fun z:BitVec 32=>IntKind.u32.wrap (z.toNat:Int)) h2).trans (qgz _)) h
theorem qeg {x y:Operand} {t t':TypeId} {yk:IntKind} {a:BitVec 32} {n:Nat} (hx:ql N s x=Wv a) (hy:ql N s y = .v (.int yk (n:Int))) (hn:Nat.ble n 32=true) (h:AOps E rd N ops rest K (s.put d (Wv (a <<< n)))):AOps E rd N ops (⟨d,.binOp .shl t x y t',T,p,af,none⟩::rest) K s:=
 zdh hx hy (by omega) (by
  have hn:=Nat.le_of_ble_eq_true hn;have:min (n:Int).toNat IntKind.u32.bits=n:=by simp [IntKind.bits];omega
  rw [this];have e:(a.toNat:Int) * 2 ^ n=((a.toNat * 2 ^ n:Nat):Int):=by simp
  rw [e,qhh,BitVec.toNat_shiftLeft,Nat.shiftLeft_eq]) h
theorem qgi {x y:Operand} {t t':TypeId} {yk:IntKind} {a:BitVec 32} {n:Nat} (hx:ql N s x=Wv a) (hy:ql N s y = .v (.int yk (n:Int))) (hn:Nat.ble n 32=true) (h:AOps E rd N ops rest K (s.put d (Wv (a >>> n)))):AOps E rd N ops (⟨d,.binOp .shr t x y t',T,p,af,none⟩::rest) K s:=
 zdi hx hy (by omega) (by
  have hn:=Nat.le_of_ble_eq_true hn;have:min (n:Int).toNat IntKind.u32.bits=n:=by simp [IntKind.bits];omega
  rw [this,BitVec.toNat_ushiftRight,Nat.shiftRight_eq_div_pow]
  have h0:(0:Int)≤2 ^ n:=by
   have:((2 ^ n:Nat):Int)=(2:Int) ^ n:=by simp
   rw [← this];exact Int.natCast_nonneg _
  rw [Int.fdiv_eq_ediv_of_nonneg _ h0]
  simp) h
theorem qhl {x y:Operand} {t e:TypeId} {len sz:Nat} {agg:Bool} {k:IntKind} {n:Nat} {cs:List AV} {r:AV} (hx:ql N s x = .ag cs) (hy:ql N s y = .v (.int k (n:Int))) (hu:E.P.underlying t=some (.array len e)) (ht:tyOf E.P e=some (sz,agg)) (hn:n<len) (hr:j8 sz agg (n * sz) cs=some r)
  (h:AOps E rd N ops rest K (s.put d r)):AOps E rd N ops (⟨d,.index t x y,T,p,af,none⟩::rest) K s:=by
 refine za rfl (q8 nofun fun B0 w0 G a w _ hI=>?_);have he:=hI.eval_of hx;have u6:=hI.evalv hy;generalize hv:a.eval x=v at he
 cases he with
 |ag _ vs hl d5=>
  obtain⟨i1,i2⟩:=vj ht w
  cases agg with
  |false=>
   simp only [j8,cond_false] at hr;obtain⟨z,hz⟩:=wr hr (Nat.le_of_eq hl);refine⟨z,w,G,r,s.st,?_,.refl G,hI.agree,d5 _ r z hr hz,h⟩;generalize a.eval = ρ at hv u6;simp only [execOp,hv,u6]
   simp [Instr.index,asIntOf,run_underlying hu,hn,part,i1,i2,hz]
  |true=>
   simp only [j8,cond_true] at hr
   cases hb:Nat.ble (n * sz+sz) cs.length with
   |false=>rw [hb] at hr;simp at hr
   |true=>
    rw [hb] at hr;simp only [cond_true,Option.some.injEq] at hr;have b0:n * sz+sz≤cs.length:=Nat.le_of_ble_eq_true hb;refine⟨.agg (vs.extract (n * sz) (n * sz+sz)),w,G,r,s.st,?_,.refl G,hI.agree,?_,h⟩
    ·generalize a.eval = ρ at hv u6
     simp only [execOp,hv,u6];simp [Instr.index,asIntOf,run_underlying hu,hn,part,i1,i2]
    ·subst hr
     refine .ag _ _ (by simp;omega) fun i x y h1 h2=>?_;have hi:i<sz:=by have:=lt_of_getElem? h1;simp at this;omega
     simp [hi,List.getElem?_drop] at h1;rw [Array.getElem?_extract] at h2;split at h2
     ·exact d5 (n * sz+i) x y h1 h2
     ·simp at h2
theorem qbs {x y:Operand} {t e:TypeId} {len sz:Nat} {agg:Bool} {k:IntKind} {n o ver off:Nat} (hx:ql N s x = .bx o ver off) (hy:ql N s y = .v (.int k (n:Int))) (hu:E.P.underlying t=some (.array len e)) (ht:tyOf E.P e=some (sz,agg)) (hn:n<len)
  (h:AOps E rd N ops rest K (s.put d (.bx o ver (off+n * sz)))):AOps E rd N ops (⟨d,.indexAddr t x y,T,p,af,none⟩::rest) K s:=by
 refine za rfl (q8 nofun fun B0 w0 G a w _ hI=>?_);have he:=hI.eval_of hx;have u6:=hI.evalv hy;generalize hv:a.eval x=v at he
 cases he with
 |bx _ _ _ b fg p8 hb=>
  refine⟨.pointer (some ⟨b,off+n * sz,none⟩),w,G,_,s.st,?_,.refl G,hI.agree,.bx o ver _ b fg p8 hb,h⟩;generalize a.eval = ρ at hv u6;simp only [execOp,hv,u6];simp [Instr.indexAt,asIntOf,run_underlying hu,Instr.sureAddr,hn,(vj ht w).1,Addr.add_lit]
theorem qtf {x:Operand} {t t':TypeId} {k:IntKind} {n:Nat} {e:TypeDesc} (hx:ql N s x = .v (.int k (n:Int))) (hs:E.P.underlying t=some e) (hd:E.P.underlying t'=some (.int .u32)) (hn:n<4294967296)
  (h:AOps E rd N ops rest K (s.put d (Wv (BitVec.ofNat 32 n)))):AOps E rd N ops (⟨d,.convert t t' x,T,p,af,none⟩::rest) K s:=
 qef hx hs hd (by rw [qhh,Nat.mod_eq_of_lt hn,BitVec.toNat_ofNat,Nat.mod_eq_of_lt hn]) h
theorem qv5 {x y:Operand} {t:TypeId} {sz:Nat} {agg:Bool} {st loc loc':List AObj} {k ver off:Nat} {T':TypeId} {cs xs:List AV} {r:AV} (hs:s.st=st++loc) (hx:ql N s x = .bx (st.length+k) ver off) (hy:ql N s y=r) (ho:loc[k]? = some (.cells ver T' cs)) (ht:tyOf E.P t=some (sz,agg))
  (hok:r.okc=true) (hc:r.cells=xs) (d9:Nat.beq xs.length sz=true) (h1:j7 xs=true) (d3:off+sz≤cs.length) (hl:loc'=loc.set k (.cells ver T' (zx cs off xs)))
  (h:AOps E rd N ops rest K (AS.put ⟨s.t,st++loc',s.df⟩ d (.v undef))):AOps E rd N ops (⟨d,.store t x y,T,p,af,none⟩::rest) K s:=
 z4 hs hx hy ho ht hok hc d9 h1 (Nat.ble_eq_true_of_le d3) hl h
theorem q89 {cs:List AV} {off:Nat} {x:AV} (h:off<cs.length):zx cs off [x]=cs.set off x:=by
 rw [List.set_eq_take_append_cons_drop,if_pos h];simp [zx]
theorem qcw {t:Nat→AV} {L:List (Nat×AV)} {st st':List AObj} {df:List Nat} (h:HasL t L) (e:st'=st):StA L st df ⟨t,st',df⟩:=by
 subst e;exact zz h
theorem qv9 {fn:Func} {t:Tmp} {Ta:TypeId} {st loc:List AObj} {k1 v1 f1 sz1:Nat} {agg1:Bool} {T1:TypeId} {cs1:List AV} {r1:AV} (hr:fn.results = #[.cell t Ta]) (hs:s.st=st++loc)
  (rn:ql fn.ntmps s (.tmp t) = .bx (st.length+k1) v1 f1) (ho1:loc[k1]? = some (.cells v1 T1 cs1)) (ht1:tyOf E.P Ta=some (sz1,agg1)) (r6:j8 sz1 agg1 f1 cs1=some r1):ARes E fn s r1:=by
 refine⟨fun B0 w0 G a w _ hI=>?_⟩;obtain⟨b1,y1,e1,e2,e3⟩:=qhs hI rn (by rw [hs];exact jy ho1) ht1 r6;simp only [Act.eval,Array.getD_eq_getD_getElem?] at e1;refine⟨y1,?_,e3⟩;simp [results,hr,e1,asAddr,e2]
def qwa (P:Program) (t:TypeId):Option Nat:=
 match P.underlying t with
 |some (.array _ e)=>match P.info? e with
  |some i=>some i.size
  |none=>none
 | _=>none
theorem q4b {P:Program} {t:TypeId} {sz:Nat} (h:qwa P t=some sz):∃ len e i,P.underlying t=some (.array len e)∧P.info? e=some i∧i.size=sz:=by
 unfold qwa at h;split at h
 ·rename_i len e hu
  split at h
  ·rename_i i hi
   simp only [Option.some.injEq] at h;exact⟨len,e,i,hu,hi,h⟩
  ·simp at h
 ·simp at h
theorem qok {t:TypeId} {parts:Array (Nat×Operand)} {zs cs:List AV} {sz:Nat} (hz:qji E.P t=some zs) (hp:qwa E.P t=some sz) (hf:qc7 (fun i=>some (i * sz,sz)) zs (wd N s parts)=some cs)
  (h:AQ E N ops rest K (s.put d (.ag cs))):AQ E N ops (⟨d,.build t parts,T,p,af,none⟩::rest) K s:=by
 refine qfd rfl nofun fun B0 w0 G a w _ hI=>?_;obtain⟨len,e,i,hu,hi,rfl⟩:=q4b hp;obtain⟨z,a4,hr⟩:=qp9 hz w;obtain⟨c',h1,h2⟩:=qjx (fun k=>some (k * i.size,i.size)) (wd N s parts) (parts.toList.map fun x=>(x.1,a.eval x.2)) zs z.cells cs (by simp [wd]) (qlc hI parts) (hr G) hf
 have u0:∃ ti,E.P.info? t=some ti∧ti.zero=some z:=by
  unfold zeroValue at a4;simp [typeInfo] at a4
  cases hti:E.P.info? t with
  |none=>simp [hti] at a4
  |some ti=>
   simp [hti] at a4
   cases htz:ti.zero with
   |none=>simp [htz] at a4
   |some y=>simp [htz] at a4;exact⟨ti,rfl,by rw [htz,a4]⟩
 obtain⟨ti,g1,g2⟩:=u0;refine⟨.agg c',.ag cs,fun w' _=>?_,.ag _ _ h2.1 h2.2,h⟩;generalize a.eval = ρ at h1;simp [execOp,Instr.build,run_underlying hu,zeroValue,typeInfo,g1,g2,sizeOf,hi,h1]
theorem q0u {x y:Operand} {t:TypeId} {m:List UInt8} {k:IntKind} {n:Nat} (hx:ql N s x=Sv m) (hy:ql N s y = .v (.int k (n:Int))) (hu:E.P.underlying t=some .string) (h1:n<m.length)
  (h:AQ E N ops rest K (s.put d (Uv (m.getD n 0)))):AQ E N ops (⟨d,.index t x y,T,p,af,none⟩::rest) K s:=
 qbu _ rfl nofun (fun a w he=>by
  have hg:(⟨m.toArray⟩:ByteArray)[n]? = some (m.getD n 0):=by
   simp only [getElem?_def,qbc,h1,dite_true,List.getD,Option.getD_some];rfl
  simp [execOp,Instr.index,he _ _ hx,he _ _ hy,asIntOf,run_underlying hu,hg]) h
theorem qr4 {x:Operand} {t t':TypeId} {k:IntKind} {n:Nat} {e:TypeDesc} (hx:ql N s x = .v (.int k (n:Int))) (hs:E.P.underlying t=some e) (hd:E.P.underlying t'=some (.int .u32)) (hn:n<4294967296)
  (h:AQ E N ops rest K (s.put d (Wv (BitVec.ofNat 32 n)))):AQ E N ops (⟨d,.convert t t' x,T,p,af,none⟩::rest) K s:=by
 have hr:IntKind.u32.wrap (n:Int)=(((BitVec.ofNat 32 n).toNat:Nat):Int):=by rw [qhh,Nat.mod_eq_of_lt hn,BitVec.toNat_ofNat,Nat.mod_eq_of_lt hn]
 exact qbu _ rfl nofun (fun a w he=>by rw [← hr];simp [execOp,he _ _ hx,convert,run_underlying hs,run_underlying hd,Conv.intToInt]) h
theorem qv7 {x y:Operand} {t t':TypeId} {yk:IntKind} {c:UInt8} (hx:ql N s x=Uv c) (hy:ql N s y = .v (.int yk 4)) (h:AQ E N ops rest K (s.put d (.v (.int .u8 ((c.toNat / 16:Nat):Int))))):AQ E N ops (⟨d,.binOp .shr t x y t',T,p,af,none⟩::rest) K s:=
 qbu _ rfl nofun (fun a w he=>by
  have:(c.toNat:Int).fdiv (2 ^ (min (4:Int).toNat IntKind.u8.bits))=((c.toNat / 16:Nat):Int):=by
   rw [Int.fdiv_eq_ediv_of_nonneg _ (by decide)];simp [IntKind.bits]
  rw [← this]
  simp [execOp,he _ _ hx,he _ _ hy,eqGuard_at_int,binOp_shr,Op.shift]) h
theorem qr2 {x y:Operand} {t t':TypeId} {c:UInt8} (hx:ql N s x=Uv c) (hy:ql N s y = .v (.int .u8 15)) (h:AQ E N ops rest K (s.put d (.v (.int .u8 ((c.toNat % 16:Nat):Int))))):AQ E N ops (⟨d,.binOp .and t x y t',T,p,af,none⟩::rest) K s:=
 zi8 hx hy (by
  simp only [qc5,IntKind.bits];have h1:BitVec.ofInt 8 (c.toNat:Int)=c.toBitVec:=by rw [BitVec.ofInt_natCast];simp
  have h2:(BitVec.ofInt 8 (c.toNat:Int) &&& BitVec.ofInt 8 15).toNat=c.toNat % 16:=by
   rw [h1,BitVec.toNat_and];exact Nat.and_two_pow_sub_one_eq_mod c.toNat 4
  have h3:IntKind.u8.wrap ((c.toNat % 16:Nat):Int)=((c.toNat % 16:Nat):Int):=by
   simp [IntKind.wrap,IntKind.bits,IntKind.signed];omega
  exact (congrArg (fun z:Nat=>IntKind.u8.wrap (z:Int)) h2).trans h3) h
theorem q38 {x y:Operand} {t t':TypeId} {yk:IntKind} {a:BitVec 32} {m:Int} {n:Nat} (hx:ql N s x=Wv a) (hy:ql N s y = .v (.int yk m)) (hm:m=(n:Int)) (hn:n≤32) (h:AOps E rd N ops rest K (s.put d (Wv (a >>> n)))):AOps E rd N ops (⟨d,.binOp .shr t x y t',T,p,af,none⟩::rest) K s:=
 qgi hx (hm▸hy) (Nat.ble_eq_true_of_le hn) h
theorem and15_lt (x:BitVec 32):(x &&& BitVec.ofInt 32 15).toNat<16:=by
 rw [BitVec.toNat_and];exact Nat.lt_of_le_of_lt Nat.and_le_right (by decide)
theorem qxh {x y:Operand} {t t':TypeId} {k:IntKind} {m n:Nat} (hx:ql N s x = .v (.int k (m:Int))) (hy:ql N s y = .v (.int k (n:Int))) (hf:k.wrap ((m+n:Nat):Int)=((m+n:Nat):Int))
  (h:AOps E rd N ops rest K (s.put d (.v (.int k ((m+n:Nat):Int))))):AOps E rd N ops (⟨d,.binOp .add t x y t',T,p,af,none⟩::rest) K s:=
 zl hx hy (by rw [← Int.natCast_add];exact hf) h
theorem qoi {x y:Operand} {t t':TypeId} {k:IntKind} {m n:Nat} (hx:ql N s x = .v (.int k (m:Int))) (hy:ql N s y = .v (.int k (n:Int))) (hn:n≠0) (hf:k.wrap ((m / n:Nat):Int)=((m / n:Nat):Int))
  (h:AOps E rd N ops rest K (s.put d (.v (.int k ((m / n:Nat):Int))))):AOps E rd N ops (⟨d,.binOp .quo t x y t',T,p,af,none⟩::rest) K s:=
 q0p hx hy (by omega) (by rw [Int.tdiv_eq_ediv_of_nonneg (by omega),← Int.natCast_ediv];exact hf) h
theorem qxj {x y:Operand} {t t':TypeId} {k:IntKind} {m n:Nat} (hx:ql N s x = .v (.int k (m:Int))) (hy:ql N s y = .v (.int k (n:Int))) (hn:n≠0)
  (h:AOps E rd N ops rest K (s.put d (.v (.int k ((m % n:Nat):Int))))):AOps E rd N ops (⟨d,.binOp .rem t x y t',T,p,af,none⟩::rest) K s:=
 q0q hx hy (by omega) (by rw [Int.tmod_eq_emod_of_nonneg (by omega),← Int.natCast_emod];exact h)
theorem qmh {n:Nat} (h:n<18446744073709551616):IntKind.u64.wrap (n:Int)=(n:Int):=by
 simp [IntKind.wrap,IntKind.bits,IntKind.signed];omega
theorem qxf {n:Nat} (h:n<4294967296):IntKind.u32.wrap (n:Int)=(n:Int):=by
 rw [qhh,Nat.mod_eq_of_lt h]
end
end Go.Av
namespace Go.Av
open Go Go.RowKit
section
variable {E : Env} {rd : Option Nat} {N : Nat} {ops : Array Oper} {K : AS → Prop} {s : AS} {rest : List Oper} {d : Option Tmp} {T : TypeId} {p : String} {af : Array Edge}
theorem qgh {x lo:Operand} {t:TypeId} {m r:List UInt8} {k:IntKind} {n:Nat} (hr:m.drop n=r) (hx:ql N s x=Sv m) (hl:ql N s lo = .v (.int k (n:Int))) (hu:E.P.underlying t=some .string) (h1:n≤m.length)
  (h:AOps E rd N ops rest K (s.put d (Sv r))):AOps E rd N ops (⟨d,.slice t x (some lo) none none,T,p,af,none⟩::rest) K s:=
 qfu hx hl hu h1 (by rw [hr];exact h)
end
end Go.Av
namespace Go.Av
open Go Go.RowKit
section
variable {E : Env} {rd : Option Nat} {N : Nat} {ops : Array Oper} {K : AS → Prop} {s : AS} {rest : List Oper} {d : Option Tmp} {T : TypeId} {p : String} {af : Array Edge}
def qqj:TypeDesc→Bool
 | .interface _=>false
 | _=>true
def q0a (P:Program) (t:TypeId):Option Value:=match P.info? t with|some i=>i.zero|none=>none
theorem qzd {P:Program} {t:TypeId} {z:Value} (h:q0a P t=some z) (w:World):(zeroValue t).run P w = .ok z w:=by
 unfold q0a at h;split at h
 ·rename_i i hi
  simp [zeroValue,typeInfo,hi,h]
 ·simp at h
theorem qed {x:Operand} {xt t:TypeId} {D:TypeDesc} {y:AV} (hx:ql N s x = .ifc t y) (hu:E.P.underlying t=some D) (hn:qqj D=true)
  (h:AOps E rd N ops rest K (s.put d (.tu [y,Bv true]))):AOps E rd N ops (⟨d,.typeAssert x xt t true,T,p,af,none⟩::rest) K s:=by
 refine za rfl (q8 nofun fun B0 w0 G a w _ hI=>?_);have he:=hI.eval_of hx;generalize hv:a.eval x=v at he
 cases he with
 |ifc _ _ z hz=>
  refine⟨.tuple #[z,.bool true],w,G,_,s.st,?_,.refl G,hI.agree,qf8 hz (.v _),h⟩;generalize a.eval = ρ at hv
  cases D <;> first|(simp [qqj] at hn;done)|simp [execOp,Instr.typeAssert,hv,run_underlying hu]
theorem qkm {x:Operand} {xt t u:TypeId} {D:TypeDesc} {y:AV} {z:Value} (hx:ql N s x = .ifc u y) (hu:E.P.underlying t=some D) (hn:qqj D=true) (a6:Nat.beq u t=false) (hz:q0a E.P t=some z)
  (h:AOps E rd N ops rest K (s.put d (.tu [.v z,Bv false]))):AOps E rd N ops (⟨d,.typeAssert x xt t true,T,p,af,none⟩::rest) K s:=by
 refine za rfl (q8 nofun fun B0 w0 G a w _ hI=>?_);have he:=hI.eval_of hx;generalize hv:a.eval x=v at he;have hne':u≠t:=fun e=>by subst e;simp at a6
 have u0:=qzd hz w
 cases he with
 |ifc _ _ q hq=>
  refine⟨.tuple #[z,.bool false],w,G,_,s.st,?_,.refl G,hI.agree,qf8 (.v _) (.v _),h⟩;generalize a.eval = ρ at hv
  cases D <;> first|(simp [qqj] at hn;done)|simp [execOp,Instr.typeAssert,hv,run_underlying hu,hne',u0]
theorem qv3 {x:Operand} {xt t:TypeId} {D:TypeDesc} {z:Value} (hx:ql N s x = .v .nilIface) (hu:E.P.underlying t=some D) (hn:qqj D=true) (hz:q0a E.P t=some z)
  (h:AOps E rd N ops rest K (s.put d (.tu [.v z,Bv false]))):AOps E rd N ops (⟨d,.typeAssert x xt t true,T,p,af,none⟩::rest) K s:=by
 refine za rfl (q8 nofun fun B0 w0 G a w _ hI=>?_);have hv:=hI.evalv hx;have u0:=qzd hz w;refine⟨.tuple #[z,.bool false],w,G,_,s.st,?_,.refl G,hI.agree,qf8 (.v _) (.v _),h⟩;generalize a.eval = ρ at hv
 cases D <;> first|(simp [qqj] at hn;done)|simp [execOp,Instr.typeAssert,hv,run_underlying hu,u0]
end
end Go.Av
namespace Go.Proofs.YtneejjefekdgjaaGreatDoor
open Go Go.Av Go.RowKit Go.Proofs
structure Laid (w:World):Prop where
 shaped:World.ShapedOpen Tryz.prog w
 pow : Lib.TabIs Tryz.prog w "internal/strconv.uint64pow10" .u64 Lib.pow10Tab
 syn : ∃ tp p, World.var? Tryz.prog w "strconv.ErrSyntax" = some #[.iface tp p]
 ran : ∃ tp p, World.var? Tryz.prog w "strconv.ErrRange" = some #[.iface tp p]
 ert:w.cell? ⟨3,0,none⟩=some (.iface 381 (.agg #[.pointer (some ⟨9,24,none⟩)]))
@[reducible] noncomputable def E : Env := ⟨Tryz.prog, fun B0 w0 => ∀ w, Below B0 w0 w → Laid w⟩
theorem qtv (l m:List UInt8) (st:List AObj) (hl:l.length<4294967281):qo E 165 [Sv l,Sv m] st fun r st'=>r=Bv (Lib.contains l m)∧st'=st:=
 qad (vals:= #[.string ⟨l.toArray⟩,.string ⟨m.toArray⟩]) rfl fun _ _ w hL hb=>(Tryz.strings_Contains_shaped ⟨l.toArray⟩ ⟨m.toArray⟩ w (hL w hb).shaped (by simpa [ByteArray.size] using hl)).mono fun _ _ ⟨h1,h2⟩=>⟨h1,qe2 h2⟩
theorem qe7 (l m:List UInt8) (st:List AObj):qo E 164 [Sv l,Sv m] st fun r st'=>r=Bv (Lib.hasPrefix l m)∧st'=st:=
 qad (vals:= #[.string ⟨l.toArray⟩,.string ⟨m.toArray⟩]) rfl fun _ _ w _ _=>(Tryz.strings_HasPrefix ⟨l.toArray⟩ ⟨m.toArray⟩ w).mono fun _ _ ⟨h1,h2⟩=>⟨h1,qe2 h2⟩
theorem qrh (l m:List UInt8) (st:List AObj) (hl:l.length≤9223372036854775807):qo E 240 [Sv l,Sv m] st fun r st'=>r=Bv (Lib.hasSuffix l m)∧st'=st:=
 qad (vals:= #[.string ⟨l.toArray⟩,.string ⟨m.toArray⟩]) rfl fun _ _ w _ _=>(Tryz.strings_HasSuffix ⟨l.toArray⟩ ⟨m.toArray⟩ w (by simpa [ByteArray.size] using hl)).mono fun _ _ ⟨h1,h2⟩=>⟨h1,qe2 h2⟩
theorem qtw (l m:List UInt8) (st:List AObj) (hl:l.length<4294967281):qo E 72 [Sv l,Sv m] st fun r st'=>r = .tu [Sv (Lib.cut l m).1,Sv (Lib.cut l m).2.1,Bv (Lib.cut l m).2.2]∧st'=st:=
 qip (vals:= #[.string ⟨l.toArray⟩,.string ⟨m.toArray⟩]) (rs:= #[.string ⟨(Lib.cut l m).1.toArray⟩,.string ⟨(Lib.cut l m).2.1.toArray⟩,.bool (Lib.cut l m).2.2]) rfl fun _ _ w hL hb=>(Tryz.strings_Cut_shaped ⟨l.toArray⟩ ⟨m.toArray⟩ w (hL w hb).shaped (by simpa [ByteArray.size] using hl)).mono fun _ _ ⟨h1,n,h2⟩=>⟨h1,h2▸q4g w n⟩
theorem qe4 (l m:List UInt8) (st:List AObj):qo E 260 [Sv l,Sv m] st fun r st'=>r = .tu [Sv (Lib.trimPrefix l m),Bv (Lib.hasPrefix l m)]∧st'=st:=
 qip (vals:= #[.string ⟨l.toArray⟩,.string ⟨m.toArray⟩]) (rs:= #[.string ⟨(Lib.trimPrefix l m).toArray⟩,.bool (Lib.hasPrefix l m)]) rfl fun _ _ w _ _=>(Tryz.strings_CutPrefix ⟨l.toArray⟩ ⟨m.toArray⟩ w).mono fun _ _ ⟨h1,h2⟩=>⟨h1,qe2 h2⟩
theorem qo9 (n:Int) (st:List AObj) (h0 : -9223372036854775808≤n) (h1:n≤9223372036854775807):qo E 133 [Iv n] st fun r st'=>r=Sv (Lib.itoa n)∧st'=st:=
 qad (vals:= #[.int .i64 n]) rfl fun _ _ w hL hb=>(Tryz.strconv_Itoa n h0 h1 w (hL w hb).pow).mono fun _ _ ⟨h1,k,os,h2⟩=>⟨h1,h2▸q7r w k os⟩
theorem zfm (l:List UInt8) (c:Nat) (st:List AObj) (h0:c≤9223372036854775807) (h1:l.length * c≤140737488355328):qo E 263 [Sv l,Iv c] st fun r st'=>r=Sv (Lib.repeatL l c)∧st'=st:=
 qad (vals:= #[.string ⟨l.toArray⟩,.int .i64 c]) rfl fun _ _ w _ _=>(Tryz.strings_Repeat ⟨l.toArray⟩ c w h0 (by simpa [ByteArray.size] using h1)).mono fun _ _ ⟨h1,h2⟩=>⟨h1,h2⟩
theorem zc1 (l m:List UInt8) (st:List AObj) (hl:l.length≤9223372036854775807) (hm:m.length<4294967281) (ha:∀ (j:Nat) (b:UInt8),m[j]? = some b→b.toNat<128):qo E 209 [Sv l,Sv m] st fun r st'=>r=Sv (Lib.trimS l m)∧st'=st:=
 qad (vals:= #[.string ⟨l.toArray⟩,.string ⟨m.toArray⟩]) rfl fun _ _ w _ _=>(Any.strings_Trim_laid Tryz.lays160t (by kernel_rfl) ⟨l.toArray⟩ ⟨m.toArray⟩ w (by simpa [ByteArray.size] using hl) (by simpa [ByteArray.size] using hm) (by simpa using ha)).mono fun _ _ ⟨h1,h2⟩=>⟨h1,h2⟩
theorem q4f {w w':World} {T:TypeId} {s:ByteArray} (h:w'=w∨∃ t,w'=Lib.bytesWorld w T t):Below w.heap.size w w':=by
 rcases h with rfl | ⟨t,rfl⟩
 ·exact Below.refl _ _
 ·unfold Lib.bytesWorld
  exact Lib.below_freeze ((Below.drew (Below.refl w.heap.size w)).alloc (Nat.le_refl _) _) (p:=⟨w.heap.size,_,none⟩) (Nat.le_refl _) _
theorem qta {f:FuncId} {st:List AObj} {args:List AV} {vals:Array Value} {R:Int→Option (TypeId×Value)→Prop} (ha:args=vals.toList.map .v)
  (h:∀ B0 w0 w,E.L B0 w0→Below B0 w0 w→Calls E.P f vals w fun e w'=>∃ n x,e = .returned (.tuple #[.int .i64 n,match x with|none=>.nilIface|some (t,y)=>.iface t y])∧R n x∧Below w.heap.size w w') :
  qo E f args st fun r st'=>st'=st∧∃ n x,r = .tu [Iv n,match x with|none=>.v .nilIface|some (t,y)=>.ifc t (.v y)]∧R n x:=by
 subst ha;refine⟨fun B0 w0 G vs w hL hA hR=>?_⟩
 have hv:vs=vals:=by
  have hs:vs.size=vals.size:=by have:=hR.1;simpa using this.symm
  apply Array.ext hs;intro i h1 h2;have:=hR.2 i (.v vals[i]) vs[i] (by simp [h2]) (by simp [h1]);generalize vs[i]=y at this
  cases this
  rfl
 subst hv;refine (h B0 w0 w hL hA.below).mono ?_;rintro e w' ⟨n,x,rfl,hRR,hb⟩;refine⟨_,G,_,st,rfl,.refl G,hA.fresh hb,qf8 (.v _) ?_,rfl,n,x,rfl,hRR⟩
 cases x with
 |none=>exact .v _
 |some p=>exact .ifc _ _ _ (.v _)
theorem qon (l:List UInt8) (st:List AObj) (hl:l.length≤281474976710656):qo E 73 [Sv l] st fun r st'=>st'=st∧∃ n x,r = .tu [Iv n,match x with|none=>.v .nilIface|some (t,y)=>.ifc t (.v y)]∧match x with|none=>Lib.atoiAll l = .ok n|some _=>∀ v,Lib.atoiAll l≠.ok v:=by
 refine qta (vals:= #[.string ⟨l.toArray⟩]) (R:=fun n x=>match x with|none=>Lib.atoiAll l = .ok n|some _=>∀ v,Lib.atoiAll l≠.ok v) rfl fun B0 w0 w hL hb=>?_;have hls:(⟨l.toArray⟩:ByteArray).data.toList=l:=rfl;rcases ho:Lib.atoiAll l with v | _ | _
 ·
  refine (Tryz.strconv_Atoi_ok ⟨l.toArray⟩ (by simp [ByteArray.size];omega) v (by rw [hls];exact ho) w).mono ?_;rintro e w' ⟨rfl,hw⟩;exact⟨v,none,rfl,rfl,q4f (s:=⟨l.toArray⟩) hw⟩
 ·
  obtain⟨tp,p,hv⟩:=(hL w hb).syn;refine (Any.strconv_Atoi_syntax_var Tryz.laysC172 ⟨l.toArray⟩ (by simpa [ByteArray.size] using hl) (by rw [hls];exact ho) tp p w hv).mono ?_;rintro e w' ⟨N,rfl,_,_,hw⟩;exact⟨_,some (_,_),rfl,by simp,hw⟩
 ·
  obtain⟨tp,p,hv⟩:=(hL w hb).ran;refine (Tryz.strconv_Atoi_range_var ⟨l.toArray⟩ (by simpa [ByteArray.size] using hl) (by rw [hls];exact ho) tp p w hv).mono ?_;rintro e w' ⟨N,rfl,_,_,hw⟩;exact⟨_,some (_,_),rfl,by simp,hw⟩
theorem qxb (l m:List UInt8) (st:List AObj) (hl:l.length≤9223372036854775807) (hm:Nat.blt m.length 4294967281=true) (ha:m.all (fun b=>Nat.blt b.toNat 128)=true):qo E 209 [Sv l,Sv m] st fun r st'=>r=Sv (Lib.trimS l m)∧st'=st:=
 zc1 l m st hl (by simpa [Nat.blt_eq] using hm) fun j b h=>by
  have:=List.all_eq_true.1 ha b (List.mem_of_getElem? h)
  simpa [Nat.blt_eq] using this
end Go.Proofs.YtneejjefekdgjaaGreatDoor
namespace Go.Av
open Go Go.RowKit Go.WideShapes Go.ChangeShapes
def G0:Gh:=⟨fun _=>none,fun _=>⟨0,0,0,false⟩,0⟩
theorem q36 (W:World):zk W.heap.size W G0 [] W:=
 ⟨Below.refl _ _,Nat.le_refl _,rfl,fun b vs h=>by simp [G0] at h,fun o x h=>by simp at h,fun o o' x x' _ h=>by simp at h⟩
theorem zca (G:Gh) (vals:Array Value):RelL G (vals.toList.map .v) vals:=by
 refine⟨by simp,fun i x y hx hy=>?_⟩;rw [List.getElem?_map] at hx;rw [Array.getElem?_toList,hy] at hx;simp at hx;subst hx;exact .v y
theorem qwg {E:Env} {f:FuncId} {args:List AV} {vals:Array Value} {b:Bool} {W:World} (h:qo E f args [] fun r st'=>r=Bv b∧st'=[]) (hL:E.L W.heap.size W) (ha:args=vals.toList.map .v) :
  Calls E.P f vals W fun e w'=>e = .returned (.bool b)∧Below W.heap.size W w':=by
 subst ha;refine (h.run W.heap.size W G0 vals W hL (q36 W) (zca _ _)).mono ?_;rintro e w' ⟨v,G',r,st',rfl,_,hA,hr,rfl,_⟩
 cases hr
 exact⟨rfl,hA.below⟩
theorem qw6 {P:Program} {W:World} {name:String} {k:IntKind} {zs:List Int} {g:Nat} {t e:TypeId} {n:Nat}
  (hg:P.globalNamed name=some g) (hty:(P.globals[g]?).map (·.type)=some t) (ht:P.underlying t=some (.array n e)) (he:P.underlying e=some (.int k)) (hce:P.cellsOf e=1) (pt:P.cellsOf t=n)
  (h:Lib.VarReads P W name (Lib.tabData k zs)):Lib.TabIs P W name k zs:=by
 obtain⟨g',t',cs,fuel,p,hg',ht',hvar,hd⟩:=h;obtain rfl:=Option.some.inj (hg.symm.trans hg');obtain rfl:=Option.some.inj (hty.symm.trans ht');unfold Lib.TabIs;rw [hvar,← Lib.cells_of_tab ht he hce pt hd]
theorem qoa {P:Program} {W:World} {name s:String} {d:DataW Unit} {g:Nat} {t:TypeId} {ms:Array (String×TypeId)}
  (hg:P.globalNamed name=some g) (hty:(P.globals[g]?).map (·.type)=some t) (ht:P.underlying t=some (.interface ms))
  (h:Lib.VarReads P W name (.iface s d)):∃ tp p,W.var? P name=some #[.iface tp p]:=by
 obtain⟨g',t',cs,fuel,p,hg',ht',hvar,hd⟩:=h;obtain rfl:=Option.some.inj (hg.symm.trans hg');obtain rfl:=Option.some.inj (hty.symm.trans ht')
 cases fuel with
 |zero=>simp [DataW.trod] at hd
 |succ fuel=>
  obtain⟨l⟩:=cs;simp only [DataW.trod,ht] at hd;split at hd;all_goals simp_all
section
variable {H : Type} {enc : TypeId × Value → H} {P : Program}
theorem qzp {f:Func} {s:ChangeSpec} {qdr fresh handsOn again:Bool} {W W':World} {args:Array Value} {v:Value} {ds gs:List (DataW H)} {before pa pv:List MemPlace}
  (hW:DataW.Whole enc P f.params.toList s.vars qdr W args.toList ds gs before)
  (hres:∀ (b:Nat) (sp:Nat→Bool) (hd:Bool),DataW.TrodAll enc P W' b sp hd f.resultTypes.toList (v.resultList f.resultTypes.size) (s.fn H (ds++gs)).results [])
  (gv:∀ sp:Nat→Bool,(∀ p∈before,sp p.block=true)→DataW.TrodAll enc P W' 0 sp true f.params.toList args.toList (s.fn H (ds++gs)).args pa)
  (hvars:∀ sp:Nat→Bool,(∀ p∈before,sp p.block=true)→DataW.TrodVars enc P W' sp s.vars (s.fn H (ds++gs)).vars pv)
  (pg:before=pa++pv) (hb:Below W.heap.size W W')
  (hok:∀ (j:Nat) (t:TypeId) (r:Value),f.resultTypes[j]? = some t→(v.resultList f.resultTypes.size)[j]? = some r→Value.okWide P W' .any 0 t r) :
  s.post enc P f qdr fresh handsOn again W args v W':=by
 have b4:∀ p∈before,p.block<W.heap.size:=fun p hp=>hW.lt p hp;have d1:∀ p∈before,(fun b=>decide (b<W.heap.size)) p.block=true:=fun p hp=>by simpa using b4 p hp
 refine⟨ds,gs,before,[],pa,pv,hW,hres _ _ _,gv _ d1,hvars _ d1,World.keptBut_mono (fun p hp=>⟨hp,?_⟩) (hb.frame (·∈before)),fun _=>?_⟩
 ·rw [pg,List.mem_append] at hp
  exact Or.inr hp
 ·obtain⟨_,_,_,_,_,hz,hn⟩:=hW
  refine⟨hok,_,_,([]++pa)++pv,⟨[]++pa,pv,trodAll_append (gv _ (fun _ _=>rfl)) (hres _ _ _),hvars _ (fun _ _=>rfl),rfl,?_,?_⟩,?_⟩
  ·intro b off hp
   have pd:MemPlace.cell b off∈before:=by rw [pg];simpa using hp
   rw [hb.frozen (b4 _ pd)];exact hz b off pd
  ·intro ha
   have:=hn ha;rw [pg] at this
   simpa using this
  ·intro p hp _
   rw [pg]
   simpa using hp
end
end Go.Av
namespace Go.Proofs.YtneejjefekdgjaaGreatDoor
open Go Go.Av Go.RowKit
theorem zj5:((List.range 436).filter fun t=>Tryz.prog.rowNamed t [101,114,114,111,114])=[24]:=by kernel_rfl
theorem zku : (Tryz.prog.cutTypes.find? (·.1 == "internal/reflectlite.rtype")).map (·.2) = some 381 := by kernel_rfl
theorem zkw:Tryz.prog.types.size=436:=by kernel_rfl
theorem zkq:typeHandle Tryz.prog 24 = .pointer (some ⟨9,24,none⟩):=by kernel_rfl
theorem zge : Tryz.prog.globalNamed "errors.errorType" = some 3 := by kernel_rfl
theorem q2h {l : List (String × DataW Unit)} (h : (l.all fun x => x.1 == "errors.errorType" || x.2.handleName?.isNone) = true) {x : String × DataW Unit} (hx : x ∈ l) (hn : (x.1 == "errors.errorType") = false) : x.2.handleName?.isNone = true := by
 have:=List.all_eq_true.1 h x hx;rw [hn] at this
 simpa using this
theorem q17 {P:Program} {w0:World} {laid:List (String×DataW Unit)} (args:Array Value) (hf:w0.layFits P laid []=true) (hi:w0.layIfaces P laid (w0.layVars P laid)=true) :
  laidMet P laid ((w0.layVars P laid).forCall (fun _ _=>0) ⟨#[],args,[]⟩).memory:=by
 have e1:(laid.filter fun x=>(laid.map Prod.fst).contains x.1)=laid:=List.filter_eq_self.2 fun x hx=>List.contains_iff_mem.2 (List.mem_map_of_mem hx)
 have e2:(laid.filter fun x=> !(laid.map Prod.fst).contains x.1)=[]:=List.filter_eq_nil_iff.2 fun x hx=>by
  rw [List.contains_iff_mem.2 (List.mem_map_of_mem (f:=Prod.fst) hx)];simp
 have h:laidMet P laid (w0.layVars P laid):=laidMet_layVars (w0:=w0) (laid.map Prod.fst) [] (by rw [e1]) (by rw [e1];exact hf) (by rw [e1];exact hi) (by rw [e2];exact LaidIn.none);exact h.of_heap (by simp [World.memory,World.forCall,Input.heap])
noncomputable def zkp (os:Os):World:={ World.holding Tryz.prog os ⟨#[],#[],[]⟩ with heap:=(World.holding Tryz.prog os ⟨#[],#[],[]⟩).heap.modify 3 fun
 | .cells _ t fz=>.cells #[.iface 381 (.agg #[.pointer (some ⟨9,24,none⟩)])] t fz
 |o=>o }
theorem zhx {l:List (String×DataW Unit)} {W:World}
  (hp : (l.filter fun x => x.2.handleName?.isSome) = [("errors.errorType", Rows.laid_errors_errorType)] ∧ (l.all fun x => x.1 == "errors.errorType" || x.2.handleName?.isNone) = true)
  (hL:laidMetH Tryz.prog l W) (hs:W.ShapedOpen Tryz.prog)
  (h1 : ("internal/strconv.uint64pow10", Rows.laid_internal_strconv_uint64pow10) ∈ l) (h2 : ("strconv.ErrSyntax", Rows.laid_strconv_ErrSyntax) ∈ l) (h3 : ("strconv.ErrRange", Rows.laid_strconv_ErrRange) ∈ l) : E.L W.heap.size W := by
 unfold laidMetH at hL;rw [hp.1] at hL;simp only at hL;intro w hb;obtain⟨hL,hH⟩:=hL;have h1:=(List.mem_filter (p:=fun x=>x.2.handleName?.isNone)).2 ⟨h1,q2h hp.2 h1 (by decide)⟩;have h2:=(List.mem_filter (p:=fun x=>x.2.handleName?.isNone)).2 ⟨h2,q2h hp.2 h2 (by decide)⟩;have h3:=(List.mem_filter (p:=fun x=>x.2.handleName?.isNone)).2 ⟨h3,q2h hp.2 h3 (by decide)⟩;obtain⟨name,u,ty,e1,e2,e3,e4,e5⟩:=hH _ (List.mem_singleton.2 rfl);have en:name=[101,114,114,111,114]:=(Option.some.inj e1).symm;subst en;obtain rfl:=Option.some.inj (zku.symm.trans e2);have hm:ty∈(List.range 436).filter fun t=>Tryz.prog.rowNamed t [101,114,114,111,114]:=List.mem_filter.2 ⟨List.mem_range.2 (by rw [← zkw];exact e3),e4⟩;rw [zj5] at hm;obtain rfl:=List.mem_singleton.1 hm;rw [zkq] at e5;have hv:=World.var?_cell zge (Go.Joins.var_stays zge e5 hb (Nat.le_refl _)) 0
 have g1 : Tryz.prog.globalNamed "internal/strconv.uint64pow10" = some 4 := by kernel_rfl
 have g2 : Tryz.prog.globalNamed "strconv.ErrSyntax" = some 1 := by kernel_rfl
 have g3 : Tryz.prog.globalNamed "strconv.ErrRange" = some 2 := by kernel_rfl
 have t1:=qw6 (k:=.u64) (zs:=Lib.pow10Tab) (t:=399) (e:=262) (n:=20) g1 (by kernel_rfl) (by kernel_rfl) (by kernel_rfl) (by kernel_rfl) (by kernel_rfl) (Lib.laidMet.reads hL h1);obtain⟨tp2,p2,v2⟩:=qoa (t:=24) g2 (by kernel_rfl) rfl (Lib.laidMet.reads hL h2);obtain⟨tp3,p3,v3⟩:=qoa (t:=24) g3 (by kernel_rfl) rfl (Lib.laidMet.reads hL h3);exact⟨hs.keptBut (hb.frame (fun _=>False)) (fun _ h=>h.elim),Go.Joins.var_stays g1 t1 hb (Nat.le_refl _),⟨tp2,p2,Go.Joins.var_stays g2 v2 hb (Nat.le_refl _)⟩,⟨tp3,p3,Go.Joins.var_stays g3 v3 hb (Nat.le_refl _)⟩,by simpa using hv⟩
end Go.Proofs.YtneejjefekdgjaaGreatDoor
namespace Go.Pl
open Go
abbrev qa:=List UInt8
theorem qd6 (l:qa) (c:UInt8):0≤Lib.index l [c]↔c∈l:=by
 induction l with
 |nil=>simp [Lib.index]
 |cons b l ih=>
  have dq:=Lib.index_ge l [c];unfold Lib.index;by_cases hb:c=b
  ·subst hb
   simp [List.isPrefixOf]
  ·have hp:([c]:qa).isPrefixOf (b::l)=false:=by simp [List.isPrefixOf,hb]
   rw [hp];by_cases hm:Lib.index l [c] = -1
   ·have:c∉l:=fun h=>by have:=ih.2 h;omega
    simp [hm,hb,this]
   ·have:c∈l:=ih.1 (by omega)
    simp [hm,this];omega
theorem qow (l:qa) (c:UInt8):Lib.contains l [c]=decide (c∈l):=by
 unfold Lib.contains;by_cases h:c∈l
 ·simp [h,(qd6 l c).2 h]
 ·have:¬ 0≤Lib.index l [c]:=fun h'=>h ((qd6 l c).1 h')
  simp [h,this]
theorem qn5 (l:qa) (c:UInt8):Lib.hasPrefix l [c]=decide (l.head? = some c):=by
 cases l with
 |nil=>simp [Lib.hasPrefix]
 |cons b l=>
  by_cases h:c=b
  ·simp [Lib.hasPrefix,List.isPrefixOf,h]
  ·simp [Lib.hasPrefix,List.isPrefixOf,h,Ne.symm h]
def wp (c:UInt8):Prop:=c=32∨c=9
instance (c:UInt8):Decidable (wp c):=inferInstanceAs (Decidable (c=32∨c=9))
def qe3 (l:qa):Prop:=∃ c,l.head? = some c∧wp c
instance (l:qa):Decidable (qe3 l):=
 match l with
 | []=>.isFalse (by rintro⟨c,h,_⟩;simp at h)
 |c::r=>decidable_of_iff (wp c) ⟨fun h=>⟨c,rfl,h⟩,fun ⟨d,h,hd⟩=>by simp at h;subst h;exact hd⟩
def qal (l:qa):Prop:=l≠[]∧l.length≤32∧¬ qe3 l∧¬ l.head? = some 35∧58∉l∧10∉l
instance (l:qa):Decidable (qal l):=inferInstanceAs (Decidable (_∧_∧_∧_∧_∧_))
theorem qk4 (l:qa):qal l↔1≤l.length∧l.length≤32∧¬ wp (l.getD 0 0)∧l.getD 0 0≠35∧58∉l∧10∉l:=by
 cases l with
 |nil=>simp [qal]
 |cons c l=>simp [qal,qe3]
theorem qwf (c:UInt8) (l:qa):Lib.contains [32,9] [c]=decide (qe3 (c::l)):=by
 rw [qow];have:qe3 (c::l)↔wp c:=⟨fun ⟨d,h,hd⟩=>by simp at h;subst h;exact hd,fun h=>⟨c,rfl,h⟩⟩;simp [this,wp]
def upto (c:UInt8) (l:qa):qa:=l.takeWhile (·≠c)
def past (c:UInt8) (l:qa):qa:=l.drop ((upto c l).length+1)
theorem quk (c:UInt8) (l:qa) (h:c∈l):Lib.index l [c]=((upto c l).length:Int):=by
 induction l with
 |nil=>simp at h
 |cons b l ih=>
  unfold Lib.index upto;by_cases hb:b=c
  ·subst hb;simp [List.isPrefixOf]
  ·have hp:([c]:qa).isPrefixOf (b::l)=false:=by simp [List.isPrefixOf,Ne.symm hb]
   have hl:c∈l:=by simpa [Ne.symm hb] using h
   have e:=ih hl;rw [hp];have:(Lib.index l [c] == -1)=false:=by rw [e];simp
   simp only [this];rw [e];simp [hb,upto]
theorem qgd (c:UInt8) (l:qa):l.take (upto c l).length=upto c l:=by
 induction l with
 |nil=>simp [upto]
 |cons b l ih=>
  by_cases hb:b=c
  ·simp [upto,hb]
  ·have:upto c (b::l)=b::upto c l:=by simp [upto,hb]
   rw [this];simp [ih]
theorem xg {c:UInt8} {l:qa} (h:c∉l):upto c l=l:=by
 induction l with
 |nil=>rfl
 |cons b l ih=>
  have hb:b≠c:=fun e=>h (by simp [e]);have:upto c (b::l)=b::upto c l:=by simp [upto,hb]
  rw [this,ih (fun h'=>h (by simp [h']))]
theorem kz (c:UInt8) (l:qa):(upto c l).length≤l.length:=by
 have:=congrArg List.length (qgd c l);simp at this;omega
theorem qe0 {c:UInt8} {l:qa} (h:c∈l):(upto c l).length<l.length:=by
 induction l with
 |nil=>simp at h
 |cons b l ih=>
  by_cases hb:b=c
  ·simp [upto,hb]
  ·have:upto c (b::l)=b::upto c l:=by simp [upto,hb]
   rw [this];have:=ih (by simpa [Ne.symm hb] using h);simp;omega
theorem va (c:UInt8) (l:qa):(past c l).length=l.length - ((upto c l).length+1):=by simp [past]
theorem zha (c:UInt8) (l:qa):Lib.cut l [c]=(upto c l,past c l,decide (c∈l)):=by
 unfold Lib.cut;by_cases h:c∈l
 ·rw [if_pos ((qd6 l c).2 h),quk c l h]
  simp [qgd,past,h]
 ·rw [if_neg (fun h'=>h ((qd6 l c).1 h'))]
  simp [xg h,past,h]
theorem xq {c:UInt8} {l:qa} (h:l≠[]):(past c l).length<l.length:=by
 rw [va];have:=List.length_pos_iff.2 h;omega
def zn (l:qa):List (qa×Bool):=
 if h:l=[] then [] else (upto 10 l,decide (10∈l))::zn (past 10 l)
 termination_by l.length
 decreasing_by exact xq h
theorem vi:zn []=[]:=by rw [zn];simp
theorem wq {l:qa} (h:l≠[]):zn l=(upto 10 l,decide (10∈l))::zn (past 10 l):=by rw [zn];simp [h]
def xp (b:Bool):qa:=if b then [10] else []
def vp (by' l:qa):qa×Bool:=
 if ∀ x∈zn l,by' <+: x.1 then ((zn l).flatMap fun x=>x.1.drop by'.length++xp x.2,true) else ([],false)
theorem qfi (l m:qa):(Lib.trimPrefix l m).length≤l.length:=by
 unfold Lib.trimPrefix;split
 ·simp
 ·exact Nat.le_refl _
theorem ye (l m:qa):Lib.hasPrefix l m=true↔m <+: l:=by
 unfold Lib.hasPrefix;exact List.isPrefixOf_iff_prefix
theorem qdg {l m:qa} (h:m <+: l):Lib.trimPrefix l m=l.drop m.length:=by
 unfold Lib.trimPrefix;rw [if_pos ((ye l m).2 h)]
theorem vv {c:UInt8} {a:qa} (r:qa) (h:c∉a):upto c (a++c::r)=a:=by
 induction a with
 |nil=>simp [upto]
 |cons b a ih=>
  have hb:b≠c:=fun e=>h (by simp [e]);have h2:c∉a:=fun e=>h (by simp [e]);have e:upto c (b::(a++c::r))=b::upto c (a++c::r):=by simp [upto,hb]
  rw [List.cons_append,e,ih h2]
theorem xv {c:UInt8} {a:qa} (r:qa) (h:c∉a):past c (a++c::r)=r:=by
 unfold past;rw [vv r h,show a++c::r=(a++[c])++r by simp,show a.length+1=(a++[c]).length by simp,List.drop_left]
theorem wg {c:UInt8} {l:qa} (h:c∈l):l=upto c l++c::past c l:=by
 induction l with
 |nil=>simp at h
 |cons b l ih=>
  by_cases hb:b=c
  ·subst hb;simp [upto,past]
  ·have h2:c∈l:=by simpa [Ne.symm hb] using h
   have e1:upto c (b::l)=b::upto c l:=by simp [upto,hb]
   have e2:past c (b::l)=past c l:=by simp [past,e1]
   rw [e1,e2,List.cons_append,← ih h2]
theorem qam (c:UInt8) (l:qa):c∉upto c l:=by
 induction l with
 |nil=>simp [upto]
 |cons b l ih=>
  by_cases hb:b=c
  ·simp [upto,hb]
  ·have e1:upto c (b::l)=b::upto c l:=by simp [upto,hb]
   rw [e1];simp [Ne.symm hb,ih]
def z6 (l:qa):qa:=l.takeWhile (·≠58)
theorem q4t (l:qa) (h:58∈l):Lib.index l [58]=((z6 l).length:Int):=by
 induction l with
 |nil=>simp at h
 |cons b l ih=>
  unfold Lib.index z6;by_cases hb:b=58
  ·subst hb;simp [List.isPrefixOf]
  ·have hp:([58]:qa).isPrefixOf (b::l)=false:=by simp [List.isPrefixOf,Ne.symm hb]
   have hl:58∈l:=by simpa [Ne.symm hb] using h
   have e:=ih hl;rw [hp];have:(Lib.index l [58] == -1)=false:=by rw [e];simp
   simp only [this];rw [e];simp [hb,z6]
theorem q3v (l:qa):l.take (z6 l).length=z6 l:=by
 induction l with
 |nil=>simp [z6]
 |cons b l ih=>
  by_cases hb:b=58
  ·simp [z6,hb]
  ·have:z6 (b::l)=b::z6 l:=by simp [z6,hb]
   rw [this];simp [ih]
def kr (l:qa):qa:=l.drop ((z6 l).length+1)
theorem qxw (l:qa):Lib.cut l [58]=if 58∈l then (z6 l,kr l,true) else (l,[],false):=by
 unfold Lib.cut;by_cases h:58∈l
 ·rw [if_pos ((qd6 l 58).2 h),if_pos h,q4t l h]
  simp [q3v,kr]
 ·rw [if_neg (fun h'=>h ((qd6 l 58).1 h')),if_neg h]
theorem qun {l:qa} {k:Nat} (h:58∉l.take k) (hk:k<l.length) (e:l.getD k 0=58):z6 l=l.take k∧58∈l:=by
 induction l generalizing k with
 |nil=>simp at hk
 |cons b l ih=>
  cases k with
  |zero=>simp at e;subst e;simp [z6]
  |succ k=>
   simp only [List.take_succ_cons,List.mem_cons,not_or] at h;obtain⟨h1,h2⟩:=ih h.2 (by simpa using hk) (by simpa using e);have:z6 (b::l)=b::z6 l:=by simp [z6,Ne.symm h.1]
   exact⟨by rw [this,h1];rfl,by simp [h2]⟩
def qfe (l:qa):qa×qa×Bool:=if 10∉l∧58∈l∧qal (z6 l) then (z6 l,kr l,true) else ([],[],false)
def qv (l:qa):Int:=
 if 10∈l then 5 else if ∀ c∈l,wp c then 1 else if l.head? = some 35 then 2 else if qe3 l then 3
 else if 58∈l∧qal (z6 l) then 4 else 5
theorem qrk {l:qa} (h:10∉l) (hb:¬ ∀ c∈l,wp c):0<l.length∧qv l=if l.getD 0 0=35 then 2 else if wp (l.getD 0 0) then 3 else if 58∈l∧qal (z6 l) then 4 else 5:=by
 cases l with
 |nil=>simp at hb
 |cons c l=>
  have e:qe3 (c::l)↔wp c:=⟨fun ⟨d,h,hd⟩=>by simp at h;subst h;exact hd,fun h=>⟨c,rfl,h⟩⟩;refine⟨by simp,?_⟩;unfold qv;rw [if_neg h,if_neg hb];simp [e]
theorem qn3 {α : Type} (p : α→Bool) (l:List α):l.dropWhile p=[]↔∀ x∈l,p x=true:=by
 induction l with
 |nil=>simp
 |cons a l ih=>
  by_cases h:p a=true
  ·simp [h,ih]
  ·simp [h]
theorem zd6 {α : Type} (p : α→Bool) (l:List α):(l.reverse.dropWhile p).reverse.dropWhile p=[]↔∀ x∈l,p x=true:=by
 rw [qn3];constructor
 ·intro h x hx
  by_cases hq:∀ y∈l,p y=true
  ·exact hq x hx
  ·have hr:¬ ∀ y∈l.reverse,p y=true:=fun h'=>hq fun y hy=>h' y (by simpa using hy)
   rw [← qn3] at hr;obtain⟨a,r,hd⟩:=List.exists_cons_of_ne_nil hr;have h1:=List.head?_dropWhile_not p l.reverse;rw [hd] at h1;have h2:=h a (by simp [hd]);simp [h2] at h1
 ·intro h x hx
  exact h x (by
   have:=(List.dropWhile_sublist (l:=l.reverse) p).subset (by simpa using hx)
   simpa using this)
theorem qp5 (l m:qa):Lib.trimS l m=[]↔∀ c∈l,c∈m:=by
 unfold Lib.trimS Lib.trimLeftS Lib.trimRightS;rw [zd6];simp
theorem qtx (l m:qa):(Lib.cut l m).1.length≤l.length:=by
 unfold Lib.cut;split
 ·simp;omega
 ·simp
def yv (l:qa):Prop:=2≤l.length∧l.length≤50000∧l.getLast? = some 10∧(vp [32] l).2=true
instance (l:qa):Decidable (yv l):=inferInstanceAs (Decidable (_∧_∧_∧_))
def qhr (n:Nat) (fig:qa):qa:=[37,97,109,101,110,100,32]++Lib.itoa n++[32]++fig++[10]
def yz (n:Nat):qa:=[37,101,110,100,32]++Lib.itoa n++[10]
theorem qen:∀ (k u:Nat),u<10 ^ (k+1)→Lib.nDigits u≤k+1
 | 0,u,h=>by rw [Lib.nDigits_small (by simpa using h)];omega
 |k+1,u,h=>by
  by_cases h':u<10
  ·rw [Lib.nDigits_small h'];omega
  ·rw [Lib.nDigits_big h']
   have:=qen k (u / 10) (by rw [Nat.pow_succ] at h;omega);omega
theorem qcg (n:Nat) (h:n≤9223372036854775807):(Lib.itoa n).length≤19:=by
 unfold Lib.itoa;rw [if_neg (by omega),Lib.decDigits_length];have:((n:Int)).toNat=n:=by simp
 rw [this];exact qen 18 n (by omega)
theorem qik (l:qa) (c:UInt8):Lib.hasSuffix l [c]=decide (l.getLast? = some c):=by
 have:Lib.hasSuffix l [c]=true↔l.getLast? = some c:=by
  unfold Lib.hasSuffix;rw [List.isSuffixOf_iff_suffix,List.singleton_suffix_iff_getLast?_eq_some]
 by_cases h:l.getLast? = some c
 ·simp [this.2 h,h]
 ·have:¬ Lib.hasSuffix l [c]=true:=fun h'=>h (this.1 h')
  simp [this,h]
theorem atoiAll_bounds {l:qa} {v:Int} (h:Lib.atoiAll l = .ok v) : -9223372036854775808≤v∧v≤9223372036854775807:=by
 unfold Lib.atoiAll at h
 cases l with
 |nil=>simp at h
 |cons c r=>
  simp only at h;split at h
  ·simp at h
  ·simp at h
  ·split at h
   ·simp at h
   ·split at h
    ·simp at h
    ·rename_i h1 h2
     simp only [Lib.NumEnd.ok.injEq] at h;subst h;by_cases hn:c.toNat=45
     ·simp only [hn,true_and,not_true,if_true] at *
      omega
     ·simp only [hn,not_false_iff,true_and,if_false] at *
      omega
def kj (l:qa):Nat:=
 match Lib.atoiAll l with
 | .ok v=>if Lib.itoa v=l∧1≤v∧v≤50000 then v.toNat else 0
 | _=>0
def zb:qa:=[37,97,109,101,110,100,32]
def hexL:qa:=[48,49,50,51,52,53,54,55,56,57,97,98,99,100,101,102]
def w7 (l:qa):Prop:=∀ c∈l,c∈hexL
instance (l:qa):Decidable (w7 l):=inferInstanceAs (Decidable (∀ c∈l,c∈hexL))
theorem qzb (l:qa):Lib.trimS l [48,49,50,51,52,53,54,55,56,57,97,98,99,100,101,102]=[]↔w7 l:=qp5 l hexL
def jc (l:qa):Nat×qa×Bool:=
 (kj (upto 32 (Lib.trimPrefix l zb)),past 32 (Lib.trimPrefix l zb),
  decide (zb <+: l∧32∈Lib.trimPrefix l zb∧2≤kj (upto 32 (Lib.trimPrefix l zb))∧(past 32 (Lib.trimPrefix l zb)).length=8∧w7 (past 32 (Lib.trimPrefix l zb))))
def x2 (l:qa):Bool:=
 if zb <+: l then decide (¬ (32∈l.drop 7∧kj (upto 32 (l.drop 7))<2)∧¬ (upto 32 (l.drop 7)≠[]∧kj (upto 32 (l.drop 7))=0)∧(past 32 (l.drop 7)).length≤8∧w7 (past 32 (l.drop 7)))
 else decide (l <+: zb)
theorem q2l {l:qa} (h:∀ v,Lib.atoiAll l≠.ok v):kj l=0:=by
 unfold kj
 cases ho:Lib.atoiAll l with
 |ok v=>exact absurd ho (h v)
 | _=>rfl
theorem qux {l:qa} {v:Int} (h:Lib.atoiAll l = .ok v):(kj l:Int)=if Lib.itoa v=l∧1≤v∧v≤50000 then v else 0:=by
 unfold kj;rw [h];simp only;split
 ·omega
 ·rfl
theorem qan (l:qa):kj l≤50000:=by
 unfold kj;split
 ·split
  ·omega
  ·omega
 ·omega
def qdn (n:Int):Int:=if n<2∨50000<n then 0 else (qhr n.toNat [48,48,48,48,48,48,48,48]).length+n+(yz n.toNat).length
theorem qij (l m:qa):Lib.hasPrefix l m=decide (m <+: l):=by
 by_cases h:m <+: l
 ·simp [(ye l m).2 h,h]
 ·have:¬ Lib.hasPrefix l m=true:=fun h'=>h ((ye l m).1 h')
  simp [this,h]
def x8 (body:qa) (lack:Int):Int:=
 if (vp [32] body).2=true∧¬ ((body=[]∨body.getLast? = some 10)∧lack<2) then 2 else 3
theorem rep8:Lib.repeatL [48] 8=[48,48,48,48,48,48,48,48]:=by decide
theorem qd5 (n:Nat) (f:qa):(qhr n f).length=(Lib.itoa n).length+f.length+9:=by simp [qhr] <;> omega
theorem qbi (n:Nat):(yz n).length=(Lib.itoa n).length+6:=by simp [yz] <;> omega
theorem q4o {u:Nat} (h:u<10):(([48,49,50,51,52,53,54,55,56,57]:qa).take (u+1)).drop u=Lib.decDigits u:=by
 rw [Lib.decDigits_one h];have:u=0∨u=1∨u=2∨u=3∨u=4∨u=5∨u=6∨u=7∨u=8∨u=9:=by omega
 rcases this with rfl|rfl|rfl|rfl|rfl|rfl|rfl|rfl|rfl|rfl <;> rfl
theorem yb {u:Nat} (h:¬ u<10):Lib.decDigits u=Lib.decDigits (u / 10)++Lib.decDigits (u % 10):=by
 rw [Lib.decDigits,dif_neg h,Lib.decDigits_one (Nat.mod_lt u (by omega))]
theorem qfl {u:Nat} (h:u<18446744073709551616):(Lib.decDigits u).length≤20:=by
 rw [Lib.decDigits_length];exact qen 19 u (by omega)
end Go.Pl
namespace Go.Proofs.YtneejjefekdgjaaGreatDoor
open Go Go.Av Go.RowKit Go.Proofs Go.Pl
theorem qq6 (l:List UInt8) (c:UInt8) (st:List AObj) (hl:l.length<4294967281):qo E 165 [Sv l,Sv [c]] st fun r st'=>r=Bv (decide (c∈l))∧st'=st:=by
 rw [← qow];exact qtv l [c] st hl
theorem qgq (l:List UInt8) (c:UInt8) (st:List AObj):qo E 164 [Sv l,Sv [c]] st fun r st'=>r=Bv (decide (l.head? = some c))∧st'=st:=by
 rw [← qn5];exact qe7 l [c] st
theorem q5y (l:List UInt8) (st:List AObj):qo E 163 [Sv l] st fun r st'=>r=Bv (decide (qe3 l))∧st'=st:=by
 refine qx (qq _) (qp Tryz.func163 rfl (Nat.le_of_ble_eq_true rfl) ?_)
 cases l with
 |nil=>
  repeat' (first|apply qn|apply qf|apply qh|apply qj|apply qg|(apply jk;(iterate 3 exact rfl))|(apply qu;(iterate 4 exact rfl))|(apply w9;exact cRa)|(apply qi;exact rfl;apply pk_f;exact cRa)|apply qt)
  refine qm rfl (q5 rfl) ⟨congrArg Bv (?_:_=_),_,rfl⟩
  simp [qe3]
 |cons c l=>
  have a6:¬ (c::l)=[]:=by simp
  repeat' (first|apply qn|apply qf|apply qh|apply qj|apply qg|(apply jk;(iterate 3 exact rfl))|(apply qu;(iterate 4 exact rfl))|(apply wy;exact cAo)|(apply qi;exact rfl;apply wt;exact cAo)|apply qt|refine qe1 rfl rfl rfl ⟨_,rfl⟩ (by omega) (by omega) (by simp;omega) ?_|(apply qk;exact Tryz.call165;exact qtv _ _ _ (by simp)))
  refine qm rfl (q5 rfl) ⟨congrArg Bv (?_:_=_),_,rfl⟩;exact qwf c l
theorem zgh (l:List UInt8) (st:List AObj) (hl:l.length<4294967281):qo E 99 [Sv l] st fun r st'=>r=Bv (decide (qal l))∧st'=st:=by
 refine qx (qq _) (qp Tryz.func99 rfl (Nat.le_of_ble_eq_true rfl) ?_);repeat' (first|apply qn|apply qf|apply qh|apply qj|apply qg|(apply qs;(iterate 3 exact rfl))|(apply jk;(iterate 3 exact rfl))|(apply z7;exact rfl)|(apply qu;(iterate 4 exact rfl))|(apply vt;exact cAo)|(apply v7;exact cAo)|(apply qo6;exact cRa)|(apply qm0;exact cRa)|(apply qgp <;> intro h)|(apply qaq;exact cRa)|(apply jj <;> intro h)|(apply qi;exact rfl;apply wt;exact cAo)|(apply qi;exact rfl;apply wj;exact cAo)|(apply qi;exact rfl;apply qhu;exact cRa)|(apply qi;exact rfl;apply qer;exact cRa)|(apply qi;exact rfl;apply pk_t;exact cRa)|(apply qc;exact rfl;apply cd_t;exact cRa)|(apply qc;exact rfl;apply cd_d <;> intro h)|(apply zo;(iterate 3 exact rfl))|apply qw|apply qt|(apply qk;exact Tryz.call165;exact qq6 _ _ _ hl)|(apply qk;exact Tryz.call164;exact qgq _ _ _)|(apply qk;exact Tryz.call163;exact q5y _ _))
 all_goals refine qm rfl (q5 rfl) ⟨congrArg Bv (?_:_=_),_,rfl⟩
 all_goals simp [qal, *]
 all_goals omega
theorem qnn (c:UInt8) (st:List AObj):qo E 220 [Uv c] st fun r st'=>r=Bv (decide (wp c))∧st'=st:=by
 refine qx (qq _) (qp Tryz.func220 rfl (Nat.le_of_ble_eq_true rfl) ?_);repeat' (first|apply qn|apply qf|apply qh|apply qj|apply qg|(apply qs;(iterate 3 exact rfl))|(apply qu;(iterate 4 exact rfl))|(apply vt;exact cAo)|(apply v7;exact cAo)|(apply jj <;> intro h)|(apply qi;exact rfl;apply wt;exact cAo)|(apply qi;exact rfl;apply wj;exact cAo)|apply qt)
 all_goals refine qm rfl (q5 rfl) ⟨congrArg Bv (?_:_=_),_,rfl⟩
 all_goals simp_all [wp,qvx,u8_9]
theorem q3g (l:List UInt8) (st:List AObj) (hl:l.length<4294967281):qo E 143 [Sv l] st fun r st'=>r=Bv (decide (qal l))∧st'=st:=by
 refine qx (qq _) (qp Tryz.func143 rfl (Nat.le_of_ble_eq_true rfl) ?_);repeat' (first|apply qn|apply qy|apply qf|apply qh|apply qj|apply qg|(apply qs;(iterate 3 exact rfl))|(apply qu;(iterate 4 exact rfl))|(apply vt;exact cAo)|(apply v7;exact cAo)|(apply qaq;exact cRa)|(apply jj <;> intro h)|(apply qi;exact rfl;apply wt;exact cAo)|(apply qi;exact rfl;apply wj;exact cAo)|(apply qi;exact rfl;apply pk_t;exact cRa)|(apply qc;exact rfl;apply cd_t;exact cRa)|(apply qc;exact rfl;apply cd_d <;> intro h)|(apply zo;(iterate 3 exact rfl))|(apply wa;(iterate 3 exact rfl);exact cAs)|apply qw|apply qt|(apply qk;exact Tryz.call220;exact qnn _ _))
 rotate_left 4
 ·refine jv (fun (k:Nat) s=>k≤l.length∧58∉l.take k∧10∉l.take k∧StA [(0,Sv l),(3,Iv k)] (st++[]) [] s) (fun k=>l.length - k) 0 ⟨by omega,by simp,by simp,zz ⟨rfl,rfl,trivial⟩⟩ ?_
  rintro k _ ⟨hk,h1,h2,t,rfl⟩;repeat' (first|apply qn|apply qy|apply qf|apply qh|apply qj|apply qg|(apply qs;(iterate 3 exact rfl))|(apply qu;(iterate 4 exact rfl))|(apply vt;exact cAo)|(apply v7;exact cAo)|(apply jj <;> intro h)|(apply qi;exact rfl;apply wt;exact cAo)|(apply qi;exact rfl;apply wj;exact cAo)|(apply qc;exact rfl;apply cd_t;exact cRa)|(apply qc;exact rfl;apply cd_d <;> intro h)|(apply zo;(iterate 3 exact rfl))|(apply zl;exact rfl;exact rfl;exact q6 (by omega) (by omega))|(apply wa;(iterate 3 exact rfl);exact cAs)|apply qw|apply jd|apply qt)
  rotate_left 2
  ·exact⟨k+1,⟨by omega,qda (by omega) h1 (by simp_all [qvy]),qda (by omega) h2 (by simp_all [qbm]),zz ⟨rfl,rfl,trivial⟩⟩,by omega⟩
  all_goals refine qm rfl (q5 rfl) ⟨congrArg Bv (?_:_=_),_,rfl⟩
  ·have e:k=l.length:=by omega
   subst e;simp_all [qk4,qqt];omega
  ·have:=ql6 (l:=l) (k:=k) (by omega)
   simp_all [qk4,qvy]
  ·have:=ql6 (l:=l) (k:=k) (by omega)
   simp_all [qk4,qbm]
 all_goals refine qm rfl (q5 rfl) ⟨congrArg Bv (?_:_=_),_,rfl⟩
 all_goals simp_all [qk4,qqt]
 all_goals omega
theorem E_ok:qzw E:=fun _ _ _ h hb hB _ h2=>h _ (hb.trans (h2.mono hB))
theorem q3a (l:List UInt8) (st:List AObj) (hl:l.length<4294967281):qo E 221 [Sv l] st fun r st'=>r = .tu [Sv (qfe l).1,Sv (qfe l).2.1,Bv (qfe l).2.2]∧st'=st:=by
 refine qx (qb5 _ _ _) (qp Tryz.func221 rfl (Nat.le_of_ble_eq_true rfl) ?_);repeat' (first|apply qn|apply qy|apply qf|apply qh|apply qg)
 refine jv (fun (k:Nat) s=>k≤l.length∧10∉l.take k∧StA [(0,Sv l),(2,Sv []),(3,Sv []),(4,Bv false),(5,Iv k)] (st++[]) [] s) (fun k=>l.length - k) 0 ⟨by omega,by simp,zz ⟨rfl,rfl,rfl,rfl,rfl,trivial⟩⟩ ?_;rintro k _ ⟨hk,h1,t,rfl⟩;repeat' (first|apply qn|apply qy|apply qf|apply qh|apply qj|apply qg|(apply qs;(iterate 3 exact rfl))|(apply qc;exact rfl;apply cd_d <;> intro h)|(apply zo;(iterate 3 exact rfl))|(apply zl;exact rfl;exact rfl;exact q6 (by omega) (by omega))|(apply wa;(iterate 3 exact rfl);exact cAs)|apply qw|apply jd|apply qt)
 rotate_left 1
 ·exact⟨k+1,⟨by omega,qda (by omega) h1 (by simp_all [qbm]),zz ⟨rfl,rfl,rfl,rfl,rfl,trivial⟩⟩,by omega⟩
 ·have e:k=l.length:=by omega
  subst e;rw [List.take_length] at h1;refine jv (fun (k:Nat) s=>k≤l.length∧58∉l.take k∧StA [(0,Sv l),(2,Sv []),(3,Sv []),(4,Bv false),(6,Iv k)] (st++[]) [] s) (fun k=>l.length - k) 0 ⟨by omega,by simp,zz ⟨rfl,rfl,rfl,rfl,rfl,trivial⟩⟩ ?_;rintro k _ ⟨hk,h2,t,rfl⟩;repeat' (first|apply qn|apply qy|apply qf|apply qh|apply qj|apply qg|(apply qs;(iterate 3 exact rfl))|(apply z7;exact rfl)|(apply qc;exact rfl;apply cd_n <;> intro h)|(apply qc;exact rfl;apply cd_d <;> intro h)|(apply zo;(iterate 3 exact rfl))|(apply zl;exact rfl;exact rfl;exact q6 (by omega) (by omega))|(apply wa;(iterate 3 exact rfl);exact cAs)|(apply qa5;(iterate 3 exact rfl);exact cAs)|(apply qjr;exact rfl;kernel_rfl)|apply qh5|apply qfx|apply qh3|(apply qtl;exact rfl;exact rfl;exact q6 (by omega) (by omega))|(apply qqc;(iterate 3 exact rfl);exact cAs)|(apply qqb;(iterate 3 exact rfl);exact cAs)|apply qw|apply jd|apply qt|(apply qk;exact Tryz.call143;exact q3g _ _ (by simp;omega)))
  rotate_left 2
  ·exact⟨k+1,⟨by omega,qda (by omega) h2 (by simp_all [qvy]),zz ⟨rfl,rfl,rfl,rfl,rfl,trivial⟩⟩,by omega⟩
  all_goals refine qm rfl (ya rfl) ⟨q30 (?_:_=_),_,rfl⟩
  ·have e:k=l.length:=by omega
   subst e;rw [List.take_length] at h2;simp [qfe,h2]
  ·obtain⟨e1,e2⟩:=qun h2 (by omega) (by simp_all [qvy])
   simp_all [qfe]
  ·obtain⟨e1,e2⟩:=qun h2 (by omega) (by simp_all [qvy])
   have l9:k<l.length:=by omega
   have s3:(l.take k).length=k:=by simp;omega
   have hkey:qal (l.take k):=by simp_all
   simp only [qfe,kr,e1,e2,h1,hkey,s3];simp
 ·refine qm rfl (ya rfl) ⟨q30 (?_:_=_),_,rfl⟩
  have:=ql6 (l:=l) (k:=k) (by omega);simp_all [qfe,qbm]
theorem qie (l:List UInt8) (st:List AObj) (hl:l.length<4294967281):qo E 138 [Sv l] st fun r st'=>r=Iv (qv l)∧st'=st:=by
 refine qx (qq _) (qp Tryz.func138 rfl (Nat.le_of_ble_eq_true rfl) ?_);repeat' (first|apply qn|apply qy|apply qf|apply qh|apply qg)
 refine jv (fun (k:Nat) s=>k≤l.length∧10∉l.take k∧∃ b,(b=true↔∀ c∈l.take k,wp c)∧StA [(0,Sv l),(3,Bv b),(4,Iv k)] (st++[]) [] s) (fun k=>l.length - k) 0 ⟨by omega,by simp,true,by simp,zz ⟨rfl,rfl,rfl,trivial⟩⟩ ?_;rintro k _ ⟨hk,h1,b,hb,t,rfl⟩;repeat' (first|apply qn|apply qy|apply qf|apply qh|apply qj|apply qg|(apply qs;(iterate 3 exact rfl))|(apply qu;(iterate 4 exact rfl))|(apply yu;exact cRa)|(apply w9;exact cRa)|(apply qfn <;> intro h)|(apply qi;exact rfl;apply pk_t;exact cRa)|(apply qi;exact rfl;apply pk_f;exact cRa)|(apply qc;exact rfl;apply cd_d <;> intro h)|(apply qc;exact rfl;apply cd_s <;> intro h)|(apply zo;(iterate 3 exact rfl))|(apply zl;exact rfl;exact rfl;exact q6 (by omega) (by omega))|(apply wa;(iterate 3 exact rfl);exact cAs)|apply qw|apply jd|apply qt|(apply qk;exact Tryz.call220;exact qnn _ _))
 ·refine qm rfl (q5 rfl) ⟨congrArg Iv (?_:_=_),_,rfl⟩
  have:=ql6 (l:=l) (k:=k) (by omega);simp_all [qv,qbm]
 ·exact⟨k+1,⟨by omega,qda (by omega) h1 (by simp_all [qbm]),_,by rw [qmm (by omega),decide_eq_true_iff,← hb];simp [*],zz ⟨rfl,rfl,rfl,trivial⟩⟩,by omega⟩
 ·exact⟨k+1,⟨by omega,qda (by omega) h1 (by simp_all [qbm]),_,by rw [qmm (by omega),← hb];simp [*],zz ⟨rfl,rfl,rfl,trivial⟩⟩,by omega⟩
 ·refine qm rfl (q5 rfl) ⟨congrArg Iv (?_:_=_),_,rfl⟩
  have e:k=l.length:=by omega
  subst e;simp_all [qv]
 ·have e:k=l.length:=by omega
  subst e;rw [List.take_length] at h1 hb;obtain⟨h0,hk⟩:=qrk h1 (fun h=>by simp_all);repeat' (first|apply qn|apply qf|apply qh|apply qj|apply qg|(apply zf;exact rfl;exact rfl)|(apply qs;(iterate 3 exact rfl))|(apply qc;exact rfl;apply cd_d <;> intro h)|(apply qc;exact rfl;apply cd_s <;> intro h)|(apply wa;(iterate 3 exact rfl);exact cAs)|apply qw|apply qt|(apply qk;exact Tryz.call220;exact qnn _ _)|(apply qk;exact Tryz.call221;exact q3a _ _ hl))
  all_goals refine qm rfl (q5 rfl) ⟨congrArg Iv (?_:_=_),_,rfl⟩
  ·simp_all [qqt]
  ·simp_all [qqt]
  ·have hc:58∈l∧qal (z6 l):=by
    apply Classical.byContradiction;intro hn;have:qfe l=([],[],false):=by unfold qfe;rw [if_neg (fun h=>hn h.2)]
    simp_all
   simp_all [qqt]
  ·have hc:¬ (58∈l∧qal (z6 l)):=fun hn=>by
    have:qfe l=(z6 l,kr l,true):=by unfold qfe;rw [if_pos ⟨h1,hn⟩]
    simp_all
   simp_all [qqt]
theorem ql7 (l:List UInt8) (st:List AObj) (hl:l.length<4294967281):qo E 122 [Sv l] st fun r st'=>r=Iv (qv l)∧st'=st:=by
 refine qx (qq _) (qp Tryz.func122 rfl (Nat.le_of_ble_eq_true rfl) ?_);repeat' (first|apply qn|apply qy|apply qf|apply qh|apply qj|apply qg|(apply zf;exact rfl;exact rfl)|(apply jk;(iterate 3 exact rfl))|(apply qu;(iterate 4 exact rfl))|(apply yu;exact cRa)|(apply w9;exact cRa)|(apply qfn <;> intro h)|(apply qi;exact rfl;apply pk_t;exact cRa)|(apply qi;exact rfl;apply pk_f;exact cRa)|(apply qc;exact rfl;apply cd_f;exact cRa)|(apply qc;exact rfl;apply cd_d <;> intro h)|apply qw|apply qt|(apply qk;exact Tryz.call165;exact qq6 _ _ _ hl)|(apply qk;exact Tryz.call209;exact zc1 _ _ _ (by omega) (by simp) (by intro j b h;match j with | 0=>simp at h;subst h;decide | 1=>simp at h;subst h;decide|j+2=>simp at h))|(apply qk;exact Tryz.call164;exact qgq _ _ _)|(apply qk;exact Tryz.call163;exact q5y _ _)|(apply qk;exact Tryz.call72;exact qtw _ _ _ hl)|(apply qk;exact Tryz.call99;exact zgh _ _ (Nat.lt_of_le_of_lt (qtx _ _) hl)))
 all_goals refine qm rfl (q5 rfl) ⟨congrArg Iv (?_:_=_),_,rfl⟩
 all_goals have hb:Lib.trimS l [32,9]=[]↔∀ c∈l,wp c:=by rw [qp5];simp [wp]
 all_goals by_cases hA:∀ c∈l,wp c <;> by_cases hC:58∈l <;> by_cases hK:qal (z6 l) <;> simp_all [qv,qxw]
end Go.Proofs.YtneejjefekdgjaaGreatDoor
namespace Go.Proofs
open Go.Shelf Go.RowKit
variable {P : Program} {ρ : Ren}
set_option maxHeartbeats 4000000 in
theorem qtr (L:Lays.n169 P ρ) (X:Builder.Extra P ρ) (b n c:Nat) (ad:Option Addr) (q:Value) (str:ByteArray) (w w2:World) (c1:w.drew.cell? ⟨b,1,none⟩=some (.slice ad n c))
  (hSD:(Builtin.unsafeSliceData_ #[(ρ.t 37)] (ρ.t 127) #[.slice ad n c]).run P w.drew = .ok q w.drew)
  (hUS:(Builtin.unsafeString_ #[(ρ.t 127),(ρ.t 3)] (ρ.t 9) #[q,.int .i64 n]).run P w.drew = .ok (.string str) w2) :
  Calls P (ρ.f 169) #[.pointer (some ⟨b,0,none⟩)] w fun e w'=>e = .returned (.string str)∧w'=w2:=by
 have mixed:=L.mixed;have t72:=L.t72;have a72:=L.a72;have z72:=L.z72;have v72:=L.v72;have u72:=run_underlying L.t72;have t70:=L.t70;have a70:=L.a70;have z70:=L.z70;have v70:=L.v70;have u70:=run_underlying L.t70;have t37:=L.t37;have a37:=L.a37;have z37:=L.z37;have v37:=L.v37;have u37:=run_underlying L.t37;have t127:=L.t127;have a127:=L.a127;have z127:=L.z127;have v127:=L.v127;have u127:=run_underlying L.t127;have t3:=L.t3;have a3:=L.a3;have z3:=L.z3;have v3:=L.v3;have u3:=run_underlying L.t3;have t9:=L.t9;have a9:=L.a9;have z9:=L.z9;have v9:=L.v9;have u9:=run_underlying L.t9;have t5:=X.t5;have a5:=X.a5;have z5:=X.z5;have v5:=X.v5;have u5:=run_underlying X.t5
 go_enter L.f169,Body.n169_ntmps ρ
 go_wp2
 go_region_o
 all_goals (go_wp2;go_ret;exact⟨rfl,rfl⟩)
end Go.Proofs
namespace Go.Proofs.YtneejjefekdgjaaGreatDoor
open Go Go.Av Go.RowKit Go.Proofs
@[reducible] def bldO (ver : Nat) (q : AV) (l : List UInt8) (tp : Nat) : AObj := .cells ver 246 [q, .sl 1 (l.map Uv) (some tp)]
theorem q2g (v:Value) (w:World):(callFunc 295 #[v]).run E.P w = .ok (.value v) w:=by
 have h:=run_callFunc_extern (P:=E.P) Tryz.func295 (by kernel_rfl) (by kernel_rfl) (by kernel_rfl) (e:=Extern.AbiNoEscape.same) (by kernel_rfl) #[v] w;rw [h,Lib.run_noEscape];rfl
theorem q50 (o ver:Nat) (q buf:AV) (st:List AObj) (ho:st[o]? = some (.cells ver 246 [q,buf])) (hq:q = .v (.pointer none)∨q = .bx o ver 0) :
  qo E 238 [.bx o ver 0] st fun r st'=>r = .tu []∧st'=st.set o (.cells ver 246 [.bx o ver 0,buf]):=by
 have b6:(st++[])[o]? = some (.cells ver 246 [q,buf]):=by rw [List.append_nil];exact ho
 refine qp Tryz.func238 rfl (Nat.le_of_ble_eq_true rfl) ?_;rcases hq with rfl|rfl
 ·skip
  repeat' (first|apply qn|apply qf|apply qh|apply qj|(apply qc;exact rfl;apply cd_t;exact cRa)|(apply zj;(iterate 3 exact rfl))|(apply wm;exact rfl;exact rfl)|(apply qax;(iterate 3 exact rfl))|(apply vc;exact rfl;exact b6;exact rfl;exact rfl)|(apply y4;exact rfl;exact rfl;exact b6;(iterate 6 exact rfl))|(apply qzh;exact rfl;exact b6;(simp);exact rfl;exact rfl;kernel_rfl)|(apply qtg;exact rfl;exact b6;(iterate 3 exact rfl);kernel_rfl)|(apply qzf;exact q2g;exact rfl))
  refine qm rfl (qao rfl) ⟨rfl,?_⟩
  show (st++[]).set o _=_
  rw [List.append_nil];rfl
 ·skip
  repeat' (first|apply qn|apply qf|apply qh|apply qj|(apply qc;exact rfl;apply cd_f;exact cRa)|(apply zj;(iterate 3 exact rfl))|(apply wm;exact rfl;exact rfl)|(apply qax;(iterate 3 exact rfl))|apply qw|(apply vc;exact rfl;exact b6;exact rfl;exact rfl)|(apply qv4;exact rfl;exact rfl;exact b6;exact rfl;exact rfl))
  refine qm rfl (qao rfl) ⟨rfl,?_⟩
  show st++[]=_
  rw [List.append_nil,zfw ho]
theorem q56:yi E.P 5 1 1:=⟨_,_,rfl,rfl,rfl,rfl,rfl⟩
theorem q0z (o ver tp:Nat) (q:AV) (l m:List UInt8) (st:List AObj) (ho:st[o]? = some (bldO ver q l tp)) (ht:st[tp]? = some (.tip l.length 1 5)) (hq:q = .v (.pointer none)∨q = .bx o ver 0) (a7:l.length+m.length≤140737488355328) :
  qo E 168 [.bx o ver 0,Sv m] st fun r st'=>r = .tu [Iv m.length,.v .nilIface]∧st'=(st.set o (bldO ver (.bx o ver 0) (l++m) tp)).set tp (.tip (l.length+m.length) 1 5):=by
 have a6:tp≠o:=fun e=>by rw [e,ho] at ht;simp at ht
 have b6:(st++[])[o]? = some (bldO ver q l tp):=by rw [List.append_nil];exact ho
 have ht':(st++[])[tp]? = some (.tip l.length 1 5):=by rw [List.append_nil];exact ht
 have h2:=kq (y:=.cells ver 246 [.bx o ver 0,.sl 1 (l.map Uv) (some tp)]) b6;have h3:=vg (y:=.cells ver 246 [.bx o ver 0,.sl 1 (l.map Uv) (some tp)]) ht' (Ne.symm a6);have h4:=vg (y:=.tip (l.length+m.length) 1 5) h2 a6;have h5:maxLen=140737488351232∨True:=.inr trivial;refine qp Tryz.func168 rfl (Nat.le_of_ble_eq_true rfl) ?_;repeat' (first|apply qn|apply qf|apply qh|apply qj|apply qg|(apply zo;(iterate 3 exact rfl))|(apply zj;(iterate 3 exact rfl))|(apply wm;exact rfl;exact rfl)|apply qt|(apply qk;exact Tryz.call238;exact q50 o ver q _ (st++[]) b6 hq)|(apply vc;exact rfl;exact h2;exact rfl;exact rfl)|(apply q0j;exact rfl;exact rfl;exact h3;(simp);exact rfl;exact rfl;exact q56;(simp only [maxLen];omega);omega)|(apply y4;exact rfl;exact rfl;exact h4;(iterate 6 exact rfl)))
 refine qm rfl (ki rfl) ⟨rfl,?_⟩
 show (((st++[]).set o _).set tp _).set o (.cells ver 246 [.bx o ver 0,.sl 1 (l.map Uv++m.map Uv) (some tp)])=_
 rw [List.append_nil,List.set_comm _ _ a6,List.set_set,← List.map_append]
theorem zgw (o ver tp:Nat) (q:AV) (l:List UInt8) (c:UInt8) (st:List AObj) (ho:st[o]? = some (bldO ver q l tp)) (ht:st[tp]? = some (.tip l.length 1 5)) (hq:q = .v (.pointer none)∨q = .bx o ver 0) (a7:l.length+1≤140737488355328) :
  qo E 242 [.bx o ver 0,Uv c] st fun r st'=>r = .v .nilIface∧st'=(st.set o (bldO ver (.bx o ver 0) (l++[c]) tp)).set tp (.tip (l.length+1) 1 5):=by
 have a6:tp≠o:=fun e=>by rw [e,ho] at ht;simp at ht
 have b6:(st++[])[o]? = some (bldO ver q l tp):=by rw [List.append_nil];exact ho
 have ht':(st++[])[tp]? = some (.tip l.length 1 5):=by rw [List.append_nil];exact ht
 have h2:=kq (y:=.cells ver 246 [.bx o ver 0,.sl 1 (l.map Uv) (some tp)]) b6;have h3:=vg (y:=.cells ver 246 [.bx o ver 0,.sl 1 (l.map Uv) (some tp)]) ht' (Ne.symm a6);have h4:=vg (y:=.tip (l.length+1) 1 5) h2 a6;refine qp Tryz.func242 rfl (Nat.le_of_ble_eq_true rfl) ?_;repeat' (first|apply qn|apply qf|apply qh|apply qj|apply qg|(apply zj;(iterate 3 exact rfl))|(apply v6;(iterate 9 exact rfl))|(apply wm;exact rfl;exact rfl)|apply qt|(apply qk;exact Tryz.call238;exact q50 o ver q _ (st++[]) b6 hq)|(apply vc;exact rfl;exact h2;exact rfl;exact rfl)|(apply qq0 (m:=1);exact rfl;exact rfl;exact h3;(simp);exact rfl;exact rfl;exact q56;exact rfl;exact rfl;(simp only [maxLen];omega);omega)|(apply y4;exact rfl;exact rfl;exact h4;(iterate 6 exact rfl)))
 refine qm rfl (q5 rfl) ⟨rfl,?_⟩
 show (((st++[]).set o _).set tp _).set o (.cells ver 246 [.bx o ver 0,.sl 1 (l.map Uv++[c].map Uv) (some tp)])=_
 rw [List.append_nil,List.set_comm _ _ a6,List.set_set,← List.map_append]
theorem qxo (o ver tp:Nat) (q:AV) (l:List UInt8) (st:List AObj) (ho:st[o]? = some (bldO ver q l tp)) (ht:st[tp]? = some (.tip l.length 1 5)) :
  qo E 171 [.bx o ver 0] st fun r st'=>r=Sv l∧st'=st.set tp .dead:=by
 refine⟨fun B0 w0 G vals w hL hA hR=>?_⟩;obtain⟨h0,h1,h2,h3,c,h4,h5,h6⟩:=hA.ob o _ ho;obtain⟨g0,g1,g2⟩:=hA.ob tp _ ht;have a6:tp≠o:=fun e=>by rw [e,ho] at ht;simp at ht
 have hvals:vals = #[.pointer (some ⟨(G.ob o).blk,0,none⟩)]:=by
  have hs:vals.size=1:=by have:=hR.1;simpa using this.symm
  have h:=hR.2 0 (.bx o ver 0) vals[0] rfl (by simp [hs]);apply Array.ext
  ·simp [hs]
  ·intro i tq bq
   have:i=0:=by simp at bq;omega
   subst this
   have e:vals[0] = .pointer (some ⟨(G.ob o).blk,0,none⟩):=by
    generalize vals[0]=v at h
    cases h with
    |bx _ _ _ b hn e1 e2=>rw [e2 h1]
   simpa using e
 subst hvals;have hc2:c.size=2:=by rw [← h5];rfl
 have d5:=h6 1 (.sl 1 (l.map Uv) (some tp)) c[1] rfl (by simp [hc2])
 have p9:w.drew.cell? ⟨(G.ob o).blk,1,none⟩=some c[1]:=by
  have sf:w.drew.heap[(G.ob o).blk]? = some (.cells c 246 (0,0)):=h4;simp [World.cell?,sf,hc2]
 generalize hv:c[1]=v at d5 p9;have n7:Below w.heap.size w w.drew:=⟨rfl,rfl,rfl,Nat.le_refl _,fun _ _=>rfl⟩;have bw:=(hA.kill tp).fresh n7;have hl:(l.map Uv).length=l.length:=by simp
 generalize dv:l.map Uv=xs at d5
 cases d5 with
 |sl0 _ _ base cap hto=>
  obtain⟨_,rfl,rfl⟩:=hto tp rfl;have ml:l=[]:=by simpa using dv
  subst ml;refine (qtr Tryz.lays169 Tryz.Builder_Extra_169 (G.ob o).blk 0 0 none (.pointer none) .empty w w.drew p9 rfl (Lib.run_unsafeString_none w.drew _ _ _ none)).mono ?_;rintro e w' ⟨rfl,rfl⟩
  exact⟨_,G,Sv [],_,rfl,.refl G,bw,.v _,rfl,rfl⟩
 |sl _ _ _ b off cap pub hp hw a7 hr hto nt=>
  subst dv;rw [hl] at hto p9;obtain⟨_,bz,_,hcur⟩:=hto tp rfl;obtain⟨hb,rfl,nv,gl,cz⟩:=hcur g1;obtain⟨hB,c2,vs,e1,e2,e3,e4⟩:=g2 bz;rw [hb] at e1 e2 hB
  have hcells:∀ j x,l[j]? = some x→w.drew.cell? ((⟨b,0,none⟩:Addr).add j)=some (.int .u8 x.toNat):=fun j x hx=>by
   obtain⟨c3,T3,fz3,k1,k2⟩:=hA.pub b pub hp;have k1':w.drew.heap[b]? = some (.cells c3 T3 fz3):=k1;have hj:j<(flat (l.map Uv)).length:=by rw [qi2];simpa using lt_of_getElem? hx
   have hy:pub[0+j]? = some (pub[0+j]'(by omega)):=List.getElem?_eq_getElem (by omega);have hrj:=hr j (Uv x) _ (by rw [qi2];simp [hx]) hy
   have:pub[0+j]'(by omega) = .int .u8 x.toNat:=by
    generalize pub[0+j]'(by omega)=y at hrj
    cases hrj;rfl
   rw [this] at hy;rw [Addr.add_lit];simp only [World.cell?,k1']
   simpa using k2 _ _ hy
  have b0:l.length≤c2.size:=by rw [e4,← nv];omega
  have e1':w.drew.heap[b]? = some (.cells c2 5 (0,0)):=e1;have hUS:=Lib.run_unsafeString_row (P:=E.P) w.drew 311 3 9 5 rfl (by kernel_rfl) b c2.size (by simp [World.shape?,e1']) l (by rintro rfl;exact bz rfl) b0 (by simp only [maxLen] at gl;omega) hcells;have hSD:(Builtin.unsafeSliceData_ #[244] 311 #[.slice (some ⟨b,0,none⟩) l.length cap]).run E.P w.drew = .ok (.pointer (some ⟨b,0,none⟩)) w.drew:=Lib.run_unsafeSliceData_row _ _ _ _ _ _ (by omega);refine (qtr Tryz.lays169 Tryz.Builder_Extra_169 (G.ob o).blk l.length cap (some ⟨b,0,none⟩) _ _ w _ p9 hSD hUS).mono ?_;rintro e w' ⟨rfl,rfl⟩
  have hfz:∃ fz',(w.drew.freeze ⟨b,0,none⟩ l.length).heap[b]? = some (.cells c2 5 fz'):=by
   unfold World.freeze;rw [if_neg bz];simp [Array.getElem?_modify,e1']
  obtain⟨fz',hfz⟩:=hfz
  have f0:∀ k,k≠b→(w.drew.freeze ⟨b,0,none⟩ l.length).heap[k]? = w.drew.heap[k]?:=fun k hk=>by
   unfold World.freeze;rw [if_neg bz];simp [Array.getElem?_modify,Ne.symm hk]
  refine⟨_,G,Sv l,_,rfl,.refl G,bw.refroze e1' hfz f0 hB (by unfold World.freeze;rw [if_neg bz];simp) (by unfold World.freeze;rw [if_neg bz]) (by unfold World.freeze;rw [if_neg bz]) (by unfold World.freeze;rw [if_neg bz]) (fun k x hx hlv=>?_),.v _,rfl,rfl⟩;rcases getElem?_set' _ _ _ _ _ hx with⟨_,e⟩ | ⟨k1,k2⟩
  ·subst e;exact hlv.elim
  ·have:=hA.sep k tp x _ k1 k2 ht hlv bz
   rwa [hb] at this
theorem q9z (st loc loc':List AObj) (k kt ver:Nat) (q:AV) (l:List UInt8) (c:UInt8) (hk:loc[k]? = some (bldO ver q l (st.length+kt))) (gp:loc[kt]? = some (.tip l.length 1 5)) (hq:q = .v (.pointer none)∨q = .bx (st.length+k) ver 0)
  (a7:l.length+1≤140737488355328) (hl:loc'=(loc.set k (bldO ver (.bx (st.length+k) ver 0) (l++[c]) (st.length+kt))).set kt (.tip (l++[c]).length 1 5)) :
  qo E 242 [.bx (st.length+k) ver 0,Uv c] (st++loc) fun r st'=>r = .v .nilIface∧st'=st++loc':=by
 refine (zgw (st.length+k) ver (st.length+kt) q l c (st++loc) (jy hk) (jy gp) hq a7).mono fun r st' ⟨h1,h2⟩=>⟨h1,?_⟩;rw [h2,yn,yn,hl,List.length_append];rfl
end Go.Proofs.YtneejjefekdgjaaGreatDoor
namespace Go.Proofs.YtneejjefekdgjaaGreatDoor
open Go Go.Av Go.RowKit Go.Proofs Go.Pl
theorem qju (l:List UInt8) (c:UInt8) (st:List AObj) (hl:l.length<4294967281):qo E 72 [Sv l,Sv [c]] st fun r st'=>r = .tu [Sv (upto c l),Sv (past c l),Bv (decide (c∈l))]∧st'=st:=by
 have:=qtw l [c] st hl;rw [zha] at this;exact this
@[reducible] def qel (k : Nat) (text rest : List UInt8) : AV := .ag [Iv k, Iv ((text.length : Int) - rest.length), Sv (upto 10 rest), Bv (decide (10 ∈ rest))]
theorem zfz (text:List UInt8) (o kb ver n:Nat) (I:Nat→List UInt8→List AObj→Prop) (D:List AObj→Prop) (st:List AObj) (ht:text.length<4294967281) (h0:I 0 text st)
  (hI:∀ k rest st',I k rest st'→st'.length=n∧st'[kb]? = some (.cells ver 9 [Sv text]))
  (hY:∀ k rest st' own,I k rest st'→rest≠[]→rest.length≤text.length→y9 E o [qel k text rest] (st'++[own]) fun b st2=>∃ st3,st2=st3++[own]∧(b=true→I (k+1) (past 10 rest) st3)∧(b=false→D st3)) :
  qo E 121 [.yd o,.bx kb ver 0] st fun r st'=>∃ st3 ext',st'=st3++ext'∧((∃ k,I k [] st3)∨D st3):=by
 refine qp Tryz.func121 rfl (Nat.le_of_ble_eq_true rfl) ?_;obtain⟨hn,hb⟩:=hI 0 text st h0;subst hn;repeat' (first|apply qn|apply qy|apply qf|apply qh|apply qg|(apply jw;exact rfl;exact rfl)|(apply z4;(iterate 11 exact rfl))|(apply xw;(iterate 3 exact rfl))|(apply qbn;exact rfl;exact rfl;exact hb;exact rfl;exact rfl))
 refine jv (fun (x:Nat×List UInt8) s=>match x with|(k,rest)=>∃ stk at' ta eb,I k rest stk∧k+rest.length≤text.length∧at'=(text.length:Int) - rest.length∧StA [(0,.yd o),(1,.bx kb ver 0),(3,.bx (st.length+0) 0 0),(4,Sv rest)] (stk++(.cells 0 145 [Iv k,Iv at',Sv ta,Bv eb]::[])) [] s) (fun x=>x.2.length) (0,text)
  ⟨st,0,[],false,h0,by simp,by simp,?_⟩ ?_
 ·exact zz ⟨rfl,rfl,rfl,rfl,trivial⟩
 rintro⟨k,rest⟩ _ ⟨stk,_,ta,eb,hi,b0,rfl,t,rfl⟩;obtain⟨hn,lx⟩:=hI k rest stk hi;repeat' (first|apply qn|apply qy|apply qf|apply qh|apply qj|apply qg|(apply zf;exact rfl;exact rfl)|(apply jk;(iterate 3 exact rfl))|(apply qc;exact rfl;apply cd_d <;> intro h)|(apply zj;(iterate 3 exact rfl))|apply qw|apply jd|(apply qk;exact Tryz.call72;exact qju _ _ _ (by omega))|(apply qbt;exact rfl;assumption;(iterate 10 exact rfl))|(apply qcp;exact rfl;assumption;(iterate 4 exact rfl)))
 ·refine qee rfl ((hY k rest stk _ hi h (by omega)).mono ?_)
  rintro b _ ⟨st3,rfl,h1,h2⟩
  cases b
  ·skip
   repeat' (first|apply qh|(apply z7;exact rfl)|(apply qc;exact rfl;apply qi0;exact cRa)|apply qt)
   refine qm rfl (qao rfl) ⟨st3,_,rfl,.inr (h2 rfl)⟩
  ·have hi3:=h1 rfl
   obtain⟨hn3,bm⟩:=hI _ _ _ hi3;have hp:=va 10 rest;have sc:0<rest.length:=List.length_pos_iff.2 h;repeat' (first|apply qn|apply qf|apply qh|apply qj|(apply z7;exact rfl)|(apply qc;exact rfl;apply qiz;exact cRa)|(apply zo;(iterate 3 exact rfl))|(apply zl;exact rfl;exact rfl;exact q6 (by omega) (by omega))|(apply xc;exact rfl;exact rfl;exact q6 (by omega) (by omega))|(apply zj;(iterate 3 exact rfl))|apply qw|(apply qbn;exact rfl;exact rfl;exact bm;exact rfl;exact rfl)|(apply qbt;exact rfl;assumption;(iterate 10 exact rfl))|(apply qcp;exact rfl;assumption;(iterate 4 exact rfl)))
   exact⟨(k+1,past 10 rest),⟨st3,_,_,_,hi3,by omega,rfl,zz ⟨rfl,rfl,rfl,rfl,trivial⟩⟩,by simp only;omega⟩
 ·have hr:rest=[]:=Classical.not_not.1 h
  subst hr;exact qm rfl (qao rfl) ⟨stk,_,rfl,.inl ⟨k,hi⟩⟩
theorem qw2 (text:List UInt8) (st st':List AObj) (n:Nat) (hn:st.length=n) (b7:st++[.cells 0 9 [Sv text]]=st'):qo E 67 [Sv text] st fun r st1=>r = .fn (.func 121) [] [.bx n 0 0]∧st1=st':=by
 subst hn;subst b7;refine qp Tryz.func67 rfl (Nat.le_of_ble_eq_true rfl) ?_;repeat' (first|apply qn|apply qf|apply qh|apply qg|apply qfb|(apply qbd;(iterate 4 exact rfl))|apply qt)
 exact qm rfl (q5 rfl) ⟨rfl,rfl⟩
theorem q7q (st loc loc':List AObj) (k kt ver:Nat) (q:AV) (l m:List UInt8) (hk:loc[k]? = some (bldO ver q l (st.length+kt))) (gp:loc[kt]? = some (.tip l.length 1 5)) (hq:q = .v (.pointer none)∨q = .bx (st.length+k) ver 0)
  (a7:l.length+m.length≤140737488355328) (hl:loc'=(loc.set k (bldO ver (.bx (st.length+k) ver 0) (l++m) (st.length+kt))).set kt (.tip (l++m).length 1 5)) :
  qo E 168 [.bx (st.length+k) ver 0,Sv m] (st++loc) fun r st'=>r = .tu [Iv m.length,.v .nilIface]∧st'=st++loc':=by
 refine (q0z (st.length+k) ver (st.length+kt) q l m (st++loc) (jy hk) (jy gp) hq a7).mono fun r st' ⟨h1,h2⟩=>⟨h1,?_⟩;rw [h2,yn,yn,hl,List.length_append]
theorem qq5 (st loc loc':List AObj) (k kt ver:Nat) (q:AV) (l:List UInt8) (hk:loc[k]? = some (bldO ver q l (st.length+kt))) (gp:loc[kt]? = some (.tip l.length 1 5)) (hl:loc'=loc.set kt .dead) :
  qo E 171 [.bx (st.length+k) ver 0] (st++loc) fun r st'=>r=Sv l∧st'=st++loc':=by
 refine (qxo (st.length+k) ver (st.length+kt) q l (st++loc) (jy hk) (jy gp)).mono fun r st' ⟨h1,h2⟩=>⟨h1,?_⟩;rw [h2,yn,hl]
@[reducible] def dedL (st : List AObj) (by' text : List UInt8) (q : AV) (acc : List UInt8) (lp : AObj) : List AObj :=
 [.cells 0 9 [Sv by'],.cells 0 9 [Sv []],.cells 0 4 [Bv false],bldO 0 q acc (st.length+5),.cells 0 9 [Sv text],.tip acc.length 1 5,.dfr,lp]
theorem q1b (text by':List UInt8) (st:List AObj) (hl:text.length<4294967281):qo E 264 [Sv text,Sv by'] st fun r st'=>r = .tu [Sv (vp by' text).1,Bv (vp by' text).2]∧st'=st:=by
 refine qx (qld _ _) (qp Tryz.func264 rfl (Nat.le_of_ble_eq_true rfl) ?_);repeat' (first|apply qn|apply qf|apply qh|apply qj|(apply jw;exact rfl;exact rfl)|(apply qbd;(iterate 4 exact rfl)))
 refine qk Tryz.call67 (qw2 text _ (st++[.cells 0 9 [Sv by'],.cells 0 9 [Sv []],.cells 0 4 [Bv false],.cells 0 246 [.v (.pointer none),zp],.cells 0 9 [Sv text]]) (st.length+4) ?_ ?_) ?_
 ·show (st++[_,_,_,_]).length=_
  simp
 ·show (st++[_,_,_,_])++[_]=_
  rw [List.append_assoc];rfl
 repeat' (first|apply qy|apply qh)
 refine qq4 (o:=st.length+3) (j:=1) (sz:=1) (T':=5) (jy rfl) rfl ?_
 refine qfy [(3,.bx (st.length+0) 0 0),(4,.bx (st.length+1) 0 0),(5,.bx (st.length+2) 0 0),(6,.bx (st.length+3) 0 0),(11,.fn (.func 121) [] [.bx (st.length+4) 0 0])]
  (st++[.cells 0 9 [Sv by'],.cells 0 9 [Sv []],.cells 0 4 [Bv false],bldO 0 (.v (.pointer none)) [] (st.length+5),.cells 0 9 [Sv text],.tip 0 1 5]) [] ⟨rfl,rfl,rfl,rfl,rfl,trivial⟩ ?_ rfl (fun t=>?_)
 ·show (st++[_,_,_,_,_]).set (st.length+3) (.cells 0 246 [_,.sl 1 [] (some (st++[_,_,_,_,_]).length)])++[_]=_
  rw [yn,List.append_assoc];simp
 refine qmq (st:=st) (loc:=[.cells 0 9 [Sv by'],.cells 0 9 [Sv []],.cells 0 4 [Bv false],bldO 0 (.v (.pointer none)) [] (st.length+5),.cells 0 9 [Sv text],.tip 0 1 5]) rfl rfl Tryz.call121 fun F hF=>?_
 refine qo.mono (zfz text (st.length+7) (st.length+4) 0 (st.length+8)
  (fun _ rest st'=>∃ q acc don,(q = .v (.pointer none)∨q = .bx (st.length+3) 0 0)∧zn text=don++zn rest∧(∀ x∈don,by' <+: x.1)∧acc=don.flatMap (fun x=>x.1.drop by'.length++xp x.2)∧acc.length+rest.length≤text.length∧st'=st++dedL st by' text q acc (F .ready none))
  (fun st'=>(¬ ∀ x∈zn text,by' <+: x.1)∧∃ q acc,st'=st++dedL st by' text q acc (F .done (some .ret)))
  (st++dedL st by' text (.v (.pointer none)) [] (F .ready none)) hl ⟨_,[],[],.inl rfl,rfl,by simp,rfl,by simp,rfl⟩ ?_ ?_) ?_
 ·rintro k rest _ ⟨q,acc,don,hq,h1,h2,h3,h4,rfl⟩
  exact⟨by simp,jy rfl⟩
 ·rintro k rest _ own ⟨q,acc,don,hq,h1,h2,h3,h4,rfl⟩ a6 b0
  refine q4e ?_;rw [List.append_assoc];refine qr7 hF (jy rfl) rfl fun l=>?_;repeat' (first|apply qf|apply qh|(apply jw;exact rfl;exact rfl)|(apply z4;(iterate 11 exact rfl)))
  refine⟨jy rfl,rfl,?_⟩
  refine qfy [(3,.bx (st.length+0) 0 0),(4,.bx (st.length+1) 0 0),(5,.bx (st.length+2) 0 0),(6,.bx (st.length+3) 0 0),(7,.bx (st.length+9) 0 0)]
   (st++(dedL st by' text q acc (F .busy none)++[own,.cells 0 145 (qel k text rest).cells])) [] ⟨rfl,rfl,rfl,rfl,rfl,trivial⟩ ?_ rfl (fun t=>?_)
  ·show (st++(dedL st by' text q acc (F .ready none)++[own,_])).set (st.length+7) _=_
   rw [yn];rfl
  have i5:=qfi (upto 10 rest) by';have i6:=kz 10 rest;have mt:(upto 10 rest,decide (10∈rest))∈zn text:=by rw [h1,wq a6];simp
  have dx:=wq a6;have bd:=va 10 rest;have b4:10∈rest→(upto 10 rest).length<rest.length:=qe0;repeat' (first|apply qn|apply qy|apply qf|apply qh|apply qj|apply qg|(apply zf;exact rfl;exact rfl)|(apply z7;exact rfl)|(apply qc;exact rfl;apply cd_n <;> intro h)|(apply qc;exact rfl;apply cd_d <;> intro h)|(apply zj;(iterate 3 exact rfl))|(apply jl;(iterate 5 exact rfl))|(apply z4;(iterate 11 exact rfl))|apply qw|apply qt|(apply qk;exact Tryz.call260;exact qe4 _ _ _)|(refine qk Tryz.call168 (q7q st _ _ 3 5 0 _ _ _ rfl rfl ?_ ?_ rfl) ?_;(first|exact hq|exact .inr rfl);(first|omega|(simp;omega))))
  ·have bv:¬ ∀ x∈zn text,by' <+: x.1:=fun m8=>by
    have:=(ye _ _).2 (m8 _ mt);simp_all
   refine⟨jy rfl,st++(dedL st by' text q acc (F .done (some .ret))++[own]),[.cells 0 145 (qel k text rest).cells],?_,?_,st++dedL st by' text q acc (F .done (some .ret)),(List.append_assoc _ _ _).symm,nofun,fun _=>⟨bv,q,acc,rfl⟩⟩
   ·show (st++_).set (st.length+7) _=_
    rw [yn,List.append_assoc st];rfl
   ·exact qk3 (.same _ (.same _ (.same _ (.same _ (.same _ (.same _ (.same _ (q8h hF (qi5 _ _))))))))) st
  all_goals
   have cg:by' <+: upto 10 rest:=(ye _ _).1 (by simp_all);have htp:=qdg cg
  ·refine⟨jy rfl,st++(dedL st by' text (.bx (st.length+3) 0 0) (acc++Lib.trimPrefix (upto 10 rest) by'++[10]) (F .ready none)++[own]),[.cells 0 145 (qel k text rest).cells],?_,?_,
    st++dedL st by' text (.bx (st.length+3) 0 0) (acc++Lib.trimPrefix (upto 10 rest) by'++[10]) (F .ready none),(List.append_assoc _ _ _).symm,fun _=>⟨_,_,don++[(upto 10 rest,true)],.inr rfl,?_,?_,?_,?_,rfl⟩,nofun⟩
   ·show (st++_).set (st.length+7) _=_
    rw [yn,List.append_assoc st];rfl
   ·refine qk3 (.same _ (.same _ (.same _ (.cut (qq8 ?_) (.same _ (.cut qxu (.same _ (q8h hF (qi5 _ _))))))))) st
    intro x hx;simp only [List.mem_cons,List.not_mem_nil,or_false] at hx;rcases hx with rfl|rfl
    ·exact zae (by simp)
    ·exact qxv (by simp)
   ·rw [h1,dx];simp_all
   ·intro x hx
    rcases List.mem_append.1 hx with hx|hx
    ·exact h2 x hx
    ·simp at hx;subst hx;exact cg
   ·rw [h3,htp];simp [xp]
   ·have:=b4 (by assumption)
    simp;omega
  ·refine⟨jy rfl,st++(dedL st by' text (.bx (st.length+3) 0 0) (acc++Lib.trimPrefix (upto 10 rest) by') (F .ready none)++[own]),[.cells 0 145 (qel k text rest).cells],?_,?_,
    st++dedL st by' text (.bx (st.length+3) 0 0) (acc++Lib.trimPrefix (upto 10 rest) by') (F .ready none),(List.append_assoc _ _ _).symm,fun _=>⟨_,_,don++[(upto 10 rest,false)],.inr rfl,?_,?_,?_,?_,rfl⟩,nofun⟩
   ·show (st++_).set (st.length+7) _=_
    rw [yn,List.append_assoc st];rfl
   ·refine qk3 (.same _ (.same _ (.same _ (.cut (qq8 ?_) (.same _ (.cut qxu (.same _ (q8h hF (qi5 _ _))))))))) st
    intro x hx;simp only [List.mem_cons,List.not_mem_nil,or_false] at hx;rcases hx with rfl|rfl
    ·exact zae (by simp)
    ·exact qxv (by simp)
   ·rw [h1,dx];simp_all
   ·intro x hx
    rcases List.mem_append.1 hx with hx|hx
    ·exact h2 x hx
    ·simp at hx;subst hx;exact cg
   ·rw [h3,htp];simp [xp]
   ·simp
    omega
 ·rintro r st' ⟨st3,ext,rfl,⟨k,q,acc,don,hq,h1,h2,h3,h4,rfl⟩ | ⟨bv,q,acc,rfl⟩⟩
  ·refine⟨.ready,none,nofun,by rw [List.append_assoc];exact jy rfl,?_⟩
   refine qfy [(4,.bx (st.length+1) 0 0),(5,.bx (st.length+2) 0 0),(6,.bx (st.length+3) 0 0)] (st++(dedL st by' text q acc .dead++ext)) [st.length+6] ⟨rfl,rfl,rfl,trivial⟩ ?_ rfl (fun t=>?_)
   ·show ((st++_)++ext).set (st.length+7) _=_
    rw [List.append_assoc,yn];rfl
   repeat' (first|apply qn|apply qf|apply qh|(apply z4;(iterate 11 exact rfl))|apply qt|(refine qk Tryz.call171 (qq5 st _ _ 3 5 0 _ _ rfl rfl rfl) ?_))
   refine qn2 rfl rfl rfl (qm rfl (qlx rfl rfl rfl rfl rfl rfl rfl rfl rfl rfl) ⟨zgm (?_:_=_),_,rfl⟩);rw [vi,List.append_nil] at h1;unfold vp;rw [h1,if_pos h2,h3]
  ·refine⟨.done,some .ret,nofun,by rw [List.append_assoc];exact jy rfl,?_⟩
   refine qfy [(4,.bx (st.length+1) 0 0),(5,.bx (st.length+2) 0 0),(6,.bx (st.length+3) 0 0)] (st++(dedL st by' text q acc .dead++ext)) [st.length+6] ⟨rfl,rfl,rfl,trivial⟩ ?_ rfl (fun t=>?_)
   ·show ((st++_)++ext).set (st.length+7) _=_
    rw [List.append_assoc,yn];rfl
   repeat' (first|apply qt)
   refine qn2 rfl rfl rfl (qm rfl (qlx rfl rfl rfl rfl rfl rfl rfl rfl rfl rfl) ⟨zgm (?_:_=_),_,rfl⟩);unfold vp;rw [if_neg bv]
theorem quj (l:List UInt8) (st:List AObj) (hl:l.length<4294967281):qo E 241 [Sv l] st fun r st'=>r=Bv (vp [32] l).2∧st'=st:=by
 refine qx (qq _) (qp Tryz.func241 rfl (Nat.le_of_ble_eq_true rfl) ?_);repeat' (first|apply qn|apply qf|apply qh|apply qj|apply qg|(apply zf;exact rfl;exact rfl)|apply qt|(apply qk;exact Tryz.call264;exact q1b _ _ _ hl))
 exact qm rfl (q5 rfl) ⟨rfl,_,rfl⟩
theorem zav (l:List UInt8) (st:List AObj) (hl:l.length<4294967281):qo E 172 [Sv l] st fun r st'=>r=Bv (decide (yv l))∧st'=st:=by
 refine qx (qq _) (qp Tryz.func172 rfl (Nat.le_of_ble_eq_true rfl) ?_);repeat' (first|apply qn|apply qf|apply qh|apply qj|apply qg|(apply qs;(iterate 3 exact rfl))|(apply z7;exact rfl)|(apply qu;(iterate 4 exact rfl))|(apply vt;exact cAo)|(apply v7;exact cAo)|(apply qaq;exact cRa)|(apply jj <;> intro h)|(apply qi;exact rfl;apply wt;exact cAo)|(apply qi;exact rfl;apply wj;exact cAo)|(apply qi;exact rfl;apply pk_t;exact cRa)|(apply qc;exact rfl;apply cd_n <;> intro h)|(apply qc;exact rfl;apply cd_t;exact cRa)|(apply zo;(iterate 3 exact rfl))|apply qw|apply qt|(apply qk;exact Tryz.call240;exact qrh _ _ _ (by omega))|(apply qk;exact Tryz.call241;exact quj _ _ hl))
 all_goals refine qm rfl (q5 rfl) ⟨congrArg Bv (?_:_=_),_,rfl⟩
 ·exact (decide_eq_false fun ⟨a,b,c,d⟩=>by omega).symm
 ·exact (decide_eq_false fun ⟨a,b,c,d⟩=>by omega).symm
 ·exact (decide_eq_false fun ⟨a,b,c,d⟩=>by simp_all [qik]).symm
 ·have e:yv l↔(vp [32] l).2=true:=⟨fun h=>h.2.2.2,fun h=>⟨by omega,by omega,by simp_all [qik],h⟩⟩
  simp [e]
theorem zaz (n:Nat) (l:List UInt8) (st:List AObj) (hn:n≤9223372036854775807) (hl:l.length<4294967281):qo E 173 [Iv n,Sv l] st fun r st'=>r=Sv (qhr n l)∧st'=st:=by
 refine qx (qq _) (qp Tryz.func173 rfl (Nat.le_of_ble_eq_true rfl) ?_);have h1:=qcg n hn;repeat' (first|apply qn|apply qf|apply qh|apply qj|apply qg|(apply jp;exact rfl;exact rfl;exact cOs)|apply qt|(apply qk;exact Tryz.call133;exact qo9 _ _ (by omega) (by omega)))
 exact qm rfl (q5 rfl) ⟨rfl,_,rfl⟩
theorem q3u (n:Nat) (st:List AObj) (hn:n≤9223372036854775807):qo E 176 [Iv n] st fun r st'=>r=Sv (yz n)∧st'=st:=by
 refine qx (qq _) (qp Tryz.func176 rfl (Nat.le_of_ble_eq_true rfl) ?_);have h1:=qcg n hn;repeat' (first|apply qn|apply qf|apply qh|apply qj|apply qg|(apply jp;exact rfl;exact rfl;exact cOs)|apply qt|(apply qk;exact Tryz.call133;exact qo9 _ _ (by omega) (by omega)))
 exact qm rfl (q5 rfl) ⟨rfl,_,rfl⟩
theorem q2m (l:List UInt8) (st:List AObj) (hl:l.length<4294967281):qo E 261 [Sv l] st fun r st'=>r=Iv (kj l)∧st'=st:=by
 refine qx (qq _) (qp Tryz.func261 rfl (Nat.le_of_ble_eq_true rfl) ?_);repeat' (first|apply qn|apply qf|apply qh|apply qj|apply qg)
 refine qft Tryz.call73 ((qon l _ (by omega)).mono ?_);rintro _ _ ⟨rfl,n,x,rfl,hx⟩;rcases x with _ | ⟨t',y⟩
 ·simp only at hx
  have hb:=atoiAll_bounds hx;repeat' (first|apply qn|apply qf|apply qh|apply qj|apply qg|(apply zf;exact rfl;exact rfl)|(apply qs;(iterate 3 exact rfl))|(apply jk;(iterate 3 exact rfl))|(apply qu;(iterate 4 exact rfl))|(apply vt;exact cAo)|(apply v7;exact cAo)|(apply qd3;exact cRa)|(apply qaq;exact cRa)|(apply jj <;> intro h)|(apply qi;exact rfl;apply wt;exact cAo)|(apply qi;exact rfl;apply wj;exact cAo)|(apply qi;exact rfl;apply pk_t;exact cRa)|(apply qi;exact rfl;apply pk_f;exact cRa)|(apply qc;exact rfl;apply cd_t;exact cRa)|(apply qc;exact rfl;apply cd_d <;> intro h)|(apply vw;exact rfl;exact rfl)|apply qw|apply qt|(apply qk;exact Tryz.call133;exact qo9 _ _ (by omega) (by omega)))
  all_goals refine qm rfl (q5 rfl) ⟨congrArg Iv (?_:_=_),_,rfl⟩
  all_goals rw [qux hx]
  ·rw [if_neg (by simp_all)]
  ·rw [if_neg (by omega)]
  ·rw [if_neg (by omega)]
  ·rw [if_pos ⟨Classical.not_not.1 (by assumption),by omega,by omega⟩]
 ·simp only at hx
  repeat' (first|apply qn|apply qf|apply qh|apply qj|apply qg|(apply zf;exact rfl;exact rfl)|(apply qu;(iterate 4 exact rfl))|(apply qaq;exact cRa)|(apply qi;exact rfl;apply pk_t;exact cRa)|(apply qc;exact rfl;apply cd_t;exact cRa)|(apply w6;exact rfl;exact rfl)|apply qt)
  refine qm rfl (q5 rfl) ⟨congrArg Iv (?_:_=_),_,rfl⟩;rw [q2l hx];rfl
theorem zey (l:List UInt8) (st:List AObj) (hl:l.length<4294967281):qo E 202 [Sv l] st fun r st'=>r = .tu [Iv (jc l).1,Sv (jc l).2.1,Bv (jc l).2.2]∧st'=st:=by
 refine qx (qb5 _ _ _) (qp Tryz.func202 rfl (Nat.le_of_ble_eq_true rfl) ?_);have i5:=qfi l zb;have i6:=kz 32 (Lib.trimPrefix l zb);have bm:=va 32 (Lib.trimPrefix l zb);repeat' (first|apply qn|apply qf|apply qh|apply qj|apply qg|(apply zf;exact rfl;exact rfl)|(apply qs;(iterate 3 exact rfl))|(apply jk;(iterate 3 exact rfl))|(apply qu;(iterate 4 exact rfl))|(apply wy;exact cAo)|(apply xb;exact cAo)|(apply yu;exact cRa)|(apply w9;exact cRa)|(apply jj <;> intro h)|(apply qfn <;> intro h)|(apply qi;exact rfl;apply wt;exact cAo)|(apply qi;exact rfl;apply wj;exact cAo)|(apply qi;exact rfl;apply pk_t;exact cRa)|(apply qi;exact rfl;apply pk_f;exact cRa)|(apply zo;(iterate 3 exact rfl))|apply qt|(apply qk;exact Tryz.call260;exact qe4 l zb _)|(apply qk;exact Tryz.call72;exact qju (Lib.trimPrefix l zb) 32 _ (by omega))|(apply qk;exact Tryz.call261;exact q2m (upto 32 (Lib.trimPrefix l zb)) _ (by omega))|(apply qk;exact Tryz.call209;exact qxb _ _ _ (by omega) rfl rfl))
 all_goals refine qm rfl (ya rfl) ⟨zkj (?_:_=_),_,rfl⟩
 all_goals simp only [jc,Prod.mk.injEq,true_and]
 all_goals clear i5 i6 bm
 all_goals have c3:(2:Int)≤↑(kj (upto 32 (Lib.trimPrefix l zb)))↔2≤kj (upto 32 (Lib.trimPrefix l zb)):=by omega
 all_goals have c4:(↑(past 32 (Lib.trimPrefix l zb)).length:Int)=8↔(past 32 (Lib.trimPrefix l zb)).length=8:=by omega
 all_goals simp only [c3,c4,qij,qzb] at *
 all_goals clear c3 c4
 all_goals simp_all
 all_goals first|(intros;omega)|skip
theorem zbl (l:List UInt8) (st:List AObj) (hl:l.length<4294967281):qo E 201 [Sv l] st fun r st'=>r=Bv (x2 l)∧st'=st:=by
 refine qx (qq _) (qp Tryz.func201 rfl (Nat.le_of_ble_eq_true rfl) ?_);have i5:=qfi l zb;have i6:=kz 32 (Lib.trimPrefix l zb);have bm:=va 32 (Lib.trimPrefix l zb);repeat' (first|apply qn|apply qy|apply qf|apply qh|apply qj|apply qg|(apply zf;exact rfl;exact rfl)|(apply qs;(iterate 3 exact rfl))|(apply jk;(iterate 3 exact rfl))|(apply z7;exact rfl)|(apply qu;(iterate 4 exact rfl))|(apply wy;exact cAo)|(apply xb;exact cAo)|(apply jj <;> intro h)|(apply qi;exact rfl;apply wt;exact cAo)|(apply qi;exact rfl;apply wj;exact cAo)|(apply qc;exact rfl;apply vr;exact cAo)|(apply qc;exact rfl;apply cd_n <;> intro h)|(apply qc;exact rfl;apply cd_f;exact cRa)|(apply qc;exact rfl;apply cd_d <;> intro h)|(apply zo;(iterate 3 exact rfl))|apply qw|apply qt|(apply qk;exact Tryz.call260;exact qe4 l zb _)|(apply qk;exact Tryz.call164;exact qe7 _ _ _)|(apply qk;exact Tryz.call72;exact qju (Lib.trimPrefix l zb) 32 _ (by omega))|(apply qk;exact Tryz.call261;exact q2m (upto 32 (Lib.trimPrefix l zb)) _ (by omega))|(apply qk;exact Tryz.call209;exact qxb _ _ _ (by omega) rfl rfl))
 all_goals refine qm rfl (q5 rfl) ⟨congrArg Bv (?_:_=_),_,rfl⟩
 all_goals clear i5 i6 bm
 all_goals by_cases hp:zb <+: l
 all_goals have c1:(↑(kj (upto 32 (Lib.trimPrefix l zb))):Int)<2↔kj (upto 32 (Lib.trimPrefix l zb))<2:=by omega
 all_goals have c2:(↑(kj (upto 32 (Lib.trimPrefix l zb))):Int)=0↔kj (upto 32 (Lib.trimPrefix l zb))=0:=by omega
 all_goals have c4:(↑(past 32 (Lib.trimPrefix l zb)).length:Int)≤8↔(past 32 (Lib.trimPrefix l zb)).length≤8:=by omega
 all_goals simp only [c1,c2,c4,qij,qzb] at *
 all_goals clear c1 c2 c4
 all_goals try (have e:Lib.trimPrefix l zb=l.drop 7:=qdg hp;simp only [e] at *)
 all_goals unfold x2
 all_goals first|rw [if_pos hp]|rw [if_neg hp]
 all_goals simp_all
 all_goals first|exact Iff.rfl|(intros;omega)|skip
theorem ze4 (l:List UInt8) (n:Int) (st:List AObj) (hl:l.length<4294967281):qo E 203 [Sv l,Iv n] st fun r st'=>r=Iv (x8 l n)∧st'=st:=by
 refine qx (qq _) (qp Tryz.func203 rfl (Nat.le_of_ble_eq_true rfl) ?_);repeat' (first|apply qn|apply qf|apply qh|apply qj|apply qg|(apply qs;(iterate 3 exact rfl))|(apply jk;(iterate 3 exact rfl))|(apply z7;exact rfl)|(apply qu;(iterate 4 exact rfl))|(apply vt;exact cAo)|(apply v7;exact cAo)|(apply qae;(iterate 4 exact rfl))|(apply y5;exact cRa)|(apply qa1;exact cRa)|(apply qgp <;> intro h)|(apply yu;exact cRa)|(apply w9;exact cRa)|(apply jj <;> intro h)|(apply qfn <;> intro h)|(apply qi;exact rfl;apply wt;exact cAo)|(apply qi;exact rfl;apply wj;exact cAo)|(apply qi;exact rfl;apply qhu;exact cRa)|(apply qi;exact rfl;apply qer;exact cRa)|(apply qi;exact rfl;apply pk_t;exact cRa)|(apply qi;exact rfl;apply pk_f;exact cRa)|(apply qc;exact rfl;apply cd_t;exact cRa)|(apply qc;exact rfl;apply cd_f;exact cRa)|(apply qc;exact rfl;apply cd_d <;> intro h)|apply qw|apply qt|(apply qk;exact Tryz.call240;exact qrh _ _ _ (by omega))|(apply qk;exact Tryz.call241;exact quj _ _ hl))
 all_goals refine qm rfl (q5 rfl) ⟨congrArg Iv (?_:_=_),_,rfl⟩
 all_goals simp_all [x8,qik]
theorem zen (n:Int) (st:List AObj):qo E 205 [Iv n] st fun r st'=>r=Iv (qdn n)∧st'=st:=by
 refine qx (qq _) (qp Tryz.func205 rfl (Nat.le_of_ble_eq_true rfl) ?_);by_cases hr:n<2∨50000<n
 ·skip
  repeat' (first|apply qn|apply qf|apply qh|apply qj|apply qg|(apply qs;(iterate 3 exact rfl))|(apply qu;(iterate 4 exact rfl))|(apply vt;exact cAo)|(apply v7;exact cAo)|(apply jj <;> intro h)|(apply qi;exact rfl;apply wt;exact cAo)|(apply qi;exact rfl;apply wj;exact cAo)|(apply qc;exact rfl;apply vf;exact cAo)|(apply qc;exact rfl;apply cd_t;exact cRa)|apply qt)
  all_goals refine qm rfl (q5 rfl) ⟨congrArg Iv (?_:_=_),_,rfl⟩
  all_goals first|exact (if_pos hr).symm|omega
 ·obtain⟨k,rfl⟩:=Int.eq_ofNat_of_zero_le (by omega:0≤n)
  have h1:=qcg k (by omega);have h2:=qd5 k (Lib.repeatL [48] 8);have h3:=qbi k;have h4:(Lib.repeatL [48] 8).length=8:=by decide
  repeat' (first|apply qn|apply qf|apply qh|apply qj|apply qg|(apply qs;(iterate 3 exact rfl))|(apply qu;(iterate 4 exact rfl))|(apply vt;exact cAo)|(apply qi;exact rfl;apply wj;exact cAo)|(apply qc;exact rfl;apply vr;exact cAo)|(apply zo;(iterate 3 exact rfl))|(apply zl;exact rfl;exact rfl;exact q6 (by omega) (by omega))|apply qw|apply qt|(apply qk;exact Tryz.call263;exact zfm [48] 8 _ (by omega) (by decide))|(apply qk;exact Tryz.call173;exact zaz k _ _ (by omega) (by decide))|(apply qk;exact Tryz.call176;exact q3u k _ (by omega)))
  refine qm rfl (q5 rfl) ⟨congrArg Iv (?_:_=_),_,rfl⟩;unfold qdn;rw [if_neg hr,← rep8];rfl
def qby (x:BitVec 32):BitVec 32:=if x &&& 2147483648#32≠0#32 then (x <<< 1) ^^^ 79764919#32 else x <<< 1
def xo:Nat→BitVec 32→BitVec 32
 | 0,x=>x
 |n+1,x=>qby (xo n x)
theorem zkt (x:BitVec 32) (st:List AObj):qo E 321 [Wv x] st fun r st'=>r=Wv (xo 4 (x <<< 28))∧st'=st:=by
 refine qx (qq _) (qp Tryz.func321 rfl (Nat.le_of_ble_eq_true rfl) ?_);repeat' (first|apply qn|apply qy|apply qf|apply qh|apply qj|apply qg|(apply qeg;(iterate 3 exact rfl)))
 refine jv (fun (k:Nat) s=>k≤4∧StA [(3,Wv (xo k (x <<< 28))),(6,Iv k)] (st++[]) [] s) (fun k=>4 - k) 0 ⟨by omega,zz ⟨rfl,rfl,trivial⟩⟩ ?_;rintro k _ ⟨hk,t,rfl⟩;repeat' (first|apply qn|apply qy|apply qf|apply qh|apply qj|apply qg|(apply qs;(iterate 3 exact rfl))|(apply qc;exact rfl;apply cd_d <;> intro h)|(apply zl;exact rfl;exact rfl;exact q6 (by omega) (by omega))|(apply qc4;exact rfl;exact rfl;(first|exact jb _|exact rfl);first|exact jb _|exact rfl)|(apply qis;exact rfl;exact rfl;(first|exact jb _|exact rfl);first|exact jb _|exact rfl)|(apply qeg;(iterate 3 exact rfl))|apply qw|apply jd|apply qt)
 ·refine⟨k+1,⟨by omega,zz ⟨?_,rfl,trivial⟩⟩,by omega⟩
  refine congrArg Wv (?_:_=qby _)
  unfold qby;rw [if_pos (fun e=>by rename_i h;exact h ((qvu _).2 e))];rfl
 ·refine⟨k+1,⟨by omega,zz ⟨?_,rfl,trivial⟩⟩,by omega⟩
  refine congrArg Wv (?_:_=qby _)
  unfold qby;rw [if_neg (fun e=>by rename_i h;exact h (fun h'=>e ((qvu _).1 h')))]
 ·have e:k=4:=by omega
  subst e;exact qm rfl (q5 rfl) ⟨rfl,_,rfl⟩
def rowT (i:Nat):BitVec 32:=xo 4 (BitVec.ofNat 32 i <<< 28)
def tabA (k:Nat):List AV:=(List.range 16).map fun i=>if i<k then Wv (rowT i) else .v (.int .u32 0)
theorem q5p (k:Nat):(tabA k).length=16:=by simp [tabA]
theorem zcu {k:Nat} (h:k<16):(tabA k).set k (Wv (rowT k))=tabA (k+1):=by
 apply List.ext_getElem
 ·simp [tabA]
 ·intro i h1 h2
  simp only [tabA,List.length_map,List.length_range] at h2;rw [List.getElem_set];by_cases e:k=i
  ·subst e
   simp [tabA]
  ·rw [if_neg e]
   simp only [tabA,List.getElem_map,List.getElem_range];by_cases hi:i<k
   ·rw [if_pos hi,if_pos (by omega)]
   ·rw [if_neg hi,if_neg (by omega)]
theorem zf3 {i:Nat} (h:i<16):(tabA 16)[i]? = some (Wv (rowT i)):=by
 simp [tabA,h]
theorem zkd (st:List AObj):qo E 297 [] st fun r st'=>r = .ag (tabA 16)∧st'=st:=by
 refine qx (qmb (fun x hx=>?_)) (qp Tryz.func297 rfl (Nat.le_of_ble_eq_true rfl) ?_)
 ·simp only [tabA,List.mem_map] at hx
  obtain⟨i,_,rfl⟩:=hx;split <;> exact qq _
 repeat' (first|apply qn|apply qy|apply qf|apply qh|apply qj|(apply jw;exact rfl;exact rfl))
 refine jv (fun (k:Nat) s=>k≤16∧StA [(0,.bx (st.length+0) 0 0),(2,Iv k)] (st++[.cells 0 358 (tabA k)]) [] s) (fun k=>16 - k) 0 ⟨by omega,qcw ⟨rfl,rfl,trivial⟩ (by show st++[AObj.cells 0 _ _]=_;rfl)⟩ ?_;rintro k _ ⟨hk,t,rfl⟩;have a7:=q5p k;repeat' (first|apply qn|apply qy|apply qf|apply qh|apply qj|apply qg|(apply qs;(iterate 3 exact rfl))|(apply qc;exact rfl;apply cd_d <;> intro h)|(apply zl;exact rfl;exact rfl;exact q6 (by omega) (by omega))|(apply jl;(iterate 5 exact rfl))|(apply qbs;(iterate 4 exact rfl);first|assumption|omega|decide)|apply qw|apply jd|(apply qk;exact Tryz.call321;exact zkt _ _)|(apply qtf;(iterate 3 exact rfl);omega)|(apply qv5;(iterate 9 exact rfl);(show 0+k * 1+1≤_;omega);exact rfl))
 ·refine⟨k+1,⟨by omega,qcw ⟨rfl,rfl,trivial⟩ ?_⟩,by omega⟩
  show st++[AObj.cells 0 _ (zx (tabA k) (0+k * 1) [Wv (rowT k)])]=_
  rw [Nat.zero_add,Nat.mul_one,q89 (by omega),zcu (by omega)]
 ·have e:k=16:=by omega
  subst e;repeat' (first|apply qh|(apply z4;(iterate 11 exact rfl))|apply qt)
  exact qm rfl (qv9 rfl rfl rfl rfl rfl rfl) ⟨rfl,_,rfl⟩
def crcN (x:BitVec 32) (n:Nat):BitVec 32:=(x <<< 4) ^^^ rowT ((x >>> 28) ^^^ BitVec.ofNat 32 n).toNat
def crcP (x:BitVec 32) (c:UInt8):BitVec 32:=crcN (crcN x (c.toNat / 16)) (c.toNat % 16)
def addP (s:BitVec 32) (l:List UInt8):BitVec 32:= ~~~ (l.foldl crcP (~~~ s))
def qz7 (y:BitVec 32) (c:UInt8):Nat→BitVec 32
 | 0=>y
 | 1=>crcN y (c.toNat / 16)
 | _=>crcP y c
theorem za7 (x:BitVec 32) {n:Nat} (h:n<16):((x >>> 28) ^^^ BitVec.ofNat 32 n).toNat<16:=by
 rw [BitVec.toNat_xor];refine Nat.xor_lt_two_pow (n:=4) ?_ ?_
 ·rw [BitVec.toNat_ushiftRight,Nat.shiftRight_eq_div_pow]
  have:=x.isLt;omega
 ·rw [BitVec.toNat_ofNat]
  omega
theorem q3t {n:Nat} (h:n<16):j8 1 false (0+n * 1) (tabA 16)=some (Wv (rowT n)):=by
 rw [Nat.zero_add,Nat.mul_one];exact zf3 h
theorem zko (x:BitVec 32) (l:List UInt8) (st:List AObj) (hl:l.length<4294967281):qo E 243 [Wv x,Sv l] st fun r st'=>r=Wv (addP x l)∧st'=st:=by
 refine qx (qq _) (qp Tryz.func243 rfl (Nat.le_of_ble_eq_true rfl) ?_);repeat' (first|apply qn|apply qy|apply qf|apply qh|apply qj|apply qg|(apply zo;(iterate 3 exact rfl))|(apply jw;exact rfl;exact rfl)|(apply z4;(iterate 11 exact rfl))|(apply qgg;exact rfl)|(apply qk;exact Tryz.call297;exact zkd _))
 refine jv (fun (k:Nat) s=>k≤l.length∧StA [(1,Sv l),(5,.bx (st.length+0) 0 0),(6,Wv ((l.take k).foldl crcP (~~~ x))),(14,Iv l.length),(15,Iv k)] (st++[.cells 0 358 (tabA 16)]) [] s) (fun k=>l.length - k) 0 ⟨by omega,qcw ⟨rfl,rfl,rfl,rfl,rfl,trivial⟩ (by show st++[AObj.cells 0 _ _]=_;rfl)⟩ ?_;rintro k _ ⟨hk,t,rfl⟩;generalize hx:(l.take k).foldl crcP (~~~ x)=y;have hc:=UInt8.toNat_lt (l.getD k 0);repeat' (first|apply qn|apply qy|apply qf|apply qh|apply qj|apply qg|(apply qs;(iterate 3 exact rfl))|(apply qc;exact rfl;apply cd_d <;> intro h)|(apply qgg;exact rfl)|(apply qjr;exact rfl;kernel_rfl)|apply qh5|(apply q0u;(iterate 3 exact rfl);exact cAs)|(apply qv7;exact rfl;exact rfl)|(apply qr2;exact rfl;exact rfl)|(apply qr4;(iterate 3 exact rfl);omega)|(apply qok;(iterate 3 exact rfl))|apply qfx|apply qw|apply jd|apply qt)
 ·generalize mc:l.getD k 0=c at *
  refine jv (fun (j:Nat) s=>j≤2∧StA [(1,Sv l),(5,.bx (st.length+0) 0 0),(6,Wv (qz7 y c j)),(14,Iv l.length),(15,Iv k),(28,.ag [Wv (BitVec.ofNat 32 (c.toNat / 16)),Wv (BitVec.ofNat 32 (c.toNat % 16))]),(29,Iv j)] (st++[.cells 0 358 (tabA 16)]) [] s) (fun j=>2 - j) 0 ⟨by omega,qcw ⟨rfl,rfl,rfl,rfl,rfl,rfl,rfl,trivial⟩ rfl⟩ ?_;rintro j _ ⟨hj,t2,rfl⟩;have hj3:j=0∨j=1∨j=2:=by omega
  have hn1:=za7 (qz7 y c j) (n:=c.toNat / 16) (by omega);have fj:=za7 (qz7 y c j) (n:=c.toNat % 16) (by omega);generalize hz:qz7 y c j=z at hn1 fj ⊢;rcases hj3 with rfl|rfl|rfl
  ·skip
   repeat' (first|apply qn|apply qy|apply qf|apply qh|apply qj|apply qg|(apply qs;(iterate 3 exact rfl))|(apply qc;exact rfl;apply vf;exact cAo)|(apply zl;exact rfl;exact rfl;exact q6 (by omega) (by omega))|(apply qc4;exact rfl;exact rfl;(first|exact jb _|exact rfl);first|exact jb _|exact rfl)|(apply qeg;(iterate 3 exact rfl))|(apply qgi;(iterate 3 exact rfl))|(apply qhl;(iterate 4 exact rfl);(first|assumption|omega|decide);exact rfl)|(apply qbs;(iterate 4 exact rfl);first|assumption|omega|decide)|apply qw|(apply jl;(iterate 4 exact rfl);exact q3t hn1))
   subst hz;exact⟨1,⟨by omega,qcw ⟨rfl,rfl,rfl,rfl,rfl,rfl,rfl,trivial⟩ rfl⟩,by omega⟩
  ·skip
   repeat' (first|apply qn|apply qy|apply qf|apply qh|apply qj|apply qg|(apply qs;(iterate 3 exact rfl))|(apply qc;exact rfl;apply vf;exact cAo)|(apply zl;exact rfl;exact rfl;exact q6 (by omega) (by omega))|(apply qc4;exact rfl;exact rfl;(first|exact jb _|exact rfl);first|exact jb _|exact rfl)|(apply qeg;(iterate 3 exact rfl))|(apply qgi;(iterate 3 exact rfl))|(apply qhl;(iterate 4 exact rfl);(first|assumption|omega|decide);exact rfl)|(apply qbs;(iterate 4 exact rfl);first|assumption|omega|decide)|apply qw|(apply jl;(iterate 4 exact rfl);exact q3t fj))
   subst hz;exact⟨2,⟨by omega,qcw ⟨rfl,rfl,rfl,rfl,rfl,rfl,rfl,trivial⟩ rfl⟩,by omega⟩
  ·skip
   repeat' (first|apply qn|apply qf|apply qh|apply qj|(apply qs;(iterate 3 exact rfl))|(apply qc;exact rfl;apply vr;exact cAo)|(apply zl;exact rfl;exact rfl;exact q6 (by omega) (by omega))|apply jd)
   subst hz;refine⟨k+1,⟨by omega,qcw ⟨rfl,rfl,?_,rfl,rfl,trivial⟩ rfl⟩,by omega⟩;refine congrArg Wv (?_:crcP y c=_);rw [qa8 (by omega),List.foldl_append,hx,mc];rfl
 ·have e:k=l.length:=by omega
  subst e;refine qm rfl (q5 rfl) ⟨congrArg Wv (?_:_=_),_,rfl⟩;unfold addP;rw [← hx,List.take_length]
theorem zct (l:List UInt8) (st:List AObj) (hl:l.length<4294967281):qo E 175 [.sl 1 [Sv l] none] st fun r st'=>r=Wv (addP 0 l)∧st'=st:=by
 refine qx (qq _) (qp Tryz.func175 rfl (Nat.le_of_ble_eq_true rfl) ?_);repeat' (first|apply qn|apply qy|apply qf|apply qh|apply qj|apply qg|(apply jm;(iterate 4 exact rfl)))
 refine jv (fun (k:Nat) s=>k≤1∧StA [(3,Wv (if k=0 then 0 else addP 0 l)),(6,.sl 1 [Sv l] none),(7,Iv 1),(8,Iv k)] (st++[]) [] s) (fun k=>1 - k) 0 ⟨by omega,qcw ⟨rfl,rfl,rfl,rfl,trivial⟩ rfl⟩ ?_;rintro k _ ⟨hk,t,rfl⟩;have s3:k=0∨k=1:=by omega
 rcases s3 with rfl|rfl
 ·skip
  repeat' (first|apply qn|apply qy|apply qf|apply qh|apply qj|apply qg|(apply qs;(iterate 3 exact rfl))|(apply qc;exact rfl;apply vf;exact cAo)|(apply zl;exact rfl;exact rfl;exact q6 (by omega) (by omega))|(apply jn;(iterate 3 exact rfl))|apply qw|(apply kp;(iterate 4 exact rfl);exact (rfl:(0:Int)=((0:Nat):Int));exact rfl)|(apply qk;exact Tryz.call243;exact zko 0 _ _ hl))
  exact⟨1,⟨by omega,qcw ⟨rfl,rfl,rfl,rfl,trivial⟩ rfl⟩,by omega⟩
 ·skip
  repeat' (first|apply qn|apply qf|apply qh|apply qj|apply qg|(apply qs;(iterate 3 exact rfl))|(apply qc;exact rfl;apply vr;exact cAo)|apply jd|apply qt)
  exact qm rfl (q5 rfl) ⟨rfl,_,rfl⟩
def figP (s:BitVec 32) (j:Nat):UInt8:=[48,49,50,51,52,53,54,55,56,57,97,98,99,100,101,102].getD ((s >>> (4 * (7 - j))) &&& BitVec.ofInt 32 15).toNat 0
def yc (s:BitVec 32) (n:Nat):List UInt8:=(List.range n).map (figP s)
theorem qyb (x:BitVec 32) (st:List AObj):qo E 174 [Wv x] st fun r st'=>r=Sv (yc x 8)∧st'=st:=by
 refine qx (qq _) (qp Tryz.func174 rfl (Nat.le_of_ble_eq_true rfl) ?_);repeat' (first|apply qn|apply qy|apply qf|apply qh|apply qg|(apply jw;exact rfl;exact rfl))
 refine qq4 (o:=st.length+0) (j:=1) (sz:=1) (T':=5) (jy rfl) rfl ?_
 refine jv (fun (j:Nat) s=>j≤8∧∃ q,(q = .v (.pointer none)∨q = .bx (st.length+0) 0 0)∧StA [(0,Wv x),(3,.bx (st.length+0) 0 0),(4,Iv (7 - (j:Int)))] (st++[bldO 0 q (yc x j) (st.length+1),.tip (yc x j).length 1 5]) [] s) (fun j=>8 - j) 0
  ⟨by omega,_,.inl rfl,qcw ⟨rfl,rfl,rfl,trivial⟩ ?_⟩ ?_
 ·show (st++[_]).set (st.length+0) (.cells 0 246 [_,.sl 1 [] (some (st++[_]).length)])++[_]=_
  rw [yn,List.append_assoc];simp [yc]
 rintro j _ ⟨hj,q,hq,t,rfl⟩;have hf:(yc x j).length=j:=by simp [yc]
 repeat' (first|apply qn|apply qy|apply qf|apply qh|apply qj|apply qg|(apply qs;(iterate 3 exact rfl))|(apply qc;exact rfl;apply cd_d <;> intro h)|(apply xc;exact rfl;exact rfl;exact q6 (by omega) (by omega))|(apply qis;exact rfl;exact rfl;(first|exact jb _|exact rfl);first|exact jb _|exact rfl)|apply qw|apply jd|apply qt|(apply qg1;exact rfl;exact rfl;exact q6 (by omega) (by omega))|(apply q38 (n:=4 * (7 - j));exact rfl;exact rfl;omega;omega)|(apply wa;(iterate 3 exact rfl);exact and15_lt _)|(refine qk Tryz.call242 (q9z st _ _ 0 1 0 _ _ _ rfl rfl ?_ ?_ rfl) ?_;exact hq;omega)|(refine qk Tryz.call171 (qq5 st _ _ 0 1 0 _ _ rfl rfl rfl) ?_))
 ·have e1:yc x j++[figP x j]=yc x (j+1):=by simp [yc,List.range_succ]
  refine⟨j+1,⟨by omega,_,.inr rfl,qcw ⟨rfl,rfl,congrArg Iv (by omega:(7 - (j:Int)) - 1=7 - ((j+1:Nat):Int)),trivial⟩ ?_⟩,by omega⟩
  show st++[bldO 0 _ (yc x j++[figP x j]) (st.length+1),.tip (yc x j++[figP x j]).length 1 5]=_
  rw [e1]
 ·have e:j=8:=by omega
  subst e;exact qm rfl (q5 rfl) ⟨rfl,_,rfl⟩
def sumF (l:List UInt8):List UInt8:=yc (addP 0 l) 8
theorem qlu (l:List UInt8):(sumF l).length=8:=by simp [sumF,yc]
theorem is_c (f l:List UInt8) (st:List AObj) (hl:l.length<4294967281):qo E 262 [Sv f,.sl 1 [Sv l] none] st fun r st'=>r=Bv (decide (f=sumF l))∧st'=st:=by
 refine qx (qq _) (qp Tryz.func262 rfl (Nat.le_of_ble_eq_true rfl) ?_);repeat' (first|apply qn|apply qf|apply qh|apply qj|apply qg|(apply jk;(iterate 3 exact rfl))|apply qt|(apply qk;exact Tryz.call175;exact zct l _ hl)|(apply qk;exact Tryz.call174;exact qyb _ _))
 exact qm rfl (q5 rfl) ⟨rfl,_,rfl⟩
def xm (rest body sums:List UInt8) (size:Int):Int×List UInt8×Int:=
 if rest.length<(yz body.length).length∧rest <+: yz body.length then (2,[],0)
 else if yz body.length <+: rest∧sums=sumF body then (1,body,size) else (3,[],0)
theorem zdx (rest body sums:List UInt8) (size:Int) (st:List AObj) (hb:body.length<4294967281):qo E 204 [Sv rest,Sv body,Sv sums,Iv size] st fun r st'=>r = .tu [Iv (xm rest body sums size).1,Sv (xm rest body sums size).2.1,Iv (xm rest body sums size).2.2]∧st'=st:=by
 refine qx (qb5 _ _ _) (qp Tryz.func204 rfl (Nat.le_of_ble_eq_true rfl) ?_);repeat' (first|apply qn|apply qy|apply qf|apply qh|apply qj|apply qg|(apply qs;(iterate 3 exact rfl))|(apply qu;(iterate 4 exact rfl))|(apply wy;exact cAo)|(apply xb;exact cAo)|(apply yu;exact cRa)|(apply w9;exact cRa)|(apply jj <;> intro h)|(apply qfn <;> intro h)|(apply qi;exact rfl;apply wt;exact cAo)|(apply qi;exact rfl;apply wj;exact cAo)|(apply qi;exact rfl;apply pk_t;exact cRa)|(apply qi;exact rfl;apply pk_f;exact cRa)|(apply qc;exact rfl;apply cd_f;exact cRa)|(apply qc;exact rfl;apply cd_d <;> intro h)|(apply qc;exact rfl;apply cd_s <;> intro h)|(apply zo;(iterate 3 exact rfl))|(apply v6;(iterate 9 exact rfl))|apply qw|apply qt|(apply qk;exact Tryz.call176;exact q3u body.length _ (by omega))|(apply qk;exact Tryz.call164;exact qe7 _ _ _)|(apply qk;exact Tryz.call262;exact is_c sums body _ hb))
 all_goals refine qm rfl (ya rfl) ⟨qvw (?_:_=_),_,rfl⟩
 all_goals show _=xm rest body sums size
 all_goals
  have c1:(↑rest.length:Int) < ↑(yz body.length).length↔rest.length<(yz body.length).length:=by omega
  simp only [c1,qij,decide_eq_true_eq,decide_eq_false_iff_not] at *;simp_all [xm] <;> (intros;omega)
theorem zdo (l:List UInt8) (st:List AObj) (hl:l.length<4294967281):qo E 118 [Sv l] st fun r st'=>r=Bv (decide (l.head? = some 37∧qv l=5))∧st'=st:=by
 refine qx (qq _) (qp Tryz.func118 rfl (Nat.le_of_ble_eq_true rfl) ?_);repeat' (first|apply qn|apply qf|apply qh|apply qj|apply qg|(apply qs;(iterate 3 exact rfl))|(apply qu;(iterate 4 exact rfl))|(apply wy;exact cAo)|(apply xb;exact cAo)|(apply jj <;> intro h)|(apply qi;exact rfl;apply wt;exact cAo)|(apply qi;exact rfl;apply wj;exact cAo)|apply qt|(apply qk;exact Tryz.call164;exact qgq _ _ _)|(apply qk;exact Tryz.call122;exact ql7 _ _ hl))
 all_goals refine qm rfl (q5 rfl) ⟨congrArg Bv (?_:_=_),_,rfl⟩
 all_goals simp_all
def zh (l:List UInt8):Int×List UInt8×Int:=
 if 10∈l then
  if (jc (upto 10 l)).2.2=true then
   if (past 10 l).length<(jc (upto 10 l)).1 then (x8 (past 10 l) ((jc (upto 10 l)).1 - (past 10 l).length),[],0)
   else if yv ((past 10 l).take (jc (upto 10 l)).1) then xm ((past 10 l).drop (jc (upto 10 l)).1) ((past 10 l).take (jc (upto 10 l)).1) (jc (upto 10 l)).2.1 (qdn (jc (upto 10 l)).1)
   else (3,[],0)
  else (3,[],0)
 else if x2 l=true then (2,[],0) else (3,[],0)
theorem zj9 (l:List UInt8) (st:List AObj) (hl:l.length<4294967281):qo E 119 [Sv l] st fun r st'=>r = .tu [Iv (zh l).1,Sv (zh l).2.1,Iv (zh l).2.2]∧st'=st:=by
 refine qx (qb5 _ _ _) (qp Tryz.func119 rfl (Nat.le_of_ble_eq_true rfl) ?_);have i6:=kz 10 l;have bm:=va 10 l;have hn:(jc (upto 10 l)).1≤50000:=qan _;repeat' (first|apply qn|apply qy|apply qf|apply qh|apply qj|apply qg|(apply zf;exact rfl;exact rfl)|(apply qs;(iterate 3 exact rfl))|(apply z7;exact rfl)|(apply qc;exact rfl;apply cd_n <;> intro h)|(apply qc;exact rfl;apply cd_d <;> intro h)|(apply qc;exact rfl;apply cd_s <;> intro h)|(apply zo;(iterate 3 exact rfl))|(apply xc;exact rfl;exact rfl;exact q6 (by omega) (by omega))|(apply qa5;(iterate 3 exact rfl);exact cAs)|(apply qjr;exact rfl;kernel_rfl)|apply qh5|apply qfx|apply qh3|(apply qqc;(iterate 3 exact rfl);exact cAs)|(apply qqb;(iterate 3 exact rfl);exact cAs)|(apply qmo;exact rfl;exact rfl)|apply qw|apply qt|(apply qk;exact Tryz.call72;exact qju l 10 _ hl)|(apply qk;exact Tryz.call201;exact zbl _ _ hl)|(apply qk;exact Tryz.call202;exact zey (upto 10 l) _ (by omega))|(apply qk;exact Tryz.call203;exact ze4 _ _ _ (by omega))|(apply qk;exact Tryz.call172;exact zav ((past 10 l).take (jc (upto 10 l)).1) _ (by simp;omega))|(refine q5w (vals:=[.int .i64 (jc (upto 10 l)).1]) E_ok Tryz.call205 rfl (qkf _) (fun _=>.v _) (zen _ _) ?_)|(refine q5w (vals:=[.string ⟨((past 10 l).drop (jc (upto 10 l)).1).toArray⟩,.string ⟨((past 10 l).take (jc (upto 10 l)).1).toArray⟩,.string ⟨(jc (upto 10 l)).2.1.toArray⟩,.int .i64 (qdn (jc (upto 10 l)).1)]) E_ok Tryz.call204 rfl zf2 (fun _=>qwy (.v _) (.v _) (.v _)) (zdx _ _ _ _ _ (by simp;omega)) ?_))
 all_goals refine qm rfl (ya rfl) ⟨qvw (?_:_=zh l),_,rfl⟩
 all_goals
  have c1:(↑(past 10 l).length:Int) < ↑(jc (upto 10 l)).1↔(past 10 l).length<(jc (upto 10 l)).1:=by omega
  simp only [c1,decide_eq_true_eq,decide_eq_false_iff_not] at *;clear c1 i6 bm hn hl
 ·unfold zh;rw [if_neg (by assumption),if_pos (by assumption)]
 ·unfold zh;rw [if_neg (by assumption),if_neg (by simp_all)]
 ·unfold zh;rw [if_pos (by assumption),if_neg (by simp_all)]
 ·unfold zh;rw [if_pos (by assumption),if_pos (by assumption),if_pos (by assumption)]
 ·unfold zh;rw [if_pos (by assumption),if_pos (by assumption),if_neg (by assumption),if_neg (by assumption)]
 ·unfold zh;rw [if_pos (by assumption),if_pos (by assumption),if_neg (by assumption),if_pos (by assumption)]
def recF (l:List UInt8):List UInt8:=qhr l.length (sumF l)++l++yz l.length
def q58:AV:=.ifc 62 (.v (.int .i64 2))
def qf7 (l:List UInt8):AV:=if yv l then .tu [Sv (recF l),.v .nilIface] else .tu [Sv [],q58]
theorem q22 (l:List UInt8):Pure (qf7 l):=by
 unfold qf7;split
 ·exact qld _ _
 ·exact qdo (by simp;exact⟨qq _,qci (qq _)⟩)
theorem zfh (l:List UInt8) (st:List AObj) (hl:l.length<4294967281):qo E 104 [Sv l] st fun r st'=>r=qf7 l∧st'=st:=by
 refine qx (q22 l) (qp Tryz.func104 rfl (Nat.le_of_ble_eq_true rfl) ?_);have h1:=qcg l.length (by omega);have h2:=qd5 l.length (sumF l);have h3:=qbi l.length;have h4:=qlu l;repeat' (first|apply qn|apply qf|apply qh|apply qj|apply qg|(apply z7;exact rfl)|(apply qc;exact rfl;apply cd_n <;> intro h)|(apply zo;(iterate 3 exact rfl))|(apply jp;exact rfl;exact rfl;exact cOs)|(apply vh;exact rfl;exact rfl)|(apply v6;(iterate 9 exact rfl))|apply qw|apply qt|(apply qk;exact Tryz.call172;exact zav _ _ hl)|(apply qk;exact Tryz.call175;exact zct l _ hl)|(apply qk;exact Tryz.call174;exact qyb _ _)|(apply qk;exact Tryz.call173;exact zaz l.length (sumF l) _ (by omega) (by omega))|(apply qk;exact Tryz.call176;exact q3u l.length _ (by omega)))
 ·have e:AV.tu [Sv [],q58]=qf7 l:=by unfold qf7;rw [if_neg (of_decide_eq_false (by assumption))]
  exact qm rfl (ki rfl) ⟨e,_,rfl⟩
 ·have e:AV.tu [Sv (recF l),.v .nilIface]=qf7 l:=by unfold qf7;rw [if_pos (of_decide_eq_true (by assumption))]
  exact qm rfl (ki rfl) ⟨e,_,rfl⟩
end Go.Proofs.YtneejjefekdgjaaGreatDoor
