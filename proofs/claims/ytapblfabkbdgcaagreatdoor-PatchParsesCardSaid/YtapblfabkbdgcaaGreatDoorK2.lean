/- Contracts and plain facts that the closing text leans on (part 2). No condition of their own beyond those that each states. -/
import Derived.Test.YtapblfabkbdgcaaGreatDoorK1
import Derived.Lib.Builder
import Derived.Laws.Pointers
import Derived.Laws.Externs
import Derived.Laws.Tables
import Derived.Test.YtapblfabkbdgcaaGreatDoorK0
import Derived.Test.YtapblfabkbdgcaaGreatDoorRows
import Derived.LaidHandle
import Derived.ProofKit
import Derived.OpenShut
import Derived.ShutString
import Derived.Deep.DeepHandedRow
import Derived.Deep.DeepWitnessRowRef
import Derived.Lib.LaidU8
import Derived.Lib.SmallJoins
import Derived.ChangeSame
import Derived.ChangeAgain
import Derived.Lay
import Derived.Lib.Index
import Derived.Lib.SlTrimSet
import Derived.Shelf.Strings.Prefix
import Derived.Shelf.Strings.Cut
import Derived.Lib.ItoaNum
import Derived.Lib.AtoiAll
import Derived.Lib.Repeat
set_option maxRecDepth 100000
set_option linter.unusedVariables false
set_option linter.unusedSimpArgs false
namespace Go.Av
open Go Go.RowKit
section
variable {E : Env} {rd : Option Nat} {N : Nat} {ops : Array Oper} {K : AS → Prop} {s : AS} {rest : List Oper} {d : Option Tmp} {T : TypeId} {p : String} {af : Array Edge}
def zel:AV→Bool
 | .bx _ _ _=>true
 | .pp _=>true
 | _=>false
theorem wy {x:Operand} {r:AV} (hx:qj N s x=r) (hr:zel r=true) (h:AOps E rd N ops rest K (s.put d r)):AOps E rd N ops (⟨d,.nilCheck x,T,p,af,none⟩::rest) K s:=by
 refine q7 rfl (qy nofun fun B0 w0 G a w _ hI=>?_);have he:=hI.eval_of hx
 have key:∃ q,a.eval x = .pointer (some q):=by
  generalize a.eval x=u at he
  cases he <;> simp [zel] at hr
  ·exact⟨_,rfl⟩
  ·exact⟨_,rfl⟩
 obtain⟨q,hv⟩:=key;refine⟨_,w,G,r,s.st,?_,.refl G,hI.agree,hv▸he,h⟩;generalize a.eval = ρ at hv;simp [execOp,hv]
end
section
variable {B0 : Nat} {w0 : World} {G : Gh} {st : List AObj} {w : World}
theorem zi.refroze (h:zi B0 w0 G st w) {w':World} {g:Nat} {c:Array Value} {T:TypeId} {fz fz':Nat×Nat} (hg:w.heap[g]? = some (.cells c T fz)) (hg':w'.heap[g]? = some (.cells c T fz')) (ho:∀ k,k≠g→w'.heap[k]? = w.heap[k]?) (hB:B0≤g)
  (f8:w'.heap.size=w.heap.size) (hos:w'.os=w.os) (htape:w'.tape=w.tape) (hout:w'.output=w.output) (hs:∀ o x,st[o]? = some x→x.live→(G.ob o).blk≠g):zi B0 w0 G st w':=by
 refine⟨h.below.trans ⟨hos,htape,hout,by omega,fun k hk=>ho k (by omega)⟩,by rw [f8];exact h.hB,h.n,fun b vs hb=>?_,fun o x hx=>(h.ob o x hx).mono (.refl G) rfl (fun _=>rfl) (fun hl=>ho _ (hs o x hx hl)),h.sep⟩;by_cases e:b=g
 ·subst e
  obtain⟨c2,T2,fz2,e1,e2⟩:=h.pub b vs hb;rw [hg] at e1;simp only [Option.some.injEq,Obj.cells.injEq] at e1;exact⟨c,T,fz',hg',by rw [e1.1];exact e2⟩
 ·rw [ho b e]
  exact h.pub b vs hb
theorem zi.tipCell (h:zi B0 w0 G st w) {o ver j sz:Nat} {T T':TypeId} {cs:List AV} (ho:st[o]? = some (.cells ver T cs)) (hj:cs[j]? = some zy) :
  zi B0 w0 (G.new 0 0 0 false) (st.set o (.cells ver T (cs.set j (.sl sz [] (some st.length))))++[AObj.tip 0 sz T']) w:=by
 have h1:=h.newTip sz T';have d5:=G.le_new 0 0 0 false;have d6:=lt_of_getElem? ho
 have e:st.set o (.cells ver T (cs.set j (.sl sz [] (some st.length))))++[AObj.tip 0 sz T']=(st++[AObj.tip 0 sz T']).set o (.cells ver T (cs.set j (.sl sz [] (some st.length)))):=by
  rw [List.set_append_left _ _ d6]
 rw [e];have d7:(st++[AObj.tip 0 sz T'])[o]? = some (.cells ver T cs):=by rw [List.getElem?_append_left d6];exact ho
 generalize hG:G.new 0 0 0 false=G' at h1 d5;have hn:st.length<G'.n:=by rw [h1.n];simp
 refine⟨h1.below,h1.hB,by simp [h1.n],h1.pub,fun k x hx=>?_,fun k k' x x' b8 hx e7 hl n9=>?_⟩
 ·rcases getElem?_set' _ _ _ _ _ hx with⟨rfl,rfl⟩ | ⟨b8,hx⟩
  ·obtain⟨g0,g1,g2,g3,c,g4,g5,g6⟩:=h1.ob k _ d7
   refine⟨g0,g1,g2,g3,c,g4,by simpa using g5,fun i x y hx hy=>?_⟩;rcases getElem?_set' _ _ _ _ _ hx with⟨rfl,rfl⟩ | ⟨_,hx⟩
   ·have:=g6 i _ y hj hy
    cases this
    exact .sl0 sz (some st.length) none 0 fun t ht=>by simp at ht;subst ht;exact⟨hn,rfl,rfl⟩
   ·exact g6 i x y hx hy
  ·exact h1.ob k x hx
 ·have key:∀ (k:Nat) (x:AObj),((st++[AObj.tip 0 sz T']).set o (.cells ver T (cs.set j (.sl sz [] (some st.length)))))[k]? = some x→∃ x0:AObj,(st++[AObj.tip 0 sz T'])[k]? = some x0∧(x.live→x0.live):=fun k x hx=>by
   rcases getElem?_set' _ _ _ _ _ hx with⟨rfl,rfl⟩ | ⟨_,hx⟩
   ·exact⟨_,d7,fun _=>trivial⟩
   ·exact⟨x,hx,id⟩
  obtain⟨x0,e1,e2⟩:=key k x hx;obtain⟨x1,e3,e4⟩:=key k' x' e7;exact h1.sep k k' x0 x1 b8 e1 e3 (e2 hl) (e4 n9)
end
section
variable {E : Env} {rd : Option Nat} {N : Nat} {ops : Array Oper} {K : AS → Prop} {s : AS} {rest : List Oper} {d : Option Tmp} {T : TypeId} {p : String} {af : Array Edge}
def qbw:AV→Option Bool
 | .bx _ _ _=>some false
 | .pp _=>some false
 | .v (.pointer none)=>some true
 | _=>none
theorem qas {x:Operand} {t t' te:TypeId} {r:AV} {b:Bool} (hx:qj N s x=r) (hr:qbw r=some b) (hu:E.P.underlying t=some (.pointer te)) (h:AOps E rd N ops rest K (s.put d (Bv b))):AOps E rd N ops (⟨d,.binOp .eql t x (.const (.pointer none)) t',T,p,af,none⟩::rest) K s:=by
 refine q7 rfl (qy nofun fun B0 w0 G a w _ hI=>?_);have he:=hI.eval_of hx
 have key:∃ q:Option Addr,a.eval x = .pointer q∧q.isNone=b:=by
  generalize a.eval x=u at he
  cases he <;> try (simp [qbw] at hr;done)
  case v=>
   cases u <;> try (simp [qbw] at hr;done)
   case pointer q=>
    cases q <;> simp [qbw] at hr
    subst hr;exact⟨_,rfl,rfl⟩
  case pp=>simp [qbw] at hr;subst hr;exact⟨_,rfl,rfl⟩
  case bx=>simp [qbw] at hr;subst hr;exact⟨_,rfl,rfl⟩
 obtain⟨q,hv,rfl⟩:=key;have hc:a.eval (.const (.pointer none)) = .pointer none:=rfl;have hq:=run_eql_pointer_nil (P:=E.P) w t q (by simp [Program.pointee,hu]);refine⟨_,w,G,_,s.st,?_,.refl G,hI.agree,.v _,h⟩;generalize a.eval = ρ at hv hc;simp [execOp,hv,hc,eqGuard_at_pointer,hq]
theorem qmd {x:Operand} {t t' te:TypeId} {r:AV} {b:Bool} (hx:qj N s x=r) (hr:qbw r=some b) (hu:E.P.underlying t=some (.pointer te)) (h:AOps E rd N ops rest K (s.put d (Bv !b))):AOps E rd N ops (⟨d,.binOp .neq t x (.const (.pointer none)) t',T,p,af,none⟩::rest) K s:=by
 refine q7 rfl (qy nofun fun B0 w0 G a w _ hI=>?_);have he:=hI.eval_of hx
 have key:∃ q:Option Addr,a.eval x = .pointer q∧q.isNone=b:=by
  generalize a.eval x=u at he
  cases he <;> try (simp [qbw] at hr;done)
  case v=>
   cases u <;> try (simp [qbw] at hr;done)
   case pointer q=>
    cases q <;> simp [qbw] at hr
    subst hr;exact⟨_,rfl,rfl⟩
  case pp=>simp [qbw] at hr;subst hr;exact⟨_,rfl,rfl⟩
  case bx=>simp [qbw] at hr;subst hr;exact⟨_,rfl,rfl⟩
 obtain⟨q,hv,rfl⟩:=key;have hc:a.eval (.const (.pointer none)) = .pointer none:=rfl;have hq:=run_neq_pointer_nil (P:=E.P) w t q (by simp [Program.pointee,hu]);refine⟨_,w,G,_,s.st,?_,.refl G,hI.agree,.v _,h⟩;generalize a.eval = ρ at hv hc;simp [execOp,hv,hc,eqGuard_at_pointer,hq]
theorem Inv.ptr {B0:Nat} {w0:World} {G:Gh} {a:Act} {w:World} (hI:Inv B0 w0 N G s a w) {x:Operand} {o ver off:Nat} {T1:TypeId} {cs:List AV} (hx:qj N s x = .bx o ver off) (ho:s.st[o]? = some (.cells ver T1 cs)):a.eval x = .pointer (some ⟨(G.ob o).blk,off,none⟩):=by
 have he:=hI.eval_of hx;obtain⟨_,h1,_⟩:=hI.agree.ob o _ ho;generalize a.eval x=v at he
 cases he with
 |bx _ _ _ b hn hv hb=>rw [hb h1]
theorem qtu {x y:Operand} {t t' te:TypeId} {o ver off:Nat} {T1:TypeId} {cs:List AV} (hx:qj N s x = .bx o ver off) (hy:qj N s y = .bx o ver off) (ho:s.st[o]? = some (.cells ver T1 cs)) (hu:E.P.underlying t=some (.pointer te)) (hi:(E.P.info? te).isSome=true)
  (h:AOps E rd N ops rest K (s.put d (Bv false))):AOps E rd N ops (⟨d,.binOp .neq t x y t',T,p,af,none⟩::rest) K s:=by
 refine q7 rfl (qy nofun fun B0 w0 G a w _ hI=>?_);obtain⟨j,hj⟩:=Option.isSome_iff_exists.1 hi;have h1:=hI.ptr hx ho;have h2:=hI.ptr hy ho;have hq:=Lib.run_neq_ptr_same (P:=E.P) w ⟨(G.ob o).blk,off,none⟩ hu hj;refine⟨_,w,G,_,s.st,?_,.refl G,hI.agree,.v _,h⟩;generalize a.eval = ρ at h1 h2;simp [execOp,h1,h2,eqGuard_at_pointer,hq]
theorem qw9 {x:Operand} {t t' te:TypeId} {o ver:Nat} {T1:TypeId} {cs:List AV} (hx:qj N s x = .bx o ver 0) (ho:s.st[o]? = some (.cells ver T1 cs)) (b8:0<cs.length) (hs:E.P.underlying t=some (.pointer te)) (hd:E.P.underlying t'=some .unsafePointer) (hi:(match E.P.info? te with|some j=>Nat.beq j.size 0|none=>true)=false)
  (h:AOps E rd N ops rest K (s.put d (.bx o ver 0))):AOps E rd N ops (⟨d,.convert t t' x,T,p,af,none⟩::rest) K s:=by
 refine q7 rfl (qy nofun fun B0 w0 G a w _ hI=>?_);obtain⟨_,h1,h2,h3,c,h4,h5,h6⟩:=hI.agree.ob o _ ho;have he:=hI.eval_of hx;have hv:=hI.ptr hx ho
 cases hj:E.P.info? te with
 |none=>rw [hj] at hi;simp at hi
 |some j=>
  rw [hj] at hi;have hj0:j.size≠0:=fun e=>by simp [e] at hi
  have hq:=Lib.run_to_unsafe (P:=E.P) w ⟨(G.ob o).blk,0,none⟩ hs hd hj hj0 (e:=T1) (cells:=c.size) (by simp [World.shape?,h4]) (by simpa [← h5] using b8);refine⟨_,w,G,_,s.st,?_,.refl G,hI.agree,hv▸he,h⟩;generalize a.eval = ρ at hv;simp [execOp,hv,hq]
theorem qrd {x:Operand} {t t' te:TypeId} {o ver:Nat} {T1:TypeId} {cs:List AV} (hx:qj N s x = .bx o ver 0) (ho:s.st[o]? = some (.cells ver T1 cs)) (hs:E.P.underlying t=some .unsafePointer) (hd:E.P.underlying t'=some (.pointer te)) (hi:(E.P.info? te).isSome=true) (hl:liesAt E.P E.P.depth T1 (cs.length / E.P.cellsOf T1) 0 te 1=true)
  (h:AOps E rd N ops rest K (s.put d (.bx o ver 0))):AOps E rd N ops (⟨d,.convert t t' x,T,p,af,none⟩::rest) K s:=by
 refine q7 rfl (qy nofun fun B0 w0 G a w _ hI=>?_);obtain⟨_,h1,h2,h3,c,h4,h5,h6⟩:=hI.agree.ob o _ ho;obtain⟨j,hj⟩:=Option.isSome_iff_exists.1 hi;have he:=hI.eval_of hx;have hv:=hI.ptr hx ho;have hq:=Lib.run_from_unsafe (P:=E.P) w ⟨(G.ob o).blk,0,none⟩ hs hd hj (e:=T1) (cells:=c.size) (by simp [World.shape?,h4]) (by rw [← h5];exact hl);refine⟨_,w,G,_,s.st,?_,.refl G,hI.agree,hv▸he,h⟩;generalize a.eval = ρ at hv;simp [execOp,hv,hq]
theorem qw7 {f:FuncId} {x:Operand} {ts:Array TypeId} {r:AV} (a8:∀ v w,(callFunc f #[v]).run E.P w = .ok (.value v) w) (hx:qj N s x=r)
  (h:AOps E rd N ops rest K (s.put d r)):AOps E rd N ops (⟨d,.call ⟨.value (.func f),#[x],ts⟩,T,p,af,none⟩::rest) K s:=by
 refine q7 rfl (qy nofun fun B0 w0 G a w _ hI=>?_);refine⟨a.eval x,w,G,_,s.st,?_,.refl G,hI.agree,hI.eval_of hx,h⟩;have he:a.eval (.func f) = .func (.func f) #[] #[]:=rfl;generalize a.eval = ρ at he;simp [execOp,resolve,Deferred.ofValue,he,invoke,a8]
theorem Inv.restate {B0:Nat} {w0:World} {G G':Gh} {a:Act} {w:World} {st':List AObj} (h:Inv B0 w0 N G s a w) (hG:G.le G') (hA:zi B0 w0 G' st' w):Inv B0 w0 N G' ⟨s.t,st',s.df⟩ a w:=
 ⟨hA,h.defers_mono hG,h.size,fun i y hy=>(h.tmps i y hy).mono hG⟩
theorem qyn {o ver j sz:Nat} {T1 T':TypeId} {cs:List AV} {l:List Oper} (ho:s.st[o]? = some (.cells ver T1 cs)) (hj:cs[j]? = some zy)
  (h:AOps E rd N ops l K ⟨s.t,s.st.set o (.cells ver T1 (cs.set j (.sl sz [] (some s.st.length))))++[AObj.tip 0 sz T'],s.df⟩):AOps E rd N ops l K s:=
 ⟨fun B0 w0 G a w hL hI Q hQ=>h.run B0 w0 _ a w hL (hI.restate (G.le_new 0 0 0 false) (hI.agree.tipCell ho hj)) Q fun G' s' a' w' hG=>hQ G' s' a' w' ((G.le_new 0 0 0 false).trans hG)⟩
theorem qo6 {o ver j sz:Nat} {T1 T':TypeId} {cs:List AV} {c:Code} {Q:Exit→AS→Prop} (ho:s.st[o]? = some (.cells ver T1 cs)) (hj:cs[j]? = some zy)
  (h:AWp E rd N c Q ⟨s.t,s.st.set o (.cells ver T1 (cs.set j (.sl sz [] (some s.st.length))))++[AObj.tip 0 sz T'],s.df⟩):AWp E rd N c Q s:=
 ⟨fun B0 w0 G a w hL hI=>wpIn_mono (h.run B0 w0 _ a w hL (hI.restate (G.le_new 0 0 0 false) (hI.agree.tipCell ho hj))) fun _ _ _ ⟨G',s',hG,h1,h2⟩=>⟨G',s',(G.le_new 0 0 0 false).trans hG,h1,h2⟩⟩
theorem Inv.newTip {B0:Nat} {w0:World} {G:Gh} {a:Act} {w:World} (h:Inv B0 w0 N G s a w) {i sz:Nat} {T':TypeId} (hi:s.t i=zy):Inv B0 w0 N (G.new 0 0 0 false) ⟨Av.put s.t i (.sl sz [] (some s.st.length)),s.st++[AObj.tip 0 sz T'],s.df⟩ a w:=by
 have hA:=h.agree.newTip sz T';have h2:=h.restate (G.le_new 0 0 0 false) hA;refine⟨h2.agree,h2.defers,h2.size,fun k y hy=>?_⟩;by_cases e:k=i
 ·subst e
  show Rel _ (Av.put s.t k _ k) y
  rw [wi];have:=h2.tmps k y hy;simp only [hi] at this
  cases this
  exact .sl0 sz _ none 0 fun t ht=>by simp at ht;subst ht;exact⟨by rw [hA.n];simp,rfl,rfl⟩
 ·show Rel _ (Av.put s.t i _ k) y
  rw [yh _ _ _ _ e];exact h2.tmps k y hy
theorem q5p {i sz:Nat} {T':TypeId} {c:Code} {Q:Exit→AS→Prop} (hi:s.t i=zy)
  (h:AWp E rd N c Q ⟨Av.put s.t i (.sl sz [] (some s.st.length)),s.st++[AObj.tip 0 sz T'],s.df⟩):AWp E rd N c Q s:=
 ⟨fun B0 w0 G a w hL hI=>wpIn_mono (h.run B0 w0 _ a w hL (hI.newTip hi)) fun _ _ _ ⟨G',s',hG,h1,h2⟩=>⟨G',s',(G.le_new 0 0 0 false).trans hG,h1,h2⟩⟩
end
end Go.Av
namespace Go.Av
open Go Go.RowKit
theorem qzp:∀ (vs:List Value) (off n:Nat) (c:Array Value),off+n+vs.length≤c.size →
  ((vs.zipIdx n).foldl (fun (cs:Array Value) (x:Value×Nat)=>cs.setIfInBounds (off+x.2) x.1) c).size=c.size ∧
  ∀ k,((vs.zipIdx n).foldl (fun (cs:Array Value) (x:Value×Nat)=>cs.setIfInBounds (off+x.2) x.1) c)[k]? = if off+n≤k∧k<off+n+vs.length then vs[k - (off+n)]? else c[k]?
 | [],off,n,c,_=>⟨by simp,fun k=>by simp;intro h1 h2;omega⟩
 |v::vs,off,n,c,h=>by
  simp only [List.zipIdx_cons,List.foldl_cons,List.length_cons] at h ⊢;obtain⟨h1,h2⟩:=qzp vs off (n+1) (c.setIfInBounds (off+n) v) (by simp;omega);refine⟨by rw [h1];simp,fun k=>?_⟩;rw [h2 k];by_cases hk:k=off+n
  ·subst hk
   rw [if_neg (by omega),if_pos (by omega),Array.getElem?_setIfInBounds_self,if_pos (by omega)];simp
  ·by_cases hr:off+n≤k∧k<off+n+(vs.length+1)
   ·rw [if_pos (by omega),if_pos hr]
    rw [show k - (off+n)=(k - (off+(n+1)))+1 by omega];simp
   ·rw [if_neg (by omega),if_neg hr]
    rw [Array.getElem?_setIfInBounds,if_neg (by omega)]
def qb8 (place:Nat→Option (Nat×Nat)) (cells:List AV):List (Nat×AV)→Option (List AV)
 | []=>some cells
 |(i,x)::rest=>
  match place i with
  |none=>none
  |some (off,size)=>bif x.okc && Nat.beq x.cells.length size && Nat.ble (off+size) cells.length then qb8 place (zr cells off x.cells) rest else none
theorem qh9 {G:Gh} (place:Nat→Option (Nat×Nat)):∀ (ps:List (Nat×AV)) (vs:List (Nat×Value)) (cs:List AV) (c:Array Value) (cs':List AV),ps.length=vs.length→(∀ (i:Nat) (p:Nat×AV) (v:Nat×Value),ps[i]? = some p→vs[i]? = some v→p.1=v.1∧Rel G p.2 v.2) →
  RelC G cs c→qb8 place cs ps=some cs'→∃ c',Instr.fill place c vs=some c'∧RelC G cs' c'
 | [],[],cs,c,cs',_,_,hc,h=>by
  simp only [qb8,Option.some.injEq] at h;subst h
  exact⟨c,rfl,hc⟩
 | [],v::vs,_,_,_,hl,_,_,_=>by simp at hl
 |p::ps,[],_,_,_,hl,_,_,_=>by simp at hl
 |(i,x)::ps,(j,v)::vs,cs,c,cs',hl,hr,hc,h=>by
  obtain⟨e,hx⟩:=hr 0 _ _ rfl rfl;simp only at e hx;subst e;simp only [qb8] at h;simp only [Instr.fill]
  cases hp:place i with
  |none=>simp [hp] at h
  |some q=>
   obtain⟨off,size⟩:=q;simp only [hp] at h ⊢
   cases hb:(x.okc && Nat.beq x.cells.length size && Nat.ble (off+size) cs.length) with
   |false=>simp [hb] at h
   |true=>
    simp only [hb,cond_true] at h;simp only [Bool.and_eq_true] at hb;obtain⟨⟨hok,f8⟩,d5⟩:=hb;have f8:=Nat.eq_of_beq_eq_true f8;have d5:=Nat.le_of_ble_eq_true d5;have hcx:=hx.cells hok;have nq:v.cells.size=size:=by rw [← hcx.1];exact f8
    have e9:off+v.cells.size≤c.size:=by rw [nq,← hc.1];exact d5
    rw [if_neg (by simp [nq];rw [← hc.1];exact d5)]
    have hfold:v.cells.zipIdx.foldl (fun cs (x:Value×Nat)=>cs.setIfInBounds (off+x.2) x.1) c=(v.cells.toList.zipIdx 0).foldl (fun (cs:Array Value) (x:Value×Nat)=>cs.setIfInBounds (off+x.2) x.1) c:=by
     rw [← Array.foldl_toList,Array.toList_zipIdx]
    obtain⟨g1,g2⟩:=qzp v.cells.toList off 0 c (by simpa using e9)
    have m4:RelC G (zr cs off x.cells) ((v.cells.toList.zipIdx 0).foldl (fun (cs:Array Value) (x:Value×Nat)=>cs.setIfInBounds (off+x.2) x.1) c):=by
     refine⟨?_,fun k a y h1 h2=>?_⟩
     ·rw [g1,← hc.1]
      simp [zr];omega
     ·rw [g2] at h2
      have e1:(cs.take off).length=off:=by simp;omega
      simp only [zr,List.append_assoc] at h1;by_cases hk:k<off
      ·rw [List.getElem?_append_left (by omega),List.getElem?_take,if_pos hk] at h1
       rw [if_neg (by omega)] at h2;exact hc.2 k a y h1 h2
      ·rw [List.getElem?_append_right (by omega),e1] at h1
       by_cases cx:k - off<x.cells.length
       ·rw [List.getElem?_append_left cx] at h1
        rw [if_pos ⟨by omega,by simp;omega⟩] at h2;exact hcx.2 (k - off) a y h1 (by simpa using h2)
       ·rw [List.getElem?_append_right (by omega),List.getElem?_drop] at h1
        rw [if_neg (by simp;omega)] at h2;rw [show off+x.cells.length+(k - off - x.cells.length)=k by omega] at h1;exact hc.2 k a y h1 h2
    have:=qh9 place ps vs _ _ cs' (by simpa using hl) (fun i p v h1 h2=>hr (i+1) p v (by simpa using h1) (by simpa using h2)) m4 h;rw [← hfold] at this;exact this
section
variable {E : Env} {rd : Option Nat} {N : Nat} {ops : Array Oper} {K : AS → Prop} {s : AS} {rest : List Oper} {d : Option Tmp} {T : TypeId} {p : String} {af : Array Edge}
def vi (N:Nat) (s:AS) (parts:Array (Nat×Operand)):List (Nat×AV):=parts.toList.map fun x=>(x.1,qj N s x.2)
def quh (P:Program) (t:TypeId):Option (List (Nat×Nat)):=
 match P.underlying t with
 |some (.struct fs)=>fs.toList.mapM (fun f=>(P.info? f.type).map fun i=>(f.offset,i.size))
 | _=>none
theorem qjk {B0:Nat} {w0:World} {G:Gh} {a:Act} {w:World} (hI:Inv B0 w0 N G s a w) (parts:Array (Nat×Operand)):∀ (i:Nat) (p:Nat×AV) (v:Nat×Value),(vi N s parts)[i]? = some p→(parts.toList.map fun x=>(x.1,a.eval x.2))[i]? = some v→p.1=v.1∧Rel G p.2 v.2:=fun i p v h1 h2=>by
 simp only [vi,List.getElem?_map] at h1 h2
 cases hq:parts.toList[i]? with
 |none=>simp [hq] at h1
 |some z=>simp [hq] at h1 h2;subst h1;subst h2;exact⟨rfl,hI.eval _⟩
theorem xk {t:TypeId} {parts:Array (Nat×Operand)} {zs cs:List AV} {pl:List (Nat×Nat)} (hz:qht E.P t=some zs) (hp:quh E.P t=some pl) (hf:qb8 (pl[·]?) zs (vi N s parts)=some cs)
  (h:AOps E rd N ops rest K (s.put d (.ag cs))):AOps E rd N ops (⟨d,.build t parts,T,p,af,none⟩::rest) K s:=by
 refine q7 rfl (qy nofun fun B0 w0 G a w _ hI=>?_);obtain⟨z,a8,hr⟩:=qn6 hz w;obtain⟨c',h1,h2⟩:=qh9 (pl[·]?) (vi N s parts) (parts.toList.map fun x=>(x.1,a.eval x.2)) zs z.cells cs (by simp [vi]) (qjk hI parts) (hr G) hf;unfold quh at hp;split at hp
 ·rename_i fs hu
  refine⟨.agg c',w,G,.ag cs,s.st,?_,.refl G,hI.agree,.ag _ _ h2.1 h2.2,h⟩;generalize a.eval = ρ at h1;simp [execOp,Instr.build,run_underlying hu,a8,Array.mapM_eq_mapM_toList,run_places w _ _ hp,h1]
 ·simp at hp
def qdy (P:Program) (e:TypeId) (n:Nat):Option (List AV):=
 match P.info? e with
 |some i=>bif Nat.beq (n * i.size) 0 then some [] else i.zero.map fun z=>(List.range (n * i.size)).map fun k=>.v (z.cells[k % z.cells.size]!)
 |none=>none
theorem qkk {B0:Nat} {w0:World} {G:Gh} {a:Act} {w:World} (hI:Inv B0 w0 N G s a w) {t e:TypeId} {len sz:Nat} {agg:Bool} {parts:Array (Nat×Operand)} {zs cs:List AV} (hu:E.P.underlying t=some (.slice e)) (ht:tyOf E.P e=some (sz,agg)) (hz:qdy E.P e len=some zs)
  (hf:qb8 (fun i=>some (i * sz,sz)) zs (vi N s parts)=some cs) (f8:Nat.ble (len * sz) 16777216=true) :
  ∃ c':Array Value,(execOp a.eval ⟨d,.buildSlice t len parts,T,p,af,none⟩).run E.P w = .ok (.value (.slice (some ⟨w.heap.size,0,none⟩) len len)) (w.alloc (.cells c' e))∧RelC G cs c':=by
 have u0:=(kw ht w).1;have f8:=Nat.le_of_ble_eq_true f8;unfold qdy at hz
 cases hi:E.P.info? e with
 |none=>rw [hi] at hz;simp at hz
 |some i=>
  rw [hi] at hz;simp only at hz;have hs:i.size=sz:=by simpa [sizeOf,typeInfo,hi] using u0
  rw [hs] at hz
  -- the array that the run starts from
  have key:∃ c0:Array Value,RelC G zs c0∧∀ (Q:Array Value→Sem Value),((do
    let zero ← if len * sz=0 then pure #[] else do pure (← zeroValue e).cells
    Q ((Array.range (len * sz)).map (zero[· % zero.size]!)):Sem Value)).run E.P w=(Q c0).run E.P w:=by
   by_cases h0:len * sz=0
   ·rw [h0] at hz
    simp at hz;subst hz;exact⟨#[],⟨rfl,by simp⟩,fun Q=>by have e:Array.range 0 = #[]:=(by simp [Array.range]);simp [h0,e]⟩
   ·have:Nat.beq (len * sz) 0=false:=jb h0
    rw [this] at hz;simp only [cond_false] at hz
    cases hzr:i.zero with
    |none=>rw [hzr] at hz;simp at hz
    |some z=>
     rw [hzr] at hz;simp only [Option.map_some,Option.some.injEq] at hz;subst hz;refine⟨(Array.range (len * sz)).map (z.cells[· % z.cells.size]!),⟨by simp,fun k x y h1 h2=>?_⟩,fun Q=>by simp [h0,zeroValue,typeInfo,hi,hzr]⟩;have hk:k<len * sz:=by have:=lt_of_getElem? h1;simpa using this
     simp [hk] at h1 h2;subst h1;subst h2;exact .v _
  obtain⟨c0,hc0,tw⟩:=key;obtain⟨c',h1,h2⟩:=qh9 (fun i=>some (i * sz,sz)) (vi N s parts) (parts.toList.map fun x=>(x.1,a.eval x.2)) zs c0 cs (by simp [vi]) (qjk hI parts) hc0 hf;refine⟨c',?_,h2⟩
  ·generalize a.eval = ρ at h1
   have hb:¬ 16777216<len * sz:=by omega
   have hg:∃ m:String,(execOp ρ ⟨d,.buildSlice t len parts,T,p,af,none⟩).run E.P w=(((do
    let zero ← if len * sz=0 then pure #[] else do pure (← zeroValue e).cells
    (fun c=>(do
    let some cells:=Instr.fill (fun i=>some (i * sz,sz)) c (parts.map fun x=>(x.1,ρ x.2)).toList|stuck m
    pure (Value.slice (some (← newRow e cells)) len len):Sem Value)) ((Array.range (len * sz)).map (zero[· % zero.size]!)):Sem Value)).run E.P w).andThen fun v w'=>.ok (.value v) w':=by
    apply Exists.intro;simp only [execOp,Instr.buildSlice];simp [run_underlying hu,u0,hb];rfl
   obtain⟨m,hg⟩:=hg
   have hQ:=tw (fun c=>do
    let some cells:=Instr.fill (fun i=>some (i * sz,sz)) c (parts.map fun x=>(x.1,ρ x.2)).toList|stuck m
    pure (.slice (some (← newRow e cells)) len len))
   rw [hg,hQ];simp [h1,newRow,newObj,Sem.run]
theorem xc {t e:TypeId} {len sz:Nat} {agg:Bool} {parts:Array (Nat×Operand)} {zs cs xs:List AV} (hu:E.P.underlying t=some (.slice e)) (ht:tyOf E.P e=some (sz,agg)) (hz:qdy E.P e len=some zs)
  (hf:qb8 (fun i=>some (i * sz,sz)) zs (vi N s parts)=some cs) (gn:(vi N s parts).map Prod.snd=xs) (c8:xs.length=len) (i3:flat xs=cs) (hw:xs.all (fun x=>Nat.beq x.cells.length sz)=true) (f8:Nat.ble (len * sz) 16777216=true)
  (h:AOps E rd N ops rest K (s.put d (.sl sz xs none))):AOps E rd N ops (⟨d,.buildSlice t len parts,T,p,af,none⟩::rest) K s:=by
 refine q7 rfl (qy nofun fun B0 w0 G a w _ hI=>?_);obtain⟨c',a8,h2⟩:=qkk (d:=d) (T:=T) (p:=p) (af:=af) hI hu ht hz hf f8;obtain⟨d5,hA⟩:=hI.agree.newPub e c' (0,0) c'.toList (fun i y hy=>by simpa using hy);refine⟨.slice (some ⟨w.heap.size,0,none⟩) len len,w.alloc (.cells c' e),_,.sl sz xs none,s.st,a8,d5,hA,?_,h⟩;rw [← c8]
 cases xs with
 |nil=>exact .sl0 sz none _ _ (by simp)
 |cons x0 xr=>
  refine .sl sz _ none w.heap.size 0 _ c'.toList (by simp [Gh.publish]) (fun x hx=>?_) (by rw [i3,h2.1];simp) (fun k x y g1 g2=>?_) (fun t ht=>by simp at ht) (Nat.le_refl _)
  ·exact Nat.eq_of_beq_eq_true (List.all_eq_true.1 hw x hx)
  ·rw [i3] at g1
   exact (h2.2 k x y g1 (by simpa using g2)).mono d5
end
end Go.Av
namespace Go.Av
open Go Go.RowKit
inductive qaw (n:Nat):List AObj→List AObj→Prop
 |nil:qaw n [] []
 |same {l l':List AObj} (x:AObj) (h:qaw n l l'):qaw n (x::l) (x::l')
 |cut {l l':List AObj} {x x':AObj} (hx:qg4 n x') (h:qaw n l l'):qaw n (x::l) (x'::l')
 |loop {l l':List AObj} {ls ls':LoopState} {pend pend':Option Code} {N:Nat} {t:Nat→AV} {ps:Array Tmp} {asg body:Code} (h:qaw n l l'):qaw n (.loop ls pend N t ps asg body::l) (.loop ls' pend' N t ps asg body::l')
theorem qhf (n:Nat):∀ l,qaw n l l
 | []=>.nil
 |x::l=>.same x (qhf n l)
theorem qjb {n:Nat} {l l':List AObj} (h:qaw n l l'):∀ st,qaw n (st++l) (st++l')
 | []=>h
 |x::st=>.same x (qjb h st)
theorem qaw.length {n:Nat} {l l':List AObj} (h:qaw n l l'):l'.length=l.length:=by
 induction h with
 |nil=>rfl
 | _=>simpa
theorem qaw.get {n:Nat} {l l':List AObj} (h:qaw n l l') (hc:∀ (o:Nat) (x:AObj),l[o]? = some x→qg4 n x):∀ (o:Nat) (x:AObj),l'[o]? = some x→qg4 n x:=by
 induction h with
 |nil=>exact hc
 |same y h ih=>
  intro o x hx
  cases o with
  |zero=>exact hc 0 x hx
  |succ o=>exact ih (fun o x h=>hc (o+1) x h) o x (by simpa using hx)
 |cut e7 h ih=>
  intro o x hx
  cases o with
  |zero=>simp at hx;subst hx;exact e7
  |succ o=>exact ih (fun o x h=>hc (o+1) x h) o x (by simpa using hx)
 |loop h ih=>
  intro o x hx
  cases o with
  |zero=>simp at hx;subst hx;have h0:=hc 0 _ rfl;exact h0
  |succ o=>exact ih (fun o x h=>hc (o+1) x h) o x (by simpa using hx)
theorem q2e {E:Env} {o:Nat} {xs:List AV} {st:List AObj} {R:Bool→List AObj→Prop}
  (h:ye E o xs st fun b st2=>∃ st1 ext,st2=st1++ext∧qaw st.length st st1∧R b st1):ye E o xs st R:=by
 refine⟨fun B0 w0 G vals w hL hA hR=>?_⟩;obtain⟨f,tmps,asg,body,h1,h2⟩:=h.run B0 w0 G vals w hL hA hR;refine⟨f,tmps,asg,body,h1,h2.mono ?_⟩;rintro e w' ⟨b,G',st2,he,hG,hA',st1,ext,rfl,hk,hRR⟩;have d5:=hG.cut;rw [hA.n] at d5;refine⟨b,G'.cut st.length,st1,he,d5,?_,hRR⟩;have hd:=hk.get (fun o x hx=>hA.cutOb hx);have hl:=hk.length;rw [← hl] at hd ⊢;exact hA'.drop hd
theorem qpc {n ver:Nat} {T:TypeId} {cs:List AV} (h:∀ x∈cs,Cut n x):qg4 n (.cells ver T cs):=h
theorem qvh {n a b:Nat} {T:TypeId}:qg4 n (.tip a b T):=trivial
theorem q8s {n o ver off:Nat} (h:o<n):Cut n (.bx o ver off):=qe9 (.bx o ver off h)
theorem qvi {n tp:Nat} {l:List UInt8} (h:tp<n):Cut n (.sl 1 (l.map fun c=>.v (.int .u8 (c.toNat:Nat))) (some tp)):=by
 refine qe9 (.sl 1 _ _ (fun i x hx=>?_) (fun t ht=>by simp at ht;omega));have:=qhc l;rw [this] at hx;simp only [List.getElem?_map] at hx
 cases hq:l[i]? with
 |none=>simp [hq] at hx
 |some c=>simp [hq] at hx;subst hx;exact .v _
def qk1 (F:LoopState→Option Code→AObj) (N:Nat) (t:Nat→AV) (ps:Array Tmp) (asg body:Code):Prop:=∀ ls pend,F ls pend=AObj.loop ls pend N t ps asg body
theorem q6k {n:Nat} {l l':List AObj} {F:LoopState→Option Code→AObj} {ls ls':LoopState} {pend pend':Option Code} {N:Nat} {t:Nat→AV} {ps:Array Tmp} {asg body:Code} (hF:qk1 F N t ps asg body) (h:qaw n l l'):qaw n (F ls pend::l) (F ls' pend'::l'):=by
 rw [hF,hF];exact .loop h
@[reducible] def zi6 (o : Nat) (F : LoopState → Option Code → AObj) (R : Bool → List AObj → Prop) : Exit → AS → Prop
 | .normal,s=>s.st[o]? = some (F .busy none)∧R true (s.st.set o (F .ready none))
 | .ret,s=>s.st[o]? = some (F .busy none)∧R false (s.st.set o (F .done (some .ret)))
 | .exit id,s=>s.st[o]? = some (F .busy none)∧R false (s.st.set o (F .done (some (.exit id))))
 | _,_=>False
theorem qp0 {E:Env} {o N:Nat} {t:Nat→AV} {ps:Array Tmp} {asg body:Code} {st:List AObj} {R:Bool→List AObj→Prop} {xs:List AV} {F:LoopState→Option Code→AObj} (hF:qk1 F N t ps asg body) (ho:st[o]? = some (F .ready none)) (rt:ps.size=xs.length)
  (h:∀ l,AWp E (some l) N asg (only fun s1=>s1.st[o]? = some (F .ready none)∧s1.df=[]∧AWp E (some l) N body (zi6 o F R) ⟨s1.t,s1.st.set o (F .busy none),[]⟩) ⟨qjp t (ps.toList.zip xs),st,[]⟩):ye E o xs st R:=by
 refine q2c (N:=N) (t:=t) (ps:=ps) (asg:=asg) (body:=body) (by rw [ho,hF]) rt fun l=>(h l).mono fun e s1 hq=>?_
 cases e with
 |normal=>
  obtain⟨h1,h2,h3⟩:=hq;refine⟨by rw [h1,hF],h2,?_⟩;rw [hF] at h3;refine h3.mono fun e s2 s6=>?_
  cases e with
  |normal=>obtain⟨k1,k2⟩:=s6;exact⟨by rw [k1,hF],by rw [hF] at k2;exact k2⟩
  |ret=>obtain⟨k1,k2⟩:=s6;exact⟨by rw [k1,hF],by rw [hF] at k2;exact k2⟩
  |exit id=>obtain⟨k1,k2⟩:=s6;exact⟨by rw [k1,hF],by rw [hF] at k2;exact k2⟩
  | _=>exact s6.elim
 | _=>exact hq.elim
theorem qk5 {E:Env} {N:Nat} {Q:Exit→AS→Prop} {s:AS} {f:Operand} {ps:Array Tmp} {asg body:Code} {st loc:List AObj} {g:FuncId} {fs cs:List AV} (d8:s.st=st++loc) (hx:qj N s f = .fn (.func g) fs cs)
  (a8:∀ vs w,(callFunc g vs).run E.P w = .ok (.enter g vs) w)
  (h:∀ F,qk1 F N s.t ps asg body→qo E g (fs++[.yd (st.length+(loc.length+1))]++cs) (st++(loc++[.dfr,F .ready none])) fun _ st'=>∃ ls pend,ls≠LoopState.busy∧st'[st.length+(loc.length+1)]? = some (F ls pend) ∧
   match pend with
   |none=>Q .normal ⟨s.t,st'.set (st.length+(loc.length+1)) .dead,(st.length+loc.length)::s.df⟩
   |some c=>AWp E none N c Q ⟨s.t,st'.set (st.length+(loc.length+1)) .dead,(st.length+loc.length)::s.df⟩):AWp E none N (.rangeFunc f ps asg body) Q s:=
 qxb d8 hx a8 ((h (fun ls pend=>.loop ls pend N s.t ps asg body) (fun _ _=>rfl)).mono fun _ _ ⟨ls,pend,h1,h2,h3⟩=>⟨ls,pend,h1,h2,h3⟩)
theorem qek {E:Env} {rd:Option Nat} {N:Nat} {c:Code} {Q:Exit→AS→Prop} {s:AS} (L:List (Nat×AV)) (st':List AObj) (df':List Nat) (h:HasL s.t L) (d8:s.st=st') (g7:s.df=df') (k:∀ t,AWp E rd N c Q ⟨puts t L,st',df'⟩):AWp E rd N c Q s:=by
 have:=k s.t;rw [qhx h,← d8,← g7] at this;exact this
theorem qgb {E:Env} {B0:Nat} {w0:World} {N:Nat} {G:Gh} {s:AS} {a:Act} {w:World} (hI:Inv B0 w0 N G s a w) {x:Operand} {t:TypeId} {sz:Nat} {agg:Bool} {o ver off:Nat} {T':TypeId} {cs:List AV} {r:AV} (hx:qj N s x = .bx o ver off) (ho:s.st[o]? = some (.cells ver T' cs)) (ht:tyOf E.P t=some (sz,agg)) (hr:js sz agg off cs=some r) :
  ∃ b v,a.eval x = .pointer (some ⟨b,off,none⟩)∧(loadVar t ⟨b,off,none⟩).run E.P w = .ok v w∧Rel G r v:=by
 have he:=hI.eval_of hx;generalize hv:a.eval x=v at he
 cases he with
 |bx _ _ _ b hn r7 hb=>
  obtain⟨_,h1,h2,h3,c,h4,h5,h6⟩:=hI.agree.ob o _ ho;have hb:=hb h1;rw [hb] at h4
  obtain⟨v,a8,hR⟩:=qaf (w:=w) (G:=G) (b:=b) (off:=off) (off':=off) ht (fun i x hx hi=>by
   obtain⟨y,hy⟩:=v4 hx (Nat.le_of_eq h5);refine⟨y,?_,h6 i x y hx hy⟩
   simp [World.cell?,h4,show off+(i - off)=i by omega,hy]) hr
  exact⟨b,v,rfl,a8,hR⟩
theorem q5k {E:Env} {fn:Func} {s:AS} {t u:Tmp} {Ta Tb:TypeId} {o1 v1 f1 sz1:Nat} {agg1:Bool} {T1:TypeId} {cs1:List AV} {r1:AV} {o2 v2 f2 sz2:Nat} {agg2:Bool} {T2:TypeId} {cs2:List AV} {r2:AV} (hr:fn.results = #[.cell t Ta,.cell u Tb])
  (rk:qj fn.ntmps s (.tmp t) = .bx o1 v1 f1) (ho1:s.st[o1]? = some (.cells v1 T1 cs1)) (gm:tyOf E.P Ta=some (sz1,agg1)) (o7:js sz1 agg1 f1 cs1=some r1)
  (hx2:qj fn.ntmps s (.tmp u) = .bx o2 v2 f2) (bj:s.st[o2]? = some (.cells v2 T2 cs2)) (pb:tyOf E.P Tb=some (sz2,agg2)) (ck:js sz2 agg2 f2 cs2=some r2):ARes E fn s (.tu [r1,r2]):=by
 refine⟨fun B0 w0 G a w _ hI=>?_⟩;obtain⟨b1,y1,e1,e2,e3⟩:=qgb hI rk ho1 gm o7;obtain⟨b2,y2,k1,k2,k3⟩:=qgb hI hx2 bj pb ck;simp only [Act.eval,Array.getD_eq_getD_getElem?] at e1 k1;refine⟨.tuple #[y1,y2],?_,qfv e3 k3⟩;simp [results,hr,e1,k1,asAddr,e2,k2]
theorem qme {E:Env} {fn:Func} {R:AV→List AObj→Prop} {s:AS} {st loc:List AObj} {k:Nat} {ds:List Nat} (hs:s.st=st++loc) (hd:s.df=(st.length+k)::ds) (ho:loc[k]? = some .dfr) (h:ARet E fn R ⟨s.t,st++loc.set k .dead,ds⟩):ARet E fn R s:=
 qmv hd (by rw [hs];exact jl ho) (by rw [hs,xw];exact h)
theorem qkg {E:Env} {fn:Func} {s:AS} {t u:Tmp} {Ta Tb:TypeId} {st loc:List AObj} {k1 v1 f1 sz1:Nat} {agg1:Bool} {T1:TypeId} {cs1:List AV} {r1:AV} {k2 v2 f2 sz2:Nat} {agg2:Bool} {T2:TypeId} {cs2:List AV} {r2:AV} (hr:fn.results = #[.cell t Ta,.cell u Tb]) (hs:s.st=st++loc)
  (rk:qj fn.ntmps s (.tmp t) = .bx (st.length+k1) v1 f1) (ho1:loc[k1]? = some (.cells v1 T1 cs1)) (gm:tyOf E.P Ta=some (sz1,agg1)) (o7:js sz1 agg1 f1 cs1=some r1)
  (hx2:qj fn.ntmps s (.tmp u) = .bx (st.length+k2) v2 f2) (bj:loc[k2]? = some (.cells v2 T2 cs2)) (pb:tyOf E.P Tb=some (sz2,agg2)) (ck:js sz2 agg2 f2 cs2=some r2):ARes E fn s (.tu [r1,r2]):=
 q5k hr rk (by rw [hs];exact jl ho1) gm o7 hx2 (by rw [hs];exact jl bj) pb ck
@[reducible] def Wv (x : BitVec 32) : AV := .v (.int .u32 (x.toNat : Nat))
theorem qeh (n:Nat):IntKind.u32.wrap (n:Int)=((n % 4294967296:Nat):Int):=by
 simp [IntKind.wrap,IntKind.bits,IntKind.signed]
theorem jv (x:BitVec 32):BitVec.ofInt 32 (x.toNat:Int)=x:=by
 rw [BitVec.ofInt_natCast,BitVec.ofNat_toNat];simp
theorem qfk (x:BitVec 32):IntKind.u32.wrap (x.toNat:Int)=(x.toNat:Int):=by
 rw [qeh,Nat.mod_eq_of_lt x.isLt]
section
variable {E : Env} {rd : Option Nat} {N : Nat} {ops : Array Oper} {K : AS → Prop} {s : AS} {rest : List Oper} {d : Option Tmp} {T : TypeId} {p : String} {af : Array Edge}
theorem qtl (x:BitVec 32):((x.toNat:Nat):Int)=0↔x=0#32:=by
 constructor
 ·intro h
  apply BitVec.eq_of_toNat_eq
  simpa using h
 ·rintro rfl
  rfl
theorem qdb {x y:Operand} {t t':TypeId} {m n:Int} {a b:BitVec 32} (hx:qj N s x = .v (.int .u32 m)) (hy:qj N s y = .v (.int .u32 n)) (ha:BitVec.ofInt 32 m=a) (hb:BitVec.ofInt 32 n=b) (h:AOps E rd N ops rest K (s.put d (Wv (a ^^^ b)))):AOps E rd N ops (⟨d,.binOp .xor t x y t',T,p,af,none⟩::rest) K s:=
 zbq hx hy (by subst ha;subst hb;simp only [qb6,IntKind.bits];rw [qfk];rfl) h
theorem qk3 {x y:Operand} {t t':TypeId} {m n:Int} {a b:BitVec 32} (hx:qj N s x = .v (.int .u32 m)) (hy:qj N s y = .v (.int .u32 n)) (ha:BitVec.ofInt 32 m=a) (hb:BitVec.ofInt 32 n=b) (h:AOps E rd N ops rest K (s.put d (Wv (a &&& b)))):AOps E rd N ops (⟨d,.binOp .and t x y t',T,p,af,none⟩::rest) K s:=
 zbm hx hy (by subst ha;subst hb;simp only [qb6,IntKind.bits];rw [qfk];rfl) h
theorem q7z {x y:Operand} {t t':TypeId} {m n:Int} {a b:BitVec 32} (hx:qj N s x = .v (.int .u32 m)) (hy:qj N s y = .v (.int .u32 n)) (ha:BitVec.ofInt 32 m=a) (hb:BitVec.ofInt 32 n=b) (h:AOps E rd N ops rest K (s.put d (Wv (a |||b)))):AOps E rd N ops (⟨d,.binOp .or t x y t',T,p,af,none⟩::rest) K s:=
 q3s hx hy (by subst ha;subst hb;simp only [qb6,IntKind.bits];rw [qfk];rfl) h
theorem qh1 {x:Operand} {t:TypeId} {a:BitVec 32} (hx:qj N s x=Wv a) (h:AOps E rd N ops rest K (s.put d (Wv (~~~ a)))):AOps E rd N ops (⟨d,.unOp .xor t x,T,p,af,none⟩::rest) K s:=
 q5g hx (by
  simp only [qb6,IntKind.bits,IntKind.signed,Bool.false_eq_true,if_false];rw [jv];have h1:BitVec.ofInt 32 IntKind.u32.max=BitVec.allOnes 32:=by decide
  have h2:BitVec.ofInt 32 IntKind.u32.max ^^^ a = ~~~ a:=by rw [h1,BitVec.xor_comm,BitVec.xor_allOnes]
  exact (congrArg (fun z:BitVec 32=>IntKind.u32.wrap (z.toNat:Int)) h2).trans (qfk _)) h
theorem qe4 {x y:Operand} {t t':TypeId} {yk:IntKind} {a:BitVec 32} {n:Nat} (hx:qj N s x=Wv a) (hy:qj N s y = .v (.int yk (n:Int))) (hn:Nat.ble n 32=true) (h:AOps E rd N ops rest K (s.put d (Wv (a <<< n)))):AOps E rd N ops (⟨d,.binOp .shl t x y t',T,p,af,none⟩::rest) K s:=
 qyl hx hy (by omega) (by
  have hn:=Nat.le_of_ble_eq_true hn;have:min (n:Int).toNat IntKind.u32.bits=n:=by simp [IntKind.bits];omega
  rw [this];have e:(a.toNat:Int) * 2 ^ n=((a.toNat * 2 ^ n:Nat):Int):=by simp
  rw [e,qeh,BitVec.toNat_shiftLeft,Nat.shiftLeft_eq]) h
theorem qg7 {x y:Operand} {t t':TypeId} {yk:IntKind} {a:BitVec 32} {n:Nat} (hx:qj N s x=Wv a) (hy:qj N s y = .v (.int yk (n:Int))) (hn:Nat.ble n 32=true) (h:AOps E rd N ops rest K (s.put d (Wv (a >>> n)))):AOps E rd N ops (⟨d,.binOp .shr t x y t',T,p,af,none⟩::rest) K s:=
 zbp hx hy (by omega) (by
  have hn:=Nat.le_of_ble_eq_true hn;have:min (n:Int).toNat IntKind.u32.bits=n:=by simp [IntKind.bits];omega
  rw [this,BitVec.toNat_ushiftRight,Nat.shiftRight_eq_div_pow]
  have h0:(0:Int)≤2 ^ n:=by
   have:((2 ^ n:Nat):Int)=(2:Int) ^ n:=by simp
   rw [← this];exact Int.natCast_nonneg _
  rw [Int.fdiv_eq_ediv_of_nonneg _ h0]
  simp) h
theorem qjv {x y:Operand} {t e:TypeId} {len sz:Nat} {agg:Bool} {k:IntKind} {n:Nat} {cs:List AV} {r:AV} (hx:qj N s x = .ag cs) (hy:qj N s y = .v (.int k (n:Int))) (hu:E.P.underlying t=some (.array len e)) (ht:tyOf E.P e=some (sz,agg)) (hn:n<len) (hr:js sz agg (n * sz) cs=some r)
  (h:AOps E rd N ops rest K (s.put d r)):AOps E rd N ops (⟨d,.index t x y,T,p,af,none⟩::rest) K s:=by
 refine q7 rfl (qy nofun fun B0 w0 G a w _ hI=>?_);have he:=hI.eval_of hx;have r9:=hI.evalv hy;generalize hv:a.eval x=v at he
 cases he with
 |ag _ vs hl f0=>
  obtain⟨i1,i2⟩:=kw ht w
  cases agg with
  |false=>
   simp only [js,cond_false] at hr;obtain⟨z,hz⟩:=v4 hr (Nat.le_of_eq hl);refine⟨z,w,G,r,s.st,?_,.refl G,hI.agree,f0 _ r z hr hz,h⟩;generalize a.eval = ρ at hv r9;simp only [execOp,hv,r9]
   simp [Instr.index,asIntOf,run_underlying hu,hn,part,i1,i2,hz]
  |true=>
   simp only [js,cond_true] at hr
   cases hb:Nat.ble (n * sz+sz) cs.length with
   |false=>rw [hb] at hr;simp at hr
   |true=>
    rw [hb] at hr;simp only [cond_true,Option.some.injEq] at hr;have d5:n * sz+sz≤cs.length:=Nat.le_of_ble_eq_true hb;refine⟨.agg (vs.extract (n * sz) (n * sz+sz)),w,G,r,s.st,?_,.refl G,hI.agree,?_,h⟩
    ·generalize a.eval = ρ at hv r9
     simp only [execOp,hv,r9];simp [Instr.index,asIntOf,run_underlying hu,hn,part,i1,i2]
    ·subst hr
     refine .ag _ _ (by simp;omega) fun i x y h1 h2=>?_;have hi:i<sz:=by have:=lt_of_getElem? h1;simp at this;omega
     simp [hi,List.getElem?_drop] at h1;rw [Array.getElem?_extract] at h2;split at h2
     ·exact f0 (n * sz+i) x y h1 h2
     ·simp at h2
theorem qcl {x y:Operand} {t e:TypeId} {len sz:Nat} {agg:Bool} {k:IntKind} {n o ver off:Nat} (hx:qj N s x = .bx o ver off) (hy:qj N s y = .v (.int k (n:Int))) (hu:E.P.underlying t=some (.array len e)) (ht:tyOf E.P e=some (sz,agg)) (hn:n<len)
  (h:AOps E rd N ops rest K (s.put d (.bx o ver (off+n * sz)))):AOps E rd N ops (⟨d,.indexAddr t x y,T,p,af,none⟩::rest) K s:=by
 refine q7 rfl (qy nofun fun B0 w0 G a w _ hI=>?_);have he:=hI.eval_of hx;have r9:=hI.evalv hy;generalize hv:a.eval x=v at he
 cases he with
 |bx _ _ _ b rp p8 hb=>
  refine⟨.pointer (some ⟨b,off+n * sz,none⟩),w,G,_,s.st,?_,.refl G,hI.agree,.bx o ver _ b rp p8 hb,h⟩;generalize a.eval = ρ at hv r9;simp only [execOp,hv,r9];simp [Instr.indexAt,asIntOf,run_underlying hu,Instr.sureAddr,hn,(kw ht w).1,Addr.add_lit]
theorem qrc {x:Operand} {t t':TypeId} {k:IntKind} {n:Nat} {e:TypeDesc} (hx:qj N s x = .v (.int k (n:Int))) (hs:E.P.underlying t=some e) (hd:E.P.underlying t'=some (.int .u32)) (hn:n<4294967296)
  (h:AOps E rd N ops rest K (s.put d (Wv (BitVec.ofNat 32 n)))):AOps E rd N ops (⟨d,.convert t t' x,T,p,af,none⟩::rest) K s:=
 qda hx hs hd (by rw [qeh,Nat.mod_eq_of_lt hn,BitVec.toNat_ofNat,Nat.mod_eq_of_lt hn]) h
theorem qtv {x y:Operand} {t:TypeId} {sz:Nat} {agg:Bool} {st loc loc':List AObj} {k ver off:Nat} {T':TypeId} {cs xs:List AV} {r:AV} (hs:s.st=st++loc) (hx:qj N s x = .bx (st.length+k) ver off) (hy:qj N s y=r) (ho:loc[k]? = some (.cells ver T' cs)) (ht:tyOf E.P t=some (sz,agg))
  (hok:r.okc=true) (hc:r.cells=xs) (f8:Nat.beq xs.length sz=true) (h1:jr xs=true) (e9:off+sz≤cs.length) (hl:loc'=loc.set k (.cells ver T' (zr cs off xs)))
  (h:AOps E rd N ops rest K (AS.put ⟨s.t,st++loc',s.df⟩ d (.v undef))):AOps E rd N ops (⟨d,.store t x y,T,p,af,none⟩::rest) K s:=
 z4 hs hx hy ho ht hok hc f8 h1 (Nat.ble_eq_true_of_le e9) hl h
theorem q69 {cs:List AV} {off:Nat} {x:AV} (h:off<cs.length):zr cs off [x]=cs.set off x:=by
 rw [List.set_eq_take_append_cons_drop,if_pos h];simp [zr]
theorem qb0 {t:Nat→AV} {L:List (Nat×AV)} {st st':List AObj} {df:List Nat} (h:HasL t L) (e:st'=st):StA L st df ⟨t,st',df⟩:=by
 subst e;exact jd h
theorem qtw {fn:Func} {t:Tmp} {Ta:TypeId} {st loc:List AObj} {k1 v1 f1 sz1:Nat} {agg1:Bool} {T1:TypeId} {cs1:List AV} {r1:AV} (hr:fn.results = #[.cell t Ta]) (hs:s.st=st++loc)
  (rk:qj fn.ntmps s (.tmp t) = .bx (st.length+k1) v1 f1) (ho1:loc[k1]? = some (.cells v1 T1 cs1)) (gm:tyOf E.P Ta=some (sz1,agg1)) (o7:js sz1 agg1 f1 cs1=some r1):ARes E fn s r1:=by
 refine⟨fun B0 w0 G a w _ hI=>?_⟩;obtain⟨b1,y1,e1,e2,e3⟩:=qgb hI rk (by rw [hs];exact jl ho1) gm o7;simp only [Act.eval,Array.getD_eq_getD_getElem?] at e1;refine⟨y1,?_,e3⟩;simp [results,hr,e1,asAddr,e2]
def qtx (P:Program) (t:TypeId):Option Nat:=
 match P.underlying t with
 |some (.array _ e)=>match P.info? e with
  |some i=>some i.size
  |none=>none
 | _=>none
theorem q2b {P:Program} {t:TypeId} {sz:Nat} (h:qtx P t=some sz):∃ len e i,P.underlying t=some (.array len e)∧P.info? e=some i∧i.size=sz:=by
 unfold qtx at h;split at h
 ·rename_i len e hu
  split at h
  ·rename_i i hi
   simp only [Option.some.injEq] at h;exact⟨len,e,i,hu,hi,h⟩
  ·simp at h
 ·simp at h
theorem qu5 {t:TypeId} {parts:Array (Nat×Operand)} {zs cs:List AV} {sz:Nat} (hz:qht E.P t=some zs) (hp:qtx E.P t=some sz) (hf:qb8 (fun i=>some (i * sz,sz)) zs (vi N s parts)=some cs)
  (h:AQ E N ops rest K (s.put d (.ag cs))):AQ E N ops (⟨d,.build t parts,T,p,af,none⟩::rest) K s:=by
 refine qdc rfl nofun fun B0 w0 G a w _ hI=>?_;obtain⟨len,e,i,hu,hi,rfl⟩:=q2b hp;obtain⟨z,a8,hr⟩:=qn6 hz w;obtain⟨c',h1,h2⟩:=qh9 (fun k=>some (k * i.size,i.size)) (vi N s parts) (parts.toList.map fun x=>(x.1,a.eval x.2)) zs z.cells cs (by simp [vi]) (qjk hI parts) (hr G) hf
 have bd:∃ ti,E.P.info? t=some ti∧ti.zero=some z:=by
  unfold zeroValue at a8;simp [typeInfo] at a8
  cases hti:E.P.info? t with
  |none=>simp [hti] at a8
  |some ti=>
   simp [hti] at a8
   cases htz:ti.zero with
   |none=>simp [htz] at a8
   |some y=>simp [htz] at a8;exact⟨ti,rfl,by rw [htz,a8]⟩
 obtain⟨ti,g1,g2⟩:=bd;refine⟨.agg c',.ag cs,fun w' _=>?_,.ag _ _ h2.1 h2.2,h⟩;generalize a.eval = ρ at h1;simp [execOp,Instr.build,run_underlying hu,zeroValue,typeInfo,g1,g2,sizeOf,hi,h1]
theorem q72 {x y:Operand} {t:TypeId} {m:List UInt8} {k:IntKind} {n:Nat} (hx:qj N s x=Sv m) (hy:qj N s y = .v (.int k (n:Int))) (hu:E.P.underlying t=some .string) (h1:n<m.length)
  (h:AQ E N ops rest K (s.put d (Uv (m.getD n 0)))):AQ E N ops (⟨d,.index t x y,T,p,af,none⟩::rest) K s:=
 qaz _ rfl nofun (fun a w he=>by
  have hg:(⟨m.toArray⟩:ByteArray)[n]? = some (m.getD n 0):=by
   simp only [getElem?_def,qag,h1,dite_true,List.getD,Option.getD_some];rfl
  simp [execOp,Instr.index,he _ _ hx,he _ _ hy,asIntOf,run_underlying hu,hg]) h
theorem qyr {x:Operand} {t t':TypeId} {k:IntKind} {n:Nat} {e:TypeDesc} (hx:qj N s x = .v (.int k (n:Int))) (hs:E.P.underlying t=some e) (hd:E.P.underlying t'=some (.int .u32)) (hn:n<4294967296)
  (h:AQ E N ops rest K (s.put d (Wv (BitVec.ofNat 32 n)))):AQ E N ops (⟨d,.convert t t' x,T,p,af,none⟩::rest) K s:=by
 have hr:IntKind.u32.wrap (n:Int)=(((BitVec.ofNat 32 n).toNat:Nat):Int):=by rw [qeh,Nat.mod_eq_of_lt hn,BitVec.toNat_ofNat,Nat.mod_eq_of_lt hn]
 exact qaz _ rfl nofun (fun a w he=>by rw [← hr];simp [execOp,he _ _ hx,convert,run_underlying hs,run_underlying hd,Conv.intToInt]) h
theorem q3w {x y:Operand} {t t':TypeId} {yk:IntKind} {c:UInt8} (hx:qj N s x=Uv c) (hy:qj N s y = .v (.int yk 4)) (h:AQ E N ops rest K (s.put d (.v (.int .u8 ((c.toNat / 16:Nat):Int))))):AQ E N ops (⟨d,.binOp .shr t x y t',T,p,af,none⟩::rest) K s:=
 qaz _ rfl nofun (fun a w he=>by
  have:(c.toNat:Int).fdiv (2 ^ (min (4:Int).toNat IntKind.u8.bits))=((c.toNat / 16:Nat):Int):=by
   rw [Int.fdiv_eq_ediv_of_nonneg _ (by decide)];simp [IntKind.bits]
  rw [← this]
  simp [execOp,he _ _ hx,he _ _ hy,eqGuard_at_int,binOp_shr,Op.shift]) h
theorem qyq {x y:Operand} {t t':TypeId} {c:UInt8} (hx:qj N s x=Uv c) (hy:qj N s y = .v (.int .u8 15)) (h:AQ E N ops rest K (s.put d (.v (.int .u8 ((c.toNat % 16:Nat):Int))))):AQ E N ops (⟨d,.binOp .and t x y t',T,p,af,none⟩::rest) K s:=
 zhx hx hy (by
  simp only [qb6,IntKind.bits];have h1:BitVec.ofInt 8 (c.toNat:Int)=c.toBitVec:=by rw [BitVec.ofInt_natCast];simp
  have h2:(BitVec.ofInt 8 (c.toNat:Int) &&& BitVec.ofInt 8 15).toNat=c.toNat % 16:=by
   rw [h1,BitVec.toNat_and];exact Nat.and_two_pow_sub_one_eq_mod c.toNat 4
  have h3:IntKind.u8.wrap ((c.toNat % 16:Nat):Int)=((c.toNat % 16:Nat):Int):=by
   simp [IntKind.wrap,IntKind.bits,IntKind.signed];omega
  exact (congrArg (fun z:Nat=>IntKind.u8.wrap (z:Int)) h2).trans h3) h
theorem q18 {x y:Operand} {t t':TypeId} {yk:IntKind} {a:BitVec 32} {m:Int} {n:Nat} (hx:qj N s x=Wv a) (hy:qj N s y = .v (.int yk m)) (hm:m=(n:Int)) (hn:n≤32) (h:AOps E rd N ops rest K (s.put d (Wv (a >>> n)))):AOps E rd N ops (⟨d,.binOp .shr t x y t',T,p,af,none⟩::rest) K s:=
 qg7 hx (hm▸hy) (Nat.ble_eq_true_of_le hn) h
theorem and15_lt (x:BitVec 32):(x &&& BitVec.ofInt 32 15).toNat<16:=by
 rw [BitVec.toNat_and];exact Nat.lt_of_le_of_lt Nat.and_le_right (by decide)
theorem q7x {x y:Operand} {t t':TypeId} {k:IntKind} {m n:Nat} (hx:qj N s x = .v (.int k (m:Int))) (hy:qj N s y = .v (.int k (n:Int))) (hf:k.wrap ((m+n:Nat):Int)=((m+n:Nat):Int))
  (h:AOps E rd N ops rest K (s.put d (.v (.int k ((m+n:Nat):Int))))):AOps E rd N ops (⟨d,.binOp .add t x y t',T,p,af,none⟩::rest) K s:=
 zn hx hy (by rw [← Int.natCast_add];exact hf) h
theorem qu1 {x y:Operand} {t t':TypeId} {k:IntKind} {m n:Nat} (hx:qj N s x = .v (.int k (m:Int))) (hy:qj N s y = .v (.int k (n:Int))) (hn:n≠0) (hf:k.wrap ((m / n:Nat):Int)=((m / n:Nat):Int))
  (h:AOps E rd N ops rest K (s.put d (.v (.int k ((m / n:Nat):Int))))):AOps E rd N ops (⟨d,.binOp .quo t x y t',T,p,af,none⟩::rest) K s:=
 qyj hx hy (by omega) (by rw [Int.tdiv_eq_ediv_of_nonneg (by omega),← Int.natCast_ediv];exact hf) h
theorem q70 {x y:Operand} {t t':TypeId} {k:IntKind} {m n:Nat} (hx:qj N s x = .v (.int k (m:Int))) (hy:qj N s y = .v (.int k (n:Int))) (hn:n≠0)
  (h:AOps E rd N ops rest K (s.put d (.v (.int k ((m % n:Nat):Int))))):AOps E rd N ops (⟨d,.binOp .rem t x y t',T,p,af,none⟩::rest) K s:=
 qyk hx hy (by omega) (by rw [Int.tmod_eq_emod_of_nonneg (by omega),← Int.natCast_emod];exact h)
theorem qkz {n:Nat} (h:n<18446744073709551616):IntKind.u64.wrap (n:Int)=(n:Int):=by
 simp [IntKind.wrap,IntKind.bits,IntKind.signed];omega
theorem zht {n:Nat} (h:n<4294967296):IntKind.u32.wrap (n:Int)=(n:Int):=by
 rw [qeh,Nat.mod_eq_of_lt h]
end
end Go.Av
namespace Go.Av
open Go Go.RowKit
section
variable {E : Env} {rd : Option Nat} {N : Nat} {ops : Array Oper} {K : AS → Prop} {s : AS} {rest : List Oper} {d : Option Tmp} {T : TypeId} {p : String} {af : Array Edge}
def qxt:TypeDesc→Bool
 | .interface _=>false
 | _=>true
def q7q (P:Program) (t:TypeId):Option Value:=match P.info? t with|some i=>i.zero|none=>none
theorem zbj {P:Program} {t:TypeId} {z:Value} (h:q7q P t=some z) (w:World):(zeroValue t).run P w = .ok z w:=by
 unfold q7q at h;split at h
 ·rename_i i hi
  simp [zeroValue,typeInfo,hi,h]
 ·simp at h
theorem qfl {x:Operand} {xt t:TypeId} {D:TypeDesc} {y:AV} (hx:qj N s x = .ifc t y) (hu:E.P.underlying t=some D) (hn:qxt D=true)
  (h:AOps E rd N ops rest K (s.put d (.tu [y,Bv true]))):AOps E rd N ops (⟨d,.typeAssert x xt t true,T,p,af,none⟩::rest) K s:=by
 refine q7 rfl (qy nofun fun B0 w0 G a w _ hI=>?_);have he:=hI.eval_of hx;generalize hv:a.eval x=v at he
 cases he with
 |ifc _ _ z hz=>
  refine⟨.tuple #[z,.bool true],w,G,_,s.st,?_,.refl G,hI.agree,qfv hz (.v _),h⟩;generalize a.eval = ρ at hv
  cases D <;> first|(simp [qxt] at hn;done)|simp [execOp,Instr.typeAssert,hv,run_underlying hu]
theorem qra {x:Operand} {xt t u:TypeId} {D:TypeDesc} {y:AV} {z:Value} (hx:qj N s x = .ifc u y) (hu:E.P.underlying t=some D) (hn:qxt D=true) (b8:Nat.beq u t=false) (hz:q7q E.P t=some z)
  (h:AOps E rd N ops rest K (s.put d (.tu [.v z,Bv false]))):AOps E rd N ops (⟨d,.typeAssert x xt t true,T,p,af,none⟩::rest) K s:=by
 refine q7 rfl (qy nofun fun B0 w0 G a w _ hI=>?_);have he:=hI.eval_of hx;generalize hv:a.eval x=v at he;have hne':u≠t:=fun e=>by subst e;simp at b8
 have bd:=zbj hz w
 cases he with
 |ifc _ _ q hq=>
  refine⟨.tuple #[z,.bool false],w,G,_,s.st,?_,.refl G,hI.agree,qfv (.v _) (.v _),h⟩;generalize a.eval = ρ at hv
  cases D <;> first|(simp [qxt] at hn;done)|simp [execOp,Instr.typeAssert,hv,run_underlying hu,hne',bd]
end
end Go.Av
namespace Go.Proofs.YtapblfabkbdgcaaGreatDoor
open Go Go.Av Go.RowKit Go.Proofs
structure Laid (w:World):Prop where
 shaped:World.ShapedOpen Tryz.prog w
 pow : Lib.TabIs Tryz.prog w "internal/strconv.uint64pow10" .u64 Lib.pow10Tab
 syn : ∃ tp p, World.var? Tryz.prog w "strconv.ErrSyntax" = some #[.iface tp p]
 ran : ∃ tp p, World.var? Tryz.prog w "strconv.ErrRange" = some #[.iface tp p]
 ert:w.cell? ⟨1,0,none⟩=some (.iface 298 (.agg #[.pointer (some ⟨9,31,none⟩)]))
@[reducible] noncomputable def E : Env := ⟨Tryz.prog, fun B0 w0 => ∀ w, Below B0 w0 w → Laid w⟩
theorem qrs (l m:List UInt8) (st:List AObj) (hl:l.length<4294967281):qo E 163 [Sv l,Sv m] st fun r st'=>r=Bv (Lib.contains l m)∧st'=st:=
 qac (vals:= #[.string ⟨l.toArray⟩,.string ⟨m.toArray⟩]) rfl fun _ _ w hL hb=>(Tryz.strings_Contains_shaped ⟨l.toArray⟩ ⟨m.toArray⟩ w (hL w hb).shaped (by simpa [ByteArray.size] using hl)).mono fun _ _ ⟨h1,h2⟩=>⟨h1,qds h2⟩
theorem qjz (l m:List UInt8) (st:List AObj):qo E 154 [Sv l,Sv m] st fun r st'=>r=Bv (Lib.hasPrefix l m)∧st'=st:=
 qac (vals:= #[.string ⟨l.toArray⟩,.string ⟨m.toArray⟩]) rfl fun _ _ w _ _=>(Tryz.strings_HasPrefix ⟨l.toArray⟩ ⟨m.toArray⟩ w).mono fun _ _ ⟨h1,h2⟩=>⟨h1,qds h2⟩
theorem q55 (l m:List UInt8) (st:List AObj) (hl:l.length<4294967281):qo E 39 [Sv l,Sv m] st fun r st'=>r = .tu [Sv (Lib.cut l m).1,Sv (Lib.cut l m).2.1,Bv (Lib.cut l m).2.2]∧st'=st:=
 qg2 (vals:= #[.string ⟨l.toArray⟩,.string ⟨m.toArray⟩]) (rs:= #[.string ⟨(Lib.cut l m).1.toArray⟩,.string ⟨(Lib.cut l m).2.1.toArray⟩,.bool (Lib.cut l m).2.2]) rfl fun _ _ w hL hb=>(Tryz.strings_Cut_shaped ⟨l.toArray⟩ ⟨m.toArray⟩ w (hL w hb).shaped (by simpa [ByteArray.size] using hl)).mono fun _ _ ⟨h1,n,h2⟩=>⟨h1,h2▸q2g w n⟩
theorem qjx (l m:List UInt8) (st:List AObj):qo E 155 [Sv l,Sv m] st fun r st'=>r = .tu [Sv (Lib.trimPrefix l m),Bv (Lib.hasPrefix l m)]∧st'=st:=
 qg2 (vals:= #[.string ⟨l.toArray⟩,.string ⟨m.toArray⟩]) (rs:= #[.string ⟨(Lib.trimPrefix l m).toArray⟩,.bool (Lib.hasPrefix l m)]) rfl fun _ _ w _ _=>(Tryz.strings_CutPrefix ⟨l.toArray⟩ ⟨m.toArray⟩ w).mono fun _ _ ⟨h1,h2⟩=>⟨h1,qds h2⟩
theorem zij (n:Int) (st:List AObj) (h0 : -9223372036854775808≤n) (h1:n≤9223372036854775807):qo E 104 [Iv n] st fun r st'=>r=Sv (Lib.itoa n)∧st'=st:=
 qac (vals:= #[.int .i64 n]) rfl fun _ _ w hL hb=>(Tryz.strconv_Itoa n h0 h1 w (hL w hb).pow).mono fun _ _ ⟨h1,k,os,h2⟩=>⟨h1,h2▸q5r w k os⟩
theorem q2t (l:List UInt8) (c:Int) (st:List AObj):qo E 74 [Sv l,.v (.int .u8 c)] st fun r st'=>r=Iv (Lib.indexByte l c.toNat.toUInt8)∧st'=st:=
 qac (vals:= #[.string ⟨l.toArray⟩,.int .u8 c]) rfl fun _ _ w _ _=>(Tryz.strings_IndexByte ⟨l.toArray⟩ c w).mono fun _ _ ⟨h1,h2⟩=>⟨h1,qds h2⟩
theorem za9 (l m:List UInt8) (st:List AObj) (hl:l.length≤9223372036854775807) (hm:m.length<4294967281) (ha:∀ (j:Nat) (b:UInt8),m[j]? = some b→b.toNat<128):qo E 164 [Sv l,Sv m] st fun r st'=>r=Sv (Lib.trimS l m)∧st'=st:=
 qac (vals:= #[.string ⟨l.toArray⟩,.string ⟨m.toArray⟩]) rfl fun _ _ w _ _=>(Any.strings_Trim_laid Tryz.lays160t (by kernel_rfl) ⟨l.toArray⟩ ⟨m.toArray⟩ w (by simpa [ByteArray.size] using hl) (by simpa [ByteArray.size] using hm) (by simpa using ha)).mono fun _ _ ⟨h1,h2⟩=>⟨h1,h2⟩
theorem q2f {w w':World} {T:TypeId} {s:ByteArray} (h:w'=w∨∃ t,w'=Lib.bytesWorld w T t):Below w.heap.size w w':=by
 rcases h with rfl | ⟨t,rfl⟩
 ·exact Below.refl _ _
 ·unfold Lib.bytesWorld
  exact Lib.below_freeze ((Below.drew (Below.refl w.heap.size w)).alloc (Nat.le_refl _) _) (p:=⟨w.heap.size,_,none⟩) (Nat.le_refl _) _
theorem qq6 {f:FuncId} {st:List AObj} {args:List AV} {vals:Array Value} {R:Int→Option (TypeId×Value)→Prop} (ha:args=vals.toList.map .v)
  (h:∀ B0 w0 w,E.L B0 w0→Below B0 w0 w→Calls E.P f vals w fun e w'=>∃ n x,e = .returned (.tuple #[.int .i64 n,match x with|none=>.nilIface|some (t,y)=>.iface t y])∧R n x∧Below w.heap.size w w') :
  qo E f args st fun r st'=>st'=st∧∃ n x,r = .tu [Iv n,match x with|none=>.v .nilIface|some (t,y)=>.ifc t (.v y)]∧R n x:=by
 subst ha;refine⟨fun B0 w0 G vs w hL hA hR=>?_⟩
 have hv:vs=vals:=by
  have hs:vs.size=vals.size:=by have:=hR.1;simpa using this.symm
  apply Array.ext hs;intro i h1 h2;have:=hR.2 i (.v vals[i]) vs[i] (by simp [h2]) (by simp [h1]);generalize vs[i]=y at this
  cases this
  rfl
 subst hv;refine (h B0 w0 w hL hA.below).mono ?_;rintro e w' ⟨n,x,rfl,hRR,hb⟩;refine⟨_,G,_,st,rfl,.refl G,hA.fresh hb,qfv (.v _) ?_,rfl,n,x,rfl,hRR⟩
 cases x with
 |none=>exact .v _
 |some p=>exact .ifc _ _ _ (.v _)
theorem q77 (l:List UInt8) (st:List AObj) (hl:l.length≤281474976710656):qo E 156 [Sv l] st fun r st'=>st'=st∧∃ n x,r = .tu [Iv n,match x with|none=>.v .nilIface|some (t,y)=>.ifc t (.v y)]∧match x with|none=>Lib.atoiAll l = .ok n|some _=>∀ v,Lib.atoiAll l≠.ok v:=by
 refine qq6 (vals:= #[.string ⟨l.toArray⟩]) (R:=fun n x=>match x with|none=>Lib.atoiAll l = .ok n|some _=>∀ v,Lib.atoiAll l≠.ok v) rfl fun B0 w0 w hL hb=>?_;have hls:(⟨l.toArray⟩:ByteArray).data.toList=l:=rfl;rcases ho:Lib.atoiAll l with v | _ | _
 ·
  refine (Tryz.strconv_Atoi_ok ⟨l.toArray⟩ (by simp [ByteArray.size];omega) v (by rw [hls];exact ho) w).mono ?_;rintro e w' ⟨rfl,hw⟩;exact⟨v,none,rfl,rfl,q2f (s:=⟨l.toArray⟩) hw⟩
 ·
  obtain⟨tp,p,hv⟩:=(hL w hb).syn;refine (Any.strconv_Atoi_syntax_var Tryz.laysC172 ⟨l.toArray⟩ (by simpa [ByteArray.size] using hl) (by rw [hls];exact ho) tp p w hv).mono ?_;rintro e w' ⟨N,rfl,_,_,hw⟩;exact⟨_,some (_,_),rfl,by simp,hw⟩
 ·
  obtain⟨tp,p,hv⟩:=(hL w hb).ran;refine (Tryz.strconv_Atoi_range_var ⟨l.toArray⟩ (by simpa [ByteArray.size] using hl) (by rw [hls];exact ho) tp p w hv).mono ?_;rintro e w' ⟨N,rfl,_,_,hw⟩;exact⟨_,some (_,_),rfl,by simp,hw⟩
theorem zho (l m:List UInt8) (st:List AObj) (hl:l.length≤9223372036854775807) (hm:Nat.blt m.length 4294967281=true) (ha:m.all (fun b=>Nat.blt b.toNat 128)=true):qo E 164 [Sv l,Sv m] st fun r st'=>r=Sv (Lib.trimS l m)∧st'=st:=
 za9 l m st hl (by simpa [Nat.blt_eq] using hm) fun j b h=>by
  have:=List.all_eq_true.1 ha b (List.mem_of_getElem? h)
  simpa [Nat.blt_eq] using this
end Go.Proofs.YtapblfabkbdgcaaGreatDoor
namespace Go.Av
open Go Go.RowKit Go.WideShapes Go.ChangeShapes
def G0:Gh:=⟨fun _=>none,fun _=>⟨0,0,0,false⟩,0⟩
theorem q14 (W:World):zi W.heap.size W G0 [] W:=
 ⟨Below.refl _ _,Nat.le_refl _,rfl,fun b vs h=>by simp [G0] at h,fun o x h=>by simp at h,fun o o' x x' _ h=>by simp at h⟩
theorem zag (G:Gh) (vals:Array Value):RelL G (vals.toList.map .v) vals:=by
 refine⟨by simp,fun i x y hx hy=>?_⟩;rw [List.getElem?_map] at hx;rw [Array.getElem?_toList,hy] at hx;simp at hx;subst hx;exact .v y
theorem qt4 {E:Env} {f:FuncId} {args:List AV} {vals:Array Value} {b:Bool} {W:World} (h:qo E f args [] fun r st'=>r=Bv b∧st'=[]) (hL:E.L W.heap.size W) (ha:args=vals.toList.map .v) :
  Calls E.P f vals W fun e w'=>e = .returned (.bool b)∧Below W.heap.size W w':=by
 subst ha;refine (h.run W.heap.size W G0 vals W hL (q14 W) (zag _ _)).mono ?_;rintro e w' ⟨v,G',r,st',rfl,_,hA,hr,rfl,_⟩
 cases hr
 exact⟨rfl,hA.below⟩
theorem quu {P:Program} {W:World} {name:String} {k:IntKind} {zs:List Int} {g:Nat} {t e:TypeId} {n:Nat}
  (hg:P.globalNamed name=some g) (hty:(P.globals[g]?).map (·.type)=some t) (ht:P.underlying t=some (.array n e)) (he:P.underlying e=some (.int k)) (hce:P.cellsOf e=1) (hct:P.cellsOf t=n)
  (h:Lib.VarReads P W name (Lib.tabData k zs)):Lib.TabIs P W name k zs:=by
 obtain⟨g',t',cs,fuel,p,hg',ht',hvar,hd⟩:=h;obtain rfl:=Option.some.inj (hg.symm.trans hg');obtain rfl:=Option.some.inj (hty.symm.trans ht');unfold Lib.TabIs;rw [hvar,← Lib.cells_of_tab ht he hce hct hd]
theorem qmj {P:Program} {W:World} {name s:String} {d:DataW Unit} {g:Nat} {t:TypeId} {ms:Array (String×TypeId)}
  (hg:P.globalNamed name=some g) (hty:(P.globals[g]?).map (·.type)=some t) (ht:P.underlying t=some (.interface ms))
  (h:Lib.VarReads P W name (.iface s d)):∃ tp p,W.var? P name=some #[.iface tp p]:=by
 obtain⟨g',t',cs,fuel,p,hg',ht',hvar,hd⟩:=h;obtain rfl:=Option.some.inj (hg.symm.trans hg');obtain rfl:=Option.some.inj (hty.symm.trans ht')
 cases fuel with
 |zero=>simp [DataW.trod] at hd
 |succ fuel=>
  obtain⟨l⟩:=cs;simp only [DataW.trod,ht] at hd;split at hd;all_goals simp_all
section
variable {H : Type} {enc : TypeId × Value → H} {P : Program}
theorem qxi {f:Func} {s:ChangeSpec} {qcm fresh handsOn again:Bool} {W W':World} {args:Array Value} {v:Value} {ds gs:List (DataW H)} {before pa pv:List MemPlace}
  (hW:DataW.Whole enc P f.params.toList s.vars qcm W args.toList ds gs before)
  (hres:∀ (b:Nat) (sp:Nat→Bool) (hd:Bool),DataW.TrodAll enc P W' b sp hd f.resultTypes.toList (v.resultList f.resultTypes.size) (s.fn H (ds++gs)).results [])
  (gr:∀ sp:Nat→Bool,(∀ p∈before,sp p.block=true)→DataW.TrodAll enc P W' 0 sp true f.params.toList args.toList (s.fn H (ds++gs)).args pa)
  (hvars:∀ sp:Nat→Bool,(∀ p∈before,sp p.block=true)→DataW.TrodVars enc P W' sp s.vars (s.fn H (ds++gs)).vars pv)
  (rt:before=pa++pv) (hb:Below W.heap.size W W')
  (hok:∀ (j:Nat) (t:TypeId) (r:Value),f.resultTypes[j]? = some t→(v.resultList f.resultTypes.size)[j]? = some r→Value.okWide P W' .any 0 t r) :
  s.post enc P f qcm fresh handsOn again W args v W':=by
 have d6:∀ p∈before,p.block<W.heap.size:=fun p hp=>hW.lt p hp;have d9:∀ p∈before,(fun b=>decide (b<W.heap.size)) p.block=true:=fun p hp=>by simpa using d6 p hp
 refine⟨ds,gs,before,[],pa,pv,hW,hres _ _ _,gr _ d9,hvars _ d9,World.keptBut_mono (fun p hp=>⟨hp,?_⟩) (hb.frame (·∈before)),fun _=>?_⟩
 ·rw [rt,List.mem_append] at hp
  exact Or.inr hp
 ·obtain⟨_,_,_,_,_,hz,hn⟩:=hW
  refine⟨hok,_,_,([]++pa)++pv,⟨[]++pa,pv,trodAll_append (gr _ (fun _ _=>rfl)) (hres _ _ _),hvars _ (fun _ _=>rfl),rfl,?_,?_⟩,?_⟩
  ·intro b off hp
   have fc:MemPlace.cell b off∈before:=by rw [rt];simpa using hp
   rw [hb.frozen (d6 _ fc)];exact hz b off fc
  ·intro ha
   have:=hn ha;rw [rt] at this
   simpa using this
  ·intro p hp _
   rw [rt]
   simpa using hp
end
end Go.Av
namespace Go.Proofs.YtapblfabkbdgcaaGreatDoor
open Go Go.Av Go.RowKit
theorem zi0:((List.range 360).filter fun t=>Tryz.prog.rowNamed t [101,114,114,111,114])=[31]:=by kernel_rfl
theorem zjw : (Tryz.prog.cutTypes.find? (·.1 == "internal/reflectlite.rtype")).map (·.2) = some 298 := by kernel_rfl
theorem zjx:Tryz.prog.types.size=360:=by kernel_rfl
theorem zjp:typeHandle Tryz.prog 31 = .pointer (some ⟨9,31,none⟩):=by kernel_rfl
theorem zej : Tryz.prog.globalNamed "errors.errorType" = some 1 := by kernel_rfl
theorem q0b {l : List (String × DataW Unit)} (h : (l.all fun x => x.1 == "errors.errorType" || x.2.handleName?.isNone) = true) {x : String × DataW Unit} (hx : x ∈ l) (hn : (x.1 == "errors.errorType") = false) : x.2.handleName?.isNone = true := by
 have:=List.all_eq_true.1 h x hx;rw [hn] at this
 simpa using this
theorem qz0 {P:Program} {w0:World} {laid:List (String×DataW Unit)} (args:Array Value) (hf:w0.layFits P laid []=true) (hi:w0.layIfaces P laid (w0.layVars P laid)=true) :
  laidMet P laid ((w0.layVars P laid).forCall (fun _ _=>0) ⟨#[],args,[]⟩).memory:=by
 have e1:(laid.filter fun x=>(laid.map Prod.fst).contains x.1)=laid:=List.filter_eq_self.2 fun x hx=>List.contains_iff_mem.2 (List.mem_map_of_mem hx)
 have e2:(laid.filter fun x=> !(laid.map Prod.fst).contains x.1)=[]:=List.filter_eq_nil_iff.2 fun x hx=>by
  rw [List.contains_iff_mem.2 (List.mem_map_of_mem (f:=Prod.fst) hx)];simp
 have h:laidMet P laid (w0.layVars P laid):=laidMet_layVars (w0:=w0) (laid.map Prod.fst) [] (by rw [e1]) (by rw [e1];exact hf) (by rw [e1];exact hi) (by rw [e2];exact LaidIn.none);exact h.of_heap (by simp [World.memory,World.forCall,Input.heap])
noncomputable def zjm (os:Os):World:={ World.holding Tryz.prog os ⟨#[],#[],[]⟩ with heap:=(World.holding Tryz.prog os ⟨#[],#[],[]⟩).heap.modify 1 fun
 | .cells _ t fz=>.cells #[.iface 298 (.agg #[.pointer (some ⟨9,31,none⟩)])] t fz
 |o=>o }
theorem zf8 {l:List (String×DataW Unit)} {W:World}
  (hp : (l.filter fun x => x.2.handleName?.isSome) = [("errors.errorType", Rows.laid_errors_errorType)] ∧ (l.all fun x => x.1 == "errors.errorType" || x.2.handleName?.isNone) = true)
  (hL:laidMetH Tryz.prog l W) (hs:W.ShapedOpen Tryz.prog)
  (h1 : ("internal/strconv.uint64pow10", Rows.laid_internal_strconv_uint64pow10) ∈ l) (h2 : ("strconv.ErrSyntax", Rows.laid_strconv_ErrSyntax) ∈ l) (h3 : ("strconv.ErrRange", Rows.laid_strconv_ErrRange) ∈ l) : E.L W.heap.size W := by
 unfold laidMetH at hL;rw [hp.1] at hL;simp only at hL;intro w hb;obtain⟨hL,hH⟩:=hL;have h1:=(List.mem_filter (p:=fun x=>x.2.handleName?.isNone)).2 ⟨h1,q0b hp.2 h1 (by decide)⟩;have h2:=(List.mem_filter (p:=fun x=>x.2.handleName?.isNone)).2 ⟨h2,q0b hp.2 h2 (by decide)⟩;have h3:=(List.mem_filter (p:=fun x=>x.2.handleName?.isNone)).2 ⟨h3,q0b hp.2 h3 (by decide)⟩;obtain⟨name,u,ty,e1,e2,e3,e4,e5⟩:=hH _ (List.mem_singleton.2 rfl);have en:name=[101,114,114,111,114]:=(Option.some.inj e1).symm;subst en;obtain rfl:=Option.some.inj (zjw.symm.trans e2);have hm:ty∈(List.range 360).filter fun t=>Tryz.prog.rowNamed t [101,114,114,111,114]:=List.mem_filter.2 ⟨List.mem_range.2 (by rw [← zjx];exact e3),e4⟩;rw [zi0] at hm;obtain rfl:=List.mem_singleton.1 hm;rw [zjp] at e5;have hv:=World.var?_cell zej (Go.Joins.var_stays zej e5 hb (Nat.le_refl _)) 0
 have g1 : Tryz.prog.globalNamed "internal/strconv.uint64pow10" = some 2 := by kernel_rfl
 have g2 : Tryz.prog.globalNamed "strconv.ErrSyntax" = some 3 := by kernel_rfl
 have g3 : Tryz.prog.globalNamed "strconv.ErrRange" = some 4 := by kernel_rfl
 have t1:=quu (k:=.u64) (zs:=Lib.pow10Tab) (t:=311) (e:=231) (n:=20) g1 (by kernel_rfl) (by kernel_rfl) (by kernel_rfl) (by kernel_rfl) (by kernel_rfl) (Lib.laidMet.reads hL h1);obtain⟨tp2,p2,v2⟩:=qmj (t:=31) g2 (by kernel_rfl) rfl (Lib.laidMet.reads hL h2);obtain⟨tp3,p3,v3⟩:=qmj (t:=31) g3 (by kernel_rfl) rfl (Lib.laidMet.reads hL h3);exact⟨hs.keptBut (hb.frame (fun _=>False)) (fun _ h=>h.elim),Go.Joins.var_stays g1 t1 hb (Nat.le_refl _),⟨tp2,p2,Go.Joins.var_stays g2 v2 hb (Nat.le_refl _)⟩,⟨tp3,p3,Go.Joins.var_stays g3 v3 hb (Nat.le_refl _)⟩,by simpa using hv⟩
end Go.Proofs.YtapblfabkbdgcaaGreatDoor
namespace Go.Pl
open Go
abbrev qc:=List UInt8
theorem qcw (l:qc) (c:UInt8):0≤Lib.index l [c]↔c∈l:=by
 induction l with
 |nil=>simp [Lib.index]
 |cons b l ih=>
  have cw:=Lib.index_ge l [c];unfold Lib.index;by_cases hb:c=b
  ·subst hb
   simp [List.isPrefixOf]
  ·have hp:([c]:qc).isPrefixOf (b::l)=false:=by simp [List.isPrefixOf,hb]
   rw [hp];by_cases hm:Lib.index l [c] = -1
   ·have:c∉l:=fun h=>by have:=ih.2 h;omega
    simp [hm,hb,this]
   ·have:c∈l:=ih.1 (by omega)
    simp [hm,this];omega
theorem qm0 (l:qc) (c:UInt8):Lib.contains l [c]=decide (c∈l):=by
 unfold Lib.contains;by_cases h:c∈l
 ·simp [h,(qcw l c).2 h]
 ·have:¬ 0≤Lib.index l [c]:=fun h'=>h ((qcw l c).1 h')
  simp [h,this]
theorem qmh (l:qc) (c:UInt8):Lib.hasPrefix l [c]=decide (l.head? = some c):=by
 cases l with
 |nil=>simp [Lib.hasPrefix]
 |cons b l=>
  by_cases h:c=b
  ·simp [Lib.hasPrefix,List.isPrefixOf,h]
  ·simp [Lib.hasPrefix,List.isPrefixOf,h,Ne.symm h]
def vv (c:UInt8):Prop:=c=32∨c=9
instance (c:UInt8):Decidable (vv c):=inferInstanceAs (Decidable (c=32∨c=9))
def qdt (l:qc):Prop:=∃ c,l.head? = some c∧vv c
instance (l:qc):Decidable (qdt l):=
 match l with
 | []=>.isFalse (by rintro⟨c,h,_⟩;simp at h)
 |c::r=>decidable_of_iff (vv c) ⟨fun h=>⟨c,rfl,h⟩,fun ⟨d,h,hd⟩=>by simp at h;subst h;exact hd⟩
def yr (l:qc):Prop:=l≠[]∧l.length≤32∧¬ qdt l∧¬ l.head? = some 35∧58∉l∧10∉l
instance (l:qc):Decidable (yr l):=inferInstanceAs (Decidable (_∧_∧_∧_∧_∧_))
theorem qjc (l:qc):yr l↔1≤l.length∧l.length≤32∧¬ vv (l.getD 0 0)∧l.getD 0 0≠35∧58∉l∧10∉l:=by
 cases l with
 |nil=>simp [yr]
 |cons c l=>simp [yr,qdt]
theorem qt3 (c:UInt8) (l:qc):Lib.contains [32,9] [c]=decide (qdt (c::l)):=by
 rw [qm0];have:qdt (c::l)↔vv c:=⟨fun ⟨d,h,hd⟩=>by simp at h;subst h;exact hd,fun h=>⟨c,rfl,h⟩⟩;simp [this,vv]
def upto (c:UInt8) (l:qc):qc:=l.takeWhile (·≠c)
def past (c:UInt8) (l:qc):qc:=l.drop ((upto c l).length+1)
theorem qsd (c:UInt8) (l:qc) (h:c∈l):Lib.index l [c]=((upto c l).length:Int):=by
 induction l with
 |nil=>simp at h
 |cons b l ih=>
  unfold Lib.index upto;by_cases hb:b=c
  ·subst hb;simp [List.isPrefixOf]
  ·have hp:([c]:qc).isPrefixOf (b::l)=false:=by simp [List.isPrefixOf,Ne.symm hb]
   have hl:c∈l:=by simpa [Ne.symm hb] using h
   have e:=ih hl;rw [hp];have:(Lib.index l [c] == -1)=false:=by rw [e];simp
   simp only [this];rw [e];simp [hb,upto]
theorem qjr (c:UInt8) (l:qc):l.take (upto c l).length=upto c l:=by
 induction l with
 |nil=>simp [upto]
 |cons b l ih=>
  by_cases hb:b=c
  ·simp [upto,hb]
  ·have:upto c (b::l)=b::upto c l:=by simp [upto,hb]
   rw [this];simp [ih]
theorem qcc {c:UInt8} {l:qc} (h:c∉l):upto c l=l:=by
 induction l with
 |nil=>rfl
 |cons b l ih=>
  have hb:b≠c:=fun e=>h (by simp [e]);have:upto c (b::l)=b::upto c l:=by simp [upto,hb]
  rw [this,ih (fun h'=>h (by simp [h']))]
theorem vk (c:UInt8) (l:qc):(upto c l).length≤l.length:=by
 have:=congrArg List.length (qjr c l);simp at this;omega
theorem qdq {c:UInt8} {l:qc} (h:c∈l):(upto c l).length<l.length:=by
 induction l with
 |nil=>simp at h
 |cons b l ih=>
  by_cases hb:b=c
  ·simp [upto,hb]
  ·have:upto c (b::l)=b::upto c l:=by simp [upto,hb]
   rw [this];have:=ih (by simpa [Ne.symm hb] using h);simp;omega
theorem vo (c:UInt8) (l:qc):(past c l).length=l.length - ((upto c l).length+1):=by simp [past]
theorem zfd (c:UInt8) (l:qc):Lib.cut l [c]=(upto c l,past c l,decide (c∈l)):=by
 unfold Lib.cut;by_cases h:c∈l
 ·rw [if_pos ((qcw l c).2 h),qsd c l h]
  simp [qjr,past,h]
 ·rw [if_neg (fun h'=>h ((qcw l c).1 h'))]
  simp [qcc h,past,h]
theorem xi {c:UInt8} {l:qc} (h:l≠[]):(past c l).length<l.length:=by
 rw [vo];have:=List.length_pos_iff.2 h;omega
def zj (l:qc):List (qc×Bool):=
 if h:l=[] then [] else (upto 10 l,decide (10∈l))::zj (past 10 l)
 termination_by l.length
 decreasing_by exact xi h
theorem kv:zj []=[]:=by rw [zj];simp
theorem vw {l:qc} (h:l≠[]):zj l=(upto 10 l,decide (10∈l))::zj (past 10 l):=by rw [zj];simp [h]
def wt (b:Bool):qc:=if b then [10] else []
def vn (by' l:qc):qc×Bool:=
 if ∀ x∈zj l,by' <+: x.1 then ((zj l).flatMap fun x=>x.1.drop by'.length++wt x.2,true) else ([],false)
theorem qml (l m:qc):(Lib.trimPrefix l m).length≤l.length:=by
 unfold Lib.trimPrefix;split
 ·simp
 ·exact Nat.le_refl _
theorem y6 (l m:qc):Lib.hasPrefix l m=true↔m <+: l:=by
 unfold Lib.hasPrefix;exact List.isPrefixOf_iff_prefix
theorem qd6 {l m:qc} (h:m <+: l):Lib.trimPrefix l m=l.drop m.length:=by
 unfold Lib.trimPrefix;rw [if_pos ((y6 l m).2 h)]
theorem wj {c:UInt8} {a:qc} (r:qc) (h:c∉a):upto c (a++c::r)=a:=by
 induction a with
 |nil=>simp [upto]
 |cons b a ih=>
  have hb:b≠c:=fun e=>h (by simp [e]);have h2:c∉a:=fun e=>h (by simp [e]);have e:upto c (b::(a++c::r))=b::upto c (a++c::r):=by simp [upto,hb]
  rw [List.cons_append,e,ih h2]
theorem xb {c:UInt8} {a:qc} (r:qc) (h:c∉a):past c (a++c::r)=r:=by
 unfold past;rw [wj r h,show a++c::r=(a++[c])++r by simp,show a.length+1=(a++[c]).length by simp,List.drop_left]
theorem qab {c:UInt8} {l:qc} (h:c∈l):l=upto c l++c::past c l:=by
 induction l with
 |nil=>simp at h
 |cons b l ih=>
  by_cases hb:b=c
  ·subst hb;simp [upto,past]
  ·have h2:c∈l:=by simpa [Ne.symm hb] using h
   have e1:upto c (b::l)=b::upto c l:=by simp [upto,hb]
   have e2:past c (b::l)=past c l:=by simp [past,e1]
   rw [e1,e2,List.cons_append,← ih h2]
theorem qa9 (c:UInt8) (l:qc):c∉upto c l:=by
 induction l with
 |nil=>simp [upto]
 |cons b l ih=>
  by_cases hb:b=c
  ·simp [upto,hb]
  ·have e1:upto c (b::l)=b::upto c l:=by simp [upto,hb]
   rw [e1];simp [Ne.symm hb,ih]
def zx (l:qc):qc:=l.takeWhile (·≠58)
theorem q2u (l:qc) (h:58∈l):Lib.index l [58]=((zx l).length:Int):=by
 induction l with
 |nil=>simp at h
 |cons b l ih=>
  unfold Lib.index zx;by_cases hb:b=58
  ·subst hb;simp [List.isPrefixOf]
  ·have hp:([58]:qc).isPrefixOf (b::l)=false:=by simp [List.isPrefixOf,Ne.symm hb]
   have hl:58∈l:=by simpa [Ne.symm hb] using h
   have e:=ih hl;rw [hp];have:(Lib.index l [58] == -1)=false:=by rw [e];simp
   simp only [this];rw [e];simp [hb,zx]
theorem q1u (l:qc):l.take (zx l).length=zx l:=by
 induction l with
 |nil=>simp [zx]
 |cons b l ih=>
  by_cases hb:b=58
  ·simp [zx,hb]
  ·have:zx (b::l)=b::zx l:=by simp [zx,hb]
   rw [this];simp [ih]
def kg (l:qc):qc:=l.drop ((zx l).length+1)
theorem qvj (l:qc):Lib.cut l [58]=if 58∈l then (zx l,kg l,true) else (l,[],false):=by
 unfold Lib.cut;by_cases h:58∈l
 ·rw [if_pos ((qcw l 58).2 h),if_pos h,q2u l h]
  simp [q1u,kg]
 ·rw [if_neg (fun h'=>h ((qcw l 58).1 h')),if_neg h]
theorem qsi {l:qc} {k:Nat} (h:58∉l.take k) (hk:k<l.length) (e:l.getD k 0=58):zx l=l.take k∧58∈l:=by
 induction l generalizing k with
 |nil=>simp at hk
 |cons b l ih=>
  cases k with
  |zero=>simp at e;subst e;simp [zx]
  |succ k=>
   simp only [List.take_succ_cons,List.mem_cons,not_or] at h;obtain⟨h1,h2⟩:=ih h.2 (by simpa using hk) (by simpa using e);have:zx (b::l)=b::zx l:=by simp [zx,Ne.symm h.1]
   exact⟨by rw [this,h1];rfl,by simp [h2]⟩
def qd0 (l:qc):qc×qc×Bool:=if 10∉l∧58∈l∧yr (zx l) then (zx l,kg l,true) else ([],[],false)
def qs (l:qc):Int:=
 if 10∈l then 5 else if ∀ c∈l,vv c then 1 else if l.head? = some 35 then 2 else if qdt l then 3
 else if 58∈l∧yr (zx l) then 4 else 5
theorem qpk {l:qc} (h:10∉l) (hb:¬ ∀ c∈l,vv c):0<l.length∧qs l=if l.getD 0 0=35 then 2 else if vv (l.getD 0 0) then 3 else if 58∈l∧yr (zx l) then 4 else 5:=by
 cases l with
 |nil=>simp at hb
 |cons c l=>
  have e:qdt (c::l)↔vv c:=⟨fun ⟨d,h,hd⟩=>by simp at h;subst h;exact hd,fun h=>⟨c,rfl,h⟩⟩;refine⟨by simp,?_⟩;unfold qs;rw [if_neg h,if_neg hb];simp [e]
theorem qmf {α : Type} (p : α→Bool) (l:List α):l.dropWhile p=[]↔∀ x∈l,p x=true:=by
 induction l with
 |nil=>simp
 |cons a l ih=>
  by_cases h:p a=true
  ·simp [h,ih]
  ·simp [h]
theorem zb8 {α : Type} (p : α→Bool) (l:List α):(l.reverse.dropWhile p).reverse.dropWhile p=[]↔∀ x∈l,p x=true:=by
 rw [qmf];constructor
 ·intro h x hx
  by_cases hq:∀ y∈l,p y=true
  ·exact hq x hx
  ·have hr:¬ ∀ y∈l.reverse,p y=true:=fun h'=>hq fun y hy=>h' y (by simpa using hy)
   rw [← qmf] at hr;obtain⟨a,r,hd⟩:=List.exists_cons_of_ne_nil hr;have h1:=List.head?_dropWhile_not p l.reverse;rw [hd] at h1;have h2:=h a (by simp [hd]);simp [h2] at h1
 ·intro h x hx
  exact h x (by
   have:=(List.dropWhile_sublist (l:=l.reverse) p).subset (by simpa using hx)
   simpa using this)
theorem qw2 (l m:qc):Lib.trimS l m=[]↔∀ c∈l,c∈m:=by
 unfold Lib.trimS Lib.trimLeftS Lib.trimRightS;rw [zb8];simp
theorem q56 (l m:qc):(Lib.cut l m).1.length≤l.length:=by
 unfold Lib.cut;split
 ·simp;omega
 ·simp
def qf7 (l:qc):Prop:=2≤l.length∧l.length≤50000∧l.getLast? = some 10∧(vn [32] l).2=true
instance (l:qc):Decidable (qf7 l):=inferInstanceAs (Decidable (_∧_∧_∧_))
def qxs (n:Nat) (fig:qc):qc:=[37,97,109,101,110,100,32]++Lib.itoa n++[32]++fig++[10]
def qhq (n:Nat):qc:=[37,101,110,100,32]++Lib.itoa n++[10]
theorem qhi:∀ (k u:Nat),u<10 ^ (k+1)→Lib.nDigits u≤k+1
 | 0,u,h=>by rw [Lib.nDigits_small (by simpa using h)];omega
 |k+1,u,h=>by
  by_cases h':u<10
  ·rw [Lib.nDigits_small h'];omega
  ·rw [Lib.nDigits_big h']
   have:=qhi k (u / 10) (by rw [Nat.pow_succ] at h;omega);omega
theorem atoiAll_bounds {l:qc} {v:Int} (h:Lib.atoiAll l = .ok v) : -9223372036854775808≤v∧v≤9223372036854775807:=by
 unfold Lib.atoiAll at h
 cases l with
 |nil=>simp at h
 |cons c r=>
  simp only at h;split at h
  ·simp at h
  ·simp at h
  ·split at h
   ·simp at h
   ·split at h
    ·simp at h
    ·rename_i h1 h2
     simp only [Lib.NumEnd.ok.injEq] at h;subst h;by_cases hn:c.toNat=45
     ·simp only [hn,true_and,not_true,if_true] at *
      omega
     ·simp only [hn,not_false_iff,true_and,if_false] at *
      omega
def x7 (l:qc):Nat:=
 match Lib.atoiAll l with
 | .ok v=>if Lib.itoa v=l∧1≤v∧v≤50000 then v.toNat else 0
 | _=>0
def wv:qc:=[37,97,109,101,110,100,32]
def hexL:qc:=[48,49,50,51,52,53,54,55,56,57,97,98,99,100,101,102]
def qbu (l:qc):Prop:=∀ c∈l,c∈hexL
instance (l:qc):Decidable (qbu l):=inferInstanceAs (Decidable (∀ c∈l,c∈hexL))
def xh (l:qc):Nat×qc×Bool:=
 (x7 (upto 32 (Lib.trimPrefix l wv)),past 32 (Lib.trimPrefix l wv),
  decide (wv <+: l∧32∈Lib.trimPrefix l wv∧2≤x7 (upto 32 (Lib.trimPrefix l wv))∧(past 32 (Lib.trimPrefix l wv)).length=8∧qbu (past 32 (Lib.trimPrefix l wv))))
def qij (l:qc):Bool:=
 if wv <+: l then decide (¬ (32∈l.drop 7∧x7 (upto 32 (l.drop 7))<2)∧¬ (upto 32 (l.drop 7)≠[]∧x7 (upto 32 (l.drop 7))=0)∧(past 32 (l.drop 7)).length≤8∧qbu (past 32 (l.drop 7)))
 else decide (l <+: wv)
theorem q6t {l:qc} {v:Int} (h:Lib.atoiAll l = .ok v):(x7 l:Int)=if Lib.itoa v=l∧1≤v∧v≤50000 then v else 0:=by
 unfold x7;rw [h];simp only;split
 ·omega
 ·rfl
theorem qfe (l:qc):x7 l≤50000:=by
 unfold x7;split
 ·split
  ·omega
  ·omega
 ·omega
def zgb (n:Int):Int:=if n<2∨50000<n then 0 else (qxs n.toNat [48,48,48,48,48,48,48,48]).length+n+(qhq n.toNat).length
def qom (body:qc) (lack:Int):Int:=
 if (vn [32] body).2=true∧¬ ((body=[]∨body.getLast? = some 10)∧lack<2) then 2 else 3
theorem q1t (n:Nat):(qhq n).length=(Lib.itoa n).length+6:=by simp [qhq] <;> omega
theorem q2n {u:Nat} (h:u<10):(([48,49,50,51,52,53,54,55,56,57]:qc).take (u+1)).drop u=Lib.decDigits u:=by
 rw [Lib.decDigits_one h];have:u=0∨u=1∨u=2∨u=3∨u=4∨u=5∨u=6∨u=7∨u=8∨u=9:=by omega
 rcases this with rfl|rfl|rfl|rfl|rfl|rfl|rfl|rfl|rfl|rfl <;> rfl
theorem y5 {u:Nat} (h:¬ u<10):Lib.decDigits u=Lib.decDigits (u / 10)++Lib.decDigits (u % 10):=by
 rw [Lib.decDigits,dif_neg h,Lib.decDigits_one (Nat.mod_lt u (by omega))]
theorem qd8 {u:Nat} (h:u<18446744073709551616):(Lib.decDigits u).length≤20:=by
 rw [Lib.decDigits_length];exact qhi 19 u (by omega)
end Go.Pl
namespace Go.Pl
section
variable {α : Type} [DecidableEq α]
def vz (a b:List α):Nat→Nat→Nat
 | 0,j=>j
 |i+1,0=>i+1
 |i+1,j+1=>if a[i]? = b[j]? then vz a b i j else 1+min (min (vz a b i j) (vz a b i (j+1))) (vz a b (i+1) j)
theorem qob (a b:List α) (i j:Nat):vz a b (i+1) (j+1)=if a[i]? = b[j]? then vz a b i j else 1+min (min (vz a b i j) (vz a b i (j+1))) (vz a b (i+1) j):=by rw [vz]
theorem qi2 (a b:List α) (j:Nat):vz a b 0 j=j:=by rw [vz]
theorem qgh (a b:List α) (i:Nat):vz a b i 0=i:=by cases i <;> rw [vz]
theorem qm1 (a b:List α):∀ (n i j:Nat),i+j≤n→(vz a b (i+1) j≤vz a b i j+1∧vz a b i j≤vz a b (i+1) j+1)∧(vz a b i (j+1)≤vz a b i j+1∧vz a b i j≤vz a b i (j+1)+1)
 | 0,i,j,h=>by
  obtain⟨rfl,rfl⟩:i=0∧j=0:=by omega
  simp [qgh,qi2]
 |n+1,i,j,h=>by
  refine⟨?_,?_⟩
  ·cases j with
   |zero=>simp only [qgh];omega
   |succ j=>
    obtain⟨⟨h1,h2⟩,h3,h4⟩:=qm1 a b n i j (by omega);rw [qob];split <;> omega
  ·cases i with
   |zero=>simp only [qi2];omega
   |succ i=>
    obtain⟨⟨h1,h2⟩,h3,h4⟩:=qm1 a b n i j (by omega);rw [qob];split <;> omega
theorem q32 (a b:List α):∀ (i j:Nat),vz a b i j≤i+j
 | 0,j=>by rw [qi2];omega
 |i+1,j=>by
  have:=q32 a b i j;have:=(qm1 a b (i+j) i j (Nat.le_refl _)).1.1;omega
def xe (a b:List α) (i j:Nat):Int:=
 if 0<i∧0<j∧a[i - 1]? = b[j - 1]?∧vz a b (i - 1) (j - 1)=vz a b i j then 1
 else if 0<i∧0<j∧vz a b (i - 1) (j - 1)+1=vz a b i j then 2
 else if 0<i∧vz a b (i - 1) j+1=vz a b i j then 3 else 4
def wayB (a b:List α):Nat→Nat→Nat→List Int
 | 0,_,_=>[]
 |n+1,i,j=>if i=0∧j=0 then [] else
  xe a b i j::wayB a b n (if xe a b i j=4 then i else i - 1) (if xe a b i j=3 then j else j - 1)
def wayF (a b:List α):List Int:=(wayB a b (a.length+b.length) a.length b.length).reverse
theorem qnh (a b:List α) (i j:Nat) (h:xe a b i j≠4):0<i:=by
 unfold xe at h;repeat' split at h
 all_goals first|omega|(exact absurd rfl h)
theorem qlj (a b:List α) (i j:Nat) (hj:¬ (i=0∧j=0)) (h:xe a b i j≠3):0<j:=by
 unfold xe at h
 have hn:j=0→0<i∧vz a b (i - 1) j+1=vz a b i j:=fun e=>by
  subst e;simp only [qgh];omega
 refine Nat.pos_of_ne_zero fun e=>h ?_;subst e;rw [if_neg (by omega),if_neg (by omega),if_pos (hn rfl)]
theorem qni (a b:List α) (i j:Nat):xe a b i j=1∨xe a b i j=2∨xe a b i j=3∨xe a b i j=4:=by
 unfold xe;repeat' split
 all_goals simp
end
end Go.Pl
namespace Go.Proofs.YtapblfabkbdgcaaGreatDoor
open Go Go.Av Go.RowKit Go.Proofs Go.Pl
theorem qpa (l:List UInt8) (c:UInt8) (st:List AObj) (hl:l.length<4294967281):qo E 163 [Sv l,Sv [c]] st fun r st'=>r=Bv (decide (c∈l))∧st'=st:=by
 rw [← qm0];exact qrs l [c] st hl
theorem qid (l:List UInt8) (c:UInt8) (st:List AObj):qo E 154 [Sv l,Sv [c]] st fun r st'=>r=Bv (decide (l.head? = some c))∧st'=st:=by
 rw [← qmh];exact qjz l [c] st
theorem q3z (l:List UInt8) (st:List AObj):qo E 165 [Sv l] st fun r st'=>r=Bv (decide (qdt l))∧st'=st:=by
 refine ze (q8 _) (qr Tryz.func165 rfl (Nat.le_of_ble_eq_true rfl) ?_)
 cases l with
 |nil=>
  repeat' (first|apply qm|apply qg|apply qh|apply ql|apply qi|(apply kr;(iterate 3 exact rfl))|(apply zm;(iterate 4 exact rfl))|(apply qer;exact cRa)|(apply qx;exact rfl;apply pk_f;exact cRa)|apply q6)
  refine qn rfl (zh rfl) ⟨congrArg Bv (?_:_=_),_,rfl⟩
  simp [qdt]
 |cons c l=>
  have b8:¬ (c::l)=[]:=by simp
  repeat' (first|apply qm|apply qg|apply qh|apply ql|apply qi|(apply kr;(iterate 3 exact rfl))|(apply zm;(iterate 4 exact rfl))|(apply qfs;exact cAo)|(apply qx;exact rfl;apply qdj;exact cAo)|apply q6|refine qdr rfl rfl rfl ⟨_,rfl⟩ (by omega) (by omega) (by simp;omega) ?_|(apply qq;exact Tryz.call163;exact qrs _ _ _ (by simp)))
  refine qn rfl (zh rfl) ⟨congrArg Bv (?_:_=_),_,rfl⟩;exact qt3 c l
theorem zem (l:List UInt8) (st:List AObj) (hl:l.length<4294967281):qo E 166 [Sv l] st fun r st'=>r=Bv (decide (yr l))∧st'=st:=by
 refine ze (q8 _) (qr Tryz.func166 rfl (Nat.le_of_ble_eq_true rfl) ?_);repeat' (first|apply qm|apply qg|apply qh|apply ql|apply qi|(apply qt;(iterate 3 exact rfl))|(apply kr;(iterate 3 exact rfl))|(apply kp;exact rfl)|(apply zm;(iterate 4 exact rfl))|(apply qbj;exact cAo)|(apply qa7;exact cAo)|(apply qv1;exact cRa)|(apply qr8;exact cRa)|(apply qr9 <;> intro h)|(apply qnb;exact cRa)|(apply yp <;> intro h)|(apply qx;exact rfl;apply qdj;exact cAo)|(apply qx;exact rfl;apply qd4;exact cAo)|(apply qx;exact rfl;apply qxw;exact cRa)|(apply qx;exact rfl;apply qoo;exact cRa)|(apply qx;exact rfl;apply pk_t;exact cRa)|(apply qe;exact rfl;apply cd_t;exact cRa)|(apply qe;exact rfl;apply cd_d <;> intro h)|(apply jy;(iterate 3 exact rfl))|apply qw|apply q6|(apply qq;exact Tryz.call163;exact qpa _ _ _ hl)|(apply qq;exact Tryz.call154;exact qid _ _ _)|(apply qq;exact Tryz.call165;exact q3z _ _))
 all_goals refine qn rfl (zh rfl) ⟨congrArg Bv (?_:_=_),_,rfl⟩
 all_goals simp [yr, *]
 all_goals omega
theorem qlx (c:UInt8) (st:List AObj):qo E 133 [Uv c] st fun r st'=>r=Bv (decide (vv c))∧st'=st:=by
 refine ze (q8 _) (qr Tryz.func133 rfl (Nat.le_of_ble_eq_true rfl) ?_);repeat' (first|apply qm|apply qg|apply qh|apply ql|apply qi|(apply qt;(iterate 3 exact rfl))|(apply zm;(iterate 4 exact rfl))|(apply qbj;exact cAo)|(apply qa7;exact cAo)|(apply yp <;> intro h)|(apply qx;exact rfl;apply qdj;exact cAo)|(apply qx;exact rfl;apply qd4;exact cAo)|apply q6)
 all_goals refine qn rfl (zh rfl) ⟨congrArg Bv (?_:_=_),_,rfl⟩
 all_goals simp_all [vv,q7i,u8_9]
theorem q08 (l:List UInt8) (st:List AObj) (hl:l.length<4294967281):qo E 159 [Sv l] st fun r st'=>r=Bv (decide (yr l))∧st'=st:=by
 refine ze (q8 _) (qr Tryz.func159 rfl (Nat.le_of_ble_eq_true rfl) ?_);repeat' (first|apply qm|apply qu|apply qg|apply qh|apply ql|apply qi|(apply qt;(iterate 3 exact rfl))|(apply zm;(iterate 4 exact rfl))|(apply qbj;exact cAo)|(apply qa7;exact cAo)|(apply qnb;exact cRa)|(apply yp <;> intro h)|(apply qx;exact rfl;apply qdj;exact cAo)|(apply qx;exact rfl;apply qd4;exact cAo)|(apply qx;exact rfl;apply pk_t;exact cRa)|(apply qe;exact rfl;apply cd_t;exact cRa)|(apply qe;exact rfl;apply cd_d <;> intro h)|(apply jy;(iterate 3 exact rfl))|(apply xn;(iterate 3 exact rfl);exact cAs)|apply qw|apply q6|(apply qq;exact Tryz.call133;exact qlx _ _))
 rotate_left 4
 ·refine ju (fun (k:Nat) s=>k≤l.length∧58∉l.take k∧10∉l.take k∧StA [(0,Sv l),(3,Iv k)] (st++[]) [] s) (fun k=>l.length - k) 0 ⟨by omega,by simp,by simp,jd ⟨rfl,rfl,trivial⟩⟩ ?_
  rintro k _ ⟨hk,h1,h2,t,rfl⟩;repeat' (first|apply qm|apply qu|apply qg|apply qh|apply ql|apply qi|(apply qt;(iterate 3 exact rfl))|(apply zm;(iterate 4 exact rfl))|(apply qbj;exact cAo)|(apply qa7;exact cAo)|(apply yp <;> intro h)|(apply qx;exact rfl;apply qdj;exact cAo)|(apply qx;exact rfl;apply qd4;exact cAo)|(apply qe;exact rfl;apply cd_t;exact cRa)|(apply qe;exact rfl;apply cd_d <;> intro h)|(apply jy;(iterate 3 exact rfl))|(apply zn;exact rfl;exact rfl;exact zb (by omega) (by omega))|(apply xn;(iterate 3 exact rfl);exact cAs)|apply qw|apply jg|apply q6)
  rotate_left 2
  ·exact⟨k+1,⟨by omega,qdg (by omega) h1 (by simp_all [qtn]),qdg (by omega) h2 (by simp_all [qfi]),jd ⟨rfl,rfl,trivial⟩⟩,by omega⟩
  all_goals refine qn rfl (zh rfl) ⟨congrArg Bv (?_:_=_),_,rfl⟩
  ·have e:k=l.length:=by omega
   subst e;simp_all [qjc,qou];omega
  ·have:=qkq (l:=l) (k:=k) (by omega)
   simp_all [qjc,qtn]
  ·have:=qkq (l:=l) (k:=k) (by omega)
   simp_all [qjc,qfi]
 all_goals refine qn rfl (zh rfl) ⟨congrArg Bv (?_:_=_),_,rfl⟩
 all_goals simp_all [qjc,qou]
 all_goals omega
theorem q05 (l:List UInt8) (st:List AObj) (hl:l.length<4294967281):qo E 115 [Sv l] st fun r st'=>r = .tu [Sv (qd0 l).1,Sv (qd0 l).2.1,Bv (qd0 l).2.2]∧st'=st:=by
 refine ze (qnv _ _ _) (qr Tryz.func115 rfl (Nat.le_of_ble_eq_true rfl) ?_);repeat' (first|apply qm|apply qu|apply qg|apply qh|apply qi)
 refine ju (fun (k:Nat) s=>k≤l.length∧10∉l.take k∧StA [(0,Sv l),(2,Sv []),(3,Sv []),(4,Bv false),(5,Iv k)] (st++[]) [] s) (fun k=>l.length - k) 0 ⟨by omega,by simp,jd ⟨rfl,rfl,rfl,rfl,rfl,trivial⟩⟩ ?_;rintro k _ ⟨hk,h1,t,rfl⟩;repeat' (first|apply qm|apply qu|apply qg|apply qh|apply ql|apply qi|(apply qt;(iterate 3 exact rfl))|(apply qe;exact rfl;apply cd_d <;> intro h)|(apply jy;(iterate 3 exact rfl))|(apply zn;exact rfl;exact rfl;exact zb (by omega) (by omega))|(apply xn;(iterate 3 exact rfl);exact cAs)|apply qw|apply jg|apply q6)
 rotate_left 1
 ·exact⟨k+1,⟨by omega,qdg (by omega) h1 (by simp_all [qfi]),jd ⟨rfl,rfl,rfl,rfl,rfl,trivial⟩⟩,by omega⟩
 ·have e:k=l.length:=by omega
  subst e;rw [List.take_length] at h1;refine ju (fun (k:Nat) s=>k≤l.length∧58∉l.take k∧StA [(0,Sv l),(2,Sv []),(3,Sv []),(4,Bv false),(6,Iv k)] (st++[]) [] s) (fun k=>l.length - k) 0 ⟨by omega,by simp,jd ⟨rfl,rfl,rfl,rfl,rfl,trivial⟩⟩ ?_;rintro k _ ⟨hk,h2,t,rfl⟩;repeat' (first|apply qm|apply qu|apply qg|apply qh|apply ql|apply qi|(apply qt;(iterate 3 exact rfl))|(apply kp;exact rfl)|(apply qe;exact rfl;apply cd_n <;> intro h)|(apply qe;exact rfl;apply cd_d <;> intro h)|(apply jy;(iterate 3 exact rfl))|(apply zn;exact rfl;exact rfl;exact zb (by omega) (by omega))|(apply xn;(iterate 3 exact rfl);exact cAs)|(apply qiu;(iterate 3 exact rfl);exact cAs)|(apply qh4;exact rfl;kernel_rfl)|apply qgg|apply qej|apply qmu|(apply qyp;exact rfl;exact rfl;exact zb (by omega) (by omega))|(apply q3y;(iterate 3 exact rfl);exact cAs)|(apply q3u;(iterate 3 exact rfl);exact cAs)|apply qw|apply jg|apply q6|(apply qq;exact Tryz.call159;exact q08 _ _ (by simp;omega)))
  rotate_left 2
  ·exact⟨k+1,⟨by omega,qdg (by omega) h2 (by simp_all [qtn]),jd ⟨rfl,rfl,rfl,rfl,rfl,trivial⟩⟩,by omega⟩
  all_goals refine qn rfl (qg8 rfl) ⟨q1y (?_:_=_),_,rfl⟩
  ·have e:k=l.length:=by omega
   subst e;rw [List.take_length] at h2;simp [qd0,h2]
  ·obtain⟨e1,e2⟩:=qsi h2 (by omega) (by simp_all [qtn])
   simp_all [qd0]
  ·obtain⟨e1,e2⟩:=qsi h2 (by omega) (by simp_all [qtn])
   have m0:k<l.length:=by omega
   have cx:(l.take k).length=k:=by simp;omega
   have hkey:yr (l.take k):=by simp_all
   simp only [qd0,kg,e1,e2,h1,hkey,cx];simp
 ·refine qn rfl (qg8 rfl) ⟨q1y (?_:_=_),_,rfl⟩
  have:=qkq (l:=l) (k:=k) (by omega);simp_all [qd0,qfi]
theorem qnx (l:List UInt8) (st:List AObj) (hl:l.length<4294967281):qo E 92 [Sv l] st fun r st'=>r=Iv (qs l)∧st'=st:=by
 refine ze (q8 _) (qr Tryz.func92 rfl (Nat.le_of_ble_eq_true rfl) ?_);repeat' (first|apply qm|apply qu|apply qg|apply qh|apply qi)
 refine ju (fun (k:Nat) s=>k≤l.length∧10∉l.take k∧∃ b,(b=true↔∀ c∈l.take k,vv c)∧StA [(0,Sv l),(3,Bv b),(4,Iv k)] (st++[]) [] s) (fun k=>l.length - k) 0 ⟨by omega,by simp,true,by simp,jd ⟨rfl,rfl,rfl,trivial⟩⟩ ?_;rintro k _ ⟨hk,h1,b,hb,t,rfl⟩;repeat' (first|apply qm|apply qu|apply qg|apply qh|apply ql|apply qi|(apply qt;(iterate 3 exact rfl))|(apply zm;(iterate 4 exact rfl))|(apply qeb;exact cRa)|(apply qer;exact cRa)|(apply qqa <;> intro h)|(apply qx;exact rfl;apply pk_t;exact cRa)|(apply qx;exact rfl;apply pk_f;exact cRa)|(apply qe;exact rfl;apply cd_d <;> intro h)|(apply qe;exact rfl;apply cd_s <;> intro h)|(apply jy;(iterate 3 exact rfl))|(apply zn;exact rfl;exact rfl;exact zb (by omega) (by omega))|(apply xn;(iterate 3 exact rfl);exact cAs)|apply qw|apply jg|apply q6|(apply qq;exact Tryz.call133;exact qlx _ _))
 ·refine qn rfl (zh rfl) ⟨congrArg Iv (?_:_=_),_,rfl⟩
  have:=qkq (l:=l) (k:=k) (by omega);simp_all [qs,qfi]
 ·exact⟨k+1,⟨by omega,qdg (by omega) h1 (by simp_all [qfi]),_,by rw [qx9 (by omega),decide_eq_true_iff,← hb];simp [*],jd ⟨rfl,rfl,rfl,trivial⟩⟩,by omega⟩
 ·exact⟨k+1,⟨by omega,qdg (by omega) h1 (by simp_all [qfi]),_,by rw [qx9 (by omega),← hb];simp [*],jd ⟨rfl,rfl,rfl,trivial⟩⟩,by omega⟩
 ·refine qn rfl (zh rfl) ⟨congrArg Iv (?_:_=_),_,rfl⟩
  have e:k=l.length:=by omega
  subst e;simp_all [qs]
 ·have e:k=l.length:=by omega
  subst e;rw [List.take_length] at h1 hb;obtain⟨h0,hk⟩:=qpk h1 (fun h=>by simp_all);repeat' (first|apply qm|apply qg|apply qh|apply ql|apply qi|(apply zz;exact rfl;exact rfl)|(apply qt;(iterate 3 exact rfl))|(apply qe;exact rfl;apply cd_d <;> intro h)|(apply qe;exact rfl;apply cd_s <;> intro h)|(apply xn;(iterate 3 exact rfl);exact cAs)|apply qw|apply q6|(apply qq;exact Tryz.call133;exact qlx _ _)|(apply qq;exact Tryz.call115;exact q05 _ _ hl))
  all_goals refine qn rfl (zh rfl) ⟨congrArg Iv (?_:_=_),_,rfl⟩
  ·simp_all [qou]
  ·simp_all [qou]
  ·have hc:58∈l∧yr (zx l):=by
    apply Classical.byContradiction;intro hn;have:qd0 l=([],[],false):=by unfold qd0;rw [if_neg (fun h=>hn h.2)]
    simp_all
   simp_all [qou]
  ·have hc:¬ (58∈l∧yr (zx l)):=fun hn=>by
    have:qd0 l=(zx l,kg l,true):=by unfold qd0;rw [if_pos ⟨h1,hn⟩]
    simp_all
   simp_all [qou]
theorem qnf (l:List UInt8) (st:List AObj) (hl:l.length<4294967281):qo E 121 [Sv l] st fun r st'=>r=Iv (qs l)∧st'=st:=by
 refine ze (q8 _) (qr Tryz.func121 rfl (Nat.le_of_ble_eq_true rfl) ?_);repeat' (first|apply qm|apply qu|apply qg|apply qh|apply ql|apply qi|(apply zz;exact rfl;exact rfl)|(apply kr;(iterate 3 exact rfl))|(apply zm;(iterate 4 exact rfl))|(apply qeb;exact cRa)|(apply qer;exact cRa)|(apply qqa <;> intro h)|(apply qx;exact rfl;apply pk_t;exact cRa)|(apply qx;exact rfl;apply pk_f;exact cRa)|(apply qe;exact rfl;apply cd_f;exact cRa)|(apply qe;exact rfl;apply cd_d <;> intro h)|apply qw|apply q6|(apply qq;exact Tryz.call163;exact qpa _ _ _ hl)|(apply qq;exact Tryz.call164;exact za9 _ _ _ (by omega) (by simp) (by intro j b h;match j with | 0=>simp at h;subst h;decide | 1=>simp at h;subst h;decide|j+2=>simp at h))|(apply qq;exact Tryz.call154;exact qid _ _ _)|(apply qq;exact Tryz.call165;exact q3z _ _)|(apply qq;exact Tryz.call39;exact q55 _ _ _ hl)|(apply qq;exact Tryz.call166;exact zem _ _ (Nat.lt_of_le_of_lt (q56 _ _) hl)))
 all_goals refine qn rfl (zh rfl) ⟨congrArg Iv (?_:_=_),_,rfl⟩
 all_goals have hb:Lib.trimS l [32,9]=[]↔∀ c∈l,vv c:=by rw [qw2];simp [vv]
 all_goals by_cases hA:∀ c∈l,vv c <;> by_cases hC:58∈l <;> by_cases hK:yr (zx l) <;> simp_all [qs,qvj]
end Go.Proofs.YtapblfabkbdgcaaGreatDoor
namespace Go.Proofs
open Go.Shelf Go.RowKit
variable {P : Program} {ρ : Ren}
set_option maxHeartbeats 4000000 in
theorem qro (L:Lays.n169 P ρ) (X:Builder.Extra P ρ) (b n c:Nat) (ad:Option Addr) (q:Value) (str:ByteArray) (w w2:World) (c1:w.drew.cell? ⟨b,1,none⟩=some (.slice ad n c))
  (hSD:(Builtin.unsafeSliceData_ #[(ρ.t 37)] (ρ.t 127) #[.slice ad n c]).run P w.drew = .ok q w.drew)
  (hUS:(Builtin.unsafeString_ #[(ρ.t 127),(ρ.t 3)] (ρ.t 9) #[q,.int .i64 n]).run P w.drew = .ok (.string str) w2) :
  Calls P (ρ.f 169) #[.pointer (some ⟨b,0,none⟩)] w fun e w'=>e = .returned (.string str)∧w'=w2:=by
 have mixed:=L.mixed;have t72:=L.t72;have a72:=L.a72;have z72:=L.z72;have v72:=L.v72;have u72:=run_underlying L.t72;have t70:=L.t70;have a70:=L.a70;have z70:=L.z70;have v70:=L.v70;have u70:=run_underlying L.t70;have t37:=L.t37;have a37:=L.a37;have z37:=L.z37;have v37:=L.v37;have u37:=run_underlying L.t37;have t127:=L.t127;have a127:=L.a127;have z127:=L.z127;have v127:=L.v127;have u127:=run_underlying L.t127;have t3:=L.t3;have a3:=L.a3;have z3:=L.z3;have v3:=L.v3;have u3:=run_underlying L.t3;have t9:=L.t9;have a9:=L.a9;have z9:=L.z9;have v9:=L.v9;have u9:=run_underlying L.t9;have t5:=X.t5;have a5:=X.a5;have z5:=X.z5;have v5:=X.v5;have u5:=run_underlying X.t5
 go_enter L.f169,Body.n169_ntmps ρ
 go_wp2
 go_region_o
 all_goals (go_wp2;go_ret;exact⟨rfl,rfl⟩)
end Go.Proofs
namespace Go.Proofs.YtapblfabkbdgcaaGreatDoor
open Go Go.Av Go.RowKit Go.Proofs
@[reducible] def bldO (ver : Nat) (q : AV) (l : List UInt8) (tp : Nat) : AObj := .cells ver 130 [q, .sl 1 (l.map Uv) (some tp)]
theorem qz9 (v:Value) (w:World):(callFunc 140 #[v]).run E.P w = .ok (.value v) w:=by
 have h:=run_callFunc_extern (P:=E.P) Tryz.func140 (by kernel_rfl) (by kernel_rfl) (by kernel_rfl) (e:=Extern.AbiNoEscape.same) (by kernel_rfl) #[v] w;rw [h,Lib.run_noEscape];rfl
theorem q30 (o ver:Nat) (q buf:AV) (st:List AObj) (ho:st[o]? = some (.cells ver 130 [q,buf])) (hq:q = .v (.pointer none)∨q = .bx o ver 0) :
  qo E 100 [.bx o ver 0] st fun r st'=>r = .tu []∧st'=st.set o (.cells ver 130 [.bx o ver 0,buf]):=by
 have d7:(st++[])[o]? = some (.cells ver 130 [q,buf]):=by rw [List.append_nil];exact ho
 refine qr Tryz.func100 rfl (Nat.le_of_ble_eq_true rfl) ?_;rcases hq with rfl|rfl
 ·skip
  repeat' (first|apply qm|apply qg|apply qh|apply ql|(apply qe;exact rfl;apply cd_t;exact cRa)|(apply zg;(iterate 3 exact rfl))|(apply wy;exact rfl;exact rfl)|(apply qas;(iterate 3 exact rfl))|(apply kf;exact rfl;exact d7;exact rfl;exact rfl)|(apply x9;exact rfl;exact rfl;exact d7;(iterate 6 exact rfl))|(apply qw9;exact rfl;exact d7;(simp);exact rfl;exact rfl;kernel_rfl)|(apply qrd;exact rfl;exact d7;(iterate 3 exact rfl);kernel_rfl)|(apply qw7;exact qz9;exact rfl))
  refine qn rfl (yu rfl) ⟨rfl,?_⟩
  show (st++[]).set o _=_
  rw [List.append_nil];rfl
 ·skip
  repeat' (first|apply qm|apply qg|apply qh|apply ql|(apply qe;exact rfl;apply cd_f;exact cRa)|(apply zg;(iterate 3 exact rfl))|(apply wy;exact rfl;exact rfl)|(apply qas;(iterate 3 exact rfl))|apply qw|(apply kf;exact rfl;exact d7;exact rfl;exact rfl)|(apply qtu;exact rfl;exact rfl;exact d7;exact rfl;exact rfl))
  refine qn rfl (yu rfl) ⟨rfl,?_⟩
  show st++[]=_
  rw [List.append_nil,zdy ho]
theorem q36:w7 E.P 5 1 1:=⟨_,_,rfl,rfl,rfl,rfl,rfl⟩
theorem qyv (o ver tp:Nat) (q:AV) (l m:List UInt8) (st:List AObj) (ho:st[o]? = some (bldO ver q l tp)) (ht:st[tp]? = some (.tip l.length 1 5)) (hq:q = .v (.pointer none)∨q = .bx o ver 0) (c8:l.length+m.length≤140737488355328) :
  qo E 65 [.bx o ver 0,Sv m] st fun r st'=>r = .tu [Iv m.length,.v .nilIface]∧st'=(st.set o (bldO ver (.bx o ver 0) (l++m) tp)).set tp (.tip (l.length+m.length) 1 5):=by
 have b8:tp≠o:=fun e=>by rw [e,ho] at ht;simp at ht
 have d7:(st++[])[o]? = some (bldO ver q l tp):=by rw [List.append_nil];exact ho
 have ht':(st++[])[tp]? = some (.tip l.length 1 5):=by rw [List.append_nil];exact ht
 have h2:=ke (y:=.cells ver 130 [.bx o ver 0,.sl 1 (l.map Uv) (some tp)]) d7;have h3:=kq (y:=.cells ver 130 [.bx o ver 0,.sl 1 (l.map Uv) (some tp)]) ht' (Ne.symm b8);have h4:=kq (y:=.tip (l.length+m.length) 1 5) h2 b8;have h5:maxLen=140737488351232∨True:=.inr trivial;refine qr Tryz.func65 rfl (Nat.le_of_ble_eq_true rfl) ?_;repeat' (first|apply qm|apply qg|apply qh|apply ql|apply qi|(apply jy;(iterate 3 exact rfl))|(apply zg;(iterate 3 exact rfl))|(apply wy;exact rfl;exact rfl)|apply q6|(apply qq;exact Tryz.call100;exact q30 o ver q _ (st++[]) d7 hq)|(apply kf;exact rfl;exact h2;exact rfl;exact rfl)|(apply qyc;exact rfl;exact rfl;exact h3;(simp);exact rfl;exact rfl;exact q36;(simp only [maxLen];omega);omega)|(apply x9;exact rfl;exact rfl;exact h4;(iterate 6 exact rfl)))
 refine qn rfl (vm rfl) ⟨rfl,?_⟩
 show (((st++[]).set o _).set tp _).set o (.cells ver 130 [.bx o ver 0,.sl 1 (l.map Uv++m.map Uv) (some tp)])=_
 rw [List.append_nil,List.set_comm _ _ b8,List.set_set,← List.map_append]
theorem ze2 (o ver tp:Nat) (q:AV) (l:List UInt8) (c:UInt8) (st:List AObj) (ho:st[o]? = some (bldO ver q l tp)) (ht:st[tp]? = some (.tip l.length 1 5)) (hq:q = .v (.pointer none)∨q = .bx o ver 0) (c8:l.length+1≤140737488355328) :
  qo E 61 [.bx o ver 0,Uv c] st fun r st'=>r = .v .nilIface∧st'=(st.set o (bldO ver (.bx o ver 0) (l++[c]) tp)).set tp (.tip (l.length+1) 1 5):=by
 have b8:tp≠o:=fun e=>by rw [e,ho] at ht;simp at ht
 have d7:(st++[])[o]? = some (bldO ver q l tp):=by rw [List.append_nil];exact ho
 have ht':(st++[])[tp]? = some (.tip l.length 1 5):=by rw [List.append_nil];exact ht
 have h2:=ke (y:=.cells ver 130 [.bx o ver 0,.sl 1 (l.map Uv) (some tp)]) d7;have h3:=kq (y:=.cells ver 130 [.bx o ver 0,.sl 1 (l.map Uv) (some tp)]) ht' (Ne.symm b8);have h4:=kq (y:=.tip (l.length+1) 1 5) h2 b8;refine qr Tryz.func61 rfl (Nat.le_of_ble_eq_true rfl) ?_;repeat' (first|apply qm|apply qg|apply qh|apply ql|apply qi|(apply zg;(iterate 3 exact rfl))|(apply xc;(iterate 9 exact rfl))|(apply wy;exact rfl;exact rfl)|apply q6|(apply qq;exact Tryz.call100;exact q30 o ver q _ (st++[]) d7 hq)|(apply kf;exact rfl;exact h2;exact rfl;exact rfl)|(apply qo0 (m:=1);exact rfl;exact rfl;exact h3;(simp);exact rfl;exact rfl;exact q36;exact rfl;exact rfl;(simp only [maxLen];omega);omega)|(apply x9;exact rfl;exact rfl;exact h4;(iterate 6 exact rfl)))
 refine qn rfl (zh rfl) ⟨rfl,?_⟩
 show (((st++[]).set o _).set tp _).set o (.cells ver 130 [.bx o ver 0,.sl 1 (l.map Uv++[c].map Uv) (some tp)])=_
 rw [List.append_nil,List.set_comm _ _ b8,List.set_set,← List.map_append]
theorem qu9 (o ver tp:Nat) (q:AV) (l:List UInt8) (st:List AObj) (ho:st[o]? = some (bldO ver q l tp)) (ht:st[tp]? = some (.tip l.length 1 5)) :
  qo E 62 [.bx o ver 0] st fun r st'=>r=Sv l∧st'=st.set tp .dead:=by
 refine⟨fun B0 w0 G vals w hL hA hR=>?_⟩;obtain⟨h0,h1,h2,h3,c,h4,h5,h6⟩:=hA.ob o _ ho;obtain⟨g0,g1,g2⟩:=hA.ob tp _ ht;have b8:tp≠o:=fun e=>by rw [e,ho] at ht;simp at ht
 have hvals:vals = #[.pointer (some ⟨(G.ob o).blk,0,none⟩)]:=by
  have hs:vals.size=1:=by have:=hR.1;simpa using this.symm
  have h:=hR.2 0 (.bx o ver 0) vals[0] rfl (by simp [hs]);apply Array.ext
  ·simp [hs]
  ·intro i sr bv
   have:i=0:=by simp at bv;omega
   subst this
   have e:vals[0] = .pointer (some ⟨(G.ob o).blk,0,none⟩):=by
    generalize vals[0]=v at h
    cases h with
    |bx _ _ _ b hn e1 e2=>rw [e2 h1]
   simpa using e
 subst hvals;have nc:c.size=2:=by rw [← h5];rfl
 have f0:=h6 1 (.sl 1 (l.map Uv) (some tp)) c[1] rfl (by simp [nc])
 have p9:w.drew.cell? ⟨(G.ob o).blk,1,none⟩=some c[1]:=by
  have h4':w.drew.heap[(G.ob o).blk]? = some (.cells c 130 (0,0)):=h4;simp [World.cell?,h4',nc]
 generalize hv:c[1]=v at f0 p9;have m6:Below w.heap.size w w.drew:=⟨rfl,rfl,rfl,Nat.le_refl _,fun _ _=>rfl⟩;have bq:=(hA.kill tp).fresh m6;have hl:(l.map Uv).length=l.length:=by simp
 generalize gn:l.map Uv=xs at f0
 cases f0 with
 |sl0 _ _ base cap hto=>
  obtain⟨_,rfl,rfl⟩:=hto tp rfl;have hl0:l=[]:=by simpa using gn
  subst hl0;refine (qro Tryz.lays169 Tryz.Builder_Extra_169 (G.ob o).blk 0 0 none (.pointer none) .empty w w.drew p9 rfl (Lib.run_unsafeString_none w.drew _ _ _ none)).mono ?_;rintro e w' ⟨rfl,rfl⟩
  exact⟨_,G,Sv [],_,rfl,.refl G,bq,.v _,rfl,rfl⟩
 |sl _ _ _ b off cap pub hp hw c8 hr hto ng=>
  subst gn;rw [hl] at hto p9;obtain⟨_,fj,_,hcur⟩:=hto tp rfl;obtain⟨hb,rfl,np,gd,cg⟩:=hcur g1;obtain⟨hB,c2,vs,e1,e2,e3,e4⟩:=g2 fj;rw [hb] at e1 e2 hB
  have hcells:∀ j x,l[j]? = some x→w.drew.cell? ((⟨b,0,none⟩:Addr).add j)=some (.int .u8 x.toNat):=fun j x hx=>by
   obtain⟨c3,T3,fz3,k1,k2⟩:=hA.pub b pub hp;have k1':w.drew.heap[b]? = some (.cells c3 T3 fz3):=k1;have hj:j<(flat (l.map Uv)).length:=by rw [qhc];simpa using lt_of_getElem? hx
   have hy:pub[0+j]? = some (pub[0+j]'(by omega)):=List.getElem?_eq_getElem (by omega);have hrj:=hr j (Uv x) _ (by rw [qhc];simp [hx]) hy
   have:pub[0+j]'(by omega) = .int .u8 x.toNat:=by
    generalize pub[0+j]'(by omega)=y at hrj
    cases hrj;rfl
   rw [this] at hy;rw [Addr.add_lit];simp only [World.cell?,k1']
   simpa using k2 _ _ hy
  have d5:l.length≤c2.size:=by rw [e4,← np];omega
  have e1':w.drew.heap[b]? = some (.cells c2 5 (0,0)):=e1;have hUS:=Lib.run_unsafeString_row (P:=E.P) w.drew 181 3 9 5 rfl (by kernel_rfl) b c2.size (by simp [World.shape?,e1']) l (by rintro rfl;exact fj rfl) d5 (by simp only [maxLen] at gd;omega) hcells;have hSD:(Builtin.unsafeSliceData_ #[128] 181 #[.slice (some ⟨b,0,none⟩) l.length cap]).run E.P w.drew = .ok (.pointer (some ⟨b,0,none⟩)) w.drew:=Lib.run_unsafeSliceData_row _ _ _ _ _ _ (by omega);refine (qro Tryz.lays169 Tryz.Builder_Extra_169 (G.ob o).blk l.length cap (some ⟨b,0,none⟩) _ _ w _ p9 hSD hUS).mono ?_;rintro e w' ⟨rfl,rfl⟩
  have hfz:∃ fz',(w.drew.freeze ⟨b,0,none⟩ l.length).heap[b]? = some (.cells c2 5 fz'):=by
   unfold World.freeze;rw [if_neg fj];simp [Array.getElem?_modify,e1']
  obtain⟨fz',hfz⟩:=hfz
  have g9:∀ k,k≠b→(w.drew.freeze ⟨b,0,none⟩ l.length).heap[k]? = w.drew.heap[k]?:=fun k hk=>by
   unfold World.freeze;rw [if_neg fj];simp [Array.getElem?_modify,Ne.symm hk]
  refine⟨_,G,Sv l,_,rfl,.refl G,bq.refroze e1' hfz g9 hB (by unfold World.freeze;rw [if_neg fj];simp) (by unfold World.freeze;rw [if_neg fj]) (by unfold World.freeze;rw [if_neg fj]) (by unfold World.freeze;rw [if_neg fj]) (fun k x hx hlv=>?_),.v _,rfl,rfl⟩;rcases getElem?_set' _ _ _ _ _ hx with⟨_,e⟩ | ⟨k1,k2⟩
  ·subst e;exact hlv.elim
  ·have:=hA.sep k tp x _ k1 k2 ht hlv fj
   rwa [hb] at this
theorem q8b (st loc loc':List AObj) (k kt ver:Nat) (q:AV) (l:List UInt8) (c:UInt8) (hk:loc[k]? = some (bldO ver q l (st.length+kt))) (gj:loc[kt]? = some (.tip l.length 1 5)) (hq:q = .v (.pointer none)∨q = .bx (st.length+k) ver 0)
  (c8:l.length+1≤140737488355328) (hl:loc'=(loc.set k (bldO ver (.bx (st.length+k) ver 0) (l++[c]) (st.length+kt))).set kt (.tip (l++[c]).length 1 5)) :
  qo E 61 [.bx (st.length+k) ver 0,Uv c] (st++loc) fun r st'=>r = .v .nilIface∧st'=st++loc':=by
 refine (ze2 (st.length+k) ver (st.length+kt) q l c (st++loc) (jl hk) (jl gj) hq c8).mono fun r st' ⟨h1,h2⟩=>⟨h1,?_⟩;rw [h2,xw,xw,hl,List.length_append];rfl
end Go.Proofs.YtapblfabkbdgcaaGreatDoor
namespace Go.Proofs.YtapblfabkbdgcaaGreatDoor
open Go Go.Av Go.RowKit Go.Proofs Go.Pl
theorem qko (l:List UInt8) (c:UInt8) (st:List AObj) (hl:l.length<4294967281):qo E 39 [Sv l,Sv [c]] st fun r st'=>r = .tu [Sv (upto c l),Sv (past c l),Bv (decide (c∈l))]∧st'=st:=by
 have:=q55 l [c] st hl;rw [zfd] at this;exact this
@[reducible] def qde (k : Nat) (text rest : List UInt8) : AV := .ag [Iv k, Iv ((text.length : Int) - rest.length), Sv (upto 10 rest), Bv (decide (10 ∈ rest))]
theorem zd1 (text:List UInt8) (o kb ver n:Nat) (I:Nat→List UInt8→List AObj→Prop) (D:List AObj→Prop) (st:List AObj) (ht:text.length<4294967281) (h0:I 0 text st)
  (hI:∀ k rest st',I k rest st'→st'.length=n∧st'[kb]? = some (.cells ver 9 [Sv text]))
  (hY:∀ k rest st' own,I k rest st'→rest≠[]→rest.length≤text.length→ye E o [qde k text rest] (st'++[own]) fun b st2=>∃ st3,st2=st3++[own]∧(b=true→I (k+1) (past 10 rest) st3)∧(b=false→D st3)) :
  qo E 120 [.yd o,.bx kb ver 0] st fun r st'=>∃ st3 ext',st'=st3++ext'∧((∃ k,I k [] st3)∨D st3):=by
 refine qr Tryz.func120 rfl (Nat.le_of_ble_eq_true rfl) ?_;obtain⟨hn,hb⟩:=hI 0 text st h0;subst hn;repeat' (first|apply qm|apply qu|apply qg|apply qh|apply qi|(apply jp;exact rfl;exact rfl)|(apply z4;(iterate 11 exact rfl))|(apply xk;(iterate 3 exact rfl))|(apply qar;exact rfl;exact rfl;exact hb;exact rfl;exact rfl))
 refine ju (fun (x:Nat×List UInt8) s=>match x with|(k,rest)=>∃ stk at' ta eb,I k rest stk∧k+rest.length≤text.length∧at'=(text.length:Int) - rest.length∧StA [(0,.yd o),(1,.bx kb ver 0),(3,.bx (st.length+0) 0 0),(4,Sv rest)] (stk++(.cells 0 164 [Iv k,Iv at',Sv ta,Bv eb]::[])) [] s) (fun x=>x.2.length) (0,text)
  ⟨st,0,[],false,h0,by simp,by simp,?_⟩ ?_
 ·exact jd ⟨rfl,rfl,rfl,rfl,trivial⟩
 rintro⟨k,rest⟩ _ ⟨stk,_,ta,eb,hi,d5,rfl,t,rfl⟩;obtain⟨hn,mb⟩:=hI k rest stk hi;repeat' (first|apply qm|apply qu|apply qg|apply qh|apply ql|apply qi|(apply zz;exact rfl;exact rfl)|(apply kr;(iterate 3 exact rfl))|(apply qe;exact rfl;apply cd_d <;> intro h)|(apply zg;(iterate 3 exact rfl))|apply qw|apply jg|(apply qq;exact Tryz.call39;exact qko _ _ _ (by omega))|(apply qay;exact rfl;assumption;(iterate 10 exact rfl))|(apply qbr;exact rfl;assumption;(iterate 4 exact rfl)))
 ·refine qc9 rfl ((hY k rest stk _ hi h (by omega)).mono ?_)
  rintro b _ ⟨st3,rfl,h1,h2⟩
  cases b
  ·skip
   repeat' (first|apply qh|(apply kp;exact rfl)|(apply qe;exact rfl;apply qoa;exact cRa)|apply q6)
   refine qn rfl (yu rfl) ⟨st3,_,rfl,.inr (h2 rfl)⟩
  ·have hi3:=h1 rfl
   obtain⟨hn3,cq⟩:=hI _ _ _ hi3;have hp:=vo 10 rest;have dg:0<rest.length:=List.length_pos_iff.2 h;repeat' (first|apply qm|apply qg|apply qh|apply ql|(apply kp;exact rfl)|(apply qe;exact rfl;apply qrp;exact cRa)|(apply jy;(iterate 3 exact rfl))|(apply zn;exact rfl;exact rfl;exact zb (by omega) (by omega))|(apply yj;exact rfl;exact rfl;exact zb (by omega) (by omega))|(apply zg;(iterate 3 exact rfl))|apply qw|(apply qar;exact rfl;exact rfl;exact cq;exact rfl;exact rfl)|(apply qay;exact rfl;assumption;(iterate 10 exact rfl))|(apply qbr;exact rfl;assumption;(iterate 4 exact rfl)))
   exact⟨(k+1,past 10 rest),⟨st3,_,_,_,hi3,by omega,rfl,jd ⟨rfl,rfl,rfl,rfl,trivial⟩⟩,by simp only;omega⟩
 ·have hr:rest=[]:=Classical.not_not.1 h
  subst hr;exact qn rfl (yu rfl) ⟨stk,_,rfl,.inl ⟨k,hi⟩⟩
theorem quq (text:List UInt8) (st st':List AObj) (n:Nat) (hn:st.length=n) (d8:st++[.cells 0 9 [Sv text]]=st'):qo E 82 [Sv text] st fun r st1=>r = .fn (.func 120) [] [.bx n 0 0]∧st1=st':=by
 subst hn;subst d8;refine qr Tryz.func82 rfl (Nat.le_of_ble_eq_true rfl) ?_;repeat' (first|apply qm|apply qg|apply qh|apply qi|apply qgy|(apply qbe;(iterate 4 exact rfl))|apply q6)
 exact qn rfl (zh rfl) ⟨rfl,rfl⟩
theorem q5q (st loc loc':List AObj) (k kt ver:Nat) (q:AV) (l m:List UInt8) (hk:loc[k]? = some (bldO ver q l (st.length+kt))) (gj:loc[kt]? = some (.tip l.length 1 5)) (hq:q = .v (.pointer none)∨q = .bx (st.length+k) ver 0)
  (c8:l.length+m.length≤140737488355328) (hl:loc'=(loc.set k (bldO ver (.bx (st.length+k) ver 0) (l++m) (st.length+kt))).set kt (.tip (l++m).length 1 5)) :
  qo E 65 [.bx (st.length+k) ver 0,Sv m] (st++loc) fun r st'=>r = .tu [Iv m.length,.v .nilIface]∧st'=st++loc':=by
 refine (qyv (st.length+k) ver (st.length+kt) q l m (st++loc) (jl hk) (jl gj) hq c8).mono fun r st' ⟨h1,h2⟩=>⟨h1,?_⟩;rw [h2,xw,xw,hl,List.length_append]
theorem qo7 (st loc loc':List AObj) (k kt ver:Nat) (q:AV) (l:List UInt8) (hk:loc[k]? = some (bldO ver q l (st.length+kt))) (gj:loc[kt]? = some (.tip l.length 1 5)) (hl:loc'=loc.set kt .dead) :
  qo E 62 [.bx (st.length+k) ver 0] (st++loc) fun r st'=>r=Sv l∧st'=st++loc':=by
 refine (qu9 (st.length+k) ver (st.length+kt) q l (st++loc) (jl hk) (jl gj)).mono fun r st' ⟨h1,h2⟩=>⟨h1,?_⟩;rw [h2,xw,hl]
@[reducible] def dedL (st : List AObj) (by' text : List UInt8) (q : AV) (acc : List UInt8) (lp : AObj) : List AObj :=
 [.cells 0 9 [Sv by'],.cells 0 9 [Sv []],.cells 0 4 [Bv false],bldO 0 q acc (st.length+5),.cells 0 9 [Sv text],.tip acc.length 1 5,.dfr,lp]
theorem zb2 (text by':List UInt8) (st:List AObj) (hl:text.length<4294967281):qo E 157 [Sv text,Sv by'] st fun r st'=>r = .tu [Sv (vn by' text).1,Bv (vn by' text).2]∧st'=st:=by
 refine ze (qwo _ _) (qr Tryz.func157 rfl (Nat.le_of_ble_eq_true rfl) ?_);repeat' (first|apply qm|apply qg|apply qh|apply ql|(apply jp;exact rfl;exact rfl)|(apply qbe;(iterate 4 exact rfl)))
 refine qq Tryz.call82 (quq text _ (st++[.cells 0 9 [Sv by'],.cells 0 9 [Sv []],.cells 0 4 [Bv false],.cells 0 130 [.v (.pointer none),zy],.cells 0 9 [Sv text]]) (st.length+4) ?_ ?_) ?_
 ·show (st++[_,_,_,_]).length=_
  simp
 ·show (st++[_,_,_,_])++[_]=_
  rw [List.append_assoc];rfl
 repeat' (first|apply qu|apply qh)
 refine qo6 (o:=st.length+3) (j:=1) (sz:=1) (T':=5) (jl rfl) rfl ?_
 refine qek [(3,.bx (st.length+0) 0 0),(4,.bx (st.length+1) 0 0),(5,.bx (st.length+2) 0 0),(6,.bx (st.length+3) 0 0),(11,.fn (.func 120) [] [.bx (st.length+4) 0 0])]
  (st++[.cells 0 9 [Sv by'],.cells 0 9 [Sv []],.cells 0 4 [Bv false],bldO 0 (.v (.pointer none)) [] (st.length+5),.cells 0 9 [Sv text],.tip 0 1 5]) [] ⟨rfl,rfl,rfl,rfl,rfl,trivial⟩ ?_ rfl (fun t=>?_)
 ·show (st++[_,_,_,_,_]).set (st.length+3) (.cells 0 130 [_,.sl 1 [] (some (st++[_,_,_,_,_]).length)])++[_]=_
  rw [xw,List.append_assoc];simp
 refine qk5 (st:=st) (loc:=[.cells 0 9 [Sv by'],.cells 0 9 [Sv []],.cells 0 4 [Bv false],bldO 0 (.v (.pointer none)) [] (st.length+5),.cells 0 9 [Sv text],.tip 0 1 5]) rfl rfl Tryz.call120 fun F hF=>?_
 refine qo.mono (zd1 text (st.length+7) (st.length+4) 0 (st.length+8)
  (fun _ rest st'=>∃ q acc don,(q = .v (.pointer none)∨q = .bx (st.length+3) 0 0)∧zj text=don++zj rest∧(∀ x∈don,by' <+: x.1)∧acc=don.flatMap (fun x=>x.1.drop by'.length++wt x.2)∧acc.length+rest.length≤text.length∧st'=st++dedL st by' text q acc (F .ready none))
  (fun st'=>(¬ ∀ x∈zj text,by' <+: x.1)∧∃ q acc,st'=st++dedL st by' text q acc (F .done (some .ret)))
  (st++dedL st by' text (.v (.pointer none)) [] (F .ready none)) hl ⟨_,[],[],.inl rfl,rfl,by simp,rfl,by simp,rfl⟩ ?_ ?_) ?_
 ·rintro k rest _ ⟨q,acc,don,hq,h1,h2,h3,h4,rfl⟩
  exact⟨by simp,jl rfl⟩
 ·rintro k rest _ own ⟨q,acc,don,hq,h1,h2,h3,h4,rfl⟩ b8 d5
  refine q2e ?_;rw [List.append_assoc];refine qp0 hF (jl rfl) rfl fun l=>?_;repeat' (first|apply qg|apply qh|(apply jp;exact rfl;exact rfl)|(apply z4;(iterate 11 exact rfl)))
  refine⟨jl rfl,rfl,?_⟩
  refine qek [(3,.bx (st.length+0) 0 0),(4,.bx (st.length+1) 0 0),(5,.bx (st.length+2) 0 0),(6,.bx (st.length+3) 0 0),(7,.bx (st.length+9) 0 0)]
   (st++(dedL st by' text q acc (F .busy none)++[own,.cells 0 164 (qde k text rest).cells])) [] ⟨rfl,rfl,rfl,rfl,rfl,trivial⟩ ?_ rfl (fun t=>?_)
  ·show (st++(dedL st by' text q acc (F .ready none)++[own,_])).set (st.length+7) _=_
   rw [xw];rfl
  have o6:=qml (upto 10 rest) by';have r8:=vk 10 rest;have mj:(upto 10 rest,decide (10∈rest))∈zj text:=by rw [h1,vw b8];simp
  have dp:=vw b8;have t6:=vo 10 rest;have d6:10∈rest→(upto 10 rest).length<rest.length:=qdq;repeat' (first|apply qm|apply qu|apply qg|apply qh|apply ql|apply qi|(apply zz;exact rfl;exact rfl)|(apply kp;exact rfl)|(apply qe;exact rfl;apply cd_n <;> intro h)|(apply qe;exact rfl;apply cd_d <;> intro h)|(apply zg;(iterate 3 exact rfl))|(apply jf;(iterate 5 exact rfl))|(apply z4;(iterate 11 exact rfl))|apply qw|apply q6|(apply qq;exact Tryz.call155;exact qjx _ _ _)|(refine qq Tryz.call65 (q5q st _ _ 3 5 0 _ _ _ rfl rfl ?_ ?_ rfl) ?_;(first|exact hq|exact .inr rfl);(first|omega|(simp;omega))))
  ·have lx:¬ ∀ x∈zj text,by' <+: x.1:=fun m9=>by
    have:=(y6 _ _).2 (m9 _ mj);simp_all
   refine⟨jl rfl,st++(dedL st by' text q acc (F .done (some .ret))++[own]),[.cells 0 164 (qde k text rest).cells],?_,?_,st++dedL st by' text q acc (F .done (some .ret)),(List.append_assoc _ _ _).symm,nofun,fun _=>⟨lx,q,acc,rfl⟩⟩
   ·show (st++_).set (st.length+7) _=_
    rw [xw,List.append_assoc st];rfl
   ·exact qjb (.same _ (.same _ (.same _ (.same _ (.same _ (.same _ (.same _ (q6k hF (qhf _ _))))))))) st
  all_goals
   have bn:by' <+: upto 10 rest:=(y6 _ _).1 (by simp_all);have htp:=qd6 bn
  ·refine⟨jl rfl,st++(dedL st by' text (.bx (st.length+3) 0 0) (acc++Lib.trimPrefix (upto 10 rest) by'++[10]) (F .ready none)++[own]),[.cells 0 164 (qde k text rest).cells],?_,?_,
    st++dedL st by' text (.bx (st.length+3) 0 0) (acc++Lib.trimPrefix (upto 10 rest) by'++[10]) (F .ready none),(List.append_assoc _ _ _).symm,fun _=>⟨_,_,don++[(upto 10 rest,true)],.inr rfl,?_,?_,?_,?_,rfl⟩,nofun⟩
   ·show (st++_).set (st.length+7) _=_
    rw [xw,List.append_assoc st];rfl
   ·refine qjb (.same _ (.same _ (.same _ (.cut (qpc ?_) (.same _ (.cut qvh (.same _ (q6k hF (qhf _ _))))))))) st
    intro x hx;simp only [List.mem_cons,List.not_mem_nil,or_false] at hx;rcases hx with rfl|rfl
    ·exact q8s (by simp)
    ·exact qvi (by simp)
   ·rw [h1,dp];simp_all
   ·intro x hx
    rcases List.mem_append.1 hx with hx|hx
    ·exact h2 x hx
    ·simp at hx;subst hx;exact bn
   ·rw [h3,htp];simp [wt]
   ·have:=d6 (by assumption)
    simp;omega
  ·refine⟨jl rfl,st++(dedL st by' text (.bx (st.length+3) 0 0) (acc++Lib.trimPrefix (upto 10 rest) by') (F .ready none)++[own]),[.cells 0 164 (qde k text rest).cells],?_,?_,
    st++dedL st by' text (.bx (st.length+3) 0 0) (acc++Lib.trimPrefix (upto 10 rest) by') (F .ready none),(List.append_assoc _ _ _).symm,fun _=>⟨_,_,don++[(upto 10 rest,false)],.inr rfl,?_,?_,?_,?_,rfl⟩,nofun⟩
   ·show (st++_).set (st.length+7) _=_
    rw [xw,List.append_assoc st];rfl
   ·refine qjb (.same _ (.same _ (.same _ (.cut (qpc ?_) (.same _ (.cut qvh (.same _ (q6k hF (qhf _ _))))))))) st
    intro x hx;simp only [List.mem_cons,List.not_mem_nil,or_false] at hx;rcases hx with rfl|rfl
    ·exact q8s (by simp)
    ·exact qvi (by simp)
   ·rw [h1,dp];simp_all
   ·intro x hx
    rcases List.mem_append.1 hx with hx|hx
    ·exact h2 x hx
    ·simp at hx;subst hx;exact bn
   ·rw [h3,htp];simp [wt]
   ·simp
    omega
 ·rintro r st' ⟨st3,ext,rfl,⟨k,q,acc,don,hq,h1,h2,h3,h4,rfl⟩ | ⟨lx,q,acc,rfl⟩⟩
  ·refine⟨.ready,none,nofun,by rw [List.append_assoc];exact jl rfl,?_⟩
   refine qek [(4,.bx (st.length+1) 0 0),(5,.bx (st.length+2) 0 0),(6,.bx (st.length+3) 0 0)] (st++(dedL st by' text q acc .dead++ext)) [st.length+6] ⟨rfl,rfl,rfl,trivial⟩ ?_ rfl (fun t=>?_)
   ·show ((st++_)++ext).set (st.length+7) _=_
    rw [List.append_assoc,xw];rfl
   repeat' (first|apply qm|apply qg|apply qh|(apply z4;(iterate 11 exact rfl))|apply q6|(refine qq Tryz.call62 (qo7 st _ _ 3 5 0 _ _ rfl rfl rfl) ?_))
   refine qme rfl rfl rfl (qn rfl (qkg rfl rfl rfl rfl rfl rfl rfl rfl rfl rfl) ⟨zer (?_:_=_),_,rfl⟩);rw [kv,List.append_nil] at h1;unfold vn;rw [h1,if_pos h2,h3]
  ·refine⟨.done,some .ret,nofun,by rw [List.append_assoc];exact jl rfl,?_⟩
   refine qek [(4,.bx (st.length+1) 0 0),(5,.bx (st.length+2) 0 0),(6,.bx (st.length+3) 0 0)] (st++(dedL st by' text q acc .dead++ext)) [st.length+6] ⟨rfl,rfl,rfl,trivial⟩ ?_ rfl (fun t=>?_)
   ·show ((st++_)++ext).set (st.length+7) _=_
    rw [List.append_assoc,xw];rfl
   repeat' (first|apply q6)
   refine qme rfl rfl rfl (qn rfl (qkg rfl rfl rfl rfl rfl rfl rfl rfl rfl rfl) ⟨zer (?_:_=_),_,rfl⟩);unfold vn;rw [if_neg lx]
def qa3 (x:BitVec 32):BitVec 32:=if x &&& 2147483648#32≠0#32 then (x <<< 1) ^^^ 79764919#32 else x <<< 1
def wr:Nat→BitVec 32→BitVec 32
 | 0,x=>x
 |n+1,x=>qa3 (wr n x)
theorem zjv (x:BitVec 32) (st:List AObj):qo E 126 [Wv x] st fun r st'=>r=Wv (wr 4 (x <<< 28))∧st'=st:=by
 refine ze (q8 _) (qr Tryz.func126 rfl (Nat.le_of_ble_eq_true rfl) ?_);repeat' (first|apply qm|apply qu|apply qg|apply qh|apply ql|apply qi|(apply qe4;(iterate 3 exact rfl)))
 refine ju (fun (k:Nat) s=>k≤4∧StA [(3,Wv (wr k (x <<< 28))),(6,Iv k)] (st++[]) [] s) (fun k=>4 - k) 0 ⟨by omega,jd ⟨rfl,rfl,trivial⟩⟩ ?_;rintro k _ ⟨hk,t,rfl⟩;repeat' (first|apply qm|apply qu|apply qg|apply qh|apply ql|apply qi|(apply qt;(iterate 3 exact rfl))|(apply qe;exact rfl;apply cd_d <;> intro h)|(apply zn;exact rfl;exact rfl;exact zb (by omega) (by omega))|(apply qdb;exact rfl;exact rfl;(first|exact jv _|exact rfl);first|exact jv _|exact rfl)|(apply qk3;exact rfl;exact rfl;(first|exact jv _|exact rfl);first|exact jv _|exact rfl)|(apply qe4;(iterate 3 exact rfl))|apply qw|apply jg|apply q6)
 ·refine⟨k+1,⟨by omega,jd ⟨?_,rfl,trivial⟩⟩,by omega⟩
  refine congrArg Wv (?_:_=qa3 _);unfold qa3;rw [if_pos (fun e=>by rename_i h;exact h ((qtl _).2 e))];rfl
 ·refine⟨k+1,⟨by omega,jd ⟨?_,rfl,trivial⟩⟩,by omega⟩
  refine congrArg Wv (?_:_=qa3 _);unfold qa3;rw [if_neg (fun e=>by rename_i h;exact h (fun h'=>e ((qtl _).1 h')))]
 ·have e:k=4:=by omega
  subst e;exact qn rfl (zh rfl) ⟨rfl,_,rfl⟩
def rowT (i:Nat):BitVec 32:=wr 4 (BitVec.ofNat 32 i <<< 28)
def tabA (k:Nat):List AV:=(List.range 16).map fun i=>if i<k then Wv (rowT i) else .v (.int .u32 0)
theorem q3j (k:Nat):(tabA k).length=16:=by simp [tabA]
theorem za4 {k:Nat} (h:k<16):(tabA k).set k (Wv (rowT k))=tabA (k+1):=by
 apply List.ext_getElem
 ·simp [tabA]
 ·intro i h1 h2
  simp only [tabA,List.length_map,List.length_range] at h2;rw [List.getElem_set];by_cases e:k=i
  ·subst e
   simp [tabA]
  ·rw [if_neg e]
   simp only [tabA,List.getElem_map,List.getElem_range];by_cases hi:i<k
   ·rw [if_pos hi,if_pos (by omega)]
   ·rw [if_neg hi,if_neg (by omega)]
theorem zd5 {i:Nat} (h:i<16):(tabA 16)[i]? = some (Wv (rowT i)):=by
 simp [tabA,h]
theorem zi8 (st:List AObj):qo E 85 [] st fun r st'=>r = .ag (tabA 16)∧st'=st:=by
 refine ze (qoq (fun x hx=>?_)) (qr Tryz.func85 rfl (Nat.le_of_ble_eq_true rfl) ?_)
 ·simp only [tabA,List.mem_map] at hx
  obtain⟨i,_,rfl⟩:=hx;split <;> exact q8 _
 repeat' (first|apply qm|apply qu|apply qg|apply qh|apply ql|(apply jp;exact rfl;exact rfl))
 refine ju (fun (k:Nat) s=>k≤16∧StA [(0,.bx (st.length+0) 0 0),(2,Iv k)] (st++[.cells 0 167 (tabA k)]) [] s) (fun k=>16 - k) 0 ⟨by omega,qb0 ⟨rfl,rfl,trivial⟩ (by show st++[AObj.cells 0 _ _]=_;rfl)⟩ ?_;rintro k _ ⟨hk,t,rfl⟩;have c8:=q3j k;repeat' (first|apply qm|apply qu|apply qg|apply qh|apply ql|apply qi|(apply qt;(iterate 3 exact rfl))|(apply qe;exact rfl;apply cd_d <;> intro h)|(apply zn;exact rfl;exact rfl;exact zb (by omega) (by omega))|(apply jf;(iterate 5 exact rfl))|(apply qcl;(iterate 4 exact rfl);first|assumption|omega|decide)|apply qw|apply jg|(apply qq;exact Tryz.call126;exact zjv _ _)|(apply qrc;(iterate 3 exact rfl);omega)|(apply qtv;(iterate 9 exact rfl);(show 0+k * 1+1≤_;omega);exact rfl))
 ·refine⟨k+1,⟨by omega,qb0 ⟨rfl,rfl,trivial⟩ ?_⟩,by omega⟩
  show st++[AObj.cells 0 _ (zr (tabA k) (0+k * 1) [Wv (rowT k)])]=_
  rw [Nat.zero_add,Nat.mul_one,q69 (by omega),za4 (by omega)]
 ·have e:k=16:=by omega
  subst e;repeat' (first|apply qh|(apply z4;(iterate 11 exact rfl))|apply q6)
  exact qn rfl (qtw rfl rfl rfl rfl rfl rfl) ⟨rfl,_,rfl⟩
def crcN (x:BitVec 32) (n:Nat):BitVec 32:=(x <<< 4) ^^^ rowT ((x >>> 28) ^^^ BitVec.ofNat 32 n).toNat
def crcP (x:BitVec 32) (c:UInt8):BitVec 32:=crcN (crcN x (c.toNat / 16)) (c.toNat % 16)
def addP (s:BitVec 32) (l:List UInt8):BitVec 32:= ~~~ (l.foldl crcP (~~~ s))
def qxy (y:BitVec 32) (c:UInt8):Nat→BitVec 32
 | 0=>y
 | 1=>crcN y (c.toNat / 16)
 | _=>crcP y c
theorem q9n (x:BitVec 32) {n:Nat} (h:n<16):((x >>> 28) ^^^ BitVec.ofNat 32 n).toNat<16:=by
 rw [BitVec.toNat_xor];refine Nat.xor_lt_two_pow (n:=4) ?_ ?_
 ·rw [BitVec.toNat_ushiftRight,Nat.shiftRight_eq_div_pow]
  have:=x.isLt;omega
 ·rw [BitVec.toNat_ofNat]
  omega
theorem q1s {n:Nat} (h:n<16):js 1 false (0+n * 1) (tabA 16)=some (Wv (rowT n)):=by
 rw [Nat.zero_add,Nat.mul_one];exact zd5 h
theorem zjk (x:BitVec 32) (l:List UInt8) (st:List AObj) (hl:l.length<4294967281):qo E 50 [Wv x,Sv l] st fun r st'=>r=Wv (addP x l)∧st'=st:=by
 refine ze (q8 _) (qr Tryz.func50 rfl (Nat.le_of_ble_eq_true rfl) ?_);repeat' (first|apply qm|apply qu|apply qg|apply qh|apply ql|apply qi|(apply jy;(iterate 3 exact rfl))|(apply jp;exact rfl;exact rfl)|(apply z4;(iterate 11 exact rfl))|(apply qh1;exact rfl)|(apply qq;exact Tryz.call85;exact zi8 _))
 refine ju (fun (k:Nat) s=>k≤l.length∧StA [(1,Sv l),(5,.bx (st.length+0) 0 0),(6,Wv ((l.take k).foldl crcP (~~~ x))),(14,Iv l.length),(15,Iv k)] (st++[.cells 0 167 (tabA 16)]) [] s) (fun k=>l.length - k) 0 ⟨by omega,qb0 ⟨rfl,rfl,rfl,rfl,rfl,trivial⟩ (by show st++[AObj.cells 0 _ _]=_;rfl)⟩ ?_;rintro k _ ⟨hk,t,rfl⟩;generalize hx:(l.take k).foldl crcP (~~~ x)=y;have hc:=UInt8.toNat_lt (l.getD k 0);repeat' (first|apply qm|apply qu|apply qg|apply qh|apply ql|apply qi|(apply qt;(iterate 3 exact rfl))|(apply qe;exact rfl;apply cd_d <;> intro h)|(apply qh1;exact rfl)|(apply qh4;exact rfl;kernel_rfl)|apply qgg|(apply q72;(iterate 3 exact rfl);exact cAs)|(apply q3w;exact rfl;exact rfl)|(apply qyq;exact rfl;exact rfl)|(apply qyr;(iterate 3 exact rfl);omega)|(apply qu5;(iterate 3 exact rfl))|apply qej|apply qw|apply jg|apply q6)
 ·generalize nj:l.getD k 0=c at *
  refine ju (fun (j:Nat) s=>j≤2∧StA [(1,Sv l),(5,.bx (st.length+0) 0 0),(6,Wv (qxy y c j)),(14,Iv l.length),(15,Iv k),(28,.ag [Wv (BitVec.ofNat 32 (c.toNat / 16)),Wv (BitVec.ofNat 32 (c.toNat % 16))]),(29,Iv j)] (st++[.cells 0 167 (tabA 16)]) [] s) (fun j=>2 - j) 0 ⟨by omega,qb0 ⟨rfl,rfl,rfl,rfl,rfl,rfl,rfl,trivial⟩ rfl⟩ ?_;rintro j _ ⟨hj,t2,rfl⟩;have hj3:j=0∨j=1∨j=2:=by omega
  have hn1:=q9n (qxy y c j) (n:=c.toNat / 16) (by omega);have rf:=q9n (qxy y c j) (n:=c.toNat % 16) (by omega);generalize hz:qxy y c j=z at hn1 rf ⊢;rcases hj3 with rfl|rfl|rfl
  ·skip
   repeat' (first|apply qm|apply qu|apply qg|apply qh|apply ql|apply qi|(apply qt;(iterate 3 exact rfl))|(apply qe;exact rfl;apply vj;exact cAo)|(apply zn;exact rfl;exact rfl;exact zb (by omega) (by omega))|(apply qdb;exact rfl;exact rfl;(first|exact jv _|exact rfl);first|exact jv _|exact rfl)|(apply qe4;(iterate 3 exact rfl))|(apply qg7;(iterate 3 exact rfl))|(apply qjv;(iterate 4 exact rfl);(first|assumption|omega|decide);exact rfl)|(apply qcl;(iterate 4 exact rfl);first|assumption|omega|decide)|apply qw|(apply jf;(iterate 4 exact rfl);exact q1s hn1))
   subst hz;exact⟨1,⟨by omega,qb0 ⟨rfl,rfl,rfl,rfl,rfl,rfl,rfl,trivial⟩ rfl⟩,by omega⟩
  ·skip
   repeat' (first|apply qm|apply qu|apply qg|apply qh|apply ql|apply qi|(apply qt;(iterate 3 exact rfl))|(apply qe;exact rfl;apply vj;exact cAo)|(apply zn;exact rfl;exact rfl;exact zb (by omega) (by omega))|(apply qdb;exact rfl;exact rfl;(first|exact jv _|exact rfl);first|exact jv _|exact rfl)|(apply qe4;(iterate 3 exact rfl))|(apply qg7;(iterate 3 exact rfl))|(apply qjv;(iterate 4 exact rfl);(first|assumption|omega|decide);exact rfl)|(apply qcl;(iterate 4 exact rfl);first|assumption|omega|decide)|apply qw|(apply jf;(iterate 4 exact rfl);exact q1s rf))
   subst hz;exact⟨2,⟨by omega,qb0 ⟨rfl,rfl,rfl,rfl,rfl,rfl,rfl,trivial⟩ rfl⟩,by omega⟩
  ·skip
   repeat' (first|apply qm|apply qg|apply qh|apply ql|(apply qt;(iterate 3 exact rfl))|(apply qe;exact rfl;apply wm;exact cAo)|(apply zn;exact rfl;exact rfl;exact zb (by omega) (by omega))|apply jg)
   subst hz;refine⟨k+1,⟨by omega,qb0 ⟨rfl,rfl,?_,rfl,rfl,trivial⟩ rfl⟩,by omega⟩;refine congrArg Wv (?_:crcP y c=_);rw [qb3 (by omega),List.foldl_append,hx,nj];rfl
 ·have e:k=l.length:=by omega
  subst e;refine qn rfl (zh rfl) ⟨congrArg Wv (?_:_=_),_,rfl⟩;unfold addP;rw [← hx,List.take_length]
theorem qtj (l:List UInt8) (st:List AObj) (hl:l.length<4294967281):qo E 26 [.sl 1 [Sv l] none] st fun r st'=>r=Wv (addP 0 l)∧st'=st:=by
 refine ze (q8 _) (qr Tryz.func26 rfl (Nat.le_of_ble_eq_true rfl) ?_);repeat' (first|apply qm|apply qu|apply qg|apply qh|apply ql|apply qi|(apply ja;(iterate 4 exact rfl)))
 refine ju (fun (k:Nat) s=>k≤1∧StA [(3,Wv (if k=0 then 0 else addP 0 l)),(6,.sl 1 [Sv l] none),(7,Iv 1),(8,Iv k)] (st++[]) [] s) (fun k=>1 - k) 0 ⟨by omega,qb0 ⟨rfl,rfl,rfl,rfl,trivial⟩ rfl⟩ ?_;rintro k _ ⟨hk,t,rfl⟩;have cx:k=0∨k=1:=by omega
 rcases cx with rfl|rfl
 ·skip
  repeat' (first|apply qm|apply qu|apply qg|apply qh|apply ql|apply qi|(apply qt;(iterate 3 exact rfl))|(apply qe;exact rfl;apply vj;exact cAo)|(apply zn;exact rfl;exact rfl;exact zb (by omega) (by omega))|(apply jo;(iterate 3 exact rfl))|apply qw|(apply j8;(iterate 4 exact rfl);exact (rfl:(0:Int)=((0:Nat):Int));exact rfl)|(apply qq;exact Tryz.call50;exact zjk 0 _ _ hl))
  exact⟨1,⟨by omega,qb0 ⟨rfl,rfl,rfl,rfl,trivial⟩ rfl⟩,by omega⟩
 ·skip
  repeat' (first|apply qm|apply qg|apply qh|apply ql|apply qi|(apply qt;(iterate 3 exact rfl))|(apply qe;exact rfl;apply wm;exact cAo)|apply jg|apply q6)
  exact qn rfl (zh rfl) ⟨rfl,_,rfl⟩
def figP (s:BitVec 32) (j:Nat):UInt8:=[48,49,50,51,52,53,54,55,56,57,97,98,99,100,101,102].getD ((s >>> (4 * (7 - j))) &&& BitVec.ofInt 32 15).toNat 0
def vc (s:BitVec 32) (n:Nat):List UInt8:=(List.range n).map (figP s)
theorem qvw (x:BitVec 32) (st:List AObj):qo E 34 [Wv x] st fun r st'=>r=Sv (vc x 8)∧st'=st:=by
 refine ze (q8 _) (qr Tryz.func34 rfl (Nat.le_of_ble_eq_true rfl) ?_);repeat' (first|apply qm|apply qu|apply qg|apply qh|apply qi|(apply jp;exact rfl;exact rfl))
 refine qo6 (o:=st.length+0) (j:=1) (sz:=1) (T':=5) (jl rfl) rfl ?_
 refine ju (fun (j:Nat) s=>j≤8∧∃ q,(q = .v (.pointer none)∨q = .bx (st.length+0) 0 0)∧StA [(0,Wv x),(3,.bx (st.length+0) 0 0),(4,Iv (7 - (j:Int)))] (st++[bldO 0 q (vc x j) (st.length+1),.tip (vc x j).length 1 5]) [] s) (fun j=>8 - j) 0
  ⟨by omega,_,.inl rfl,qb0 ⟨rfl,rfl,rfl,trivial⟩ ?_⟩ ?_
 ·show (st++[_]).set (st.length+0) (.cells 0 130 [_,.sl 1 [] (some (st++[_]).length)])++[_]=_
  rw [xw,List.append_assoc];simp [vc]
 rintro j _ ⟨hj,q,hq,t,rfl⟩;have hf:(vc x j).length=j:=by simp [vc]
 repeat' (first|apply qm|apply qu|apply qg|apply qh|apply ql|apply qi|(apply qt;(iterate 3 exact rfl))|(apply qe;exact rfl;apply cd_d <;> intro h)|(apply yj;exact rfl;exact rfl;exact zb (by omega) (by omega))|(apply qk3;exact rfl;exact rfl;(first|exact jv _|exact rfl);first|exact jv _|exact rfl)|apply qw|apply jg|apply q6|(apply qfm;exact rfl;exact rfl;exact zb (by omega) (by omega))|(apply q18 (n:=4 * (7 - j));exact rfl;exact rfl;omega;omega)|(apply xn;(iterate 3 exact rfl);exact and15_lt _)|(refine qq Tryz.call61 (q8b st _ _ 0 1 0 _ _ _ rfl rfl ?_ ?_ rfl) ?_;exact hq;omega)|(refine qq Tryz.call62 (qo7 st _ _ 0 1 0 _ _ rfl rfl rfl) ?_))
 ·have e1:vc x j++[figP x j]=vc x (j+1):=by simp [vc,List.range_succ]
  refine⟨j+1,⟨by omega,_,.inr rfl,qb0 ⟨rfl,rfl,congrArg Iv (by omega:(7 - (j:Int)) - 1=7 - ((j+1:Nat):Int)),trivial⟩ ?_⟩,by omega⟩
  show st++[bldO 0 _ (vc x j++[figP x j]) (st.length+1),.tip (vc x j++[figP x j]).length 1 5]=_
  rw [e1]
 ·have e:j=8:=by omega
  subst e;exact qn rfl (zh rfl) ⟨rfl,_,rfl⟩
def sumF (l:List UInt8):List UInt8:=vc (addP 0 l) 8
def q31 (rest body sums:List UInt8) (size:Int):Int×List UInt8×Int:=
 if rest.length<(qhq body.length).length∧rest <+: qhq body.length then (2,[],0)
 else if qhq body.length <+: rest∧sums=sumF body then (1,body,size) else (3,[],0)
def qba (l:List UInt8):Int×List UInt8×Int:=
 if 10∈l then
  if (xh (upto 10 l)).2.2=true then
   if (past 10 l).length<(xh (upto 10 l)).1 then (qom (past 10 l) ((xh (upto 10 l)).1 - (past 10 l).length),[],0)
   else if qf7 ((past 10 l).take (xh (upto 10 l)).1) then q31 ((past 10 l).drop (xh (upto 10 l)).1) ((past 10 l).take (xh (upto 10 l)).1) (xh (upto 10 l)).2.1 (zgb (xh (upto 10 l)).1)
   else (3,[],0)
  else (3,[],0)
 else if qij l=true then (2,[],0) else (3,[],0)
def recF (l:List UInt8):List UInt8:=qxs l.length (sumF l)++l++qhq l.length
theorem qhs:∀ (n u:Nat),u<n→u<18446744073709551616→∀ st,qo E 148 [.v (.int .u64 (u:Int))] st fun r st'=>r=Sv (Lib.decDigits u)∧st'=st
 | 0,_,h,_,_=>absurd h (Nat.not_lt_zero _)
 |n+1,u,hu,h64,st=>by
  refine ze (q8 _) (qr Tryz.func148 rfl (Nat.le_of_ble_eq_true rfl) ?_);have o7:=qd8 (u:=u / 10) (by omega);have ck:=qd8 (u:=u % 10) (by omega);by_cases f9:u<10
  ·skip
   repeat' (first|apply qm|apply qg|apply qh|apply ql|apply qi|(apply qt;(iterate 3 exact rfl))|(apply qe;exact rfl;apply vj;exact cAo)|(apply qit;(iterate 4 exact rfl);exact cAs;exact cAs)|apply q6|(apply q7x (n:=1);exact rfl;exact rfl;exact qkz (by omega)))
   exact qn rfl (zh rfl) ⟨congrArg Sv (q2n f9),_,rfl⟩
  ·have ih1:=qhs n (u / 10) (by omega) (by omega)
   have ih2:=qhs n (u % 10) (by omega) (by omega);repeat' (first|apply qm|apply qg|apply qh|apply ql|apply qi|(apply qt;(iterate 3 exact rfl))|(apply qe;exact rfl;apply wm;exact cAo)|(apply vf;exact rfl;exact rfl;exact cOs)|apply qw|apply q6|(apply qu1 (n:=10);exact rfl;exact rfl;omega;exact qkz (by omega))|(apply q70 (n:=10);exact rfl;exact rfl;omega)|(apply qq;exact Tryz.call148;exact ih1 _)|(apply qq;exact Tryz.call148;exact ih2 _))
   exact qn rfl (zh rfl) ⟨congrArg Sv (y5 f9).symm,_,rfl⟩
theorem q07 (k:Nat) (st:List AObj) (hk:k≤9223372036854775807):qo E 107 [Iv k] st fun r st'=>r=Sv (Lib.itoa k)∧st'=st:=by
 refine ze (q8 _) (qr Tryz.func107 rfl (Nat.le_of_ble_eq_true rfl) ?_);have hneg:¬ (k:Int)<0:=by omega
 repeat' (first|apply qm|apply qg|apply qh|apply ql|apply qi|(apply qt;(iterate 3 exact rfl))|(apply qe;exact rfl;apply wm;exact cAo)|apply qw|apply q6|(apply qda;(iterate 3 exact rfl);exact qkz (by omega))|(apply qq;exact Tryz.call148;exact qhs (k+1) k (by omega) (by omega) _))
 exact qn rfl (zh rfl) ⟨congrArg Sv (by unfold Lib.itoa;rw [if_neg hneg];simp),_,rfl⟩
def qse (c:UInt8):Bool:=decide (48≤c.toNat∧c.toNat≤57)
end Go.Proofs.YtapblfabkbdgcaaGreatDoor
namespace Go.Pl
open Go
def decV (l:qc):Nat:=l.foldl (fun a c=>10 * a+(c.toNat - 48)) 0
theorem qm3 (l:qc) (c:UInt8):decV (l++[c])=10 * decV l+(c.toNat - 48):=by simp [decV]
theorem wn:∀ (n u:Nat),u≤n→∀ c∈Lib.decDigits u,48≤c.toNat∧c.toNat≤57
 |n,u,hn,c,hc=>by
  by_cases h:u<10
  ·rw [Lib.decDigits_one h] at hc
   simp only [List.mem_singleton] at hc;subst hc;rw [UInt8.toNat_ofNat'];omega
  ·rw [y5 h,List.mem_append] at hc
   cases n with
   |zero=>omega
   |succ n=>
    rcases hc with hc|hc
    ·exact wn n (u / 10) (by omega) c hc
    ·exact wn n (u % 10) (by omega) c hc
theorem qp3:∀ (n u:Nat),u≤n→decV (Lib.decDigits u)=u
 |n,u,hn=>by
  have key:∀ d,d<10→Lib.decDigits d=[UInt8.ofNat (48+d)]∧(UInt8.ofNat (48+d)).toNat - 48=d:=fun d hd=>by
   refine⟨Lib.decDigits_one hd,?_⟩;rw [UInt8.toNat_ofNat'];omega
  by_cases h:u<10
  ·obtain⟨e1,e2⟩:=key u h
   rw [e1];exact (Nat.zero_add _).trans e2
  ·cases n with
   |zero=>omega
   |succ n=>
    obtain⟨e1,e2⟩:=key (u % 10) (by omega);rw [y5 h,e1,qm3,qp3 n (u / 10) (by omega),e2];omega
theorem qd2 (u:Nat):1≤(Lib.decDigits u).length:=by
 rw [Lib.decDigits_length];exact Lib.nDigits_pos u
theorem qec {v:Int} (h:v<0):Lib.itoa v=45::Lib.decDigits v.natAbs:=by
 unfold Lib.itoa;rw [if_pos h]
theorem qed {v:Int} (h:0≤v):Lib.itoa v=Lib.decDigits v.toNat:=by
 unfold Lib.itoa;rw [if_neg (by omega)]
theorem zf4 (v:Int):1≤(Lib.itoa v).length:=by
 by_cases h:v<0
 ·rw [qec h];simp
 ·rw [qed (by omega)];exact qd2 _
theorem q9f {v:Int} (h1 : -9223372036854775808≤v) (h2:v≤9223372036854775807):(Lib.itoa v).length≤20:=by
 by_cases h:v<0
 ·rw [qec h,List.length_cons,Lib.decDigits_length]
  have:=qhi 18 v.natAbs (by omega);omega
 ·rw [qed (by omega),Lib.decDigits_length]
  have:=qhi 18 v.toNat (by omega);omega
theorem qwh:∀ (a:Nat) (l m:qc) (b:Nat),Lib.parseUint10 a l = .ok b→Lib.parseUint10 a (l++m)=Lib.parseUint10 b m
 |a,[],m,b,h=>by
  simp only [Lib.parseUint10,Lib.NumEnd.ok.injEq] at h
  subst h;rfl
 |a,c::l,m,b,h=>by
  simp only [List.cons_append,Lib.parseUint10] at h ⊢;split at h
  ·rename_i hd
   rw [if_pos hd];split at h
   ·cases h
   ·rename_i h1
    rw [if_neg h1];split at h
    ·cases h
    ·rename_i h2
     rw [if_neg h2];exact qwh _ l m b h
  ·cases h
theorem qlq:∀ (n u:Nat),u≤n→u≤9223372036854775808→Lib.parseUint10 0 (Lib.decDigits u) = .ok u
 |n,u,hn,hu=>by
  have key:∀ (a d:Nat),a≤922337203685477580→d<10→Lib.parseUint10 a (Lib.decDigits d) = .ok (a * 10+d):=by
   intro a d ha hd;have e:(UInt8.ofNat (48+d)).toNat=48+d:=by rw [UInt8.toNat_ofNat'];omega
   rw [Lib.decDigits_one hd];simp only [Lib.parseUint10,e];rw [if_pos (by omega),if_neg (by omega),if_neg (by omega)];congr 1;omega
  by_cases h:u<10
  ·have:=key 0 u (by omega) h
   simpa using this
  ·cases n with
   |zero=>omega
   |succ n=>
    rw [y5 h,qwh 0 _ _ (u / 10) (qlq n (u / 10) (by omega) (by omega)),key _ _ (by omega) (by omega)];congr 1;omega
theorem qrn {v:Int} (h1 : -9223372036854775808≤v) (h2:v≤9223372036854775807):Lib.atoiAll (Lib.itoa v) = .ok v:=by
 by_cases h:v<0
 ·have hp:=qlq v.natAbs v.natAbs (Nat.le_refl _) (by omega)
  rw [qec h]
  have hm:Lib.parseMag (Lib.decDigits v.natAbs) = .ok v.natAbs:=by
   unfold Lib.parseMag;rw [if_neg (fun e=>by have:=qd2 v.natAbs;rw [e] at this;simp at this)];exact hp
  have e45:(45:UInt8).toNat=45:=rfl;simp only [Lib.atoiAll,e45];rw [if_pos (Or.inr trivial),hm];simp only [not_true,false_and,if_false,true_and];rw [if_neg (by omega)];simp only [if_true];congr 1;omega
 ·have hp:=qlq v.toNat v.toNat (Nat.le_refl _) (by omega)
  have hd:=wn v.toNat v.toNat (Nat.le_refl _);rw [qed (by omega)]
  cases hl:Lib.decDigits v.toNat with
  |nil=>have:=qd2 v.toNat;rw [hl] at this;simp at this
  |cons c r=>
   rw [hl] at hp hd;have hc:=hd c (by simp);simp only [Lib.atoiAll];have g1:¬ (c.toNat=43∨c.toNat=45):=by omega
   rw [if_neg g1];have hm:Lib.parseMag (c::r) = .ok v.toNat:=by unfold Lib.parseMag;rw [if_neg (by simp)];exact hp
   rw [hm];have g2:¬ c.toNat=45:=by omega
   simp only [g2,not_false_iff,true_and,false_and,if_false];rw [if_neg (by omega)];congr 1;omega
def numZ (l:qc):Option Int:=
 match Lib.atoiAll l with
 | .ok v=>if Lib.itoa v=l then some v else none
 | _=>none
theorem qnp {v:Int} (h1 : -9223372036854775808≤v) (h2:v≤9223372036854775807):numZ (Lib.itoa v)=some v:=by
 unfold numZ;rw [qrn h1 h2];simp
theorem qnr {l:qc} {v:Int} (h:numZ l=some v):l=Lib.itoa v∧-9223372036854775808≤v∧v≤9223372036854775807:=by
 unfold numZ at h;split at h
 ·rename_i u hu
  split at h
  ·rename_i he
   simp only [Option.some.injEq] at h;subst h;exact⟨he.symm,atoiAll_bounds hu⟩
  ·simp at h
 ·simp at h
theorem qnq {l:qc} (h:∀ v,-9223372036854775808≤v→v≤9223372036854775807→l≠Lib.itoa v):numZ l=none:=by
 cases hn:numZ l with
 |none=>rfl
 |some v=>
  obtain⟨h1,h2,h3⟩:=qnr hn;exact absurd h1 (h v h2 h3)
end Go.Pl
namespace Go.Proofs.YtapblfabkbdgcaaGreatDoor
open Go Go.Av Go.RowKit Go.Proofs Go.Pl
theorem qg1 (v:Int) (st:List AObj) (h1 : -9223372036854775808≤v) (h2:v≤9223372036854775807):qo E 107 [Iv v] st fun r st'=>r=Sv (Lib.itoa v)∧st'=st:=by
 by_cases hneg:v<0
 ·refine ze (q8 _) (qr Tryz.func107 rfl (Nat.le_of_ble_eq_true rfl) ?_)
  have hl:=qd8 (u:=v.natAbs) (by omega)
  have hk:IntKind.u64.wrap (-(v+1))=((v.natAbs - 1:Nat):Int):=by
   rw [show -(v+1)=((v.natAbs - 1:Nat):Int) by omega];exact qkz (by omega)
  have cx:IntKind.u64.wrap (((v.natAbs - 1:Nat):Int)+1)=((v.natAbs:Nat):Int):=by
   rw [show ((v.natAbs - 1:Nat):Int)+1=((v.natAbs:Nat):Int) by omega];exact qkz (by omega)
  repeat' (first|apply qm|apply qg|apply qh|apply ql|apply qi|(apply qt;(iterate 3 exact rfl))|(apply qe;exact rfl;apply vj;exact cAo)|(apply vf;exact rfl;exact rfl;exact cOs)|(apply zn;exact rfl;exact rfl;exact zb (by omega) (by omega))|apply q6|(apply qyi;exact rfl;exact (show IntKind.i64.wrap (0 - (v+1)) = -(v+1) from by rw [zb (by omega) (by omega)];omega))|(apply qda;(iterate 3 exact rfl);exact hk)|(apply zn;exact rfl;exact rfl;exact cx)|(apply qq;exact Tryz.call148;exact qhs (v.natAbs+1) v.natAbs (by omega) (by omega) _))
  exact qn rfl (zh rfl) ⟨congrArg Sv (qec hneg).symm,_,rfl⟩
 ·obtain⟨k,rfl⟩:=Int.eq_ofNat_of_zero_le (by omega:0≤v)
  exact q07 k st (by omega)
theorem qn5 (x:Int):IntKind.i64.wrap x=(x+9223372036854775808) % 18446744073709551616 - 9223372036854775808:=by
 simp [IntKind.wrap,IntKind.bits,IntKind.signed];split <;> omega
theorem q0e (V d:Nat) (n:Int) (hn:n=IntKind.i64.wrap (-(V:Int))):IntKind.i64.wrap (IntKind.i64.wrap (10 * n) - (d:Int))=IntKind.i64.wrap (-((10 * V+d:Nat):Int)):=by
 rw [hn];simp only [qn5];omega
theorem q4m (V:Nat):IntKind.i64.wrap (0 - IntKind.i64.wrap (-(V:Int)))=IntKind.i64.wrap (V:Int):=by
 simp only [qn5];omega
theorem qc8 (x:Int) : -9223372036854775808≤IntKind.i64.wrap x∧IntKind.i64.wrap x≤9223372036854775807:=by
 rw [qn5];omega
theorem sub8 {c:Nat} (h:48≤c) (h2:c<256):IntKind.u8.wrap ((c:Int) - 48)=((c - 48:Nat):Int):=by
 simp [IntKind.wrap,IntKind.bits,IntKind.signed];omega
def numA (l:qc):AV:=match numZ l with|some v=>.tu [Iv v,Bv true]|none=>.tu [Iv 0,Bv false]
theorem q9o (l:qc):Pure (numA l):=by
 unfold numA;split <;> exact qwo _ _
theorem qb2 {l:qc} (h:numZ l=none):numA l = .tu [Iv 0,Bv false]:=by unfold numA;rw [h]
theorem qno {l:qc} {v:Int} (h:numZ l=some v):numA l = .tu [Iv v,Bv true]:=by unfold numA;rw [h]
theorem qv4 {l:qc} {v:Int} (h:l=Lib.itoa v):(v<0→(l.getD 0 0).toNat=45∧l.drop 1=Lib.decDigits v.natAbs)∧(0≤v→(l.getD 0 0).toNat≠45∧l=Lib.decDigits v.toNat):=by
 subst h;refine⟨fun h=>?_,fun h=>?_⟩
 ·rw [qec h];exact⟨rfl,rfl⟩
 ·rw [qed h]
  refine⟨?_,rfl⟩;have hp:=qd2 v.toNat;have hd:=wn v.toNat v.toNat (Nat.le_refl _)
  cases hl:Lib.decDigits v.toNat with
  |nil=>rw [hl] at hp;simp at hp
  |cons c r=>
   rw [hl] at hd;have:=hd c (by simp);simp;omega
def sgn (l:qc):Nat:=if (l.getD 0 0).toNat=45 then 1 else 0
theorem qj3 {l:qc} {v:Int} (h:l=Lib.itoa v):l.drop (sgn l)=Lib.decDigits v.natAbs:=by
 obtain⟨h1,h2⟩:=qv4 h;unfold sgn;by_cases hv:v<0
 ·obtain⟨a,b⟩:=h1 hv
  rw [if_pos a,b]
 ·obtain⟨a,b⟩:=h2 (by omega)
  rw [if_neg a,List.drop_zero,show v.natAbs=v.toNat by omega];exact b
theorem qoj {l:qc} {k:Nat} (hk:k<l.length) (hs:sgn l≤k) (hd:¬ (48≤(l.getD k 0).toNat∧(l.getD k 0).toNat≤57)):numZ l=none:=by
 refine qnq fun v h1 h2 h=>?_;have e:=qj3 h
 have hm:l.getD k 0∈l.drop (sgn l):=by
  rw [show l.getD k 0=l[k] by simp [List.getD,hk]];rw [List.mem_drop_iff_getElem];exact⟨k - sgn l,by omega,by congr 1;omega⟩
 rw [e] at hm;exact hd (wn _ _ (Nat.le_refl _) _ hm)
def numW (l:qc):Int:=if (l.getD 0 0).toNat=45 then IntKind.i64.wrap (-(decV (l.drop 1):Int)) else IntKind.i64.wrap (decV l:Int)
theorem zgn {l:qc} {v:Int} (h:l=Lib.itoa v) (h1 : -9223372036854775808≤v) (h2:v≤9223372036854775807):numW l=v:=by
 obtain⟨g1,g2⟩:=qv4 h;unfold numW;by_cases hv:v<0
 ·obtain⟨a,b⟩:=g1 hv
  rw [if_pos a,b,qp3 _ _ (Nat.le_refl _),zb (by omega) (by omega)];omega
 ·obtain⟨a,b⟩:=g2 (by omega)
  rw [if_neg a,b,qp3 _ _ (Nat.le_refl _),zb (by omega) (by omega)];omega
theorem q4l {l:qc} {n:Int} (h:n=numW l) (he:Lib.itoa n=l):numZ l=some n:=by
 have hr : -9223372036854775808≤n∧n≤9223372036854775807:=by
  rw [h];unfold numW;split <;> exact qc8 _
 rw [← he,qnp hr.1 hr.2]
theorem q4k {l:qc} {n:Int} (h:n=numW l) (he:¬ Lib.itoa n=l):numZ l=none:=
 qnq fun v h1 h2 hv=>he (by rw [h,zgn hv h1 h2];exact hv.symm)
theorem qkw {l:qc} {k a:Nat} (h:k<l.length) (ha:a≤k):(l.take (k+1)).drop a=(l.take k).drop a++[l.getD k 0]:=by
 rw [qb3 h,List.drop_append_of_le_length (by simp;omega)]
theorem qpq (l:List UInt8) (st:List AObj) (hl:l.length<4294967281):qo E 79 [Sv l] st fun r st'=>r=numA l∧st'=st:=by
 refine ze (q9o l) (qr Tryz.func79 rfl (Nat.le_of_ble_eq_true rfl) ?_);by_cases pm:l.length<1∨20<l.length
 ·have hz:numZ l=none:=qnq fun v h1 h2 h=>by
   have g1:=zf4 v;have g2:=q9f h1 h2;rw [← h] at g1 g2;omega
  repeat' (first|apply qm|apply qg|apply qh|apply ql|apply qi|(apply qt;(iterate 3 exact rfl))|(apply zm;(iterate 4 exact rfl))|(apply qbj;exact cAo)|(apply qa7;exact cAo)|(apply yp <;> intro h)|(apply qx;exact rfl;apply qdj;exact cAo)|(apply qx;exact rfl;apply qd4;exact cAo)|(apply qe;exact rfl;apply vj;exact cAo)|(apply qe;exact rfl;apply cd_t;exact cRa)|(apply jy;(iterate 3 exact rfl))|apply q6)
  all_goals first
   |(exfalso;omega)
   |exact qn rfl (vm rfl) ⟨(qb2 hz).symm,_,rfl⟩
 have o6:1≤l.length:=by omega
 have r8:l.length≤20:=by omega
 repeat' (first|apply qm|apply qu|apply qg|apply qh|apply ql|apply qi|(apply qt;(iterate 3 exact rfl))|(apply zm;(iterate 4 exact rfl))|(apply qbj;exact cAo)|(apply qx;exact rfl;apply qd4;exact cAo)|(apply qe;exact rfl;apply wm;exact cAo)|(apply qe;exact rfl;apply cd_d <;> intro h)|(apply jy;(iterate 3 exact rfl))|(apply xn;(iterate 3 exact rfl);exact cAs)|apply qw)
 ·have h45:((l.getD 0 0).toNat:Int)=45:=by assumption
  have hs:sgn l=1:=if_pos (by omega);refine ju (fun (k:Nat) s=>1≤k∧k≤l.length∧StA [(0,Sv l),(4,Iv 1),(5,Iv (IntKind.i64.wrap (-(decV ((l.take k).drop 1):Int)))),(6,Iv k)] (st++[]) [] s) (fun k=>l.length - k) 1 ⟨by omega,by omega,jd ⟨rfl,rfl,by simp [List.drop_eq_nil_of_le,decV,IntKind.wrap];rfl,rfl,trivial⟩⟩ ?_;rintro k _ ⟨bg,hk,t,rfl⟩;generalize hn:IntKind.i64.wrap (-(decV ((l.take k).drop 1):Int))=n;have hc:=UInt8.toNat_lt (l.getD k 0);have hr : -9223372036854775808≤n∧n≤9223372036854775807:=hn▸qc8 _;have tn:=qc8 (0 - n);repeat' (first|apply qm|apply qu|apply qg|apply qh|apply ql|apply qi|(apply qt;(iterate 3 exact rfl))|(apply kr;(iterate 3 exact rfl))|(apply zm;(iterate 4 exact rfl))|(apply qbj;exact cAo)|(apply qa7;exact cAo)|(apply yp <;> intro h)|(apply qx;exact rfl;apply qdj;exact cAo)|(apply qx;exact rfl;apply qd4;exact cAo)|(apply qe;exact rfl;apply wm;exact cAo)|(apply qe;exact rfl;apply cd_t;exact cRa)|(apply qe;exact rfl;apply cd_d <;> intro h)|(apply jy;(iterate 3 exact rfl))|(apply zn;exact rfl;exact rfl;exact zb (by omega) (by omega))|(apply xn;(iterate 3 exact rfl);exact cAs)|apply qw|apply jg|apply q6|(apply qfm;(iterate 3 exact rfl))|(apply yj;exact rfl;exact rfl;exact sub8 (by omega) (by omega))|(apply yj;exact rfl;exact rfl;exact q0e _ _ _ hn.symm)|(apply qda;(iterate 3 exact rfl);exact zb (by omega) (by omega))|(apply qq;exact Tryz.call107;exact qg1 _ _ (by omega) (by omega)))
  ·exact qn rfl (vm rfl) ⟨(qb2 (qoj (k:=k) (by omega) (by omega) (by omega))).symm,_,rfl⟩
  ·exact qn rfl (vm rfl) ⟨(qb2 (qoj (k:=k) (by omega) (by omega) (by omega))).symm,_,rfl⟩
  ·refine⟨k+1,⟨by omega,by omega,jd ⟨rfl,rfl,congrArg Iv ?_,rfl,trivial⟩⟩,by omega⟩
   rw [qkw (by omega) bg,qm3]
  ·have e:k=l.length:=by omega
   subst e;rw [List.take_length] at hn;have hw:n=numW l:=by unfold numW;rw [if_pos (by omega)];rw [← hn]
   exact qn rfl (vm rfl) ⟨(qb2 (q4k hw (by assumption))).symm,_,rfl⟩
  ·have e:k=l.length:=by omega
   subst e;rw [List.take_length] at hn;have hw:n=numW l:=by unfold numW;rw [if_pos (by omega)];rw [← hn]
   exact qn rfl (vm rfl) ⟨(qno (q4l hw (Classical.not_not.1 (by assumption)))).symm,_,rfl⟩
 ·have h45:¬ ((l.getD 0 0).toNat:Int)=45:=by assumption
  have hs:sgn l=0:=if_neg (by omega);refine ju (fun (k:Nat) s=>0≤k∧k≤l.length∧StA [(0,Sv l),(4,Iv 0),(5,Iv (IntKind.i64.wrap (-(decV ((l.take k).drop 0):Int)))),(6,Iv k)] (st++[]) [] s) (fun k=>l.length - k) 0 ⟨by omega,by omega,jd ⟨rfl,rfl,by simp [List.drop_eq_nil_of_le,decV,IntKind.wrap];rfl,rfl,trivial⟩⟩ ?_;rintro k _ ⟨bg,hk,t,rfl⟩;generalize hn:IntKind.i64.wrap (-(decV ((l.take k).drop 0):Int))=n;have hc:=UInt8.toNat_lt (l.getD k 0);have hr : -9223372036854775808≤n∧n≤9223372036854775807:=hn▸qc8 _;have tn:=qc8 (0 - n);repeat' (first|apply qm|apply qu|apply qg|apply qh|apply ql|apply qi|(apply qt;(iterate 3 exact rfl))|(apply kr;(iterate 3 exact rfl))|(apply zm;(iterate 4 exact rfl))|(apply qbj;exact cAo)|(apply qa7;exact cAo)|(apply yp <;> intro h)|(apply qx;exact rfl;apply qdj;exact cAo)|(apply qx;exact rfl;apply qd4;exact cAo)|(apply qe;exact rfl;apply vj;exact cAo)|(apply qe;exact rfl;apply cd_t;exact cRa)|(apply qe;exact rfl;apply cd_d <;> intro h)|(apply jy;(iterate 3 exact rfl))|(apply zn;exact rfl;exact rfl;exact zb (by omega) (by omega))|(apply xn;(iterate 3 exact rfl);exact cAs)|apply qw|apply jg|apply q6|(apply qfm;(iterate 3 exact rfl))|(apply yj;exact rfl;exact rfl;exact sub8 (by omega) (by omega))|(apply yj;exact rfl;exact rfl;exact q0e _ _ _ hn.symm)|(apply qda;(iterate 3 exact rfl);exact zb (by omega) (by omega))|(apply qyi;exact rfl;exact rfl)|(apply qq;exact Tryz.call107;exact qg1 _ _ (by omega) (by omega)))
  ·exact qn rfl (vm rfl) ⟨(qb2 (qoj (k:=k) (by omega) (by omega) (by omega))).symm,_,rfl⟩
  ·exact qn rfl (vm rfl) ⟨(qb2 (qoj (k:=k) (by omega) (by omega) (by omega))).symm,_,rfl⟩
  ·refine⟨k+1,⟨by omega,by omega,jd ⟨rfl,rfl,congrArg Iv ?_,rfl,trivial⟩⟩,by omega⟩
   rw [qkw (by omega) bg,qm3]
  ·have e:k=l.length:=by omega
   subst e;rw [List.take_length] at hn;have hw:IntKind.i64.wrap (0 - n)=numW l:=by unfold numW;rw [if_neg (by omega)];rw [← hn,List.drop_zero,q4m]
   exact qn rfl (vm rfl) ⟨(qb2 (q4k hw (by assumption))).symm,_,rfl⟩
  ·have e:k=l.length:=by omega
   subst e;rw [List.take_length] at hn;have hw:IntKind.i64.wrap (0 - n)=numW l:=by unfold numW;rw [if_neg (by omega)];rw [← hn,List.drop_zero,q4m]
   exact qn rfl (vm rfl) ⟨(qno (q4l hw (Classical.not_not.1 (by assumption)))).symm,_,rfl⟩
theorem q1a (l:List UInt8) (v:Int) (st:List AObj) (hl:l.length<4294967281) (h:numZ l=some v):qo E 79 [Sv l] st fun r st'=>r = .tu [Iv v,Bv true]∧st'=st:=by
 have:=qpq l st hl;rw [qno h] at this;exact this
theorem q09 (l:List UInt8) (st:List AObj) (hl:l.length<4294967281) (h:numZ l=none):qo E 79 [Sv l] st fun r st'=>r = .tu [Iv 0,Bv false]∧st'=st:=by
 have:=qpq l st hl;rw [qb2 h] at this;exact this
end Go.Proofs.YtapblfabkbdgcaaGreatDoor
