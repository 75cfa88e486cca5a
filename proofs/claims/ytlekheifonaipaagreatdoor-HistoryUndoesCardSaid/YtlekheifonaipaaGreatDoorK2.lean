/- Contracts and plain facts that the closing text leans on (part 2). No condition of their own beyond those that each states. -/
import Derived.Test.YtlekheifonaipaaGreatDoorK1
import Derived.Lib.Builder
import Derived.Laws.Pointers
import Derived.Laws.Externs
import Derived.Laws.Tables
import Derived.Test.YtlekheifonaipaaGreatDoorK0
import Derived.Test.YtlekheifonaipaaGreatDoorRows
import Derived.LaidHandle
import Derived.ProofKit
import Derived.OpenShut
import Derived.ShutString
import Derived.Deep.DeepHandedRow
import Derived.Deep.DeepWitnessRowRef
import Derived.Lib.LaidU8
import Derived.Lib.SmallJoins
import Derived.ChangeSame
import Derived.ChangeAgain
import Derived.Lay
import Derived.Lib.Index
import Derived.Lib.SlTrimSet
import Derived.Shelf.Strings.Prefix
import Derived.Shelf.Strings.Cut
import Derived.Lib.ItoaNum
import Derived.Lib.AtoiAll
import Derived.Lib.Repeat
set_option maxRecDepth 100000
set_option linter.unusedVariables false
set_option linter.unusedSimpArgs false
open Array renaming range→Qm,getD_eq_getD_getElem?→Qn,getElem?_modify→Za,ext→Zs
open Int renaming fdiv_eq_ediv_of_nonneg→Qp
open List renaming append_assoc→Qb,append_nil→Qc,isPrefixOf→Qd,getElem?_append_left→Qi,take_length→Qj,mem_filter→Qk,getElem?_append_right→Qo,getElem?_map→Qq,range→Qr,all_eq_true→Qv,mem_append→Qw,contains_iff_mem→Qz,mem_cons→Zb,mem_map_of_mem→Zc,length_pos_iff→Zd,getElem?_drop→Ze,mem_singleton→Zg,length_append→Zh,cons_append→Zj,not_mem_nil→Zk,map_append→Zl,set_comm→Zm,set_set→Zo
open Nat renaming le_of_ble_eq_true→Qa,le_refl→Qe,mod_eq_of_lt→Qf,beq→Ql,shiftRight_eq_div_pow→Qs,ble→Qt,eq_of_beq_eq_true→Qx,ble_eq_true_of_le→Qy,lt_of_le_of_lt→Zf,le_of_eq→Zn,zero_add→Zp,mul_one→Zq,blt_eq→Zr,blt→Zt
open Option renaming isSome_iff_exists→Qu
open Option.some renaming inj→Qg,injEq→Qh
open Prod renaming fst→Zi
open Prod.mk renaming injEq→Zu
namespace Go.Av
open Go Go.RowKit
section
variable {E : Env} {rd : Option Nat} {N : Nat} {ops : Array Oper} {K : AS → Prop} {s : AS} {rest : List Oper} {d : Option Tmp} {T : TypeId} {p : String} {af : Array Edge}
def zlo:AV->Bool
 |.bx _ _ _=>true
 |.pp _=>true
 |_=>false
theorem ww{x:Operand}{r:AV}(hx:ql N s x=r)(hr:zlo r=true)(h:AOps E rd N ops rest K (s.put d r)):AOps E rd N ops (⟨d,.nilCheck x,T,p,af,none⟩::rest) K s:=by
 refine q9 rfl (q8 nofun λB0 w0 G a w _ hI=>?_);have he:=hI.eval_of hx
 have key:∃q,a.eval x=.pointer (some q):=by
  generalize a.eval x=u at he
  cases he<;>simp[zlo]at hr
  .exact⟨_,rfl⟩
  .exact⟨_,rfl⟩
 obtain⟨q,hv⟩:=key;refine⟨_,w,G,r,s.st,?_,.refl G,hI.agree,hv▸he,h⟩;generalize a.eval=ρ at hv;simp[execOp,hv]
end
section
variable {B0 : Nat} {w0 : World} {G : Gh} {st : List AObj} {w : World}
theorem zl.refroze(h:zl B0 w0 G st w){w':World}{g:Nat}{c:Array Value}{T:TypeId}{fz fz':Nat×Nat}(hg:w.heap[g]?=some (.cells c T fz))(hg':w'.heap[g]?=some (.cells c T fz'))(ho:∀k,k≠g->w'.heap[k]?=w.heap[k]?)(hB:B0<=g)
  (o6:w'.heap.size=w.heap.size) (hos:w'.os=w.os) (htape:w'.tape=w.tape) (hout:w'.output=w.output) (hs:∀o x,st[o]?=some x->x.live->(G.ob o).blk≠g):zl B0 w0 G st w':=by
 refine⟨h.below.trans ⟨hos,htape,hout,Om,λk hk=>ho k Om⟩,by rw[o6];exact h.hB,h.n,λb vs hb=>?_,λo x hx=>(h.ob o x hx).mono (.refl G) rfl (λ_=>rfl) (λhl=>ho _ (hs o x hx hl)),h.sep⟩;by_cases e:b=g
 .subst e
  obtain⟨c2,T2,fz2,e1,e2⟩:=h.pub b vs hb;rw[hg]at e1;simp only[Qh,Obj.cells.injEq]at e1;exact⟨c,T,fz',hg',by rw[e1.1];exact e2⟩
 .rw[ho b e]
  exact h.pub b vs hb
theorem zl.tipCell(h:zl B0 w0 G st w){o ver j sz:Nat}{T T':TypeId}{cs:List AV}(ho:st[o]?=some (.cells ver T cs))(hj:cs[j]?=some zm):
  zl B0 w0 (G.new 0 0 0 false) (st.set o (.cells ver T (cs.set j (.sl sz [] (some st.length))))++[AObj.tip 0 sz T']) w:=by
 have h1:=h.newTip sz T';have d7:=G.le_new 0 0 0 false;have d9:=lt_of_getElem? ho
 have e:st.set o (.cells ver T (cs.set j (.sl sz [] (some st.length))))++[AObj.tip 0 sz T']=(st++[AObj.tip 0 sz T']).set o (.cells ver T (cs.set j (.sl sz [] (some st.length)))):=by
  rw[List.set_append_left _ _ d9]
 rw[e];have e8:(st++[AObj.tip 0 sz T'])[o]?=some (.cells ver T cs):=by rw[Qi d9];exact ho
 generalize hG:G.new 0 0 0 false=G' at h1 d7;have hn:st.length<G'.n:=by rw[h1.n];simp
 refine⟨h1.below,h1.hB,by simp[h1.n],h1.pub,λk x hx=>?_,λk k' x x' b9 hx i4 hl bj=>?_⟩
 .rcases getElem?_set' _ _ _ _ _ hx with⟨rfl,rfl⟩|⟨b9,hx⟩
  .obtain⟨g0,g1,g2,g3,c,g4,g5,g6⟩:=h1.ob k _ e8
   refine⟨g0,g1,g2,g3,c,g4,by simpa using g5,λi x y hx hy=>?_⟩;rcases getElem?_set' _ _ _ _ _ hx with⟨rfl,rfl⟩|⟨_,hx⟩
   .have:=g6 i _ y hj hy
    cases this
    exact .sl0 sz (some st.length) none 0 λt ht=>by simp at ht;subst ht;exact⟨hn,rfl,rfl⟩
   .exact g6 i x y hx hy
  .exact h1.ob k x hx
 .have key:∀(k:Nat)(x:AObj),((st++[AObj.tip 0 sz T']).set o (.cells ver T (cs.set j (.sl sz [] (some st.length)))))[k]?=some x->∃x0:AObj,(st++[AObj.tip 0 sz T'])[k]?=some x0∧(x.live->x0.live):=λk x hx=>by
   rcases getElem?_set' _ _ _ _ _ hx with⟨rfl,rfl⟩|⟨_,hx⟩
   .exact⟨_,e8,λ_=>trivial⟩
   .exact⟨x,hx,id⟩
  obtain⟨x0,e1,e2⟩:=key k x hx;obtain⟨x1,e3,e4⟩:=key k' x' i4;exact h1.sep k k' x0 x1 b9 e1 e3 (e2 hl) (e4 bj)
end
section
variable {E : Env} {rd : Option Nat} {N : Nat} {ops : Array Oper} {K : AS → Prop} {s : AS} {rest : List Oper} {d : Option Tmp} {T : TypeId} {p : String} {af : Array Edge}
def qdl:AV->Option Bool
 |.bx _ _ _=>some false
 |.pp _=>some false
 |.v (.pointer none)=>some true
 |_=>none
theorem qbl{x:Operand}{t t' te:TypeId}{r:AV}{b:Bool}(hx:ql N s x=r)(hr:qdl r=some b)(hu:E.P.underlying t=some (.pointer te))(h:AOps E rd N ops rest K (s.put d (Bv b))):AOps E rd N ops (⟨d,.binOp .eql t x (.const (.pointer none)) t',T,p,af,none⟩::rest) K s:=by
 refine q9 rfl (q8 nofun λB0 w0 G a w _ hI=>?_);have he:=hI.eval_of hx
 have key:∃q:Option Addr,a.eval x=.pointer q∧q.isNone=b:=by
  generalize a.eval x=u at he
  cases he<;>try (simp[qdl]at hr;done)
  case v=>
   cases u<;>try (simp[qdl]at hr;done)
   case pointer q=>
    cases q<;>simp[qdl]at hr
    subst hr;exact⟨_,rfl,rfl⟩
  case pp=>simp[qdl]at hr;subst hr;exact⟨_,rfl,rfl⟩
  case bx=>simp[qdl]at hr;subst hr;exact⟨_,rfl,rfl⟩
 obtain⟨q,hv,rfl⟩:=key;have hc:a.eval (.const (.pointer none))=.pointer none:=rfl;have hq:=run_eql_pointer_nil (P:=E.P) w t q (by simp[Program.pointee,hu]);refine⟨_,w,G,_,s.st,?_,.refl G,hI.agree,.v _,h⟩;generalize a.eval=ρ at hv hc;simp[execOp,hv,hc,eqGuard_at_pointer,hq]
theorem qf6{x:Operand}{t t' te:TypeId}{r:AV}{b:Bool}(hx:ql N s x=r)(hr:qdl r=some b)(hu:E.P.underlying t=some (.pointer te))(h:AOps E rd N ops rest K (s.put d (Bv !b))):AOps E rd N ops (⟨d,.binOp .neq t x (.const (.pointer none)) t',T,p,af,none⟩::rest) K s:=by
 refine q9 rfl (q8 nofun λB0 w0 G a w _ hI=>?_);have he:=hI.eval_of hx
 have key:∃q:Option Addr,a.eval x=.pointer q∧q.isNone=b:=by
  generalize a.eval x=u at he
  cases he<;>try (simp[qdl]at hr;done)
  case v=>
   cases u<;>try (simp[qdl]at hr;done)
   case pointer q=>
    cases q<;>simp[qdl]at hr
    subst hr;exact⟨_,rfl,rfl⟩
  case pp=>simp[qdl]at hr;subst hr;exact⟨_,rfl,rfl⟩
  case bx=>simp[qdl]at hr;subst hr;exact⟨_,rfl,rfl⟩
 obtain⟨q,hv,rfl⟩:=key;have hc:a.eval (.const (.pointer none))=.pointer none:=rfl;have hq:=run_neq_pointer_nil (P:=E.P) w t q (by simp[Program.pointee,hu]);refine⟨_,w,G,_,s.st,?_,.refl G,hI.agree,.v _,h⟩;generalize a.eval=ρ at hv hc;simp[execOp,hv,hc,eqGuard_at_pointer,hq]
theorem Inv.ptr{B0:Nat}{w0:World}{G:Gh}{a:Act}{w:World}(hI:Inv B0 w0 N G s a w){x:Operand}{o ver off:Nat}{T1:TypeId}{cs:List AV}(hx:ql N s x=.bx o ver off)(ho:s.st[o]?=some (.cells ver T1 cs)):a.eval x=.pointer (some ⟨(G.ob o).blk,off,none⟩):=by
 have he:=hI.eval_of hx;obtain⟨_,h1,_⟩:=hI.agree.ob o _ ho;generalize a.eval x=v at he
 cases he with
 |bx _ _ _ b hn hv hb=>rw[hb h1]
theorem qy7{x y:Operand}{t t' te:TypeId}{o ver off:Nat}{T1:TypeId}{cs:List AV}(hx:ql N s x=.bx o ver off)(hy:ql N s y=.bx o ver off)(ho:s.st[o]?=some (.cells ver T1 cs))(hu:E.P.underlying t=some (.pointer te))(hi:(E.P.info? te).isSome=true)
  (h:AOps E rd N ops rest K (s.put d (Bv false))):AOps E rd N ops (⟨d,.binOp .neq t x y t',T,p,af,none⟩::rest) K s:=by
 refine q9 rfl (q8 nofun λB0 w0 G a w _ hI=>?_);obtain⟨j,hj⟩:=Qu.1 hi;have h1:=hI.ptr hx ho;have h2:=hI.ptr hy ho;have hq:=Lib.run_neq_ptr_same (P:=E.P) w ⟨(G.ob o).blk,off,none⟩ hu hj;refine⟨_,w,G,_,s.st,?_,.refl G,hI.agree,.v _,h⟩;generalize a.eval=ρ at h1 h2;simp[execOp,h1,h2,eqGuard_at_pointer,hq]
theorem q24{x:Operand}{t t' te:TypeId}{o ver:Nat}{T1:TypeId}{cs:List AV}(hx:ql N s x=.bx o ver 0)(ho:s.st[o]?=some (.cells ver T1 cs))(b9:0<cs.length)(hs:E.P.underlying t=some (.pointer te))(hd:E.P.underlying t'=some .unsafePointer)(hi:(match E.P.info? te with|some j=>Ql j.size 0|none=>true)=false)
  (h:AOps E rd N ops rest K (s.put d (.bx o ver 0))):AOps E rd N ops (⟨d,.convert t t' x,T,p,af,none⟩::rest) K s:=by
 refine q9 rfl (q8 nofun λB0 w0 G a w _ hI=>?_);obtain⟨_,h1,h2,h3,c,h4,h5,h6⟩:=hI.agree.ob o _ ho;have he:=hI.eval_of hx;have hv:=hI.ptr hx ho
 cases hj:E.P.info? te with
 |none=>rw[hj]at hi;simp at hi
 |some j=>
  rw[hj]at hi;have hj0:j.size≠0:=λe=>by simp[e]at hi
  have hq:=Lib.run_to_unsafe (P:=E.P) w ⟨(G.ob o).blk,0,none⟩ hs hd hj hj0 (e:=T1) (cells:=c.size) (by simp[World.shape?,h4]) (by simpa[<-h5]using b9);refine⟨_,w,G,_,s.st,?_,.refl G,hI.agree,hv▸he,h⟩;generalize a.eval=ρ at hv;simp[execOp,hv,hq]
theorem qwf{x:Operand}{t t' te:TypeId}{o ver:Nat}{T1:TypeId}{cs:List AV}(hx:ql N s x=.bx o ver 0)(ho:s.st[o]?=some (.cells ver T1 cs))(hs:E.P.underlying t=some .unsafePointer)(hd:E.P.underlying t'=some (.pointer te))(hi:(E.P.info? te).isSome=true)(hl:liesAt E.P E.P.depth T1 (cs.length / E.P.cellsOf T1) 0 te 1=true)
  (h:AOps E rd N ops rest K (s.put d (.bx o ver 0))):AOps E rd N ops (⟨d,.convert t t' x,T,p,af,none⟩::rest) K s:=by
 refine q9 rfl (q8 nofun λB0 w0 G a w _ hI=>?_);obtain⟨_,h1,h2,h3,c,h4,h5,h6⟩:=hI.agree.ob o _ ho;obtain⟨j,hj⟩:=Qu.1 hi;have he:=hI.eval_of hx;have hv:=hI.ptr hx ho;have hq:=Lib.run_from_unsafe (P:=E.P) w ⟨(G.ob o).blk,0,none⟩ hs hd hj (e:=T1) (cells:=c.size) (by simp[World.shape?,h4]) (by rw[<-h5];exact hl);refine⟨_,w,G,_,s.st,?_,.refl G,hI.agree,hv▸he,h⟩;generalize a.eval=ρ at hv;simp[execOp,hv,hq]
theorem q22{f:FuncId}{x:Operand}{ts:Array TypeId}{r:AV}(a8:∀v w,(callFunc f #[v]).run E.P w=.ok (.value v) w)(hx:ql N s x=r)
  (h:AOps E rd N ops rest K (s.put d r)):AOps E rd N ops (⟨d,.call ⟨.value (.func f),#[x],ts⟩,T,p,af,none⟩::rest) K s:=by
 refine q9 rfl (q8 nofun λB0 w0 G a w _ hI=>?_);refine⟨a.eval x,w,G,_,s.st,?_,.refl G,hI.agree,hI.eval_of hx,h⟩;have he:a.eval (.func f)=.func (.func f) #[] #[]:=rfl;generalize a.eval=ρ at he;simp[execOp,resolve,Deferred.ofValue,he,invoke,a8]
theorem Inv.restate{B0:Nat}{w0:World}{G G':Gh}{a:Act}{w:World}{st':List AObj}(h:Inv B0 w0 N G s a w)(hG:G.le G')(hA:zl B0 w0 G' st' w):Inv B0 w0 N G' ⟨s.t,st',s.df⟩ a w:=
 ⟨hA,h.defers_mono hG,h.size,λi y hy=>(h.tmps i y hy).mono hG⟩
theorem q4n{o ver j sz:Nat}{T1 T':TypeId}{cs:List AV}{l:List Oper}(ho:s.st[o]?=some (.cells ver T1 cs))(hj:cs[j]?=some zm)
  (h:AOps E rd N ops l K ⟨s.t,s.st.set o (.cells ver T1 (cs.set j (.sl sz [] (some s.st.length))))++[AObj.tip 0 sz T'],s.df⟩):AOps E rd N ops l K s:=
 ⟨λB0 w0 G a w hL hI Q hQ=>h.run B0 w0 _ a w hL (hI.restate (G.le_new 0 0 0 false) (hI.agree.tipCell ho hj)) Q λG' s' a' w' hG=>hQ G' s' a' w' ((G.le_new 0 0 0 false).trans hG)⟩
theorem qte{o ver j sz:Nat}{T1 T':TypeId}{cs:List AV}{c:Code}{Q:Exit->AS->Prop}(ho:s.st[o]?=some (.cells ver T1 cs))(hj:cs[j]?=some zm)
  (h:AWp E rd N c Q ⟨s.t,s.st.set o (.cells ver T1 (cs.set j (.sl sz [] (some s.st.length))))++[AObj.tip 0 sz T'],s.df⟩):AWp E rd N c Q s:=
 ⟨λB0 w0 G a w hL hI=>wpIn_mono (h.run B0 w0 _ a w hL (hI.restate (G.le_new 0 0 0 false) (hI.agree.tipCell ho hj))) λ_ _ _ ⟨G',s',hG,h1,h2⟩=>⟨G',s',(G.le_new 0 0 0 false).trans hG,h1,h2⟩⟩
theorem Inv.newTip{B0:Nat}{w0:World}{G:Gh}{a:Act}{w:World}(h:Inv B0 w0 N G s a w){i sz:Nat}{T':TypeId}(hi:s.t i=zm):Inv B0 w0 N (G.new 0 0 0 false) ⟨Av.put s.t i (.sl sz [] (some s.st.length)),s.st++[AObj.tip 0 sz T'],s.df⟩ a w:=by
 have hA:=h.agree.newTip sz T';have h2:=h.restate (G.le_new 0 0 0 false) hA;refine⟨h2.agree,h2.defers,h2.size,λk y hy=>?_⟩;by_cases e:k=i
 .subst e
  show Rel _ (Av.put s.t k _ k) y
  rw[xx];have:=h2.tmps k y hy;simp only[hi]at this
  cases this
  exact .sl0 sz _ none 0 λt ht=>by simp at ht;subst ht;exact⟨by rw[hA.n];simp,rfl,rfl⟩
 .show Rel _ (Av.put s.t i _ k) y
  rw[qax _ _ _ _ e];exact h2.tmps k y hy
theorem zch{i sz:Nat}{T':TypeId}{c:Code}{Q:Exit->AS->Prop}(hi:s.t i=zm)
  (h:AWp E rd N c Q ⟨Av.put s.t i (.sl sz [] (some s.st.length)),s.st++[AObj.tip 0 sz T'],s.df⟩):AWp E rd N c Q s:=
 ⟨λB0 w0 G a w hL hI=>wpIn_mono (h.run B0 w0 _ a w hL (hI.newTip hi)) λ_ _ _ ⟨G',s',hG,h1,h2⟩=>⟨G',s',(G.le_new 0 0 0 false).trans hG,h1,h2⟩⟩
end
end Go.Av
namespace Go.Av
open Go Go.RowKit
theorem q5t:∀(vs:List Value)(off n:Nat)(c:Array Value),off+n+vs.length<=c.size->
  ((vs.zipIdx n).foldl (λ(cs:Array Value)(x:Value×Nat)=>cs.setIfInBounds (off+x.2) x.1) c).size=c.size∧
  ∀k,((vs.zipIdx n).foldl (λ(cs:Array Value)(x:Value×Nat)=>cs.setIfInBounds (off+x.2) x.1) c)[k]?=if off+n<=k∧k<off+n+vs.length then vs[k-(off+n)]?else c[k]?
 | [],off,n,c,_=>⟨Sx,λk=>by simp;intro h1 h2;omega⟩
 |v::vs,off,n,c,h=>by
  simp only[List.zipIdx_cons,List.foldl_cons,List.length_cons]at h⊢;obtain⟨h1,h2⟩:=q5t vs off (n+1) (c.setIfInBounds (off+n) v) So;refine⟨by rw[h1];simp,λk=>?_⟩;rw[h2 k];by_cases hk:k=off+n
  .subst hk
   rw[if_neg Om,if_pos Om,Array.getElem?_setIfInBounds_self,if_pos Om];simp
  .by_cases hr:off+n<=k∧k<off+n+(vs.length+1)
   .rw[if_pos Om,if_pos hr]
    rw[show k-(off+n)=(k-(off+(n+1)))+1 by omega];simp
   .rw[if_neg Om,if_neg hr]
    rw[Array.getElem?_setIfInBounds,if_neg Om]
def qdb(place:Nat->Option (Nat×Nat))(cells:List AV):List (Nat×AV)->Option (List AV)
 | []=>some cells
 |(i,x)::rest=>
  match place i with
  |none=>none
  |some (off,size)=>bif x.okc&&Ql x.cells.length size&&Qt (off+size) cells.length then qdb place (z4 cells off x.cells) rest else none
theorem qih{G:Gh}(place:Nat->Option (Nat×Nat)):∀(ps:List (Nat×AV))(vs:List (Nat×Value))(cs:List AV)(c:Array Value)(cs':List AV),ps.length=vs.length->(∀(i:Nat)(p:Nat×AV)(v:Nat×Value),ps[i]?=some p->vs[i]?=some v->p.1=v.1∧Rel G p.2 v.2)->
  RelC G cs c->qdb place cs ps=some cs'->∃c',Instr.fill place c vs=some c'∧RelC G cs' c'
 | [],[],cs,c,cs',_,_,hc,h=>by
  simp only[qdb,Qh]at h;subst h
  exact⟨c,rfl,hc⟩
 | [],v::vs,_,_,_,hl,_,_,_=>by simp at hl
 |p::ps,[],_,_,_,hl,_,_,_=>by simp at hl
 |(i,x)::ps,(j,v)::vs,cs,c,cs',hl,hr,hc,h=>by
  obtain⟨e,hx⟩:=hr 0 _ _ rfl rfl;simp only at e hx;subst e;simp only[qdb]at h;simp only[Instr.fill]
  cases hp:place i with
  |none=>simp[hp]at h
  |some q=>
   obtain⟨off,size⟩:=q;simp only[hp]at h⊢
   cases hb:(x.okc&&Ql x.cells.length size&&Qt (off+size) cs.length)with
   |false=>simp[hb]at h
   |true=>
    simp only[hb,cond_true]at h;simp only[Bool.and_eq_true]at hb;obtain⟨⟨hok,o6⟩,d7⟩:=hb;have o6:=Qx o6;have d7:=Qa d7;have hcx:=hx.cells hok;have sr:v.cells.size=size:=by rw[<-hcx.1];exact o6
    have i9:off+v.cells.size<=c.size:=by rw[sr,<-hc.1];exact d7
    rw[if_neg (by simp[sr];rw[<-hc.1];exact d7)]
    have hfold:v.cells.zipIdx.foldl (λcs(x:Value×Nat)=>cs.setIfInBounds (off+x.2) x.1) c=(v.cells.toList.zipIdx 0).foldl (λ(cs:Array Value)(x:Value×Nat)=>cs.setIfInBounds (off+x.2) x.1) c:=by
     rw[<-Array.foldl_toList,Array.toList_zipIdx]
    obtain⟨g1,g2⟩:=q5t v.cells.toList off 0 c (by simpa using i9)
    have t6:RelC G (z4 cs off x.cells) ((v.cells.toList.zipIdx 0).foldl (λ(cs:Array Value)(x:Value×Nat)=>cs.setIfInBounds (off+x.2) x.1) c):=by
     refine⟨?_,λk a y h1 h2=>?_⟩
     .rw[g1,<-hc.1]
      simp[z4];omega
     .rw[g2]at h2
      have e1:(cs.take off).length=off:=So
      simp only[z4,Qb]at h1;by_cases hk:k<off
      .rw[Qi Om,List.getElem?_take,if_pos hk]at h1
       rw[if_neg Om]at h2;exact hc.2 k a y h1 h2
      .rw[Qo Om,e1]at h1
       by_cases s8:k-off<x.cells.length
       .rw[Qi s8]at h1
        rw[if_pos ⟨Om,So⟩]at h2;exact hcx.2 (k-off) a y h1 (by simpa using h2)
       .rw[Qo Om,Ze]at h1
        rw[if_neg So]at h2;rw[show off+x.cells.length+(k-off-x.cells.length)=k by omega]at h1;exact hc.2 k a y h1 h2
    have:=qih place ps vs _ _ cs' (by simpa using hl) (λi p v h1 h2=>hr (i+1) p v (by simpa using h1) (by simpa using h2)) t6 h;rw[<-hfold]at this;exact this
section
variable {E : Env} {rd : Option Nat} {N : Nat} {ops : Array Oper} {K : AS → Prop} {s : AS} {rest : List Oper} {d : Option Tmp} {T : TypeId} {p : String} {af : Array Edge}
def vz(N:Nat)(s:AS)(parts:Array (Nat×Operand)):List (Nat×AV):=parts.toList.map λx=>(x.1,ql N s x.2)
def qzw(P:Program)(t:TypeId):Option (List (Nat×Nat)):=
 match P.underlying t with
 |some (.struct fs)=>fs.toList.mapM (λf=>(P.info? f.type).map λi=>(f.offset,i.size))
 |_=>none
theorem qjw{B0:Nat}{w0:World}{G:Gh}{a:Act}{w:World}(hI:Inv B0 w0 N G s a w)(parts:Array (Nat×Operand)):∀(i:Nat)(p:Nat×AV)(v:Nat×Value),(vz N s parts)[i]?=some p->(parts.toList.map λx=>(x.1,a.eval x.2))[i]?=some v->p.1=v.1∧Rel G p.2 v.2:=λi p v h1 h2=>by
 simp only[vz,Qq]at h1 h2
 cases hq:parts.toList[i]?with
 |none=>simp[hq]at h1
 |some z=>simp[hq]at h1 h2;subst h1;subst h2;exact⟨rfl,hI.eval _⟩
theorem yf{t:TypeId}{parts:Array (Nat×Operand)}{zs cs:List AV}{pl:List (Nat×Nat)}(hz:qh8 E.P t=some zs)(hp:qzw E.P t=some pl)(hf:qdb (pl[·]?) zs (vz N s parts)=some cs)
  (h:AOps E rd N ops rest K (s.put d (.ag cs))):AOps E rd N ops (⟨d,.build t parts,T,p,af,none⟩::rest) K s:=by
 refine q9 rfl (q8 nofun λB0 w0 G a w _ hI=>?_);obtain⟨z,a8,hr⟩:=qmw hz w;obtain⟨c',h1,h2⟩:=qih (pl[·]?) (vz N s parts) (parts.toList.map λx=>(x.1,a.eval x.2)) zs z.cells cs (by simp[vz]) (qjw hI parts) (hr G) hf;unfold qzw at hp;split at hp
 .rename_i fs hu
  refine⟨.agg c',w,G,.ag cs,s.st,?_,.refl G,hI.agree,.ag _ _ h2.1 h2.2,h⟩;generalize a.eval=ρ at h1;simp[execOp,Instr.build,run_underlying hu,a8,Array.mapM_eq_mapM_toList,run_places w _ _ hp,h1]
 .simp at hp
def qh9(P:Program)(e:TypeId)(n:Nat):Option (List AV):=
 match P.info? e with
 |some i=>bif Ql (n*i.size) 0 then some []else i.zero.map λz=>(Qr (n*i.size)).map λk=>.v (z.cells[k%z.cells.size]!)
 |none=>none
theorem qnm{B0:Nat}{w0:World}{G:Gh}{a:Act}{w:World}(hI:Inv B0 w0 N G s a w){t e:TypeId}{len sz:Nat}{agg:Bool}{parts:Array (Nat×Operand)}{zs cs:List AV}(hu:E.P.underlying t=some (.slice e))(ht:tyOf E.P e=some (sz,agg))(hz:qh9 E.P e len=some zs)
  (hf:qdb (λi=>some (i*sz,sz)) zs (vz N s parts)=some cs) (o6:Qt (len*sz) 16777216=true):
  ∃c':Array Value,(execOp a.eval ⟨d,.buildSlice t len parts,T,p,af,none⟩).run E.P w=.ok (.value (.slice (some ⟨w.heap.size,0,none⟩) len len)) (w.alloc (.cells c' e))∧RelC G cs c':=by
 have fb:=(vp ht w).1;have o6:=Qa o6;unfold qh9 at hz
 cases hi:E.P.info? e with
 |none=>rw[hi]at hz;simp at hz
 |some i=>
  rw[hi]at hz;simp only at hz;have hs:i.size=sz:=by simpa[sizeOf,typeInfo,hi]using fb
  rw[hs]at hz
  -- the array that the run starts from
  have key:∃c0:Array Value,RelC G zs c0∧∀(Q:Array Value->Sem Value),((do
    let zero <-if len*sz=0 then pure #[]else do pure (<-zeroValue e).cells
    Q ((Qm (len*sz)).map (zero[· %zero.size]!)):Sem Value)).run E.P w=(Q c0).run E.P w:=by
   by_cases h0:len*sz=0
   .rw[h0]at hz
    simp at hz;subst hz;exact⟨#[],⟨rfl,Sx⟩,λQ=>by have e:Qm 0= #[]:=(by simp[Qm]);simp[h0,e]⟩
   .have:Ql (len*sz) 0=false:=jv h0
    rw[this]at hz;simp only[cond_false]at hz
    cases hzr:i.zero with
    |none=>rw[hzr]at hz;simp at hz
    |some z=>
     rw[hzr]at hz;simp only[Option.map_some,Qh]at hz;subst hz;refine⟨(Qm (len*sz)).map (z.cells[· %z.cells.size]!),⟨Sx,λk x y h1 h2=>?_⟩,λQ=>by simp[h0,zeroValue,typeInfo,hi,hzr]⟩;have hk:k<len*sz:=by have:=lt_of_getElem? h1;simpa using this
     simp[hk]at h1 h2;subst h1;subst h2;exact .v _
  obtain⟨c0,hc0,hrun0⟩:=key;obtain⟨c',h1,h2⟩:=qih (λi=>some (i*sz,sz)) (vz N s parts) (parts.toList.map λx=>(x.1,a.eval x.2)) zs c0 cs (by simp[vz]) (qjw hI parts) hc0 hf;refine⟨c',?_,h2⟩
  .generalize a.eval=ρ at h1
   have hb:¬16777216<len*sz:=Om
   have hg:∃m:String,(execOp ρ ⟨d,.buildSlice t len parts,T,p,af,none⟩).run E.P w=(((do
    let zero <-if len*sz=0 then pure #[]else do pure (<-zeroValue e).cells
    (λc=>(do
    let some cells:=Instr.fill (λi=>some (i*sz,sz)) c (parts.map λx=>(x.1,ρ x.2)).toList|stuck m
    pure (Value.slice (some (<-newRow e cells)) len len):Sem Value)) ((Qm (len*sz)).map (zero[· %zero.size]!)):Sem Value)).run E.P w).andThen λv w'=>.ok (.value v) w':=by
    apply Exists.intro;simp only[execOp,Instr.buildSlice];simp[run_underlying hu,fb,hb];rfl
   obtain⟨m,hg⟩:=hg
   have hQ:=hrun0 (λc=>do
    let some cells:=Instr.fill (λi=>some (i*sz,sz)) c (parts.map λx=>(x.1,ρ x.2)).toList|stuck m
    pure (.slice (some (<-newRow e cells)) len len))
   rw[hg,hQ];simp[h1,newRow,newObj,Sem.run]
theorem wi{t e:TypeId}{len sz:Nat}{agg:Bool}{parts:Array (Nat×Operand)}{zs cs xs:List AV}(hu:E.P.underlying t=some (.slice e))(ht:tyOf E.P e=some (sz,agg))(hz:qh9 E.P e len=some zs)
  (hf:qdb (λi=>some (i*sz,sz)) zs (vz N s parts)=some cs) (nc:(vz N s parts).map Prod.snd=xs) (d5:xs.length=len) (o8:flat xs=cs) (hw:xs.all (λx=>Ql x.cells.length sz)=true) (o6:Qt (len*sz) 16777216=true)
  (h:AOps E rd N ops rest K (s.put d (.sl sz xs none))):AOps E rd N ops (⟨d,.buildSlice t len parts,T,p,af,none⟩::rest) K s:=by
 refine q9 rfl (q8 nofun λB0 w0 G a w _ hI=>?_);obtain⟨c',a8,h2⟩:=qnm (d:=d) (T:=T) (p:=p) (af:=af) hI hu ht hz hf o6;obtain⟨d7,hA⟩:=hI.agree.newPub e c' (0,0) c'.toList (λi y hy=>by simpa using hy);refine⟨.slice (some ⟨w.heap.size,0,none⟩) len len,w.alloc (.cells c' e),_,.sl sz xs none,s.st,a8,d7,hA,?_,h⟩;rw[<-d5]
 cases xs with
 |nil=>exact .sl0 sz none _ _ Sx
 |cons x0 xr=>
  refine .sl sz _ none w.heap.size 0 _ c'.toList (by simp[Gh.publish]) (λx hx=>?_) (by rw[o8,h2.1];simp) (λk x y g1 g2=>?_) (λt ht=>by simp at ht) (Qe _)
  .exact Qx (Qv.1 hw x hx)
  .rw[o8]at g1
   exact(h2.2 k x y g1 (by simpa using g2)).mono d7
end
end Go.Av
namespace Go.Av
open Go Go.RowKit
inductive qcg (n:Nat):List AObj->List AObj->Prop
 |nil:qcg n [] []
 |same {l l':List AObj} (x:AObj) (h:qcg n l l'):qcg n (x::l) (x::l')
 |cut {l l':List AObj} {x x':AObj} (hx:qkb n x') (h:qcg n l l'):qcg n (x::l) (x'::l')
 |loop {l l':List AObj} {ls ls':LoopState} {pend pend':Option Code} {N:Nat} {t:Nat->AV} {ps:Array Tmp} {asg body:Code} (h:qcg n l l'):qcg n (.loop ls pend N t ps asg body::l) (.loop ls' pend' N t ps asg body::l')
theorem qkn(n:Nat):∀l,qcg n l l
 | []=>.nil
 |x::l=>.same x (qkn n l)
theorem qmh{n:Nat}{l l':List AObj}(h:qcg n l l'):∀st,qcg n (st++l) (st++l')
 | []=>h
 |x::st=>.same x (qmh h st)
theorem qcg.length{n:Nat}{l l':List AObj}(h:qcg n l l'):l'.length=l.length:=by
 induction h with
 |nil=>rfl
 |_=>simpa
theorem qcg.get{n:Nat}{l l':List AObj}(h:qcg n l l')(hc:∀(o:Nat)(x:AObj),l[o]?=some x->qkb n x):∀(o:Nat)(x:AObj),l'[o]?=some x->qkb n x:=by
 induction h with
 |nil=>exact hc
 |same y h ih=>
  intro o x hx
  cases o with
  |zero=>exact hc 0 x hx
  |succ o=>exact ih (λo x h=>hc (o+1) x h) o x (by simpa using hx)
 |cut i4 h ih=>
  intro o x hx
  cases o with
  |zero=>simp at hx;subst hx;exact i4
  |succ o=>exact ih (λo x h=>hc (o+1) x h) o x (by simpa using hx)
 |loop h ih=>
  intro o x hx
  cases o with
  |zero=>simp at hx;subst hx;have h0:=hc 0 _ rfl;exact h0
  |succ o=>exact ih (λo x h=>hc (o+1) x h) o x (by simpa using hx)
theorem q8s{E:Env}{o:Nat}{xs:List AV}{st:List AObj}{R:Bool->List AObj->Prop}
  (h:yz E o xs st λb st2=>∃st1 ext,st2=st1++ext∧qcg st.length st st1∧R b st1):yz E o xs st R:=by
 refine⟨λB0 w0 G vals w hL hA hR=>?_⟩;obtain⟨f,tmps,asg,body,h1,h2⟩:=h.run B0 w0 G vals w hL hA hR;refine⟨f,tmps,asg,body,h1,h2.mono ?_⟩;rintro e w' ⟨b,G',st2,he,hG,hA',st1,ext,rfl,hk,hRR⟩;have d7:=hG.cut;rw[hA.n]at d7;refine⟨b,G'.cut st.length,st1,he,d7,?_,hRR⟩;have hd:=hk.get (λo x hx=>hA.cutOb hx);have hl:=hk.length;rw[<-hl]at hd⊢;exact hA'.drop hd
theorem qtk{n ver:Nat}{T:TypeId}{cs:List AV}(h:∀x∈cs,Cut n x):qkb n (.cells ver T cs):=h
theorem q02{n a b:Nat}{T:TypeId}:qkb n (.tip a b T):=trivial
theorem zff{n o ver off:Nat}(h:o<n):Cut n (.bx o ver off):=qht (.bx o ver off h)
theorem q03{n tp:Nat}{l:List UInt8}(h:tp<n):Cut n (.sl 1 (l.map λc=>.v (.int .u8 (c.toNat:Nat))) (some tp)):=by
 refine qht (.sl 1 _ _ (λi x hx=>?_) (λt ht=>by simp at ht;omega));have:=qkk l;rw[this]at hx;simp only[Qq]at hx
 cases hq:l[i]?with
 |none=>simp[hq]at hx
 |some c=>simp[hq]at hx;subst hx;exact .v _
def qlw(F:LoopState->Option Code->AObj)(N:Nat)(t:Nat->AV)(ps:Array Tmp)(asg body:Code):Prop:=∀ls pend,F ls pend=AObj.loop ls pend N t ps asg body
theorem zc8{n:Nat}{l l':List AObj}{F:LoopState->Option Code->AObj}{ls ls':LoopState}{pend pend':Option Code}{N:Nat}{t:Nat->AV}{ps:Array Tmp}{asg body:Code}(hF:qlw F N t ps asg body)(h:qcg n l l'):qcg n (F ls pend::l) (F ls' pend'::l'):=by
 rw[hF,hF];exact .loop h
@[reducible] def zpa (o : Nat) (F : LoopState → Option Code → AObj) (R : Bool → List AObj → Prop) : Exit → AS → Prop
 |.normal,s=>s.st[o]?=some (F .busy none)∧R true (s.st.set o (F .ready none))
 |.ret,s=>s.st[o]?=some (F .busy none)∧R false (s.st.set o (F .done (some .ret)))
 |.exit id,s=>s.st[o]?=some (F .busy none)∧R false (s.st.set o (F .done (some (.exit id))))
 |_,_=>False
theorem qoi{E:Env}{o N:Nat}{t:Nat->AV}{ps:Array Tmp}{asg body:Code}{st:List AObj}{R:Bool->List AObj->Prop}{xs:List AV}{F:LoopState->Option Code->AObj}(hF:qlw F N t ps asg body)(ho:st[o]?=some (F .ready none))(hps:ps.size=xs.length)
  (h:∀l,AWp E (some l) N asg (only λs1=>s1.st[o]?=some (F .ready none)∧s1.df=[]∧AWp E (some l) N body (zpa o F R) ⟨s1.t,s1.st.set o (F .busy none),[]⟩) ⟨qmu t (ps.toList.zip xs),st,[]⟩):yz E o xs st R:=by
 refine q8q (N:=N) (t:=t) (ps:=ps) (asg:=asg) (body:=body) (by rw[ho,hF]) hps λl=>(h l).mono λe s1 hq=>?_
 cases e with
 |normal=>
  obtain⟨h1,h2,h3⟩:=hq;refine⟨by rw[h1,hF],h2,?_⟩;rw[hF]at h3;refine h3.mono λe s2 s4=>?_
  cases e with
  |normal=>obtain⟨k1,k2⟩:=s4;exact⟨by rw[k1,hF],by rw[hF]at k2;exact k2⟩
  |ret=>obtain⟨k1,k2⟩:=s4;exact⟨by rw[k1,hF],by rw[hF]at k2;exact k2⟩
  |exit id=>obtain⟨k1,k2⟩:=s4;exact⟨by rw[k1,hF],by rw[hF]at k2;exact k2⟩
  |_=>exact s4.elim
 |_=>exact hq.elim
theorem qkg{E:Env}{N:Nat}{Q:Exit->AS->Prop}{s:AS}{f:Operand}{ps:Array Tmp}{asg body:Code}{st loc:List AObj}{g:FuncId}{fs cs:List AV}(e7:s.st=st++loc)(hx:ql N s f=.fn (.func g) fs cs)
  (a8:∀vs w,(callFunc g vs).run E.P w=.ok (.enter g vs) w)
  (h:∀F,qlw F N s.t ps asg body->qp E g (fs++[.yd (st.length+(loc.length+1))]++cs) (st++(loc++[.dfr,F .ready none])) λ_ st'=>∃ls pend,ls≠LoopState.busy∧st'[st.length+(loc.length+1)]?=some (F ls pend)∧
   match pend with
   |none=>Q .normal ⟨s.t,st'.set (st.length+(loc.length+1)) .dead,(st.length+loc.length)::s.df⟩
   |some c=>AWp E none N c Q ⟨s.t,st'.set (st.length+(loc.length+1)) .dead,(st.length+loc.length)::s.df⟩):AWp E none N (.rangeFunc f ps asg body) Q s:=
 q26 e7 hx a8 ((h (λls pend=>.loop ls pend N s.t ps asg body) (λ_ _=>rfl)).mono λ_ _ ⟨ls,pend,h1,h2,h3⟩=>⟨ls,pend,h1,h2,h3⟩)
theorem qgx{E:Env}{rd:Option Nat}{N:Nat}{c:Code}{Q:Exit->AS->Prop}{s:AS}(L:List (Nat×AV))(st':List AObj)(df':List Nat)(h:HasL s.t L)(e7:s.st=st')(m8:s.df=df')(k:∀t,AWp E rd N c Q ⟨puts t L,st',df'⟩):AWp E rd N c Q s:=by
 have:=k s.t;rw[qk4 h,<-e7,<-m8]at this;exact this
theorem qi9{E:Env}{B0:Nat}{w0:World}{N:Nat}{G:Gh}{s:AS}{a:Act}{w:World}(hI:Inv B0 w0 N G s a w){x:Operand}{t:TypeId}{sz:Nat}{agg:Bool}{o ver off:Nat}{T':TypeId}{cs:List AV}{r:AV}(hx:ql N s x=.bx o ver off)(ho:s.st[o]?=some (.cells ver T' cs))(ht:tyOf E.P t=some (sz,agg))(hr:ke sz agg off cs=some r):
  ∃b v,a.eval x=.pointer (some ⟨b,off,none⟩)∧(loadVar t ⟨b,off,none⟩).run E.P w=.ok v w∧Rel G r v:=by
 have he:=hI.eval_of hx;generalize hv:a.eval x=v at he
 cases he with
 |bx _ _ _ b hn dk hb=>
  obtain⟨_,h1,h2,h3,c,h4,h5,h6⟩:=hI.agree.ob o _ ho;have hb:=hb h1;rw[hb]at h4
  obtain⟨v,a8,hR⟩:=qb2 (w:=w) (G:=G) (b:=b) (off:=off) (off':=off) ht (λi x hx hi=>by
   obtain⟨y,hy⟩:=wz hx (Zn h5);refine⟨y,?_,h6 i x y hx hy⟩
   simp[World.cell?,h4,show off+(i-off)=i by omega,hy]) hr
  exact⟨b,v,rfl,a8,hR⟩
theorem zcb{E:Env}{fn:Func}{s:AS}{t u:Tmp}{Ta Tb:TypeId}{o1 v1 f1 sz1:Nat}{agg1:Bool}{T1:TypeId}{cs1:List AV}{r1:AV}{o2 v2 f2 sz2:Nat}{agg2:Bool}{T2:TypeId}{cs2:List AV}{r2:AV}(hr:fn.results= #[.cell t Ta,.cell u Tb])
  (hx1:ql fn.ntmps s (.tmp t)=.bx o1 v1 f1) (ho1:s.st[o1]?=some (.cells v1 T1 cs1)) (tz:tyOf E.P Ta=some (sz1,agg1)) (br:ke sz1 agg1 f1 cs1=some r1)
  (hx2:ql fn.ntmps s (.tmp u)=.bx o2 v2 f2) (mv:s.st[o2]?=some (.cells v2 T2 cs2)) (ht2:tyOf E.P Tb=some (sz2,agg2)) (pm:ke sz2 agg2 f2 cs2=some r2):ARes E fn s (.tu [r1,r2]):=by
 refine⟨λB0 w0 G a w _ hI=>?_⟩;obtain⟨b1,y1,e1,e2,e3⟩:=qi9 hI hx1 ho1 tz br;obtain⟨b2,y2,k1,k2,k3⟩:=qi9 hI hx2 mv ht2 pm;simp only[Act.eval,Qn]at e1 k1;refine⟨.tuple #[y1,y2],?_,qfn e3 k3⟩;simp[results,hr,e1,k1,asAddr,e2,k2]
theorem qqa{E:Env}{fn:Func}{R:AV->List AObj->Prop}{s:AS}{st loc:List AObj}{k:Nat}{ds:List Nat}(hs:s.st=st++loc)(hd:s.df=(st.length+k)::ds)(ho:loc[k]?=some .dfr)(h:ARet E fn R ⟨s.t,st++loc.set k .dead,ds⟩):ARet E fn R s:=
 qqt hd (by rw[hs];exact j9 ho) (by rw[hs,y7];exact h)
theorem qnj{E:Env}{fn:Func}{s:AS}{t u:Tmp}{Ta Tb:TypeId}{st loc:List AObj}{k1 v1 f1 sz1:Nat}{agg1:Bool}{T1:TypeId}{cs1:List AV}{r1:AV}{k2 v2 f2 sz2:Nat}{agg2:Bool}{T2:TypeId}{cs2:List AV}{r2:AV}(hr:fn.results= #[.cell t Ta,.cell u Tb])(hs:s.st=st++loc)
  (hx1:ql fn.ntmps s (.tmp t)=.bx (st.length+k1) v1 f1) (ho1:loc[k1]?=some (.cells v1 T1 cs1)) (tz:tyOf E.P Ta=some (sz1,agg1)) (br:ke sz1 agg1 f1 cs1=some r1)
  (hx2:ql fn.ntmps s (.tmp u)=.bx (st.length+k2) v2 f2) (mv:loc[k2]?=some (.cells v2 T2 cs2)) (ht2:tyOf E.P Tb=some (sz2,agg2)) (pm:ke sz2 agg2 f2 cs2=some r2):ARes E fn s (.tu [r1,r2]):=
 zcb hr hx1 (by rw[hs];exact j9 ho1) tz br hx2 (by rw[hs];exact j9 mv) ht2 pm
@[reducible] def Wv (x : BitVec 32) : AV := .v (.int .u32 (x.toNat : Nat))
theorem qir(n:Nat):IntKind.u32.wrap (n:Int)=((n%4294967296:Nat):Int):=by
 simp[IntKind.wrap,IntKind.bits,IntKind.signed]
theorem ji(x:BitVec 32):BitVec.ofInt 32 (x.toNat:Int)=x:=by
 rw[BitVec.ofInt_natCast,BitVec.ofNat_toNat];simp
theorem qh7(x:BitVec 32):IntKind.u32.wrap (x.toNat:Int)=(x.toNat:Int):=by
 rw[qir,Qf x.isLt]
section
variable {E : Env} {rd : Option Nat} {N : Nat} {ops : Array Oper} {K : AS → Prop} {s : AS} {rest : List Oper} {d : Option Tmp} {T : TypeId} {p : String} {af : Array Edge}
theorem qyy(x:BitVec 32):((x.toNat:Nat):Int)=0↔x=0#32:=by
 constructor
 .intro h
  apply BitVec.eq_of_toNat_eq
  simpa using h
 .rintro rfl
  rfl
theorem qdx{x y:Operand}{t t':TypeId}{m n:Int}{a b:BitVec 32}(hx:ql N s x=.v (.int .u32 m))(hy:ql N s y=.v (.int .u32 n))(ha:BitVec.ofInt 32 m=a)(hb:BitVec.ofInt 32 n=b)(h:AOps E rd N ops rest K (s.put d (Wv (a^^^b)))):AOps E rd N ops (⟨d,.binOp .xor t x y t',T,p,af,none⟩::rest) K s:=
 zij hx hy (by subst ha;subst hb;simp only[qdy,IntKind.bits];rw[qh7];rfl) h
theorem qkd{x y:Operand}{t t':TypeId}{m n:Int}{a b:BitVec 32}(hx:ql N s x=.v (.int .u32 m))(hy:ql N s y=.v (.int .u32 n))(ha:BitVec.ofInt 32 m=a)(hb:BitVec.ofInt 32 n=b)(h:AOps E rd N ops rest K (s.put d (Wv (a&&& b)))):AOps E rd N ops (⟨d,.binOp .and t x y t',T,p,af,none⟩::rest) K s:=
 zie hx hy (by subst ha;subst hb;simp only[qdy,IntKind.bits];rw[qh7];rfl) h
theorem q0l{x y:Operand}{t t':TypeId}{m n:Int}{a b:BitVec 32}(hx:ql N s x=.v (.int .u32 m))(hy:ql N s y=.v (.int .u32 n))(ha:BitVec.ofInt 32 m=a)(hb:BitVec.ofInt 32 n=b)(h:AOps E rd N ops rest K (s.put d (Wv (a|||b)))):AOps E rd N ops (⟨d,.binOp .or t x y t',T,p,af,none⟩::rest) K s:=
 zlw hx hy (by subst ha;subst hb;simp only[qdy,IntKind.bits];rw[qh7];rfl) h
theorem qhk{x:Operand}{t:TypeId}{a:BitVec 32}(hx:ql N s x=Wv a)(h:AOps E rd N ops rest K (s.put d (Wv (~~~ a)))):AOps E rd N ops (⟨d,.unOp .xor t x,T,p,af,none⟩::rest) K s:=
 zb8 hx (by
  simp only[qdy,IntKind.bits,IntKind.signed,Bool.false_eq_true,if_false];rw[ji];have h1:BitVec.ofInt 32 IntKind.u32.max=BitVec.allOnes 32:=by decide
  have h2:BitVec.ofInt 32 IntKind.u32.max^^^a= ~~~ a:=by rw[h1,BitVec.xor_comm,BitVec.xor_allOnes]
  exact(congrArg (λz:BitVec 32=>IntKind.u32.wrap (z.toNat:Int)) h2).trans (qh7 _)) h
theorem qe7{x y:Operand}{t t':TypeId}{yk:IntKind}{a:BitVec 32}{n:Nat}(hx:ql N s x=Wv a)(hy:ql N s y=.v (.int yk (n:Int)))(hn:Qt n 32=true)(h:AOps E rd N ops rest K (s.put d (Wv (a<<<n)))):AOps E rd N ops (⟨d,.binOp .shl t x y t',T,p,af,none⟩::rest) K s:=
 zih hx hy Om (by
  have hn:=Qa hn;have:min (n:Int).toNat IntKind.u32.bits=n:=by simp[IntKind.bits];omega
  rw[this];have e:(a.toNat:Int)*2^n=((a.toNat*2^n:Nat):Int):=Sx
  rw[e,qir,BitVec.toNat_shiftLeft,Nat.shiftLeft_eq]) h
theorem qhm{x y:Operand}{t t':TypeId}{yk:IntKind}{a:BitVec 32}{n:Nat}(hx:ql N s x=Wv a)(hy:ql N s y=.v (.int yk (n:Int)))(hn:Qt n 32=true)(h:AOps E rd N ops rest K (s.put d (Wv (a>>>n)))):AOps E rd N ops (⟨d,.binOp .shr t x y t',T,p,af,none⟩::rest) K s:=
 zii hx hy Om (by
  have hn:=Qa hn;have:min (n:Int).toNat IntKind.u32.bits=n:=by simp[IntKind.bits];omega
  rw[this,BitVec.toNat_ushiftRight,Qs]
  have h0:(0:Int)<=2^n:=by
   have:((2^n:Nat):Int)=(2:Int)^n:=Sx
   rw[<-this];exact Int.natCast_nonneg _
  rw[Qp _ h0]
  simp) h
theorem qiw{x y:Operand}{t e:TypeId}{len sz:Nat}{agg:Bool}{k:IntKind}{n:Nat}{cs:List AV}{r:AV}(hx:ql N s x=.ag cs)(hy:ql N s y=.v (.int k (n:Int)))(hu:E.P.underlying t=some (.array len e))(ht:tyOf E.P e=some (sz,agg))(hn:n<len)(hr:ke sz agg (n*sz) cs=some r)
  (h:AOps E rd N ops rest K (s.put d r)):AOps E rd N ops (⟨d,.index t x y,T,p,af,none⟩::rest) K s:=by
 refine q9 rfl (q8 nofun λB0 w0 G a w _ hI=>?_);have he:=hI.eval_of hx;have dj:=hI.evalv hy;generalize hv:a.eval x=v at he
 cases he with
 |ag _ vs hl i6=>
  obtain⟨i1,i2⟩:=vp ht w
  cases agg with
  |false=>
   simp only[ke,cond_false]at hr;obtain⟨z,hz⟩:=wz hr (Zn hl);refine⟨z,w,G,r,s.st,?_,.refl G,hI.agree,i6 _ r z hr hz,h⟩;generalize a.eval=ρ at hv dj;simp only[execOp,hv,dj]
   simp[Instr.index,asIntOf,run_underlying hu,hn,part,i1,i2,hz]
  |true=>
   simp only[ke,cond_true]at hr
   cases hb:Qt (n*sz+sz) cs.length with
   |false=>rw[hb]at hr;simp at hr
   |true=>
    rw[hb]at hr;simp only[cond_true,Qh]at hr;have d7:n*sz+sz<=cs.length:=Qa hb;refine⟨.agg (vs.extract (n*sz) (n*sz+sz)),w,G,r,s.st,?_,.refl G,hI.agree,?_,h⟩
    .generalize a.eval=ρ at hv dj
     simp only[execOp,hv,dj];simp[Instr.index,asIntOf,run_underlying hu,hn,part,i1,i2]
    .subst hr
     refine .ag _ _ So λi x y h1 h2=>?_;have hi:i<sz:=by have:=lt_of_getElem? h1;simp at this;omega
     simp[hi,Ze]at h1;rw[Array.getElem?_extract]at h2;split at h2
     .exact i6 (n*sz+i) x y h1 h2
     .simp at h2
theorem qch{x y:Operand}{t e:TypeId}{len sz:Nat}{agg:Bool}{k:IntKind}{n o ver off:Nat}(hx:ql N s x=.bx o ver off)(hy:ql N s y=.v (.int k (n:Int)))(hu:E.P.underlying t=some (.array len e))(ht:tyOf E.P e=some (sz,agg))(hn:n<len)
  (h:AOps E rd N ops rest K (s.put d (.bx o ver (off+n*sz)))):AOps E rd N ops (⟨d,.indexAddr t x y,T,p,af,none⟩::rest) K s:=by
 refine q9 rfl (q8 nofun λB0 w0 G a w _ hI=>?_);have he:=hI.eval_of hx;have dj:=hI.evalv hy;generalize hv:a.eval x=v at he
 cases he with
 |bx _ _ _ b nw cj hb=>
  refine⟨.pointer (some ⟨b,off+n*sz,none⟩),w,G,_,s.st,?_,.refl G,hI.agree,.bx o ver _ b nw cj hb,h⟩;generalize a.eval=ρ at hv dj;simp only[execOp,hv,dj];simp[Instr.indexAt,asIntOf,run_underlying hu,Instr.sureAddr,hn,(vp ht w).1,Addr.add_lit]
theorem qwe{x:Operand}{t t':TypeId}{k:IntKind}{n:Nat}{e:TypeDesc}(hx:ql N s x=.v (.int k (n:Int)))(hs:E.P.underlying t=some e)(hd:E.P.underlying t'=some (.int .u32))(hn:n<4294967296)
  (h:AOps E rd N ops rest K (s.put d (Wv (BitVec.ofNat 32 n)))):AOps E rd N ops (⟨d,.convert t t' x,T,p,af,none⟩::rest) K s:=
 qe6 hx hs hd (by rw[qir,Qf hn,BitVec.toNat_ofNat,Qf hn]) h
theorem qy8{x y:Operand}{t:TypeId}{sz:Nat}{agg:Bool}{st loc loc':List AObj}{k ver off:Nat}{T':TypeId}{cs xs:List AV}{r:AV}(hs:s.st=st++loc)(hx:ql N s x=.bx (st.length+k) ver off)(hy:ql N s y=r)(ho:loc[k]?=some (.cells ver T' cs))(ht:tyOf E.P t=some (sz,agg))
  (hok:r.okc=true) (hc:r.cells=xs) (o6:Ql xs.length sz=true) (h1:kc xs=true) (i9:off+sz<=cs.length) (hl:loc'=loc.set k (.cells ver T' (z4 cs off xs)))
  (h:AOps E rd N ops rest K (AS.put ⟨s.t,st++loc',s.df⟩ d (.v undef))):AOps E rd N ops (⟨d,.store t x y,T,p,af,none⟩::rest) K s:=
 jc hs hx hy ho ht hok hc o6 h1 (Qy i9) hl h
theorem zd5{cs:List AV}{off:Nat}{x:AV}(h:off<cs.length):z4 cs off [x]=cs.set off x:=by
 rw[List.set_eq_take_append_cons_drop,if_pos h];simp[z4]
theorem qdp{t:Nat->AV}{L:List (Nat×AV)}{st st':List AObj}{df:List Nat}(h:HasL t L)(e:st'=st):StA L st df ⟨t,st',df⟩:=by
 subst e;exact z6 h
theorem qzc{fn:Func}{t:Tmp}{Ta:TypeId}{st loc:List AObj}{k1 v1 f1 sz1:Nat}{agg1:Bool}{T1:TypeId}{cs1:List AV}{r1:AV}(hr:fn.results= #[.cell t Ta])(hs:s.st=st++loc)
  (hx1:ql fn.ntmps s (.tmp t)=.bx (st.length+k1) v1 f1) (ho1:loc[k1]?=some (.cells v1 T1 cs1)) (tz:tyOf E.P Ta=some (sz1,agg1)) (br:ke sz1 agg1 f1 cs1=some r1):ARes E fn s r1:=by
 refine⟨λB0 w0 G a w _ hI=>?_⟩;obtain⟨b1,y1,e1,e2,e3⟩:=qi9 hI hx1 (by rw[hs];exact j9 ho1) tz br;simp only[Act.eval,Qn]at e1;refine⟨y1,?_,e3⟩;simp[results,hr,e1,asAddr,e2]
def qnk(P:Program)(t:TypeId):Option Nat:=
 match P.underlying t with
 |some (.array _ e)=>match P.info? e with
  |some i=>some i.size
  |none=>none
 |_=>none
theorem qtd{P:Program}{t:TypeId}{sz:Nat}(h:qnk P t=some sz):∃len e i,P.underlying t=some (.array len e)∧P.info? e=some i∧i.size=sz:=by
 unfold qnk at h;split at h
 .rename_i len e hu
  split at h
  .rename_i i hi
   simp only[Qh]at h;exact⟨len,e,i,hu,hi,h⟩
  .simp at h
 .simp at h
theorem qqs{t:TypeId}{parts:Array (Nat×Operand)}{zs cs:List AV}{sz:Nat}(hz:qh8 E.P t=some zs)(hp:qnk E.P t=some sz)(hf:qdb (λi=>some (i*sz,sz)) zs (vz N s parts)=some cs)
  (h:AQ E N ops rest K (s.put d (.ag cs))):AQ E N ops (⟨d,.build t parts,T,p,af,none⟩::rest) K s:=by
 refine qfa rfl nofun λB0 w0 G a w _ hI=>?_;obtain⟨len,e,i,hu,hi,rfl⟩:=qtd hp;obtain⟨z,a8,hr⟩:=qmw hz w;obtain⟨c',h1,h2⟩:=qih (λk=>some (k*i.size,i.size)) (vz N s parts) (parts.toList.map λx=>(x.1,a.eval x.2)) zs z.cells cs (by simp[vz]) (qjw hI parts) (hr G) hf
 have dn:∃ti,E.P.info? t=some ti∧ti.zero=some z:=by
  unfold zeroValue at a8;simp[typeInfo]at a8
  cases hti:E.P.info? t with
  |none=>simp[hti]at a8
  |some ti=>
   simp[hti]at a8
   cases htz:ti.zero with
   |none=>simp[htz]at a8
   |some y=>simp[htz]at a8;exact⟨ti,rfl,by rw[htz,a8]⟩
 obtain⟨ti,g1,g2⟩:=dn;refine⟨.agg c',.ag cs,λw' _=>?_,.ag _ _ h2.1 h2.2,h⟩;generalize a.eval=ρ at h1;simp[execOp,Instr.build,run_underlying hu,zeroValue,typeInfo,g1,g2,sizeOf,hi,h1]
theorem q4p{x y:Operand}{t:TypeId}{m:List UInt8}{k:IntKind}{n:Nat}(hx:ql N s x=Sv m)(hy:ql N s y=.v (.int k (n:Int)))(hu:E.P.underlying t=some .string)(h1:n<m.length)
  (h:AQ E N ops rest K (s.put d (Uv (m.getD n 0)))):AQ E N ops (⟨d,.index t x y,T,p,af,none⟩::rest) K s:=
 qcj _ rfl nofun (λa w he=>by
  have hg:(⟨m.toArray⟩:ByteArray)[n]?=some (m.getD n 0):=by
   simp only[getElem?_def,qb3,h1,dite_true,List.getD,Option.getD_some];rfl
  simp[execOp,Instr.index,he _ _ hx,he _ _ hy,asIntOf,run_underlying hu,hg]) h
theorem qul{x:Operand}{t t':TypeId}{k:IntKind}{n:Nat}{e:TypeDesc}(hx:ql N s x=.v (.int k (n:Int)))(hs:E.P.underlying t=some e)(hd:E.P.underlying t'=some (.int .u32))(hn:n<4294967296)
  (h:AQ E N ops rest K (s.put d (Wv (BitVec.ofNat 32 n)))):AQ E N ops (⟨d,.convert t t' x,T,p,af,none⟩::rest) K s:=by
 have hr:IntKind.u32.wrap (n:Int)=(((BitVec.ofNat 32 n).toNat:Nat):Int):=by rw[qir,Qf hn,BitVec.toNat_ofNat,Qf hn]
 exact qcj _ rfl nofun (λa w he=>by rw[<-hr];simp[execOp,he _ _ hx,convert,run_underlying hs,run_underlying hd,Conv.intToInt]) h
theorem qza{x y:Operand}{t t':TypeId}{yk:IntKind}{c:UInt8}(hx:ql N s x=Uv c)(hy:ql N s y=.v (.int yk 4))(h:AQ E N ops rest K (s.put d (.v (.int .u8 ((c.toNat / 16:Nat):Int))))):AQ E N ops (⟨d,.binOp .shr t x y t',T,p,af,none⟩::rest) K s:=
 qcj _ rfl nofun (λa w he=>by
  have:(c.toNat:Int).fdiv (2^(min (4:Int).toNat IntKind.u8.bits))=((c.toNat / 16:Nat):Int):=by
   rw[Qp _ (by decide)];simp[IntKind.bits]
  rw[<-this]
  simp[execOp,he _ _ hx,he _ _ hy,eqGuard_at_int,binOp_shr,Op.shift]) h
theorem quj{x y:Operand}{t t':TypeId}{c:UInt8}(hx:ql N s x=Uv c)(hy:ql N s y=.v (.int .u8 15))(h:AQ E N ops rest K (s.put d (.v (.int .u8 ((c.toNat%16:Nat):Int))))):AQ E N ops (⟨d,.binOp .and t x y t',T,p,af,none⟩::rest) K s:=
 zn9 hx hy (by
  simp only[qdy,IntKind.bits];have h1:BitVec.ofInt 8 (c.toNat:Int)=c.toBitVec:=by rw[BitVec.ofInt_natCast];simp
  have h2:(BitVec.ofInt 8 (c.toNat:Int)&&& BitVec.ofInt 8 15).toNat=c.toNat%16:=by
   rw[h1,BitVec.toNat_and];exact Nat.and_two_pow_sub_one_eq_mod c.toNat 4
  have h3:IntKind.u8.wrap ((c.toNat%16:Nat):Int)=((c.toNat%16:Nat):Int):=by
   simp[IntKind.wrap,IntKind.bits,IntKind.signed];omega
  exact(congrArg (λz:Nat=>IntKind.u8.wrap (z:Int)) h2).trans h3) h
theorem q8n{x y:Operand}{t t':TypeId}{yk:IntKind}{a:BitVec 32}{m:Int}{n:Nat}(hx:ql N s x=Wv a)(hy:ql N s y=.v (.int yk m))(hm:m=(n:Int))(hn:n<=32)(h:AOps E rd N ops rest K (s.put d (Wv (a>>>n)))):AOps E rd N ops (⟨d,.binOp .shr t x y t',T,p,af,none⟩::rest) K s:=
 qhm hx (hm▸hy) (Qy hn) h
theorem and15_lt(x:BitVec 32):(x&&& BitVec.ofInt 32 15).toNat<16:=by
 rw[BitVec.toNat_and];exact Zf Nat.and_le_right (by decide)
theorem q0k{x y:Operand}{t t':TypeId}{k:IntKind}{m n:Nat}(hx:ql N s x=.v (.int k (m:Int)))(hy:ql N s y=.v (.int k (n:Int)))(hf:k.wrap ((m+n:Nat):Int)=((m+n:Nat):Int))
  (h:AOps E rd N ops rest K (s.put d (.v (.int k ((m+n:Nat):Int))))):AOps E rd N ops (⟨d,.binOp .add t x y t',T,p,af,none⟩::rest) K s:=
 zn hx hy (by rw[<-Int.natCast_add];exact hf) h
theorem qqr{x y:Operand}{t t':TypeId}{k:IntKind}{m n:Nat}(hx:ql N s x=.v (.int k (m:Int)))(hy:ql N s y=.v (.int k (n:Int)))(hn:n≠0)(hf:k.wrap ((m / n:Nat):Int)=((m / n:Nat):Int))
  (h:AOps E rd N ops rest K (s.put d (.v (.int k ((m / n:Nat):Int))))):AOps E rd N ops (⟨d,.binOp .quo t x y t',T,p,af,none⟩::rest) K s:=
 q4k hx hy Om (by rw[Int.tdiv_eq_ediv_of_nonneg Om,<-Int.natCast_ediv];exact hf) h
theorem q0m{x y:Operand}{t t':TypeId}{k:IntKind}{m n:Nat}(hx:ql N s x=.v (.int k (m:Int)))(hy:ql N s y=.v (.int k (n:Int)))(hn:n≠0)
  (h:AOps E rd N ops rest K (s.put d (.v (.int k ((m%n:Nat):Int))))):AOps E rd N ops (⟨d,.binOp .rem t x y t',T,p,af,none⟩::rest) K s:=
 q4l hx hy Om (by rw[Int.tmod_eq_emod_of_nonneg Om,<-Int.natCast_emod];exact h)
theorem qoa{n:Nat}(h:n<18446744073709551616):IntKind.u64.wrap (n:Int)=(n:Int):=by
 simp[IntKind.wrap,IntKind.bits,IntKind.signed];omega
theorem q0h{n:Nat}(h:n<4294967296):IntKind.u32.wrap (n:Int)=(n:Int):=by
 rw[qir,Qf h]
end
end Go.Av
namespace Go.Av
open Go Go.RowKit
section
variable {E : Env} {rd : Option Nat} {N : Nat} {ops : Array Oper} {K : AS → Prop} {s : AS} {rest : List Oper} {d : Option Tmp} {T : TypeId} {p : String} {af : Array Edge}
theorem qhl{x lo:Operand}{t:TypeId}{m r:List UInt8}{k:IntKind}{n:Nat}(hr:m.drop n=r)(hx:ql N s x=Sv m)(hl:ql N s lo=.v (.int k (n:Int)))(hu:E.P.underlying t=some .string)(h1:n<=m.length)
  (h:AOps E rd N ops rest K (s.put d (Sv r))):AOps E rd N ops (⟨d,.slice t x (some lo) none none,T,p,af,none⟩::rest) K s:=
 qgu hx hl hu h1 (by rw[hr];exact h)
end
end Go.Av
namespace Go.Av
open Go Go.RowKit
section
variable {E : Env} {rd : Option Nat} {N : Nat} {ops : Array Oper} {K : AS → Prop} {s : AS} {rest : List Oper} {d : Option Tmp} {T : TypeId} {p : String} {af : Array Edge}
def qss:TypeDesc->Bool
 |.interface _=>false
 |_=>true
def q3z(P:Program)(t:TypeId):Option Value:=match P.info? t with|some i=>i.zero|none=>none
theorem q20{P:Program}{t:TypeId}{z:Value}(h:q3z P t=some z)(w:World):(zeroValue t).run P w=.ok z w:=by
 unfold q3z at h;split at h
 .rename_i i hi
  simp[zeroValue,typeInfo,hi,h]
 .simp at h
theorem qe5{x:Operand}{xt t:TypeId}{D:TypeDesc}{y:AV}(hx:ql N s x=.ifc t y)(hu:E.P.underlying t=some D)(hn:qss D=true)
  (h:AOps E rd N ops rest K (s.put d (.tu [y,Bv true]))):AOps E rd N ops (⟨d,.typeAssert x xt t true,T,p,af,none⟩::rest) K s:=by
 refine q9 rfl (q8 nofun λB0 w0 G a w _ hI=>?_);have he:=hI.eval_of hx;generalize hv:a.eval x=v at he
 cases he with
 |ifc _ _ z hz=>
  refine⟨.tuple #[z,.bool true],w,G,_,s.st,?_,.refl G,hI.agree,qfn hz (.v _),h⟩;generalize a.eval=ρ at hv
  cases D<;>first|(simp[qss]at hn;done)|simp[execOp,Instr.typeAssert,hv,run_underlying hu]
theorem qly{x:Operand}{xt t u:TypeId}{D:TypeDesc}{y:AV}{z:Value}(hx:ql N s x=.ifc u y)(hu:E.P.underlying t=some D)(hn:qss D=true)(b9:Ql u t=false)(hz:q3z E.P t=some z)
  (h:AOps E rd N ops rest K (s.put d (.tu [.v z,Bv false]))):AOps E rd N ops (⟨d,.typeAssert x xt t true,T,p,af,none⟩::rest) K s:=by
 refine q9 rfl (q8 nofun λB0 w0 G a w _ hI=>?_);have he:=hI.eval_of hx;generalize hv:a.eval x=v at he;have hne':u≠t:=λe=>by subst e;simp at b9
 have dn:=q20 hz w
 cases he with
 |ifc _ _ q hq=>
  refine⟨.tuple #[z,.bool false],w,G,_,s.st,?_,.refl G,hI.agree,qfn (.v _) (.v _),h⟩;generalize a.eval=ρ at hv
  cases D<;>first|(simp[qss]at hn;done)|simp[execOp,Instr.typeAssert,hv,run_underlying hu,hne',dn]
theorem qy6{x:Operand}{xt t:TypeId}{D:TypeDesc}{z:Value}(hx:ql N s x=.v .nilIface)(hu:E.P.underlying t=some D)(hn:qss D=true)(hz:q3z E.P t=some z)
  (h:AOps E rd N ops rest K (s.put d (.tu [.v z,Bv false]))):AOps E rd N ops (⟨d,.typeAssert x xt t true,T,p,af,none⟩::rest) K s:=by
 refine q9 rfl (q8 nofun λB0 w0 G a w _ hI=>?_);have hv:=hI.evalv hx;have dn:=q20 hz w;refine⟨.tuple #[z,.bool false],w,G,_,s.st,?_,.refl G,hI.agree,qfn (.v _) (.v _),h⟩;generalize a.eval=ρ at hv
 cases D<;>first|(simp[qss]at hn;done)|simp[execOp,Instr.typeAssert,hv,run_underlying hu,dn]
end
end Go.Av
namespace Go.Proofs.YtlekheifonaipaaGreatDoor
open Go Go.Av Go.RowKit Go.Proofs
structure Laid (w:World):Prop where
 shaped:World.ShapedOpen Tryz.prog w
 pow:Lib.TabIs Tryz.prog w "internal/strconv.uint64pow10" .u64 Lib.pow10Tab
 syn:∃tp p,World.var? Tryz.prog w "strconv.ErrSyntax" =some #[.iface tp p]
 ran:∃tp p,World.var? Tryz.prog w "strconv.ErrRange" =some #[.iface tp p]
 ert:w.cell? ⟨0,0,none⟩=some (.iface 331 (.agg #[.pointer (some ⟨9,25,none⟩)]))
@[reducible] noncomputable def E : Env := ⟨Tryz.prog, fun B0 w0 => ∀ w, Below B0 w0 w → Laid w⟩
theorem qwy(l m:List UInt8)(st:List AObj)(hl:l.length<4294967281):qp E 197 [Sv l,Sv m] st λr st'=>r=Bv (Lib.contains l m)∧st'=st:=
 qay (vals:= #[.string ⟨l.toArray⟩,.string ⟨m.toArray⟩]) rfl λ_ _ w hL hb=>(Tryz.strings_Contains_shaped ⟨l.toArray⟩ ⟨m.toArray⟩ w (hL w hb).shaped (by simpa[ByteArray.size]using hl)).mono λ_ _ ⟨h1,h2⟩=>⟨h1,qfx h2⟩
theorem qf1(l m:List UInt8)(st:List AObj):qp E 155 [Sv l,Sv m] st λr st'=>r=Bv (Lib.hasPrefix l m)∧st'=st:=
 qay (vals:= #[.string ⟨l.toArray⟩,.string ⟨m.toArray⟩]) rfl λ_ _ w _ _=>(Tryz.strings_HasPrefix ⟨l.toArray⟩ ⟨m.toArray⟩ w).mono λ_ _ ⟨h1,h2⟩=>⟨h1,qfx h2⟩
theorem qtt(l m:List UInt8)(st:List AObj)(hl:l.length<=9223372036854775807):qp E 119 [Sv l,Sv m] st λr st'=>r=Bv (Lib.hasSuffix l m)∧st'=st:=
 qay (vals:= #[.string ⟨l.toArray⟩,.string ⟨m.toArray⟩]) rfl λ_ _ w _ _=>(Tryz.strings_HasSuffix ⟨l.toArray⟩ ⟨m.toArray⟩ w (by simpa[ByteArray.size]using hl)).mono λ_ _ ⟨h1,h2⟩=>⟨h1,qfx h2⟩
theorem qwz(l m:List UInt8)(st:List AObj)(hl:l.length<4294967281):qp E 104 [Sv l,Sv m] st λr st'=>r=.tu [Sv (Lib.cut l m).1,Sv (Lib.cut l m).2.1,Bv (Lib.cut l m).2.2]∧st'=st:=
 qka (vals:= #[.string ⟨l.toArray⟩,.string ⟨m.toArray⟩]) (rs:= #[.string ⟨(Lib.cut l m).1.toArray⟩,.string ⟨(Lib.cut l m).2.1.toArray⟩,.bool (Lib.cut l m).2.2]) rfl λ_ _ w hL hb=>(Tryz.strings_Cut_shaped ⟨l.toArray⟩ ⟨m.toArray⟩ w (hL w hb).shaped (by simpa[ByteArray.size]using hl)).mono λ_ _ ⟨h1,n,h2⟩=>⟨h1,h2▸q8u w n⟩
theorem qfz(l m:List UInt8)(st:List AObj):qp E 202 [Sv l,Sv m] st λr st'=>r=.tu [Sv (Lib.trimPrefix l m),Bv (Lib.hasPrefix l m)]∧st'=st:=
 qka (vals:= #[.string ⟨l.toArray⟩,.string ⟨m.toArray⟩]) (rs:= #[.string ⟨(Lib.trimPrefix l m).toArray⟩,.bool (Lib.hasPrefix l m)]) rfl λ_ _ w _ _=>(Tryz.strings_CutPrefix ⟨l.toArray⟩ ⟨m.toArray⟩ w).mono λ_ _ ⟨h1,h2⟩=>⟨h1,qfx h2⟩
theorem qrf(n:Int)(st:List AObj)(h0: -9223372036854775808<=n)(h1:n<=9223372036854775807):qp E 117 [Iv n] st λr st'=>r=Sv (Lib.itoa n)∧st'=st:=
 qay (vals:= #[.int .i64 n]) rfl λ_ _ w hL hb=>(Tryz.strconv_Itoa n h0 h1 w (hL w hb).pow).mono λ_ _ ⟨h1,k,os,h2⟩=>⟨h1,h2▸zcl w k os⟩
theorem zkx(l:List UInt8)(c:Nat)(st:List AObj)(h0:c<=9223372036854775807)(h1:l.length*c<=140737488355328):qp E 205 [Sv l,Iv c] st λr st'=>r=Sv (Lib.repeatL l c)∧st'=st:=
 qay (vals:= #[.string ⟨l.toArray⟩,.int .i64 c]) rfl λ_ _ w _ _=>(Tryz.strings_Repeat ⟨l.toArray⟩ c w h0 (by simpa[ByteArray.size]using h1)).mono λ_ _ ⟨h1,h2⟩=>⟨h1,h2⟩
theorem zh2(l m:List UInt8)(st:List AObj)(hl:l.length<=9223372036854775807)(hm:m.length<4294967281)(ha:∀(j:Nat)(b:UInt8),m[j]?=some b->b.toNat<128):qp E 198 [Sv l,Sv m] st λr st'=>r=Sv (Lib.trimS l m)∧st'=st:=
 qay (vals:= #[.string ⟨l.toArray⟩,.string ⟨m.toArray⟩]) rfl λ_ _ w _ _=>(Any.strings_Trim_laid Tryz.lays160t Kr ⟨l.toArray⟩ ⟨m.toArray⟩ w (by simpa[ByteArray.size]using hl) (by simpa[ByteArray.size]using hm) (by simpa using ha)).mono λ_ _ ⟨h1,h2⟩=>⟨h1,h2⟩
theorem q8t{w w':World}{T:TypeId}{s:ByteArray}(h:w'=w∨∃t,w'=Lib.bytesWorld w T t):Below w.heap.size w w':=by
 rcases h with rfl |⟨t,rfl⟩
 .exact Below.refl _ _
 .unfold Lib.bytesWorld
  exact Lib.below_freeze ((Below.drew (Below.refl w.heap.size w)).alloc (Qe _) _) (p:=⟨w.heap.size,_,none⟩) (Qe _) _
theorem qv6{f:FuncId}{st:List AObj}{args:List AV}{vals:Array Value}{R:Int->Option (TypeId×Value)->Prop}(ha:args=vals.toList.map .v)
  (h:∀B0 w0 w,E.L B0 w0->Below B0 w0 w->Calls E.P f vals w λe w'=>∃n x,e=.returned (.tuple #[.int .i64 n,match x with|none=>.nilIface|some (t,y)=>.iface t y])∧R n x∧Below w.heap.size w w'):
  qp E f args st λr st'=>st'=st∧∃n x,r=.tu [Iv n,match x with|none=>.v .nilIface|some (t,y)=>.ifc t (.v y)]∧R n x:=by
 subst ha;refine⟨λB0 w0 G vs w hL hA hR=>?_⟩
 have hv:vs=vals:=by
  have hs:vs.size=vals.size:=by have:=hR.1;simpa using this.symm
  apply Zs hs;intro i h1 h2;have:=hR.2 i (.v vals[i]) vs[i] (by simp[h2]) (by simp[h1]);generalize vs[i]=y at this
  cases this
  rfl
 subst hv;refine(h B0 w0 w hL hA.below).mono ?_;rintro e w' ⟨n,x,rfl,hRR,hb⟩;refine⟨_,G,_,st,rfl,.refl G,hA.fresh hb,qfn (.v _) ?_,rfl,n,x,rfl,hRR⟩
 cases x with
 |none=>exact .v _
 |some p=>exact .ifc _ _ _ (.v _)
theorem qqu(l:List UInt8)(st:List AObj)(hl:l.length<=281474976710656):qp E 105 [Sv l] st λr st'=>st'=st∧∃n x,r=.tu [Iv n,match x with|none=>.v .nilIface|some (t,y)=>.ifc t (.v y)]∧match x with|none=>Lib.atoiAll l=.ok n|some _=>∀v,Lib.atoiAll l≠.ok v:=by
 refine qv6 (vals:= #[.string ⟨l.toArray⟩]) (R:=λn x=>match x with|none=>Lib.atoiAll l=.ok n|some _=>∀v,Lib.atoiAll l≠.ok v) rfl λB0 w0 w hL hb=>?_;have hls:(⟨l.toArray⟩:ByteArray).data.toList=l:=rfl;rcases ho:Lib.atoiAll l with v|_|_
 .
  refine(Tryz.strconv_Atoi_ok ⟨l.toArray⟩ (by simp[ByteArray.size];omega) v (by rw[hls];exact ho) w).mono ?_;rintro e w' ⟨rfl,hw⟩;exact⟨v,none,rfl,rfl,q8t (s:=⟨l.toArray⟩) hw⟩
 .
  obtain⟨tp,p,hv⟩:=(hL w hb).syn;refine(Any.strconv_Atoi_syntax_var Tryz.laysC172 ⟨l.toArray⟩ (by simpa[ByteArray.size]using hl) (by rw[hls];exact ho) tp p w hv).mono ?_;rintro e w' ⟨N,rfl,_,_,hw⟩;exact⟨_,some (_,_),rfl,Sx,hw⟩
 .
  obtain⟨tp,p,hv⟩:=(hL w hb).ran;refine(Tryz.strconv_Atoi_range_var ⟨l.toArray⟩ (by simpa[ByteArray.size]using hl) (by rw[hls];exact ho) tp p w hv).mono ?_;rintro e w' ⟨N,rfl,_,_,hw⟩;exact⟨_,some (_,_),rfl,Sx,hw⟩
theorem q0d(l m:List UInt8)(st:List AObj)(hl:l.length<=9223372036854775807)(hm:Zt m.length 4294967281=true)(ha:m.all (λb=>Zt b.toNat 128)=true):qp E 198 [Sv l,Sv m] st λr st'=>r=Sv (Lib.trimS l m)∧st'=st:=
 zh2 l m st hl (by simpa[Zr]using hm) λj b h=>by
  have:=Qv.1 ha b (List.mem_of_getElem? h)
  simpa[Zr]using this
end Go.Proofs.YtlekheifonaipaaGreatDoor
namespace Go.Av
open Go Go.RowKit Go.WideShapes Go.ChangeShapes
def G0:Gh:=⟨λ_=>none,λ_=>⟨0,0,0,false⟩,0⟩
theorem q8i(W:World):zl W.heap.size W G0 [] W:=
 ⟨Below.refl _ _,Qe _,rfl,λb vs h=>by simp[G0]at h,λo x h=>by simp at h,λo o' x x' _ h=>by simp at h⟩
theorem zha(G:Gh)(vals:Array Value):RelL G (vals.toList.map .v) vals:=by
 refine⟨Sx,λi x y hx hy=>?_⟩;rw[Qq]at hx;rw[Array.getElem?_toList,hy]at hx;simp at hx;subst hx;exact .v y
theorem qzh{E:Env}{f:FuncId}{args:List AV}{vals:Array Value}{b:Bool}{W:World}(h:qp E f args [] λr st'=>r=Bv b∧st'=[])(hL:E.L W.heap.size W)(ha:args=vals.toList.map .v):
  Calls E.P f vals W λe w'=>e=.returned (.bool b)∧Below W.heap.size W w':=by
 subst ha;refine(h.run W.heap.size W G0 vals W hL (q8i W) (zha _ _)).mono ?_;rintro e w' ⟨v,G',r,st',rfl,_,hA,hr,rfl,_⟩
 cases hr
 exact⟨rfl,hA.below⟩
theorem qz8{P:Program}{W:World}{name:String}{k:IntKind}{zs:List Int}{g:Nat}{t e:TypeId}{n:Nat}
  (hg:P.globalNamed name=some g) (hty:(P.globals[g]?).map (·.type)=some t) (ht:P.underlying t=some (.array n e)) (he:P.underlying e=some (.int k)) (hce:P.cellsOf e=1) (hct:P.cellsOf t=n)
  (h:Lib.VarReads P W name (Lib.tabData k zs)):Lib.TabIs P W name k zs:=by
 obtain⟨g',t',cs,fuel,p,hg',ht',hvar,hd⟩:=h;obtain rfl:=Qg (hg.symm.trans hg');obtain rfl:=Qg (hty.symm.trans ht');unfold Lib.TabIs;rw[hvar,<-Lib.cells_of_tab ht he hce hct hd]
theorem qqj{P:Program}{W:World}{name s:String}{d:DataW Unit}{g:Nat}{t:TypeId}{ms:Array (String×TypeId)}
  (hg:P.globalNamed name=some g) (hty:(P.globals[g]?).map (·.type)=some t) (ht:P.underlying t=some (.interface ms))
  (h:Lib.VarReads P W name (.iface s d)):∃tp p,W.var? P name=some #[.iface tp p]:=by
 obtain⟨g',t',cs,fuel,p,hg',ht',hvar,hd⟩:=h;obtain rfl:=Qg (hg.symm.trans hg');obtain rfl:=Qg (hty.symm.trans ht')
 cases fuel with
 |zero=>simp[DataW.trod]at hd
 |succ fuel=>
  obtain⟨l⟩:=cs;simp only[DataW.trod,ht]at hd;split at hd;all_goals simp_all
section
variable {H : Type} {enc : TypeId × Value → H} {P : Program}
theorem q3d{f:Func}{s:ChangeSpec}{qcb fresh handsOn again:Bool}{W W':World}{args:Array Value}{v:Value}{ds gs:List (DataW H)}{before pa pv:List MemPlace}
  (hW:DataW.Whole enc P f.params.toList s.vars qcb W args.toList ds gs before)
  (hres:∀(b:Nat)(sp:Nat->Bool)(hd:Bool),DataW.TrodAll enc P W' b sp hd f.resultTypes.toList (v.resultList f.resultTypes.size) (s.fn H (ds++gs)).results [])
  (rq:∀sp:Nat->Bool,(∀p∈before,sp p.block=true)->DataW.TrodAll enc P W' 0 sp true f.params.toList args.toList (s.fn H (ds++gs)).args pa)
  (hvars:∀sp:Nat->Bool,(∀p∈before,sp p.block=true)->DataW.TrodVars enc P W' sp s.vars (s.fn H (ds++gs)).vars pv)
  (hps:before=pa++pv) (hb:Below W.heap.size W W')
  (hok:∀(j:Nat)(t:TypeId)(r:Value),f.resultTypes[j]?=some t->(v.resultList f.resultTypes.size)[j]?=some r->Value.okWide P W' .any 0 t r):
  s.post enc P f qcb fresh handsOn again W args v W':=by
 have d9:∀p∈before,p.block<W.heap.size:=λp hp=>hW.lt p hp;have i5:∀p∈before,(λb=>decide (b<W.heap.size)) p.block=true:=λp hp=>by simpa using d9 p hp
 refine⟨ds,gs,before,[],pa,pv,hW,hres _ _ _,rq _ i5,hvars _ i5,World.keptBut_mono (λp hp=>⟨hp,?_⟩) (hb.frame (·∈before)),λ_=>?_⟩
 .rw[hps,Qw]at hp
  exact Or.inr hp
 .obtain⟨_,_,_,_,_,hz,hn⟩:=hW
  refine⟨hok,_,_,([]++pa)++pv,⟨[]++pa,pv,trodAll_append (rq _ (λ_ _=>rfl)) (hres _ _ _),hvars _ (λ_ _=>rfl),rfl,?_,?_⟩,?_⟩
  .intro b off hp
   have hin:MemPlace.cell b off∈before:=by rw[hps];simpa using hp
   rw[hb.frozen (d9 _ hin)];exact hz b off hin
  .intro ha
   have:=hn ha;rw[hps]at this
   simpa using this
  .intro p hp _
   rw[hps]
   simpa using hp
end
end Go.Av
open Go in
theorem Go.Av.lit_i64{n:Int}(h:(Lit.int .i64 n).wf=true): -9223372036854775808<=n∧n<=9223372036854775807:=by
 simpa[Lit.wf,IntKind.min,IntKind.max,IntKind.signed,IntKind.bits]using h
namespace Go.Proofs.YtlekheifonaipaaGreatDoor
open Go Go.Av Go.RowKit
theorem zo3:((Qr 395).filter λt=>Tryz.prog.rowNamed t [101,114,114,111,114])=[25]:=Kr
theorem zpu:(Tryz.prog.cutTypes.find? (·.1== "internal/reflectlite.rtype")).map (·.2)=some 331:=by kernel_rfl
theorem zpw:Tryz.prog.types.size=395:=Kr
theorem zpp:typeHandle Tryz.prog 25=.pointer (some ⟨9,25,none⟩):=Kr
theorem zlm:Tryz.prog.globalNamed "errors.errorType" =some 0:=by kernel_rfl
theorem q6h{l:List (String×DataW Unit)}(h:(l.all λx=>x.1== "errors.errorType" ||x.2.handleName?.isNone)=true){x:String×DataW Unit}(hx:x∈l)(hn:(x.1== "errors.errorType")=false):x.2.handleName?.isNone=true:=by
 have:=Qv.1 h x hx;rw[hn]at this
 simpa using this
theorem q56{P:Program}{w0:World}{laid:List (String×DataW Unit)}(args:Array Value)(hf:w0.layFits P laid []=true)(hi:w0.layIfaces P laid (w0.layVars P laid)=true):
  laidMet P laid ((w0.layVars P laid).forCall (λ_ _=>0) ⟨#[],args,[]⟩).memory:=by
 have e1:(laid.filter λx=>(laid.map Zi).contains x.1)=laid:=List.filter_eq_self.2 λx hx=>Qz.2 (Zc hx)
 have e2:(laid.filter λx=> !(laid.map Zi).contains x.1)=[]:=List.filter_eq_nil_iff.2 λx hx=>by
  rw[Qz.2 (Zc (f:=Zi) hx)];simp
 have h:laidMet P laid (w0.layVars P laid):=laidMet_layVars (w0:=w0) (laid.map Zi) [] (by rw[e1]) (by rw[e1];exact hf) (by rw[e1];exact hi) (by rw[e2];exact LaidIn.none);exact h.of_heap (by simp[World.memory,World.forCall,Input.heap])
noncomputable def zpo(os:Os):World:={World.holding Tryz.prog os ⟨#[],#[],[]⟩with heap:=(World.holding Tryz.prog os ⟨#[],#[],[]⟩).heap.modify 0 λ
 |.cells _ t fz=>.cells #[.iface 331 (.agg #[.pointer (some ⟨9,25,none⟩)])] t fz
 |o=>o}
theorem zm1{l:List (String×DataW Unit)}{W:World}
  (hp:(l.filter λx=>x.2.handleName?.isSome)=[("errors.errorType",Rows.laid_errors_errorType)]∧(l.all λx=>x.1== "errors.errorType" ||x.2.handleName?.isNone)=true)
  (hL:laidMetH Tryz.prog l W) (hs:W.ShapedOpen Tryz.prog)
  (h1:("internal/strconv.uint64pow10",Rows.laid_internal_strconv_uint64pow10)∈l) (h2:("strconv.ErrSyntax",Rows.laid_strconv_ErrSyntax)∈l) (h3:("strconv.ErrRange",Rows.laid_strconv_ErrRange)∈l):E.L W.heap.size W:=by
 unfold laidMetH at hL;rw[hp.1]at hL;simp only at hL;intro w hb;obtain⟨hL,hH⟩:=hL;have h1:=(Qk (p:=λx=>x.2.handleName?.isNone)).2 ⟨h1,q6h hp.2 h1 (by decide)⟩;have h2:=(Qk (p:=λx=>x.2.handleName?.isNone)).2 ⟨h2,q6h hp.2 h2 (by decide)⟩;have h3:=(Qk (p:=λx=>x.2.handleName?.isNone)).2 ⟨h3,q6h hp.2 h3 (by decide)⟩;obtain⟨name,u,ty,e1,e2,e3,e4,e5⟩:=hH _ (Zg.2 rfl);have en:name=[101,114,114,111,114]:=(Qg e1).symm;subst en;obtain rfl:=Qg (zpu.symm.trans e2);have hm:ty∈(Qr 395).filter λt=>Tryz.prog.rowNamed t [101,114,114,111,114]:=Qk.2 ⟨List.mem_range.2 (by rw[<-zpw];exact e3),e4⟩;rw[zo3]at hm;obtain rfl:=Zg.1 hm;rw[zpp]at e5;have hv:=World.var?_cell zlm (Go.Joins.var_stays zlm e5 hb (Qe _)) 0
 have g1:Tryz.prog.globalNamed "internal/strconv.uint64pow10" =some 4:=by kernel_rfl
 have g2:Tryz.prog.globalNamed "strconv.ErrSyntax" =some 2:=by kernel_rfl
 have g3:Tryz.prog.globalNamed "strconv.ErrRange" =some 3:=by kernel_rfl
 have t1:=qz8 (k:=.u64) (zs:=Lib.pow10Tab) (t:=356) (e:=239) (n:=20) g1 Kr Kr Kr Kr Kr (Lib.laidMet.reads hL h1);obtain⟨tp2,p2,v2⟩:=qqj (t:=25) g2 Kr rfl (Lib.laidMet.reads hL h2);obtain⟨tp3,p3,v3⟩:=qqj (t:=25) g3 Kr rfl (Lib.laidMet.reads hL h3);exact⟨hs.keptBut (hb.frame (λ_=>False)) (λ_ h=>h.elim),Go.Joins.var_stays g1 t1 hb (Qe _),⟨tp2,p2,Go.Joins.var_stays g2 v2 hb (Qe _)⟩,⟨tp3,p3,Go.Joins.var_stays g3 v3 hb (Qe _)⟩,by simpa using hv⟩
end Go.Proofs.YtlekheifonaipaaGreatDoor
namespace Go.Pl
open Go
abbrev qa:=List UInt8
theorem qey(l:qa)(c:UInt8):0<=Lib.index l [c]↔c∈l:=by
 induction l with
 |nil=>simp[Lib.index]
 |cons b l ih=>
  have ft:=Lib.index_ge l [c];unfold Lib.index;by_cases hb:c=b
  .subst hb
   simp[Qd]
  .have hp:([c]:qa).isPrefixOf (b::l)=false:=by simp[Qd,hb]
   rw[hp];by_cases hm:Lib.index l [c]= -1
   .have:c∉l:=λh=>by have:=ih.2 h;omega
    simp[hm,hb,this]
   .have:c∈l:=ih.1 Om
    simp[hm,this];omega
theorem qq2(l:qa)(c:UInt8):Lib.contains l [c]=decide (c∈l):=by
 unfold Lib.contains;by_cases h:c∈l
 .simp[h,(qey l c).2 h]
 .have:¬0<=Lib.index l [c]:=λh'=>h ((qey l c).1 h')
  simp[h,this]
theorem qqd(l:qa)(c:UInt8):Lib.hasPrefix l [c]=decide (l.head?=some c):=by
 cases l with
 |nil=>simp[Lib.hasPrefix]
 |cons b l=>
  by_cases h:c=b
  .simp[Lib.hasPrefix,Qd,h]
  .simp[Lib.hasPrefix,Qd,h,Ne.symm h]
def wy(c:UInt8):Prop:=c=32∨c=9
instance (c:UInt8):Decidable (wy c):=inferInstanceAs (Decidable (c=32∨c=9))
def qfy(l:qa):Prop:=∃c,l.head?=some c∧wy c
instance (l:qa):Decidable (qfy l):=
 match l with
 | []=>.isFalse (by rintro⟨c,h,_⟩;simp at h)
 |c::r=>decidable_of_iff (wy c) ⟨λh=>⟨c,rfl,h⟩,λ⟨d,h,hd⟩=>by simp at h;subst h;exact hd⟩
def qa6(l:qa):Prop:=l≠[]∧l.length<=32∧¬qfy l∧¬l.head?=some 35∧58∉l∧10∉l
instance (l:qa):Decidable (qa6 l):=inferInstanceAs (Decidable (_∧_∧_∧_∧_∧_))
theorem qmi(l:qa):qa6 l↔1<=l.length∧l.length<=32∧¬wy (l.getD 0 0)∧l.getD 0 0≠35∧58∉l∧10∉l:=by
 cases l with
 |nil=>simp[qa6]
 |cons c l=>simp[qa6,qfy]
theorem qzg(c:UInt8)(l:qa):Lib.contains [32,9] [c]=decide (qfy (c::l)):=by
 rw[qq2];have:qfy (c::l)↔wy c:=⟨λ⟨d,h,hd⟩=>by simp at h;subst h;exact hd,λh=>⟨c,rfl,h⟩⟩;simp[this,wy]
def upto(c:UInt8)(l:qa):qa:=l.takeWhile (·≠c)
def past(c:UInt8)(l:qa):qa:=l.drop ((upto c l).length+1)
theorem qxo(c:UInt8)(l:qa)(h:c∈l):Lib.index l [c]=((upto c l).length:Int):=by
 induction l with
 |nil=>simp at h
 |cons b l ih=>
  unfold Lib.index upto;by_cases hb:b=c
  .subst hb;simp[Qd]
  .have hp:([c]:qa).isPrefixOf (b::l)=false:=by simp[Qd,Ne.symm hb]
   have hl:c∈l:=by simpa[Ne.symm hb]using h
   have e:=ih hl;rw[hp];have:(Lib.index l [c]== -1)=false:=by rw[e];simp
   simp only[this];rw[e];simp[hb,upto]
theorem qhf(c:UInt8)(l:qa):l.take (upto c l).length=upto c l:=by
 induction l with
 |nil=>simp[upto]
 |cons b l ih=>
  by_cases hb:b=c
  .simp[upto,hb]
  .have:upto c (b::l)=b::upto c l:=by simp[upto,hb]
   rw[this];simp[ih]
theorem xy{c:UInt8}{l:qa}(h:c∉l):upto c l=l:=by
 induction l with
 |nil=>rfl
 |cons b l ih=>
  have hb:b≠c:=λe=>h (by simp[e]);have:upto c (b::l)=b::upto c l:=by simp[upto,hb]
  rw[this,ih (λh'=>h (by simp[h']))]
theorem vl(c:UInt8)(l:qa):(upto c l).length<=l.length:=by
 have:=congrArg List.length (qhf c l);simp at this;omega
theorem qft{c:UInt8}{l:qa}(h:c∈l):(upto c l).length<l.length:=by
 induction l with
 |nil=>simp at h
 |cons b l ih=>
  by_cases hb:b=c
  .simp[upto,hb]
  .have:upto c (b::l)=b::upto c l:=by simp[upto,hb]
   rw[this];have:=ih (by simpa[Ne.symm hb]using h);simp;omega
theorem vm(c:UInt8)(l:qa):(past c l).length=l.length-((upto c l).length+1):=by simp[past]
theorem zmh(c:UInt8)(l:qa):Lib.cut l [c]=(upto c l,past c l,decide (c∈l)):=by
 unfold Lib.cut;by_cases h:c∈l
 .rw[if_pos ((qey l c).2 h),qxo c l h]
  simp[qhf,past,h]
 .rw[if_neg (λh'=>h ((qey l c).1 h'))]
  simp[xy h,past,h]
theorem xq{c:UInt8}{l:qa}(h:l≠[]):(past c l).length<l.length:=by
 rw[vm];have:=Zd.2 h;omega
def zo(l:qa):List (qa×Bool):=
 if h:l=[]then []else(upto 10 l,decide (10∈l))::zo (past 10 l)
 termination_by l.length
 decreasing_by exact xq h
theorem vv:zo []=[]:=by rw[zo];simp
theorem wl{l:qa}(h:l≠[]):zo l=(upto 10 l,decide (10∈l))::zo (past 10 l):=by rw[zo];simp[h]
def x7(b:Bool):qa:=if b then [10]else []
def v7(by' l:qa):qa×Bool:=
 if∀x∈zo l,by'<+:x.1 then((zo l).flatMap λx=>x.1.drop by'.length++x7 x.2,true)else([],false)
theorem qge(l m:qa):(Lib.trimPrefix l m).length<=l.length:=by
 unfold Lib.trimPrefix;split
 .simp
 .exact Qe _
theorem yx(l m:qa):Lib.hasPrefix l m=true↔m<+:l:=by
 unfold Lib.hasPrefix;exact List.isPrefixOf_iff_prefix
theorem qd9{l m:qa}(h:m<+:l):Lib.trimPrefix l m=l.drop m.length:=by
 unfold Lib.trimPrefix;rw[if_pos ((yx l m).2 h)]
theorem v8{c:UInt8}{a:qa}(r:qa)(h:c∉a):upto c (a++c::r)=a:=by
 induction a with
 |nil=>simp[upto]
 |cons b a ih=>
  have hb:b≠c:=λe=>h (by simp[e]);have h2:c∉a:=λe=>h (by simp[e]);have e:upto c (b::(a++c::r))=b::upto c (a++c::r):=by simp[upto,hb]
  rw[Zj,e,ih h2]
theorem xw{c:UInt8}{a:qa}(r:qa)(h:c∉a):past c (a++c::r)=r:=by
 unfold past;rw[v8 r h,show a++c::r=(a++[c])++r by simp,show a.length+1=(a++[c]).length by simp,List.drop_left]
theorem wo{c:UInt8}{l:qa}(h:c∈l):l=upto c l++c::past c l:=by
 induction l with
 |nil=>simp at h
 |cons b l ih=>
  by_cases hb:b=c
  .subst hb;simp[upto,past]
  .have h2:c∈l:=by simpa[Ne.symm hb]using h
   have e1:upto c (b::l)=b::upto c l:=by simp[upto,hb]
   have e2:past c (b::l)=past c l:=by simp[past,e1]
   rw[e1,e2,Zj,<-ih h2]
theorem yy(c:UInt8)(l:qa):c∉upto c l:=by
 induction l with
 |nil=>simp[upto]
 |cons b l ih=>
  by_cases hb:b=c
  .simp[upto,hb]
  .have e1:upto c (b::l)=b::upto c l:=by simp[upto,hb]
   rw[e1];simp[Ne.symm hb,ih]
def jg(l:qa):qa:=l.takeWhile (·≠58)
theorem q88(l:qa)(h:58∈l):Lib.index l [58]=((jg l).length:Int):=by
 induction l with
 |nil=>simp at h
 |cons b l ih=>
  unfold Lib.index jg;by_cases hb:b=58
  .subst hb;simp[Qd]
  .have hp:([58]:qa).isPrefixOf (b::l)=false:=by simp[Qd,Ne.symm hb]
   have hl:58∈l:=by simpa[Ne.symm hb]using h
   have e:=ih hl;rw[hp];have:(Lib.index l [58]== -1)=false:=by rw[e];simp
   simp only[this];rw[e];simp[hb,jg]
theorem q77(l:qa):l.take (jg l).length=jg l:=by
 induction l with
 |nil=>simp[jg]
 |cons b l ih=>
  by_cases hb:b=58
  .simp[jg,hb]
  .have:jg (b::l)=b::jg l:=by simp[jg,hb]
   rw[this];simp[ih]
def vd(l:qa):qa:=l.drop ((jg l).length+1)
theorem q04(l:qa):Lib.cut l [58]=if 58∈l then(jg l,vd l,true)else(l,[],false):=by
 unfold Lib.cut;by_cases h:58∈l
 .rw[if_pos ((qey l 58).2 h),if_pos h,q88 l h]
  simp[q77,vd]
 .rw[if_neg (λh'=>h ((qey l 58).1 h')),if_neg h]
theorem qxr{l:qa}{k:Nat}(h:58∉l.take k)(hk:k<l.length)(e:l.getD k 0=58):jg l=l.take k∧58∈l:=by
 induction l generalizing k with
 |nil=>simp at hk
 |cons b l ih=>
  cases k with
  |zero=>simp at e;subst e;simp[jg]
  |succ k=>
   simp only[List.take_succ_cons,Zb,not_or]at h;obtain⟨h1,h2⟩:=ih h.2 (by simpa using hk) (by simpa using e);have:jg (b::l)=b::jg l:=by simp[jg,Ne.symm h.1]
   exact⟨by rw[this,h1];rfl,by simp[h2]⟩
def qf7(l:qa):qa×qa×Bool:=if 10∉l∧58∈l∧qa6 (jg l)then(jg l,vd l,true)else([],[],false)
def qx(l:qa):Int:=
 if 10∈l then 5 else if∀c∈l,wy c then 1 else if l.head?=some 35 then 2 else if qfy l then 3
 else if 58∈l∧qa6 (jg l)then 4 else 5
theorem qtx{l:qa}(h:10∉l)(hb:¬ ∀c∈l,wy c):0<l.length∧qx l=if l.getD 0 0=35 then 2 else if wy (l.getD 0 0)then 3 else if 58∈l∧qa6 (jg l)then 4 else 5:=by
 cases l with
 |nil=>simp at hb
 |cons c l=>
  have e:qfy (c::l)↔wy c:=⟨λ⟨d,h,hd⟩=>by simp at h;subst h;exact hd,λh=>⟨c,rfl,h⟩⟩;refine⟨Sx,?_⟩;unfold qx;rw[if_neg h,if_neg hb];simp[e]
theorem qqb{α:Type}(p:α->Bool)(l:List α):l.dropWhile p=[]↔∀x∈l,p x=true:=by
 induction l with
 |nil=>simp
 |cons a l ih=>
  by_cases h:p a=true
  .simp[h,ih]
  .simp[h]
theorem zi7{α:Type}(p:α->Bool)(l:List α):(l.reverse.dropWhile p).reverse.dropWhile p=[]↔∀x∈l,p x=true:=by
 rw[qqb];constructor
 .intro h x hx
  by_cases hq:∀y∈l,p y=true
  .exact hq x hx
  .have hr:¬ ∀y∈l.reverse,p y=true:=λh'=>hq λy hy=>h' y (by simpa using hy)
   rw[<-qqb]at hr;obtain⟨a,r,hd⟩:=List.exists_cons_of_ne_nil hr;have h1:=List.head?_dropWhile_not p l.reverse;rw[hd]at h1;have h2:=h a (by simp[hd]);simp[h2]at h1
 .intro h x hx
  exact h x (by
   have:=(List.dropWhile_sublist (l:=l.reverse) p).subset (by simpa using hx)
   simpa using this)
theorem qsc(l m:qa):Lib.trimS l m=[]↔∀c∈l,c∈m:=by
 unfold Lib.trimS Lib.trimLeftS Lib.trimRightS;rw[zi7];simp
theorem qw0(l m:qa):(Lib.cut l m).1.length<=l.length:=by
 unfold Lib.cut;split
 .simp;omega
 .simp
def yw(l:qa):Prop:=2<=l.length∧l.length<=50000∧l.getLast?=some 10∧(v7 [32] l).2=true
instance (l:qa):Decidable (yw l):=inferInstanceAs (Decidable (_∧_∧_∧_))
def qi8(n:Nat)(fig:qa):qa:=[37,97,109,101,110,100,32]++Lib.itoa n++[32]++fig++[10]
def qai(n:Nat):qa:=[37,101,110,100,32]++Lib.itoa n++[10]
theorem qfh:∀(k u:Nat),u<10^(k+1)->Lib.nDigits u<=k+1
 |0,u,h=>by rw[Lib.nDigits_small (by simpa using h)];omega
 |k+1,u,h=>by
  by_cases h':u<10
  .rw[Lib.nDigits_small h'];omega
  .rw[Lib.nDigits_big h']
   have:=qfh k (u / 10) (by rw[Nat.pow_succ]at h;omega);omega
theorem qd0(n:Nat)(h:n<=9223372036854775807):(Lib.itoa n).length<=19:=by
 unfold Lib.itoa;rw[if_neg Om,Lib.decDigits_length];have:((n:Int)).toNat=n:=Sx
 rw[this];exact qfh 18 n Om
theorem qj4(l:qa)(c:UInt8):Lib.hasSuffix l [c]=decide (l.getLast?=some c):=by
 have:Lib.hasSuffix l [c]=true↔l.getLast?=some c:=by
  unfold Lib.hasSuffix;rw[List.isSuffixOf_iff_suffix,List.singleton_suffix_iff_getLast?_eq_some]
 by_cases h:l.getLast?=some c
 .simp[this.2 h,h]
 .have:¬Lib.hasSuffix l [c]=true:=λh'=>h (this.1 h')
  simp[this,h]
theorem atoiAll_bounds{l:qa}{v:Int}(h:Lib.atoiAll l=.ok v): -9223372036854775808<=v∧v<=9223372036854775807:=by
 unfold Lib.atoiAll at h
 cases l with
 |nil=>simp at h
 |cons c r=>
  simp only at h;split at h
  .simp at h
  .simp at h
  .split at h
   .simp at h
   .split at h
    .simp at h
    .rename_i h1 h2
     simp only[Lib.NumEnd.ok.injEq]at h;subst h;by_cases hn:c.toNat=45
     .simp only[hn,true_and,not_true,if_true]at *
      omega
     .simp only[hn,not_false_iff,true_and,if_false]at *
      omega
def kz(l:qa):Nat:=
 match Lib.atoiAll l with
 |.ok v=>if Lib.itoa v=l∧1<=v∧v<=50000 then v.toNat else 0
 |_=>0
def zb:qa:=[37,97,109,101,110,100,32]
def hexL:qa:=[48,49,50,51,52,53,54,55,56,57,97,98,99,100,101,102]
def xj(l:qa):Prop:=∀c∈l,c∈hexL
instance (l:qa):Decidable (xj l):=inferInstanceAs (Decidable (∀c∈l,c∈hexL))
theorem q2w(l:qa):Lib.trimS l [48,49,50,51,52,53,54,55,56,57,97,98,99,100,101,102]=[]↔xj l:=qsc l hexL
def jj(l:qa):Nat×qa×Bool:=
 (kz (upto 32 (Lib.trimPrefix l zb)),past 32 (Lib.trimPrefix l zb),
  decide (zb<+:l∧32∈Lib.trimPrefix l zb∧2<=kz (upto 32 (Lib.trimPrefix l zb))∧(past 32 (Lib.trimPrefix l zb)).length=8∧xj (past 32 (Lib.trimPrefix l zb))))
def yn(l:qa):Bool:=
 if zb<+:l then decide (¬(32∈l.drop 7∧kz (upto 32 (l.drop 7))<2)∧¬(upto 32 (l.drop 7)≠[]∧kz (upto 32 (l.drop 7))=0)∧(past 32 (l.drop 7)).length<=8∧xj (past 32 (l.drop 7)))
 else decide (l<+:zb)
theorem q6m{l:qa}(h:∀v,Lib.atoiAll l≠.ok v):kz l=0:=by
 unfold kz
 cases ho:Lib.atoiAll l with
 |ok v=>exact absurd ho (h v)
 |_=>rfl
theorem qxz{l:qa}{v:Int}(h:Lib.atoiAll l=.ok v):(kz l:Int)=if Lib.itoa v=l∧1<=v∧v<=50000 then v else 0:=by
 unfold kz;rw[h];simp only;split
 .omega
 .rfl
theorem qa7(l:qa):kz l<=50000:=by
 unfold kz;split
 .split
  .omega
  .omega
 .omega
def qeh(n:Int):Int:=if n<2∨50000<n then 0 else(qi8 n.toNat [48,48,48,48,48,48,48,48]).length+n+(qai n.toNat).length
theorem qj3(l m:qa):Lib.hasPrefix l m=decide (m<+:l):=by
 by_cases h:m<+:l
 .simp[(yx l m).2 h,h]
 .have:¬Lib.hasPrefix l m=true:=λh'=>h ((yx l m).1 h')
  simp[this,h]
def yq(body:qa)(lack:Int):Int:=
 if(v7 [32] body).2=true∧¬((body=[]∨body.getLast?=some 10)∧lack<2)then 2 else 3
theorem rep8:Lib.repeatL [48] 8=[48,48,48,48,48,48,48,48]:=by decide
theorem qdi(n:Nat)(f:qa):(qi8 n f).length=(Lib.itoa n).length+f.length+9:=by simp[qi8]<;>omega
theorem qbe(n:Nat):(qai n).length=(Lib.itoa n).length+6:=by simp[qai]<;>omega
theorem q81{u:Nat}(h:u<10):(([48,49,50,51,52,53,54,55,56,57]:qa).take (u+1)).drop u=Lib.decDigits u:=by
 rw[Lib.decDigits_one h];have:u=0∨u=1∨u=2∨u=3∨u=4∨u=5∨u=6∨u=7∨u=8∨u=9:=Om
 rcases this with rfl|rfl|rfl|rfl|rfl|rfl|rfl|rfl|rfl|rfl <;>rfl
theorem yv{u:Nat}(h:¬u<10):Lib.decDigits u=Lib.decDigits (u / 10)++Lib.decDigits (u%10):=by
 rw[Lib.decDigits,dif_neg h,Lib.decDigits_one (Nat.mod_lt u Om)]
theorem qgh{u:Nat}(h:u<18446744073709551616):(Lib.decDigits u).length<=20:=by
 rw[Lib.decDigits_length];exact qfh 19 u Om
end Go.Pl
namespace Go.Proofs.YtlekheifonaipaaGreatDoor
open Go Go.Av Go.RowKit Go.Proofs Go.Pl
theorem qti(l:List UInt8)(c:UInt8)(st:List AObj)(hl:l.length<4294967281):qp E 197 [Sv l,Sv [c]] st λr st'=>r=Bv (decide (c∈l))∧st'=st:=by
 rw[<-qq2];exact qwy l [c] st hl
theorem qhv(l:List UInt8)(c:UInt8)(st:List AObj):qp E 155 [Sv l,Sv [c]] st λr st'=>r=Bv (decide (l.head?=some c))∧st'=st:=by
 rw[<-qqd];exact qf1 l [c] st
theorem q99(l:List UInt8)(st:List AObj):qp E 199 [Sv l] st λr st'=>r=Bv (decide (qfy l))∧st'=st:=by
 refine qz (qr _) (qq Tryz.func199 rfl (Qa rfl) ?_)
 cases l with
 |nil=>
  repeat' (first|apply qo|apply qf|apply qh|apply qj|apply qg|(apply jp;rfl;rfl;rfl)|(apply qw;rfl;rfl;rfl;rfl)|(apply xu;exact cRa)|(apply qi;rfl;apply pk_f;exact cRa)|apply qu)
  refine qn rfl (q5 rfl) ⟨congrArg Bv (?_:_=_),_,rfl⟩
  simp[qfy]
 |cons c l=>
  have b9:¬(c::l)=[]:=Sx
  repeat' (first|apply qo|apply qf|apply qh|apply qj|apply qg|(apply jp;rfl;rfl;rfl)|(apply qw;rfl;rfl;rfl;rfl)|(apply xd;exact cAo)|(apply qi;rfl;apply w6;exact cAo)|apply qu|refine qfu rfl rfl rfl ⟨_,rfl⟩ Om Om So ?_|(apply qk;exact Tryz.call197;exact qwy _ _ _ Sx))
  refine qn rfl (q5 rfl) ⟨congrArg Bv (?_:_=_),_,rfl⟩;exact qzg c l
theorem zlp(l:List UInt8)(st:List AObj)(hl:l.length<4294967281):qp E 200 [Sv l] st λr st'=>r=Bv (decide (qa6 l))∧st'=st:=by
 refine qz (qr _) (qq Tryz.func200 rfl (Qa rfl) ?_);repeat' (first|apply qo|apply qf|apply qh|apply qj|apply qg|(apply qt;rfl;rfl;rfl)|(apply jp;rfl;rfl;rfl)|(apply ja;rfl)|(apply qw;rfl;rfl;rfl;rfl)|(apply wg;exact cAo)|(apply wj;exact cAo)|(apply qrc;exact cRa)|(apply qow;exact cRa)|(apply qhu<;>intro h)|(apply qbb;exact cRa)|(apply jo<;>intro h)|(apply qi;rfl;apply w6;exact cAo)|(apply qi;rfl;apply wu;exact cAo)|(apply qi;rfl;apply qjb;exact cRa)|(apply qi;rfl;apply qfm;exact cRa)|(apply qi;rfl;apply pk_t;exact cRa)|(apply qc;rfl;apply cd_t;exact cRa)|(apply qc;rfl;apply cd_d<;>intro h)|(apply zr;rfl;rfl;rfl)|apply qv|apply qu|(apply qk;exact Tryz.call197;exact qti _ _ _ hl)|(apply qk;exact Tryz.call155;exact qhv _ _ _)|(apply qk;exact Tryz.call199;exact q99 _ _))
 all_goals refine qn rfl (q5 rfl) ⟨congrArg Bv (?_:_=_),_,rfl⟩
 all_goals simp[qa6, *]
 all_goals omega
theorem qpr(c:UInt8)(st:List AObj):qp E 186 [Uv c] st λr st'=>r=Bv (decide (wy c))∧st'=st:=by
 refine qz (qr _) (qq Tryz.func186 rfl (Qa rfl) ?_);repeat' (first|apply qo|apply qf|apply qh|apply qj|apply qg|(apply qt;rfl;rfl;rfl)|(apply qw;rfl;rfl;rfl;rfl)|(apply wg;exact cAo)|(apply wj;exact cAo)|(apply jo<;>intro h)|(apply qi;rfl;apply w6;exact cAo)|(apply qi;rfl;apply wu;exact cAo)|apply qu)
 all_goals refine qn rfl (q5 rfl) ⟨congrArg Bv (?_:_=_),_,rfl⟩
 all_goals simp_all[wy,qy1,u8_9]
theorem q7m(l:List UInt8)(st:List AObj)(hl:l.length<4294967281):qp E 219 [Sv l] st λr st'=>r=Bv (decide (qa6 l))∧st'=st:=by
 refine qz (qr _) (qq Tryz.func219 rfl (Qa rfl) ?_);repeat' (first|apply qo|apply qy|apply qf|apply qh|apply qj|apply qg|(apply qt;rfl;rfl;rfl)|(apply qw;rfl;rfl;rfl;rfl)|(apply wg;exact cAo)|(apply wj;exact cAo)|(apply qbb;exact cRa)|(apply jo<;>intro h)|(apply qi;rfl;apply w6;exact cAo)|(apply qi;rfl;apply wu;exact cAo)|(apply qi;rfl;apply pk_t;exact cRa)|(apply qc;rfl;apply cd_t;exact cRa)|(apply qc;rfl;apply cd_d<;>intro h)|(apply zr;rfl;rfl;rfl)|(apply wp;rfl;rfl;rfl;exact cAs)|apply qv|apply qu|(apply qk;exact Tryz.call186;exact qpr _ _))
 rotate_left 4
 .refine jr (λ(k:Nat)s=>k<=l.length∧58∉l.take k∧10∉l.take k∧StA [(0,Sv l),(3,Iv k)] (st++[]) [] s) (λk=>l.length-k) 0 ⟨Om,Sx,Sx,z6 ⟨rfl,rfl,trivial⟩⟩ ?_
  rintro k _ ⟨hk,h1,h2,t,rfl⟩;repeat' (first|apply qo|apply qy|apply qf|apply qh|apply qj|apply qg|(apply qt;rfl;rfl;rfl)|(apply qw;rfl;rfl;rfl;rfl)|(apply wg;exact cAo)|(apply wj;exact cAo)|(apply jo<;>intro h)|(apply qi;rfl;apply w6;exact cAo)|(apply qi;rfl;apply wu;exact cAo)|(apply qc;rfl;apply cd_t;exact cRa)|(apply qc;rfl;apply cd_d<;>intro h)|(apply zr;rfl;rfl;rfl)|(apply zn;rfl;rfl;exact q6 Om Om)|(apply wp;rfl;rfl;rfl;exact cAs)|apply qv|apply z7|apply qu)
  rotate_left 2
  .exact⟨k+1,⟨Om,qd1 Om h1 (by simp_all[qy2]),qd1 Om h2 (by simp_all[qcd]),z6 ⟨rfl,rfl,trivial⟩⟩,Om⟩
  all_goals refine qn rfl (q5 rfl) ⟨congrArg Bv (?_:_=_),_,rfl⟩
  .have e:k=l.length:=by omega
   subst e;simp_all[qmi,qs1];omega
  .have:=qnt (l:=l) (k:=k) Om
   simp_all[qmi,qy2]
  .have:=qnt (l:=l) (k:=k) Om
   simp_all[qmi,qcd]
 all_goals refine qn rfl (q5 rfl) ⟨congrArg Bv (?_:_=_),_,rfl⟩
 all_goals simp_all[qmi,qs1]
 all_goals omega
theorem E_ok:qv3 E:=λ_ _ _ h hb hB _ h2=>h _ (hb.trans (h2.mono hB))
theorem q7h(l:List UInt8)(st:List AObj)(hl:l.length<4294967281):qp E 187 [Sv l] st λr st'=>r=.tu [Sv (qf7 l).1,Sv (qf7 l).2.1,Bv (qf7 l).2.2]∧st'=st:=by
 refine qz (qct _ _ _) (qq Tryz.func187 rfl (Qa rfl) ?_);repeat' (first|apply qo|apply qy|apply qf|apply qh|apply qg)
 refine jr (λ(k:Nat)s=>k<=l.length∧10∉l.take k∧StA [(0,Sv l),(2,Sv []),(3,Sv []),(4,Bv false),(5,Iv k)] (st++[]) [] s) (λk=>l.length-k) 0 ⟨Om,Sx,z6 ⟨rfl,rfl,rfl,rfl,rfl,trivial⟩⟩ ?_;rintro k _ ⟨hk,h1,t,rfl⟩;repeat' (first|apply qo|apply qy|apply qf|apply qh|apply qj|apply qg|(apply qt;rfl;rfl;rfl)|(apply qc;rfl;apply cd_d<;>intro h)|(apply zr;rfl;rfl;rfl)|(apply zn;rfl;rfl;exact q6 Om Om)|(apply wp;rfl;rfl;rfl;exact cAs)|apply qv|apply z7|apply qu)
 rotate_left 1
 .exact⟨k+1,⟨Om,qd1 Om h1 (by simp_all[qcd]),z6 ⟨rfl,rfl,rfl,rfl,rfl,trivial⟩⟩,Om⟩
 .have e:k=l.length:=by omega
  subst e;rw[Qj]at h1;refine jr (λ(k:Nat)s=>k<=l.length∧58∉l.take k∧StA [(0,Sv l),(2,Sv []),(3,Sv []),(4,Bv false),(6,Iv k)] (st++[]) [] s) (λk=>l.length-k) 0 ⟨Om,Sx,z6 ⟨rfl,rfl,rfl,rfl,rfl,trivial⟩⟩ ?_;rintro k _ ⟨hk,h2,t,rfl⟩;repeat' (first|apply qo|apply qy|apply qf|apply qh|apply qj|apply qg|(apply qt;rfl;rfl;rfl)|(apply ja;rfl)|(apply qc;rfl;apply cd_n<;>intro h)|(apply qc;rfl;apply cd_d<;>intro h)|(apply zr;rfl;rfl;rfl)|(apply zn;rfl;rfl;exact q6 Om Om)|(apply wp;rfl;rfl;rfl;exact cAs)|(apply qbw;rfl;rfl;rfl;exact cAs)|(apply qgg;rfl;kernel_rfl)|apply qfv|apply qea|apply qjm|(apply qwk;rfl;rfl;exact q6 Om Om)|(apply qsj;rfl;rfl;rfl;exact cAs)|(apply qsi;rfl;rfl;rfl;exact cAs)|apply qv|apply z7|apply qu|(apply qk;exact Tryz.call219;exact q7m _ _ So))
  rotate_left 2
  .exact⟨k+1,⟨Om,qd1 Om h2 (by simp_all[qy2]),z6 ⟨rfl,rfl,rfl,rfl,rfl,trivial⟩⟩,Om⟩
  all_goals refine qn rfl (yu rfl) ⟨q8c (?_:_=_),_,rfl⟩
  .have e:k=l.length:=by omega
   subst e;rw[Qj]at h2;simp[qf7,h2]
  .obtain⟨e1,e2⟩:=qxr h2 Om (by simp_all[qy2])
   simp_all[qf7]
  .obtain⟨e1,e2⟩:=qxr h2 Om (by simp_all[qy2])
   have bg:k<l.length:=Om
   have s8:(l.take k).length=k:=So
   have hkey:qa6 (l.take k):=by simp_all
   simp only[qf7,vd,e1,e2,h1,hkey,s8];simp
 .refine qn rfl (yu rfl) ⟨q8c (?_:_=_),_,rfl⟩
  have:=qnt (l:=l) (k:=k) Om;simp_all[qf7,qcd]
theorem qjx(l:List UInt8)(st:List AObj)(hl:l.length<4294967281):qp E 134 [Sv l] st λr st'=>r=Iv (qx l)∧st'=st:=by
 refine qz (qr _) (qq Tryz.func134 rfl (Qa rfl) ?_);repeat' (first|apply qo|apply qy|apply qf|apply qh|apply qg)
 refine jr (λ(k:Nat)s=>k<=l.length∧10∉l.take k∧∃b,(b=true↔∀c∈l.take k,wy c)∧StA [(0,Sv l),(3,Bv b),(4,Iv k)] (st++[]) [] s) (λk=>l.length-k) 0 ⟨Om,Sx,true,Sx,z6 ⟨rfl,rfl,rfl,trivial⟩⟩ ?_;rintro k _ ⟨hk,h1,b,hb,t,rfl⟩;repeat' (first|apply qo|apply qy|apply qf|apply qh|apply qj|apply qg|(apply qt;rfl;rfl;rfl)|(apply qw;rfl;rfl;rfl;rfl)|(apply qaf;exact cRa)|(apply xu;exact cRa)|(apply qgj<;>intro h)|(apply qi;rfl;apply pk_t;exact cRa)|(apply qi;rfl;apply pk_f;exact cRa)|(apply qc;rfl;apply cd_d<;>intro h)|(apply qc;rfl;apply cd_s<;>intro h)|(apply zr;rfl;rfl;rfl)|(apply zn;rfl;rfl;exact q6 Om Om)|(apply wp;rfl;rfl;rfl;exact cAs)|apply qv|apply z7|apply qu|(apply qk;exact Tryz.call186;exact qpr _ _))
 .refine qn rfl (q5 rfl) ⟨congrArg Iv (?_:_=_),_,rfl⟩
  have:=qnt (l:=l) (k:=k) Om;simp_all[qx,qcd]
 .exact⟨k+1,⟨Om,qd1 Om h1 (by simp_all[qcd]),_,by rw[qod Om,decide_eq_true_iff,<-hb];simp[*],z6 ⟨rfl,rfl,rfl,trivial⟩⟩,Om⟩
 .exact⟨k+1,⟨Om,qd1 Om h1 (by simp_all[qcd]),_,by rw[qod Om,<-hb];simp[*],z6 ⟨rfl,rfl,rfl,trivial⟩⟩,Om⟩
 .refine qn rfl (q5 rfl) ⟨congrArg Iv (?_:_=_),_,rfl⟩
  have e:k=l.length:=Om
  subst e;simp_all[qx]
 .have e:k=l.length:=by omega
  subst e;rw[Qj]at h1 hb;obtain⟨h0,hk⟩:=qtx h1 (λh=>by simp_all);repeat' (first|apply qo|apply qf|apply qh|apply qj|apply qg|(apply zf;rfl;rfl)|(apply qt;rfl;rfl;rfl)|(apply qc;rfl;apply cd_d<;>intro h)|(apply qc;rfl;apply cd_s<;>intro h)|(apply wp;rfl;rfl;rfl;exact cAs)|apply qv|apply qu|(apply qk;exact Tryz.call186;exact qpr _ _)|(apply qk;exact Tryz.call187;exact q7h _ _ hl))
  all_goals refine qn rfl (q5 rfl) ⟨congrArg Iv (?_:_=_),_,rfl⟩
  .simp_all[qs1]
  .simp_all[qs1]
  .have hc:58∈l∧qa6 (jg l):=by
    apply Classical.byContradiction;intro hn;have:qf7 l=([],[],false):=by unfold qf7;rw[if_neg (λh=>hn h.2)]
    simp_all
   simp_all[qs1]
  .have hc:¬(58∈l∧qa6 (jg l)):=λhn=>by
    have:qf7 l=(jg l,vd l,true):=by unfold qf7;rw[if_pos ⟨h1,hn⟩]
    simp_all
   simp_all[qs1]
theorem qnv(l:List UInt8)(st:List AObj)(hl:l.length<4294967281):qp E 156 [Sv l] st λr st'=>r=Iv (qx l)∧st'=st:=by
 refine qz (qr _) (qq Tryz.func156 rfl (Qa rfl) ?_);repeat' (first|apply qo|apply qy|apply qf|apply qh|apply qj|apply qg|(apply zf;rfl;rfl)|(apply jp;rfl;rfl;rfl)|(apply qw;rfl;rfl;rfl;rfl)|(apply qaf;exact cRa)|(apply xu;exact cRa)|(apply qgj<;>intro h)|(apply qi;rfl;apply pk_t;exact cRa)|(apply qi;rfl;apply pk_f;exact cRa)|(apply qc;rfl;apply cd_f;exact cRa)|(apply qc;rfl;apply cd_d<;>intro h)|apply qv|apply qu|(apply qk;exact Tryz.call197;exact qti _ _ _ hl)|(apply qk;exact Tryz.call198;exact zh2 _ _ _ Om Sx (by intro j b h;match j with |0=>simp at h;subst h;decide |1=>simp at h;subst h;decide|j+2=>simp at h))|(apply qk;exact Tryz.call155;exact qhv _ _ _)|(apply qk;exact Tryz.call199;exact q99 _ _)|(apply qk;exact Tryz.call104;exact qwz _ _ _ hl)|(apply qk;exact Tryz.call200;exact zlp _ _ (Zf (qw0 _ _) hl)))
 all_goals refine qn rfl (q5 rfl) ⟨congrArg Iv (?_:_=_),_,rfl⟩
 all_goals have hb:Lib.trimS l [32,9]=[]↔∀c∈l,wy c:=by rw[qsc];simp[wy]
 all_goals by_cases hA:∀c∈l,wy c<;>by_cases hC:58∈l<;>by_cases hK:qa6 (jg l)<;>simp_all[qx,q04]
end Go.Proofs.YtlekheifonaipaaGreatDoor
namespace Go.Proofs
open Go.Shelf Go.RowKit
variable {P : Program} {ρ : Ren}
set_option maxHeartbeats 4000000 in
theorem qwu(L:Lays.n169 P ρ)(X:Builder.Extra P ρ)(b n c:Nat)(ad:Option Addr)(q:Value)(str:ByteArray)(w w2:World)(c1:w.drew.cell? ⟨b,1,none⟩=some (.slice ad n c))
  (hSD:(Builtin.unsafeSliceData_ #[(ρ.t 37)] (ρ.t 127) #[.slice ad n c]).run P w.drew=.ok q w.drew)
  (hUS:(Builtin.unsafeString_ #[(ρ.t 127),(ρ.t 3)] (ρ.t 9) #[q,.int .i64 n]).run P w.drew=.ok (.string str) w2):
  Calls P (ρ.f 169) #[.pointer (some ⟨b,0,none⟩)] w λe w'=>e=.returned (.string str)∧w'=w2:=by
 have mixed:=L.mixed;have t72:=L.t72;have a72:=L.a72;have z72:=L.z72;have v72:=L.v72;have u72:=run_underlying L.t72;have t70:=L.t70;have a70:=L.a70;have z70:=L.z70;have v70:=L.v70;have u70:=run_underlying L.t70;have t37:=L.t37;have a37:=L.a37;have z37:=L.z37;have v37:=L.v37;have u37:=run_underlying L.t37;have t127:=L.t127;have a127:=L.a127;have z127:=L.z127;have v127:=L.v127;have u127:=run_underlying L.t127;have t3:=L.t3;have a3:=L.a3;have z3:=L.z3;have v3:=L.v3;have u3:=run_underlying L.t3;have t9:=L.t9;have a9:=L.a9;have z9:=L.z9;have v9:=L.v9;have u9:=run_underlying L.t9;have t5:=X.t5;have a5:=X.a5;have z5:=X.z5;have v5:=X.v5;have u5:=run_underlying X.t5
 go_enter L.f169,Body.n169_ntmps ρ
 go_wp2
 go_region_o
 all_goals (go_wp2;go_ret;exact⟨rfl,rfl⟩)
end Go.Proofs
namespace Go.Proofs.YtlekheifonaipaaGreatDoor
open Go Go.Av Go.RowKit Go.Proofs
@[reducible] def bldO (ver : Nat) (q : AV) (l : List UInt8) (tp : Nat) : AObj := .cells ver 154 [q, .sl 1 (l.map Uv) (some tp)]
theorem q6g(v:Value)(w:World):(callFunc 173 #[v]).run E.P w=.ok (.value v) w:=by
 have h:=run_callFunc_extern (P:=E.P) Tryz.func173 Kr Kr Kr (e:=Extern.AbiNoEscape.same) Kr #[v] w;rw[h,Lib.run_noEscape];rfl
theorem zac(o ver:Nat)(q buf:AV)(st:List AObj)(ho:st[o]?=some (.cells ver 154 [q,buf]))(hq:q=.v (.pointer none)∨q=.bx o ver 0):
  qp E 115 [.bx o ver 0] st λr st'=>r=.tu []∧st'=st.set o (.cells ver 154 [.bx o ver 0,buf]):=by
 have e8:(st++[])[o]?=some (.cells ver 154 [q,buf]):=by rw[Qc];exact ho
 refine qq Tryz.func115 rfl (Qa rfl) ?_;rcases hq with rfl|rfl
 .skip
  repeat' (first|apply qo|apply qf|apply qh|apply qj|(apply qc;rfl;apply cd_t;exact cRa)|(apply zk;rfl;rfl;rfl)|(apply ww;rfl;rfl)|(apply qbl;rfl;rfl;rfl)|(apply vc;rfl;exact e8;rfl;rfl)|(apply qan;rfl;rfl;exact e8;(iterate 6 rfl))|(apply q24;rfl;exact e8;(simp);rfl;rfl;kernel_rfl)|(apply qwf;rfl;exact e8;rfl;rfl;rfl;kernel_rfl)|(apply q22;exact q6g;rfl))
  refine qn rfl (y3 rfl) ⟨rfl,?_⟩
  show(st++[]).set o _=_
  rw[Qc];rfl
 .skip
  repeat' (first|apply qo|apply qf|apply qh|apply qj|(apply qc;rfl;apply cd_f;exact cRa)|(apply zk;rfl;rfl;rfl)|(apply ww;rfl;rfl)|(apply qbl;rfl;rfl;rfl)|apply qv|(apply vc;rfl;exact e8;rfl;rfl)|(apply qy7;rfl;rfl;exact e8;rfl;rfl))
  refine qn rfl (y3 rfl) ⟨rfl,?_⟩
  show st++[]=_
  rw[Qc,zk6 ho]
theorem zan:y0 E.P 5 1 1:=⟨_,_,rfl,rfl,rfl,rfl,rfl⟩
theorem q4t(o ver tp:Nat)(q:AV)(l m:List UInt8)(st:List AObj)(ho:st[o]?=some (bldO ver q l tp))(ht:st[tp]?=some (.tip l.length 1 5))(hq:q=.v (.pointer none)∨q=.bx o ver 0)(d5:l.length+m.length<=140737488355328):
  qp E 69 [.bx o ver 0,Sv m] st λr st'=>r=.tu [Iv m.length,.v .nilIface]∧st'=(st.set o (bldO ver (.bx o ver 0) (l++m) tp)).set tp (.tip (l.length+m.length) 1 5):=by
 have b9:tp≠o:=λe=>by rw[e,ho]at ht;simp at ht
 have e8:(st++[])[o]?=some (bldO ver q l tp):=by rw[Qc];exact ho
 have ht':(st++[])[tp]?=some (.tip l.length 1 5):=by rw[Qc];exact ht
 have h2:=kg (y:=.cells ver 154 [.bx o ver 0,.sl 1 (l.map Uv) (some tp)]) e8;have h3:=j8 (y:=.cells ver 154 [.bx o ver 0,.sl 1 (l.map Uv) (some tp)]) ht' (Ne.symm b9);have h4:=j8 (y:=.tip (l.length+m.length) 1 5) h2 b9;have h5:maxLen=140737488351232∨True:=.inr trivial;refine qq Tryz.func69 rfl (Qa rfl) ?_;repeat' (first|apply qo|apply qf|apply qh|apply qj|apply qg|(apply zr;rfl;rfl;rfl)|(apply zk;rfl;rfl;rfl)|(apply ww;rfl;rfl)|apply qu|(apply qk;exact Tryz.call115;exact zac o ver q _ (st++[]) e8 hq)|(apply vc;rfl;exact h2;rfl;rfl)|(apply q4c;rfl;rfl;exact h3;(simp);rfl;rfl;exact zan;(simp only[maxLen];omega);omega)|(apply qan;rfl;rfl;exact h4;(iterate 6 rfl)))
 refine qn rfl (kw rfl) ⟨rfl,?_⟩
 show(((st++[]).set o _).set tp _).set o (.cells ver 154 [.bx o ver 0,.sl 1 (l.map Uv++m.map Uv) (some tp)])=_
 rw[Qc,Zm _ _ b9,Zo,<-Zl]
theorem zl3(o ver tp:Nat)(q:AV)(l:List UInt8)(c:UInt8)(st:List AObj)(ho:st[o]?=some (bldO ver q l tp))(ht:st[tp]?=some (.tip l.length 1 5))(hq:q=.v (.pointer none)∨q=.bx o ver 0)(d5:l.length+1<=140737488355328):
  qp E 121 [.bx o ver 0,Uv c] st λr st'=>r=.v .nilIface∧st'=(st.set o (bldO ver (.bx o ver 0) (l++[c]) tp)).set tp (.tip (l.length+1) 1 5):=by
 have b9:tp≠o:=λe=>by rw[e,ho]at ht;simp at ht
 have e8:(st++[])[o]?=some (bldO ver q l tp):=by rw[Qc];exact ho
 have ht':(st++[])[tp]?=some (.tip l.length 1 5):=by rw[Qc];exact ht
 have h2:=kg (y:=.cells ver 154 [.bx o ver 0,.sl 1 (l.map Uv) (some tp)]) e8;have h3:=j8 (y:=.cells ver 154 [.bx o ver 0,.sl 1 (l.map Uv) (some tp)]) ht' (Ne.symm b9);have h4:=j8 (y:=.tip (l.length+1) 1 5) h2 b9;refine qq Tryz.func121 rfl (Qa rfl) ?_;repeat' (first|apply qo|apply qf|apply qh|apply qj|apply qg|(apply zk;rfl;rfl;rfl)|(apply wi;(iterate 9 rfl))|(apply ww;rfl;rfl)|apply qu|(apply qk;exact Tryz.call115;exact zac o ver q _ (st++[]) e8 hq)|(apply vc;rfl;exact h2;rfl;rfl)|(apply qs9 (m:=1);rfl;rfl;exact h3;(simp);rfl;rfl;exact zan;rfl;rfl;(simp only[maxLen];omega);omega)|(apply qan;rfl;rfl;exact h4;(iterate 6 rfl)))
 refine qn rfl (q5 rfl) ⟨rfl,?_⟩
 show(((st++[]).set o _).set tp _).set o (.cells ver 154 [.bx o ver 0,.sl 1 (l.map Uv++[c].map Uv) (some tp)])=_
 rw[Qc,Zm _ _ b9,Zo,<-Zl]
theorem q0t(o ver tp:Nat)(q:AV)(l:List UInt8)(st:List AObj)(ho:st[o]?=some (bldO ver q l tp))(ht:st[tp]?=some (.tip l.length 1 5)):
  qp E 72 [.bx o ver 0] st λr st'=>r=Sv l∧st'=st.set tp .dead:=by
 refine⟨λB0 w0 G vals w hL hA hR=>?_⟩;obtain⟨h0,h1,h2,h3,c,h4,h5,h6⟩:=hA.ob o _ ho;obtain⟨g0,g1,g2⟩:=hA.ob tp _ ht;have b9:tp≠o:=λe=>by rw[e,ho]at ht;simp at ht
 have hvals:vals= #[.pointer (some ⟨(G.ob o).blk,0,none⟩)]:=by
  have hs:vals.size=1:=by have:=hR.1;simpa using this.symm
  have h:=hR.2 0 (.bx o ver 0) vals[0] rfl (by simp[hs]);apply Zs
  .simp[hs]
  .intro i hi1 lj
   have:i=0:=by simp at lj;omega
   subst this
   have e:vals[0]=.pointer (some ⟨(G.ob o).blk,0,none⟩):=by
    generalize vals[0]=v at h
    cases h with
    |bx _ _ _ b hn e1 e2=>rw[e2 h1]
   simpa using e
 subst hvals;have hc2:c.size=2:=by rw[<-h5];rfl
 have i6:=h6 1 (.sl 1 (l.map Uv) (some tp)) c[1] rfl (by simp[hc2])
 have db:w.drew.cell? ⟨(G.ob o).blk,1,none⟩=some c[1]:=by
  have h4':w.drew.heap[(G.ob o).blk]?=some (.cells c 154 (0,0)):=h4;simp[World.cell?,h4',hc2]
 generalize hv:c[1]=v at i6 db;have bv:Below w.heap.size w w.drew:=⟨rfl,rfl,rfl,Qe _,λ_ _=>rfl⟩;have gw:=(hA.kill tp).fresh bv;have hl:(l.map Uv).length=l.length:=Sx
 generalize nc:l.map Uv=xs at i6
 cases i6 with
 |sl0 _ _ base cap rm=>
  obtain⟨_,rfl,rfl⟩:=rm tp rfl;have hl0:l=[]:=by simpa using nc
  subst hl0;refine(qwu Tryz.lays169 Tryz.Builder_Extra_169 (G.ob o).blk 0 0 none (.pointer none) .empty w w.drew db rfl (Lib.run_unsafeString_none w.drew _ _ _ none)).mono ?_;rintro e w' ⟨rfl,rfl⟩
  exact⟨_,G,Sv [],_,rfl,.refl G,gw,.v _,rfl,rfl⟩
 |sl _ _ _ b off cap pub hp hw d5 hr rm hcap0=>
  subst nc;rw[hl]at rm db;obtain⟨_,gn,_,hcur⟩:=rm tp rfl;obtain⟨hb,rfl,sq,rf,gr⟩:=hcur g1;obtain⟨hB,c2,vs,e1,e2,e3,e4⟩:=g2 gn;rw[hb]at e1 e2 hB
  have hcells:∀j x,l[j]?=some x->w.drew.cell? ((⟨b,0,none⟩:Addr).add j)=some (.int .u8 x.toNat):=λj x hx=>by
   obtain⟨c3,T3,fz3,k1,k2⟩:=hA.pub b pub hp;have k1':w.drew.heap[b]?=some (.cells c3 T3 fz3):=k1;have hj:j<(flat (l.map Uv)).length:=by rw[qkk];simpa using lt_of_getElem? hx
   have hy:pub[0+j]?=some (pub[0+j]'(by omega)):=List.getElem?_eq_getElem Om;have hrj:=hr j (Uv x) _ (by rw[qkk];simp[hx]) hy
   have:pub[0+j]'(by omega)=.int .u8 x.toNat:=by
    generalize pub[0+j]'(by omega)=y at hrj
    cases hrj;rfl
   rw[this]at hy;rw[Addr.add_lit];simp only[World.cell?,k1']
   simpa using k2 _ _ hy
  have d7:l.length<=c2.size:=by rw[e4,<-sq];omega
  have e1':w.drew.heap[b]?=some (.cells c2 5 (0,0)):=e1;have hUS:=Lib.run_unsafeString_row (P:=E.P) w.drew 219 3 9 5 rfl Kr b c2.size (by simp[World.shape?,e1']) l (by rintro rfl;exact gn rfl) d7 (by simp only[maxLen]at rf;omega) hcells;have hSD:(Builtin.unsafeSliceData_ #[152] 219 #[.slice (some ⟨b,0,none⟩) l.length cap]).run E.P w.drew=.ok (.pointer (some ⟨b,0,none⟩)) w.drew:=Lib.run_unsafeSliceData_row _ _ _ _ _ _ Om;refine(qwu Tryz.lays169 Tryz.Builder_Extra_169 (G.ob o).blk l.length cap (some ⟨b,0,none⟩) _ _ w _ db hSD hUS).mono ?_;rintro e w' ⟨rfl,rfl⟩
  have hfz:∃fz',(w.drew.freeze ⟨b,0,none⟩ l.length).heap[b]?=some (.cells c2 5 fz'):=by
   unfold World.freeze;rw[if_neg gn];simp[Za,e1']
  obtain⟨fz',hfz⟩:=hfz
  have p6:∀k,k≠b->(w.drew.freeze ⟨b,0,none⟩ l.length).heap[k]?=w.drew.heap[k]?:=λk hk=>by
   unfold World.freeze;rw[if_neg gn];simp[Za,Ne.symm hk]
  refine⟨_,G,Sv l,_,rfl,.refl G,gw.refroze e1' hfz p6 hB (by unfold World.freeze;rw[if_neg gn];simp) (by unfold World.freeze;rw[if_neg gn]) (by unfold World.freeze;rw[if_neg gn]) (by unfold World.freeze;rw[if_neg gn]) (λk x hx hlv=>?_),.v _,rfl,rfl⟩;rcases getElem?_set' _ _ _ _ _ hx with⟨_,e⟩|⟨k1,k2⟩
  .subst e;exact hlv.elim
  .have:=hA.sep k tp x _ k1 k2 ht hlv gn
   rwa [hb]at this
theorem zey(st loc loc':List AObj)(k kt ver:Nat)(q:AV)(l:List UInt8)(c:UInt8)(hk:loc[k]?=some (bldO ver q l (st.length+kt)))(rk:loc[kt]?=some (.tip l.length 1 5))(hq:q=.v (.pointer none)∨q=.bx (st.length+k) ver 0)
  (d5:l.length+1<=140737488355328) (hl:loc'=(loc.set k (bldO ver (.bx (st.length+k) ver 0) (l++[c]) (st.length+kt))).set kt (.tip (l++[c]).length 1 5)):
  qp E 121 [.bx (st.length+k) ver 0,Uv c] (st++loc) λr st'=>r=.v .nilIface∧st'=st++loc':=by
 refine(zl3 (st.length+k) ver (st.length+kt) q l c (st++loc) (j9 hk) (j9 rk) hq d5).mono λr st' ⟨h1,h2⟩=>⟨h1,?_⟩;rw[h2,y7,y7,hl,Zh];rfl
end Go.Proofs.YtlekheifonaipaaGreatDoor
namespace Go.Proofs.YtlekheifonaipaaGreatDoor
open Go Go.Av Go.RowKit Go.Proofs Go.Pl
theorem qlb(l:List UInt8)(c:UInt8)(st:List AObj)(hl:l.length<4294967281):qp E 104 [Sv l,Sv [c]] st λr st'=>r=.tu [Sv (upto c l),Sv (past c l),Bv (decide (c∈l))]∧st'=st:=by
 have:=qwz l [c] st hl;rw[zmh]at this;exact this
@[reducible] def qff (k : Nat) (text rest : List UInt8) : AV := .ag [Iv k, Iv ((text.length : Int) - rest.length), Sv (upto 10 rest), Bv (decide (10 ∈ rest))]
theorem zk9(text:List UInt8)(o kb ver n:Nat)(I:Nat->List UInt8->List AObj->Prop)(D:List AObj->Prop)(st:List AObj)(ht:text.length<4294967281)(h0:I 0 text st)
  (hI:∀k rest st',I k rest st'->st'.length=n∧st'[kb]?=some (.cells ver 9 [Sv text]))
  (hY:∀k rest st' own,I k rest st'->rest≠[]->rest.length<=text.length->yz E o [qff k text rest] (st'++[own]) λb st2=>∃st3,st2=st3++[own]∧(b=true->I (k+1) (past 10 rest) st3)∧(b=false->D st3)):
  qp E 154 [.yd o,.bx kb ver 0] st λr st'=>∃st3 ext',st'=st3++ext'∧((∃k,I k [] st3)∨D st3):=by
 refine qq Tryz.func154 rfl (Qa rfl) ?_;obtain⟨hn,hb⟩:=hI 0 text st h0;subst hn;repeat' (first|apply qo|apply qy|apply qf|apply qh|apply qg|(apply j7;rfl;rfl)|(apply jc;(iterate 11 rfl))|(apply yf;rfl;rfl;rfl)|(apply qbk;rfl;rfl;exact hb;rfl;rfl))
 refine jr (λ(x:Nat×List UInt8)s=>match x with|(k,rest)=>∃stk at' ta eb,I k rest stk∧k+rest.length<=text.length∧at'=(text.length:Int)-rest.length∧StA [(0,.yd o),(1,.bx kb ver 0),(3,.bx (st.length+0) 0 0),(4,Sv rest)] (stk++(.cells 0 206 [Iv k,Iv at',Sv ta,Bv eb]::[])) [] s) (λx=>x.2.length) (0,text)
  ⟨st,0,[],false,h0,Sx,Sx,?_⟩ ?_
 .exact z6 ⟨rfl,rfl,rfl,rfl,trivial⟩
 rintro⟨k,rest⟩ _ ⟨stk,_,ta,eb,hi,d7,rfl,t,rfl⟩;obtain⟨hn,gb⟩:=hI k rest stk hi;repeat' (first|apply qo|apply qy|apply qf|apply qh|apply qj|apply qg|(apply zf;rfl;rfl)|(apply jp;rfl;rfl;rfl)|(apply qc;rfl;apply cd_d<;>intro h)|(apply zk;rfl;rfl;rfl)|apply qv|apply z7|(apply qk;exact Tryz.call104;exact qlb _ _ _ Om)|(apply qci;rfl;assumption;(iterate 10 rfl))|(apply qdg;rfl;assumption;rfl;rfl;rfl;rfl))
 .refine qdf rfl ((hY k rest stk _ hi h Om).mono ?_)
  rintro b _ ⟨st3,rfl,h1,h2⟩
  cases b
  .skip
   repeat' (first|apply qh|(apply ja;rfl)|(apply qc;rfl;apply qi3;exact cRa)|apply qu)
   refine qn rfl (y3 rfl) ⟨st3,_,rfl,.inr (h2 rfl)⟩
  .have hi3:=h1 rfl
   obtain⟨hn3,gc⟩:=hI _ _ _ hi3;have hp:=vm 10 rest;have hr0:0<rest.length:=Zd.2 h;repeat' (first|apply qo|apply qf|apply qh|apply qj|(apply ja;rfl)|(apply qc;rfl;apply qi2;exact cRa)|(apply zr;rfl;rfl;rfl)|(apply zn;rfl;rfl;exact q6 Om Om)|(apply wx;rfl;rfl;exact q6 Om Om)|(apply zk;rfl;rfl;rfl)|apply qv|(apply qbk;rfl;rfl;exact gc;rfl;rfl)|(apply qci;rfl;assumption;(iterate 10 rfl))|(apply qdg;rfl;assumption;rfl;rfl;rfl;rfl))
   exact⟨(k+1,past 10 rest),⟨st3,_,_,_,hi3,Om,rfl,z6 ⟨rfl,rfl,rfl,rfl,trivial⟩⟩,by simp only;omega⟩
 .have hr:rest=[]:=Classical.not_not.1 h
  subst hr;exact qn rfl (y3 rfl) ⟨stk,_,rfl,.inl ⟨k,hi⟩⟩
theorem qz5(text:List UInt8)(st st':List AObj)(n:Nat)(hn:st.length=n)(e7:st++[.cells 0 9 [Sv text]]=st'):qp E 107 [Sv text] st λr st1=>r=.fn (.func 154) [] [.bx n 0 0]∧st1=st':=by
 subst hn;subst e7;refine qq Tryz.func107 rfl (Qa rfl) ?_;repeat' (first|apply qo|apply qf|apply qh|apply qg|apply qf5|(apply qb4;rfl;rfl;rfl;rfl)|apply qu)
 exact qn rfl (q5 rfl) ⟨rfl,rfl⟩
theorem zci(st loc loc':List AObj)(k kt ver:Nat)(q:AV)(l m:List UInt8)(hk:loc[k]?=some (bldO ver q l (st.length+kt)))(rk:loc[kt]?=some (.tip l.length 1 5))(hq:q=.v (.pointer none)∨q=.bx (st.length+k) ver 0)
  (d5:l.length+m.length<=140737488355328) (hl:loc'=(loc.set k (bldO ver (.bx (st.length+k) ver 0) (l++m) (st.length+kt))).set kt (.tip (l++m).length 1 5)):
  qp E 69 [.bx (st.length+k) ver 0,Sv m] (st++loc) λr st'=>r=.tu [Iv m.length,.v .nilIface]∧st'=st++loc':=by
 refine(q4t (st.length+k) ver (st.length+kt) q l m (st++loc) (j9 hk) (j9 rk) hq d5).mono λr st' ⟨h1,h2⟩=>⟨h1,?_⟩;rw[h2,y7,y7,hl,Zh]
theorem qtf(st loc loc':List AObj)(k kt ver:Nat)(q:AV)(l:List UInt8)(hk:loc[k]?=some (bldO ver q l (st.length+kt)))(rk:loc[kt]?=some (.tip l.length 1 5))(hl:loc'=loc.set kt .dead):
  qp E 72 [.bx (st.length+k) ver 0] (st++loc) λr st'=>r=Sv l∧st'=st++loc':=by
 refine(q0t (st.length+k) ver (st.length+kt) q l (st++loc) (j9 hk) (j9 rk)).mono λr st' ⟨h1,h2⟩=>⟨h1,?_⟩;rw[h2,y7,hl]
@[reducible] def dedL (st : List AObj) (by' text : List UInt8) (q : AV) (acc : List UInt8) (lp : AObj) : List AObj :=
 [.cells 0 9 [Sv by'],.cells 0 9 [Sv []],.cells 0 4 [Bv false],bldO 0 q acc (st.length+5),.cells 0 9 [Sv text],.tip acc.length 1 5,.dfr,lp]
theorem q45(text by':List UInt8)(st:List AObj)(hl:text.length<4294967281):qp E 177 [Sv text,Sv by'] st λr st'=>r=.tu [Sv (v7 by' text).1,Bv (v7 by' text).2]∧st'=st:=by
 refine qz (qms _ _) (qq Tryz.func177 rfl (Qa rfl) ?_);repeat' (first|apply qo|apply qf|apply qh|apply qj|(apply j7;rfl;rfl)|(apply qb4;rfl;rfl;rfl;rfl))
 refine qk Tryz.call107 (qz5 text _ (st++[.cells 0 9 [Sv by'],.cells 0 9 [Sv []],.cells 0 4 [Bv false],.cells 0 154 [.v (.pointer none),zm],.cells 0 9 [Sv text]]) (st.length+4) ?_ ?_) ?_
 .show(st++[_,_,_,_]).length=_
  simp
 .show(st++[_,_,_,_])++[_]=_
  rw[Qb];rfl
 repeat' (first|apply qy|apply qh)
 refine qte (o:=st.length+3) (j:=1) (sz:=1) (T':=5) (j9 rfl) rfl ?_
 refine qgx [(3,.bx (st.length+0) 0 0),(4,.bx (st.length+1) 0 0),(5,.bx (st.length+2) 0 0),(6,.bx (st.length+3) 0 0),(11,.fn (.func 154) [] [.bx (st.length+4) 0 0])]
  (st++[.cells 0 9 [Sv by'],.cells 0 9 [Sv []],.cells 0 4 [Bv false],bldO 0 (.v (.pointer none)) [] (st.length+5),.cells 0 9 [Sv text],.tip 0 1 5]) [] ⟨rfl,rfl,rfl,rfl,rfl,trivial⟩ ?_ rfl (λt=>?_)
 .show(st++[_,_,_,_,_]).set (st.length+3) (.cells 0 154 [_,.sl 1 [] (some (st++[_,_,_,_,_]).length)])++[_]=_
  rw[y7,Qb];simp
 refine qkg (st:=st) (loc:=[.cells 0 9 [Sv by'],.cells 0 9 [Sv []],.cells 0 4 [Bv false],bldO 0 (.v (.pointer none)) [] (st.length+5),.cells 0 9 [Sv text],.tip 0 1 5]) rfl rfl Tryz.call154 λF hF=>?_
 refine qp.mono (zk9 text (st.length+7) (st.length+4) 0 (st.length+8)
  (λ_ rest st'=>∃q acc don,(q=.v (.pointer none)∨q=.bx (st.length+3) 0 0)∧zo text=don++zo rest∧(∀x∈don,by'<+:x.1)∧acc=don.flatMap (λx=>x.1.drop by'.length++x7 x.2)∧acc.length+rest.length<=text.length∧st'=st++dedL st by' text q acc (F .ready none))
  (λst'=>(¬ ∀x∈zo text,by'<+:x.1)∧∃q acc,st'=st++dedL st by' text q acc (F .done (some .ret)))
  (st++dedL st by' text (.v (.pointer none)) [] (F .ready none)) hl ⟨_,[],[],.inl rfl,rfl,Sx,rfl,Sx,rfl⟩ ?_ ?_) ?_
 .rintro k rest _ ⟨q,acc,don,hq,h1,h2,h3,h4,rfl⟩
  exact⟨Sx,j9 rfl⟩
 .rintro k rest _ own ⟨q,acc,don,hq,h1,h2,h3,h4,rfl⟩ b9 d7
  refine q8s ?_;rw[Qb];refine qoi hF (j9 rfl) rfl λl=>?_;repeat' (first|apply qf|apply qh|(apply j7;rfl;rfl)|(apply jc;(iterate 11 rfl)))
  refine⟨j9 rfl,rfl,?_⟩
  refine qgx [(3,.bx (st.length+0) 0 0),(4,.bx (st.length+1) 0 0),(5,.bx (st.length+2) 0 0),(6,.bx (st.length+3) 0 0),(7,.bx (st.length+9) 0 0)]
   (st++(dedL st by' text q acc (F .busy none)++[own,.cells 0 206 (qff k text rest).cells])) [] ⟨rfl,rfl,rfl,rfl,rfl,trivial⟩ ?_ rfl (λt=>?_)
  .show(st++(dedL st by' text q acc (F .ready none)++[own,_])).set (st.length+7) _=_
   rw[y7];rfl
  have p9:=qge (upto 10 rest) by';have t8:=vl 10 rest;have tq:(upto 10 rest,decide (10∈rest))∈zo text:=by rw[h1,wl b9];simp
  have np:=wl b9;have dx:=vm 10 rest;have d9:10∈rest->(upto 10 rest).length<rest.length:=qft;repeat' (first|apply qo|apply qy|apply qf|apply qh|apply qj|apply qg|(apply zf;rfl;rfl)|(apply ja;rfl)|(apply qc;rfl;apply cd_n<;>intro h)|(apply qc;rfl;apply cd_d<;>intro h)|(apply zk;rfl;rfl;rfl)|(apply jt;(iterate 5 rfl))|(apply jc;(iterate 11 rfl))|apply qv|apply qu|(apply qk;exact Tryz.call202;exact qfz _ _ _)|(refine qk Tryz.call69 (zci st _ _ 3 5 0 _ _ _ rfl rfl ?_ ?_ rfl) ?_;(first|exact hq|exact .inr rfl);(first|omega|(simp;omega))))
  .have gp:¬ ∀x∈zo text,by'<+:x.1:=λbm=>by
    have:=(yx _ _).2 (bm _ tq);simp_all
   refine⟨j9 rfl,st++(dedL st by' text q acc (F .done (some .ret))++[own]),[.cells 0 206 (qff k text rest).cells],?_,?_,st++dedL st by' text q acc (F .done (some .ret)),(Qb _ _ _).symm,nofun,λ_=>⟨gp,q,acc,rfl⟩⟩
   .show(st++_).set (st.length+7) _=_
    rw[y7,Qb st];rfl
   .exact qmh (.same _ (.same _ (.same _ (.same _ (.same _ (.same _ (.same _ (zc8 hF (qkn _ _))))))))) st
  all_goals
   have gq:by'<+:upto 10 rest:=(yx _ _).1 (by simp_all);have htp:=qd9 gq
  .refine⟨j9 rfl,st++(dedL st by' text (.bx (st.length+3) 0 0) (acc++Lib.trimPrefix (upto 10 rest) by'++[10]) (F .ready none)++[own]),[.cells 0 206 (qff k text rest).cells],?_,?_,
    st++dedL st by' text (.bx (st.length+3) 0 0) (acc++Lib.trimPrefix (upto 10 rest) by'++[10]) (F .ready none),(Qb _ _ _).symm,λ_=>⟨_,_,don++[(upto 10 rest,true)],.inr rfl,?_,?_,?_,?_,rfl⟩,nofun⟩
   .show(st++_).set (st.length+7) _=_
    rw[y7,Qb st];rfl
   .refine qmh (.same _ (.same _ (.same _ (.cut (qtk ?_) (.same _ (.cut q02 (.same _ (zc8 hF (qkn _ _))))))))) st
    intro x hx;simp only[Zb,Zk,or_false]at hx;rcases hx with rfl|rfl
    .exact zff Sx
    .exact q03 Sx
   .rw[h1,np];simp_all
   .intro x hx
    rcases Qw.1 hx with hx|hx
    .exact h2 x hx
    .simp at hx;subst hx;exact gq
   .rw[h3,htp];simp[x7]
   .have:=d9 (by assumption)
    simp;omega
  .refine⟨j9 rfl,st++(dedL st by' text (.bx (st.length+3) 0 0) (acc++Lib.trimPrefix (upto 10 rest) by') (F .ready none)++[own]),[.cells 0 206 (qff k text rest).cells],?_,?_,
    st++dedL st by' text (.bx (st.length+3) 0 0) (acc++Lib.trimPrefix (upto 10 rest) by') (F .ready none),(Qb _ _ _).symm,λ_=>⟨_,_,don++[(upto 10 rest,false)],.inr rfl,?_,?_,?_,?_,rfl⟩,nofun⟩
   .show(st++_).set (st.length+7) _=_
    rw[y7,Qb st];rfl
   .refine qmh (.same _ (.same _ (.same _ (.cut (qtk ?_) (.same _ (.cut q02 (.same _ (zc8 hF (qkn _ _))))))))) st
    intro x hx;simp only[Zb,Zk,or_false]at hx;rcases hx with rfl|rfl
    .exact zff Sx
    .exact q03 Sx
   .rw[h1,np];simp_all
   .intro x hx
    rcases Qw.1 hx with hx|hx
    .exact h2 x hx
    .simp at hx;subst hx;exact gq
   .rw[h3,htp];simp[x7]
   .simp
    omega
 .rintro r st' ⟨st3,ext,rfl,⟨k,q,acc,don,hq,h1,h2,h3,h4,rfl⟩|⟨gp,q,acc,rfl⟩⟩
  .refine⟨.ready,none,nofun,by rw[Qb];exact j9 rfl,?_⟩
   refine qgx [(4,.bx (st.length+1) 0 0),(5,.bx (st.length+2) 0 0),(6,.bx (st.length+3) 0 0)] (st++(dedL st by' text q acc .dead++ext)) [st.length+6] ⟨rfl,rfl,rfl,trivial⟩ ?_ rfl (λt=>?_)
   .show((st++_)++ext).set (st.length+7) _=_
    rw[Qb,y7];rfl
   repeat' (first|apply qo|apply qf|apply qh|(apply jc;(iterate 11 rfl))|apply qu|(refine qk Tryz.call72 (qtf st _ _ 3 5 0 _ _ rfl rfl rfl) ?_))
   refine qqa rfl rfl rfl (qn rfl (qnj rfl rfl rfl rfl rfl rfl rfl rfl rfl rfl) ⟨zls (?_:_=_),_,rfl⟩);rw[vv,Qc]at h1;unfold v7;rw[h1,if_pos h2,h3]
  .refine⟨.done,some .ret,nofun,by rw[Qb];exact j9 rfl,?_⟩
   refine qgx [(4,.bx (st.length+1) 0 0),(5,.bx (st.length+2) 0 0),(6,.bx (st.length+3) 0 0)] (st++(dedL st by' text q acc .dead++ext)) [st.length+6] ⟨rfl,rfl,rfl,trivial⟩ ?_ rfl (λt=>?_)
   .show((st++_)++ext).set (st.length+7) _=_
    rw[Qb,y7];rfl
   repeat' (first|apply qu)
   refine qqa rfl rfl rfl (qn rfl (qnj rfl rfl rfl rfl rfl rfl rfl rfl rfl rfl) ⟨zls (?_:_=_),_,rfl⟩);unfold v7;rw[if_neg gp]
theorem qxn(l:List UInt8)(st:List AObj)(hl:l.length<4294967281):qp E 120 [Sv l] st λr st'=>r=Bv (v7 [32] l).2∧st'=st:=by
 refine qz (qr _) (qq Tryz.func120 rfl (Qa rfl) ?_);repeat' (first|apply qo|apply qf|apply qh|apply qj|apply qg|(apply zf;rfl;rfl)|apply qu|(apply qk;exact Tryz.call177;exact q45 _ _ _ hl))
 exact qn rfl (q5 rfl) ⟨rfl,_,rfl⟩
theorem zft(l:List UInt8)(st:List AObj)(hl:l.length<4294967281):qp E 73 [Sv l] st λr st'=>r=Bv (decide (yw l))∧st'=st:=by
 refine qz (qr _) (qq Tryz.func73 rfl (Qa rfl) ?_);repeat' (first|apply qo|apply qf|apply qh|apply qj|apply qg|(apply qt;rfl;rfl;rfl)|(apply ja;rfl)|(apply qw;rfl;rfl;rfl;rfl)|(apply wg;exact cAo)|(apply wj;exact cAo)|(apply qbb;exact cRa)|(apply jo<;>intro h)|(apply qi;rfl;apply w6;exact cAo)|(apply qi;rfl;apply wu;exact cAo)|(apply qi;rfl;apply pk_t;exact cRa)|(apply qc;rfl;apply cd_n<;>intro h)|(apply qc;rfl;apply cd_t;exact cRa)|(apply zr;rfl;rfl;rfl)|apply qv|apply qu|(apply qk;exact Tryz.call119;exact qtt _ _ _ Om)|(apply qk;exact Tryz.call120;exact qxn _ _ hl))
 all_goals refine qn rfl (q5 rfl) ⟨congrArg Bv (?_:_=_),_,rfl⟩
 .exact(decide_eq_false λ⟨a,b,c,d⟩=>by omega).symm
 .exact(decide_eq_false λ⟨a,b,c,d⟩=>by omega).symm
 .exact(decide_eq_false λ⟨a,b,c,d⟩=>by simp_all[qj4]).symm
 .have e:yw l↔(v7 [32] l).2=true:=⟨λh=>h.2.2.2,λh=>⟨Om,Om,by simp_all[qj4],h⟩⟩
  simp[e]
theorem zfy(n:Nat)(l:List UInt8)(st:List AObj)(hn:n<=9223372036854775807)(hl:l.length<4294967281):qp E 74 [Iv n,Sv l] st λr st'=>r=Sv (qi8 n l)∧st'=st:=by
 refine qz (qr _) (qq Tryz.func74 rfl (Qa rfl) ?_);have h1:=qd0 n hn;repeat' (first|apply qo|apply qf|apply qh|apply qj|apply qg|(apply jz;rfl;rfl;exact cOs)|apply qu|(apply qk;exact Tryz.call117;exact qrf _ _ Om Om))
 exact qn rfl (q5 rfl) ⟨rfl,_,rfl⟩
theorem q76(n:Nat)(st:List AObj)(hn:n<=9223372036854775807):qp E 77 [Iv n] st λr st'=>r=Sv (qai n)∧st'=st:=by
 refine qz (qr _) (qq Tryz.func77 rfl (Qa rfl) ?_);have h1:=qd0 n hn;repeat' (first|apply qo|apply qf|apply qh|apply qj|apply qg|(apply jz;rfl;rfl;exact cOs)|apply qu|(apply qk;exact Tryz.call117;exact qrf _ _ Om Om))
 exact qn rfl (q5 rfl) ⟨rfl,_,rfl⟩
theorem q6n(l:List UInt8)(st:List AObj)(hl:l.length<4294967281):qp E 203 [Sv l] st λr st'=>r=Iv (kz l)∧st'=st:=by
 refine qz (qr _) (qq Tryz.func203 rfl (Qa rfl) ?_);repeat' (first|apply qo|apply qf|apply qh|apply qj|apply qg)
 refine qgt Tryz.call105 ((qqu l _ Om).mono ?_);rintro _ _ ⟨rfl,n,x,rfl,hx⟩;rcases x with _|⟨t',y⟩
 .simp only at hx
  have hb:=atoiAll_bounds hx;repeat' (first|apply qo|apply qf|apply qh|apply qj|apply qg|(apply zf;rfl;rfl)|(apply qt;rfl;rfl;rfl)|(apply jp;rfl;rfl;rfl)|(apply qw;rfl;rfl;rfl;rfl)|(apply wg;exact cAo)|(apply wj;exact cAo)|(apply qew;exact cRa)|(apply qbb;exact cRa)|(apply jo<;>intro h)|(apply qi;rfl;apply w6;exact cAo)|(apply qi;rfl;apply wu;exact cAo)|(apply qi;rfl;apply pk_t;exact cRa)|(apply qi;rfl;apply pk_f;exact cRa)|(apply qc;rfl;apply cd_t;exact cRa)|(apply qc;rfl;apply cd_d<;>intro h)|(apply wh;rfl;rfl)|apply qv|apply qu|(apply qk;exact Tryz.call117;exact qrf _ _ Om Om))
  all_goals refine qn rfl (q5 rfl) ⟨congrArg Iv (?_:_=_),_,rfl⟩
  all_goals rw[qxz hx]
  .rw[if_neg (by simp_all)]
  .rw[if_neg Om]
  .rw[if_neg Om]
  .rw[if_pos ⟨Classical.not_not.1 (by assumption),Om,Om⟩]
 .simp only at hx
  repeat' (first|apply qo|apply qf|apply qh|apply qj|apply qg|(apply zf;rfl;rfl)|(apply qw;rfl;rfl;rfl;rfl)|(apply qbb;exact cRa)|(apply qi;rfl;apply pk_t;exact cRa)|(apply qc;rfl;apply cd_t;exact cRa)|(apply xi;rfl;rfl)|apply qu)
  refine qn rfl (q5 rfl) ⟨congrArg Iv (?_:_=_),_,rfl⟩;rw[q6m hx];rfl
theorem zj7(l:List UInt8)(st:List AObj)(hl:l.length<4294967281):qp E 162 [Sv l] st λr st'=>r=.tu [Iv (jj l).1,Sv (jj l).2.1,Bv (jj l).2.2]∧st'=st:=by
 refine qz (qct _ _ _) (qq Tryz.func162 rfl (Qa rfl) ?_);have p9:=qge l zb;have t8:=vl 32 (Lib.trimPrefix l zb);have gc:=vm 32 (Lib.trimPrefix l zb);repeat' (first|apply qo|apply qf|apply qh|apply qj|apply qg|(apply zf;rfl;rfl)|(apply qt;rfl;rfl;rfl)|(apply jp;rfl;rfl;rfl)|(apply qw;rfl;rfl;rfl;rfl)|(apply xd;exact cAo)|(apply xv;exact cAo)|(apply qaf;exact cRa)|(apply xu;exact cRa)|(apply jo<;>intro h)|(apply qgj<;>intro h)|(apply qi;rfl;apply w6;exact cAo)|(apply qi;rfl;apply wu;exact cAo)|(apply qi;rfl;apply pk_t;exact cRa)|(apply qi;rfl;apply pk_f;exact cRa)|(apply zr;rfl;rfl;rfl)|apply qu|(apply qk;exact Tryz.call202;exact qfz l zb _)|(apply qk;exact Tryz.call104;exact qlb (Lib.trimPrefix l zb) 32 _ Om)|(apply qk;exact Tryz.call203;exact q6n (upto 32 (Lib.trimPrefix l zb)) _ Om)|(apply qk;exact Tryz.call198;exact q0d _ _ _ Om rfl rfl))
 all_goals refine qn rfl (yu rfl) ⟨zph (?_:_=_),_,rfl⟩
 all_goals simp only[jj,Zu,true_and]
 all_goals clear p9 t8 gc
 all_goals have c3:(2:Int)<=↑(kz (upto 32 (Lib.trimPrefix l zb)))↔2<=kz (upto 32 (Lib.trimPrefix l zb)):=Om
 all_goals have c4:(↑(past 32 (Lib.trimPrefix l zb)).length:Int)=8↔(past 32 (Lib.trimPrefix l zb)).length=8:=Om
 all_goals simp only[c3,c4,qj3,q2w]at *
 all_goals clear c3 c4
 all_goals simp_all
 all_goals first|(intros;omega)|skip
theorem zgk(l:List UInt8)(st:List AObj)(hl:l.length<4294967281):qp E 161 [Sv l] st λr st'=>r=Bv (yn l)∧st'=st:=by
 refine qz (qr _) (qq Tryz.func161 rfl (Qa rfl) ?_);have p9:=qge l zb;have t8:=vl 32 (Lib.trimPrefix l zb);have gc:=vm 32 (Lib.trimPrefix l zb);repeat' (first|apply qo|apply qy|apply qf|apply qh|apply qj|apply qg|(apply zf;rfl;rfl)|(apply qt;rfl;rfl;rfl)|(apply jp;rfl;rfl;rfl)|(apply ja;rfl)|(apply qw;rfl;rfl;rfl;rfl)|(apply xd;exact cAo)|(apply xv;exact cAo)|(apply jo<;>intro h)|(apply qi;rfl;apply w6;exact cAo)|(apply qi;rfl;apply wu;exact cAo)|(apply qc;rfl;apply vq;exact cAo)|(apply qc;rfl;apply cd_n<;>intro h)|(apply qc;rfl;apply cd_f;exact cRa)|(apply qc;rfl;apply cd_d<;>intro h)|(apply zr;rfl;rfl;rfl)|apply qv|apply qu|(apply qk;exact Tryz.call202;exact qfz l zb _)|(apply qk;exact Tryz.call155;exact qf1 _ _ _)|(apply qk;exact Tryz.call104;exact qlb (Lib.trimPrefix l zb) 32 _ Om)|(apply qk;exact Tryz.call203;exact q6n (upto 32 (Lib.trimPrefix l zb)) _ Om)|(apply qk;exact Tryz.call198;exact q0d _ _ _ Om rfl rfl))
 all_goals refine qn rfl (q5 rfl) ⟨congrArg Bv (?_:_=_),_,rfl⟩
 all_goals clear p9 t8 gc
 all_goals by_cases hp:zb<+:l
 all_goals have c1:(↑(kz (upto 32 (Lib.trimPrefix l zb))):Int)<2↔kz (upto 32 (Lib.trimPrefix l zb))<2:=Om
 all_goals have c2:(↑(kz (upto 32 (Lib.trimPrefix l zb))):Int)=0↔kz (upto 32 (Lib.trimPrefix l zb))=0:=Om
 all_goals have c4:(↑(past 32 (Lib.trimPrefix l zb)).length:Int)<=8↔(past 32 (Lib.trimPrefix l zb)).length<=8:=Om
 all_goals simp only[c1,c2,c4,qj3,q2w]at *
 all_goals clear c1 c2 c4
 all_goals try (have e:Lib.trimPrefix l zb=l.drop 7:=qd9 hp;simp only[e]at *)
 all_goals unfold yn
 all_goals first|rw[if_pos hp]|rw[if_neg hp]
 all_goals simp_all
 all_goals first|exact Iff.rfl|(intros;omega)|skip
theorem zkd(l:List UInt8)(n:Int)(st:List AObj)(hl:l.length<4294967281):qp E 163 [Sv l,Iv n] st λr st'=>r=Iv (yq l n)∧st'=st:=by
 refine qz (qr _) (qq Tryz.func163 rfl (Qa rfl) ?_);repeat' (first|apply qo|apply qf|apply qh|apply qj|apply qg|(apply qt;rfl;rfl;rfl)|(apply jp;rfl;rfl;rfl)|(apply ja;rfl)|(apply qw;rfl;rfl;rfl;rfl)|(apply wg;exact cAo)|(apply wj;exact cAo)|(apply qaz;rfl;rfl;rfl;rfl)|(apply qao;exact cRa)|(apply qbs;exact cRa)|(apply qhu<;>intro h)|(apply qaf;exact cRa)|(apply xu;exact cRa)|(apply jo<;>intro h)|(apply qgj<;>intro h)|(apply qi;rfl;apply w6;exact cAo)|(apply qi;rfl;apply wu;exact cAo)|(apply qi;rfl;apply qjb;exact cRa)|(apply qi;rfl;apply qfm;exact cRa)|(apply qi;rfl;apply pk_t;exact cRa)|(apply qi;rfl;apply pk_f;exact cRa)|(apply qc;rfl;apply cd_t;exact cRa)|(apply qc;rfl;apply cd_f;exact cRa)|(apply qc;rfl;apply cd_d<;>intro h)|apply qv|apply qu|(apply qk;exact Tryz.call119;exact qtt _ _ _ Om)|(apply qk;exact Tryz.call120;exact qxn _ _ hl))
 all_goals refine qn rfl (q5 rfl) ⟨congrArg Iv (?_:_=_),_,rfl⟩
 all_goals simp_all[yq,qj4]
theorem zjt(n:Int)(st:List AObj):qp E 165 [Iv n] st λr st'=>r=Iv (qeh n)∧st'=st:=by
 refine qz (qr _) (qq Tryz.func165 rfl (Qa rfl) ?_);by_cases hr:n<2∨50000<n
 .skip
  repeat' (first|apply qo|apply qf|apply qh|apply qj|apply qg|(apply qt;rfl;rfl;rfl)|(apply qw;rfl;rfl;rfl;rfl)|(apply wg;exact cAo)|(apply wj;exact cAo)|(apply jo<;>intro h)|(apply qi;rfl;apply w6;exact cAo)|(apply qi;rfl;apply wu;exact cAo)|(apply qc;rfl;apply va;exact cAo)|(apply qc;rfl;apply cd_t;exact cRa)|apply qu)
  all_goals refine qn rfl (q5 rfl) ⟨congrArg Iv (?_:_=_),_,rfl⟩
  all_goals first|exact(if_pos hr).symm|omega
 .obtain⟨k,rfl⟩:=Int.eq_ofNat_of_zero_le (by omega:0<=n)
  have h1:=qd0 k Om;have h2:=qdi k (Lib.repeatL [48] 8);have h3:=qbe k;have h4:(Lib.repeatL [48] 8).length=8:=by decide
  repeat' (first|apply qo|apply qf|apply qh|apply qj|apply qg|(apply qt;rfl;rfl;rfl)|(apply qw;rfl;rfl;rfl;rfl)|(apply wg;exact cAo)|(apply qi;rfl;apply wu;exact cAo)|(apply qc;rfl;apply vq;exact cAo)|(apply zr;rfl;rfl;rfl)|(apply zn;rfl;rfl;exact q6 Om Om)|apply qv|apply qu|(apply qk;exact Tryz.call205;exact zkx [48] 8 _ Om (by decide))|(apply qk;exact Tryz.call74;exact zfy k _ _ Om (by decide))|(apply qk;exact Tryz.call77;exact q76 k _ Om))
  refine qn rfl (q5 rfl) ⟨congrArg Iv (?_:_=_),_,rfl⟩;unfold qeh;rw[if_neg hr,<-rep8];rfl
def qcn(x:BitVec 32):BitVec 32:=if x&&& 2147483648#32≠0#32 then(x<<<1)^^^79764919#32 else x<<<1
def x6:Nat->BitVec 32->BitVec 32
 |0,x=>x
 |n+1,x=>qcn (x6 n x)
theorem zpt(x:BitVec 32)(st:List AObj):qp E 210 [Wv x] st λr st'=>r=Wv (x6 4 (x<<<28))∧st'=st:=by
 refine qz (qr _) (qq Tryz.func210 rfl (Qa rfl) ?_);repeat' (first|apply qo|apply qy|apply qf|apply qh|apply qj|apply qg|(apply qe7;rfl;rfl;rfl))
 refine jr (λ(k:Nat)s=>k<=4∧StA [(3,Wv (x6 k (x<<<28))),(6,Iv k)] (st++[]) [] s) (λk=>4-k) 0 ⟨Om,z6 ⟨rfl,rfl,trivial⟩⟩ ?_;rintro k _ ⟨hk,t,rfl⟩;repeat' (first|apply qo|apply qy|apply qf|apply qh|apply qj|apply qg|(apply qt;rfl;rfl;rfl)|(apply qc;rfl;apply cd_d<;>intro h)|(apply zn;rfl;rfl;exact q6 Om Om)|(apply qdx;rfl;rfl;(first|exact ji _|rfl);first|exact ji _|rfl)|(apply qkd;rfl;rfl;(first|exact ji _|rfl);first|exact ji _|rfl)|(apply qe7;rfl;rfl;rfl)|apply qv|apply z7|apply qu)
 .refine⟨k+1,⟨Om,z6 ⟨?_,rfl,trivial⟩⟩,Om⟩
  refine congrArg Wv (?_:_=qcn _);unfold qcn;rw[if_pos (λe=>by rename_i h;exact h ((qyy _).2 e))];rfl
 .refine⟨k+1,⟨Om,z6 ⟨?_,rfl,trivial⟩⟩,Om⟩
  refine congrArg Wv (?_:_=qcn _);unfold qcn;rw[if_neg (λe=>by rename_i h;exact h (λh'=>e ((qyy _).1 h')))]
 .have e:k=4:=by omega
  subst e;exact qn rfl (q5 rfl) ⟨rfl,_,rfl⟩
def rowT(i:Nat):BitVec 32:=x6 4 (BitVec.ofNat 32 i<<<28)
def tabA(k:Nat):List AV:=(Qr 16).map λi=>if i<k then Wv (rowT i)else .v (.int .u32 0)
theorem q90(k:Nat):(tabA k).length=16:=by simp[tabA]
theorem zhw{k:Nat}(h:k<16):(tabA k).set k (Wv (rowT k))=tabA (k+1):=by
 apply List.ext_getElem
 .simp[tabA]
 .intro i h1 h2
  simp only[tabA,List.length_map,List.length_range]at h2;rw[List.getElem_set];by_cases e:k=i
  .subst e
   simp[tabA]
  .rw[if_neg e]
   simp only[tabA,List.getElem_map,List.getElem_range];by_cases hi:i<k
   .rw[if_pos hi,if_pos Om]
   .rw[if_neg hi,if_neg Om]
theorem zld{i:Nat}(h:i<16):(tabA 16)[i]?=some (Wv (rowT i)):=by
 simp[tabA,h]
theorem zpb(st:List AObj):qp E 178 [] st λr st'=>r=.ag (tabA 16)∧st'=st:=by
 refine qz (qn0 (λx hx=>?_)) (qq Tryz.func178 rfl (Qa rfl) ?_)
 .simp only[tabA,List.mem_map]at hx
  obtain⟨i,_,rfl⟩:=hx;split <;>exact qr _
 repeat' (first|apply qo|apply qy|apply qf|apply qh|apply qj|(apply j7;rfl;rfl))
 refine jr (λ(k:Nat)s=>k<=16∧StA [(0,.bx (st.length+0) 0 0),(2,Iv k)] (st++[.cells 0 260 (tabA k)]) [] s) (λk=>16-k) 0 ⟨Om,qdp ⟨rfl,rfl,trivial⟩ (by show st++[AObj.cells 0 _ _]=_;rfl)⟩ ?_;rintro k _ ⟨hk,t,rfl⟩;have d5:=q90 k;repeat' (first|apply qo|apply qy|apply qf|apply qh|apply qj|apply qg|(apply qt;rfl;rfl;rfl)|(apply qc;rfl;apply cd_d<;>intro h)|(apply zn;rfl;rfl;exact q6 Om Om)|(apply jt;(iterate 5 rfl))|(apply qch;rfl;rfl;rfl;rfl;first|assumption|omega|decide)|apply qv|apply z7|(apply qk;exact Tryz.call210;exact zpt _ _)|(apply qwe;rfl;rfl;rfl;omega)|(apply qy8;(iterate 9 rfl);(show 0+k*1+1<=_;omega);rfl))
 .refine⟨k+1,⟨Om,qdp ⟨rfl,rfl,trivial⟩ ?_⟩,Om⟩
  show st++[AObj.cells 0 _ (z4 (tabA k) (0+k*1) [Wv (rowT k)])]=_
  rw[Zp,Zq,zd5 Om,zhw Om]
 .have e:k=16:=by omega
  subst e;repeat' (first|apply qh|(apply jc;(iterate 11 rfl))|apply qu)
  exact qn rfl (qzc rfl rfl rfl rfl rfl rfl) ⟨rfl,_,rfl⟩
def crcN(x:BitVec 32)(n:Nat):BitVec 32:=(x<<<4)^^^rowT ((x>>>28)^^^BitVec.ofNat 32 n).toNat
def crcP(x:BitVec 32)(c:UInt8):BitVec 32:=crcN (crcN x (c.toNat / 16)) (c.toNat%16)
def addP(s:BitVec 32)(l:List UInt8):BitVec 32:= ~~~ (l.foldl crcP (~~~ s))
def q3u(y:BitVec 32)(c:UInt8):Nat->BitVec 32
 |0=>y
 |1=>crcN y (c.toNat / 16)
 |_=>crcP y c
theorem zgb(x:BitVec 32){n:Nat}(h:n<16):((x>>>28)^^^BitVec.ofNat 32 n).toNat<16:=by
 rw[BitVec.toNat_xor];refine Nat.xor_lt_two_pow (n:=4) ?_ ?_
 .rw[BitVec.toNat_ushiftRight,Qs]
  have:=x.isLt;omega
 .rw[BitVec.toNat_ofNat]
  omega
theorem q75{n:Nat}(h:n<16):ke 1 false (0+n*1) (tabA 16)=some (Wv (rowT n)):=by
 rw[Zp,Zq];exact zld h
theorem zpm(x:BitVec 32)(l:List UInt8)(st:List AObj)(hl:l.length<4294967281):qp E 122 [Wv x,Sv l] st λr st'=>r=Wv (addP x l)∧st'=st:=by
 refine qz (qr _) (qq Tryz.func122 rfl (Qa rfl) ?_);repeat' (first|apply qo|apply qy|apply qf|apply qh|apply qj|apply qg|(apply zr;rfl;rfl;rfl)|(apply j7;rfl;rfl)|(apply jc;(iterate 11 rfl))|(apply qhk;rfl)|(apply qk;exact Tryz.call178;exact zpb _))
 refine jr (λ(k:Nat)s=>k<=l.length∧StA [(1,Sv l),(5,.bx (st.length+0) 0 0),(6,Wv ((l.take k).foldl crcP (~~~ x))),(14,Iv l.length),(15,Iv k)] (st++[.cells 0 260 (tabA 16)]) [] s) (λk=>l.length-k) 0 ⟨Om,qdp ⟨rfl,rfl,rfl,rfl,rfl,trivial⟩ (by show st++[AObj.cells 0 _ _]=_;rfl)⟩ ?_;rintro k _ ⟨hk,t,rfl⟩;generalize hx:(l.take k).foldl crcP (~~~ x)=y;have hc:=UInt8.toNat_lt (l.getD k 0);repeat' (first|apply qo|apply qy|apply qf|apply qh|apply qj|apply qg|(apply qt;rfl;rfl;rfl)|(apply qc;rfl;apply cd_d<;>intro h)|(apply qhk;rfl)|(apply qgg;rfl;kernel_rfl)|apply qfv|(apply q4p;rfl;rfl;rfl;exact cAs)|(apply qza;rfl;rfl)|(apply quj;rfl;rfl)|(apply qul;rfl;rfl;rfl;omega)|(apply qqs;rfl;rfl;rfl)|apply qea|apply qv|apply z7|apply qu)
 .generalize sn:l.getD k 0=c at *
  refine jr (λ(j:Nat)s=>j<=2∧StA [(1,Sv l),(5,.bx (st.length+0) 0 0),(6,Wv (q3u y c j)),(14,Iv l.length),(15,Iv k),(28,.ag [Wv (BitVec.ofNat 32 (c.toNat / 16)),Wv (BitVec.ofNat 32 (c.toNat%16))]),(29,Iv j)] (st++[.cells 0 260 (tabA 16)]) [] s) (λj=>2-j) 0 ⟨Om,qdp ⟨rfl,rfl,rfl,rfl,rfl,rfl,rfl,trivial⟩ rfl⟩ ?_;rintro j _ ⟨hj,t2,rfl⟩;have hj3:j=0∨j=1∨j=2:=Om
  have hn1:=zgb (q3u y c j) (n:=c.toNat / 16) Om;have nz:=zgb (q3u y c j) (n:=c.toNat%16) Om;generalize hz:q3u y c j=z at hn1 nz⊢;rcases hj3 with rfl|rfl|rfl
  .skip
   repeat' (first|apply qo|apply qy|apply qf|apply qh|apply qj|apply qg|(apply qt;rfl;rfl;rfl)|(apply qc;rfl;apply va;exact cAo)|(apply zn;rfl;rfl;exact q6 Om Om)|(apply qdx;rfl;rfl;(first|exact ji _|rfl);first|exact ji _|rfl)|(apply qe7;rfl;rfl;rfl)|(apply qhm;rfl;rfl;rfl)|(apply qiw;rfl;rfl;rfl;rfl;(first|assumption|omega|decide);rfl)|(apply qch;rfl;rfl;rfl;rfl;first|assumption|omega|decide)|apply qv|(apply jt;rfl;rfl;rfl;rfl;exact q75 hn1))
   subst hz;exact⟨1,⟨Om,qdp ⟨rfl,rfl,rfl,rfl,rfl,rfl,rfl,trivial⟩ rfl⟩,Om⟩
  .skip
   repeat' (first|apply qo|apply qy|apply qf|apply qh|apply qj|apply qg|(apply qt;rfl;rfl;rfl)|(apply qc;rfl;apply va;exact cAo)|(apply zn;rfl;rfl;exact q6 Om Om)|(apply qdx;rfl;rfl;(first|exact ji _|rfl);first|exact ji _|rfl)|(apply qe7;rfl;rfl;rfl)|(apply qhm;rfl;rfl;rfl)|(apply qiw;rfl;rfl;rfl;rfl;(first|assumption|omega|decide);rfl)|(apply qch;rfl;rfl;rfl;rfl;first|assumption|omega|decide)|apply qv|(apply jt;rfl;rfl;rfl;rfl;exact q75 nz))
   subst hz;exact⟨2,⟨Om,qdp ⟨rfl,rfl,rfl,rfl,rfl,rfl,rfl,trivial⟩ rfl⟩,Om⟩
  .skip
   repeat' (first|apply qo|apply qf|apply qh|apply qj|(apply qt;rfl;rfl;rfl)|(apply qc;rfl;apply vq;exact cAo)|(apply zn;rfl;rfl;exact q6 Om Om)|apply z7)
   subst hz;refine⟨k+1,⟨Om,qdp ⟨rfl,rfl,?_,rfl,rfl,trivial⟩ rfl⟩,Om⟩;refine congrArg Wv (?_:crcP y c=_);rw[qbz Om,List.foldl_append,hx,sn];rfl
 .have e:k=l.length:=by omega
  subst e;refine qn rfl (q5 rfl) ⟨congrArg Wv (?_:_=_),_,rfl⟩;unfold addP;rw[<-hx,Qj]
theorem zhv(l:List UInt8)(st:List AObj)(hl:l.length<4294967281):qp E 76 [.sl 1 [Sv l] none] st λr st'=>r=Wv (addP 0 l)∧st'=st:=by
 refine qz (qr _) (qq Tryz.func76 rfl (Qa rfl) ?_);repeat' (first|apply qo|apply qy|apply qf|apply qh|apply qj|apply qg|(apply jk;rfl;rfl;rfl;rfl))
 refine jr (λ(k:Nat)s=>k<=1∧StA [(3,Wv (if k=0 then 0 else addP 0 l)),(6,.sl 1 [Sv l] none),(7,Iv 1),(8,Iv k)] (st++[]) [] s) (λk=>1-k) 0 ⟨Om,qdp ⟨rfl,rfl,rfl,rfl,trivial⟩ rfl⟩ ?_;rintro k _ ⟨hk,t,rfl⟩;have s8:k=0∨k=1:=Om
 rcases s8 with rfl|rfl
 .skip
  repeat' (first|apply qo|apply qy|apply qf|apply qh|apply qj|apply qg|(apply qt;rfl;rfl;rfl)|(apply qc;rfl;apply va;exact cAo)|(apply zn;rfl;rfl;exact q6 Om Om)|(apply jq;rfl;rfl;rfl)|apply qv|(apply kp;rfl;rfl;rfl;rfl;exact(rfl:(0:Int)=((0:Nat):Int));rfl)|(apply qk;exact Tryz.call122;exact zpm 0 _ _ hl))
  exact⟨1,⟨Om,qdp ⟨rfl,rfl,rfl,rfl,trivial⟩ rfl⟩,Om⟩
 .skip
  repeat' (first|apply qo|apply qf|apply qh|apply qj|apply qg|(apply qt;rfl;rfl;rfl)|(apply qc;rfl;apply vq;exact cAo)|apply z7|apply qu)
  exact qn rfl (q5 rfl) ⟨rfl,_,rfl⟩
def figP(s:BitVec 32)(j:Nat):UInt8:=[48,49,50,51,52,53,54,55,56,57,97,98,99,100,101,102].getD ((s>>>(4*(7-j)))&&& BitVec.ofInt 32 15).toNat 0
def x4(s:BitVec 32)(n:Nat):List UInt8:=(Qr n).map (figP s)
theorem q1i(x:BitVec 32)(st:List AObj):qp E 75 [Wv x] st λr st'=>r=Sv (x4 x 8)∧st'=st:=by
 refine qz (qr _) (qq Tryz.func75 rfl (Qa rfl) ?_);repeat' (first|apply qo|apply qy|apply qf|apply qh|apply qg|(apply j7;rfl;rfl))
 refine qte (o:=st.length+0) (j:=1) (sz:=1) (T':=5) (j9 rfl) rfl ?_
 refine jr (λ(j:Nat)s=>j<=8∧∃q,(q=.v (.pointer none)∨q=.bx (st.length+0) 0 0)∧StA [(0,Wv x),(3,.bx (st.length+0) 0 0),(4,Iv (7-(j:Int)))] (st++[bldO 0 q (x4 x j) (st.length+1),.tip (x4 x j).length 1 5]) [] s) (λj=>8-j) 0
  ⟨Om,_,.inl rfl,qdp ⟨rfl,rfl,rfl,trivial⟩ ?_⟩ ?_
 .show(st++[_]).set (st.length+0) (.cells 0 154 [_,.sl 1 [] (some (st++[_]).length)])++[_]=_
  rw[y7,Qb];simp[x4]
 rintro j _ ⟨hj,q,hq,t,rfl⟩;have hf:(x4 x j).length=j:=by simp[x4]
 repeat' (first|apply qo|apply qy|apply qf|apply qh|apply qj|apply qg|(apply qt;rfl;rfl;rfl)|(apply qc;rfl;apply cd_d<;>intro h)|(apply wx;rfl;rfl;exact q6 Om Om)|(apply qkd;rfl;rfl;(first|exact ji _|rfl);first|exact ji _|rfl)|apply qv|apply z7|apply qu|(apply qia;rfl;rfl;exact q6 Om Om)|(apply q8n (n:=4*(7-j));rfl;rfl;omega;omega)|(apply wp;rfl;rfl;rfl;exact and15_lt _)|(refine qk Tryz.call121 (zey st _ _ 0 1 0 _ _ _ rfl rfl ?_ ?_ rfl) ?_;exact hq;omega)|(refine qk Tryz.call72 (qtf st _ _ 0 1 0 _ _ rfl rfl rfl) ?_))
 .have e1:x4 x j++[figP x j]=x4 x (j+1):=by simp[x4,List.range_succ]
  refine⟨j+1,⟨Om,_,.inr rfl,qdp ⟨rfl,rfl,congrArg Iv (by omega:(7-(j:Int))-1=7-((j+1:Nat):Int)),trivial⟩ ?_⟩,Om⟩
  show st++[bldO 0 _ (x4 x j++[figP x j]) (st.length+1),.tip (x4 x j++[figP x j]).length 1 5]=_
  rw[e1]
 .have e:j=8:=by omega
  subst e;exact qn rfl (q5 rfl) ⟨rfl,_,rfl⟩
def sumF(l:List UInt8):List UInt8:=x4 (addP 0 l) 8
theorem qjj(l:List UInt8):(sumF l).length=8:=by simp[sumF,x4]
theorem is_c(f l:List UInt8)(st:List AObj)(hl:l.length<4294967281):qp E 204 [Sv f,.sl 1 [Sv l] none] st λr st'=>r=Bv (decide (f=sumF l))∧st'=st:=by
 refine qz (qr _) (qq Tryz.func204 rfl (Qa rfl) ?_);repeat' (first|apply qo|apply qf|apply qh|apply qj|apply qg|(apply jp;rfl;rfl;rfl)|apply qu|(apply qk;exact Tryz.call76;exact zhv l _ hl)|(apply qk;exact Tryz.call75;exact q1i _ _))
 exact qn rfl (q5 rfl) ⟨rfl,_,rfl⟩
def xo(rest body sums:List UInt8)(size:Int):Int×List UInt8×Int:=
 if rest.length<(qai body.length).length∧rest<+:qai body.length then(2,[],0)
 else if qai body.length<+:rest∧sums=sumF body then(1,body,size)else(3,[],0)
theorem ziy(rest body sums:List UInt8)(size:Int)(st:List AObj)(hb:body.length<4294967281):qp E 164 [Sv rest,Sv body,Sv sums,Iv size] st λr st'=>r=.tu [Iv (xo rest body sums size).1,Sv (xo rest body sums size).2.1,Iv (xo rest body sums size).2.2]∧st'=st:=by
 refine qz (qct _ _ _) (qq Tryz.func164 rfl (Qa rfl) ?_);repeat' (first|apply qo|apply qy|apply qf|apply qh|apply qj|apply qg|(apply qt;rfl;rfl;rfl)|(apply qw;rfl;rfl;rfl;rfl)|(apply xd;exact cAo)|(apply xv;exact cAo)|(apply qaf;exact cRa)|(apply xu;exact cRa)|(apply jo<;>intro h)|(apply qgj<;>intro h)|(apply qi;rfl;apply w6;exact cAo)|(apply qi;rfl;apply wu;exact cAo)|(apply qi;rfl;apply pk_t;exact cRa)|(apply qi;rfl;apply pk_f;exact cRa)|(apply qc;rfl;apply cd_f;exact cRa)|(apply qc;rfl;apply cd_d<;>intro h)|(apply qc;rfl;apply cd_s<;>intro h)|(apply zr;rfl;rfl;rfl)|(apply wi;(iterate 9 rfl))|apply qv|apply qu|(apply qk;exact Tryz.call77;exact q76 body.length _ Om)|(apply qk;exact Tryz.call155;exact qf1 _ _ _)|(apply qk;exact Tryz.call204;exact is_c sums body _ hb))
 all_goals refine qn rfl (yu rfl) ⟨qy0 (?_:_=_),_,rfl⟩
 all_goals show _=xo rest body sums size
 all_goals
  have c1:(↑rest.length:Int)< ↑(qai body.length).length↔rest.length<(qai body.length).length:=Om
  simp only[c1,qj3,decide_eq_true_eq,decide_eq_false_iff_not]at *;simp_all[xo]<;>(intros;omega)
theorem ziq(l:List UInt8)(st:List AObj)(hl:l.length<4294967281):qp E 108 [Sv l] st λr st'=>r=Bv (decide (l.head?=some 37∧qx l=5))∧st'=st:=by
 refine qz (qr _) (qq Tryz.func108 rfl (Qa rfl) ?_);repeat' (first|apply qo|apply qf|apply qh|apply qj|apply qg|(apply qt;rfl;rfl;rfl)|(apply qw;rfl;rfl;rfl;rfl)|(apply xd;exact cAo)|(apply xv;exact cAo)|(apply jo<;>intro h)|(apply qi;rfl;apply w6;exact cAo)|(apply qi;rfl;apply wu;exact cAo)|apply qu|(apply qk;exact Tryz.call155;exact qhv _ _ _)|(apply qk;exact Tryz.call156;exact qnv _ _ hl))
 all_goals refine qn rfl (q5 rfl) ⟨congrArg Bv (?_:_=_),_,rfl⟩
 all_goals simp_all
def zi(l:List UInt8):Int×List UInt8×Int:=
 if 10∈l then
  if(jj (upto 10 l)).2.2=true then
   if(past 10 l).length<(jj (upto 10 l)).1 then(yq (past 10 l) ((jj (upto 10 l)).1-(past 10 l).length),[],0)
   else if yw ((past 10 l).take (jj (upto 10 l)).1)then xo ((past 10 l).drop (jj (upto 10 l)).1) ((past 10 l).take (jj (upto 10 l)).1) (jj (upto 10 l)).2.1 (qeh (jj (upto 10 l)).1)
   else(3,[],0)
  else(3,[],0)
 else if yn l=true then(2,[],0)else(3,[],0)
theorem zo7(l:List UInt8)(st:List AObj)(hl:l.length<4294967281):qp E 111 [Sv l] st λr st'=>r=.tu [Iv (zi l).1,Sv (zi l).2.1,Iv (zi l).2.2]∧st'=st:=by
 refine qz (qct _ _ _) (qq Tryz.func111 rfl (Qa rfl) ?_);have t8:=vl 10 l;have gc:=vm 10 l;have hn:(jj (upto 10 l)).1<=50000:=qa7 _;repeat' (first|apply qo|apply qy|apply qf|apply qh|apply qj|apply qg|(apply zf;rfl;rfl)|(apply qt;rfl;rfl;rfl)|(apply ja;rfl)|(apply qc;rfl;apply cd_n<;>intro h)|(apply qc;rfl;apply cd_d<;>intro h)|(apply qc;rfl;apply cd_s<;>intro h)|(apply zr;rfl;rfl;rfl)|(apply wx;rfl;rfl;exact q6 Om Om)|(apply qbw;rfl;rfl;rfl;exact cAs)|(apply qgg;rfl;kernel_rfl)|apply qfv|apply qea|apply qjm|(apply qsj;rfl;rfl;rfl;exact cAs)|(apply qsi;rfl;rfl;rfl;exact cAs)|(apply qof;rfl;rfl)|apply qv|apply qu|(apply qk;exact Tryz.call104;exact qlb l 10 _ hl)|(apply qk;exact Tryz.call161;exact zgk _ _ hl)|(apply qk;exact Tryz.call162;exact zj7 (upto 10 l) _ Om)|(apply qk;exact Tryz.call163;exact zkd _ _ _ Om)|(apply qk;exact Tryz.call73;exact zft ((past 10 l).take (jj (upto 10 l)).1) _ So)|(refine q96 (vals:=[.int .i64 (jj (upto 10 l)).1]) E_ok Tryz.call165 rfl (qls _) (λ_=>.v _) (zjt _ _) ?_)|(refine q96 (vals:=[.string ⟨((past 10 l).drop (jj (upto 10 l)).1).toArray⟩,.string ⟨((past 10 l).take (jj (upto 10 l)).1).toArray⟩,.string ⟨(jj (upto 10 l)).2.1.toArray⟩,.int .i64 (qeh (jj (upto 10 l)).1)]) E_ok Tryz.call164 rfl zlc (λ_=>qz0 (.v _) (.v _) (.v _)) (ziy _ _ _ _ _ So) ?_))
 all_goals refine qn rfl (yu rfl) ⟨qy0 (?_:_=zi l),_,rfl⟩
 all_goals
  have c1:(↑(past 10 l).length:Int)< ↑(jj (upto 10 l)).1↔(past 10 l).length<(jj (upto 10 l)).1:=Om
  simp only[c1,decide_eq_true_eq,decide_eq_false_iff_not]at *;clear c1 t8 gc hn hl
 .unfold zi;rw[if_neg (by assumption),if_pos (by assumption)]
 .unfold zi;rw[if_neg (by assumption),if_neg (by simp_all)]
 .unfold zi;rw[if_pos (by assumption),if_neg (by simp_all)]
 .unfold zi;rw[if_pos (by assumption),if_pos (by assumption),if_pos (by assumption)]
 .unfold zi;rw[if_pos (by assumption),if_pos (by assumption),if_neg (by assumption),if_neg (by assumption)]
 .unfold zi;rw[if_pos (by assumption),if_pos (by assumption),if_neg (by assumption),if_pos (by assumption)]
def recF(l:List UInt8):List UInt8:=qi8 l.length (sumF l)++l++qai l.length
def zap:AV:=.ifc 61 (.v (.int .i64 2))
def qg9(l:List UInt8):AV:=if yw l then .tu [Sv (recF l),.v .nilIface]else .tu [Sv [],zap]
theorem q69(l:List UInt8):Pure (qg9 l):=by
 unfold qg9;split
 .exact qms _ _
 .exact qei (by simp;exact⟨qr _,qd2 (qr _)⟩)
theorem zkq(l:List UInt8)(st:List AObj)(hl:l.length<4294967281):qp E 31 [Sv l] st λr st'=>r=qg9 l∧st'=st:=by
 refine qz (q69 l) (qq Tryz.func31 rfl (Qa rfl) ?_);have h1:=qd0 l.length Om;have h2:=qdi l.length (sumF l);have h3:=qbe l.length;have h4:=qjj l;repeat' (first|apply qo|apply qf|apply qh|apply qj|apply qg|(apply ja;rfl)|(apply qc;rfl;apply cd_n<;>intro h)|(apply zr;rfl;rfl;rfl)|(apply jz;rfl;rfl;exact cOs)|(apply vr;rfl;rfl)|(apply wi;(iterate 9 rfl))|apply qv|apply qu|(apply qk;exact Tryz.call73;exact zft _ _ hl)|(apply qk;exact Tryz.call76;exact zhv l _ hl)|(apply qk;exact Tryz.call75;exact q1i _ _)|(apply qk;exact Tryz.call74;exact zfy l.length (sumF l) _ Om Om)|(apply qk;exact Tryz.call77;exact q76 l.length _ Om))
 .have e:AV.tu [Sv [],zap]=qg9 l:=by unfold qg9;rw[if_neg (of_decide_eq_false (by assumption))]
  exact qn rfl (kw rfl) ⟨e,_,rfl⟩
 .have e:AV.tu [Sv (recF l),.v .nilIface]=qg9 l:=by unfold qg9;rw[if_pos (of_decide_eq_true (by assumption))]
  exact qn rfl (kw rfl) ⟨e,_,rfl⟩
end Go.Proofs.YtlekheifonaipaaGreatDoor
