/- Contracts and plain facts that the closing text leans on (part 2). No condition of their own beyond those that each states. -/
import Derived.Test.YtapblfabkbdgcaaGreatDoorK1
import Derived.Lib.Builder
import Derived.Laws.Pointers
import Derived.Laws.Externs
import Derived.Laws.Tables
import Derived.Test.YtapblfabkbdgcaaGreatDoorK0
import Derived.Test.YtapblfabkbdgcaaGreatDoorRows
import Derived.LaidHandle
import Derived.ProofKit
import Derived.OpenShut
import Derived.ShutString
import Derived.Deep.DeepHandedRow
import Derived.Deep.DeepWitnessRowRef
import Derived.Lib.LaidU8
import Derived.Lib.SmallJoins
import Derived.ChangeSame
import Derived.ChangeAgain
import Derived.Lay
import Derived.Lib.Index
import Derived.Lib.SlTrimSet
import Derived.Shelf.Strings.Prefix
import Derived.Shelf.Strings.Cut
import Derived.Lib.ItoaNum
import Derived.Lib.AtoiAll
import Derived.Lib.Repeat
import Derived.Lib.SplitLaws
import Derived.Shelf.Strings.SplitShaped
import Derived.Deep.Slices
import Derived.Deep.Fields
import Derived.WideKeyArgs
set_option maxRecDepth 100000
set_option linter.unusedVariables false
set_option linter.unusedSimpArgs false
open Array renaming range→Qy,getElem?_modify→Zt,ext→Xp
open Bool renaming false_eq_true→Qz,and_eq_true→Xe
open Int renaming fdiv_eq_ediv_of_nonneg→Zb
open List renaming prefix_append_right_inj→Qb,getElem?_eq_getElem→Qc,prefix_append→Qe,getElem?_append_left→Qf,isPrefixOf→Qg,length_eq_zero_iff→Qh,replicate→Qi,mem_singleton→Qj,getElem?_append_right→Qk,cons_append→Qn,mem_append→Qo,append_nil→Qp,append_assoc→Qq,take_length→Qr,getElem?_map→Qt,cons_prefix_cons→Qu,prefix_of_prefix_length_le→Qv,mem_cons→Zc,range→Zd,drop_eq_getElem_cons→Zf,getElem?_eq_some_iff→Zg,length_cons→Zi,all_eq_true→Zj,mem_map→Zm,contains_iff_mem→Zr,drop_left→Zs,take_append_drop→Zu,set_append_left→Zv,mem_of_getElem?→Zw,getLast?_append→Zz,mem_map_of_mem→Xa,getElem?_drop→Xb,foldl_append→Xc,length→Xd,length_map→Xh,getD→Xi
open Nat renaming le_of_ble_eq_true→Qa,le_refl→Qd,mod_eq_of_lt→Qm,lt_of_le_of_lt→Qs,beq→Qw,ble→Qx,eq_zero_or_pos→Za,shiftRight_eq_div_pow→Ze,le_of_eq→Zk,shiftLeft_eq→Zl,zero_add→Zn,lt_or_ge→Zo,add_sub_cancel_left→Zp,eq_of_beq_eq_true→Zq,mod_lt→Zy,le_add_right→Xf,mul_comm→Xk,mul_one→Xl,blt_eq→Xm,mod_le→Xo,blt→Xq
open Option renaming isSome_iff_exists→Zh
open Option.some renaming injEq→Ql,inj→Xg
open Prod renaming fst→Zx,snd→Xj
namespace Go.Av
open Go Go.RowKit
section
variable {E : Env} {rd : Option Nat} {N : Nat} {ops : Array Oper} {K : AS → Prop} {s : AS} {rest : List Oper} {d : Option Tmp} {T : TypeId} {p : String} {af : Array Edge}
def zbj:AV->Bool
 |.bx _ _ _=>true
 |.pp _=>true
 |_=>false
theorem wg{x:Operand}{r:AV}(hx:qg N s x=r)(hr:zbj r=true)(h:AOps E rd N ops rest K (s.put d r)):AOps E rd N ops (⟨d,.nilCheck x,T,p,af,none⟩::rest) K s:=by
 refine qw rfl (qu nofun λB0 w0 G a w _ hI=>?_)
 have he:=hI.eval_of hx
 have key:∃q,a.eval x=.pointer (some q):=by
  generalize a.eval x=u at he
  cases he<;>simp[zbj]at hr
  .exact⟨_,rfl⟩
  .exact⟨_,rfl⟩
 obtain⟨q,hv⟩:=key
 refine⟨_,w,G,r,s.st,?_,.refl G,hI.agree,hv▸he,h⟩
 generalize a.eval=ρ at hv
 simp[execOp,hv]
end
section
variable {B0 : Nat} {w0 : World} {G : Gh} {st : List AObj} {w : World}
theorem q9.refroze(h:q9 B0 w0 G st w){w':World}{g:Nat}{c:Array Value}{T:TypeId}{fz fz':Nat×Nat}(hg:w.heap[g]?=some (.cells c T fz))(hg':w'.heap[g]?=some (.cells c T fz'))(ho:∀k,k≠g->w'.heap[k]?=w.heap[k]?)(hB:B0<=g)
  (hsz:w'.heap.size=w.heap.size) (hos:w'.os=w.os) (htape:w'.tape=w.tape) (hout:w'.output=w.output) (hs:∀o x,st[o]?=some x->x.live->(G.ob o).blk≠g):q9 B0 w0 G st w':=by
 refine⟨h.below.trans ⟨hos,htape,hout,Om,λk hk=>ho k Om⟩,by rw[hsz];exact h.hB,h.n,λb vs hb=>?_,λo x hx=>(h.ob o x hx).mono (.refl G) rfl (λ_=>rfl) (λhl=>ho _ (hs o x hx hl)),h.sep⟩
 by_cases e:b=g
 .subst e
  obtain⟨c2,T2,fz2,e1,e2⟩:=h.pub b vs hb
  rw[hg]at e1
  simp only[Ql,Obj.cells.injEq]at e1
  exact⟨c,T,fz',hg',by rw[e1.1];exact e2⟩
 .rw[ho b e]
  exact h.pub b vs hb
theorem q9.tipCell(h:q9 B0 w0 G st w){o ver j sz:Nat}{T T':TypeId}{cs:List AV}(ho:st[o]?=some (.cells ver T cs))(hj:cs[j]?=some z0):
  q9 B0 w0 (G.new 0 0 0 false) (st.set o (.cells ver T (cs.set j (.sl sz [] (some st.length))))++[AObj.tip 0 sz T']) w:=by
 have h1:=h.newTip sz T'
 have hle:=G.le_new 0 0 0 false
 have hlt:=lt_of_getElem? ho
 have e:st.set o (.cells ver T (cs.set j (.sl sz [] (some st.length))))++[AObj.tip 0 sz T']=(st++[AObj.tip 0 sz T']).set o (.cells ver T (cs.set j (.sl sz [] (some st.length)))):=by
  rw[Zv _ _ hlt]
 rw[e]
 have ho':(st++[AObj.tip 0 sz T'])[o]?=some (.cells ver T cs):=by rw[Qf hlt];exact ho
 generalize hG:G.new 0 0 0 false=G' at h1 hle
 have hn:st.length<G'.n:=by rw[h1.n];simp
 refine⟨h1.below,h1.hB,by simp[h1.n],h1.pub,λk x hx=>?_,λk k' x x' hne hx hx' hl hl'=>?_⟩
 .rcases getElem?_set' _ _ _ _ _ hx with⟨rfl,rfl⟩|⟨hne,hx⟩
  .obtain⟨g0,g1,g2,g3,c,g4,g5,g6⟩:=h1.ob k _ ho'
   refine⟨g0,g1,g2,g3,c,g4,by simpa using g5,λi x y hx hy=>?_⟩
   rcases getElem?_set' _ _ _ _ _ hx with⟨rfl,rfl⟩|⟨_,hx⟩
   .have:=g6 i _ y hj hy
    cases this
    exact .sl0 sz (some st.length) none 0 λt ht=>by simp at ht;subst ht;exact⟨hn,rfl,rfl⟩
   .exact g6 i x y hx hy
  .exact h1.ob k x hx
 .have key:∀(k:Nat)(x:AObj),((st++[AObj.tip 0 sz T']).set o (.cells ver T (cs.set j (.sl sz [] (some st.length)))))[k]?=some x->∃x0:AObj,(st++[AObj.tip 0 sz T'])[k]?=some x0∧(x.live->x0.live):=λk x hx=>by
   rcases getElem?_set' _ _ _ _ _ hx with⟨rfl,rfl⟩|⟨_,hx⟩
   .exact⟨_,ho',λ_=>trivial⟩
   .exact⟨x,hx,id⟩
  obtain⟨x0,e1,e2⟩:=key k x hx
  obtain⟨x1,e3,e4⟩:=key k' x' hx'
  exact h1.sep k k' x0 x1 hne e1 e3 (e2 hl) (e4 hl')
end
section
variable {E : Env} {rd : Option Nat} {N : Nat} {ops : Array Oper} {K : AS → Prop} {s : AS} {rest : List Oper} {d : Option Tmp} {T : TypeId} {p : String} {af : Array Edge}
def qaz:AV->Option Bool
 |.bx _ _ _=>some false
 |.pp _=>some false
 |.v (.pointer none)=>some true
 |_=>none
theorem y4{x:Operand}{t t' te:TypeId}{r:AV}{b:Bool}(hx:qg N s x=r)(hr:qaz r=some b)(hu:E.P.underlying t=some (.pointer te))(h:AOps E rd N ops rest K (s.put d (Bv b))):AOps E rd N ops (⟨d,.binOp .eql t x (.const (.pointer none)) t',T,p,af,none⟩::rest) K s:=by
 refine qw rfl (qu nofun λB0 w0 G a w _ hI=>?_)
 have he:=hI.eval_of hx
 have key:∃q:Option Addr,a.eval x=.pointer q∧q.isNone=b:=by
  generalize a.eval x=u at he
  cases he<;>try (simp[qaz]at hr;done)
  case v=>
   cases u<;>try (simp[qaz]at hr;done)
   case pointer q=>
    cases q<;>simp[qaz]at hr
    subst hr
    exact⟨_,rfl,rfl⟩
  case pp=>simp[qaz]at hr;subst hr;exact⟨_,rfl,rfl⟩
  case bx=>simp[qaz]at hr;subst hr;exact⟨_,rfl,rfl⟩
 obtain⟨q,hv,rfl⟩:=key
 have hc:a.eval (.const (.pointer none))=.pointer none:=rfl
 have hq:=run_eql_pointer_nil (P:=E.P) w t q (by simp[Program.pointee,hu])
 refine⟨_,w,G,_,s.st,?_,.refl G,hI.agree,.v _,h⟩
 generalize a.eval=ρ at hv hc
 simp[execOp,hv,hc,eqGuard_at_pointer,hq]
theorem qfp{x:Operand}{t t' te:TypeId}{r:AV}{b:Bool}(hx:qg N s x=r)(hr:qaz r=some b)(hu:E.P.underlying t=some (.pointer te))(h:AOps E rd N ops rest K (s.put d (Bv !b))):AOps E rd N ops (⟨d,.binOp .neq t x (.const (.pointer none)) t',T,p,af,none⟩::rest) K s:=by
 refine qw rfl (qu nofun λB0 w0 G a w _ hI=>?_)
 have he:=hI.eval_of hx
 have key:∃q:Option Addr,a.eval x=.pointer q∧q.isNone=b:=by
  generalize a.eval x=u at he
  cases he<;>try (simp[qaz]at hr;done)
  case v=>
   cases u<;>try (simp[qaz]at hr;done)
   case pointer q=>
    cases q<;>simp[qaz]at hr
    subst hr
    exact⟨_,rfl,rfl⟩
  case pp=>simp[qaz]at hr;subst hr;exact⟨_,rfl,rfl⟩
  case bx=>simp[qaz]at hr;subst hr;exact⟨_,rfl,rfl⟩
 obtain⟨q,hv,rfl⟩:=key
 have hc:a.eval (.const (.pointer none))=.pointer none:=rfl
 have hq:=run_neq_pointer_nil (P:=E.P) w t q (by simp[Program.pointee,hu])
 refine⟨_,w,G,_,s.st,?_,.refl G,hI.agree,.v _,h⟩
 generalize a.eval=ρ at hv hc
 simp[execOp,hv,hc,eqGuard_at_pointer,hq]
theorem Inv.ptr{B0:Nat}{w0:World}{G:Gh}{a:Act}{w:World}(hI:Inv B0 w0 N G s a w){x:Operand}{o ver off:Nat}{T1:TypeId}{cs:List AV}(hx:qg N s x=.bx o ver off)(ho:s.st[o]?=some (.cells ver T1 cs)):a.eval x=.pointer (some ⟨(G.ob o).blk,off,none⟩):=by
 have he:=hI.eval_of hx
 obtain⟨_,h1,_⟩:=hI.agree.ob o _ ho
 generalize a.eval x=v at he
 cases he with
 |bx _ _ _ b hn hv hb=>rw[hb h1]
theorem qr4{x y:Operand}{t t' te:TypeId}{o ver off:Nat}{T1:TypeId}{cs:List AV}(hx:qg N s x=.bx o ver off)(hy:qg N s y=.bx o ver off)(ho:s.st[o]?=some (.cells ver T1 cs))(hu:E.P.underlying t=some (.pointer te))(hi:(E.P.info? te).isSome=true)
  (h:AOps E rd N ops rest K (s.put d (Bv false))):AOps E rd N ops (⟨d,.binOp .neq t x y t',T,p,af,none⟩::rest) K s:=by
 refine qw rfl (qu nofun λB0 w0 G a w _ hI=>?_)
 obtain⟨j,hj⟩:=Zh.1 hi
 have h1:=hI.ptr hx ho
 have h2:=hI.ptr hy ho
 have hq:=Lib.run_neq_ptr_same (P:=E.P) w ⟨(G.ob o).blk,off,none⟩ hu hj
 refine⟨_,w,G,_,s.st,?_,.refl G,hI.agree,.v _,h⟩
 generalize a.eval=ρ at h1 h2
 simp[execOp,h1,h2,eqGuard_at_pointer,hq]
theorem qu3{x:Operand}{t t' te:TypeId}{o ver:Nat}{T1:TypeId}{cs:List AV}(hx:qg N s x=.bx o ver 0)(ho:s.st[o]?=some (.cells ver T1 cs))(hne:0<cs.length)(hs:E.P.underlying t=some (.pointer te))(hd:E.P.underlying t'=some .unsafePointer)(hi:(match E.P.info? te with|some j=>Qw j.size 0|none=>true)=false)
  (h:AOps E rd N ops rest K (s.put d (.bx o ver 0))):AOps E rd N ops (⟨d,.convert t t' x,T,p,af,none⟩::rest) K s:=by
 refine qw rfl (qu nofun λB0 w0 G a w _ hI=>?_)
 obtain⟨_,h1,h2,h3,c,h4,h5,h6⟩:=hI.agree.ob o _ ho
 have he:=hI.eval_of hx
 have hv:=hI.ptr hx ho
 cases hj:E.P.info? te with
 |none=>rw[hj]at hi;simp at hi
 |some j=>
  rw[hj]at hi
  have hj0:j.size≠0:=λe=>by simp[e]at hi
  have hq:=Lib.run_to_unsafe (P:=E.P) w ⟨(G.ob o).blk,0,none⟩ hs hd hj hj0 (e:=T1) (cells:=c.size) (by simp[World.shape?,h4]) (by simpa[<-h5]using hne)
  refine⟨_,w,G,_,s.st,?_,.refl G,hI.agree,hv▸he,h⟩
  generalize a.eval=ρ at hv
  simp[execOp,hv,hq]
theorem qpn{x:Operand}{t t' te:TypeId}{o ver:Nat}{T1:TypeId}{cs:List AV}(hx:qg N s x=.bx o ver 0)(ho:s.st[o]?=some (.cells ver T1 cs))(hs:E.P.underlying t=some .unsafePointer)(hd:E.P.underlying t'=some (.pointer te))(hi:(E.P.info? te).isSome=true)(hl:liesAt E.P E.P.depth T1 (cs.length / E.P.cellsOf T1) 0 te 1=true)
  (h:AOps E rd N ops rest K (s.put d (.bx o ver 0))):AOps E rd N ops (⟨d,.convert t t' x,T,p,af,none⟩::rest) K s:=by
 refine qw rfl (qu nofun λB0 w0 G a w _ hI=>?_)
 obtain⟨_,h1,h2,h3,c,h4,h5,h6⟩:=hI.agree.ob o _ ho
 obtain⟨j,hj⟩:=Zh.1 hi
 have he:=hI.eval_of hx
 have hv:=hI.ptr hx ho
 have hq:=Lib.run_from_unsafe (P:=E.P) w ⟨(G.ob o).blk,0,none⟩ hs hd hj (e:=T1) (cells:=c.size) (by simp[World.shape?,h4]) (by rw[<-h5];exact hl)
 refine⟨_,w,G,_,s.st,?_,.refl G,hI.agree,hv▸he,h⟩
 generalize a.eval=ρ at hv
 simp[execOp,hv,hq]
theorem qu1{f:FuncId}{x:Operand}{ts:Array TypeId}{r:AV}(hrun:∀v w,(callFunc f #[v]).run E.P w=.ok (.value v) w)(hx:qg N s x=r)
  (h:AOps E rd N ops rest K (s.put d r)):AOps E rd N ops (⟨d,.call ⟨.value (.func f),#[x],ts⟩,T,p,af,none⟩::rest) K s:=by
 refine qw rfl (qu nofun λB0 w0 G a w _ hI=>?_)
 refine⟨a.eval x,w,G,_,s.st,?_,.refl G,hI.agree,hI.eval_of hx,h⟩
 have he:a.eval (.func f)=.func (.func f) #[] #[]:=rfl
 generalize a.eval=ρ at he
 simp[execOp,resolve,Deferred.ofValue,he,invoke,hrun]
theorem Inv.restate{B0:Nat}{w0:World}{G G':Gh}{a:Act}{w:World}{st':List AObj}(h:Inv B0 w0 N G s a w)(hG:G.le G')(hA:q9 B0 w0 G' st' w):Inv B0 w0 N G' ⟨s.t,st',s.df⟩ a w:=
 ⟨hA,h.defers_mono hG,h.size,λi y hy=>(h.tmps i y hy).mono hG⟩
theorem qwh{o ver j sz:Nat}{T1 T':TypeId}{cs:List AV}{l:List Oper}(ho:s.st[o]?=some (.cells ver T1 cs))(hj:cs[j]?=some z0)
  (h:AOps E rd N ops l K ⟨s.t,s.st.set o (.cells ver T1 (cs.set j (.sl sz [] (some s.st.length))))++[AObj.tip 0 sz T'],s.df⟩):AOps E rd N ops l K s:=
 ⟨λB0 w0 G a w hL hI Q hQ=>h.run B0 w0 _ a w hL (hI.restate (G.le_new 0 0 0 false) (hI.agree.tipCell ho hj)) Q λG' s' a' w' hG=>hQ G' s' a' w' ((G.le_new 0 0 0 false).trans hG)⟩
theorem Inv.newTip{B0:Nat}{w0:World}{G:Gh}{a:Act}{w:World}(h:Inv B0 w0 N G s a w){i sz:Nat}{T':TypeId}(hi:s.t i=z0):Inv B0 w0 N (G.new 0 0 0 false) ⟨Av.put s.t i (.sl sz [] (some s.st.length)),s.st++[AObj.tip 0 sz T'],s.df⟩ a w:=by
 have hA:=h.agree.newTip sz T'
 have h2:=h.restate (G.le_new 0 0 0 false) hA
 refine⟨h2.agree,h2.defers,h2.size,λk y hy=>?_⟩
 by_cases e:k=i
 .subst e
  show Rel _ (Av.put s.t k _ k) y
  rw[wp]
  have:=h2.tmps k y hy
  simp only[hi]at this
  cases this
  exact .sl0 sz _ none 0 λt ht=>by simp at ht;subst ht;exact⟨by rw[hA.n];simp,rfl,rfl⟩
 .show Rel _ (Av.put s.t i _ k) y
  rw[yh _ _ _ _ e]
  exact h2.tmps k y hy
theorem q24{i sz:Nat}{T':TypeId}{c:Code}{Q:Exit->AS->Prop}(hi:s.t i=z0)
  (h:AWp E rd N c Q ⟨Av.put s.t i (.sl sz [] (some s.st.length)),s.st++[AObj.tip 0 sz T'],s.df⟩):AWp E rd N c Q s:=
 ⟨λB0 w0 G a w hL hI=>wpIn_mono (h.run B0 w0 _ a w hL (hI.newTip hi)) λ_ _ _ ⟨G',s',hG,h1,h2⟩=>⟨G',s',(G.le_new 0 0 0 false).trans hG,h1,h2⟩⟩
end
end Go.Av
namespace Go.Av
open Go Go.RowKit
theorem qxf:∀(vs:List Value)(off n:Nat)(c:Array Value),off+n+vs.length<=c.size->
  ((vs.zipIdx n).foldl (λ(cs:Array Value)(x:Value×Nat)=>cs.setIfInBounds (off+x.2) x.1) c).size=c.size∧
  ∀k,((vs.zipIdx n).foldl (λ(cs:Array Value)(x:Value×Nat)=>cs.setIfInBounds (off+x.2) x.1) c)[k]?=if off+n<=k∧k<off+n+vs.length then vs[k-(off+n)]?else c[k]?
 | [],off,n,c,_=>⟨Sx,λk=>by simp;intro h1 h2;omega⟩
 |v::vs,off,n,c,h=>by
  simp only[List.zipIdx_cons,List.foldl_cons,Zi]at h⊢
  obtain⟨h1,h2⟩:=qxf vs off (n+1) (c.setIfInBounds (off+n) v) So
  refine⟨by rw[h1];simp,λk=>?_⟩
  rw[h2 k]
  by_cases hk:k=off+n
  .subst hk
   rw[if_neg Om,if_pos Om,Array.getElem?_setIfInBounds_self,if_pos Om]
   simp
  .by_cases hr:off+n<=k∧k<off+n+(vs.length+1)
   .rw[if_pos Om,if_pos hr]
    rw[show k-(off+n)=(k-(off+(n+1)))+1 by omega]
    simp
   .rw[if_neg Om,if_neg hr]
    rw[Array.getElem?_setIfInBounds,if_neg Om]
def qa7(place:Nat->Option (Nat×Nat))(cells:List AV):List (Nat×AV)->Option (List AV)
 | []=>some cells
 |(i,x)::rest=>
  match place i with
  |none=>none
  |some (off,size)=>bif x.okc&&Qw x.cells.length size&&Qx (off+size) cells.length then qa7 place (zt cells off x.cells) rest else none
theorem qgx{G:Gh}(place:Nat->Option (Nat×Nat)):∀(ps:List (Nat×AV))(vs:List (Nat×Value))(cs:List AV)(c:Array Value)(cs':List AV),ps.length=vs.length->(∀(i:Nat)(p:Nat×AV)(v:Nat×Value),ps[i]?=some p->vs[i]?=some v->p.1=v.1∧Rel G p.2 v.2)->
  RelC G cs c->qa7 place cs ps=some cs'->∃c',Instr.fill place c vs=some c'∧RelC G cs' c'
 | [],[],cs,c,cs',_,_,hc,h=>by
  simp only[qa7,Ql]at h
  subst h
  exact⟨c,rfl,hc⟩
 | [],v::vs,_,_,_,hl,_,_,_=>by simp at hl
 |p::ps,[],_,_,_,hl,_,_,_=>by simp at hl
 |(i,x)::ps,(j,v)::vs,cs,c,cs',hl,hr,hc,h=>by
  obtain⟨e,hx⟩:=hr 0 _ _ rfl rfl
  simp only at e hx
  subst e
  simp only[qa7]at h
  simp only[Instr.fill]
  cases hp:place i with
  |none=>simp[hp]at h
  |some q=>
   obtain⟨off,size⟩:=q
   simp only[hp]at h⊢
   cases hb:(x.okc&&Qw x.cells.length size&&Qx (off+size) cs.length)with
   |false=>simp[hb]at h
   |true=>
    simp only[hb,cond_true]at h
    simp only[Xe]at hb
    obtain⟨⟨hok,hsz⟩,hle⟩:=hb
    have hsz:=Zq hsz
    have hle:=Qa hle
    have hcx:=hx.cells hok
    have hcs:v.cells.size=size:=by rw[<-hcx.1];exact hsz
    have hfit:off+v.cells.size<=c.size:=by rw[hcs,<-hc.1];exact hle
    rw[if_neg (by simp[hcs];rw[<-hc.1];exact hle)]
    have hfold:v.cells.zipIdx.foldl (λcs(x:Value×Nat)=>cs.setIfInBounds (off+x.2) x.1) c=(v.cells.toList.zipIdx 0).foldl (λ(cs:Array Value)(x:Value×Nat)=>cs.setIfInBounds (off+x.2) x.1) c:=by
     rw[<-Array.foldl_toList,Array.toList_zipIdx]
    obtain⟨g1,g2⟩:=qxf v.cells.toList off 0 c (by simpa using hfit)
    have hnew:RelC G (zt cs off x.cells) ((v.cells.toList.zipIdx 0).foldl (λ(cs:Array Value)(x:Value×Nat)=>cs.setIfInBounds (off+x.2) x.1) c):=by
     refine⟨?_,λk a y h1 h2=>?_⟩
     .rw[g1,<-hc.1]
      simp[zt]
      omega
     .rw[g2]at h2
      have e1:(cs.take off).length=off:=So
      simp only[zt,Qq]at h1
      by_cases hk:k<off
      .rw[Qf Om,List.getElem?_take,if_pos hk]at h1
       rw[if_neg Om]at h2
       exact hc.2 k a y h1 h2
      .rw[Qk Om,e1]at h1
       by_cases hk2:k-off<x.cells.length
       .rw[Qf hk2]at h1
        rw[if_pos ⟨Om,So⟩]at h2
        exact hcx.2 (k-off) a y h1 (by simpa using h2)
       .rw[Qk Om,Xb]at h1
        rw[if_neg So]at h2
        rw[show off+x.cells.length+(k-off-x.cells.length)=k by omega]at h1
        exact hc.2 k a y h1 h2
    have:=qgx place ps vs _ _ cs' (by simpa using hl) (λi p v h1 h2=>hr (i+1) p v (by simpa using h1) (by simpa using h2)) hnew h
    rw[<-hfold]at this
    exact this
section
variable {E : Env} {rd : Option Nat} {N : Nat} {ops : Array Oper} {K : AS → Prop} {s : AS} {rest : List Oper} {d : Option Tmp} {T : TypeId} {p : String} {af : Array Edge}
def kv(N:Nat)(s:AS)(parts:Array (Nat×Operand)):List (Nat×AV):=parts.toList.map λx=>(x.1,qg N s x.2)
def qsq(P:Program)(t:TypeId):Option (List (Nat×Nat)):=
 match P.underlying t with
 |some (.struct fs)=>fs.toList.mapM (λf=>(P.info? f.type).map λi=>(f.offset,i.size))
 |_=>none
theorem qic{B0:Nat}{w0:World}{G:Gh}{a:Act}{w:World}(hI:Inv B0 w0 N G s a w)(parts:Array (Nat×Operand)):∀(i:Nat)(p:Nat×AV)(v:Nat×Value),(kv N s parts)[i]?=some p->(parts.toList.map λx=>(x.1,a.eval x.2))[i]?=some v->p.1=v.1∧Rel G p.2 v.2:=λi p v h1 h2=>by
 simp only[kv,Qt]at h1 h2
 cases hq:parts.toList[i]?with
 |none=>simp[hq]at h1
 |some z=>simp[hq]at h1 h2;subst h1;subst h2;exact⟨rfl,hI.eval _⟩
theorem y8{t:TypeId}{parts:Array (Nat×Operand)}{zs cs:List AV}{pl:List (Nat×Nat)}(hz:qih E.P t=some zs)(hp:qsq E.P t=some pl)(hf:qa7 (pl[·]?) zs (kv N s parts)=some cs)
  (h:AOps E rd N ops rest K (s.put d (.ag cs))):AOps E rd N ops (⟨d,.build t parts,T,p,af,none⟩::rest) K s:=by
 refine qw rfl (qu nofun λB0 w0 G a w _ hI=>?_)
 obtain⟨z,hrun,hr⟩:=qme hz w
 obtain⟨c',h1,h2⟩:=qgx (pl[·]?) (kv N s parts) (parts.toList.map λx=>(x.1,a.eval x.2)) zs z.cells cs (by simp[kv]) (qic hI parts) (hr G) hf
 unfold qsq at hp
 split at hp
 .rename_i fs hu
  refine⟨.agg c',w,G,.ag cs,s.st,?_,.refl G,hI.agree,.ag _ _ h2.1 h2.2,h⟩
  generalize a.eval=ρ at h1
  simp[execOp,Instr.build,run_underlying hu,hrun,Array.mapM_eq_mapM_toList,run_places w _ _ hp,h1]
 .simp at hp
def qc4(P:Program)(e:TypeId)(n:Nat):Option (List AV):=
 match P.info? e with
 |some i=>bif Qw (n*i.size) 0 then some []else i.zero.map λz=>(Zd (n*i.size)).map λk=>.v (z.cells[k%z.cells.size]!)
 |none=>none
theorem qi1{B0:Nat}{w0:World}{G:Gh}{a:Act}{w:World}(hI:Inv B0 w0 N G s a w){t e:TypeId}{len sz:Nat}{agg:Bool}{parts:Array (Nat×Operand)}{zs cs:List AV}(hu:E.P.underlying t=some (.slice e))(ht:tyOf E.P e=some (sz,agg))(hz:qc4 E.P e len=some zs)
  (hf:qa7 (λi=>some (i*sz,sz)) zs (kv N s parts)=some cs) (hsz:Qx (len*sz) 16777216=true):
  ∃c':Array Value,(execOp a.eval ⟨d,.buildSlice t len parts,T,p,af,none⟩).run E.P w=.ok (.value (.slice (some ⟨w.heap.size,0,none⟩) len len)) (w.alloc (.cells c' e))∧RelC G cs c':=by
 have hsizeOf:=(kr ht w).1
 have hsz:=Qa hsz
 unfold qc4 at hz
 cases hi:E.P.info? e with
 |none=>rw[hi]at hz;simp at hz
 |some i=>
  rw[hi]at hz
  simp only at hz
  have hs:i.size=sz:=by simpa[sizeOf,typeInfo,hi]using hsizeOf
  rw[hs]at hz
  -- the array that the run starts from
  have key:∃c0:Array Value,RelC G zs c0∧∀(Q:Array Value->Sem Value),((do
    let zero <-if len*sz=0 then pure #[]else do pure (<-zeroValue e).cells
    Q ((Qy (len*sz)).map (zero[· %zero.size]!)):Sem Value)).run E.P w=(Q c0).run E.P w:=by
   by_cases h0:len*sz=0
   .rw[h0]at hz
    simp at hz
    subst hz
    exact⟨#[],⟨rfl,Sx⟩,λQ=>by have e:Qy 0= #[]:=(by simp[Qy]);simp[h0,e]⟩
   .have:Qw (len*sz) 0=false:=zz h0
    rw[this]at hz
    simp only[cond_false]at hz
    cases hzr:i.zero with
    |none=>rw[hzr]at hz;simp at hz
    |some z=>
     rw[hzr]at hz
     simp only[Option.map_some,Ql]at hz
     subst hz
     refine⟨(Qy (len*sz)).map (z.cells[· %z.cells.size]!),⟨Sx,λk x y h1 h2=>?_⟩,λQ=>by simp[h0,zeroValue,typeInfo,hi,hzr]⟩
     have hk:k<len*sz:=by have:=lt_of_getElem? h1;simpa using this
     simp[hk]at h1 h2
     subst h1;subst h2
     exact .v _
  obtain⟨c0,hc0,hrun0⟩:=key
  obtain⟨c',h1,h2⟩:=qgx (λi=>some (i*sz,sz)) (kv N s parts) (parts.toList.map λx=>(x.1,a.eval x.2)) zs c0 cs (by simp[kv]) (qic hI parts) hc0 hf
  refine⟨c',?_,h2⟩
  .generalize a.eval=ρ at h1
   have hb:¬16777216<len*sz:=Om
   have hg:∃m:String,(execOp ρ ⟨d,.buildSlice t len parts,T,p,af,none⟩).run E.P w=(((do
    let zero <-if len*sz=0 then pure #[]else do pure (<-zeroValue e).cells
    (λc=>(do
    let some cells:=Instr.fill (λi=>some (i*sz,sz)) c (parts.map λx=>(x.1,ρ x.2)).toList|stuck m
    pure (Value.slice (some (<-newRow e cells)) len len):Sem Value)) ((Qy (len*sz)).map (zero[· %zero.size]!)):Sem Value)).run E.P w).andThen λv w'=>.ok (.value v) w':=by
    apply Exists.intro
    simp only[execOp,Instr.buildSlice]
    simp[run_underlying hu,hsizeOf,hb]
    rfl
   obtain⟨m,hg⟩:=hg
   have hQ:=hrun0 (λc=>do
    let some cells:=Instr.fill (λi=>some (i*sz,sz)) c (parts.map λx=>(x.1,ρ x.2)).toList|stuck m
    pure (.slice (some (<-newRow e cells)) len len))
   rw[hg,hQ]
   simp[h1,newRow,newObj,Sem.run]
theorem y9{t e:TypeId}{len sz:Nat}{agg:Bool}{parts:Array (Nat×Operand)}{zs cs xs:List AV}(hu:E.P.underlying t=some (.slice e))(ht:tyOf E.P e=some (sz,agg))(hz:qc4 E.P e len=some zs)
  (hf:qa7 (λi=>some (i*sz,sz)) zs (kv N s parts)=some cs) (hxs:(kv N s parts).map Xj=xs) (hlen:xs.length=len) (hfl:flat xs=cs) (hw:xs.all (λx=>Qw x.cells.length sz)=true) (hsz:Qx (len*sz) 16777216=true)
  (h:AOps E rd N ops rest K (s.put d (.sl sz xs none))):AOps E rd N ops (⟨d,.buildSlice t len parts,T,p,af,none⟩::rest) K s:=by
 refine qw rfl (qu nofun λB0 w0 G a w _ hI=>?_)
 obtain⟨c',hrun,h2⟩:=qi1 (d:=d) (T:=T) (p:=p) (af:=af) hI hu ht hz hf hsz
 obtain⟨hle,hA⟩:=hI.agree.newPub e c' (0,0) c'.toList (λi y hy=>by simpa using hy)
 refine⟨.slice (some ⟨w.heap.size,0,none⟩) len len,w.alloc (.cells c' e),_,.sl sz xs none,s.st,hrun,hle,hA,?_,h⟩
 rw[<-hlen]
 cases xs with
 |nil=>exact .sl0 sz none _ _ Sx
 |cons x0 xr=>
  refine .sl sz _ none w.heap.size 0 _ c'.toList (by simp[Gh.publish]) (λx hx=>?_) (by rw[hfl,h2.1];simp) (λk x y g1 g2=>?_) (λt ht=>by simp at ht) (Qd _)
  .exact Zq (Zj.1 hw x hx)
  .rw[hfl]at g1
   exact(h2.2 k x y g1 (by simpa using g2)).mono hle
end
end Go.Av
namespace Go.Av
open Go Go.RowKit
inductive qfu (n:Nat):List AObj->List AObj->Prop
 |nil:qfu n [] []
 |same {l l':List AObj} (x:AObj) (h:qfu n l l'):qfu n (x::l) (x::l')
 |cut {l l':List AObj} {x x':AObj} (hx:qpf n x') (h:qfu n l l'):qfu n (x::l) (x'::l')
 |loop {l l':List AObj} {ls ls':LoopState} {pend pend':Option Code} {N:Nat} {t:Nat->AV} {ps:Array Tmp} {asg body:Code} (h:qfu n l l'):qfu n (.loop ls pend N t ps asg body::l) (.loop ls' pend' N t ps asg body::l')
theorem qfu.length{n:Nat}{l l':List AObj}(h:qfu n l l'):l'.length=l.length:=by
 induction h with
 |nil=>rfl
 |_=>simpa
def qvh(F:LoopState->Option Code->AObj)(N:Nat)(t:Nat->AV)(ps:Array Tmp)(asg body:Code):Prop:=∀ls pend,F ls pend=AObj.loop ls pend N t ps asg body
@[reducible] def zf1 (o : Nat) (F : LoopState → Option Code → AObj) (R : Bool → List AObj → Prop) : Exit → AS → Prop
 |.normal,s=>s.st[o]?=some (F .busy none)∧R true (s.st.set o (F .ready none))
 |.ret,s=>s.st[o]?=some (F .busy none)∧R false (s.st.set o (F .done (some .ret)))
 |.exit id,s=>s.st[o]?=some (F .busy none)∧R false (s.st.set o (F .done (some (.exit id))))
 |_,_=>False
theorem q8v{E:Env}{o N:Nat}{t:Nat->AV}{ps:Array Tmp}{asg body:Code}{st:List AObj}{R:Bool->List AObj->Prop}{xs:List AV}{F:LoopState->Option Code->AObj}(hF:qvh F N t ps asg body)(ho:st[o]?=some (F .ready none))(hps:ps.size=xs.length)
  (h:∀l,AWp E (some l) N asg (only λs1=>s1.st[o]?=some (F .ready none)∧s1.df=[]∧AWp E (some l) N body (zf1 o F R) ⟨s1.t,s1.st.set o (F .busy none),[]⟩) ⟨qki t (ps.toList.zip xs),st,[]⟩):qbx E o xs st R:=by
 refine qzs (N:=N) (t:=t) (ps:=ps) (asg:=asg) (body:=body) (by rw[ho,hF]) hps λl=>(h l).mono λe s1 hq=>?_
 cases e with
 |normal=>
  obtain⟨h1,h2,h3⟩:=hq
  refine⟨by rw[h1,hF],h2,?_⟩
  rw[hF]at h3
  refine h3.mono λe s2 hq2=>?_
  cases e with
  |normal=>obtain⟨k1,k2⟩:=hq2;exact⟨by rw[k1,hF],by rw[hF]at k2;exact k2⟩
  |ret=>obtain⟨k1,k2⟩:=hq2;exact⟨by rw[k1,hF],by rw[hF]at k2;exact k2⟩
  |exit id=>obtain⟨k1,k2⟩:=hq2;exact⟨by rw[k1,hF],by rw[hF]at k2;exact k2⟩
  |_=>exact hq2.elim
 |_=>exact hq.elim
theorem q25{E:Env}{N:Nat}{Q:Exit->AS->Prop}{s:AS}{f:Operand}{ps:Array Tmp}{asg body:Code}{st loc:List AObj}{g:FuncId}{fs cs:List AV}(hst:s.st=st++loc)(hx:qg N s f=.fn (.func g) fs cs)
  (hrun:∀vs w,(callFunc g vs).run E.P w=.ok (.enter g vs) w)
  (h:∀F,qvh F N s.t ps asg body->ql E g (fs++[.yd (st.length+(loc.length+1))]++cs) (st++(loc++[.dfr,F .ready none])) λ_ st'=>∃ls pend,ls≠LoopState.busy∧st'[st.length+(loc.length+1)]?=some (F ls pend)∧
   match pend with
   |none=>Q .normal ⟨s.t,st'.set (st.length+(loc.length+1)) .dead,(st.length+loc.length)::s.df⟩
   |some c=>AWp E none N c Q ⟨s.t,st'.set (st.length+(loc.length+1)) .dead,(st.length+loc.length)::s.df⟩):AWp E none N (.rangeFunc f ps asg body) Q s:=
 qu4 hst hx hrun ((h (λls pend=>.loop ls pend N s.t ps asg body) (λ_ _=>rfl)).mono λ_ _ ⟨ls,pend,h1,h2,h3⟩=>⟨ls,pend,h1,h2,h3⟩)
theorem qtc{E:Env}{rd:Option Nat}{N:Nat}{c:Code}{Q:Exit->AS->Prop}{s:AS}(L:List (Nat×AV))(st':List AObj)(df':List Nat)(h:HasL s.t L)(hst:s.st=st')(hdf:s.df=df')(k:∀t,AWp E rd N c Q ⟨puts t L,st',df'⟩):AWp E rd N c Q s:=by
 have:=k s.t
 rw[qgm h,<-hst,<-hdf]at this
 exact this
theorem q0k{E:Env}{B0:Nat}{w0:World}{N:Nat}{G:Gh}{s:AS}{a:Act}{w:World}(hI:Inv B0 w0 N G s a w){x:Operand}{t:TypeId}{sz:Nat}{agg:Bool}{o ver off:Nat}{T':TypeId}{cs:List AV}{r:AV}(hx:qg N s x=.bx o ver off)(ho:s.st[o]?=some (.cells ver T' cs))(ht:tyOf E.P t=some (sz,agg))(hr:ka sz agg off cs=some r):
  ∃b v,a.eval x=.pointer (some ⟨b,off,none⟩)∧(loadVar t ⟨b,off,none⟩).run E.P w=.ok v w∧Rel G r v:=by
 have he:=hI.eval_of hx
 generalize hv:a.eval x=v at he
 cases he with
 |bx _ _ _ b hn hv' hb=>
  obtain⟨_,h1,h2,h3,c,h4,h5,h6⟩:=hI.agree.ob o _ ho
  have hb:=hb h1
  rw[hb]at h4
  obtain⟨v,hrun,hR⟩:=yo (w:=w) (G:=G) (b:=b) (off:=off) (off':=off) ht (λi x hx hi=>by
   obtain⟨y,hy⟩:=vl hx (Zk h5)
   refine⟨y,?_,h6 i x y hx hy⟩
   simp[World.cell?,h4,show off+(i-off)=i by omega,hy]) hr
  exact⟨b,v,rfl,hrun,hR⟩
@[reducible] def Wv (x : BitVec 32) : AV := .v (.int .u32 (x.toNat : Nat))
theorem qex(n:Nat):IntKind.u32.wrap (n:Int)=((n%4294967296:Nat):Int):=by
 simp[IntKind.wrap,IntKind.bits,IntKind.signed]
theorem ju(x:BitVec 32):BitVec.ofInt 32 (x.toNat:Int)=x:=by
 rw[BitVec.ofInt_natCast,BitVec.ofNat_toNat]
 simp
theorem qeg(x:BitVec 32):IntKind.u32.wrap (x.toNat:Int)=(x.toNat:Int):=by
 rw[qex,Qm x.isLt]
section
variable {E : Env} {rd : Option Nat} {N : Nat} {ops : Array Oper} {K : AS → Prop} {s : AS} {rest : List Oper} {d : Option Tmp} {T : TypeId} {p : String} {af : Array Edge}
theorem qrv(x:BitVec 32):((x.toNat:Nat):Int)=0↔x=0#32:=by
 constructor
 .intro h
  apply BitVec.eq_of_toNat_eq
  simpa using h
 .rintro rfl
  rfl
theorem qck{x y:Operand}{t t':TypeId}{m n:Int}{a b:BitVec 32}(hx:qg N s x=.v (.int .u32 m))(hy:qg N s y=.v (.int .u32 n))(ha:BitVec.ofInt 32 m=a)(hb:BitVec.ofInt 32 n=b)(h:AOps E rd N ops rest K (s.put d (Wv (a^^^b)))):AOps E rd N ops (⟨d,.binOp .xor t x y t',T,p,af,none⟩::rest) K s:=
 q8r hx hy (by subst ha;subst hb;simp only[qa3,IntKind.bits];rw[qeg];rfl) h
theorem qpj{x y:Operand}{t t':TypeId}{m n:Int}{a b:BitVec 32}(hx:qg N s x=.v (.int .u32 m))(hy:qg N s y=.v (.int .u32 n))(ha:BitVec.ofInt 32 m=a)(hb:BitVec.ofInt 32 n=b)(h:AOps E rd N ops rest K (s.put d (Wv (a&&& b)))):AOps E rd N ops (⟨d,.binOp .and t x y t',T,p,af,none⟩::rest) K s:=
 q8l hx hy (by subst ha;subst hb;simp only[qa3,IntKind.bits];rw[qeg];rfl) h
theorem q5g{x y:Operand}{t t':TypeId}{m n:Int}{a b:BitVec 32}(hx:qg N s x=.v (.int .u32 m))(hy:qg N s y=.v (.int .u32 n))(ha:BitVec.ofInt 32 m=a)(hb:BitVec.ofInt 32 n=b)(h:AOps E rd N ops rest K (s.put d (Wv (a|||b)))):AOps E rd N ops (⟨d,.binOp .or t x y t',T,p,af,none⟩::rest) K s:=
 zbv hx hy (by subst ha;subst hb;simp only[qa3,IntKind.bits];rw[qeg];rfl) h
theorem qgq{x:Operand}{t:TypeId}{a:BitVec 32}(hx:qg N s x=Wv a)(h:AOps E rd N ops rest K (s.put d (Wv (~~~ a)))):AOps E rd N ops (⟨d,.unOp .xor t x,T,p,af,none⟩::rest) K s:=
 q2v hx (by
  simp only[qa3,IntKind.bits,IntKind.signed,Qz,if_false]
  rw[ju]
  have h1:BitVec.ofInt 32 IntKind.u32.max=BitVec.allOnes 32:=by decide
  have h2:BitVec.ofInt 32 IntKind.u32.max^^^a= ~~~ a:=by rw[h1,BitVec.xor_comm,BitVec.xor_allOnes]
  exact(congrArg (λz:BitVec 32=>IntKind.u32.wrap (z.toNat:Int)) h2).trans (qeg _)) h
theorem qd2{x y:Operand}{t t':TypeId}{yk:IntKind}{a:BitVec 32}{n:Nat}(hx:qg N s x=Wv a)(hy:qg N s y=.v (.int yk (n:Int)))(hn:Qx n 32=true)(h:AOps E rd N ops rest K (s.put d (Wv (a<<<n)))):AOps E rd N ops (⟨d,.binOp .shl t x y t',T,p,af,none⟩::rest) K s:=
 q8p hx hy Om (by
  have hn:=Qa hn
  have:min (n:Int).toNat IntKind.u32.bits=n:=by simp[IntKind.bits];omega
  rw[this]
  have e:(a.toNat:Int)*2^n=((a.toNat*2^n:Nat):Int):=Sx
  rw[e,qex,BitVec.toNat_shiftLeft,Zl]) h
theorem qjj{x y:Operand}{t t':TypeId}{yk:IntKind}{a:BitVec 32}{n:Nat}(hx:qg N s x=Wv a)(hy:qg N s y=.v (.int yk (n:Int)))(hn:Qx n 32=true)(h:AOps E rd N ops rest K (s.put d (Wv (a>>>n)))):AOps E rd N ops (⟨d,.binOp .shr t x y t',T,p,af,none⟩::rest) K s:=
 q8q hx hy Om (by
  have hn:=Qa hn
  have:min (n:Int).toNat IntKind.u32.bits=n:=by simp[IntKind.bits];omega
  rw[this,BitVec.toNat_ushiftRight,Ze]
  have h0:(0:Int)<=2^n:=by
   have:((2^n:Nat):Int)=(2:Int)^n:=Sx
   rw[<-this]
   exact Int.natCast_nonneg _
  rw[Zb _ h0]
  simp) h
theorem qik{x y:Operand}{t e:TypeId}{len sz:Nat}{agg:Bool}{k:IntKind}{n:Nat}{cs:List AV}{r:AV}(hx:qg N s x=.ag cs)(hy:qg N s y=.v (.int k (n:Int)))(hu:E.P.underlying t=some (.array len e))(ht:tyOf E.P e=some (sz,agg))(hn:n<len)(hr:ka sz agg (n*sz) cs=some r)
  (h:AOps E rd N ops rest K (s.put d r)):AOps E rd N ops (⟨d,.index t x y,T,p,af,none⟩::rest) K s:=by
 refine qw rfl (qu nofun λB0 w0 G a w _ hI=>?_)
 have he:=hI.eval_of hx
 have hey:=hI.evalv hy
 generalize hv:a.eval x=v at he
 cases he with
 |ag _ vs hl hrel=>
  obtain⟨i1,i2⟩:=kr ht w
  cases agg with
  |false=>
   simp only[ka,cond_false]at hr
   obtain⟨z,hz⟩:=vl hr (Zk hl)
   refine⟨z,w,G,r,s.st,?_,.refl G,hI.agree,hrel _ r z hr hz,h⟩
   generalize a.eval=ρ at hv hey
   simp only[execOp,hv,hey]
   simp[Instr.index,asIntOf,run_underlying hu,hn,part,i1,i2,hz]
  |true=>
   simp only[ka,cond_true]at hr
   cases hb:Qx (n*sz+sz) cs.length with
   |false=>rw[hb]at hr;simp at hr
   |true=>
    rw[hb]at hr
    simp only[cond_true,Ql]at hr
    have hle:n*sz+sz<=cs.length:=Qa hb
    refine⟨.agg (vs.extract (n*sz) (n*sz+sz)),w,G,r,s.st,?_,.refl G,hI.agree,?_,h⟩
    .generalize a.eval=ρ at hv hey
     simp only[execOp,hv,hey]
     simp[Instr.index,asIntOf,run_underlying hu,hn,part,i1,i2]
    .subst hr
     refine .ag _ _ So λi x y h1 h2=>?_
     have hi:i<sz:=by have:=lt_of_getElem? h1;simp at this;omega
     simp[hi,Xb]at h1
     rw[Array.getElem?_extract]at h2
     split at h2
     .exact hrel (n*sz+i) x y h1 h2
     .simp at h2
theorem qbq{x y:Operand}{t e:TypeId}{len sz:Nat}{agg:Bool}{k:IntKind}{n o ver off:Nat}(hx:qg N s x=.bx o ver off)(hy:qg N s y=.v (.int k (n:Int)))(hu:E.P.underlying t=some (.array len e))(ht:tyOf E.P e=some (sz,agg))(hn:n<len)
  (h:AOps E rd N ops rest K (s.put d (.bx o ver (off+n*sz)))):AOps E rd N ops (⟨d,.indexAddr t x y,T,p,af,none⟩::rest) K s:=by
 refine qw rfl (qu nofun λB0 w0 G a w _ hI=>?_)
 have he:=hI.eval_of hx
 have hey:=hI.evalv hy
 generalize hv:a.eval x=v at he
 cases he with
 |bx _ _ _ b hn' hver hb=>
  refine⟨.pointer (some ⟨b,off+n*sz,none⟩),w,G,_,s.st,?_,.refl G,hI.agree,.bx o ver _ b hn' hver hb,h⟩
  generalize a.eval=ρ at hv hey
  simp only[execOp,hv,hey]
  simp[Instr.indexAt,asIntOf,run_underlying hu,Instr.sureAddr,hn,(kr ht w).1,Addr.add_lit]
theorem qpm{x:Operand}{t t':TypeId}{k:IntKind}{n:Nat}{e:TypeDesc}(hx:qg N s x=.v (.int k (n:Int)))(hs:E.P.underlying t=some e)(hd:E.P.underlying t'=some (.int .u32))(hn:n<4294967296)
  (h:AOps E rd N ops rest K (s.put d (Wv (BitVec.ofNat 32 n)))):AOps E rd N ops (⟨d,.convert t t' x,T,p,af,none⟩::rest) K s:=
 qpl hx hs hd (by rw[qex,Qm hn,BitVec.toNat_ofNat,Qm hn]) h
theorem qr6{x y:Operand}{t:TypeId}{sz:Nat}{agg:Bool}{st loc loc':List AObj}{k ver off:Nat}{T':TypeId}{cs xs:List AV}{r:AV}(hs:s.st=st++loc)(hx:qg N s x=.bx (st.length+k) ver off)(hy:qg N s y=r)(ho:loc[k]?=some (.cells ver T' cs))(ht:tyOf E.P t=some (sz,agg))
  (hok:r.okc=true) (hc:r.cells=xs) (hsz:Qw xs.length sz=true) (h1:jl xs=true) (hfit:off+sz<=cs.length) (hl:loc'=loc.set k (.cells ver T' (zt cs off xs)))
  (h:AOps E rd N ops rest K (AS.put ⟨s.t,st++loc',s.df⟩ d (.v undef))):AOps E rd N ops (⟨d,.store t x y,T,p,af,none⟩::rest) K s:=
 vf hs hx hy ho ht hok hc hsz h1 (Nat.ble_eq_true_of_le hfit) hl h
theorem q4q{cs:List AV}{off:Nat}{x:AV}(h:off<cs.length):zt cs off [x]=cs.set off x:=by
 rw[List.set_eq_take_append_cons_drop,if_pos h]
 simp[zt]
theorem qcx{t:Nat->AV}{L:List (Nat×AV)}{st st':List AObj}{df:List Nat}(h:HasL t L)(e:st'=st):StA L st df ⟨t,st',df⟩:=by
 subst e
 exact jx h
theorem qr7{fn:Func}{t:Tmp}{Ta:TypeId}{st loc:List AObj}{k1 v1 f1 sz1:Nat}{agg1:Bool}{T1:TypeId}{cs1:List AV}{r1:AV}(hr:fn.results= #[.cell t Ta])(hs:s.st=st++loc)
  (hx1:qg fn.ntmps s (.tmp t)=.bx (st.length+k1) v1 f1) (ho1:loc[k1]?=some (.cells v1 T1 cs1)) (ht1:tyOf E.P Ta=some (sz1,agg1)) (hl1:ka sz1 agg1 f1 cs1=some r1):ARes E fn s r1:=by
 refine⟨λB0 w0 G a w _ hI=>?_⟩
 obtain⟨b1,y1,e1,e2,e3⟩:=q0k hI hx1 (by rw[hs];exact yc ho1) ht1 hl1
 simp only[Act.eval,Array.getD_eq_getD_getElem?]at e1
 refine⟨y1,?_,e3⟩
 simp[results,hr,e1,asAddr,e2]
def qr8(P:Program)(t:TypeId):Option Nat:=
 match P.underlying t with
 |some (.array _ e)=>match P.info? e with
  |some i=>some i.size
  |none=>none
 |_=>none
theorem qzr{P:Program}{t:TypeId}{sz:Nat}(h:qr8 P t=some sz):∃len e i,P.underlying t=some (.array len e)∧P.info? e=some i∧i.size=sz:=by
 unfold qr8 at h
 split at h
 .rename_i len e hu
  split at h
  .rename_i i hi
   simp only[Ql]at h
   exact⟨len,e,i,hu,hi,h⟩
  .simp at h
 .simp at h
theorem qs9{t:TypeId}{parts:Array (Nat×Operand)}{zs cs:List AV}{sz:Nat}(hz:qih E.P t=some zs)(hp:qr8 E.P t=some sz)(hf:qa7 (λi=>some (i*sz,sz)) zs (kv N s parts)=some cs)
  (h:AQ E N ops rest K (s.put d (.ag cs))):AQ E N ops (⟨d,.build t parts,T,p,af,none⟩::rest) K s:=by
 refine qcl rfl nofun λB0 w0 G a w _ hI=>?_
 obtain⟨len,e,i,hu,hi,rfl⟩:=qzr hp
 obtain⟨z,hrun,hr⟩:=qme hz w
 obtain⟨c',h1,h2⟩:=qgx (λk=>some (k*i.size,i.size)) (kv N s parts) (parts.toList.map λx=>(x.1,a.eval x.2)) zs z.cells cs (by simp[kv]) (qic hI parts) (hr G) hf
 have hz':∃ti,E.P.info? t=some ti∧ti.zero=some z:=by
  unfold zeroValue at hrun
  simp[typeInfo]at hrun
  cases hti:E.P.info? t with
  |none=>simp[hti]at hrun
  |some ti=>
   simp[hti]at hrun
   cases htz:ti.zero with
   |none=>simp[htz]at hrun
   |some y=>simp[htz]at hrun;exact⟨ti,rfl,by rw[htz,hrun]⟩
 obtain⟨ti,g1,g2⟩:=hz'
 refine⟨.agg c',.ag cs,λw' _=>?_,.ag _ _ h2.1 h2.2,h⟩
 generalize a.eval=ρ at h1
 simp[execOp,Instr.build,run_underlying hu,zeroValue,typeInfo,g1,g2,sizeOf,hi,h1]
theorem q5i{x y:Operand}{t:TypeId}{m:List UInt8}{k:IntKind}{n:Nat}(hx:qg N s x=Sv m)(hy:qg N s y=.v (.int k (n:Int)))(hu:E.P.underlying t=some .string)(h1:n<m.length)
  (h:AQ E N ops rest K (s.put d (Uv (m.getD n 0)))):AQ E N ops (⟨d,.index t x y,T,p,af,none⟩::rest) K s:=
 qaa _ rfl nofun (λa w he=>by
  have hg:(⟨m.toArray⟩:ByteArray)[n]?=some (m.getD n 0):=by
   simp only[getElem?_def,yp,h1,dite_true,Xi,Option.getD_some]
   rfl
  simp[execOp,Instr.index,he _ _ hx,he _ _ hy,asIntOf,run_underlying hu,hg]) h
theorem qwl{x:Operand}{t t':TypeId}{k:IntKind}{n:Nat}{e:TypeDesc}(hx:qg N s x=.v (.int k (n:Int)))(hs:E.P.underlying t=some e)(hd:E.P.underlying t'=some (.int .u32))(hn:n<4294967296)
  (h:AQ E N ops rest K (s.put d (Wv (BitVec.ofNat 32 n)))):AQ E N ops (⟨d,.convert t t' x,T,p,af,none⟩::rest) K s:=by
 have hr:IntKind.u32.wrap (n:Int)=(((BitVec.ofNat 32 n).toNat:Nat):Int):=by rw[qex,Qm hn,BitVec.toNat_ofNat,Qm hn]
 exact qaa _ rfl nofun (λa w he=>by rw[<-hr];simp[execOp,he _ _ hx,convert,run_underlying hs,run_underlying hd,Conv.intToInt]) h
theorem q1e{x y:Operand}{t t':TypeId}{yk:IntKind}{c:UInt8}(hx:qg N s x=Uv c)(hy:qg N s y=.v (.int yk 4))(h:AQ E N ops rest K (s.put d (.v (.int .u8 ((c.toNat / 16:Nat):Int))))):AQ E N ops (⟨d,.binOp .shr t x y t',T,p,af,none⟩::rest) K s:=
 qaa _ rfl nofun (λa w he=>by
  have:(c.toNat:Int).fdiv (2^(min (4:Int).toNat IntKind.u8.bits))=((c.toNat / 16:Nat):Int):=by
   rw[Zb _ (by decide)]
   simp[IntKind.bits]
  rw[<-this]
  simp[execOp,he _ _ hx,he _ _ hy,eqGuard_at_int,binOp_shr,Op.shift]) h
theorem qwk{x y:Operand}{t t':TypeId}{c:UInt8}(hx:qg N s x=Uv c)(hy:qg N s y=.v (.int .u8 15))(h:AQ E N ops rest K (s.put d (.v (.int .u8 ((c.toNat%16:Nat):Int))))):AQ E N ops (⟨d,.binOp .and t x y t',T,p,af,none⟩::rest) K s:=
 zes hx hy (by
  simp only[qa3,IntKind.bits]
  have h1:BitVec.ofInt 8 (c.toNat:Int)=c.toBitVec:=by rw[BitVec.ofInt_natCast];simp
  have h2:(BitVec.ofInt 8 (c.toNat:Int)&&& BitVec.ofInt 8 15).toNat=c.toNat%16:=by
   rw[h1,BitVec.toNat_and]
   exact Nat.and_two_pow_sub_one_eq_mod c.toNat 4
  have h3:IntKind.u8.wrap ((c.toNat%16:Nat):Int)=((c.toNat%16:Nat):Int):=by
   simp[IntKind.wrap,IntKind.bits,IntKind.signed]
   omega
  exact(congrArg (λz:Nat=>IntKind.u8.wrap (z:Int)) h2).trans h3) h
theorem and15_lt(x:BitVec 32):(x&&& BitVec.ofInt 32 15).toNat<16:=by
 rw[BitVec.toNat_and]
 exact Qs Nat.and_le_right (by decide)
theorem q5h{x y:Operand}{t t':TypeId}{k:IntKind}{m n:Nat}(hx:qg N s x=.v (.int k (m:Int)))(hy:qg N s y=.v (.int k (n:Int)))(hn:n≠0)(hf:k.wrap ((m / n:Nat):Int)=((m / n:Nat):Int))
  (h:AOps E rd N ops rest K (s.put d (.v (.int k ((m / n:Nat):Int))))):AOps E rd N ops (⟨d,.binOp .quo t x y t',T,p,af,none⟩::rest) K s:=
 qwf hx hy Om (by rw[Int.tdiv_eq_ediv_of_nonneg Om,<-Int.natCast_ediv];exact hf) h
theorem zeo{n:Nat}(h:n<4294967296):IntKind.u32.wrap (n:Int)=(n:Int):=by
 rw[qex,Qm h]
end
end Go.Av
namespace Go.Av
open Go Go.RowKit
section
variable {E : Env} {rd : Option Nat} {N : Nat} {ops : Array Oper} {K : AS → Prop} {s : AS} {rest : List Oper} {d : Option Tmp} {T : TypeId} {p : String} {af : Array Edge}
def qmq:TypeDesc->Bool
 |.interface _=>false
 |_=>true
def qvy(P:Program)(t:TypeId):Option Value:=match P.info? t with|some i=>i.zero|none=>none
theorem quw{P:Program}{t:TypeId}{z:Value}(h:qvy P t=some z)(w:World):(zeroValue t).run P w=.ok z w:=by
 unfold qvy at h
 split at h
 .rename_i i hi
  simp[zeroValue,typeInfo,hi,h]
 .simp at h
theorem qci{x:Operand}{xt t:TypeId}{D:TypeDesc}{y:AV}(hx:qg N s x=.ifc t y)(hu:E.P.underlying t=some D)(hn:qmq D=true)
  (h:AOps E rd N ops rest K (s.put d (.tu [y,Bv true]))):AOps E rd N ops (⟨d,.typeAssert x xt t true,T,p,af,none⟩::rest) K s:=by
 refine qw rfl (qu nofun λB0 w0 G a w _ hI=>?_)
 have he:=hI.eval_of hx
 generalize hv:a.eval x=v at he
 cases he with
 |ifc _ _ z hz=>
  refine⟨.tuple #[z,.bool true],w,G,_,s.st,?_,.refl G,hI.agree,qjd hz (.v _),h⟩
  generalize a.eval=ρ at hv
  cases D<;>first|(simp[qmq]at hn;done)|simp[execOp,Instr.typeAssert,hv,run_underlying hu]
theorem qhm{x:Operand}{xt t u:TypeId}{D:TypeDesc}{y:AV}{z:Value}(hx:qg N s x=.ifc u y)(hu:E.P.underlying t=some D)(hn:qmq D=true)(hne:Qw u t=false)(hz:qvy E.P t=some z)
  (h:AOps E rd N ops rest K (s.put d (.tu [.v z,Bv false]))):AOps E rd N ops (⟨d,.typeAssert x xt t true,T,p,af,none⟩::rest) K s:=by
 refine qw rfl (qu nofun λB0 w0 G a w _ hI=>?_)
 have he:=hI.eval_of hx
 generalize hv:a.eval x=v at he
 have hne':u≠t:=λe=>by subst e;simp at hne
 have hz':=quw hz w
 cases he with
 |ifc _ _ q hq=>
  refine⟨.tuple #[z,.bool false],w,G,_,s.st,?_,.refl G,hI.agree,qjd (.v _) (.v _),h⟩
  generalize a.eval=ρ at hv
  cases D<;>first|(simp[qmq]at hn;done)|simp[execOp,Instr.typeAssert,hv,run_underlying hu,hne',hz']
theorem qr3{x:Operand}{xt t:TypeId}{D:TypeDesc}{z:Value}(hx:qg N s x=.v .nilIface)(hu:E.P.underlying t=some D)(hn:qmq D=true)(hz:qvy E.P t=some z)
  (h:AOps E rd N ops rest K (s.put d (.tu [.v z,Bv false]))):AOps E rd N ops (⟨d,.typeAssert x xt t true,T,p,af,none⟩::rest) K s:=by
 refine qw rfl (qu nofun λB0 w0 G a w _ hI=>?_)
 have hv:=hI.evalv hx
 have hz':=quw hz w
 refine⟨.tuple #[z,.bool false],w,G,_,s.st,?_,.refl G,hI.agree,qjd (.v _) (.v _),h⟩
 generalize a.eval=ρ at hv
 cases D<;>first|(simp[qmq]at hn;done)|simp[execOp,Instr.typeAssert,hv,run_underlying hu,hz']
end
end Go.Av
namespace Go.Proofs.YtapblfabkbdgcaaGreatDoor
open Go Go.Av Go.RowKit Go.Proofs
structure Laid (w:World):Prop where
 shaped:World.ShapedOpen Tryz.prog w
 ert:w.cell? ⟨1,0,none⟩=some (.iface 298 (.agg #[.pointer (some ⟨9,31,none⟩)]))
@[reducible] noncomputable def E : Env := ⟨Tryz.prog, fun B0 w0 => ∀ w, Below B0 w0 w → Laid w⟩
theorem qp5(l m:List UInt8)(st:List AObj)(hl:l.length<4294967281):ql E 163 [Sv l,Sv m] st λr st'=>r=Bv (Lib.contains l m)∧st'=st:=
 qch (vals:= #[.string ⟨l.toArray⟩,.string ⟨m.toArray⟩]) rfl λ_ _ w hL hb=>(Tryz.strings_Contains_shaped ⟨l.toArray⟩ ⟨m.toArray⟩ w (hL w hb).shaped (by simpa[ByteArray.size]using hl)).mono λ_ _ ⟨h1,h2⟩=>⟨h1,qil h2⟩
theorem qz8(l m:List UInt8)(st:List AObj):ql E 154 [Sv l,Sv m] st λr st'=>r=Bv (Lib.hasPrefix l m)∧st'=st:=
 qch (vals:= #[.string ⟨l.toArray⟩,.string ⟨m.toArray⟩]) rfl λ_ _ w _ _=>(Tryz.strings_HasPrefix ⟨l.toArray⟩ ⟨m.toArray⟩ w).mono λ_ _ ⟨h1,h2⟩=>⟨h1,qil h2⟩
theorem q3g(l m:List UInt8)(st:List AObj)(hl:l.length<4294967281):ql E 39 [Sv l,Sv m] st λr st'=>r=.tu [Sv (Lib.cut l m).1,Sv (Lib.cut l m).2.1,Bv (Lib.cut l m).2.2]∧st'=st:=
 qm6 (vals:= #[.string ⟨l.toArray⟩,.string ⟨m.toArray⟩]) (rs:= #[.string ⟨(Lib.cut l m).1.toArray⟩,.string ⟨(Lib.cut l m).2.1.toArray⟩,.bool (Lib.cut l m).2.2]) rfl λ_ _ w hL hb=>(Tryz.strings_Cut_shaped ⟨l.toArray⟩ ⟨m.toArray⟩ w (hL w hb).shaped (by simpa[ByteArray.size]using hl)).mono λ_ _ ⟨h1,n,h2⟩=>⟨h1,h2▸qzu w n⟩
theorem q8d(l m:List UInt8)(st:List AObj)(hl:l.length<=9223372036854775807)(hm:m.length<4294967281)(ha:∀(j:Nat)(b:UInt8),m[j]?=some b->b.toNat<128):ql E 164 [Sv l,Sv m] st λr st'=>r=Sv (Lib.trimS l m)∧st'=st:=
 qch (vals:= #[.string ⟨l.toArray⟩,.string ⟨m.toArray⟩]) rfl λ_ _ w _ _=>(Any.strings_Trim_laid Tryz.lays160t Kr ⟨l.toArray⟩ ⟨m.toArray⟩ w (by simpa[ByteArray.size]using hl) (by simpa[ByteArray.size]using hm) (by simpa using ha)).mono λ_ _ ⟨h1,h2⟩=>⟨h1,h2⟩
theorem zek(l m:List UInt8)(st:List AObj)(hl:l.length<=9223372036854775807)(hm:Xq m.length 4294967281=true)(ha:m.all (λb=>Xq b.toNat 128)=true):ql E 164 [Sv l,Sv m] st λr st'=>r=Sv (Lib.trimS l m)∧st'=st:=
 q8d l m st hl (by simpa[Xm]using hm) λj b h=>by
  have:=Zj.1 ha b (Zw h)
  simpa[Xm]using this
end Go.Proofs.YtapblfabkbdgcaaGreatDoor
namespace Go.Av
open Go Go.RowKit Go.WideShapes Go.ChangeShapes
section
variable {H : Type} {enc : TypeId × Value → H} {P : Program}
theorem qu9{f:Func}{s:ChangeSpec}{qbr fresh handsOn again:Bool}{W W':World}{args:Array Value}{v:Value}{ds gs:List (DataW H)}{before pa pv:List MemPlace}
  (hW:DataW.Whole enc P f.params.toList s.vars qbr W args.toList ds gs before)
  (hres:∀(b:Nat)(sp:Nat->Bool)(hd:Bool),DataW.TrodAll enc P W' b sp hd f.resultTypes.toList (v.resultList f.resultTypes.size) (s.fn H (ds++gs)).results [])
  (hargs:∀sp:Nat->Bool,(∀p∈before,sp p.block=true)->DataW.TrodAll enc P W' 0 sp true f.params.toList args.toList (s.fn H (ds++gs)).args pa)
  (hvars:∀sp:Nat->Bool,(∀p∈before,sp p.block=true)->DataW.TrodVars enc P W' sp s.vars (s.fn H (ds++gs)).vars pv)
  (hps:before=pa++pv) (hb:Below W.heap.size W W')
  (hok:∀(j:Nat)(t:TypeId)(r:Value),f.resultTypes[j]?=some t->(v.resultList f.resultTypes.size)[j]?=some r->Value.okWide P W' .any 0 t r):
  s.post enc P f qbr fresh handsOn again W args v W':=by
 have hlt:∀p∈before,p.block<W.heap.size:=λp hp=>hW.lt p hp
 have hold:∀p∈before,(λb=>decide (b<W.heap.size)) p.block=true:=λp hp=>by simpa using hlt p hp
 refine⟨ds,gs,before,[],pa,pv,hW,hres _ _ _,hargs _ hold,hvars _ hold,World.keptBut_mono (λp hp=>⟨hp,?_⟩) (hb.frame (·∈before)),λ_=>?_⟩
 .rw[hps,Qo]at hp
  exact Or.inr hp
 .obtain⟨_,_,_,_,_,hz,hn⟩:=hW
  refine⟨hok,_,_,([]++pa)++pv,⟨[]++pa,pv,trodAll_append (hargs _ (λ_ _=>rfl)) (hres _ _ _),hvars _ (λ_ _=>rfl),rfl,?_,?_⟩,?_⟩
  .intro b off hp
   have hin:MemPlace.cell b off∈before:=by rw[hps];simpa using hp
   rw[hb.frozen (hlt _ hin)]
   exact hz b off hin
  .intro ha
   have:=hn ha
   rw[hps]at this
   simpa using this
  .intro p hp _
   rw[hps]
   simpa using hp
end
end Go.Av
open Go in
theorem Go.Av.lit_i64{n:Int}(h:(Lit.int .i64 n).wf=true): -9223372036854775808<=n∧n<=9223372036854775807:=by
 simpa[Lit.wf,IntKind.min,IntKind.max,IntKind.signed,IntKind.bits]using h
namespace Go.Proofs.YtapblfabkbdgcaaGreatDoor
open Go Go.Av Go.RowKit
theorem zfs:((Zd 360).filter λt=>Tryz.prog.rowNamed t [101,114,114,111,114])=[31]:=Kr
theorem zgq:(Tryz.prog.cutTypes.find? (·.1== "internal/reflectlite.rtype")).map (·.2)=some 298:=by kernel_rfl
theorem zgr:Tryz.prog.types.size=360:=Kr
theorem zgj:typeHandle Tryz.prog 31=.pointer (some ⟨9,31,none⟩):=Kr
theorem zbh:Tryz.prog.globalNamed "errors.errorType" =some 1:=by kernel_rfl
theorem qxp{P:Program}{w0:World}{laid:List (String×DataW Unit)}(args:Array Value)(hf:w0.layFits P laid []=true)(hi:w0.layIfaces P laid (w0.layVars P laid)=true):
  laidMet P laid ((w0.layVars P laid).forCall (λ_ _=>0) ⟨#[],args,[]⟩).memory:=by
 have e1:(laid.filter λx=>(laid.map Zx).contains x.1)=laid:=List.filter_eq_self.2 λx hx=>Zr.2 (Xa hx)
 have e2:(laid.filter λx=> !(laid.map Zx).contains x.1)=[]:=List.filter_eq_nil_iff.2 λx hx=>by
  rw[Zr.2 (Xa (f:=Zx) hx)]
  simp
 have h:laidMet P laid (w0.layVars P laid):=laidMet_layVars (w0:=w0) (laid.map Zx) [] (by rw[e1]) (by rw[e1];exact hf) (by rw[e1];exact hi) (by rw[e2];exact LaidIn.none)
 exact h.of_heap (by simp[World.memory,World.forCall,Input.heap])
noncomputable def zgg(os:Os):World:={World.holding Tryz.prog os ⟨#[],#[],[]⟩with heap:=(World.holding Tryz.prog os ⟨#[],#[],[]⟩).heap.modify 1 λ
 |.cells _ t fz=>.cells #[.iface 298 (.agg #[.pointer (some ⟨9,31,none⟩)])] t fz
 |o=>o}
theorem zc6{l:List (String×DataW Unit)}{W:World}
  (hp:(l.filter λx=>x.2.handleName?.isSome)=[("errors.errorType",Rows.laid_errors_errorType)]∧(l.all λx=>x.1== "errors.errorType" ||x.2.handleName?.isNone)=true)
  (hL:laidMetH Tryz.prog l W) (hs:W.ShapedOpen Tryz.prog)
  :E.L W.heap.size W:=by
 unfold laidMetH at hL
 rw[hp.1]at hL
 simp only at hL
 intro w hb
 obtain⟨hL,hH⟩:=hL
 obtain⟨name,u,ty,e1,e2,e3,e4,e5⟩:=hH _ (Qj.2 rfl)
 have en:name=[101,114,114,111,114]:=(Xg e1).symm
 subst en
 obtain rfl:=Xg (zgq.symm.trans e2)
 have hm:ty∈(Zd 360).filter λt=>Tryz.prog.rowNamed t [101,114,114,111,114]:=List.mem_filter.2 ⟨List.mem_range.2 (by rw[<-zgr];exact e3),e4⟩
 rw[zfs]at hm
 obtain rfl:=Qj.1 hm
 rw[zgj]at e5
 have hv:=World.var?_cell zbh (Go.Joins.var_stays zbh e5 hb (Qd _)) 0
 exact⟨hs.keptBut (hb.frame (λ_=>False)) (λ_ h=>h.elim),by simpa using hv⟩
end Go.Proofs.YtapblfabkbdgcaaGreatDoor
namespace Go.Pl
open Go
abbrev qd:=List UInt8
theorem qb6(l:qd)(c:UInt8):0<=Lib.index l [c]↔c∈l:=by
 induction l with
 |nil=>simp[Lib.index]
 |cons b l ih=>
  have hge:=Lib.index_ge l [c]
  unfold Lib.index
  by_cases hb:c=b
  .subst hb
   simp[Qg]
  .have hp:([c]:qd).isPrefixOf (b::l)=false:=by simp[Qg,hb]
   rw[hp]
   by_cases hm:Lib.index l [c]= -1
   .have:c∉l:=λh=>by have:=ih.2 h;omega
    simp[hm,hb,this]
   .have:c∈l:=ih.1 Om
    simp[hm,this]
    omega
theorem qlb(l:qd)(c:UInt8):Lib.contains l [c]=decide (c∈l):=by
 unfold Lib.contains
 by_cases h:c∈l
 .simp[h,(qb6 l c).2 h]
 .have:¬0<=Lib.index l [c]:=λh'=>h ((qb6 l c).1 h')
  simp[h,this]
theorem qkw(l:qd)(c:UInt8):Lib.hasPrefix l [c]=decide (l.head?=some c):=by
 cases l with
 |nil=>simp[Lib.hasPrefix]
 |cons b l=>
  by_cases h:c=b
  .simp[Lib.hasPrefix,Qg,h]
  .simp[Lib.hasPrefix,Qg,h,Ne.symm h]
def vr(c:UInt8):Prop:=c=32∨c=9
instance (c:UInt8):Decidable (vr c):=inferInstanceAs (Decidable (c=32∨c=9))
def qd5(l:qd):Prop:=∃c,l.head?=some c∧vr c
instance (l:qd):Decidable (qd5 l):=
 match l with
 | []=>.isFalse (by rintro⟨c,h,_⟩;simp at h)
 |c::r=>decidable_of_iff (vr c) ⟨λh=>⟨c,rfl,h⟩,λ⟨d,h,hd⟩=>by simp at h;subst h;exact hd⟩
def x4(l:qd):Prop:=l≠[]∧l.length<=32∧¬qd5 l∧¬l.head?=some 35∧58∉l∧10∉l
instance (l:qd):Decidable (x4 l):=inferInstanceAs (Decidable (_∧_∧_∧_∧_∧_))
theorem qh5(l:qd):x4 l↔1<=l.length∧l.length<=32∧¬vr (l.getD 0 0)∧l.getD 0 0≠35∧58∉l∧10∉l:=by
 cases l with
 |nil=>simp[x4]
 |cons c l=>simp[x4,qd5]
theorem qsd(c:UInt8)(l:qd):Lib.contains [32,9] [c]=decide (qd5 (c::l)):=by
 rw[qlb]
 have:qd5 (c::l)↔vr c:=⟨λ⟨d,h,hd⟩=>by simp at h;subst h;exact hd,λh=>⟨c,rfl,h⟩⟩
 simp[this,vr]
def upto(c:UInt8)(l:qd):qd:=l.takeWhile (·≠c)
def past(c:UInt8)(l:qd):qd:=l.drop ((upto c l).length+1)
theorem qqs(c:UInt8)(l:qd)(h:c∈l):Lib.index l [c]=((upto c l).length:Int):=by
 induction l with
 |nil=>simp at h
 |cons b l ih=>
  unfold Lib.index upto
  by_cases hb:b=c
  .subst hb;simp[Qg]
  .have hp:([c]:qd).isPrefixOf (b::l)=false:=by simp[Qg,Ne.symm hb]
   have hl:c∈l:=by simpa[Ne.symm hb]using h
   have e:=ih hl
   rw[hp]
   have:(Lib.index l [c]== -1)=false:=by rw[e];simp
   simp only[this]
   rw[e]
   simp[hb,upto]
theorem qig(c:UInt8)(l:qd):l.take (upto c l).length=upto c l:=by
 induction l with
 |nil=>simp[upto]
 |cons b l ih=>
  by_cases hb:b=c
  .simp[upto,hb]
  .have:upto c (b::l)=b::upto c l:=by simp[upto,hb]
   rw[this]
   simp[ih]
theorem qcf{c:UInt8}{l:qd}(h:c∉l):upto c l=l:=by
 induction l with
 |nil=>rfl
 |cons b l ih=>
  have hb:b≠c:=λe=>h (by simp[e])
  have:upto c (b::l)=b::upto c l:=by simp[upto,hb]
  rw[this,ih (λh'=>h (by simp[h']))]
theorem yq(c:UInt8)(l:qd):(upto c l).length<=l.length:=by
 have:=congrArg Xd (qig c l)
 simp at this
 omega
theorem qjh{c:UInt8}{l:qd}(h:c∈l):(upto c l).length<l.length:=by
 induction l with
 |nil=>simp at h
 |cons b l ih=>
  by_cases hb:b=c
  .simp[upto,hb]
  .have:upto c (b::l)=b::upto c l:=by simp[upto,hb]
   rw[this]
   have:=ih (by simpa[Ne.symm hb]using h)
   simp
   omega
theorem ym(c:UInt8)(l:qd):(past c l).length=l.length-((upto c l).length+1):=by simp[past]
theorem zca(c:UInt8)(l:qd):Lib.cut l [c]=(upto c l,past c l,decide (c∈l)):=by
 unfold Lib.cut
 by_cases h:c∈l
 .rw[if_pos ((qb6 l c).2 h),qqs c l h]
  simp[qig,past,h]
 .rw[if_neg (λh'=>h ((qb6 l c).1 h'))]
  simp[qcf h,past,h]
theorem wx{c:UInt8}{l:qd}(h:l≠[]):(past c l).length<l.length:=by
 rw[ym]
 have:=List.length_pos_iff.2 h
 omega
def zy(l:qd):List (qd×Bool):=
 if h:l=[]then []else(upto 10 l,decide (10∈l))::zy (past 10 l)
 termination_by l.length
 decreasing_by exact wx h
theorem vm:zy []=[]:=by rw[zy];simp
theorem wz{l:qd}(h:l≠[]):zy l=(upto 10 l,decide (10∈l))::zy (past 10 l):=by rw[zy];simp[h]
def qgk(b:Bool):qd:=if b then [10]else []
def qa6(by' l:qd):qd×Bool:=
 if∀x∈zy l,by'<+:x.1 then((zy l).flatMap λx=>x.1.drop by'.length++qgk x.2,true)else([],false)
theorem qu7(l m:qd):Lib.hasPrefix l m=true↔m<+:l:=by
 unfold Lib.hasPrefix
 exact List.isPrefixOf_iff_prefix
theorem qvd{l m:qd}(h:m<+:l):Lib.trimPrefix l m=l.drop m.length:=by
 unfold Lib.trimPrefix
 rw[if_pos ((qu7 l m).2 h)]
theorem xy{c:UInt8}{a:qd}(r:qd)(h:c∉a):upto c (a++c::r)=a:=by
 induction a with
 |nil=>simp[upto]
 |cons b a ih=>
  have hb:b≠c:=λe=>h (by simp[e])
  have h2:c∉a:=λe=>h (by simp[e])
  have e:upto c (b::(a++c::r))=b::upto c (a++c::r):=by simp[upto,hb]
  rw[Qn,e,ih h2]
theorem yw{c:UInt8}{a:qd}(r:qd)(h:c∉a):past c (a++c::r)=r:=by
 unfold past
 rw[xy r h,show a++c::r=(a++[c])++r by simp,show a.length+1=(a++[c]).length by simp,Zs]
theorem yn{c:UInt8}{l:qd}(h:c∈l):l=upto c l++c::past c l:=by
 induction l with
 |nil=>simp at h
 |cons b l ih=>
  by_cases hb:b=c
  .subst hb;simp[upto,past]
  .have h2:c∈l:=by simpa[Ne.symm hb]using h
   have e1:upto c (b::l)=b::upto c l:=by simp[upto,hb]
   have e2:past c (b::l)=past c l:=by simp[past,e1]
   rw[e1,e2,Qn,<-ih h2]
theorem qah(c:UInt8)(l:qd):c∉upto c l:=by
 induction l with
 |nil=>simp[upto]
 |cons b l ih=>
  by_cases hb:b=c
  .simp[upto,hb]
  .have e1:upto c (b::l)=b::upto c l:=by simp[upto,hb]
   rw[e1]
   simp[Ne.symm hb,ih]
def zx(l:qd):qd:=l.takeWhile (·≠58)
theorem q0c(l:qd)(h:58∈l):Lib.index l [58]=((zx l).length:Int):=by
 induction l with
 |nil=>simp at h
 |cons b l ih=>
  unfold Lib.index zx
  by_cases hb:b=58
  .subst hb;simp[Qg]
  .have hp:([58]:qd).isPrefixOf (b::l)=false:=by simp[Qg,Ne.symm hb]
   have hl:58∈l:=by simpa[Ne.symm hb]using h
   have e:=ih hl
   rw[hp]
   have:(Lib.index l [58]== -1)=false:=by rw[e];simp
   simp only[this]
   rw[e]
   simp[hb,zx]
theorem qzb(l:qd):l.take (zx l).length=zx l:=by
 induction l with
 |nil=>simp[zx]
 |cons b l ih=>
  by_cases hb:b=58
  .simp[zx,hb]
  .have:zx (b::l)=b::zx l:=by simp[zx,hb]
   rw[this]
   simp[ih]
def jw(l:qd):qd:=l.drop ((zx l).length+1)
theorem qtj(l:qd):Lib.cut l [58]=if 58∈l then(zx l,jw l,true)else(l,[],false):=by
 unfold Lib.cut
 by_cases h:58∈l
 .rw[if_pos ((qb6 l 58).2 h),if_pos h,q0c l h]
  simp[qzb,jw]
 .rw[if_neg (λh'=>h ((qb6 l 58).1 h')),if_neg h]
theorem qqx{l:qd}{k:Nat}(h:58∉l.take k)(hk:k<l.length)(e:l.getD k 0=58):zx l=l.take k∧58∈l:=by
 induction l generalizing k with
 |nil=>simp at hk
 |cons b l ih=>
  cases k with
  |zero=>simp at e;subst e;simp[zx]
  |succ k=>
   simp only[List.take_succ_cons,Zc,not_or]at h
   obtain⟨h1,h2⟩:=ih h.2 (by simpa using hk) (by simpa using e)
   have:zx (b::l)=b::zx l:=by simp[zx,Ne.symm h.1]
   exact⟨by rw[this,h1];rfl,by simp[h2]⟩
def qc8(l:qd):qd×qd×Bool:=if 10∉l∧58∈l∧x4 (zx l)then(zx l,jw l,true)else([],[],false)
def qn(l:qd):Int:=
 if 10∈l then 5 else if∀c∈l,vr c then 1 else if l.head?=some 35 then 2 else if qd5 l then 3
 else if 58∈l∧x4 (zx l)then 4 else 5
theorem qnr{l:qd}(h:10∉l)(hb:¬ ∀c∈l,vr c):0<l.length∧qn l=if l.getD 0 0=35 then 2 else if vr (l.getD 0 0)then 3 else if 58∈l∧x4 (zx l)then 4 else 5:=by
 cases l with
 |nil=>simp at hb
 |cons c l=>
  have e:qd5 (c::l)↔vr c:=⟨λ⟨d,h,hd⟩=>by simp at h;subst h;exact hd,λh=>⟨c,rfl,h⟩⟩
  refine⟨Sx,?_⟩
  unfold qn
  rw[if_neg h,if_neg hb]
  simp[e]
theorem qku{α:Type}(p:α->Bool)(l:List α):l.dropWhile p=[]↔∀x∈l,p x=true:=by
 induction l with
 |nil=>simp
 |cons a l ih=>
  by_cases h:p a=true
  .simp[h,ih]
  .simp[h]
theorem q9c{α:Type}(p:α->Bool)(l:List α):(l.reverse.dropWhile p).reverse.dropWhile p=[]↔∀x∈l,p x=true:=by
 rw[qku]
 constructor
 .intro h x hx
  by_cases hq:∀y∈l,p y=true
  .exact hq x hx
  .have hr:¬ ∀y∈l.reverse,p y=true:=λh'=>hq λy hy=>h' y (by simpa using hy)
   rw[<-qku]at hr
   obtain⟨a,r,hd⟩:=List.exists_cons_of_ne_nil hr
   have h1:=List.head?_dropWhile_not p l.reverse
   rw[hd]at h1
   have h2:=h a (by simp[hd])
   simp[h2]at h1
 .intro h x hx
  exact h x (by
   have:=(List.dropWhile_sublist (l:=l.reverse) p).subset (by simpa using hx)
   simpa using this)
theorem qut(l m:qd):Lib.trimS l m=[]↔∀c∈l,c∈m:=by
 unfold Lib.trimS Lib.trimLeftS Lib.trimRightS
 rw[q9c]
 simp
theorem q3h(l m:qd):(Lib.cut l m).1.length<=l.length:=by
 unfold Lib.cut
 split
 .simp;omega
 .simp
def qez(l:qd):Prop:=2<=l.length∧l.length<=50000∧l.getLast?=some 10∧(qa6 [32] l).2=true
instance (l:qd):Decidable (qez l):=inferInstanceAs (Decidable (_∧_∧_∧_))
def qvn(n:Nat)(fig:qd):qd:=[37,97,109,101,110,100,32]++Lib.itoa n++[32]++fig++[10]
def qgd(n:Nat):qd:=[37,101,110,100,32]++Lib.itoa n++[10]
theorem qsa{l:qd}{v:Int}(h:Lib.atoiAll l=.ok v): -9223372036854775808<=v∧v<=9223372036854775807:=by
 unfold Lib.atoiAll at h
 cases l with
 |nil=>simp at h
 |cons c r=>
  simp only at h
  split at h
  .simp at h
  .simp at h
  .split at h
   .simp at h
   .split at h
    .simp at h
    .rename_i h1 h2
     simp only[Lib.NumEnd.ok.injEq]at h
     subst h
     by_cases hn:c.toNat=45
     .simp only[hn,true_and,not_true,if_true]at *
      omega
     .simp only[hn,not_false_iff,true_and,if_false]at *
      omega
def xj(l:qd):Nat:=
 match Lib.atoiAll l with
 |.ok v=>if Lib.itoa v=l∧1<=v∧v<=50000 then v.toNat else 0
 |_=>0
def wb:qd:=[37,97,109,101,110,100,32]
def hexL:qd:=[48,49,50,51,52,53,54,55,56,57,97,98,99,100,101,102]
def qax(l:qd):Prop:=∀c∈l,c∈hexL
instance (l:qd):Decidable (qax l):=inferInstanceAs (Decidable (∀c∈l,c∈hexL))
def ww(l:qd):Nat×qd×Bool:=
 (xj (upto 32 (Lib.trimPrefix l wb)),past 32 (Lib.trimPrefix l wb),
  decide (wb<+:l∧32∈Lib.trimPrefix l wb∧2<=xj (upto 32 (Lib.trimPrefix l wb))∧(past 32 (Lib.trimPrefix l wb)).length=8∧qax (past 32 (Lib.trimPrefix l wb))))
def qha(l:qd):Bool:=
 if wb<+:l then decide (¬(32∈l.drop 7∧xj (upto 32 (l.drop 7))<2)∧¬(upto 32 (l.drop 7)≠[]∧xj (upto 32 (l.drop 7))=0)∧(past 32 (l.drop 7)).length<=8∧qax (past 32 (l.drop 7)))
 else decide (l<+:wb)
theorem q37{l:qd}{v:Int}(h:Lib.atoiAll l=.ok v):(xj l:Int)=if Lib.itoa v=l∧1<=v∧v<=50000 then v else 0:=by
 unfold xj
 rw[h]
 simp only
 split
 .omega
 .rfl
theorem qeb(l:qd):xj l<=50000:=by
 unfold xj
 split
 .split
  .omega
  .omega
 .omega
def zc9(n:Int):Int:=if n<2∨50000<n then 0 else(qvn n.toNat [48,48,48,48,48,48,48,48]).length+n+(qgd n.toNat).length
def qmv(body:qd)(lack:Int):Int:=
 if(qa6 [32] body).2=true∧¬((body=[]∨body.getLast?=some 10)∧lack<2)then 2 else 3
theorem qza(n:Nat):(qgd n).length=(Lib.itoa n).length+6:=by simp[qgd]<;>omega
theorem qbh{u:Nat}(h:¬u<10):Lib.decDigits u=Lib.decDigits (u / 10)++Lib.decDigits (u%10):=by
 rw[Lib.decDigits,dif_neg h,Lib.decDigits_one (Zy u Om)]
end Go.Pl
namespace Go.Pl
section
variable {α : Type} [DecidableEq α]
def vk(a b:List α):Nat->Nat->Nat
 |0,j=>j
 |i+1,0=>i+1
 |i+1,j+1=>if a[i]?=b[j]?then vk a b i j else 1+min (min (vk a b i j) (vk a b i (j+1))) (vk a b (i+1) j)
theorem qmk(a b:List α)(i j:Nat):vk a b (i+1) (j+1)=if a[i]?=b[j]?then vk a b i j else 1+min (min (vk a b i j) (vk a b i (j+1))) (vk a b (i+1) j):=by rw[vk]
theorem qhu(a b:List α)(j:Nat):vk a b 0 j=j:=by rw[vk]
theorem qe8(a b:List α)(i:Nat):vk a b i 0=i:=by cases i<;>rw[vk]
theorem qht(a b:List α):∀(n i j:Nat),i+j<=n->(vk a b (i+1) j<=vk a b i j+1∧vk a b i j<=vk a b (i+1) j+1)∧(vk a b i (j+1)<=vk a b i j+1∧vk a b i j<=vk a b i (j+1)+1)
 |0,i,j,h=>by
  obtain⟨rfl,rfl⟩:i=0∧j=0:=Om
  simp[qe8,qhu]
 |n+1,i,j,h=>by
  refine⟨?_,?_⟩
  .cases j with
   |zero=>simp only[qe8];omega
   |succ j=>
    obtain⟨⟨h1,h2⟩,h3,h4⟩:=qht a b n i j Om
    rw[qmk]
    split <;>omega
  .cases i with
   |zero=>simp only[qhu];omega
   |succ i=>
    obtain⟨⟨h1,h2⟩,h3,h4⟩:=qht a b n i j Om
    rw[qmk]
    split <;>omega
theorem q1k(a b:List α):∀(i j:Nat),vk a b i j<=i+j
 |0,j=>by rw[qhu];omega
 |i+1,j=>by
  have:=q1k a b i j
  have:=(qht a b (i+j) i j (Qd _)).1.1
  omega
def wj(a b:List α)(i j:Nat):Int:=
 if 0<i∧0<j∧a[i-1]?=b[j-1]?∧vk a b (i-1) (j-1)=vk a b i j then 1
 else if 0<i∧0<j∧vk a b (i-1) (j-1)+1=vk a b i j then 2
 else if 0<i∧vk a b (i-1) j+1=vk a b i j then 3 else 4
def wayB(a b:List α):Nat->Nat->Nat->List Int
 |0,_,_=>[]
 |n+1,i,j=>if i=0∧j=0 then []else
  wj a b i j::wayB a b n (if wj a b i j=4 then i else i-1) (if wj a b i j=3 then j else j-1)
def wayF(a b:List α):List Int:=(wayB a b (a.length+b.length) a.length b.length).reverse
theorem qlo(a b:List α)(i j:Nat)(h:wj a b i j≠4):0<i:=by
 unfold wj at h
 repeat' split at h
 all_goals first|omega|(exact absurd rfl h)
theorem qjy(a b:List α)(i j:Nat)(hj:¬(i=0∧j=0))(h:wj a b i j≠3):0<j:=by
 unfold wj at h
 have hn:j=0->0<i∧vk a b (i-1) j+1=vk a b i j:=λe=>by
  subst e
  simp only[qe8]
  omega
 refine Nat.pos_of_ne_zero λe=>h ?_
 subst e
 rw[if_neg Om,if_neg Om,if_pos (hn rfl)]
theorem qlp(a b:List α)(i j:Nat):wj a b i j=1∨wj a b i j=2∨wj a b i j=3∨wj a b i j=4:=by
 unfold wj
 repeat' split
 all_goals simp
end
end Go.Pl
namespace Go.Proofs.YtapblfabkbdgcaaGreatDoor
open Go Go.Av Go.RowKit Go.Proofs Go.Pl
theorem qnh(l:List UInt8)(c:UInt8)(st:List AObj)(hl:l.length<4294967281):ql E 163 [Sv l,Sv [c]] st λr st'=>r=Bv (decide (c∈l))∧st'=st:=by
 rw[<-qlb];exact qp5 l [c] st hl
theorem qg4(l:List UInt8)(c:UInt8)(st:List AObj):ql E 154 [Sv l,Sv [c]] st λr st'=>r=Bv (decide (l.head?=some c))∧st'=st:=by
 rw[<-qkw];exact qz8 l [c] st
theorem q1h(l:List UInt8)(st:List AObj):ql E 165 [Sv l] st λr st'=>r=Bv (decide (qd5 l))∧st'=st:=by
 refine zr (qt _) (qy Tryz.func165 rfl (Qa rfl) ?_)
 cases l with
 |nil=>
  repeat' (first|apply qp|apply qj|apply qi|apply qm|apply qk|(apply x8;(iterate 3 exact rfl))|(apply z6;(iterate 4 exact rfl))|(apply qb4;exact cRa)|(apply q7;exact rfl;apply pk_f;exact cRa)|apply zg)
  refine qs rfl (zj rfl) ⟨congrArg Bv (?_:_=_),_,rfl⟩
  simp[qd5]
 |cons c l=>
  have hne:¬(c::l)=[]:=Sx
  repeat' (first|apply qp|apply qj|apply qi|apply qm|apply qk|(apply x8;(iterate 3 exact rfl))|(apply z6;(iterate 4 exact rfl))|(apply qg3;exact cAo)|(apply q7;exact rfl;apply qf8;exact cAo)|apply zg|refine qcy rfl rfl rfl ⟨_,rfl⟩ Om Om So ?_|(apply zf;exact Tryz.call163;exact qp5 _ _ _ Sx))
  refine qs rfl (zj rfl) ⟨congrArg Bv (?_:_=_),_,rfl⟩
  exact qsd c l
theorem zbk(l:List UInt8)(st:List AObj)(hl:l.length<4294967281):ql E 166 [Sv l] st λr st'=>r=Bv (decide (x4 l))∧st'=st:=by
 refine zr (qt _) (qy Tryz.func166 rfl (Qa rfl) ?_)
 repeat' (first|apply qp|apply qj|apply qi|apply qm|apply qk|(apply qz;(iterate 3 exact rfl))|(apply x8;(iterate 3 exact rfl))|(apply w6;exact rfl)|(apply z6;(iterate 4 exact rfl))|(apply qen;exact cAo)|(apply qdp;exact cAo)|(apply qty;exact cRa)|(apply qqn;exact cRa)|(apply qqo<;>intro h)|(apply qli;exact cRa)|(apply qco<;>intro h)|(apply q7;exact rfl;apply qf8;exact cAo)|(apply q7;exact rfl;apply qkb;exact cAo)|(apply q7;exact rfl;apply zbn;exact cRa)|(apply q7;exact rfl;apply q4d;exact cRa)|(apply q7;exact rfl;apply pk_t;exact cRa)|(apply qh;exact rfl;apply cd_t;exact cRa)|(apply qh;exact rfl;apply cd_d<;>intro h)|(apply vb;(iterate 3 exact rfl))|apply za|apply zg|(apply zf;exact Tryz.call163;exact qnh _ _ _ hl)|(apply zf;exact Tryz.call154;exact qg4 _ _ _)|(apply zf;exact Tryz.call165;exact q1h _ _))
 all_goals refine qs rfl (zj rfl) ⟨congrArg Bv (?_:_=_),_,rfl⟩
 all_goals simp[x4, *]
 all_goals omega
theorem qke(c:UInt8)(st:List AObj):ql E 133 [Uv c] st λr st'=>r=Bv (decide (vr c))∧st'=st:=by
 refine zr (qt _) (qy Tryz.func133 rfl (Qa rfl) ?_)
 repeat' (first|apply qp|apply qj|apply qi|apply qm|apply qk|(apply qz;(iterate 3 exact rfl))|(apply z6;(iterate 4 exact rfl))|(apply qen;exact cAo)|(apply qdp;exact cAo)|(apply qco<;>intro h)|(apply q7;exact rfl;apply qf8;exact cAo)|(apply q7;exact rfl;apply qkb;exact cAo)|apply zg)
 all_goals refine qs rfl (zj rfl) ⟨congrArg Bv (?_:_=_),_,rfl⟩
 all_goals simp_all[vr,q40,u8_9]
theorem qyp(l:List UInt8)(st:List AObj)(hl:l.length<4294967281):ql E 159 [Sv l] st λr st'=>r=Bv (decide (x4 l))∧st'=st:=by
 refine zr (qt _) (qy Tryz.func159 rfl (Qa rfl) ?_)
 repeat' (first|apply qp|apply q8|apply qj|apply qi|apply qm|apply qk|(apply qz;(iterate 3 exact rfl))|(apply z6;(iterate 4 exact rfl))|(apply qen;exact cAo)|(apply qdp;exact cAo)|(apply qli;exact cRa)|(apply qco<;>intro h)|(apply q7;exact rfl;apply qf8;exact cAo)|(apply q7;exact rfl;apply qkb;exact cAo)|(apply q7;exact rfl;apply pk_t;exact cRa)|(apply qh;exact rfl;apply cd_t;exact cRa)|(apply qh;exact rfl;apply cd_d<;>intro h)|(apply vb;(iterate 3 exact rfl))|(apply yr;(iterate 3 exact rfl);exact cAs)|apply za|apply zg|(apply zf;exact Tryz.call133;exact qke _ _))
 rotate_left 4
 .refine ko (λ(k:Nat)s=>k<=l.length∧58∉l.take k∧10∉l.take k∧StA [(0,Sv l),(3,Iv k)] (st++[]) [] s) (λk=>l.length-k) 0 ⟨Om,Sx,Sx,jx ⟨rfl,rfl,trivial⟩⟩ ?_
  rintro k _ ⟨hk,h1,h2,t,rfl⟩
  repeat' (first|apply qp|apply q8|apply qj|apply qi|apply qm|apply qk|(apply qz;(iterate 3 exact rfl))|(apply z6;(iterate 4 exact rfl))|(apply qen;exact cAo)|(apply qdp;exact cAo)|(apply qco<;>intro h)|(apply q7;exact rfl;apply qf8;exact cAo)|(apply q7;exact rfl;apply qkb;exact cAo)|(apply qh;exact rfl;apply cd_t;exact cRa)|(apply qh;exact rfl;apply cd_d<;>intro h)|(apply vb;(iterate 3 exact rfl))|(apply ja;exact rfl;exact rfl;exact zp Om Om)|(apply yr;(iterate 3 exact rfl);exact cAs)|apply za|apply kh|apply zg)
  rotate_left 2
  .exact⟨k+1,⟨Om,qcr Om h1 (by simp_all[qrx]),qcr Om h2 (by simp_all[qef]),jx ⟨rfl,rfl,trivial⟩⟩,Om⟩
  all_goals refine qs rfl (zj rfl) ⟨congrArg Bv (?_:_=_),_,rfl⟩
  .have e:k=l.length:=by omega
   subst e
   simp_all[qh5,qm2]
   omega
  .have:=qi6 (l:=l) (k:=k) Om
   simp_all[qh5,qrx]
  .have:=qi6 (l:=l) (k:=k) Om
   simp_all[qh5,qef]
 all_goals refine qs rfl (zj rfl) ⟨congrArg Bv (?_:_=_),_,rfl⟩
 all_goals simp_all[qh5,qm2]
 all_goals omega
theorem qym(l:List UInt8)(st:List AObj)(hl:l.length<4294967281):ql E 115 [Sv l] st λr st'=>r=.tu [Sv (qc8 l).1,Sv (qc8 l).2.1,Bv (qc8 l).2.2]∧st'=st:=by
 refine zr (ql2 _ _ _) (qy Tryz.func115 rfl (Qa rfl) ?_)
 repeat' (first|apply qp|apply q8|apply qj|apply qi|apply qk)
 refine ko (λ(k:Nat)s=>k<=l.length∧10∉l.take k∧StA [(0,Sv l),(2,Sv []),(3,Sv []),(4,Bv false),(5,Iv k)] (st++[]) [] s) (λk=>l.length-k) 0 ⟨Om,Sx,jx ⟨rfl,rfl,rfl,rfl,rfl,trivial⟩⟩ ?_
 rintro k _ ⟨hk,h1,t,rfl⟩
 repeat' (first|apply qp|apply q8|apply qj|apply qi|apply qm|apply qk|(apply qz;(iterate 3 exact rfl))|(apply qh;exact rfl;apply cd_d<;>intro h)|(apply vb;(iterate 3 exact rfl))|(apply ja;exact rfl;exact rfl;exact zp Om Om)|(apply yr;(iterate 3 exact rfl);exact cAs)|apply za|apply kh|apply zg)
 rotate_left 1
 .exact⟨k+1,⟨Om,qcr Om h1 (by simp_all[qef]),jx ⟨rfl,rfl,rfl,rfl,rfl,trivial⟩⟩,Om⟩
 .have e:k=l.length:=by omega
  subst e
  rw[Qr]at h1
  refine ko (λ(k:Nat)s=>k<=l.length∧58∉l.take k∧StA [(0,Sv l),(2,Sv []),(3,Sv []),(4,Bv false),(6,Iv k)] (st++[]) [] s) (λk=>l.length-k) 0 ⟨Om,Sx,jx ⟨rfl,rfl,rfl,rfl,rfl,trivial⟩⟩ ?_
  rintro k _ ⟨hk,h2,t,rfl⟩
  repeat' (first|apply qp|apply q8|apply qj|apply qi|apply qm|apply qk|(apply qz;(iterate 3 exact rfl))|(apply w6;exact rfl)|(apply qh;exact rfl;apply cd_n<;>intro h)|(apply qh;exact rfl;apply cd_d<;>intro h)|(apply vb;(iterate 3 exact rfl))|(apply ja;exact rfl;exact rfl;exact zp Om Om)|(apply yr;(iterate 3 exact rfl);exact cAs)|(apply qk5;(iterate 3 exact rfl);exact cAs)|(apply qjk;exact rfl;kernel_rfl)|apply qgs|apply qei|apply qs8|(apply qwj;exact rfl;exact rfl;exact zp Om Om)|(apply q1g;(iterate 3 exact rfl);exact cAs)|(apply q1c;(iterate 3 exact rfl);exact cAs)|apply za|apply kh|apply zg|(apply zf;exact Tryz.call159;exact qyp _ _ So))
  rotate_left 2
  .exact⟨k+1,⟨Om,qcr Om h2 (by simp_all[qrx]),jx ⟨rfl,rfl,rfl,rfl,rfl,trivial⟩⟩,Om⟩
  all_goals refine qs rfl (qfx rfl) ⟨qze (?_:_=_),_,rfl⟩
  .have e:k=l.length:=by omega
   subst e
   rw[Qr]at h2
   simp[qc8,h2]
  .obtain⟨e1,e2⟩:=qqx h2 Om (by simp_all[qrx])
   simp_all[qc8]
  .obtain⟨e1,e2⟩:=qqx h2 Om (by simp_all[qrx])
   have hk':k<l.length:=Om
   have hk2:(l.take k).length=k:=So
   have hkey:x4 (l.take k):=by simp_all
   simp only[qc8,jw,e1,e2,h1,hkey,hk2]
   simp
 .refine qs rfl (qfx rfl) ⟨qze (?_:_=_),_,rfl⟩
  have:=qi6 (l:=l) (k:=k) Om
  simp_all[qc8,qef]
theorem qie(l:List UInt8)(st:List AObj)(hl:l.length<4294967281):ql E 92 [Sv l] st λr st'=>r=Iv (qn l)∧st'=st:=by
 refine zr (qt _) (qy Tryz.func92 rfl (Qa rfl) ?_)
 repeat' (first|apply qp|apply q8|apply qj|apply qi|apply qk)
 refine ko (λ(k:Nat)s=>k<=l.length∧10∉l.take k∧∃b,(b=true↔∀c∈l.take k,vr c)∧StA [(0,Sv l),(3,Bv b),(4,Iv k)] (st++[]) [] s) (λk=>l.length-k) 0 ⟨Om,Sx,true,Sx,jx ⟨rfl,rfl,rfl,trivial⟩⟩ ?_
 rintro k _ ⟨hk,h1,b,hb,t,rfl⟩
 repeat' (first|apply qp|apply q8|apply qj|apply qi|apply qm|apply qk|(apply qz;(iterate 3 exact rfl))|(apply z6;(iterate 4 exact rfl))|(apply qeo;exact cRa)|(apply qb4;exact cRa)|(apply qol<;>intro h)|(apply q7;exact rfl;apply pk_t;exact cRa)|(apply q7;exact rfl;apply pk_f;exact cRa)|(apply qh;exact rfl;apply cd_d<;>intro h)|(apply qh;exact rfl;apply cd_s<;>intro h)|(apply vb;(iterate 3 exact rfl))|(apply ja;exact rfl;exact rfl;exact zp Om Om)|(apply yr;(iterate 3 exact rfl);exact cAs)|apply za|apply kh|apply zg|(apply zf;exact Tryz.call133;exact qke _ _))
 .refine qs rfl (zj rfl) ⟨congrArg Iv (?_:_=_),_,rfl⟩
  have:=qi6 (l:=l) (k:=k) Om
  simp_all[qn,qef]
 .exact⟨k+1,⟨Om,qcr Om h1 (by simp_all[qef]),_,by rw[qv5 Om,decide_eq_true_iff,<-hb];simp[*],jx ⟨rfl,rfl,rfl,trivial⟩⟩,Om⟩
 .exact⟨k+1,⟨Om,qcr Om h1 (by simp_all[qef]),_,by rw[qv5 Om,<-hb];simp[*],jx ⟨rfl,rfl,rfl,trivial⟩⟩,Om⟩
 .refine qs rfl (zj rfl) ⟨congrArg Iv (?_:_=_),_,rfl⟩
  have e:k=l.length:=Om
  subst e
  simp_all[qn]
 .have e:k=l.length:=by omega
  subst e
  rw[Qr]at h1 hb
  obtain⟨h0,hk⟩:=qnr h1 (λh=>by simp_all)
  repeat' (first|apply qp|apply qj|apply qi|apply qm|apply qk|(apply kf;exact rfl;exact rfl)|(apply qz;(iterate 3 exact rfl))|(apply qh;exact rfl;apply cd_d<;>intro h)|(apply qh;exact rfl;apply cd_s<;>intro h)|(apply yr;(iterate 3 exact rfl);exact cAs)|apply za|apply zg|(apply zf;exact Tryz.call133;exact qke _ _)|(apply zf;exact Tryz.call115;exact qym _ _ hl))
  all_goals refine qs rfl (zj rfl) ⟨congrArg Iv (?_:_=_),_,rfl⟩
  .simp_all[qm2]
  .simp_all[qm2]
  .have hc:58∈l∧x4 (zx l):=by
    apply Classical.byContradiction
    intro hn
    have:qc8 l=([],[],false):=by unfold qc8;rw[if_neg (λh=>hn h.2)]
    simp_all
   simp_all[qm2]
  .have hc:¬(58∈l∧x4 (zx l)):=λhn=>by
    have:qc8 l=(zx l,jw l,true):=by unfold qc8;rw[if_pos ⟨h1,hn⟩]
    simp_all
   simp_all[qm2]
theorem qlm(l:List UInt8)(st:List AObj)(hl:l.length<4294967281):ql E 121 [Sv l] st λr st'=>r=Iv (qn l)∧st'=st:=by
 refine zr (qt _) (qy Tryz.func121 rfl (Qa rfl) ?_)
 repeat' (first|apply qp|apply q8|apply qj|apply qi|apply qm|apply qk|(apply kf;exact rfl;exact rfl)|(apply x8;(iterate 3 exact rfl))|(apply z6;(iterate 4 exact rfl))|(apply qeo;exact cRa)|(apply qb4;exact cRa)|(apply qol<;>intro h)|(apply q7;exact rfl;apply pk_t;exact cRa)|(apply q7;exact rfl;apply pk_f;exact cRa)|(apply qh;exact rfl;apply cd_f;exact cRa)|(apply qh;exact rfl;apply cd_d<;>intro h)|apply za|apply zg|(apply zf;exact Tryz.call163;exact qnh _ _ _ hl)|(apply zf;exact Tryz.call164;exact q8d _ _ _ Om Sx (by intro j b h;match j with |0=>simp at h;subst h;decide |1=>simp at h;subst h;decide|j+2=>simp at h))|(apply zf;exact Tryz.call154;exact qg4 _ _ _)|(apply zf;exact Tryz.call165;exact q1h _ _)|(apply zf;exact Tryz.call39;exact q3g _ _ _ hl)|(apply zf;exact Tryz.call166;exact zbk _ _ (Qs (q3h _ _) hl)))
 all_goals refine qs rfl (zj rfl) ⟨congrArg Iv (?_:_=_),_,rfl⟩
 all_goals have hb:Lib.trimS l [32,9]=[]↔∀c∈l,vr c:=by rw[qut];simp[vr]
 all_goals by_cases hA:∀c∈l,vr c<;>by_cases hC:58∈l<;>by_cases hK:x4 (zx l)<;>simp_all[qn,qtj]
end Go.Proofs.YtapblfabkbdgcaaGreatDoor
namespace Go.Proofs
open Go.Shelf Go.RowKit
variable {P : Program} {ρ : Ren}
set_option maxHeartbeats 4000000 in
theorem qpz(L:Lays.n169 P ρ)(X:Builder.Extra P ρ)(b n c:Nat)(ad:Option Addr)(q:Value)(str:ByteArray)(w w2:World)(c1:w.drew.cell? ⟨b,1,none⟩=some (.slice ad n c))
  (hSD:(Builtin.unsafeSliceData_ #[(ρ.t 37)] (ρ.t 127) #[.slice ad n c]).run P w.drew=.ok q w.drew)
  (hUS:(Builtin.unsafeString_ #[(ρ.t 127),(ρ.t 3)] (ρ.t 9) #[q,.int .i64 n]).run P w.drew=.ok (.string str) w2):
  Calls P (ρ.f 169) #[.pointer (some ⟨b,0,none⟩)] w λe w'=>e=.returned (.string str)∧w'=w2:=by
 have mixed:=L.mixed
 have t72:=L.t72;have a72:=L.a72;have z72:=L.z72;have v72:=L.v72;have u72:=run_underlying L.t72
 have t70:=L.t70;have a70:=L.a70;have z70:=L.z70;have v70:=L.v70;have u70:=run_underlying L.t70
 have t37:=L.t37;have a37:=L.a37;have z37:=L.z37;have v37:=L.v37;have u37:=run_underlying L.t37
 have t127:=L.t127;have a127:=L.a127;have z127:=L.z127;have v127:=L.v127;have u127:=run_underlying L.t127
 have t3:=L.t3;have a3:=L.a3;have z3:=L.z3;have v3:=L.v3;have u3:=run_underlying L.t3
 have t9:=L.t9;have a9:=L.a9;have z9:=L.z9;have v9:=L.v9;have u9:=run_underlying L.t9
 have t5:=X.t5;have a5:=X.a5;have z5:=X.z5;have v5:=X.v5;have u5:=run_underlying X.t5
 go_enter L.f169,Body.n169_ntmps ρ
 go_wp2
 go_region_o
 all_goals (go_wp2;go_ret;exact⟨rfl,rfl⟩)
end Go.Proofs
namespace Go.Proofs.YtapblfabkbdgcaaGreatDoor
open Go Go.Av Go.RowKit Go.Proofs
@[reducible] def bldO (ver : Nat) (q : AV) (l : List UInt8) (tp : Nat) : AObj := .cells ver 130 [q, .sl 1 (l.map Uv) (some tp)]
theorem qxx(v:Value)(w:World):(callFunc 140 #[v]).run E.P w=.ok (.value v) w:=by
 have h:=run_callFunc_extern (P:=E.P) Tryz.func140 Kr Kr Kr (e:=Extern.AbiNoEscape.same) Kr #[v] w
 rw[h,Lib.run_noEscape]
 rfl
theorem zb5(o ver:Nat)(q buf:AV)(st:List AObj)(ho:st[o]?=some (.cells ver 130 [q,buf]))(hq:q=.v (.pointer none)∨q=.bx o ver 0):
  ql E 100 [.bx o ver 0] st λr st'=>r=.tu []∧st'=st.set o (.cells ver 130 [.bx o ver 0,buf]):=by
 have ho':(st++[])[o]?=some (.cells ver 130 [q,buf]):=by rw[Qp];exact ho
 refine qy Tryz.func100 rfl (Qa rfl) ?_
 rcases hq with rfl|rfl
 .skip
  repeat' (first|apply qp|apply qj|apply qi|apply qm|(apply qh;exact rfl;apply cd_t;exact cRa)|(apply jk;(iterate 3 exact rfl))|(apply wg;exact rfl;exact rfl)|(apply y4;(iterate 3 exact rfl))|(apply ve;exact rfl;exact ho';exact rfl;exact rfl)|(apply qbg;exact rfl;exact rfl;exact ho';(iterate 6 exact rfl))|(apply qu3;exact rfl;exact ho';(simp);exact rfl;exact rfl;kernel_rfl)|(apply qpn;exact rfl;exact ho';(iterate 3 exact rfl);kernel_rfl)|(apply qu1;exact qxx;exact rfl))
  refine qs rfl (qb0 rfl) ⟨rfl,?_⟩
  show(st++[]).set o _=_
  rw[Qp]
  rfl
 .skip
  repeat' (first|apply qp|apply qj|apply qi|apply qm|(apply qh;exact rfl;apply cd_f;exact cRa)|(apply jk;(iterate 3 exact rfl))|(apply wg;exact rfl;exact rfl)|(apply y4;(iterate 3 exact rfl))|apply za|(apply ve;exact rfl;exact ho';exact rfl;exact rfl)|(apply qr4;exact rfl;exact rfl;exact ho';exact rfl;exact rfl))
  refine qs rfl (qb0 rfl) ⟨rfl,?_⟩
  show st++[]=_
  rw[Qp,zaw ho]
theorem zcn:wm E.P 5 1 1:=⟨_,_,rfl,rfl,rfl,rfl,rfl⟩
theorem q8w(o ver tp:Nat)(q:AV)(l m:List UInt8)(st:List AObj)(ho:st[o]?=some (bldO ver q l tp))(ht:st[tp]?=some (.tip l.length 1 5))(hq:q=.v (.pointer none)∨q=.bx o ver 0)(hlen:l.length+m.length<=140737488355328):
  ql E 65 [.bx o ver 0,Sv m] st λr st'=>r=.tu [Iv m.length,.v .nilIface]∧st'=(st.set o (bldO ver (.bx o ver 0) (l++m) tp)).set tp (.tip (l.length+m.length) 1 5):=by
 have hne:tp≠o:=λe=>by rw[e,ho]at ht;simp at ht
 have ho':(st++[])[o]?=some (bldO ver q l tp):=by rw[Qp];exact ho
 have ht':(st++[])[tp]?=some (.tip l.length 1 5):=by rw[Qp];exact ht
 have h2:=kp (y:=.cells ver 130 [.bx o ver 0,.sl 1 (l.map Uv) (some tp)]) ho'
 have h3:=vt (y:=.cells ver 130 [.bx o ver 0,.sl 1 (l.map Uv) (some tp)]) ht' (Ne.symm hne)
 have h4:=vt (y:=.tip (l.length+m.length) 1 5) h2 hne
 have h5:maxLen=140737488351232∨True:=.inr trivial
 refine qy Tryz.func65 rfl (Qa rfl) ?_
 repeat' (first|apply qp|apply qj|apply qi|apply qm|apply qk|(apply vb;(iterate 3 exact rfl))|(apply jk;(iterate 3 exact rfl))|(apply wg;exact rfl;exact rfl)|apply zg|(apply zf;exact Tryz.call100;exact zb5 o ver q _ (st++[]) ho' hq)|(apply ve;exact rfl;exact h2;exact rfl;exact rfl)|(apply qv9;exact rfl;exact rfl;exact h3;(simp);exact rfl;exact rfl;exact zcn;(simp only[maxLen];omega);omega)|(apply qbg;exact rfl;exact rfl;exact h4;(iterate 6 exact rfl)))
 refine qs rfl (qgt rfl) ⟨rfl,?_⟩
 show(((st++[]).set o _).set tp _).set o (.cells ver 130 [.bx o ver 0,.sl 1 (l.map Uv++m.map Uv) (some tp)])=_
 rw[Qp,List.set_comm _ _ hne,List.set_set,<-List.map_append]
theorem q5r(o ver tp:Nat)(q:AV)(l:List UInt8)(st:List AObj)(ho:st[o]?=some (bldO ver q l tp))(ht:st[tp]?=some (.tip l.length 1 5)):
  ql E 62 [.bx o ver 0] st λr st'=>r=Sv l∧st'=st.set tp .dead:=by
 refine⟨λB0 w0 G vals w hL hA hR=>?_⟩
 obtain⟨h0,h1,h2,h3,c,h4,h5,h6⟩:=hA.ob o _ ho
 obtain⟨g0,g1,g2⟩:=hA.ob tp _ ht
 have hne:tp≠o:=λe=>by rw[e,ho]at ht;simp at ht
 have hvals:vals= #[.pointer (some ⟨(G.ob o).blk,0,none⟩)]:=by
  have hs:vals.size=1:=by have:=hR.1;simpa using this.symm
  have h:=hR.2 0 (.bx o ver 0) vals[0] rfl (by simp[hs])
  apply Xp
  .simp[hs]
  .intro i hi1 hi2
   have:i=0:=by simp at hi2;omega
   subst this
   have e:vals[0]=.pointer (some ⟨(G.ob o).blk,0,none⟩):=by
    generalize vals[0]=v at h
    cases h with
    |bx _ _ _ b hn e1 e2=>rw[e2 h1]
   simpa using e
 subst hvals
 have hc2:c.size=2:=by rw[<-h5];rfl
 have hrel:=h6 1 (.sl 1 (l.map Uv) (some tp)) c[1] rfl (by simp[hc2])
 have hcell:w.drew.cell? ⟨(G.ob o).blk,1,none⟩=some c[1]:=by
  have h4':w.drew.heap[(G.ob o).blk]?=some (.cells c 130 (0,0)):=h4
  simp[World.cell?,h4',hc2]
 generalize hv:c[1]=v at hrel hcell
 have hdrew:Below w.heap.size w w.drew:=⟨rfl,rfl,rfl,Qd _,λ_ _=>rfl⟩
 have hA1:=(hA.kill tp).fresh hdrew
 have hl:(l.map Uv).length=l.length:=Sx
 generalize hxs:l.map Uv=xs at hrel
 cases hrel with
 |sl0 _ _ base cap hto=>
  obtain⟨_,rfl,rfl⟩:=hto tp rfl
  have hl0:l=[]:=by simpa using hxs
  subst hl0
  refine(qpz Tryz.lays169 Tryz.Builder_Extra_169 (G.ob o).blk 0 0 none (.pointer none) .empty w w.drew hcell rfl (Lib.run_unsafeString_none w.drew _ _ _ none)).mono ?_
  rintro e w' ⟨rfl,rfl⟩
  exact⟨_,G,Sv [],_,rfl,.refl G,hA1,.v _,rfl,rfl⟩
 |sl _ _ _ b off cap pub hp hw hlen hr hto hcap0=>
  subst hxs
  rw[hl]at hto hcell
  obtain⟨_,hn0,_,hcur⟩:=hto tp rfl
  obtain⟨hb,rfl,hcp,hcm,hcl⟩:=hcur g1
  obtain⟨hB,c2,vs,e1,e2,e3,e4⟩:=g2 hn0
  rw[hb]at e1 e2 hB
  have hcells:∀j x,l[j]?=some x->w.drew.cell? ((⟨b,0,none⟩:Addr).add j)=some (.int .u8 x.toNat):=λj x hx=>by
   obtain⟨c3,T3,fz3,k1,k2⟩:=hA.pub b pub hp
   have k1':w.drew.heap[b]?=some (.cells c3 T3 fz3):=k1
   have hj:j<(flat (l.map Uv)).length:=by rw[qjr];simpa using lt_of_getElem? hx
   have hy:pub[0+j]?=some (pub[0+j]'(by omega)):=Qc Om
   have hrj:=hr j (Uv x) _ (by rw[qjr];simp[hx]) hy
   have:pub[0+j]'(by omega)=.int .u8 x.toNat:=by
    generalize pub[0+j]'(by omega)=y at hrj
    cases hrj;rfl
   rw[this]at hy
   rw[Addr.add_lit]
   simp only[World.cell?,k1']
   simpa using k2 _ _ hy
  have hle:l.length<=c2.size:=by rw[e4,<-hcp];omega
  have e1':w.drew.heap[b]?=some (.cells c2 5 (0,0)):=e1
  have hUS:=Lib.run_unsafeString_row (P:=E.P) w.drew 181 3 9 5 rfl Kr b c2.size (by simp[World.shape?,e1']) l (by rintro rfl;exact hn0 rfl) hle (by simp only[maxLen]at hcm;omega) hcells
  have hSD:(Builtin.unsafeSliceData_ #[128] 181 #[.slice (some ⟨b,0,none⟩) l.length cap]).run E.P w.drew=.ok (.pointer (some ⟨b,0,none⟩)) w.drew:=Lib.run_unsafeSliceData_row _ _ _ _ _ _ Om
  refine(qpz Tryz.lays169 Tryz.Builder_Extra_169 (G.ob o).blk l.length cap (some ⟨b,0,none⟩) _ _ w _ hcell hSD hUS).mono ?_
  rintro e w' ⟨rfl,rfl⟩
  have hfz:∃fz',(w.drew.freeze ⟨b,0,none⟩ l.length).heap[b]?=some (.cells c2 5 fz'):=by
   unfold World.freeze
   rw[if_neg hn0]
   simp[Zt,e1']
  obtain⟨fz',hfz⟩:=hfz
  have hoth:∀k,k≠b->(w.drew.freeze ⟨b,0,none⟩ l.length).heap[k]?=w.drew.heap[k]?:=λk hk=>by
   unfold World.freeze
   rw[if_neg hn0]
   simp[Zt,Ne.symm hk]
  refine⟨_,G,Sv l,_,rfl,.refl G,hA1.refroze e1' hfz hoth hB (by unfold World.freeze;rw[if_neg hn0];simp) (by unfold World.freeze;rw[if_neg hn0]) (by unfold World.freeze;rw[if_neg hn0]) (by unfold World.freeze;rw[if_neg hn0]) (λk x hx hlv=>?_),.v _,rfl,rfl⟩
  rcases getElem?_set' _ _ _ _ _ hx with⟨_,e⟩|⟨k1,k2⟩
  .subst e;exact hlv.elim
  .have:=hA.sep k tp x _ k1 k2 ht hlv hn0
   rwa [hb]at this
end Go.Proofs.YtapblfabkbdgcaaGreatDoor
namespace Go.Proofs.YtapblfabkbdgcaaGreatDoor
open Go Go.Av Go.RowKit Go.Proofs Go.Pl
theorem ze0(l:List UInt8)(c:UInt8)(st:List AObj)(hl:l.length<4294967281):ql E 39 [Sv l,Sv [c]] st λr st'=>r=.tu [Sv (upto c l),Sv (past c l),Bv (decide (c∈l))]∧st'=st:=by
 have:=q3g l [c] st hl
 rw[zca]at this
 exact this
@[reducible] def qvo (k : Nat) (text rest : List UInt8) : AV := .ag [Iv k, Iv ((text.length : Int) - rest.length), Sv (upto 10 rest), Bv (decide (10 ∈ rest))]
theorem zea(text:List UInt8)(st st':List AObj)(n:Nat)(hn:st.length=n)(hst:st++[.cells 0 9 [Sv text]]=st'):ql E 82 [Sv text] st λr st1=>r=.fn (.func 120) [] [.bx n 0 0]∧st1=st':=by
 subst hn
 subst hst
 refine qy Tryz.func82 rfl (Qa rfl) ?_
 repeat' (first|apply qp|apply qj|apply qi|apply qk|apply qfn|(apply qdc;(iterate 4 exact rfl))|apply zg)
 exact qs rfl (zj rfl) ⟨rfl,rfl⟩
def qad(x:BitVec 32):BitVec 32:=if x&&& 2147483648#32≠0#32 then(x<<<1)^^^79764919#32 else x<<<1
def wa:Nat->BitVec 32->BitVec 32
 |0,x=>x
 |n+1,x=>qad (wa n x)
theorem zgp(x:BitVec 32)(st:List AObj):ql E 126 [Wv x] st λr st'=>r=Wv (wa 4 (x<<<28))∧st'=st:=by
 refine zr (qt _) (qy Tryz.func126 rfl (Qa rfl) ?_)
 repeat' (first|apply qp|apply q8|apply qj|apply qi|apply qm|apply qk|(apply qd2;(iterate 3 exact rfl)))
 refine ko (λ(k:Nat)s=>k<=4∧StA [(3,Wv (wa k (x<<<28))),(6,Iv k)] (st++[]) [] s) (λk=>4-k) 0 ⟨Om,jx ⟨rfl,rfl,trivial⟩⟩ ?_
 rintro k _ ⟨hk,t,rfl⟩
 repeat' (first|apply qp|apply q8|apply qj|apply qi|apply qm|apply qk|(apply qz;(iterate 3 exact rfl))|(apply qh;exact rfl;apply cd_d<;>intro h)|(apply ja;exact rfl;exact rfl;exact zp Om Om)|(apply qck;exact rfl;exact rfl;(first|exact ju _|exact rfl);first|exact ju _|exact rfl)|(apply qpj;exact rfl;exact rfl;(first|exact ju _|exact rfl);first|exact ju _|exact rfl)|(apply qd2;(iterate 3 exact rfl))|apply za|apply kh|apply zg)
 .refine⟨k+1,⟨Om,jx ⟨?_,rfl,trivial⟩⟩,Om⟩
  refine congrArg Wv (?_:_=qad _)
  unfold qad
  rw[if_pos (λe=>by rename_i h;exact h ((qrv _).2 e))]
  rfl
 .refine⟨k+1,⟨Om,jx ⟨?_,rfl,trivial⟩⟩,Om⟩
  refine congrArg Wv (?_:_=qad _)
  unfold qad
  rw[if_neg (λe=>by rename_i h;exact h (λh'=>e ((qrv _).1 h')))]
 .have e:k=4:=by omega
  subst e
  exact qs rfl (zj rfl) ⟨rfl,_,rfl⟩
def rowT(i:Nat):BitVec 32:=wa 4 (BitVec.ofNat 32 i<<<28)
def tabA(k:Nat):List AV:=(Zd 16).map λi=>if i<k then Wv (rowT i)else .v (.int .u32 0)
theorem q01(k:Nat):(tabA k).length=16:=by simp[tabA]
theorem q77{k:Nat}(h:k<16):(tabA k).set k (Wv (rowT k))=tabA (k+1):=by
 apply List.ext_getElem
 .simp[tabA]
 .intro i h1 h2
  simp only[tabA,Xh,List.length_range]at h2
  rw[List.getElem_set]
  by_cases e:k=i
  .subst e
   simp[tabA]
  .rw[if_neg e]
   simp only[tabA,List.getElem_map,List.getElem_range]
   by_cases hi:i<k
   .rw[if_pos hi,if_pos Om]
   .rw[if_neg hi,if_neg Om]
theorem za2{i:Nat}(h:i<16):(tabA 16)[i]?=some (Wv (rowT i)):=by
 simp[tabA,h]
theorem zf3(st:List AObj):ql E 85 [] st λr st'=>r=.ag (tabA 16)∧st'=st:=by
 refine zr (qmx (λx hx=>?_)) (qy Tryz.func85 rfl (Qa rfl) ?_)
 .simp only[tabA,Zm]at hx
  obtain⟨i,_,rfl⟩:=hx
  split <;>exact qt _
 repeat' (first|apply qp|apply q8|apply qj|apply qi|apply qm|(apply wh;exact rfl;exact rfl))
 refine ko (λ(k:Nat)s=>k<=16∧StA [(0,.bx (st.length+0) 0 0),(2,Iv k)] (st++[.cells 0 167 (tabA k)]) [] s) (λk=>16-k) 0 ⟨Om,qcx ⟨rfl,rfl,trivial⟩ (by show st++[AObj.cells 0 _ _]=_;rfl)⟩ ?_
 rintro k _ ⟨hk,t,rfl⟩
 have hlen:=q01 k
 repeat' (first|apply qp|apply q8|apply qj|apply qi|apply qm|apply qk|(apply qz;(iterate 3 exact rfl))|(apply qh;exact rfl;apply cd_d<;>intro h)|(apply ja;exact rfl;exact rfl;exact zp Om Om)|(apply kw;(iterate 5 exact rfl))|(apply qbq;(iterate 4 exact rfl);first|assumption|omega|decide)|apply za|apply kh|(apply zf;exact Tryz.call126;exact zgp _ _)|(apply qpm;(iterate 3 exact rfl);omega)|(apply qr6;(iterate 9 exact rfl);(show 0+k*1+1<=_;omega);exact rfl))
 .refine⟨k+1,⟨Om,qcx ⟨rfl,rfl,trivial⟩ ?_⟩,Om⟩
  show st++[AObj.cells 0 _ (zt (tabA k) (0+k*1) [Wv (rowT k)])]=_
  rw[Zn,Xl,q4q Om,q77 Om]
 .have e:k=16:=by omega
  subst e
  repeat' (first|apply qi|(apply vf;(iterate 11 exact rfl))|apply zg)
  exact qs rfl (qr7 rfl rfl rfl rfl rfl rfl) ⟨rfl,_,rfl⟩
def crcN(x:BitVec 32)(n:Nat):BitVec 32:=(x<<<4)^^^rowT ((x>>>28)^^^BitVec.ofNat 32 n).toNat
def crcP(x:BitVec 32)(c:UInt8):BitVec 32:=crcN (crcN x (c.toNat / 16)) (c.toNat%16)
def addP(s:BitVec 32)(l:List UInt8):BitVec 32:= ~~~ (l.foldl crcP (~~~ s))
def qvv(y:BitVec 32)(c:UInt8):Nat->BitVec 32
 |0=>y
 |1=>crcN y (c.toNat / 16)
 |_=>crcP y c
theorem q6w(x:BitVec 32){n:Nat}(h:n<16):((x>>>28)^^^BitVec.ofNat 32 n).toNat<16:=by
 rw[BitVec.toNat_xor]
 refine Nat.xor_lt_two_pow (n:=4) ?_ ?_
 .rw[BitVec.toNat_ushiftRight,Ze]
  have:=x.isLt
  omega
 .rw[BitVec.toNat_ofNat]
  omega
theorem qy9{n:Nat}(h:n<16):ka 1 false (0+n*1) (tabA 16)=some (Wv (rowT n)):=by
 rw[Zn,Xl]
 exact za2 h
theorem zge(x:BitVec 32)(l:List UInt8)(st:List AObj)(hl:l.length<4294967281):ql E 50 [Wv x,Sv l] st λr st'=>r=Wv (addP x l)∧st'=st:=by
 refine zr (qt _) (qy Tryz.func50 rfl (Qa rfl) ?_)
 repeat' (first|apply qp|apply q8|apply qj|apply qi|apply qm|apply qk|(apply vb;(iterate 3 exact rfl))|(apply wh;exact rfl;exact rfl)|(apply vf;(iterate 11 exact rfl))|(apply qgq;exact rfl)|(apply zf;exact Tryz.call85;exact zf3 _))
 refine ko (λ(k:Nat)s=>k<=l.length∧StA [(1,Sv l),(5,.bx (st.length+0) 0 0),(6,Wv ((l.take k).foldl crcP (~~~ x))),(14,Iv l.length),(15,Iv k)] (st++[.cells 0 167 (tabA 16)]) [] s) (λk=>l.length-k) 0 ⟨Om,qcx ⟨rfl,rfl,rfl,rfl,rfl,trivial⟩ (by show st++[AObj.cells 0 _ _]=_;rfl)⟩ ?_
 rintro k _ ⟨hk,t,rfl⟩
 generalize hx:(l.take k).foldl crcP (~~~ x)=y
 have hc:=UInt8.toNat_lt (l.getD k 0)
 repeat' (first|apply qp|apply q8|apply qj|apply qi|apply qm|apply qk|(apply qz;(iterate 3 exact rfl))|(apply qh;exact rfl;apply cd_d<;>intro h)|(apply qgq;exact rfl)|(apply qjk;exact rfl;kernel_rfl)|apply qgs|(apply q5i;(iterate 3 exact rfl);exact cAs)|(apply q1e;exact rfl;exact rfl)|(apply qwk;exact rfl;exact rfl)|(apply qwl;(iterate 3 exact rfl);omega)|(apply qs9;(iterate 3 exact rfl))|apply qei|apply za|apply kh|apply zg)
 .generalize hcc:l.getD k 0=c at *
  refine ko (λ(j:Nat)s=>j<=2∧StA [(1,Sv l),(5,.bx (st.length+0) 0 0),(6,Wv (qvv y c j)),(14,Iv l.length),(15,Iv k),(28,.ag [Wv (BitVec.ofNat 32 (c.toNat / 16)),Wv (BitVec.ofNat 32 (c.toNat%16))]),(29,Iv j)] (st++[.cells 0 167 (tabA 16)]) [] s) (λj=>2-j) 0 ⟨Om,qcx ⟨rfl,rfl,rfl,rfl,rfl,rfl,rfl,trivial⟩ rfl⟩ ?_
  rintro j _ ⟨hj,t2,rfl⟩
  have hj3:j=0∨j=1∨j=2:=Om
  have hn1:=q6w (qvv y c j) (n:=c.toNat / 16) Om
  have hn2:=q6w (qvv y c j) (n:=c.toNat%16) Om
  generalize hz:qvv y c j=z at hn1 hn2⊢
  rcases hj3 with rfl|rfl|rfl
  .skip
   repeat' (first|apply qp|apply q8|apply qj|apply qi|apply qm|apply qk|(apply qz;(iterate 3 exact rfl))|(apply qh;exact rfl;apply xc;exact cAo)|(apply ja;exact rfl;exact rfl;exact zp Om Om)|(apply qck;exact rfl;exact rfl;(first|exact ju _|exact rfl);first|exact ju _|exact rfl)|(apply qd2;(iterate 3 exact rfl))|(apply qjj;(iterate 3 exact rfl))|(apply qik;(iterate 4 exact rfl);(first|assumption|omega|decide);exact rfl)|(apply qbq;(iterate 4 exact rfl);first|assumption|omega|decide)|apply za|(apply kw;(iterate 4 exact rfl);exact qy9 hn1))
   subst hz
   exact⟨1,⟨Om,qcx ⟨rfl,rfl,rfl,rfl,rfl,rfl,rfl,trivial⟩ rfl⟩,Om⟩
  .skip
   repeat' (first|apply qp|apply q8|apply qj|apply qi|apply qm|apply qk|(apply qz;(iterate 3 exact rfl))|(apply qh;exact rfl;apply xc;exact cAo)|(apply ja;exact rfl;exact rfl;exact zp Om Om)|(apply qck;exact rfl;exact rfl;(first|exact ju _|exact rfl);first|exact ju _|exact rfl)|(apply qd2;(iterate 3 exact rfl))|(apply qjj;(iterate 3 exact rfl))|(apply qik;(iterate 4 exact rfl);(first|assumption|omega|decide);exact rfl)|(apply qbq;(iterate 4 exact rfl);first|assumption|omega|decide)|apply za|(apply kw;(iterate 4 exact rfl);exact qy9 hn2))
   subst hz
   exact⟨2,⟨Om,qcx ⟨rfl,rfl,rfl,rfl,rfl,rfl,rfl,trivial⟩ rfl⟩,Om⟩
  .skip
   repeat' (first|apply qp|apply qj|apply qi|apply qm|(apply qz;(iterate 3 exact rfl))|(apply qh;exact rfl;apply yi;exact cAo)|(apply ja;exact rfl;exact rfl;exact zp Om Om)|apply kh)
   subst hz
   refine⟨k+1,⟨Om,qcx ⟨rfl,rfl,?_,rfl,rfl,trivial⟩ rfl⟩,Om⟩
   refine congrArg Wv (?_:crcP y c=_)
   rw[qce Om,Xc,hx,hcc]
   rfl
 .have e:k=l.length:=by omega
  subst e
  refine qs rfl (zj rfl) ⟨congrArg Wv (?_:_=_),_,rfl⟩
  unfold addP
  rw[<-hx,Qr]
theorem qru(l:List UInt8)(st:List AObj)(hl:l.length<4294967281):ql E 26 [.sl 1 [Sv l] none] st λr st'=>r=Wv (addP 0 l)∧st'=st:=by
 refine zr (qt _) (qy Tryz.func26 rfl (Qa rfl) ?_)
 repeat' (first|apply qp|apply q8|apply qj|apply qi|apply qm|apply qk|(apply js;(iterate 4 exact rfl)))
 refine ko (λ(k:Nat)s=>k<=1∧StA [(3,Wv (if k=0 then 0 else addP 0 l)),(6,.sl 1 [Sv l] none),(7,Iv 1),(8,Iv k)] (st++[]) [] s) (λk=>1-k) 0 ⟨Om,qcx ⟨rfl,rfl,rfl,rfl,trivial⟩ rfl⟩ ?_
 rintro k _ ⟨hk,t,rfl⟩
 have hk2:k=0∨k=1:=Om
 rcases hk2 with rfl|rfl
 .skip
  repeat' (first|apply qp|apply q8|apply qj|apply qi|apply qm|apply qk|(apply qz;(iterate 3 exact rfl))|(apply qh;exact rfl;apply xc;exact cAo)|(apply ja;exact rfl;exact rfl;exact zp Om Om)|(apply kg;(iterate 3 exact rfl))|apply za|(apply wi;(iterate 4 exact rfl);exact(rfl:(0:Int)=((0:Nat):Int));exact rfl)|(apply zf;exact Tryz.call50;exact zge 0 _ _ hl))
  exact⟨1,⟨Om,qcx ⟨rfl,rfl,rfl,rfl,trivial⟩ rfl⟩,Om⟩
 .skip
  repeat' (first|apply qp|apply qj|apply qi|apply qm|apply qk|(apply qz;(iterate 3 exact rfl))|(apply qh;exact rfl;apply yi;exact cAo)|apply kh|apply zg)
  exact qs rfl (zj rfl) ⟨rfl,_,rfl⟩
def figP(s:BitVec 32)(j:Nat):UInt8:=[48,49,50,51,52,53,54,55,56,57,97,98,99,100,101,102].getD ((s>>>(4*(7-j)))&&& BitVec.ofInt 32 15).toNat 0
def q3r(s:BitVec 32)(n:Nat):List UInt8:=(Zd n).map (figP s)
def sumF(l:List UInt8):List UInt8:=q3r (addP 0 l) 8
def q1j(rest body sums:List UInt8)(size:Int):Int×List UInt8×Int:=
 if rest.length<(qgd body.length).length∧rest<+:qgd body.length then(2,[],0)
 else if qgd body.length<+:rest∧sums=sumF body then(1,body,size)else(3,[],0)
def qaj(l:List UInt8):Int×List UInt8×Int:=
 if 10∈l then
  if(ww (upto 10 l)).2.2=true then
   if(past 10 l).length<(ww (upto 10 l)).1 then(qmv (past 10 l) ((ww (upto 10 l)).1-(past 10 l).length),[],0)
   else if qez ((past 10 l).take (ww (upto 10 l)).1)then q1j ((past 10 l).drop (ww (upto 10 l)).1) ((past 10 l).take (ww (upto 10 l)).1) (ww (upto 10 l)).2.1 (zc9 (ww (upto 10 l)).1)
   else(3,[],0)
  else(3,[],0)
 else if qha l=true then(2,[],0)else(3,[],0)
def recF(l:List UInt8):List UInt8:=qvn l.length (sumF l)++l++qgd l.length
def qqt(c:UInt8):Bool:=decide (48<=c.toNat∧c.toNat<=57)
end Go.Proofs.YtapblfabkbdgcaaGreatDoor
namespace Go.Pl
open Go
theorem wr:∀(n u:Nat),u<=n->∀c∈Lib.decDigits u,48<=c.toNat∧c.toNat<=57
 |n,u,hn,c,hc=>by
  by_cases h:u<10
  .rw[Lib.decDigits_one h]at hc
   simp only[Qj]at hc
   subst hc
   rw[UInt8.toNat_ofNat']
   omega
  .rw[qbh h,Qo]at hc
   cases n with
   |zero=>omega
   |succ n=>
    rcases hc with hc|hc
    .exact wr n (u / 10) Om c hc
    .exact wr n (u%10) Om c hc
theorem qfq(u:Nat):1<=(Lib.decDigits u).length:=by
 rw[Lib.decDigits_length]
 exact Lib.nDigits_pos u
theorem qjw{v:Int}(h:v<0):Lib.itoa v=45::Lib.decDigits v.natAbs:=by
 unfold Lib.itoa
 rw[if_pos h]
theorem qjx{v:Int}(h:0<=v):Lib.itoa v=Lib.decDigits v.toNat:=by
 unfold Lib.itoa
 rw[if_neg Om]
theorem que:∀(a:Nat)(l m:qd)(b:Nat),Lib.parseUint10 a l=.ok b->Lib.parseUint10 a (l++m)=Lib.parseUint10 b m
 |a,[],m,b,h=>by
  simp only[Lib.parseUint10,Lib.NumEnd.ok.injEq]at h
  subst h;rfl
 |a,c::l,m,b,h=>by
  simp only[Qn,Lib.parseUint10]at h⊢
  split at h
  .rename_i hd
   rw[if_pos hd]
   split at h
   .cases h
   .rename_i h1
    rw[if_neg h1]
    split at h
    .cases h
    .rename_i h2
     rw[if_neg h2]
     exact que _ l m b h
  .cases h
theorem qj6:∀(n u:Nat),u<=n->u<=9223372036854775808->Lib.parseUint10 0 (Lib.decDigits u)=.ok u
 |n,u,hn,hu=>by
  have key:∀(a d:Nat),a<=922337203685477580->d<10->Lib.parseUint10 a (Lib.decDigits d)=.ok (a*10+d):=by
   intro a d ha hd
   have e:(UInt8.ofNat (48+d)).toNat=48+d:=by rw[UInt8.toNat_ofNat'];omega
   rw[Lib.decDigits_one hd]
   simp only[Lib.parseUint10,e]
   rw[if_pos Om,if_neg Om,if_neg Om]
   congr 1
   omega
  by_cases h:u<10
  .have:=key 0 u Om h
   simpa using this
  .cases n with
   |zero=>omega
   |succ n=>
    rw[qbh h,que 0 _ _ (u / 10) (qj6 n (u / 10) Om Om),key _ _ Om Om]
    congr 1
    omega
theorem q20{v:Int}(h1: -9223372036854775808<=v)(h2:v<=9223372036854775807):Lib.atoiAll (Lib.itoa v)=.ok v:=by
 by_cases h:v<0
 .have hp:=qj6 v.natAbs v.natAbs (Qd _) Om
  rw[qjw h]
  have hm:Lib.parseMag (Lib.decDigits v.natAbs)=.ok v.natAbs:=by
   unfold Lib.parseMag
   rw[if_neg (λe=>by have:=qfq v.natAbs;rw[e]at this;simp at this)]
   exact hp
  have e45:(45:UInt8).toNat=45:=rfl
  simp only[Lib.atoiAll,e45]
  rw[if_pos (Or.inr trivial),hm]
  simp only[not_true,false_and,if_false,true_and]
  rw[if_neg Om]
  simp only[if_true]
  congr 1
  omega
 .have hp:=qj6 v.toNat v.toNat (Qd _) Om
  have hd:=wr v.toNat v.toNat (Qd _)
  rw[qjx Om]
  cases hl:Lib.decDigits v.toNat with
  |nil=>have:=qfq v.toNat;rw[hl]at this;simp at this
  |cons c r=>
   rw[hl]at hp hd
   have hc:=hd c Sx
   simp only[Lib.atoiAll]
   have g1:¬(c.toNat=43∨c.toNat=45):=Om
   rw[if_neg g1]
   have hm:Lib.parseMag (c::r)=.ok v.toNat:=by unfold Lib.parseMag;rw[if_neg Sx];exact hp
   rw[hm]
   have g2:¬c.toNat=45:=Om
   simp only[g2,not_false_iff,true_and,false_and,if_false]
   rw[if_neg Om]
   congr 1
   omega
def numZ(l:qd):Option Int:=
 match Lib.atoiAll l with
 |.ok v=>if Lib.itoa v=l then some v else none
 |_=>none
theorem q6y{v:Int}(h1: -9223372036854775808<=v)(h2:v<=9223372036854775807):numZ (Lib.itoa v)=some v:=by
 unfold numZ
 rw[q20 h1 h2]
 simp
theorem q6z{l:qd}{v:Int}(h:numZ l=some v):l=Lib.itoa v∧-9223372036854775808<=v∧v<=9223372036854775807:=by
 unfold numZ at h
 split at h
 .rename_i u hu
  split at h
  .rename_i he
   simp only[Ql]at h
   subst h
   exact⟨he.symm,qsa hu⟩
  .simp at h
 .simp at h
end Go.Pl
namespace Go.Proofs.YtapblfabkbdgcaaGreatDoor
open Go Go.Av Go.RowKit Go.Proofs Go.Pl
theorem q6l{l:qd}{v:Int}(h:l=Lib.itoa v):(v<0->(l.getD 0 0).toNat=45∧l.drop 1=Lib.decDigits v.natAbs)∧(0<=v->(l.getD 0 0).toNat≠45∧l=Lib.decDigits v.toNat):=by
 subst h
 refine⟨λh=>?_,λh=>?_⟩
 .rw[qjw h];exact⟨rfl,rfl⟩
 .rw[qjx h]
  refine⟨?_,rfl⟩
  have hp:=qfq v.toNat
  have hd:=wr v.toNat v.toNat (Qd _)
  cases hl:Lib.decDigits v.toNat with
  |nil=>rw[hl]at hp;simp at hp
  |cons c r=>
   rw[hl]at hd
   have:=hd c Sx
   simp
   omega
def sgn(l:qd):Nat:=if(l.getD 0 0).toNat=45 then 1 else 0
theorem qnq{l:qd}{v:Int}(h:l=Lib.itoa v):l.drop (sgn l)=Lib.decDigits v.natAbs:=by
 obtain⟨h1,h2⟩:=q6l h
 unfold sgn
 by_cases hv:v<0
 .obtain⟨a,b⟩:=h1 hv
  rw[if_pos a,b]
 .obtain⟨a,b⟩:=h2 Om
  rw[if_neg a,List.drop_zero,show v.natAbs=v.toNat by omega]
  exact b
theorem qvl(x:BitVec 32):x&&& 2147483648#32≠0#32↔x.toNat / 2147483648=1:=by
 have e:2147483648#32=BitVec.twoPow 32 31:=by decide
 have h:=x.isLt
 rw[e,BitVec.and_twoPow,BitVec.getLsbD,Nat.testBit_eq_decide_div_mod_eq]
 by_cases hb:x.toNat / 2^31%2=1
 .simp only[hb,decide_true,if_true]
  constructor
  .intro _;omega
  .intro _;decide
 .simp only[hb,decide_false]
  constructor
  .intro h';exact absurd rfl h'
  .intro h';omega
theorem q33(x:BitVec 32):x.msb=true↔x.toNat / 2147483648=1:=by
 rw[BitVec.msb_eq_decide]
 have h:=x.isLt
 simp
 omega
theorem qhv(x:BitVec 32):qad x=(x<<<1)^^^(if x.msb then 79764919#32 else 0#32):=by
 unfold qad
 by_cases h:x.msb=true
 .rw[if_pos ((qvl x).2 ((q33 x).1 h)),if_pos h]
 .rw[if_neg (λh'=>h ((q33 x).2 ((qvl x).1 h'))),if_neg h,BitVec.xor_zero]
theorem q3f(a b:BitVec 32):qad (a^^^b)=qad a^^^qad b:=by
 rw[qhv,qhv,qhv,BitVec.msb_xor,BitVec.shiftLeft_xor_distrib]
 cases a.msb<;>cases b.msb<;>simp only[Bool.xor_false,Bool.xor_true,Bool.not_true,Bool.not_false,Qz,if_true,if_false,BitVec.xor_zero]
 .rw[BitVec.xor_assoc]
 .rw[BitVec.xor_assoc,BitVec.xor_comm (b<<<1),BitVec.xor_assoc]
 .rw[BitVec.xor_assoc (a<<<1),BitVec.xor_comm 79764919#32,BitVec.xor_assoc (b<<<1),BitVec.xor_self,BitVec.xor_zero]
theorem qnj(n:Nat)(a b:BitVec 32):wa n (a^^^b)=wa n a^^^wa n b:=by
 induction n with
 |zero=>rfl
 |succ n ih=>simp only[wa,ih,q3f]
theorem qim:∀(n:Nat)(x:BitVec 32),n<=31->x.toNat<2^(32-n)->wa n x=x<<<n
 |0,x,_,_=>by simp[wa]
 |n+1,x,hn,h=>by
  have hp:2^(32-n)=2*2^(32-(n+1)):=by rw[show 32-n=(32-(n+1))+1 by omega,Nat.pow_succ,Xk]
  simp only[wa]
  rw[qim n x Om Om,qhv]
  have hm:(x<<<n).msb=false:=by
   cases hb:(x<<<n).msb with
   |false=>rfl
   |true=>
    have h1:=(q33 _).1 hb
    have h2:(x<<<n).toNat<2147483648:=by
     rw[BitVec.toNat_shiftLeft,Zl]
     refine Qs (Xo _ _) ?_
     have h3:x.toNat*2^n<2^(32-(n+1))*2^n:=Nat.mul_lt_mul_of_pos_right h (Nat.two_pow_pos n)
     rw[<-Nat.pow_add,show 32-(n+1)+n=31 by omega]at h3
     exact h3
    omega
  rw[hm]
  simp only[Qz,if_false,BitVec.xor_zero]
  rw[<-BitVec.shiftLeft_add]
theorem zd9(x:BitVec 32):x=((x>>>28)<<<28)^^^((x.setWidth 28).setWidth 32):=by
 apply BitVec.eq_of_getLsbD_eq
 intro i hi
 simp only[BitVec.getLsbD_xor,BitVec.getLsbD_shiftLeft,BitVec.getLsbD_ushiftRight,BitVec.getLsbD_setWidth]
 by_cases h:i<28
 .simp[h,hi]
 .simp[h,hi,show 28+(i-28)=i by omega]
theorem qti(x:BitVec 32)(n:Nat):crcN x n=wa 4 (x^^^(BitVec.ofNat 32 n<<<28)):=by
 have hl:((x.setWidth 28).setWidth 32).toNat<2^(32-4):=by
  simp only[BitVec.toNat_setWidth]
  exact Qs (Xo _ _) (Zy _ (by decide))
 have hs:((x.setWidth 28).setWidth 32)<<<4=x<<<4:=by
  apply BitVec.eq_of_getLsbD_eq
  intro i hi
  simp only[BitVec.getLsbD_shiftLeft,BitVec.getLsbD_setWidth]
  by_cases h:i<4
  .simp[h]
  .simp[h,hi,show i-4<28 by omega,show i-4<32 by omega]
 have e:x^^^(BitVec.ofNat 32 n<<<28)=(((x>>>28)^^^BitVec.ofNat 32 n)<<<28)^^^((x.setWidth 28).setWidth 32):=by
  rw[BitVec.shiftLeft_xor_distrib,BitVec.xor_assoc,BitVec.xor_comm (BitVec.ofNat 32 n<<<28),<-BitVec.xor_assoc,<-zd9 x]
 rw[e,qnj,qim 4 _ Om hl,hs,crcN,rowT,BitVec.ofNat_toNat,BitVec.setWidth_eq,BitVec.xor_comm]
theorem qz0(m n:Nat)(x:BitVec 32):wa (m+n) x=wa m (wa n x):=by
 induction m with
 |zero=>simp[wa]
 |succ m ih=>rw[Nat.succ_add];simp only[wa,ih]
theorem qzw(c:UInt8):BitVec.ofNat 32 c.toNat<<<24=(BitVec.ofNat 32 (c.toNat / 16)<<<28)^^^(BitVec.ofNat 32 (c.toNat%16)<<<24):=by
 have key:∀n:Fin 256,BitVec.ofNat 32 n.val<<<24=(BitVec.ofNat 32 (n.val / 16)<<<28)^^^(BitVec.ofNat 32 (n.val%16)<<<24):=by decide +kernel
 exact key ⟨c.toNat,UInt8.toNat_lt c⟩
theorem q54(x:BitVec 32)(c:UInt8):crcP x c=wa 8 (x^^^(BitVec.ofNat 32 c.toNat<<<24)):=by
 have hl:(BitVec.ofNat 32 (c.toNat%16)<<<24).toNat<2^(32-4):=by
  have key:∀n:Fin 16,(BitVec.ofNat 32 n.val<<<24).toNat<2^(32-4):=by decide +kernel
  exact key ⟨c.toNat%16,Zy _ (by decide)⟩
 rw[show(8:Nat)=4+4 by rfl,qz0,qzw,<-BitVec.xor_assoc,qnj 4 (x^^^_),qim 4 _ Om hl,<-BitVec.shiftLeft_add,crcP,qti,qti]
theorem qup(x:BitVec 32):IntKind.u32.wrap (4294967295-(x.toNat:Int))=((~~~x).toNat:Int):=by
 have h:=x.isLt
 have e:(4294967295-(x.toNat:Int))=(((~~~x).toNat:Nat):Int):=by rw[BitVec.toNat_not];omega
 rw[e]
 exact qeg _
theorem q1z(x:BitVec 32)(k n:Nat)(m:Int)(hm:m=((2^n:Nat):Int)):IntKind.u32.wrap ((x.toNat:Int)*m)=((x<<<n).toNat:Int):=by
 rw[hm,<-Int.natCast_mul,qex,BitVec.toNat_shiftLeft,Zl]
theorem zaj(x:BitVec 32)(l:List UInt8)(st:List AObj)(hl:l.length<4294967281):ql E 47 [Wv x,Sv l] st λr st'=>r=Wv (addP x l)∧st'=st:=by
 refine zr (qt _) (qy Tryz.func47 rfl (Qa rfl) ?_)
 repeat' (first|apply qp|apply q8|apply qj|apply qi|apply qm|apply qk|(apply qeh;exact rfl;exact rfl;exact qup _))
 refine ko (λ(k:Nat)s=>k<=l.length∧StA [(1,Sv l),(5,Wv ((l.take k).foldl crcP (~~~ x))),(6,Iv k)] (st++[]) [] s) (λk=>l.length-k) 0 ⟨Om,jx ⟨rfl,rfl,rfl,trivial⟩⟩ ?_
 rintro k _ ⟨hk,t,rfl⟩
 generalize hx:(l.take k).foldl crcP (~~~ x)=y
 have hc:=UInt8.toNat_lt (l.getD k 0)
 repeat' (first|apply qp|apply q8|apply qj|apply qi|apply qm|apply qk|(apply qz;(iterate 3 exact rfl))|(apply qh;exact rfl;apply cd_d<;>intro h)|(apply vb;(iterate 3 exact rfl))|(apply yr;(iterate 3 exact rfl);exact cAs)|(apply qck;exact rfl;exact rfl;(first|exact ju _|exact rfl);first|exact ju _|exact rfl)|apply za|apply kh|apply zg|(apply qpm;(iterate 3 exact rfl);omega)|(apply qn9;exact rfl;exact rfl;exact q1z _ 0 24 _ rfl)|(apply qeh;exact rfl;exact rfl;exact qup _))
 .generalize hcc:l.getD k 0=c at *
  generalize hz:y^^^(BitVec.ofNat 32 c.toNat<<<24)=z
  refine ko (λ(j:Nat)s=>j<=8∧StA [(1,Sv l),(5,Wv (wa j z)),(6,Iv k),(7,Iv j)] (st++[]) [] s) (λj=>8-j) 0 ⟨Om,jx ⟨rfl,rfl,rfl,rfl,trivial⟩⟩ ?_
  rintro j _ ⟨hj,t2,rfl⟩
  generalize hq:wa j z=q
  have hql:=q.isLt
  repeat' (first|apply qp|apply q8|apply qj|apply qi|apply qm|apply qk|(apply qz;(iterate 3 exact rfl))|(apply qh;exact rfl;apply cd_d<;>intro h)|(apply ja;exact rfl;exact rfl;exact zp Om Om)|(apply qck;exact rfl;exact rfl;(first|exact ju _|exact rfl);first|exact ju _|exact rfl)|apply za|apply kh|(apply q5h (n:=2147483648);exact rfl;exact rfl;omega;exact zeo Om)|(apply qn9;exact rfl;exact rfl;exact q1z _ 0 1 _ rfl))
  .refine⟨j+1,⟨Om,jx ⟨rfl,?_,rfl,rfl,trivial⟩⟩,Om⟩
   refine congrArg Wv (?_:_=qad _)
   rw[hq]
   unfold qad
   rw[if_pos ((qvl q).2 Om)]
   rfl
  .refine⟨j+1,⟨Om,jx ⟨rfl,?_,rfl,rfl,trivial⟩⟩,Om⟩
   refine congrArg Wv (?_:_=qad _)
   rw[hq]
   unfold qad
   rw[if_neg (λh'=>absurd ((qvl q).1 h') Om)]
  .have e:j=8:=by omega
   subst e
   refine⟨k+1,⟨Om,jx ⟨rfl,?_,rfl,trivial⟩⟩,Om⟩
   refine congrArg Wv (?_:q=_)
   rw[qce Om,Xc,hx,hcc]
   show q=crcP y c
   rw[q54,hz,hq]
 .have e:k=l.length:=by omega
  subst e
  refine qs rfl (zj rfl) ⟨congrArg Wv (?_:_=_),_,rfl⟩
  unfold addP
  rw[<-hx,Qr]
theorem qhf(l:List UInt8)(st:List AObj)(hl:l.length<4294967281):ql E 22 [Sv l] st λr st'=>r=Wv (addP 0 l)∧st'=st:=by
 refine zr (qt _) (qy Tryz.func22 rfl (Qa rfl) ?_)
 repeat' (first|apply qp|apply qj|apply qi|apply qm|apply qk|apply zg|(apply zf;exact Tryz.call47;exact zaj 0 _ _ hl))
 exact qs rfl (zj rfl) ⟨rfl,_,rfl⟩
end Go.Proofs.YtapblfabkbdgcaaGreatDoor
namespace Go.Pl
open Go
def sp:Bool->qd->Bool
 |_,[]=>true
 |f,c::l=>(!f||decide (c=32))&&sp (decide (c=10)) l
theorem qkx:∀l,sp false l=sp true (past 10 l)
 | []=>rfl
 |c::l=>by
  by_cases h:c=10
  .subst h;simp[sp,past,upto]
  .have e:past 10 (c::l)=past 10 l:=by simp[past,upto,h]
   rw[e,<-qkx l]
   simp[sp,h]
theorem qy5{l:qd}(h:l≠[]):sp true l=(decide ([32]<+:upto 10 l)&&sp true (past 10 l)):=by
 cases l with
 |nil=>exact absurd rfl h
 |cons c r=>
  by_cases hc:c=10
  .subst hc;simp[sp,upto]
  .have e:past 10 (c::r)=past 10 r:=by simp[past,upto,hc]
   have e2:upto 10 (c::r)=c::upto 10 r:=by simp[upto,hc]
   rw[e,e2,<-qkx]
   simp[sp,hc,eq_comm]
theorem qjz:∀(n:Nat)(l:qd),l.length<=n->((∀x∈zy l,[32]<+:x.1)↔sp true l=true)
 |0,l,h=>by
  have:l=[]:=Qh.1 Om
  subst this
  simp[vm,sp]
 |n+1,l,h=>by
  by_cases hl:l=[]
  .subst hl;simp[vm,sp]
  .rw[wz hl,qy5 hl,Xe,<-qjz n (past 10 l) (by have:=wx (c:=10) hl;omega)]
   simp only[Zc,forall_eq_or_imp,decide_eq_true_eq]
theorem qhw(l:qd):(qa6 [32] l).2=sp true l:=by
 unfold qa6
 by_cases h:sp true l=true
 .rw[if_pos ((qjz _ l (Qd _)).2 h),h]
 .rw[if_neg (λh'=>h ((qjz _ l (Qd _)).1 h'))]
  simp only[Bool.not_eq_true]at h
  rw[h]
def qh1(f:Bool)(l:qd):Bool:=match l.getLast? with|none=>f|some c=>decide (c=10)
theorem q3o(f:Bool)(c:UInt8)(l:qd):qh1 f (c::l)=qh1 (decide (c=10)) l:=by
 cases l with
 |nil=>simp[qh1]
 |cons b l=>
  unfold qh1
  rw[List.getLast?_cons_cons]
  cases hb:(b::l).getLast? with
  |none=>simp at hb
  |some x=>rfl
theorem qy4:∀(f:Bool)(l m:qd),sp f (l++m)=(sp f l&&sp (qh1 f l) m)
 |f,[],m=>by simp[sp,qh1]
 |f,c::l,m=>by
  simp only[Qn,sp]
  rw[qy4 _ l m,q3o,Bool.and_assoc]
theorem qt0(l:qd):qez l↔2<=l.length∧l.length<=50000∧l.getLast?=some 10∧sp true l=true:=by
 unfold qez
 rw[qhw]
theorem qc9:∀(n u:Nat),u<=n->∀c∈Lib.decDigits u,48<=c.toNat∧c.toNat<=57
 |n,u,hn,c,hc=>by
  by_cases h:u<10
  .rw[Lib.decDigits_one h]at hc
   simp only[Qj]at hc
   subst hc
   rw[UInt8.toNat_ofNat']
   omega
  .rw[qbh h,Qo]at hc
   cases n with
   |zero=>omega
   |succ n=>
    rcases hc with hc|hc
    .exact qc9 n (u / 10) Om c hc
    .exact qc9 n (u%10) Om c hc
theorem qjv(n:Nat):Lib.itoa (n:Int)=Lib.decDigits n:=by
 unfold Lib.itoa
 rw[if_neg Om]
 simp
theorem q9r(n:Nat):∀c∈Lib.itoa (n:Int),48<=c.toNat∧c.toNat<=57:=by
 rw[qjv]
 exact qc9 n n (Qd _)
theorem qwv(u:Nat):Lib.decDigits u≠[]:=by
 intro h
 have:=congrArg Xd h
 rw[Lib.decDigits_length]at this
 have:=Lib.nDigits_pos u
 simp at *
 omega
theorem qud:∀(a:Nat)(l m:qd)(b:Nat),Lib.parseUint10 a l=.ok b->Lib.parseUint10 a (l++m)=Lib.parseUint10 b m
 |a,[],m,b,h=>by
  simp only[Lib.parseUint10,Lib.NumEnd.ok.injEq]at h
  subst h;rfl
 |a,c::l,m,b,h=>by
  simp only[Qn,Lib.parseUint10]at h⊢
  split at h
  .rename_i hd
   rw[if_pos hd]
   split at h
   .cases h
   .rename_i h1
    rw[if_neg h1]
    split at h
    .cases h
    .rename_i h2
     rw[if_neg h2]
     exact qud _ l m b h
  .cases h
theorem quf:∀(n u:Nat),u<=n->u<1000000000000000000->Lib.parseUint10 0 (Lib.decDigits u)=.ok u
 |n,u,hn,hu=>by
  have key:∀(a d:Nat),a<100000000000000000->d<10->Lib.parseUint10 a (Lib.decDigits d)=.ok (a*10+d):=by
   intro a d ha hd
   have e:(UInt8.ofNat (48+d)).toNat=48+d:=by rw[UInt8.toNat_ofNat'];omega
   rw[Lib.decDigits_one hd]
   simp only[Lib.parseUint10,e]
   rw[if_pos Om,if_neg Om,if_neg Om]
   congr 1
   omega
  by_cases h:u<10
  .have:=key 0 u Om h
   simpa using this
  .cases n with
   |zero=>omega
   |succ n=>
    rw[qbh h,qud 0 _ _ (u / 10) (quf n (u / 10) Om Om),key _ _ Om Om]
    congr 1
    omega
theorem q5o{n:Nat}(h:n<1000000000000000000):Lib.atoiAll (Lib.itoa (n:Int))=.ok (n:Int):=by
 have hp:=quf n n (Qd _) h
 have hd:=qc9 n n (Qd _)
 rw[qjv]
 cases hl:Lib.decDigits n with
 |nil=>exact absurd hl (qwv n)
 |cons c r=>
  rw[hl]at hp hd
  have hc:=hd c Sx
  simp only[Lib.atoiAll]
  have h1:¬(c.toNat=43∨c.toNat=45):=Om
  rw[if_neg h1]
  have hm:Lib.parseMag (c::r)=.ok n:=by unfold Lib.parseMag;rw[if_neg Sx];exact hp
  rw[hm]
  have h2:¬c.toNat=45:=Om
  simp only[h2,not_false_iff,true_and,false_and,if_false]
  rw[if_neg Om]
theorem qx1{n:Nat}(h1:1<=n)(h2:n<=50000):xj (Lib.itoa (n:Int))=n:=by
 have:=q37 (q5o (n:=n) Om)
 rw[if_pos ⟨rfl,Om,Om⟩]at this
 omega
theorem qir{l:qd}{n:Nat}(h:xj l=n)(hn:1<=n):l=Lib.itoa (n:Int):=by
 unfold xj at h
 split at h
 .split at h
  .rename_i v _ hv
   have:v=(n:Int):=Om
   rw[<-this,hv.1]
  .omega
 .omega
end Go.Pl
namespace Go.Proofs.YtapblfabkbdgcaaGreatDoor
open Go Go.Pl
def ye(n:Nat)(fig:qd):qd:=wb++(Lib.itoa n++32::fig)
theorem q9l(n:Nat)(fig:qd):qvn n fig=ye n fig++[10]:=by simp[qvn,ye,wb]
theorem qq8(n:Nat){c:UInt8}(h:¬(48<=c.toNat∧c.toNat<=57)):c∉Lib.itoa (n:Int):=λhc=>h (q9r n c hc)
theorem qlk{f:qd}(h:qax f){c:UInt8}(hc:c∉hexL):c∉f:=λh'=>hc (h c h')
theorem qd8(n:Nat){fig:qd}(h:qax fig):10∉ye n fig:=by
 unfold ye
 simp only[Qo,Zc,not_or]
 exact⟨by decide,qq8 n (by decide),by decide,qlk h (by decide)⟩
theorem q4z(l:qd):Lib.trimPrefix (wb++l) wb=l:=by
 rw[qvd (Qe _ _),Zs]
structure zbt (n:Nat) (fig body:qd):Prop where
 two:2<=n
 most:n<=50000
 len:body.length=n
 good:qez body
 figs:fig.length=8
 hex:qax fig
def recL(n:Nat)(fig body:qd):qd:=ye n fig++10::(body++qgd n)
theorem zdx(l:qd):recF l=recL l.length (sumF l) l:=by
 unfold recF recL
 rw[q9l]
 simp
theorem quj{l a b:qd}(h:l<+:a++b):l<+:a∨∃r,l=a++r∧r<+:b:=by
 rcases Nat.le_total l.length a.length with hl|hl
 .exact .inl (Qv h (Qe _ _) hl)
 .obtain⟨r,hr⟩:=Qv (Qe a b) h hl
  exact .inr ⟨r,hr.symm,by rw[<-hr]at h;exact(Qb a).1 h⟩
theorem qsr{a b:qd}{c:UInt8}(h:a<+:b)(hc:c∉b):c∉a:=λh'=>hc (h.subset h')
theorem q4e(f:qd)(hl:f.length<=8)(hx:qax f):∃g:qd,g.length=8∧qax g∧f<+:g:=
 ⟨f++Qi (8-f.length) 48,So,λc hc=>by
  rw[Qo,List.mem_replicate]at hc
  rcases hc with hc|⟨_,rfl⟩
  .exact hx c hc
  .decide,Qe _ _⟩
theorem qsx:∀(k:Nat),sp false (Qi k 97++[10])=true
 |0=>by simp[sp]
 |k+1=>by rw[List.replicate_succ,Qn];simp only[sp];exact by simpa using qsx k
theorem qwp{n:Nat}{r:qd}(hn:n<=50000)(hlt:r.length<n)(h2:2<=n)(hp:qmv r ((n:Int)-r.length)=2):∃body:qd,body.length=n∧qez body∧r<+:body:=by
 unfold qmv at hp
 split at hp
 .rename_i h
  obtain⟨hs,hfr⟩:=h
  rw[qhw]at hs
  by_cases hf:r=[]∨r.getLast?=some 10
  .have hk:r.length+2<=n:=by
    rcases Zo (r.length+1) n with h|h
    .omega
    .exact absurd ⟨hf,Om⟩ hfr
   refine⟨r++(32::(Qi (n-r.length-2) 97++[10])),So,?_,Qe _ _⟩
   rw[qt0]
   refine⟨So,So,by simp[Zz,List.getLast?_cons],?_⟩
   rw[qy4,hs]
   simp only[sp,Bool.true_and]
   have:=qsx (n-r.length-2)
   simpa using this
  .refine⟨r++(Qi (n-r.length-1) 97++[10]),So,?_,Qe _ _⟩
   rw[qt0]
   refine⟨So,So,by simp[Zz],?_⟩
   rw[qy4,hs]
   have e:qh1 true r=false:=by
    unfold qh1
    cases hq:r.getLast? with
    |none=>exact absurd (.inl (List.getLast?_eq_none_iff.1 hq)) hf
    |some c=>
     refine decide_eq_false λh=>hf (.inr ?_)
     rw[hq,h]
   rw[e,qsx]
   rfl
 .simp at hp
theorem qfh{n:Nat}(h2:2<=n)(hn:n<=50000):∃body:qd,body.length=n∧qez body:=by
 obtain⟨b,h1,h3,_⟩:=qwp (n:=n) (r:=[]) hn So h2 (by
  unfold qmv
  rw[qhw]
  rw[if_pos ⟨rfl,by rintro⟨_,h⟩;simp at h;omega⟩])
 exact⟨b,h1,h3⟩
theorem qfs{a b c:qd}(h:a<+:b):a<+:b++c:=h.trans (Qe _ _)
theorem qfe{n:Nat}{fig body l:qd}(h:l<+:ye n fig):l<+:recL n fig body∧l.length<(recL n fig body).length:=by
 refine⟨qfs h,?_⟩
 have:=h.length_le
 unfold recL
 simp
 omega
theorem zdo{l:qd}(h:(qaj l).1=2):∃n fig body,zbt n fig body∧l<+:recL n fig body∧l.length<(recL n fig body).length:=by
 unfold qaj at h
 split at h
 .rename_i h10
  split at h
  .rename_i ho
   generalize hr:past 10 l=r at *
   have hl:=yn h10
   rw[hr]at hl
   generalize hu:upto 10 l=u at *
   -- the first line
   have hop:u=ye (ww u).1 (ww u).2.1∧2<=(ww u).1∧(ww u).1<=50000∧(ww u).2.1.length=8∧qax (ww u).2.1:=by
    simp only[ww,decide_eq_true_eq]at ho⊢
    obtain⟨o1,o2,o3,o4,o5⟩:=ho
    refine⟨?_,o3,qeb _,o4,o5⟩
    obtain⟨t,rfl⟩:=o1
    rw[q4z]at *
    have:=qir rfl (Nat.le_trans (by decide) o3)
    unfold ye
    rw[<-this,<-yn o2]
   generalize(ww u).1=n at *
   generalize(ww u).2.1=fig at *
   obtain⟨rfl,h2,hn,hf,hx⟩:=hop
   split at h
   .rename_i hlt
    obtain⟨body,b1,b2,b3⟩:=qwp hn hlt h2 h
    refine⟨n,fig,body,⟨h2,hn,b1,b2,hf,hx⟩,?_,?_⟩
    .rw[hl]
     unfold recL
     rw[Qb,Qu]
     exact⟨rfl,qfs b3⟩
    .rw[hl]
     unfold recL
     have:=b3.length_le
     have:=qza n
     simp
     omega
   .rename_i hge
    split at h
    .rename_i hg
     have hlen:(r.take n).length=n:=So
     refine⟨n,fig,r.take n,⟨h2,hn,hlen,hg,hf,hx⟩,?_⟩
     unfold q1j at h
     rw[hlen]at h
     split at h
     .rename_i hc
      rw[hl]
      unfold recL
      constructor
      .rw[Qb,Qu]
       refine⟨rfl,?_⟩
       conv=>lhs;rw[<-Zu n r]
       rw[Qb]
       exact hc.2
      .have:=hc.1
       simp at this⊢
       omega
     .split at h<;>simp at h
    .simp at h
  .simp at h
 .rename_i h10
  split at h
  .rename_i ho
   unfold qha at ho
   split at ho
   .rename_i hb
    obtain⟨t,rfl⟩:=hb
    have ed:(wb++t).drop 7=t:=by rw[show(7:Nat)=wb.length by rfl,Zs]
    rw[ed]at ho
    obtain⟨o1,o2,o3,o4⟩:=of_decide_eq_true ho
    by_cases h32:32∈t
    .have hn2:2<=xj (upto 32 t):=by
      rcases Zo (xj (upto 32 t)) 2 with h|h
      .exact absurd ⟨h32,h⟩ o1
      .exact h
     obtain⟨fig,f1,f2,f3⟩:=q4e _ o3 o4
     obtain⟨body,b1,b2⟩:=qfh hn2 (qeb _)
     refine⟨_,fig,body,⟨hn2,qeb _,b1,b2,f1,f2⟩,qfe ?_⟩
     unfold ye
     rw[Qb]
     conv=>lhs;rw[yn h32]
     rw[qir (l:=upto 32 t) rfl Om]
     rw[qx1 Om (qeb _),Qb,Qu]
     exact⟨rfl,f3⟩
    .rw[qcf h32]at o2
     by_cases ht:t=[]
     .subst ht
      obtain⟨body,b1,b2⟩:=qfh (n:=2) Om Om
      refine⟨2,Qi 8 48,body,⟨Om,Om,b1,b2,Sx,by decide⟩,qfe ?_⟩
      unfold ye
      simp
     .have hpos:1<=xj t:=by
       rcases Za (xj t)with h|h
       .exact absurd ⟨ht,h⟩ o2
       .exact h
      have hle:=qeb t
      have ht2:=qir (l:=t) rfl hpos
      generalize xj t=m at *
      subst ht2
      by_cases hm:m=1
      .subst hm
       obtain⟨body,b1,b2⟩:=qfh (n:=10) Om Om
       refine⟨10,Qi 8 48,body,⟨Om,Om,b1,b2,Sx,by decide⟩,qfe ?_⟩
       unfold ye
       rw[Qb]
       have e1:Lib.itoa ((1:Nat):Int)=[49]:=by rw[qjv,Lib.decDigits_one (by decide)];rfl
       have e2:Lib.itoa ((10:Nat):Int)=[49,48]:=by rw[qjv,qbh (by decide),Lib.decDigits_one (by decide),Lib.decDigits_one (by decide)];rfl
       rw[e1,e2]
       exact⟨_,rfl⟩
      .obtain⟨body,b1,b2⟩:=qfh (n:=m) Om Om
       refine⟨m,Qi 8 48,body,⟨Om,Om,b1,b2,Sx,by decide⟩,qfe ?_⟩
       unfold ye
       rw[Qb]
       exact Qe _ _
   .rename_i hb
    have hp:=of_decide_eq_true ho
    obtain⟨body,b1,b2⟩:=qfh (n:=2) Om Om
    refine⟨2,Qi 8 48,body,⟨Om,Om,b1,b2,Sx,by decide⟩,qfe ?_⟩
    unfold ye
    exact qfs hp
  .simp at h
theorem qz9(s:BitVec 32):qax (q3r s 8):=by
 intro c hc
 simp only[q3r,Zm]at hc
 obtain⟨j,_,rfl⟩:=hc
 unfold figP
 have h:=Go.Av.and15_lt (s>>>(4*(7-j)))
 generalize((s>>>(4*(7-j)))&&& BitVec.ofInt 32 15).toNat=k at h
 have key:∀i:Fin 16,([48,49,50,51,52,53,54,55,56,57,97,98,99,100,101,102]:qd).getD i.val 0∈hexL:=by decide
 exact key ⟨k,h⟩
theorem zfq{l:qd}(h1:10∈l->(ww (upto 10 l)).2.2=false)(h2:10∉l->qha l=false):qaj l=(3,[],0):=by
 unfold qaj
 by_cases h:10∈l
 .rw[if_pos h,if_neg (by rw[h1 h];simp)]
 .rw[if_neg h,if_neg (by rw[h2 h];simp)]
theorem R2{l:qd}(hl:l.length<=7)(h:¬l<+:wb):qaj l=(3,[],0):=by
 refine zfq (λh10=>decide_eq_false λh'=>?_) (λh10=>?_)
 .have:=h'.1.length_le
  have:=qjh h10
  have e:wb.length=7:=rfl
  omega
 .unfold qha
  by_cases hb:wb<+:l
  .have:=hb.eq_of_length_le hl
   exact absurd (this▸List.prefix_refl _) h
  .rw[if_neg hb];exact decide_eq_false h
theorem zeg{p:UInt8->Bool}(s:qd):s.take (s.takeWhile p).length=s.takeWhile p:=by
 induction s with
 |nil=>rfl
 |cons b s ih=>
  by_cases h:p b=true
  .rw[List.takeWhile_cons_of_pos h];simp[ih]
  .rw[List.takeWhile_cons_of_neg h];rfl
theorem zga{p:UInt8->Bool}{l m:qd}(hm:m<+:l)(h:∀c∈m,p c=true):m.length<=(l.takeWhile p).length:=by
 obtain⟨r,rfl⟩:=hm
 rw[List.takeWhile_append_of_pos h]
 simp
end Go.Proofs.YtapblfabkbdgcaaGreatDoor
namespace Go.Proofs.YtapblfabkbdgcaaGreatDoor
open Go Go.Av Go.RowKit Go.Proofs Go.Pl
structure zbb (l S:qd) (K n:Nat):Prop where
 hl:l=wb++S
 hK:(S.takeWhile qqt).length=K
 hD:S.take K=Lib.itoa (n:Int)
 h1:1<=n
 h2:n<=50000
theorem zbb.split{l S:qd}{K n:Nat}(A:zbb l S K n)(h:K<S.length):S=Lib.itoa (n:Int)++S.getD K 0::S.drop (K+1)∧qqt (S.getD K 0)=false:=by
 have e:S=S.take K++S.getD K 0::S.drop (K+1):=by
  conv=>lhs;rw[<-Zu K S]
  rw[Zf h]
  congr 2
  simp[Xi,h]
 refine⟨by rw[<-A.hD];exact e,?_⟩
 cases hc:qqt (S.getD K 0)with
 |false=>rfl
 |true=>
  have hp:S.take (K+1)<+:S:=List.take_prefix _ _
  have:=zga (p:=qqt) hp (λc hc'=>by
   rw[qce h,Qo,Qj]at hc'
   rcases hc' with hc'|rfl
   .rw[<-A.hK,zeg]at hc'
    have ha:=List.all_takeWhile (p:=qqt) (l:=S)
    rw[Zj]at ha
    exact ha c hc'
   .exact hc)
  rw[A.hK]at this
  simp at this
  omega
end Go.Proofs.YtapblfabkbdgcaaGreatDoor
namespace Go.Av
open Go Go.RowKit
def StE(L:List (Nat×AV))(st loc:List AObj)(s:AS):Prop:=∃t ext,s=⟨puts t L,((st++loc)++ext)++[],[]⟩
theorem qc3{t:Nat->AV}{L:List (Nat×AV)}{st loc loc' ext new:List AObj}(h:HasL t L)(e:loc'=loc):StE L st loc ⟨t,((st++loc')++ext)++new,[]⟩:=
 ⟨t,ext++new,by rw[qgm h,e];simp⟩
theorem qgo{t:Nat->AV}{L:List (Nat×AV)}{st loc st':List AObj}(h:HasL t L)(e:st'=st++loc):StE L st loc ⟨t,st',[]⟩:=
 ⟨t,[],by rw[qgm h,e];simp⟩
theorem qcm(st loc ext new:List AObj):∃x,((st++loc)++ext)++new=st++x:=⟨loc++ext++new,Sx⟩
theorem qaw{st loc ext new:List AObj}{k:Nat}{x:AObj}(h:loc[k]?=some x):(((st++loc)++ext)++new)[st.length+k]?=some x:=by
 have hk:=lt_of_getElem? h
 rw[Qq,Qq,Qk (Xf _ _),Zp,Qf hk]
 exact h
theorem qdv{st loc ext new:List AObj}{k:Nat}(x:AObj)(hk:k<loc.length):(((st++loc)++ext)++new).set (st.length+k) x=((st++loc.set k x)++ext)++new:=by
 rw[Qq,Qq,List.set_append_right _ _ (Xf _ _),Zp,Zv _ _ hk]
 simp
theorem qif{G:Gh}{sz:Nat}{xs:List AV}{tip:Option Nat}{v:Value}(h:Rel G (.sl sz xs tip) v):Rel G (.sl sz xs none) v:=by
 cases h with
 |sl0 _ _ base cap ht=>exact .sl0 sz none base cap Sx
 |sl _ _ _ b off cap pub hp hw hlen hr ht hcap=>exact .sl sz xs none b off cap pub hp hw hlen hr (λt ht=>by simp at ht) hcap
theorem qal{G:Gh}{sz:Nat}{v:Value}(h:Rel G z0 v):Rel G (.sl sz [] none) v:=by
 cases h
 exact .sl0 sz none none 0 Sx
section
variable {E : Env} {rd : Option Nat} {N : Nat} {ops : Array Oper} {K : AS → Prop} {s : AS} {rest : List Oper} {d : Option Tmp} {T : TypeId} {p : String} {af : Array Edge}
theorem qab{fn:Func}{r r':AV}(h:ARes E fn s r)(hw:∀(G:Gh)(v:Value),Rel G r v->Rel G r' v):ARes E fn s r':=
 ⟨λB0 w0 G a w hL hI=>let ⟨v,h1,h2⟩:=h.run B0 w0 G a w hL hI;⟨v,h1,hw G v h2⟩⟩
theorem qpx{fn:Func}{t:Tmp}{sz:Nat}{xs:List AV}{tip:Option Nat}(hr:fn.results= #[.tmp t])(hx:qg fn.ntmps s (.tmp t)=.sl sz xs tip):ARes E fn s (.sl sz xs none):=
 qab (zj hr) λG v h=>by rw[hx]at h;exact qif h
theorem qd1{x y:Operand}{t u T':TypeId}{sz bytes k n m:Nat}{xs ys zs:List AV}{tip:Option Nat}{st loc ext new:List AObj}(hs:s.st=((st++loc)++ext)++new)(hx:qg N s x=.sl sz xs (some (st.length+k)))(hy:qg N s y=.sl sz ys tip)(ho:loc[k]?=some (.tip n sz T'))(hn:xs.length=n)
  (ht:E.P.underlying t=some (.slice T')) (hu:E.P.underlying u=some (.slice T')) (hT:wm E.P T' sz bytes) (hone:jl (flat ys)=true) (hm:ys.length=m) (h63:n+m<=maxLen) (hb:(n+m)*bytes<=140737488355328) (hz:xs++ys=zs)
  (h:AOps E rd N ops rest K (AS.put ⟨s.t,((st++loc.set k (.tip (n+m) sz T'))++ext)++new,s.df⟩ d (.sl sz zs (some (st.length+k))))):AOps E rd N ops (⟨d,.call ⟨.builtin .append,#[x,y],#[t,u]⟩,T,p,af,none⟩::rest) K s:=by
 subst hz
 have hk:=lt_of_getElem? ho
 exact qzo hx hy (by rw[hs];exact qaw ho) hn ht hu hT hone hm h63 hb (by rw[hs,qdv _ hk];exact h)
theorem qu0{x:Operand}{t:TypeId}{sz:Nat}{agg:Bool}{st loc ext new:List AObj}{k ver off:Nat}{T':TypeId}{cs:List AV}{r:AV}(hs:s.st=((st++loc)++ext)++new)(hx:qg N s x=.bx (st.length+k) ver off)(ho:loc[k]?=some (.cells ver T' cs))(ht:tyOf E.P t=some (sz,agg))(hr:ka sz agg off cs=some r)
  (h:AOps E rd N ops rest K (s.put d r)):AOps E rd N ops (⟨d,.load t x,T,p,af,none⟩::rest) K s:=
 ve hx (by rw[hs];exact qaw ho) ht hr h
end
end Go.Av
namespace Go.Pl
open Go
def qv(l:qd):List qd:=
 if h:10∈l then upto 10 l::qv (past 10 l)else [l]
 termination_by l.length
 decreasing_by exact wx (λe=>by rw[e]at h;simp at h)
theorem xf{l:qd}(h:10∈l):qv l=upto 10 l::qv (past 10 l):=by rw[qv,dif_pos h]
theorem xg{l:qd}(h:10∉l):qv l=[l]:=by rw[qv,dif_neg h]
theorem q2g:∀(n:Nat)(l:qd),l.length<=n->Lib.splitK [10] 0 (Lib.count l [10]) l=qv l
 |n,l,hn=>by
  by_cases h:10∈l
  .have hi:=qqs 10 l h
   have hne:l≠[]:=λe=>by rw[e]at h;simp at h
   have hlt:=wx (c:=10) hne
   rw[xf h,Lib.count_hit (i:=(upto 10 l).length) Sx hi,Nat.add_comm,Lib.splitK]
   rw[if_neg (by rw[hi];simp),hi]
   cases n with
   |zero=>exact absurd (Qh.1 Om) hne
   |succ n=>
    have:=q2g n (past 10 l) Om
    simp only[Int.toNat_natCast,Nat.add_zero,Zi,List.length_nil,Zn,qig]
    rw[show List.drop ((upto 10 l).length+1) l=past 10 l from rfl,this]
  .have hi:Lib.index l [10]= -1:=by
    have:=Lib.index_ge l [10]
    have h2:¬0<=Lib.index l [10]:=λh'=>h ((qb6 l 10).1 h')
    omega
   rw[xg h,Lib.count_miss hi]
   rfl
theorem qat:∀(n:Nat)(l:qd),l.length<=n->(qv l).length<=l.length+1
 |n,l,hn=>by
  by_cases h:10∈l
  .have hne:l≠[]:=λe=>by rw[e]at h;simp at h
   have hlt:=wx (c:=10) hne
   rw[xf h]
   cases n with
   |zero=>exact absurd (Qh.1 Om) hne
   |succ n=>
    have:=qat n (past 10 l) Om
    simp only[Zi]
    omega
  .rw[xg h];simp
theorem qfr:∀(n:Nat)(l:qd),l.length<=n->∀x∈qv l,x.length<=l.length∧10∉x
 |n,l,hn,x,hx=>by
  by_cases h:10∈l
  .have hne:l≠[]:=λe=>by rw[e]at h;simp at h
   have hlt:=wx (c:=10) hne
   rw[xf h,Zc]at hx
   rcases hx with rfl|hx
   .exact⟨yq 10 l,qah 10 l⟩
   .cases n with
    |zero=>exact absurd (Qh.1 Om) hne
    |succ n=>
     have:=qfr n (past 10 l) Om x hx
     exact⟨Om,this.2⟩
  .rw[xg h,Qj]at hx
   subst hx
   exact⟨Qd _,h⟩
end Go.Pl
namespace Go.Proofs.YtapblfabkbdgcaaGreatDoor
open Go Go.Av Go.RowKit Go.Proofs Go.Pl
theorem qky{f:FuncId}{st:List AObj}{args:List AV}{vals:Array Value}{xs:List qd}{T:TypeId}(ha:args=vals.toList.map .v)(hne:xs≠[])
  (h:∀B0 w0 w,E.L B0 w0->Below B0 w0 w->Calls E.P f vals w λe w'=>e=.returned (.slice (some ⟨w.heap.size,0,none⟩) xs.length xs.length)∧w'=w.alloc (.cells (xs.map λl=>Value.string ⟨l.toArray⟩).toArray T)):
  ql E f args st λr st'=>r=.sl 1 (xs.map λl=>Sv l) none∧st'=st:=by
 subst ha
 refine⟨λB0 w0 G vs w hL hA hR=>?_⟩
 have hv:vs=vals:=by
  have hs:vs.size=vals.size:=by have:=hR.1;simpa using this.symm
  apply Xp hs
  intro i h1 h2
  have:=hR.2 i (.v vals[i]) vs[i] (by simp[h2]) (by simp[h1])
  generalize vs[i]=y at this
  cases this
  rfl
 subst hv
 refine(h B0 w0 w hL hA.below).mono ?_
 rintro e w' ⟨rfl,rfl⟩
 obtain⟨hle,hA'⟩:=hA.newPub T (xs.map λl=>Value.string ⟨l.toArray⟩).toArray (0,0) (xs.map λl=>Value.string ⟨l.toArray⟩) (λi y hy=>by simpa using hy)
 refine⟨_,_,_,st,rfl,hle,hA',?_,rfl,rfl⟩
 have hfl:flat (xs.map λl=>Sv l)=xs.map λl=>Sv l:=by
  clear hne h hle hA'
  induction xs with
  |nil=>rfl
  |cons a xs ih=>rw[List.map_cons,qaf,ih];rfl
 have:=Rel.sl (G:=G.publish w.heap.size (xs.map λl=>Value.string ⟨l.toArray⟩)) 1 (xs.map λl=>Sv l) none w.heap.size 0 xs.length (xs.map λl=>Value.string ⟨l.toArray⟩) (by simp[Gh.publish]) (λx hx=>by
  simp only[Zm]at hx
  obtain⟨l,_,rfl⟩:=hx
  rfl) (by rw[hfl];simp) (λi x y h1 h2=>by
  rw[hfl,Qt]at h1
  rw[Zn,Qt]at h2
  cases hx:xs[i]?with
  |none=>rw[hx]at h1;simp at h1
  |some l=>
   rw[hx]at h1 h2
   simp at h1 h2
   subst h1;subst h2
   exact .v _) (λt ht=>by simp at ht) Sx
 simpa using this
theorem q72(l:List UInt8)(st:List AObj)(hl:l.length<4294967281):ql E 143 [Sv l,Sv [10]] st λr st'=>r=.sl 1 ((qv l).map λx=>Sv x) none∧st'=st:=by
 have hd:=Lib.splitB_data ⟨#[10]⟩ 0 (Lib.countB ⟨l.toArray⟩ ⟨#[10]⟩) ⟨l.toArray⟩
 have hs:Lib.splitK [10] 0 (Lib.count l [10]) l=qv l:=q2g _ l (Qd _)
 have hn:=Lib.splitB_all ⟨#[10]⟩ (by simp[ByteArray.size]) 0 _ ⟨l.toArray⟩ rfl
 have hd2:(Lib.splitB ⟨#[10]⟩ 0 (Lib.countB ⟨l.toArray⟩ ⟨#[10]⟩) ⟨l.toArray⟩).map (·.data.toList)=qv l:=hd.trans hs
 have hlen:(qv l).length=Lib.countB ⟨l.toArray⟩ ⟨#[10]⟩+1:=by rw[<-hd2,Xh,hn]
 refine qky (T:=9) (vals:= #[.string ⟨l.toArray⟩,.string ⟨#[10]⟩]) rfl (λe=>by rw[e]at hlen;simp at hlen) λ_ _ w hL hb=>(Tryz.strings_Split_shaped ⟨l.toArray⟩ ⟨#[10]⟩ w (hL w hb).shaped (by simpa[ByteArray.size]using hl) (by simp[ByteArray.size])).mono λe w' ⟨h1,h2⟩=>?_
 refine⟨by rw[h1,hlen],?_⟩
 rw[h2,<-hd2,List.map_map]
 rfl
end Go.Proofs.YtapblfabkbdgcaaGreatDoor
namespace Go.Av
open Go Go.RowKit
section
variable {E : Env} {N : Nat} {ops : Array Oper} {K : AS → Prop} {s : AS} {rest : List Oper} {d : Option Tmp} {T : TypeId} {p : String} {af : Array Edge}
theorem qpv{x:Operand}{t:TypeId}{sz:Nat}{agg:Bool}{o ver off:Nat}{T':TypeId}{cs:List AV}{r:AV}(hx:qg N s x=.bx o ver off)(ho:s.st[o]?=some (.cells ver T' cs))(ht:tyOf E.P t=some (sz,agg))(hr:ka sz agg off cs=some r)
  (h:AQ E N ops rest K (s.put d r)):AQ E N ops (⟨d,.load t x,T,p,af,none⟩::rest) K s:=by
 refine qcl rfl nofun λB0 w0 G a w _ hI=>?_
 have he:=hI.eval_of hx
 generalize hv:a.eval x=v at he
 cases he with
 |bx _ _ _ b hn hv' hb=>
  obtain⟨_,h1,h2,h3,c,h4,h5,h6⟩:=hI.agree.ob o _ ho
  have hb:=hb h1
  subst hb
  have hlt:(G.ob o).blk<w.heap.size:=by
   rcases Zo (G.ob o).blk w.heap.size with h'|h'
   .exact h'
   .rw[Array.getElem?_eq_none h']at h4;simp at h4
  -- the value is read out of the cells, whatever is drawn behind them
  have key:∀w',Below w.heap.size w w'->∃v,(loadVar t ⟨(G.ob o).blk,off,none⟩).run E.P w'=.ok v w'∧Rel G r v:=λw' hw'=>by
   have h4':w'.heap[(G.ob o).blk]?=some (.cells c T' (0,0)):=by rw[hw'.block _ hlt];exact h4
   exact yo (w:=w') (G:=G) (b:=(G.ob o).blk) (off:=off) (off':=off) ht (λi x hx hi=>by
    obtain⟨y,hy⟩:=vl hx (Zk h5)
    refine⟨y,?_,h6 i x y hx hy⟩
    simp[World.cell?,h4',show off+(i-off)=i by omega,hy]) hr
  have hsame:∀w',Below w.heap.size w w'->∀v,(loadVar t ⟨(G.ob o).blk,off,none⟩).run E.P w=.ok v w->(loadVar t ⟨(G.ob o).blk,off,none⟩).run E.P w'=.ok v w':=λw' hw' v hr1=>by
   obtain⟨i1,i2⟩:=kr ht w
   obtain⟨j1,j2⟩:=kr ht w'
   have hc:∀k,w'.cell? ⟨(G.ob o).blk,k,none⟩=w.cell? ⟨(G.ob o).blk,k,none⟩:=λk=>by simp[World.cell?,hw'.block _ hlt]
   obtain⟨v',h1',_⟩:=key w' hw'
   rw[h1']
   congr 1
   cases agg with
   |false=>
    simp only[ka,cond_false]at hr
    obtain⟨y,hy⟩:=vl hr (Zk h5)
    have e1:w.cell? ⟨(G.ob o).blk,off,none⟩=some y:=by simp[World.cell?,h4,hy]
    have e2:w'.cell? ⟨(G.ob o).blk,off,none⟩=some y:=by rw[hc,e1]
    simp[loadVar,i2,run_load,e1]at hr1
    simp[loadVar,j2,run_load,e2]at h1'
    rw[<-h1',hr1]
   |true=>
    simp only[ka,cond_true]at hr
    cases hb2:Qx (off+sz) cs.length with
    |false=>rw[hb2]at hr;simp at hr
    |true=>
     have hle:off+sz<=cs.length:=Qa hb2
     have e1:∀j,j<sz->w.cell? ⟨(G.ob o).blk,off+j,none⟩=some (c.getD (off+j) undef):=λj hj=>by
      have:off+j<c.size:=Om
      simp[World.cell?,h4,this]
     have e2:∀j,j<sz->w'.cell? ⟨(G.ob o).blk,off+j,none⟩=some (c.getD (off+j) undef):=λj hj=>by rw[hc,e1 j hj]
     have l1:=run_loadCells (P:=E.P) (w:=w) ⟨(G.ob o).blk,off,none⟩ sz (λj=>c.getD (off+j) undef) (λj hj=>by rw[Addr.add_lit];exact e1 j hj)
     have l2:=run_loadCells (P:=E.P) (w:=w') ⟨(G.ob o).blk,off,none⟩ sz (λj=>c.getD (off+j) undef) (λj hj=>by rw[Addr.add_lit];exact e2 j hj)
     simp[loadVar,i1,i2,l1]at hr1
     simp[loadVar,j1,j2,l2]at h1'
     rw[<-h1',hr1]
  obtain⟨v,hrun,hR⟩:=key w (Below.refl _ _)
  exact⟨v,r,λw' hw'=>by simp only[execOp,hv,Instr.loadAt,Instr.sureAddr];simp[hsame w' hw' v hrun],hR,h⟩
end
end Go.Av
namespace Go.Av
open Go Go.RowKit
section
variable {E : Env} {rd : Option Nat} {N : Nat} {ops : Array Oper} {K : AS → Prop} {s : AS} {rest : List Oper} {d : Option Tmp} {T : TypeId} {p : String} {af : Array Edge}
theorem qnc{x:Operand}{t:TypeId}{sz:Nat}{agg:Bool}{st loc:List AObj}{k ver off:Nat}{T':TypeId}{cs:List AV}{r:AV}(hs:s.st=st++loc)(hx:qg N s x=.bx (st.length+k) ver off)(ho:loc[k]?=some (.cells ver T' cs))(ht:tyOf E.P t=some (sz,agg))(hr:ka sz agg off cs=some r)
  (h:AQ E N ops rest K (s.put d r)):AQ E N ops (⟨d,.load t x,T,p,af,none⟩::rest) K s:=
 qpv hx (by rw[hs];exact yc ho) ht hr h
end
end Go.Av
namespace Go.Proofs.YtapblfabkbdgcaaGreatDoor
open Go Go.Av Go.RowKit Go.Proofs Go.Pl
structure qbp where
 kind:Int
 key:qd
 text:qd
 lo:Int
 hi:Int
abbrev FldV:=qd×qd
@[reducible] def fldA (f : FldV) : AV := .ag [Sv f.1, Sv f.2]
@[reducible] def q6 (l : List FldV) : AV := .sl 2 (l.map fldA) none
def zbi(r:qbp):Prop:=1<=r.kind∧r.kind<=7∧(r.kind=6∨x4 r.key)
instance (r:qbp):Decidable (zbi r):=inferInstanceAs (Decidable (_∧_∧_))
def q2o(l:qd):List qd:=if l=[]then []else qv l
theorem q7k(xs:List qd):Pure (.sl 1 (xs.map λx=>Sv x) none):=y7 λx hx=>by
 simp only[Zm]at hx
 obtain⟨l,_,rfl⟩:=hx
 intro y hy
 simp[AV.cells]at hy
 subst hy
 exact qt _
def qm4(r:qbp)(n:Int):Prop:=r.lo<=n∧n<=r.hi
instance (r:qbp)(n:Int):Decidable (qm4 r n):=inferInstanceAs (Decidable (_∧_))
def q11(r:qbp)(l:qd):Prop:=∃n,numZ l=some n∧qm4 r n
instance (r:qbp)(l:qd):Decidable (q11 r l):=
 match h:numZ l with
 |some n=>decidable_of_iff (qm4 r n) ⟨λh'=>⟨n,h,h'⟩,λ⟨m,h1,h2⟩=>by rw[h]at h1;cases h1;exact h2⟩
 |none=>.isFalse λ⟨m,h1,_⟩=>by rw[h]at h1;cases h1
def qzc(r:qbp)(f:FldV):Prop:=
 (r.kind=3->f.1=r.key->q11 r f.2)∧(r.kind=4->f.1=r.key->f.2∈q2o r.text)∧(r.kind=5->f.1=r.key->qm4 r f.2.length)∧(r.kind=6->f.1∈q2o r.text)
instance (r:qbp)(f:FldV):Decidable (qzc r f):=inferInstanceAs (Decidable (_∧_∧_∧_))
theorem qjs{xs:List FldV}{k:Nat}(hk:k<xs.length):(xs.map fldA)[k]?=some (fldA (xs.getD k ([],[]))):=by
 simp[Xi,hk]
def qma(key:qd)(xs:List FldV):List qd:=(xs.filter λf=>f.1=key).map Xj
def zb2(r:qbp)(xs:List FldV):Prop:=zbi r∧((r.kind=1∧(qma r.key xs).length=0)∨(r.kind=2∧1<(qma r.key xs).length)∨(r.kind≠1∧r.kind≠2∧xs.any (λf=> !decide (qzc r f))=true))
instance (r:qbp)(xs:List FldV):Decidable (zb2 r xs):=inferInstanceAs (Decidable (_∧(_∨_∨_)))
structure zbc (xs:List FldV):Prop where
 len:xs.length<1000000
 val:∀f∈xs,f.1.length<4294967281∧f.2.length<4294967281
def badR(r:qbp)(f:FldV):Bool:= !decide (qzc r f)
def cntR(r:qbp)(xs:List FldV):Nat:=if r.kind=6 then 0 else(qma r.key xs).length
end Go.Proofs.YtapblfabkbdgcaaGreatDoor
namespace Go.Av
open Go Go.RowKit Go.WideShapes Go.ChangeShapes Go.Deep
def gW(W:World):Gh:=⟨λb=>match W.heap[b]?with|some (.cells c _ _)=>some c.toList|_=>none,λ_=>⟨0,0,0,false⟩,0⟩
theorem zfd{W:World}{b:Nat}{c:Array Value}{T:TypeId}{fz:Nat×Nat}(h:W.heap[b]?=some (.cells c T fz)):(gW W).pub b=some c.toList:=by
 simp[gW,h]
theorem qv0(W:World):q9 W.heap.size W (gW W) [] W:=by
 refine⟨Below.refl _ _,Qd _,rfl,λb vs h=>?_,λo x h=>by simp at h,λo o' x x' _ h=>by simp at h⟩
 simp only[gW]at h
 split at h
 .rename_i c T fz hb
  cases h
  exact⟨c,T,fz,hb,λi y hy=>by simpa using hy⟩
 .cases h
theorem qp0{E:Env}{f:FuncId}{args:List AV}{vals:Array Value}{b:Bool}{W:World}(h:ql E f args [] λr st'=>r=Bv b∧st'=[])(hL:E.L W.heap.size W)(ha:RelL (gW W) args vals):
  Calls E.P f vals W λe w'=>e=.returned (.bool b)∧Below W.heap.size W w':=by
 refine(h.run W.heap.size W (gW W) vals W hL (qv0 W) ha).mono ?_
 rintro e w' ⟨v,G',r,st',rfl,_,hA,hr,rfl,_⟩
 cases hr
 exact⟨rfl,hA.below⟩
theorem zak{G:Gh}:RelL G [] #[]:=⟨rfl,λi x y h=>by simp at h⟩
theorem quk{G:Gh}{a:AV}{us:List AV}{v:Value}{vs:List Value}(h:Rel G a v)(hs:RelL G us vs.toArray):RelL G (a::us) (v::vs).toArray:=by
 refine⟨by simpa using hs.1,λi x y hx hy=>?_⟩
 cases i with
 |zero=>simp at hx hy;subst hx;subst hy;exact h
 |succ i=>exact hs.2 i x y (by simpa using hx) (by simpa using hy)
def RelK(G:Gh)(us:List AV)(cs:List Value):Prop:=us.length=cs.length∧∀(i:Nat)(x:AV)(y:Value),us[i]?=some x->cs[i]?=some y->Rel G x y
theorem qkg{G:Gh}{a:AV}{v:Value}(h:Rel G a v):RelK G [a] [v]:=⟨rfl,λi x y hx hy=>by
 cases i with
 |zero=>simp at hx hy;subst hx;subst hy;exact h
 |succ i=>simp at hx⟩
theorem RelK.one{G:Gh}{a:AV}{v:Value}(h:RelK G [a] [v]):Rel G a v:=h.2 0 a v rfl rfl
def Opn(P:Program)(t:TypeId)(S:AV->Prop):Prop:=∀(H:Type)(enc:TypeId×Value->H)(W:World)(fuel:Nat)(cs:List Value)(x:DataW H×List MemPlace),
 DataW.trod enc P W 0 (λ_=>true) true fuel t cs=some x->∃a,S a∧RelK (gW W) a.cells cs
def IsS(a:AV):Prop:=∃l:List UInt8,a=Sv l∧l.length<=maxLen
def IsI(k:IntKind)(a:AV):Prop:=∃n:Int,a=.v (.int k n)∧(Lit.int k n).wf=true
def IsSl(sz:Nat)(S:AV->Prop)(a:AV):Prop:=∃xs:List AV,a=.sl sz xs none∧xs.length<=maxLen∧∀x∈xs,S x
def IsAg(Ss:List (AV->Prop))(a:AV):Prop:=∃vs:List AV,a=.ag vs∧vs.length=Ss.length∧∀(i:Nat)(S:AV->Prop)(v:AV),Ss[i]?=some S->vs[i]?=some v->S v
def One(S:AV->Prop):Prop:=∀a,S a->a.cells=[a]
theorem zbl:One IsS:=by rintro _ ⟨l,rfl,_⟩;rfl
theorem qvp(k:IntKind):One (IsI k):=by rintro _ ⟨l,rfl,_⟩;rfl
theorem zbo(s:ByteArray):Sv s.data.toList=.v (.string s):=by cases s;simp
theorem zbm{P:Program}{t:TypeId}(hu:P.underlying t=some .string):Opn P t IsS:=by
 intro H enc W fuel cs x h
 obtain⟨s,rfl,_,hs⟩:=DataW.trod_string hu h
 refine⟨Sv s.data.toList,⟨_,rfl,by simpa using hs⟩,qkg ?_⟩
 rw[zbo]
 exact .v _
theorem qvq{P:Program}{t:TypeId}{k:IntKind}(hu:P.underlying t=some (.int k)):Opn P t (IsI k):=by
 intro H enc W fuel cs x h
 obtain⟨n,rfl,_,hs⟩:=DataW.trod_int hu h
 exact⟨_,⟨n,rfl,hs⟩,qkg (.v _)⟩
theorem qng{n:Nat}{Q:Nat->AV->Prop}(h:∀i,i<n->∃a,Q i a):∃vs:List AV,vs.length=n∧∀i v,vs[i]?=some v->Q i v:=by
 induction n with
 |zero=>exact⟨[],rfl,λi v h=>by simp at h⟩
 |succ n ih=>
  obtain⟨vs,hl,hv⟩:=ih λi hi=>h i Om
  obtain⟨a,ha⟩:=h n Om
  refine⟨vs++[a],by simp[hl],λi v hi=>?_⟩
  rcases Zo i n with hc|hc
  .rw[Qf Om]at hi
   exact hv i v hi
  .rw[Qk Om]at hi
   have:i-vs.length=0:=by
    rcases Za (i-vs.length)with h0|h0
    .exact h0
    .rw[List.getElem?_eq_none So]at hi;cases hi
   rw[this]at hi
   simp at hi
   subst hi
   have:i=n:=Om
   subst this
   exact ha
theorem zfu{P:Program}{t:TypeId}{fs:Array Field}{Ss:List (AV->Prop)}(hu:P.underlying t=some (.struct fs))(hone:oneCellFields P fs=true)(hC:P.cellsOf t=fs.size)(hl:Ss.length=fs.size)
  (hS:∀(i:Nat)(f:Field)(S:AV->Prop),fs[i]?=some f->Ss[i]?=some S->Opn P f.type S∧One S):Opn P t (IsAg Ss):=by
 intro H enc W fuel cs x h
 obtain⟨xs,n,_,_,hcl,hxl,hf⟩:=DataW.trod_struct hu h
 have hcs:cs.length=fs.size:=hcl.trans hC
 have step:∀i,i<fs.size->∃a:AV,(∀S,Ss[i]?=some S->S a)∧∀y,cs[i]?=some y->Rel (gW W) a y:=by
  intro i hi
  have hfi:fs[i]?=some fs[i]:=Array.getElem?_eq_getElem hi
  have hSi:Ss[i]?=some (Ss[i]'(by omega)):=Qc Om
  obtain⟨hO,h1⟩:=hS i _ _ hfi hSi
  obtain⟨ho,hk⟩:=hone_of hone i _ hfi
  have ht:=hf i _ hfi
  rw[ho,hk]at ht
  have hd:(cs.drop i).take 1=[cs[i]'(by omega)]:=by
   rw[Zf Om]
   rfl
  rw[hd,Qc Om]at ht
  obtain⟨a,ha,hr⟩:=hO H enc W n _ _ ht
  rw[h1 a ha]at hr
  refine⟨a,λS hs=>?_,λy hy=>?_⟩
  .rw[hSi]at hs;cases hs;exact ha
  .rw[Qc Om]at hy;cases hy;exact hr.one
 obtain⟨vs,hvl,hv⟩:=qng step
 refine⟨.ag vs,⟨vs,rfl,Om,λi S v hs hvi=>(hv i v hvi).1 S hs⟩,by show vs.length=cs.length;omega,λi x y hx hy=>(hv i x hx).2 y hy⟩
theorem q1i{W:World}{a:Addr}{n:Nat}{v:Value}(h:W.cell? (a.add n)=some v):∃(c:Array Value)(T:TypeId)(fz:Nat×Nat),W.heap[a.block]?=some (.cells c T fz)∧c[a.off+n]?=some v∧(n=0->a.spot=none):=by
 unfold World.cell? Addr.add at h
 by_cases hn:n=0
 .subst hn
  simp only[if_true]at h
  split at h
  .rename_i c T fz hb
   split at h
   .cases h
   .rename_i hs
    exact⟨c,T,fz,hb,by simpa using h,λ_=>by simpa using hs⟩
  .cases h
 .rw[if_neg hn]at h
  simp only at h
  split at h
  .rename_i c T fz hb
   exact⟨c,T,fz,hb,by simpa using h,λe=>absurd e hn⟩
  .cases h
theorem q69{P:Program}{t e:TypeId}{sz:Nat}{S:AV->Prop}(hu:P.underlying t=some (.slice e))(hC:P.cellsOf e=sz)(hz:0<sz)(hS:Opn P e S):Opn P t (IsSl sz S):=by
 intro H enc W fuel cs x h
 rcases open_slice hu h with⟨rfl,_⟩|⟨a,len,cap,m,n,D,Pl,rfl,_,hlc,hcm,hm,_,hel⟩
 .exact⟨.sl sz [] none,⟨[],rfl,Sx,Sx⟩,qkg (.sl0 sz none _ _ Sx)⟩
 .have hm':len<=m:=by rw[hm];simpa using hlc
  rw[hC]at hel
  have step:∀i,i<len->∃y:AV,S y∧y.cells.length=sz∧∀j,j<sz->∃(u:AV)(v:Value),y.cells[j]?=some u∧W.cell? (a.add (i*sz+j))=some v∧Rel (gW W) u v:=by
   intro i hi
   obtain⟨cs',hc,ht⟩:=hel i Om
   obtain⟨_,hcl,hat⟩:=World.cells?_some hc
   obtain⟨y,hy,hr⟩:=hS H enc W n cs' _ ht
   refine⟨y,hy,hr.1.trans hcl,λj hj=>?_⟩
   have h1:y.cells[j]?=some (y.cells[j]'(by rw[hr.1,hcl];exact hj)):=Qc _
   have h2:cs'[j]?=some (cs'[j]'(by omega)):=Qc _
   refine⟨_,_,h1,?_,hr.2 j _ _ h1 h2⟩
   rw[<-Go.Deep.add_add,hat j hj,h2]
  obtain⟨xs,hxl,hx⟩:=qng step
  have hmem:∀y∈xs,S y∧y.cells.length=sz:=λy hy=>by
   obtain⟨i,hi,rfl⟩:=List.mem_iff_getElem.1 hy
   have:=hx i xs[i] (Qc hi)
   exact⟨this.1,this.2.1⟩
  refine⟨.sl sz xs none,⟨xs,rfl,Om,λy hy=>(hmem y hy).1⟩,qkg ?_⟩
  rcases Za len with h0|h0
  .subst h0
   have:xs=[]:=Qh.1 hxl
   subst this
   exact .sl0 sz none _ _ Sx
  .have hfl:(flat xs).length=len*sz:=by rw[zk λy hy=>(hmem y hy).2,hxl]
   have at0:∀k,k<len*sz->∃(u:AV)(v:Value),(flat xs)[k]?=some u∧W.cell? (a.add k)=some v∧Rel (gW W) u v:=by
    intro k hk
    have hq:k / sz<len:=(Nat.div_lt_iff_lt_mul hz).2 hk
    have hr:k%sz<sz:=Zy _ hz
    have e:k / sz*sz+k%sz=k:=by rw[Xk];exact Nat.div_add_mod k sz
    have hxi:xs[k / sz]?=some (xs[k / sz]'(by omega)):=Qc _
    obtain⟨_,_,hj⟩:=hx _ _ hxi
    obtain⟨u,v,h1,h2,h3⟩:=hj _ hr
    have:=qgy (sz:=sz) (λy hy=>(hmem y hy).2) hxi _ hr
    rw[e]at this h2
    exact⟨u,v,this.trans h1,h2,h3⟩
   have hpos:0<len*sz:=Nat.mul_pos h0 hz
   obtain⟨_,_,_,hc0,_⟩:=at0 0 hpos
   obtain⟨c,T,fz,hb,_,hspot⟩:=q1i hc0
   have hin:∀k,k<len*sz->∃(u:AV)(v:Value),(flat xs)[k]?=some u∧c.toList[a.off+k]?=some v∧Rel (gW W) u v:=by
    intro k hk
    obtain⟨u,v,h1,h2,h3⟩:=at0 k hk
    obtain⟨c',T',fz',hb',hv,_⟩:=q1i h2
    rw[hb]at hb'
    cases hb'
    exact⟨u,v,h1,by simpa using hv,h3⟩
   obtain⟨b,off,spot⟩:=a
   have hs:=hspot rfl
   simp only at hs hb hin
   subst hs
   rw[<-hxl]
   refine .sl sz xs none b off cap c.toList (zfd hb) (λy hy=>(hmem y hy).2) ?_ ?_ ?_ Om
   .obtain⟨_,_,_,hv,_⟩:=hin (len*sz-1) Om
    have:=(Zg.1 hv).1
    omega
   .intro i x y hx' hy'
    have hi:i<len*sz:=by rw[<-hfl];exact(Zg.1 hx').1
    obtain⟨u,v,h1,h2,h3⟩:=hin i hi
    rw[hx']at h1
    rw[hy']at h2
    cases h1
    cases h2
    exact h3
   .intro t ht
    simp at ht
def fieldsOf(P:Program)(t:TypeId):Array Field:=match P.underlying t with|some (.struct fs)=>fs|_=> #[]
theorem qj4{P:Program}{t:TypeId}{As:List (Option TypeDesc×(AV->Prop))}(hu:P.underlying t=some (.struct (fieldsOf P t)))(hone:oneCellFields P (fieldsOf P t)=true)(hC:P.cellsOf t=(fieldsOf P t).size)
  (hF:(fieldsOf P t).toList.map (λf=>P.underlying f.type)=As.map Zx) (hA:∀p∈As,(∀u,P.underlying u=p.1->Opn P u p.2)∧One p.2):Opn P t (IsAg (As.map Xj)):=by
 have hl:As.length=(fieldsOf P t).size:=by have:=congrArg Xd hF;simpa using this.symm
 refine zfu hu hone hC (by simpa using hl) λi f S hf hS=>?_
 obtain⟨p,hp,rfl⟩:∃p,As[i]?=some p∧p.2=S:=by simpa using hS
 have h1:((fieldsOf P t).toList.map (λf=>P.underlying f.type))[i]?=some (P.underlying f.type):=by simp[hf]
 rw[hF,Qt,hp]at h1
 obtain⟨a,b⟩:=hA p (Zw hp)
 exact⟨a _ (by simpa using h1.symm),b⟩
theorem q09{α:Type}{g:α->AV}:∀{xs:List AV},(∀x∈xs,∃r,x=g r)->∃rs:List α,xs=rs.map g
 | [],_=>⟨[],rfl⟩
 |x::xs,h=>by
  obtain⟨r,rfl⟩:=h x Sx
  obtain⟨rs,rfl⟩:=q09 (xs:=xs) λy hy=>h y (by simp[hy])
  exact⟨r::rs,rfl⟩
theorem zgn{G:Gh}(s:ByteArray):Rel G (Sv s.data.toList) (.string s):=by rw[zbo];exact .v _
theorem q8t{H:Type}{enc:TypeId×Value->H}{P:Program}{W W':World}{t:TypeId}(hl:laidOutB P=true)(hr:P.readableRec t=true)(hrow:t<P.types.size){sp:Nat->Bool}{v:Value}{d:DataW H}{ps:List MemPlace}
  (hd:DataW.Trod enc P W 0 (λ_=>true) true t v d ps) (hb:Below W.heap.size W W') (hlt:∀p∈ps,p.block<W.heap.size) (hs:∀p∈ps,sp p.block=true):DataW.Trod enc P W' 0 sp true t v d ps:=
 Go.WideElems.Trod_stays hl hr hrow hd (λp hp=>hb.same (hlt p hp)) hs
end Go.Av
