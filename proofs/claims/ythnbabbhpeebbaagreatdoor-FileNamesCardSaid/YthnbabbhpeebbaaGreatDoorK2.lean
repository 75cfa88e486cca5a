/- Contracts and plain facts that the closing text leans on (part 2). No condition of their own beyond those that each states. -/
import Derived.Test.YthnbabbhpeebbaaGreatDoorK1
import Derived.Lib.Builder
import Derived.Laws.Pointers
import Derived.Laws.Externs
import Derived.Laws.Tables
import Derived.Test.YthnbabbhpeebbaaGreatDoorK0
import Derived.Test.YthnbabbhpeebbaaGreatDoorRows
import Derived.LaidHandle
import Derived.ProofKit
import Derived.OpenShut
import Derived.ShutString
import Derived.Deep.DeepHandedRow
import Derived.Deep.DeepWitnessRowRef
import Derived.Lib.LaidU8
import Derived.Lib.SmallJoins
import Derived.ChangeSame
import Derived.ChangeAgain
import Derived.Lay
import Derived.Lib.Index
import Derived.Lib.SlTrimSet
import Derived.Shelf.Strings.Prefix
import Derived.Shelf.Strings.Cut
import Derived.Lib.ItoaNum
import Derived.Lib.AtoiAll
import Derived.Lib.Repeat
set_option maxRecDepth 100000
set_option linter.unusedVariables false
set_option linter.unusedSimpArgs false
open Array renaming range→Qt,getD_eq_getD_getElem?→Qu,getElem?_modify→Zi,ext→Xd
open Bool renaming and_eq_true→Zq
open Int renaming fdiv_eq_ediv_of_nonneg→Qx
open List renaming append_assoc→Qb,prefix_append_right_inj→Qc,prefix_append→Qe,append_nil→Qf,isPrefixOf→Qg,cons_append→Qh,replicate→Qi,mem_append→Qj,getElem?_append_left→Qn,mem_singleton→Qo,cons_prefix_cons→Qp,prefix_of_prefix_length_le→Qq,mem_filter→Qr,drop_left→Qs,length_append→Qv,getElem?_append_right→Qw,mem_cons→Qy,range→Qz,all_eq_true→Ze,contains_iff_mem→Zh,getLast?_append→Zj,mem_map_of_mem→Zk,length_pos_iff→Zl,getElem?_drop→Zm,getElem?_map→Zo,length_cons→Zp,not_mem_nil→Zs,map_append→Zt,set_comm→Zu,set_set→Zw,mem_map→Zx,length→Xa
open Nat renaming le_of_ble_eq_true→Qa,le_refl→Qd,mod_eq_of_lt→Qm,shiftRight_eq_div_pow→Za,beq→Zb,ble→Zc,eq_of_beq_eq_true→Zf,ble_eq_true_of_le→Zg,lt_of_le_of_lt→Zn,le_of_eq→Zv,zero_add→Zy,lt_or_ge→Zz,mul_one→Xb,blt_eq→Xc,blt→Xe
open Option renaming isSome_iff_exists→Zd
open Option.some renaming injEq→Qk,inj→Ql
open Prod renaming fst→Zr
open Prod.mk renaming injEq→Xf
namespace Go.Av
open Go Go.RowKit
section
variable {E : Env} {rd : Option Nat} {N : Nat} {ops : Array Oper} {K : AS → Prop} {s : AS} {rest : List Oper} {d : Option Tmp} {T : TypeId} {p : String} {af : Array Edge}
def zd3:AV->Bool
 |.bx _ _ _=>true
 |.pp _=>true
 |_=>false
theorem xu{x:Operand}{r:AV}(hx:qg N s x=r)(hr:zd3 r=true)(h:AOps E rd N ops rest K (s.put d r)):AOps E rd N ops (⟨d,.nilCheck x,T,p,af,none⟩::rest) K s:=by
 refine qv rfl (qu nofun λB0 w0 G a w _ hI=>?_);have he:=hI.eval_of hx
 have key:∃q,a.eval x=.pointer (some q):=by
  generalize a.eval x=u at he
  cases he<;>simp[zd3]at hr
  .exact⟨_,rfl⟩
  .exact⟨_,rfl⟩
 obtain⟨q,hv⟩:=key;refine⟨_,w,G,r,s.st,?_,.refl G,hI.agree,hv▸he,h⟩;generalize a.eval=ρ at hv;simp[execOp,hv]
end
section
variable {B0 : Nat} {w0 : World} {G : Gh} {st : List AObj} {w : World}
theorem zb.refroze(h:zb B0 w0 G st w){w':World}{g:Nat}{c:Array Value}{T:TypeId}{fz fz':Nat×Nat}(hg:w.heap[g]?=some (.cells c T fz))(hg':w'.heap[g]?=some (.cells c T fz'))(ho:∀k,k≠g->w'.heap[k]?=w.heap[k]?)(hB:B0<=g)
  (o9:w'.heap.size=w.heap.size) (o8:w'.os=w.os) (htape:w'.tape=w.tape) (hout:w'.output=w.output) (hs:∀o x,st[o]?=some x->x.live->(G.ob o).blk≠g):zb B0 w0 G st w':=by
 refine⟨h.below.trans ⟨o8,htape,hout,Om,λk hk=>ho k Om⟩,by rw[o9];exact h.hB,h.n,λb vs hb=>?_,λo x hx=>(h.ob o x hx).mono (.refl G) rfl (λ_=>rfl) (λhl=>ho _ (hs o x hx hl)),h.sep⟩;by_cases e:b=g
 .subst e
  obtain⟨c2,T2,fz2,e1,e2⟩:=h.pub b vs hb;rw[hg]at e1;simp only[Qk,Obj.cells.injEq]at e1;exact⟨c,T,fz',hg',by rw[e1.1];exact e2⟩
 .rw[ho b e]
  exact h.pub b vs hb
theorem zb.tipCell(h:zb B0 w0 G st w){o ver j sz:Nat}{T T':TypeId}{cs:List AV}(ho:st[o]?=some (.cells ver T cs))(hj:cs[j]?=some zf):
  zb B0 w0 (G.new 0 0 0 false) (st.set o (.cells ver T (cs.set j (.sl sz [] (some st.length))))++[AObj.tip 0 sz T']) w:=by
 have h1:=h.newTip sz T';have d8:=G.le_new 0 0 0 false;have e8:=lt_of_getElem? ho
 have e:st.set o (.cells ver T (cs.set j (.sl sz [] (some st.length))))++[AObj.tip 0 sz T']=(st++[AObj.tip 0 sz T']).set o (.cells ver T (cs.set j (.sl sz [] (some st.length)))):=by
  rw[List.set_append_left _ _ e8]
 rw[e];have e7:(st++[AObj.tip 0 sz T'])[o]?=some (.cells ver T cs):=by rw[Qn e8];exact ho
 generalize hG:G.new 0 0 0 false=G' at h1 d8;have hn:st.length<G'.n:=by rw[h1.n];simp
 refine⟨h1.below,h1.hB,by simp[h1.n],h1.pub,λk x hx=>?_,λk k' x x' d7 hx g9 hl bq=>?_⟩
 .rcases getElem?_set' _ _ _ _ _ hx with⟨rfl,rfl⟩|⟨d7,hx⟩
  .obtain⟨g0,g1,g2,g3,c,g4,g5,g6⟩:=h1.ob k _ e7
   refine⟨g0,g1,g2,g3,c,g4,by simpa using g5,λi x y hx hy=>?_⟩;rcases getElem?_set' _ _ _ _ _ hx with⟨rfl,rfl⟩|⟨_,hx⟩
   .have:=g6 i _ y hj hy
    cases this
    exact .sl0 sz (some st.length) none 0 λt ht=>by simp at ht;subst ht;exact⟨hn,rfl,rfl⟩
   .exact g6 i x y hx hy
  .exact h1.ob k x hx
 .have key:∀(k:Nat)(x:AObj),((st++[AObj.tip 0 sz T']).set o (.cells ver T (cs.set j (.sl sz [] (some st.length)))))[k]?=some x->∃x0:AObj,(st++[AObj.tip 0 sz T'])[k]?=some x0∧(x.live->x0.live):=λk x hx=>by
   rcases getElem?_set' _ _ _ _ _ hx with⟨rfl,rfl⟩|⟨_,hx⟩
   .exact⟨_,e7,λ_=>trivial⟩
   .exact⟨x,hx,id⟩
  obtain⟨x0,e1,e2⟩:=key k x hx;obtain⟨x1,e3,e4⟩:=key k' x' g9;exact h1.sep k k' x0 x1 d7 e1 e3 (e2 hl) (e4 bq)
end
section
variable {E : Env} {rd : Option Nat} {N : Nat} {ops : Array Oper} {K : AS → Prop} {s : AS} {rest : List Oper} {d : Option Tmp} {T : TypeId} {p : String} {af : Array Edge}
def qb8:AV->Option Bool
 |.bx _ _ _=>some false
 |.pp _=>some false
 |.v (.pointer none)=>some true
 |_=>none
theorem qcx{x:Operand}{t t' te:TypeId}{r:AV}{b:Bool}(hx:qg N s x=r)(hr:qb8 r=some b)(hu:E.P.underlying t=some (.pointer te))(h:AOps E rd N ops rest K (s.put d (Bv b))):AOps E rd N ops (⟨d,.binOp .eql t x (.const (.pointer none)) t',T,p,af,none⟩::rest) K s:=by
 refine qv rfl (qu nofun λB0 w0 G a w _ hI=>?_);have he:=hI.eval_of hx
 have key:∃q:Option Addr,a.eval x=.pointer q∧q.isNone=b:=by
  generalize a.eval x=u at he
  cases he<;>try (simp[qb8]at hr;done)
  case v=>
   cases u<;>try (simp[qb8]at hr;done)
   case pointer q=>
    cases q<;>simp[qb8]at hr
    subst hr;exact⟨_,rfl,rfl⟩
  case pp=>simp[qb8]at hr;subst hr;exact⟨_,rfl,rfl⟩
  case bx=>simp[qb8]at hr;subst hr;exact⟨_,rfl,rfl⟩
 obtain⟨q,hv,rfl⟩:=key;have hc:a.eval (.const (.pointer none))=.pointer none:=rfl;have hq:=run_eql_pointer_nil (P:=E.P) w t q (by simp[Program.pointee,hu]);refine⟨_,w,G,_,s.st,?_,.refl G,hI.agree,.v _,h⟩;generalize a.eval=ρ at hv hc;simp[execOp,hv,hc,eqGuard_at_pointer,hq]
theorem qh2{x:Operand}{t t' te:TypeId}{r:AV}{b:Bool}(hx:qg N s x=r)(hr:qb8 r=some b)(hu:E.P.underlying t=some (.pointer te))(h:AOps E rd N ops rest K (s.put d (Bv !b))):AOps E rd N ops (⟨d,.binOp .neq t x (.const (.pointer none)) t',T,p,af,none⟩::rest) K s:=by
 refine qv rfl (qu nofun λB0 w0 G a w _ hI=>?_);have he:=hI.eval_of hx
 have key:∃q:Option Addr,a.eval x=.pointer q∧q.isNone=b:=by
  generalize a.eval x=u at he
  cases he<;>try (simp[qb8]at hr;done)
  case v=>
   cases u<;>try (simp[qb8]at hr;done)
   case pointer q=>
    cases q<;>simp[qb8]at hr
    subst hr;exact⟨_,rfl,rfl⟩
  case pp=>simp[qb8]at hr;subst hr;exact⟨_,rfl,rfl⟩
  case bx=>simp[qb8]at hr;subst hr;exact⟨_,rfl,rfl⟩
 obtain⟨q,hv,rfl⟩:=key;have hc:a.eval (.const (.pointer none))=.pointer none:=rfl;have hq:=run_neq_pointer_nil (P:=E.P) w t q (by simp[Program.pointee,hu]);refine⟨_,w,G,_,s.st,?_,.refl G,hI.agree,.v _,h⟩;generalize a.eval=ρ at hv hc;simp[execOp,hv,hc,eqGuard_at_pointer,hq]
theorem Inv.ptr{B0:Nat}{w0:World}{G:Gh}{a:Act}{w:World}(hI:Inv B0 w0 N G s a w){x:Operand}{o ver off:Nat}{T1:TypeId}{cs:List AV}(hx:qg N s x=.bx o ver off)(ho:s.st[o]?=some (.cells ver T1 cs)):a.eval x=.pointer (some ⟨(G.ob o).blk,off,none⟩):=by
 have he:=hI.eval_of hx;obtain⟨_,h1,_⟩:=hI.agree.ob o _ ho;generalize a.eval x=v at he
 cases he with
 |bx _ _ _ b hn hv hb=>rw[hb h1]
theorem qum{x y:Operand}{t t' te:TypeId}{o ver off:Nat}{T1:TypeId}{cs:List AV}(hx:qg N s x=.bx o ver off)(hy:qg N s y=.bx o ver off)(ho:s.st[o]?=some (.cells ver T1 cs))(hu:E.P.underlying t=some (.pointer te))(hi:(E.P.info? te).isSome=true)
  (h:AOps E rd N ops rest K (s.put d (Bv false))):AOps E rd N ops (⟨d,.binOp .neq t x y t',T,p,af,none⟩::rest) K s:=by
 refine qv rfl (qu nofun λB0 w0 G a w _ hI=>?_);obtain⟨j,hj⟩:=Zd.1 hi;have h1:=hI.ptr hx ho;have h2:=hI.ptr hy ho;have hq:=Lib.run_neq_ptr_same (P:=E.P) w ⟨(G.ob o).blk,off,none⟩ hu hj;refine⟨_,w,G,_,s.st,?_,.refl G,hI.agree,.v _,h⟩;generalize a.eval=ρ at h1 h2;simp[execOp,h1,h2,eqGuard_at_pointer,hq]
theorem qxj{x:Operand}{t t' te:TypeId}{o ver:Nat}{T1:TypeId}{cs:List AV}(hx:qg N s x=.bx o ver 0)(ho:s.st[o]?=some (.cells ver T1 cs))(d7:0<cs.length)(hs:E.P.underlying t=some (.pointer te))(hd:E.P.underlying t'=some .unsafePointer)(hi:(match E.P.info? te with|some j=>Zb j.size 0|none=>true)=false)
  (h:AOps E rd N ops rest K (s.put d (.bx o ver 0))):AOps E rd N ops (⟨d,.convert t t' x,T,p,af,none⟩::rest) K s:=by
 refine qv rfl (qu nofun λB0 w0 G a w _ hI=>?_);obtain⟨_,h1,h2,h3,c,h4,h5,h6⟩:=hI.agree.ob o _ ho;have he:=hI.eval_of hx;have hv:=hI.ptr hx ho
 cases hj:E.P.info? te with
 |none=>rw[hj]at hi;simp at hi
 |some j=>
  rw[hj]at hi;have hj0:j.size≠0:=λe=>by simp[e]at hi
  have hq:=Lib.run_to_unsafe (P:=E.P) w ⟨(G.ob o).blk,0,none⟩ hs hd hj hj0 (e:=T1) (cells:=c.size) (by simp[World.shape?,h4]) (by simpa[<-h5]using d7);refine⟨_,w,G,_,s.st,?_,.refl G,hI.agree,hv▸he,h⟩;generalize a.eval=ρ at hv;simp[execOp,hv,hq]
theorem qsg{x:Operand}{t t' te:TypeId}{o ver:Nat}{T1:TypeId}{cs:List AV}(hx:qg N s x=.bx o ver 0)(ho:s.st[o]?=some (.cells ver T1 cs))(hs:E.P.underlying t=some .unsafePointer)(hd:E.P.underlying t'=some (.pointer te))(hi:(E.P.info? te).isSome=true)(hl:liesAt E.P E.P.depth T1 (cs.length / E.P.cellsOf T1) 0 te 1=true)
  (h:AOps E rd N ops rest K (s.put d (.bx o ver 0))):AOps E rd N ops (⟨d,.convert t t' x,T,p,af,none⟩::rest) K s:=by
 refine qv rfl (qu nofun λB0 w0 G a w _ hI=>?_);obtain⟨_,h1,h2,h3,c,h4,h5,h6⟩:=hI.agree.ob o _ ho;obtain⟨j,hj⟩:=Zd.1 hi;have he:=hI.eval_of hx;have hv:=hI.ptr hx ho;have hq:=Lib.run_from_unsafe (P:=E.P) w ⟨(G.ob o).blk,0,none⟩ hs hd hj (e:=T1) (cells:=c.size) (by simp[World.shape?,h4]) (by rw[<-h5];exact hl);refine⟨_,w,G,_,s.st,?_,.refl G,hI.agree,hv▸he,h⟩;generalize a.eval=ρ at hv;simp[execOp,hv,hq]
theorem qxh{f:FuncId}{x:Operand}{ts:Array TypeId}{r:AV}(a8:∀v w,(callFunc f #[v]).run E.P w=.ok (.value v) w)(hx:qg N s x=r)
  (h:AOps E rd N ops rest K (s.put d r)):AOps E rd N ops (⟨d,.call ⟨.value (.func f),#[x],ts⟩,T,p,af,none⟩::rest) K s:=by
 refine qv rfl (qu nofun λB0 w0 G a w _ hI=>?_);refine⟨a.eval x,w,G,_,s.st,?_,.refl G,hI.agree,hI.eval_of hx,h⟩;have he:a.eval (.func f)=.func (.func f) #[] #[]:=rfl;generalize a.eval=ρ at he;simp[execOp,resolve,Deferred.ofValue,he,invoke,a8]
theorem Inv.restate{B0:Nat}{w0:World}{G G':Gh}{a:Act}{w:World}{st':List AObj}(h:Inv B0 w0 N G s a w)(hG:G.le G')(hA:zb B0 w0 G' st' w):Inv B0 w0 N G' ⟨s.t,st',s.df⟩ a w:=
 ⟨hA,h.defers_mono hG,h.size,λi y hy=>(h.tmps i y hy).mono hG⟩
theorem qyj{o ver j sz:Nat}{T1 T':TypeId}{cs:List AV}{l:List Oper}(ho:s.st[o]?=some (.cells ver T1 cs))(hj:cs[j]?=some zf)
  (h:AOps E rd N ops l K ⟨s.t,s.st.set o (.cells ver T1 (cs.set j (.sl sz [] (some s.st.length))))++[AObj.tip 0 sz T'],s.df⟩):AOps E rd N ops l K s:=
 ⟨λB0 w0 G a w hL hI Q hQ=>h.run B0 w0 _ a w hL (hI.restate (G.le_new 0 0 0 false) (hI.agree.tipCell ho hj)) Q λG' s' a' w' hG=>hQ G' s' a' w' ((G.le_new 0 0 0 false).trans hG)⟩
theorem qp0{o ver j sz:Nat}{T1 T':TypeId}{cs:List AV}{c:Code}{Q:Exit->AS->Prop}(ho:s.st[o]?=some (.cells ver T1 cs))(hj:cs[j]?=some zf)
  (h:AWp E rd N c Q ⟨s.t,s.st.set o (.cells ver T1 (cs.set j (.sl sz [] (some s.st.length))))++[AObj.tip 0 sz T'],s.df⟩):AWp E rd N c Q s:=
 ⟨λB0 w0 G a w hL hI=>wpIn_mono (h.run B0 w0 _ a w hL (hI.restate (G.le_new 0 0 0 false) (hI.agree.tipCell ho hj))) λ_ _ _ ⟨G',s',hG,h1,h2⟩=>⟨G',s',(G.le_new 0 0 0 false).trans hG,h1,h2⟩⟩
theorem Inv.newTip{B0:Nat}{w0:World}{G:Gh}{a:Act}{w:World}(h:Inv B0 w0 N G s a w){i sz:Nat}{T':TypeId}(hi:s.t i=zf):Inv B0 w0 N (G.new 0 0 0 false) ⟨Av.put s.t i (.sl sz [] (some s.st.length)),s.st++[AObj.tip 0 sz T'],s.df⟩ a w:=by
 have hA:=h.agree.newTip sz T';have h2:=h.restate (G.le_new 0 0 0 false) hA;refine⟨h2.agree,h2.defers,h2.size,λk y hy=>?_⟩;by_cases e:k=i
 .subst e
  show Rel _ (Av.put s.t k _ k) y
  rw[xh];have:=h2.tmps k y hy;simp only[hi]at this
  cases this
  exact .sl0 sz _ none 0 λt ht=>by simp at ht;subst ht;exact⟨by rw[hA.n];simp,rfl,rfl⟩
 .show Rel _ (Av.put s.t i _ k) y
  rw[qai _ _ _ _ e];exact h2.tmps k y hy
end
end Go.Av
namespace Go.Av
open Go Go.RowKit
theorem qzp:∀(vs:List Value)(off n:Nat)(c:Array Value),off+n+vs.length<=c.size->
  ((vs.zipIdx n).foldl (λ(cs:Array Value)(x:Value×Nat)=>cs.setIfInBounds (off+x.2) x.1) c).size=c.size∧
  ∀k,((vs.zipIdx n).foldl (λ(cs:Array Value)(x:Value×Nat)=>cs.setIfInBounds (off+x.2) x.1) c)[k]?=if off+n<=k∧k<off+n+vs.length then vs[k-(off+n)]?else c[k]?
 | [],off,n,c,_=>⟨Sx,λk=>by simp;intro h1 h2;omega⟩
 |v::vs,off,n,c,h=>by
  simp only[List.zipIdx_cons,List.foldl_cons,Zp]at h⊢;obtain⟨h1,h2⟩:=qzp vs off (n+1) (c.setIfInBounds (off+n) v) So;refine⟨by rw[h1];simp,λk=>?_⟩;rw[h2 k];by_cases hk:k=off+n
  .subst hk
   rw[if_neg Om,if_pos Om,Array.getElem?_setIfInBounds_self,if_pos Om];simp
  .by_cases hr:off+n<=k∧k<off+n+(vs.length+1)
   .rw[if_pos Om,if_pos hr]
    rw[show k-(off+n)=(k-(off+(n+1)))+1 by omega];simp
   .rw[if_neg Om,if_neg hr]
    rw[Array.getElem?_setIfInBounds,if_neg Om]
def qcp(place:Nat->Option (Nat×Nat))(cells:List AV):List (Nat×AV)->Option (List AV)
 | []=>some cells
 |(i,x)::rest=>
  match place i with
  |none=>none
  |some (off,size)=>bif x.okc&&Zb x.cells.length size&&Zc (off+size) cells.length then qcp place (z0 cells off x.cells) rest else none
theorem qjc{G:Gh}(place:Nat->Option (Nat×Nat)):∀(ps:List (Nat×AV))(vs:List (Nat×Value))(cs:List AV)(c:Array Value)(cs':List AV),ps.length=vs.length->(∀(i:Nat)(p:Nat×AV)(v:Nat×Value),ps[i]?=some p->vs[i]?=some v->p.1=v.1∧Rel G p.2 v.2)->
  RelC G cs c->qcp place cs ps=some cs'->∃c',Instr.fill place c vs=some c'∧RelC G cs' c'
 | [],[],cs,c,cs',_,_,hc,h=>by
  simp only[qcp,Qk]at h;subst h
  exact⟨c,rfl,hc⟩
 | [],v::vs,_,_,_,hl,_,_,_=>by simp at hl
 |p::ps,[],_,_,_,hl,_,_,_=>by simp at hl
 |(i,x)::ps,(j,v)::vs,cs,c,cs',hl,hr,hc,h=>by
  obtain⟨e,hx⟩:=hr 0 _ _ rfl rfl;simp only at e hx;subst e;simp only[qcp]at h;simp only[Instr.fill]
  cases hp:place i with
  |none=>simp[hp]at h
  |some q=>
   obtain⟨off,size⟩:=q;simp only[hp]at h⊢
   cases hb:(x.okc&&Zb x.cells.length size&&Zc (off+size) cs.length)with
   |false=>simp[hb]at h
   |true=>
    simp only[hb,cond_true]at h;simp only[Zq]at hb;obtain⟨⟨hok,o9⟩,d8⟩:=hb;have o9:=Zf o9;have d8:=Qa d8;have hcx:=hx.cells hok;have hcs:v.cells.size=size:=by rw[<-hcx.1];exact o9
    have o7:off+v.cells.size<=c.size:=by rw[hcs,<-hc.1];exact d8
    rw[if_neg (by simp[hcs];rw[<-hc.1];exact d8)]
    have hfold:v.cells.zipIdx.foldl (λcs(x:Value×Nat)=>cs.setIfInBounds (off+x.2) x.1) c=(v.cells.toList.zipIdx 0).foldl (λ(cs:Array Value)(x:Value×Nat)=>cs.setIfInBounds (off+x.2) x.1) c:=by
     rw[<-Array.foldl_toList,Array.toList_zipIdx]
    obtain⟨g1,g2⟩:=qzp v.cells.toList off 0 c (by simpa using o7)
    have r9:RelC G (z0 cs off x.cells) ((v.cells.toList.zipIdx 0).foldl (λ(cs:Array Value)(x:Value×Nat)=>cs.setIfInBounds (off+x.2) x.1) c):=by
     refine⟨?_,λk a y h1 h2=>?_⟩
     .rw[g1,<-hc.1]
      simp[z0];omega
     .rw[g2]at h2
      have e1:(cs.take off).length=off:=So
      simp only[z0,Qb]at h1;by_cases hk:k<off
      .rw[Qn Om,List.getElem?_take,if_pos hk]at h1
       rw[if_neg Om]at h2;exact hc.2 k a y h1 h2
      .rw[Qw Om,e1]at h1
       by_cases gv:k-off<x.cells.length
       .rw[Qn gv]at h1
        rw[if_pos ⟨Om,So⟩]at h2;exact hcx.2 (k-off) a y h1 (by simpa using h2)
       .rw[Qw Om,Zm]at h1
        rw[if_neg So]at h2;rw[show off+x.cells.length+(k-off-x.cells.length)=k by omega]at h1;exact hc.2 k a y h1 h2
    have:=qjc place ps vs _ _ cs' (by simpa using hl) (λi p v h1 h2=>hr (i+1) p v (by simpa using h1) (by simpa using h2)) r9 h;rw[<-hfold]at this;exact this
section
variable {E : Env} {rd : Option Nat} {N : Nat} {ops : Array Oper} {K : AS → Prop} {s : AS} {rest : List Oper} {d : Option Tmp} {T : TypeId} {p : String} {af : Array Edge}
def vk(N:Nat)(s:AS)(parts:Array (Nat×Operand)):List (Nat×AV):=parts.toList.map λx=>(x.1,qg N s x.2)
def qvc(P:Program)(t:TypeId):Option (List (Nat×Nat)):=
 match P.underlying t with
 |some (.struct fs)=>fs.toList.mapM (λf=>(P.info? f.type).map λi=>(f.offset,i.size))
 |_=>none
theorem qkn{B0:Nat}{w0:World}{G:Gh}{a:Act}{w:World}(hI:Inv B0 w0 N G s a w)(parts:Array (Nat×Operand)):∀(i:Nat)(p:Nat×AV)(v:Nat×Value),(vk N s parts)[i]?=some p->(parts.toList.map λx=>(x.1,a.eval x.2))[i]?=some v->p.1=v.1∧Rel G p.2 v.2:=λi p v h1 h2=>by
 simp only[vk,Zo]at h1 h2
 cases hq:parts.toList[i]?with
 |none=>simp[hq]at h1
 |some z=>simp[hq]at h1 h2;subst h1;subst h2;exact⟨rfl,hI.eval _⟩
theorem yc{t:TypeId}{parts:Array (Nat×Operand)}{zs cs:List AV}{pl:List (Nat×Nat)}(hz:qi0 E.P t=some zs)(hp:qvc E.P t=some pl)(hf:qcp (pl[·]?) zs (vk N s parts)=some cs)
  (h:AOps E rd N ops rest K (s.put d (.ag cs))):AOps E rd N ops (⟨d,.build t parts,T,p,af,none⟩::rest) K s:=by
 refine qv rfl (qu nofun λB0 w0 G a w _ hI=>?_);obtain⟨z,a8,hr⟩:=qo8 hz w;obtain⟨c',h1,h2⟩:=qjc (pl[·]?) (vk N s parts) (parts.toList.map λx=>(x.1,a.eval x.2)) zs z.cells cs (by simp[vk]) (qkn hI parts) (hr G) hf;unfold qvc at hp;split at hp
 .rename_i fs hu
  refine⟨.agg c',w,G,.ag cs,s.st,?_,.refl G,hI.agree,.ag _ _ h2.1 h2.2,h⟩;generalize a.eval=ρ at h1;simp[execOp,Instr.build,run_underlying hu,a8,Array.mapM_eq_mapM_toList,run_places w _ _ hp,h1]
 .simp at hp
def qes(P:Program)(e:TypeId)(n:Nat):Option (List AV):=
 match P.info? e with
 |some i=>bif Zb (n*i.size) 0 then some []else i.zero.map λz=>(Qz (n*i.size)).map λk=>.v (z.cells[k%z.cells.size]!)
 |none=>none
theorem qlb{B0:Nat}{w0:World}{G:Gh}{a:Act}{w:World}(hI:Inv B0 w0 N G s a w){t e:TypeId}{len sz:Nat}{agg:Bool}{parts:Array (Nat×Operand)}{zs cs:List AV}(hu:E.P.underlying t=some (.slice e))(ht:tyOf E.P e=some (sz,agg))(hz:qes E.P e len=some zs)
  (hf:qcp (λi=>some (i*sz,sz)) zs (vk N s parts)=some cs) (o9:Zc (len*sz) 16777216=true):
  ∃c':Array Value,(execOp a.eval ⟨d,.buildSlice t len parts,T,p,af,none⟩).run E.P w=.ok (.value (.slice (some ⟨w.heap.size,0,none⟩) len len)) (w.alloc (.cells c' e))∧RelC G cs c':=by
 have fp:=(vj ht w).1;have o9:=Qa o9;unfold qes at hz
 cases hi:E.P.info? e with
 |none=>rw[hi]at hz;simp at hz
 |some i=>
  rw[hi]at hz;simp only at hz;have hs:i.size=sz:=by simpa[sizeOf,typeInfo,hi]using fp
  rw[hs]at hz
  -- the array that the run starts from
  have key:∃c0:Array Value,RelC G zs c0∧∀(Q:Array Value->Sem Value),((do
    let zero <-if len*sz=0 then pure #[]else do pure (<-zeroValue e).cells
    Q ((Qt (len*sz)).map (zero[· %zero.size]!)):Sem Value)).run E.P w=(Q c0).run E.P w:=by
   by_cases h0:len*sz=0
   .rw[h0]at hz
    simp at hz;subst hz;exact⟨#[],⟨rfl,Sx⟩,λQ=>by have e:Qt 0= #[]:=(by simp[Qt]);simp[h0,e]⟩
   .have:Zb (len*sz) 0=false:=zq h0
    rw[this]at hz;simp only[cond_false]at hz
    cases hzr:i.zero with
    |none=>rw[hzr]at hz;simp at hz
    |some z=>
     rw[hzr]at hz;simp only[Option.map_some,Qk]at hz;subst hz;refine⟨(Qt (len*sz)).map (z.cells[· %z.cells.size]!),⟨Sx,λk x y h1 h2=>?_⟩,λQ=>by simp[h0,zeroValue,typeInfo,hi,hzr]⟩;have hk:k<len*sz:=by have:=lt_of_getElem? h1;simpa using this
     simp[hk]at h1 h2;subst h1;subst h2;exact .v _
  obtain⟨c0,hc0,hrun0⟩:=key;obtain⟨c',h1,h2⟩:=qjc (λi=>some (i*sz,sz)) (vk N s parts) (parts.toList.map λx=>(x.1,a.eval x.2)) zs c0 cs (by simp[vk]) (qkn hI parts) hc0 hf;refine⟨c',?_,h2⟩
  .generalize a.eval=ρ at h1
   have hb:¬16777216<len*sz:=Om
   have hg:∃m:String,(execOp ρ ⟨d,.buildSlice t len parts,T,p,af,none⟩).run E.P w=(((do
    let zero <-if len*sz=0 then pure #[]else do pure (<-zeroValue e).cells
    (λc=>(do
    let some cells:=Instr.fill (λi=>some (i*sz,sz)) c (parts.map λx=>(x.1,ρ x.2)).toList|stuck m
    pure (Value.slice (some (<-newRow e cells)) len len):Sem Value)) ((Qt (len*sz)).map (zero[· %zero.size]!)):Sem Value)).run E.P w).andThen λv w'=>.ok (.value v) w':=by
    apply Exists.intro;simp only[execOp,Instr.buildSlice];simp[run_underlying hu,fp,hb];rfl
   obtain⟨m,hg⟩:=hg
   have hQ:=hrun0 (λc=>do
    let some cells:=Instr.fill (λi=>some (i*sz,sz)) c (parts.map λx=>(x.1,ρ x.2)).toList|stuck m
    pure (.slice (some (<-newRow e cells)) len len))
   rw[hg,hQ];simp[h1,newRow,newObj,Sem.run]
theorem xj{t e:TypeId}{len sz:Nat}{agg:Bool}{parts:Array (Nat×Operand)}{zs cs xs:List AV}(hu:E.P.underlying t=some (.slice e))(ht:tyOf E.P e=some (sz,agg))(hz:qes E.P e len=some zs)
  (hf:qcp (λi=>some (i*sz,sz)) zs (vk N s parts)=some cs) (rf:(vk N s parts).map Prod.snd=xs) (b9:xs.length=len) (r6:flat xs=cs) (hw:xs.all (λx=>Zb x.cells.length sz)=true) (o9:Zc (len*sz) 16777216=true)
  (h:AOps E rd N ops rest K (s.put d (.sl sz xs none))):AOps E rd N ops (⟨d,.buildSlice t len parts,T,p,af,none⟩::rest) K s:=by
 refine qv rfl (qu nofun λB0 w0 G a w _ hI=>?_);obtain⟨c',a8,h2⟩:=qlb (d:=d) (T:=T) (p:=p) (af:=af) hI hu ht hz hf o9;obtain⟨d8,hA⟩:=hI.agree.newPub e c' (0,0) c'.toList (λi y hy=>by simpa using hy);refine⟨.slice (some ⟨w.heap.size,0,none⟩) len len,w.alloc (.cells c' e),_,.sl sz xs none,s.st,a8,d8,hA,?_,h⟩;rw[<-b9]
 cases xs with
 |nil=>exact .sl0 sz none _ _ Sx
 |cons x0 xr=>
  refine .sl sz _ none w.heap.size 0 _ c'.toList (by simp[Gh.publish]) (λx hx=>?_) (by rw[r6,h2.1];simp) (λk x y g1 g2=>?_) (λt ht=>by simp at ht) (Qd _)
  .exact Zf (Ze.1 hw x hx)
  .rw[r6]at g1
   exact(h2.2 k x y g1 (by simpa using g2)).mono d8
end
end Go.Av
namespace Go.Av
open Go Go.RowKit
inductive qa8 (n:Nat):List AObj->List AObj->Prop
 |nil:qa8 n [] []
 |same {l l':List AObj} (x:AObj) (h:qa8 n l l'):qa8 n (x::l) (x::l')
 |cut {l l':List AObj} {x x':AObj} (hx:qic n x') (h:qa8 n l l'):qa8 n (x::l) (x'::l')
 |loop {l l':List AObj} {ls ls':LoopState} {pend pend':Option Code} {N:Nat} {t:Nat->AV} {ps:Array Tmp} {asg body:Code} (h:qa8 n l l'):qa8 n (.loop ls pend N t ps asg body::l) (.loop ls' pend' N t ps asg body::l')
theorem qin(n:Nat):∀l,qa8 n l l
 | []=>.nil
 |x::l=>.same x (qin n l)
theorem qkk{n:Nat}{l l':List AObj}(h:qa8 n l l'):∀st,qa8 n (st++l) (st++l')
 | []=>h
 |x::st=>.same x (qkk h st)
theorem qa8.length{n:Nat}{l l':List AObj}(h:qa8 n l l'):l'.length=l.length:=by
 induction h with
 |nil=>rfl
 |_=>simpa
theorem qa8.get{n:Nat}{l l':List AObj}(h:qa8 n l l')(hc:∀(o:Nat)(x:AObj),l[o]?=some x->qic n x):∀(o:Nat)(x:AObj),l'[o]?=some x->qic n x:=by
 induction h with
 |nil=>exact hc
 |same y h ih=>
  intro o x hx
  cases o with
  |zero=>exact hc 0 x hx
  |succ o=>exact ih (λo x h=>hc (o+1) x h) o x (by simpa using hx)
 |cut g9 h ih=>
  intro o x hx
  cases o with
  |zero=>simp at hx;subst hx;exact g9
  |succ o=>exact ih (λo x h=>hc (o+1) x h) o x (by simpa using hx)
 |loop h ih=>
  intro o x hx
  cases o with
  |zero=>simp at hx;subst hx;have h0:=hc 0 _ rfl;exact h0
  |succ o=>exact ih (λo x h=>hc (o+1) x h) o x (by simpa using hx)
theorem q12{E:Env}{o:Nat}{xs:List AV}{st:List AObj}{R:Bool->List AObj->Prop}
  (h:qaf E o xs st λb st2=>∃st1 ext,st2=st1++ext∧qa8 st.length st st1∧R b st1):qaf E o xs st R:=by
 refine⟨λB0 w0 G vals w hL hA hR=>?_⟩;obtain⟨f,tmps,asg,body,h1,h2⟩:=h.run B0 w0 G vals w hL hA hR;refine⟨f,tmps,asg,body,h1,h2.mono ?_⟩;rintro e w' ⟨b,G',st2,he,hG,hA',st1,ext,rfl,hk,hRR⟩;have d8:=hG.cut;rw[hA.n]at d8;refine⟨b,G'.cut st.length,st1,he,d8,?_,hRR⟩;have hd:=hk.get (λo x hx=>hA.cutOb hx);have hl:=hk.length;rw[<-hl]at hd⊢;exact hA'.drop hd
theorem qp6{n ver:Nat}{T:TypeId}{cs:List AV}(h:∀x∈cs,Cut n x):qic n (.cells ver T cs):=h
theorem qv0{n a b:Nat}{T:TypeId}:qic n (.tip a b T):=trivial
theorem q7z{n o ver off:Nat}(h:o<n):Cut n (.bx o ver off):=qdz (.bx o ver off h)
theorem qv1{n tp:Nat}{l:List UInt8}(h:tp<n):Cut n (.sl 1 (l.map λc=>.v (.int .u8 (c.toNat:Nat))) (some tp)):=by
 refine qdz (.sl 1 _ _ (λi x hx=>?_) (λt ht=>by simp at ht;omega));have:=qij l;rw[this]at hx;simp only[Zo]at hx
 cases hq:l[i]?with
 |none=>simp[hq]at hx
 |some c=>simp[hq]at hx;subst hx;exact .v _
def qlu(F:LoopState->Option Code->AObj)(N:Nat)(t:Nat->AV)(ps:Array Tmp)(asg body:Code):Prop:=∀ls pend,F ls pend=AObj.loop ls pend N t ps asg body
theorem q5t{n:Nat}{l l':List AObj}{F:LoopState->Option Code->AObj}{ls ls':LoopState}{pend pend':Option Code}{N:Nat}{t:Nat->AV}{ps:Array Tmp}{asg body:Code}(hF:qlu F N t ps asg body)(h:qa8 n l l'):qa8 n (F ls pend::l) (F ls' pend'::l'):=by
 rw[hF,hF];exact .loop h
@[reducible] def zig (o : Nat) (F : LoopState → Option Code → AObj) (R : Bool → List AObj → Prop) : Exit → AS → Prop
 |.normal,s=>s.st[o]?=some (F .busy none)∧R true (s.st.set o (F .ready none))
 |.ret,s=>s.st[o]?=some (F .busy none)∧R false (s.st.set o (F .done (some .ret)))
 |.exit id,s=>s.st[o]?=some (F .busy none)∧R false (s.st.set o (F .done (some (.exit id))))
 |_,_=>False
theorem qqy{E:Env}{o N:Nat}{t:Nat->AV}{ps:Array Tmp}{asg body:Code}{st:List AObj}{R:Bool->List AObj->Prop}{xs:List AV}{F:LoopState->Option Code->AObj}(hF:qlu F N t ps asg body)(ho:st[o]?=some (F .ready none))(hps:ps.size=xs.length)
  (h:∀l,AWp E (some l) N asg (only λs1=>s1.st[o]?=some (F .ready none)∧s1.df=[]∧AWp E (some l) N body (zig o F R) ⟨s1.t,s1.st.set o (F .busy none),[]⟩) ⟨qkq t (ps.toList.zip xs),st,[]⟩):qaf E o xs st R:=by
 refine q10 (N:=N) (t:=t) (ps:=ps) (asg:=asg) (body:=body) (by rw[ho,hF]) hps λl=>(h l).mono λe s1 hq=>?_
 cases e with
 |normal=>
  obtain⟨h1,h2,h3⟩:=hq;refine⟨by rw[h1,hF],h2,?_⟩;rw[hF]at h3;refine h3.mono λe s2 bw=>?_
  cases e with
  |normal=>obtain⟨k1,k2⟩:=bw;exact⟨by rw[k1,hF],by rw[hF]at k2;exact k2⟩
  |ret=>obtain⟨k1,k2⟩:=bw;exact⟨by rw[k1,hF],by rw[hF]at k2;exact k2⟩
  |exit id=>obtain⟨k1,k2⟩:=bw;exact⟨by rw[k1,hF],by rw[hF]at k2;exact k2⟩
  |_=>exact bw.elim
 |_=>exact hq.elim
theorem ql2{E:Env}{N:Nat}{Q:Exit->AS->Prop}{s:AS}{f:Operand}{ps:Array Tmp}{asg body:Code}{st loc:List AObj}{g:FuncId}{fs cs:List AV}(d9:s.st=st++loc)(hx:qg N s f=.fn (.func g) fs cs)
  (a8:∀vs w,(callFunc g vs).run E.P w=.ok (.enter g vs) w)
  (h:∀F,qlu F N s.t ps asg body->qm E g (fs++[.yd (st.length+(loc.length+1))]++cs) (st++(loc++[.dfr,F .ready none])) λ_ st'=>∃ls pend,ls≠LoopState.busy∧st'[st.length+(loc.length+1)]?=some (F ls pend)∧
   match pend with
   |none=>Q .normal ⟨s.t,st'.set (st.length+(loc.length+1)) .dead,(st.length+loc.length)::s.df⟩
   |some c=>AWp E none N c Q ⟨s.t,st'.set (st.length+(loc.length+1)) .dead,(st.length+loc.length)::s.df⟩):AWp E none N (.rangeFunc f ps asg body) Q s:=
 qxl d9 hx a8 ((h (λls pend=>.loop ls pend N s.t ps asg body) (λ_ _=>rfl)).mono λ_ _ ⟨ls,pend,h1,h2,h3⟩=>⟨ls,pend,h1,h2,h3⟩)
theorem qfg{E:Env}{rd:Option Nat}{N:Nat}{c:Code}{Q:Exit->AS->Prop}{s:AS}(L:List (Nat×AV))(st':List AObj)(df':List Nat)(h:HasL s.t L)(d9:s.st=st')(i5:s.df=df')(k:∀t,AWp E rd N c Q ⟨puts t L,st',df'⟩):AWp E rd N c Q s:=by
 have:=k s.t;rw[qi2 h,<-d9,<-i5]at this;exact this
theorem qg6{E:Env}{B0:Nat}{w0:World}{N:Nat}{G:Gh}{s:AS}{a:Act}{w:World}(hI:Inv B0 w0 N G s a w){x:Operand}{t:TypeId}{sz:Nat}{agg:Bool}{o ver off:Nat}{T':TypeId}{cs:List AV}{r:AV}(hx:qg N s x=.bx o ver off)(ho:s.st[o]?=some (.cells ver T' cs))(ht:tyOf E.P t=some (sz,agg))(hr:jy sz agg off cs=some r):
  ∃b v,a.eval x=.pointer (some ⟨b,off,none⟩)∧(loadVar t ⟨b,off,none⟩).run E.P w=.ok v w∧Rel G r v:=by
 have he:=hI.eval_of hx;generalize hv:a.eval x=v at he
 cases he with
 |bx _ _ _ b hn dx hb=>
  obtain⟨_,h1,h2,h3,c,h4,h5,h6⟩:=hI.agree.ob o _ ho;have hb:=hb h1;rw[hb]at h4
  obtain⟨v,a8,hR⟩:=qau (w:=w) (G:=G) (b:=b) (off:=off) (off':=off) ht (λi x hx hi=>by
   obtain⟨y,hy⟩:=wg hx (Zv h5);refine⟨y,?_,h6 i x y hx hy⟩
   simp[World.cell?,h4,show off+(i-off)=i by omega,hy]) hr
  exact⟨b,v,rfl,a8,hR⟩
theorem q4t{E:Env}{fn:Func}{s:AS}{t u:Tmp}{Ta Tb:TypeId}{o1 v1 f1 sz1:Nat}{agg1:Bool}{T1:TypeId}{cs1:List AV}{r1:AV}{o2 v2 f2 sz2:Nat}{agg2:Bool}{T2:TypeId}{cs2:List AV}{r2:AV}(hr:fn.results= #[.cell t Ta,.cell u Tb])
  (sr:qg fn.ntmps s (.tmp t)=.bx o1 v1 f1) (ho1:s.st[o1]?=some (.cells v1 T1 cs1)) (ht1:tyOf E.P Ta=some (sz1,agg1)) (dp:jy sz1 agg1 f1 cs1=some r1)
  (hx2:qg fn.ntmps s (.tmp u)=.bx o2 v2 f2) (dw:s.st[o2]?=some (.cells v2 T2 cs2)) (ht2:tyOf E.P Tb=some (sz2,agg2)) (lk:jy sz2 agg2 f2 cs2=some r2):ARes E fn s (.tu [r1,r2]):=by
 refine⟨λB0 w0 G a w _ hI=>?_⟩;obtain⟨b1,y1,e1,e2,e3⟩:=qg6 hI sr ho1 ht1 dp;obtain⟨b2,y2,k1,k2,k3⟩:=qg6 hI hx2 dw ht2 lk;simp only[Act.eval,Qu]at e1 k1;refine⟨.tuple #[y1,y2],?_,qgr e3 k3⟩;simp[results,hr,e1,k1,asAddr,e2,k2]
theorem qnh{E:Env}{fn:Func}{R:AV->List AObj->Prop}{s:AS}{st loc:List AObj}{k:Nat}{ds:List Nat}(hs:s.st=st++loc)(hd:s.df=(st.length+k)::ds)(ho:loc[k]?=some .dfr)(h:ARet E fn R ⟨s.t,st++loc.set k .dead,ds⟩):ARet E fn R s:=
 qnw hd (by rw[hs];exact jl ho) (by rw[hs,x9];exact h)
theorem qk9{E:Env}{fn:Func}{s:AS}{t u:Tmp}{Ta Tb:TypeId}{st loc:List AObj}{k1 v1 f1 sz1:Nat}{agg1:Bool}{T1:TypeId}{cs1:List AV}{r1:AV}{k2 v2 f2 sz2:Nat}{agg2:Bool}{T2:TypeId}{cs2:List AV}{r2:AV}(hr:fn.results= #[.cell t Ta,.cell u Tb])(hs:s.st=st++loc)
  (sr:qg fn.ntmps s (.tmp t)=.bx (st.length+k1) v1 f1) (ho1:loc[k1]?=some (.cells v1 T1 cs1)) (ht1:tyOf E.P Ta=some (sz1,agg1)) (dp:jy sz1 agg1 f1 cs1=some r1)
  (hx2:qg fn.ntmps s (.tmp u)=.bx (st.length+k2) v2 f2) (dw:loc[k2]?=some (.cells v2 T2 cs2)) (ht2:tyOf E.P Tb=some (sz2,agg2)) (lk:jy sz2 agg2 f2 cs2=some r2):ARes E fn s (.tu [r1,r2]):=
 q4t hr sr (by rw[hs];exact jl ho1) ht1 dp hx2 (by rw[hs];exact jl dw) ht2 lk
@[reducible] def Wv (x : BitVec 32) : AV := .v (.int .u32 (x.toNat : Nat))
theorem qnf(n:Nat):IntKind.u32.wrap (n:Int)=((n%4294967296:Nat):Int):=by
 simp[IntKind.wrap,IntKind.bits,IntKind.signed]
theorem jo(x:BitVec 32):BitVec.ofInt 32 (x.toNat:Int)=x:=by
 rw[BitVec.ofInt_natCast,BitVec.ofNat_toNat];simp
theorem qiz(x:BitVec 32):IntKind.u32.wrap (x.toNat:Int)=(x.toNat:Int):=by
 rw[qnf,Qm x.isLt]
section
variable {E : Env} {rd : Option Nat} {N : Nat} {ops : Array Oper} {K : AS → Prop} {s : AS} {rest : List Oper} {d : Option Tmp} {T : TypeId} {p : String} {af : Array Edge}
theorem qug(x:BitVec 32):((x.toNat:Nat):Int)=0↔x=0#32:=by
 constructor
 .intro h
  apply BitVec.eq_of_toNat_eq
  simpa using h
 .rintro rfl
  rfl
theorem qfv{x y:Operand}{t t':TypeId}{m n:Int}{a b:BitVec 32}(hx:qg N s x=.v (.int .u32 m))(hy:qg N s y=.v (.int .u32 n))(ha:BitVec.ofInt 32 m=a)(hb:BitVec.ofInt 32 n=b)(h:AOps E rd N ops rest K (s.put d (Wv (a^^^b)))):AOps E rd N ops (⟨d,.binOp .xor t x y t',T,p,af,none⟩::rest) K s:=
 za2 hx hy (by subst ha;subst hb;simp only[qck,IntKind.bits];rw[qiz];rfl) h
theorem qid{x y:Operand}{t t':TypeId}{m n:Int}{a b:BitVec 32}(hx:qg N s x=.v (.int .u32 m))(hy:qg N s y=.v (.int .u32 n))(ha:BitVec.ofInt 32 m=a)(hb:BitVec.ofInt 32 n=b)(h:AOps E rd N ops rest K (s.put d (Wv (a&&& b)))):AOps E rd N ops (⟨d,.binOp .and t x y t',T,p,af,none⟩::rest) K s:=
 zav hx hy (by subst ha;subst hb;simp only[qck,IntKind.bits];rw[qiz];rfl) h
theorem qvs{x y:Operand}{t t':TypeId}{m n:Int}{a b:BitVec 32}(hx:qg N s x=.v (.int .u32 m))(hy:qg N s y=.v (.int .u32 n))(ha:BitVec.ofInt 32 m=a)(hb:BitVec.ofInt 32 n=b)(h:AOps E rd N ops rest K (s.put d (Wv (a|||b)))):AOps E rd N ops (⟨d,.binOp .or t x y t',T,p,af,none⟩::rest) K s:=
 zei hx hy (by subst ha;subst hb;simp only[qck,IntKind.bits];rw[qiz];rfl) h
theorem qfs{x:Operand}{t:TypeId}{a:BitVec 32}(hx:qg N s x=Wv a)(h:AOps E rd N ops rest K (s.put d (Wv (~~~ a)))):AOps E rd N ops (⟨d,.unOp .xor t x,T,p,af,none⟩::rest) K s:=
 q4o hx (by
  simp only[qck,IntKind.bits,IntKind.signed,Bool.false_eq_true,if_false];rw[jo];have h1:BitVec.ofInt 32 IntKind.u32.max=BitVec.allOnes 32:=by decide
  have h2:BitVec.ofInt 32 IntKind.u32.max^^^a= ~~~ a:=by rw[h1,BitVec.xor_comm,BitVec.xor_allOnes]
  exact(congrArg (λz:BitVec 32=>IntKind.u32.wrap (z.toNat:Int)) h2).trans (qiz _)) h
theorem qdw{x y:Operand}{t t':TypeId}{yk:IntKind}{a:BitVec 32}{n:Nat}(hx:qg N s x=Wv a)(hy:qg N s y=.v (.int yk (n:Int)))(hn:Zc n 32=true)(h:AOps E rd N ops rest K (s.put d (Wv (a<<<n)))):AOps E rd N ops (⟨d,.binOp .shl t x y t',T,p,af,none⟩::rest) K s:=
 za0 hx hy Om (by
  have hn:=Qa hn;have:min (n:Int).toNat IntKind.u32.bits=n:=by simp[IntKind.bits];omega
  rw[this];have e:(a.toNat:Int)*2^n=((a.toNat*2^n:Nat):Int):=Sx
  rw[e,qnf,BitVec.toNat_shiftLeft,Nat.shiftLeft_eq]) h
theorem qft{x y:Operand}{t t':TypeId}{yk:IntKind}{a:BitVec 32}{n:Nat}(hx:qg N s x=Wv a)(hy:qg N s y=.v (.int yk (n:Int)))(hn:Zc n 32=true)(h:AOps E rd N ops rest K (s.put d (Wv (a>>>n)))):AOps E rd N ops (⟨d,.binOp .shr t x y t',T,p,af,none⟩::rest) K s:=
 za1 hx hy Om (by
  have hn:=Qa hn;have:min (n:Int).toNat IntKind.u32.bits=n:=by simp[IntKind.bits];omega
  rw[this,BitVec.toNat_ushiftRight,Za]
  have h0:(0:Int)<=2^n:=by
   have:((2^n:Nat):Int)=(2:Int)^n:=Sx
   rw[<-this];exact Int.natCast_nonneg _
  rw[Qx _ h0]
  simp) h
theorem qg3{x y:Operand}{t e:TypeId}{len sz:Nat}{agg:Bool}{k:IntKind}{n:Nat}{cs:List AV}{r:AV}(hx:qg N s x=.ag cs)(hy:qg N s y=.v (.int k (n:Int)))(hu:E.P.underlying t=some (.array len e))(ht:tyOf E.P e=some (sz,agg))(hn:n<len)(hr:jy sz agg (n*sz) cs=some r)
  (h:AOps E rd N ops rest K (s.put d r)):AOps E rd N ops (⟨d,.index t x y,T,p,af,none⟩::rest) K s:=by
 refine qv rfl (qu nofun λB0 w0 G a w _ hI=>?_);have he:=hI.eval_of hx;have gr:=hI.evalv hy;generalize hv:a.eval x=v at he
 cases he with
 |ag _ vs hl m8=>
  obtain⟨i1,i2⟩:=vj ht w
  cases agg with
  |false=>
   simp only[jy,cond_false]at hr;obtain⟨z,hz⟩:=wg hr (Zv hl);refine⟨z,w,G,r,s.st,?_,.refl G,hI.agree,m8 _ r z hr hz,h⟩;generalize a.eval=ρ at hv gr;simp only[execOp,hv,gr]
   simp[Instr.index,asIntOf,run_underlying hu,hn,part,i1,i2,hz]
  |true=>
   simp only[jy,cond_true]at hr
   cases hb:Zc (n*sz+sz) cs.length with
   |false=>rw[hb]at hr;simp at hr
   |true=>
    rw[hb]at hr;simp only[cond_true,Qk]at hr;have d8:n*sz+sz<=cs.length:=Qa hb;refine⟨.agg (vs.extract (n*sz) (n*sz+sz)),w,G,r,s.st,?_,.refl G,hI.agree,?_,h⟩
    .generalize a.eval=ρ at hv gr
     simp only[execOp,hv,gr];simp[Instr.index,asIntOf,run_underlying hu,hn,part,i1,i2]
    .subst hr
     refine .ag _ _ So λi x y h1 h2=>?_;have hi:i<sz:=by have:=lt_of_getElem? h1;simp at this;omega
     simp[hi,Zm]at h1;rw[Array.getElem?_extract]at h2;split at h2
     .exact m8 (n*sz+i) x y h1 h2
     .simp at h2
theorem qbb{x y:Operand}{t e:TypeId}{len sz:Nat}{agg:Bool}{k:IntKind}{n o ver off:Nat}(hx:qg N s x=.bx o ver off)(hy:qg N s y=.v (.int k (n:Int)))(hu:E.P.underlying t=some (.array len e))(ht:tyOf E.P e=some (sz,agg))(hn:n<len)
  (h:AOps E rd N ops rest K (s.put d (.bx o ver (off+n*sz)))):AOps E rd N ops (⟨d,.indexAddr t x y,T,p,af,none⟩::rest) K s:=by
 refine qv rfl (qu nofun λB0 w0 G a w _ hI=>?_);have he:=hI.eval_of hx;have gr:=hI.evalv hy;generalize hv:a.eval x=v at he
 cases he with
 |bx _ _ _ b sf dk hb=>
  refine⟨.pointer (some ⟨b,off+n*sz,none⟩),w,G,_,s.st,?_,.refl G,hI.agree,.bx o ver _ b sf dk hb,h⟩;generalize a.eval=ρ at hv gr;simp only[execOp,hv,gr];simp[Instr.indexAt,asIntOf,run_underlying hu,Instr.sureAddr,hn,(vj ht w).1,Addr.add_lit]
theorem q4p{x:Operand}{t t':TypeId}{k:IntKind}{n:Nat}{e:TypeDesc}(hx:qg N s x=.v (.int k (n:Int)))(hs:E.P.underlying t=some e)(hd:E.P.underlying t'=some (.int .u32))(hn:n<4294967296)
  (h:AOps E rd N ops rest K (s.put d (Wv (BitVec.ofNat 32 n)))):AOps E rd N ops (⟨d,.convert t t' x,T,p,af,none⟩::rest) K s:=
 qsf hx hs hd (by rw[qnf,Qm hn,BitVec.toNat_ofNat,Qm hn]) h
theorem qun{x y:Operand}{t:TypeId}{sz:Nat}{agg:Bool}{st loc loc':List AObj}{k ver off:Nat}{T':TypeId}{cs xs:List AV}{r:AV}(hs:s.st=st++loc)(hx:qg N s x=.bx (st.length+k) ver off)(hy:qg N s y=r)(ho:loc[k]?=some (.cells ver T' cs))(ht:tyOf E.P t=some (sz,agg))
  (hok:r.okc=true) (hc:r.cells=xs) (o9:Zb xs.length sz=true) (h1:va xs=true) (o7:off+sz<=cs.length) (hl:loc'=loc.set k (.cells ver T' (z0 cs off xs)))
  (h:AOps E rd N ops rest K (AS.put ⟨s.t,st++loc',s.df⟩ d (.v undef))):AOps E rd N ops (⟨d,.store t x y,T,p,af,none⟩::rest) K s:=
 jt hs hx hy ho ht hok hc o9 h1 (Zg o7) hl h
theorem q6p{cs:List AV}{off:Nat}{x:AV}(h:off<cs.length):z0 cs off [x]=cs.set off x:=by
 rw[List.set_eq_take_append_cons_drop,if_pos h];simp[z0]
theorem qcb{t:Nat->AV}{L:List (Nat×AV)}{st st':List AObj}{df:List Nat}(h:HasL t L)(e:st'=st):StA L st df ⟨t,st',df⟩:=by
 subst e;exact xp h
theorem qus{fn:Func}{t:Tmp}{Ta:TypeId}{st loc:List AObj}{k1 v1 f1 sz1:Nat}{agg1:Bool}{T1:TypeId}{cs1:List AV}{r1:AV}(hr:fn.results= #[.cell t Ta])(hs:s.st=st++loc)
  (sr:qg fn.ntmps s (.tmp t)=.bx (st.length+k1) v1 f1) (ho1:loc[k1]?=some (.cells v1 T1 cs1)) (ht1:tyOf E.P Ta=some (sz1,agg1)) (dp:jy sz1 agg1 f1 cs1=some r1):ARes E fn s r1:=by
 refine⟨λB0 w0 G a w _ hI=>?_⟩;obtain⟨b1,y1,e1,e2,e3⟩:=qg6 hI sr (by rw[hs];exact jl ho1) ht1 dp;simp only[Act.eval,Qu]at e1;refine⟨y1,?_,e3⟩;simp[results,hr,e1,asAddr,e2]
def qut(P:Program)(t:TypeId):Option Nat:=
 match P.underlying t with
 |some (.array _ e)=>match P.info? e with
  |some i=>some i.size
  |none=>none
 |_=>none
theorem q1y{P:Program}{t:TypeId}{sz:Nat}(h:qut P t=some sz):∃len e i,P.underlying t=some (.array len e)∧P.info? e=some i∧i.size=sz:=by
 unfold qut at h;split at h
 .rename_i len e hu
  split at h
  .rename_i i hi
   simp only[Qk]at h;exact⟨len,e,i,hu,hi,h⟩
  .simp at h
 .simp at h
theorem qnt{t:TypeId}{parts:Array (Nat×Operand)}{zs cs:List AV}{sz:Nat}(hz:qi0 E.P t=some zs)(hp:qut E.P t=some sz)(hf:qcp (λi=>some (i*sz,sz)) zs (vk N s parts)=some cs)
  (h:AQ E N ops rest K (s.put d (.ag cs))):AQ E N ops (⟨d,.build t parts,T,p,af,none⟩::rest) K s:=by
 refine qex rfl nofun λB0 w0 G a w _ hI=>?_;obtain⟨len,e,i,hu,hi,rfl⟩:=q1y hp;obtain⟨z,a8,hr⟩:=qo8 hz w;obtain⟨c',h1,h2⟩:=qjc (λk=>some (k*i.size,i.size)) (vk N s parts) (parts.toList.map λx=>(x.1,a.eval x.2)) zs z.cells cs (by simp[vk]) (qkn hI parts) (hr G) hf
 have ml:∃ti,E.P.info? t=some ti∧ti.zero=some z:=by
  unfold zeroValue at a8;simp[typeInfo]at a8
  cases hti:E.P.info? t with
  |none=>simp[hti]at a8
  |some ti=>
   simp[hti]at a8
   cases htz:ti.zero with
   |none=>simp[htz]at a8
   |some y=>simp[htz]at a8;exact⟨ti,rfl,by rw[htz,a8]⟩
 obtain⟨ti,g1,g2⟩:=ml;refine⟨.agg c',.ag cs,λw' _=>?_,.ag _ _ h2.1 h2.2,h⟩;generalize a.eval=ρ at h1;simp[execOp,Instr.build,run_underlying hu,zeroValue,typeInfo,g1,g2,sizeOf,hi,h1]
theorem qyk{x y:Operand}{t:TypeId}{m:List UInt8}{k:IntKind}{n:Nat}(hx:qg N s x=Sv m)(hy:qg N s y=.v (.int k (n:Int)))(hu:E.P.underlying t=some .string)(h1:n<m.length)
  (h:AQ E N ops rest K (s.put d (Uv (m.getD n 0)))):AQ E N ops (⟨d,.index t x y,T,p,af,none⟩::rest) K s:=
 qbd _ rfl nofun (λa w he=>by
  have hg:(⟨m.toArray⟩:ByteArray)[n]?=some (m.getD n 0):=by
   simp only[getElem?_def,qav,h1,dite_true,List.getD,Option.getD_some];rfl
  simp[execOp,Instr.index,he _ _ hx,he _ _ hy,asIntOf,run_underlying hu,hg]) h
theorem qqu{x:Operand}{t t':TypeId}{k:IntKind}{n:Nat}{e:TypeDesc}(hx:qg N s x=.v (.int k (n:Int)))(hs:E.P.underlying t=some e)(hd:E.P.underlying t'=some (.int .u32))(hn:n<4294967296)
  (h:AQ E N ops rest K (s.put d (Wv (BitVec.ofNat 32 n)))):AQ E N ops (⟨d,.convert t t' x,T,p,af,none⟩::rest) K s:=by
 have hr:IntKind.u32.wrap (n:Int)=(((BitVec.ofNat 32 n).toNat:Nat):Int):=by rw[qnf,Qm hn,BitVec.toNat_ofNat,Qm hn]
 exact qbd _ rfl nofun (λa w he=>by rw[<-hr];simp[execOp,he _ _ hx,convert,run_underlying hs,run_underlying hd,Conv.intToInt]) h
theorem quq{x y:Operand}{t t':TypeId}{yk:IntKind}{c:UInt8}(hx:qg N s x=Uv c)(hy:qg N s y=.v (.int yk 4))(h:AQ E N ops rest K (s.put d (.v (.int .u8 ((c.toNat / 16:Nat):Int))))):AQ E N ops (⟨d,.binOp .shr t x y t',T,p,af,none⟩::rest) K s:=
 qbd _ rfl nofun (λa w he=>by
  have:(c.toNat:Int).fdiv (2^(min (4:Int).toNat IntKind.u8.bits))=((c.toNat / 16:Nat):Int):=by
   rw[Qx _ (by decide)];simp[IntKind.bits]
  rw[<-this]
  simp[execOp,he _ _ hx,he _ _ hy,eqGuard_at_int,binOp_shr,Op.shift]) h
theorem qqt{x y:Operand}{t t':TypeId}{c:UInt8}(hx:qg N s x=Uv c)(hy:qg N s y=.v (.int .u8 15))(h:AQ E N ops rest K (s.put d (.v (.int .u8 ((c.toNat%16:Nat):Int))))):AQ E N ops (⟨d,.binOp .and t x y t',T,p,af,none⟩::rest) K s:=
 zg3 hx hy (by
  simp only[qck,IntKind.bits];have h1:BitVec.ofInt 8 (c.toNat:Int)=c.toBitVec:=by rw[BitVec.ofInt_natCast];simp
  have h2:(BitVec.ofInt 8 (c.toNat:Int)&&& BitVec.ofInt 8 15).toNat=c.toNat%16:=by
   rw[h1,BitVec.toNat_and];exact Nat.and_two_pow_sub_one_eq_mod c.toNat 4
  have h3:IntKind.u8.wrap ((c.toNat%16:Nat):Int)=((c.toNat%16:Nat):Int):=by
   simp[IntKind.wrap,IntKind.bits,IntKind.signed];omega
  exact(congrArg (λz:Nat=>IntKind.u8.wrap (z:Int)) h2).trans h3) h
theorem q1w{x y:Operand}{t t':TypeId}{yk:IntKind}{a:BitVec 32}{m:Int}{n:Nat}(hx:qg N s x=Wv a)(hy:qg N s y=.v (.int yk m))(hm:m=(n:Int))(hn:n<=32)(h:AOps E rd N ops rest K (s.put d (Wv (a>>>n)))):AOps E rd N ops (⟨d,.binOp .shr t x y t',T,p,af,none⟩::rest) K s:=
 qft hx (hm▸hy) (Zg hn) h
theorem and15_lt(x:BitVec 32):(x&&& BitVec.ofInt 32 15).toNat<16:=by
 rw[BitVec.toNat_and];exact Zn Nat.and_le_right (by decide)
end
end Go.Av
namespace Go.Proofs.YthnbabbhpeebbaaGreatDoor
open Go Go.Av Go.RowKit Go.Proofs
structure Laid (w:World):Prop where
 shaped:World.ShapedOpen Tryz.prog w
 pow:Lib.TabIs Tryz.prog w "internal/strconv.uint64pow10" .u64 Lib.pow10Tab
 syn:∃tp p,World.var? Tryz.prog w "strconv.ErrSyntax" =some #[.iface tp p]
 ran:∃tp p,World.var? Tryz.prog w "strconv.ErrRange" =some #[.iface tp p]
 ert:w.cell? ⟨3,0,none⟩=some (.iface 169 (.agg #[.pointer (some ⟨9,30,none⟩)]))
@[reducible] noncomputable def E : Env := ⟨Tryz.prog, fun B0 w0 => ∀ w, Below B0 w0 w → Laid w⟩
theorem qsw(l m:List UInt8)(st:List AObj)(hl:l.length<4294967281):qm E 229 [Sv l,Sv m] st λr st'=>r=Bv (Lib.contains l m)∧st'=st:=
 yt (vals:= #[.string ⟨l.toArray⟩,.string ⟨m.toArray⟩]) rfl λ_ _ w hL hb=>(Tryz.strings_Contains_shaped ⟨l.toArray⟩ ⟨m.toArray⟩ w (hL w hb).shaped (by simpa[ByteArray.size]using hl)).mono λ_ _ ⟨h1,h2⟩=>⟨h1,qel h2⟩
theorem qeo(l m:List UInt8)(st:List AObj):qm E 193 [Sv l,Sv m] st λr st'=>r=Bv (Lib.hasPrefix l m)∧st'=st:=
 yt (vals:= #[.string ⟨l.toArray⟩,.string ⟨m.toArray⟩]) rfl λ_ _ w _ _=>(Tryz.strings_HasPrefix ⟨l.toArray⟩ ⟨m.toArray⟩ w).mono λ_ _ ⟨h1,h2⟩=>⟨h1,qel h2⟩
theorem qqd(l m:List UInt8)(st:List AObj)(hl:l.length<=9223372036854775807):qm E 178 [Sv l,Sv m] st λr st'=>r=Bv (Lib.hasSuffix l m)∧st'=st:=
 yt (vals:= #[.string ⟨l.toArray⟩,.string ⟨m.toArray⟩]) rfl λ_ _ w _ _=>(Tryz.strings_HasSuffix ⟨l.toArray⟩ ⟨m.toArray⟩ w (by simpa[ByteArray.size]using hl)).mono λ_ _ ⟨h1,h2⟩=>⟨h1,qel h2⟩
theorem qsx(l m:List UInt8)(st:List AObj)(hl:l.length<4294967281):qm E 146 [Sv l,Sv m] st λr st'=>r=.tu [Sv (Lib.cut l m).1,Sv (Lib.cut l m).2.1,Bv (Lib.cut l m).2.2]∧st'=st:=
 qh9 (vals:= #[.string ⟨l.toArray⟩,.string ⟨m.toArray⟩]) (rs:= #[.string ⟨(Lib.cut l m).1.toArray⟩,.string ⟨(Lib.cut l m).2.1.toArray⟩,.bool (Lib.cut l m).2.2]) rfl λ_ _ w hL hb=>(Tryz.strings_Cut_shaped ⟨l.toArray⟩ ⟨m.toArray⟩ w (hL w hb).shaped (by simpa[ByteArray.size]using hl)).mono λ_ _ ⟨h1,n,h2⟩=>⟨h1,h2▸q15 w n⟩
theorem qem(l m:List UInt8)(st:List AObj):qm E 240 [Sv l,Sv m] st λr st'=>r=.tu [Sv (Lib.trimPrefix l m),Bv (Lib.hasPrefix l m)]∧st'=st:=
 qh9 (vals:= #[.string ⟨l.toArray⟩,.string ⟨m.toArray⟩]) (rs:= #[.string ⟨(Lib.trimPrefix l m).toArray⟩,.bool (Lib.hasPrefix l m)]) rfl λ_ _ w _ _=>(Tryz.strings_CutPrefix ⟨l.toArray⟩ ⟨m.toArray⟩ w).mono λ_ _ ⟨h1,h2⟩=>⟨h1,qel h2⟩
theorem qof(n:Int)(st:List AObj)(h0: -9223372036854775808<=n)(h1:n<=9223372036854775807):qm E 153 [Iv n] st λr st'=>r=Sv (Lib.itoa n)∧st'=st:=
 yt (vals:= #[.int .i64 n]) rfl λ_ _ w hL hb=>(Tryz.strconv_Itoa n h0 h1 w (hL w hb).pow).mono λ_ _ ⟨h1,k,os,h2⟩=>⟨h1,h2▸q41 w k os⟩
theorem zc8(l:List UInt8)(c:Nat)(st:List AObj)(h0:c<=9223372036854775807)(h1:l.length*c<=140737488355328):qm E 243 [Sv l,Iv c] st λr st'=>r=Sv (Lib.repeatL l c)∧st'=st:=
 yt (vals:= #[.string ⟨l.toArray⟩,.int .i64 c]) rfl λ_ _ w _ _=>(Tryz.strings_Repeat ⟨l.toArray⟩ c w h0 (by simpa[ByteArray.size]using h1)).mono λ_ _ ⟨h1,h2⟩=>⟨h1,h2⟩
theorem zan(l m:List UInt8)(st:List AObj)(hl:l.length<=9223372036854775807)(hm:m.length<4294967281)(ha:∀(j:Nat)(b:UInt8),m[j]?=some b->b.toNat<128):qm E 47 [Sv l,Sv m] st λr st'=>r=Sv (Lib.trimS l m)∧st'=st:=
 yt (vals:= #[.string ⟨l.toArray⟩,.string ⟨m.toArray⟩]) rfl λ_ _ w _ _=>(Any.strings_Trim_laid Tryz.lays160t Kr ⟨l.toArray⟩ ⟨m.toArray⟩ w (by simpa[ByteArray.size]using hl) (by simpa[ByteArray.size]using hm) (by simpa using ha)).mono λ_ _ ⟨h1,h2⟩=>⟨h1,h2⟩
theorem q14{w w':World}{T:TypeId}{s:ByteArray}(h:w'=w∨∃t,w'=Lib.bytesWorld w T t):Below w.heap.size w w':=by
 rcases h with rfl |⟨t,rfl⟩
 .exact Below.refl _ _
 .unfold Lib.bytesWorld
  exact Lib.below_freeze ((Below.drew (Below.refl w.heap.size w)).alloc (Qd _) _) (p:=⟨w.heap.size,_,none⟩) (Qd _) _
theorem qr7{f:FuncId}{st:List AObj}{args:List AV}{vals:Array Value}{R:Int->Option (TypeId×Value)->Prop}(ha:args=vals.toList.map .v)
  (h:∀B0 w0 w,E.L B0 w0->Below B0 w0 w->Calls E.P f vals w λe w'=>∃n x,e=.returned (.tuple #[.int .i64 n,match x with|none=>.nilIface|some (t,y)=>.iface t y])∧R n x∧Below w.heap.size w w'):
  qm E f args st λr st'=>st'=st∧∃n x,r=.tu [Iv n,match x with|none=>.v .nilIface|some (t,y)=>.ifc t (.v y)]∧R n x:=by
 subst ha;refine⟨λB0 w0 G vs w hL hA hR=>?_⟩
 have hv:vs=vals:=by
  have hs:vs.size=vals.size:=by have:=hR.1;simpa using this.symm
  apply Xd hs;intro i h1 h2;have:=hR.2 i (.v vals[i]) vs[i] (by simp[h2]) (by simp[h1]);generalize vs[i]=y at this
  cases this
  rfl
 subst hv;refine(h B0 w0 w hL hA.below).mono ?_;rintro e w' ⟨n,x,rfl,hRR,hb⟩;refine⟨_,G,_,st,rfl,.refl G,hA.fresh hb,qgr (.v _) ?_,rfl,n,x,rfl,hRR⟩
 cases x with
 |none=>exact .v _
 |some p=>exact .ifc _ _ _ (.v _)
theorem qnx(l:List UInt8)(st:List AObj)(hl:l.length<=281474976710656):qm E 147 [Sv l] st λr st'=>st'=st∧∃n x,r=.tu [Iv n,match x with|none=>.v .nilIface|some (t,y)=>.ifc t (.v y)]∧match x with|none=>Lib.atoiAll l=.ok n|some _=>∀v,Lib.atoiAll l≠.ok v:=by
 refine qr7 (vals:= #[.string ⟨l.toArray⟩]) (R:=λn x=>match x with|none=>Lib.atoiAll l=.ok n|some _=>∀v,Lib.atoiAll l≠.ok v) rfl λB0 w0 w hL hb=>?_;have hls:(⟨l.toArray⟩:ByteArray).data.toList=l:=rfl;rcases ho:Lib.atoiAll l with v|_|_
 .
  refine(Tryz.strconv_Atoi_ok ⟨l.toArray⟩ (by simp[ByteArray.size];omega) v (by rw[hls];exact ho) w).mono ?_;rintro e w' ⟨rfl,hw⟩;exact⟨v,none,rfl,rfl,q14 (s:=⟨l.toArray⟩) hw⟩
 .
  obtain⟨tp,p,hv⟩:=(hL w hb).syn;refine(Any.strconv_Atoi_syntax_var Tryz.laysC172 ⟨l.toArray⟩ (by simpa[ByteArray.size]using hl) (by rw[hls];exact ho) tp p w hv).mono ?_;rintro e w' ⟨N,rfl,_,_,hw⟩;exact⟨_,some (_,_),rfl,Sx,hw⟩
 .
  obtain⟨tp,p,hv⟩:=(hL w hb).ran;refine(Tryz.strconv_Atoi_range_var ⟨l.toArray⟩ (by simpa[ByteArray.size]using hl) (by rw[hls];exact ho) tp p w hv).mono ?_;rintro e w' ⟨N,rfl,_,_,hw⟩;exact⟨_,some (_,_),rfl,Sx,hw⟩
theorem qls(l m:List UInt8)(st:List AObj)(hl:l.length<=9223372036854775807)(hm:Xe m.length 4294967281=true)(ha:m.all (λb=>Xe b.toNat 128)=true):qm E 47 [Sv l,Sv m] st λr st'=>r=Sv (Lib.trimS l m)∧st'=st:=
 zan l m st hl (by simpa[Xc]using hm) λj b h=>by
  have:=Ze.1 ha b (List.mem_of_getElem? h)
  simpa[Xc]using this
end Go.Proofs.YthnbabbhpeebbaaGreatDoor
namespace Go.Av
open Go Go.RowKit Go.WideShapes Go.ChangeShapes
theorem qvl{P:Program}{W:World}{name:String}{k:IntKind}{zs:List Int}{g:Nat}{t e:TypeId}{n:Nat}
  (hg:P.globalNamed name=some g) (hty:(P.globals[g]?).map (·.type)=some t) (ht:P.underlying t=some (.array n e)) (he:P.underlying e=some (.int k)) (hce:P.cellsOf e=1) (hct:P.cellsOf t=n)
  (h:Lib.VarReads P W name (Lib.tabData k zs)):Lib.TabIs P W name k zs:=by
 obtain⟨g',t',cs,fuel,p,hg',ht',hvar,hd⟩:=h;obtain rfl:=Ql (hg.symm.trans hg');obtain rfl:=Ql (hty.symm.trans ht');unfold Lib.TabIs;rw[hvar,<-Lib.cells_of_tab ht he hce hct hd]
theorem qnl{P:Program}{W:World}{name s:String}{d:DataW Unit}{g:Nat}{t:TypeId}{ms:Array (String×TypeId)}
  (hg:P.globalNamed name=some g) (hty:(P.globals[g]?).map (·.type)=some t) (ht:P.underlying t=some (.interface ms))
  (h:Lib.VarReads P W name (.iface s d)):∃tp p,W.var? P name=some #[.iface tp p]:=by
 obtain⟨g',t',cs,fuel,p,hg',ht',hvar,hd⟩:=h;obtain rfl:=Ql (hg.symm.trans hg');obtain rfl:=Ql (hty.symm.trans ht')
 cases fuel with
 |zero=>simp[DataW.trod]at hd
 |succ fuel=>
  obtain⟨l⟩:=cs;simp only[DataW.trod,ht]at hd;split at hd;all_goals simp_all
section
variable {H : Type} {enc : TypeId × Value → H} {P : Program}
theorem qxs{f:Func}{s:ChangeSpec}{qdb fresh handsOn again:Bool}{W W':World}{args:Array Value}{v:Value}{ds gs:List (DataW H)}{before pa pv:List MemPlace}
  (hW:DataW.Whole enc P f.params.toList s.vars qdb W args.toList ds gs before)
  (hres:∀(b:Nat)(sp:Nat->Bool)(hd:Bool),DataW.TrodAll enc P W' b sp hd f.resultTypes.toList (v.resultList f.resultTypes.size) (s.fn H (ds++gs)).results [])
  (rz:∀sp:Nat->Bool,(∀p∈before,sp p.block=true)->DataW.TrodAll enc P W' 0 sp true f.params.toList args.toList (s.fn H (ds++gs)).args pa)
  (hvars:∀sp:Nat->Bool,(∀p∈before,sp p.block=true)->DataW.TrodVars enc P W' sp s.vars (s.fn H (ds++gs)).vars pv)
  (hps:before=pa++pv) (hb:Below W.heap.size W W')
  (hok:∀(j:Nat)(t:TypeId)(r:Value),f.resultTypes[j]?=some t->(v.resultList f.resultTypes.size)[j]?=some r->Value.okWide P W' .any 0 t r):
  s.post enc P f qdb fresh handsOn again W args v W':=by
 have e8:∀p∈before,p.block<W.heap.size:=λp hp=>hW.lt p hp;have e9:∀p∈before,(λb=>decide (b<W.heap.size)) p.block=true:=λp hp=>by simpa using e8 p hp
 refine⟨ds,gs,before,[],pa,pv,hW,hres _ _ _,rz _ e9,hvars _ e9,World.keptBut_mono (λp hp=>⟨hp,?_⟩) (hb.frame (·∈before)),λ_=>?_⟩
 .rw[hps,Qj]at hp
  exact Or.inr hp
 .obtain⟨_,_,_,_,_,hz,hn⟩:=hW
  refine⟨hok,_,_,([]++pa)++pv,⟨[]++pa,pv,trodAll_append (rz _ (λ_ _=>rfl)) (hres _ _ _),hvars _ (λ_ _=>rfl),rfl,?_,?_⟩,?_⟩
  .intro b off hp
   have lg:MemPlace.cell b off∈before:=by rw[hps];simpa using hp
   rw[hb.frozen (e8 _ lg)];exact hz b off lg
  .intro ha
   have:=hn ha;rw[hps]at this
   simpa using this
  .intro p hp _
   rw[hps]
   simpa using hp
end
end Go.Av
open Go in
theorem Go.Av.lit_i64{n:Int}(h:(Lit.int .i64 n).wf=true): -9223372036854775808<=n∧n<=9223372036854775807:=by
 simpa[Lit.wf,IntKind.min,IntKind.max,IntKind.signed,IntKind.bits]using h
namespace Go.Proofs.YthnbabbhpeebbaaGreatDoor
open Go Go.Av Go.RowKit
theorem zh9:((Qz 395).filter λt=>Tryz.prog.rowNamed t [101,114,114,111,114])=[30]:=Kr
theorem zi8:(Tryz.prog.cutTypes.find? (·.1== "internal/reflectlite.rtype")).map (·.2)=some 169:=by kernel_rfl
theorem zja:Tryz.prog.types.size=395:=Kr
theorem zi2:typeHandle Tryz.prog 30=.pointer (some ⟨9,30,none⟩):=Kr
theorem zd1:Tryz.prog.globalNamed "errors.errorType" =some 3:=by kernel_rfl
theorem q0c{l:List (String×DataW Unit)}(h:(l.all λx=>x.1== "errors.errorType" ||x.2.handleName?.isNone)=true){x:String×DataW Unit}(hx:x∈l)(hn:(x.1== "errors.errorType")=false):x.2.handleName?.isNone=true:=by
 have:=Ze.1 h x hx;rw[hn]at this
 simpa using this
theorem qz2{P:Program}{w0:World}{laid:List (String×DataW Unit)}(args:Array Value)(hf:w0.layFits P laid []=true)(hi:w0.layIfaces P laid (w0.layVars P laid)=true):
  laidMet P laid ((w0.layVars P laid).forCall (λ_ _=>0) ⟨#[],args,[]⟩).memory:=by
 have e1:(laid.filter λx=>(laid.map Zr).contains x.1)=laid:=List.filter_eq_self.2 λx hx=>Zh.2 (Zk hx)
 have e2:(laid.filter λx=> !(laid.map Zr).contains x.1)=[]:=List.filter_eq_nil_iff.2 λx hx=>by
  rw[Zh.2 (Zk (f:=Zr) hx)];simp
 have h:laidMet P laid (w0.layVars P laid):=laidMet_layVars (w0:=w0) (laid.map Zr) [] (by rw[e1]) (by rw[e1];exact hf) (by rw[e1];exact hi) (by rw[e2];exact LaidIn.none);exact h.of_heap (by simp[World.memory,World.forCall,Input.heap])
noncomputable def zi0(os:Os):World:={World.holding Tryz.prog os ⟨#[],#[],[]⟩with heap:=(World.holding Tryz.prog os ⟨#[],#[],[]⟩).heap.modify 3 λ
 |.cells _ t fz=>.cells #[.iface 169 (.agg #[.pointer (some ⟨9,30,none⟩)])] t fz
 |o=>o}
theorem zfo{l:List (String×DataW Unit)}{W:World}
  (hp:(l.filter λx=>x.2.handleName?.isSome)=[("errors.errorType",Rows.laid_errors_errorType)]∧(l.all λx=>x.1== "errors.errorType" ||x.2.handleName?.isNone)=true)
  (hL:laidMetH Tryz.prog l W) (hs:W.ShapedOpen Tryz.prog)
  (h1:("internal/strconv.uint64pow10",Rows.laid_internal_strconv_uint64pow10)∈l) (h2:("strconv.ErrSyntax",Rows.laid_strconv_ErrSyntax)∈l) (h3:("strconv.ErrRange",Rows.laid_strconv_ErrRange)∈l):E.L W.heap.size W:=by
 unfold laidMetH at hL;rw[hp.1]at hL;simp only at hL;intro w hb;obtain⟨hL,hH⟩:=hL;have h1:=(Qr (p:=λx=>x.2.handleName?.isNone)).2 ⟨h1,q0c hp.2 h1 (by decide)⟩;have h2:=(Qr (p:=λx=>x.2.handleName?.isNone)).2 ⟨h2,q0c hp.2 h2 (by decide)⟩;have h3:=(Qr (p:=λx=>x.2.handleName?.isNone)).2 ⟨h3,q0c hp.2 h3 (by decide)⟩;obtain⟨name,u,ty,e1,e2,e3,e4,e5⟩:=hH _ (Qo.2 rfl);have en:name=[101,114,114,111,114]:=(Ql e1).symm;subst en;obtain rfl:=Ql (zi8.symm.trans e2);have hm:ty∈(Qz 395).filter λt=>Tryz.prog.rowNamed t [101,114,114,111,114]:=Qr.2 ⟨List.mem_range.2 (by rw[<-zja];exact e3),e4⟩;rw[zh9]at hm;obtain rfl:=Qo.1 hm;rw[zi2]at e5;have hv:=World.var?_cell zd1 (Go.Joins.var_stays zd1 e5 hb (Qd _)) 0
 have g1:Tryz.prog.globalNamed "internal/strconv.uint64pow10" =some 6:=by kernel_rfl
 have g2:Tryz.prog.globalNamed "strconv.ErrSyntax" =some 4:=by kernel_rfl
 have g3:Tryz.prog.globalNamed "strconv.ErrRange" =some 5:=by kernel_rfl
 have t1:=qvl (k:=.u64) (zs:=Lib.pow10Tab) (t:=363) (e:=251) (n:=20) g1 Kr Kr Kr Kr Kr (Lib.laidMet.reads hL h1);obtain⟨tp2,p2,v2⟩:=qnl (t:=30) g2 Kr rfl (Lib.laidMet.reads hL h2);obtain⟨tp3,p3,v3⟩:=qnl (t:=30) g3 Kr rfl (Lib.laidMet.reads hL h3);exact⟨hs.keptBut (hb.frame (λ_=>False)) (λ_ h=>h.elim),Go.Joins.var_stays g1 t1 hb (Qd _),⟨tp2,p2,Go.Joins.var_stays g2 v2 hb (Qd _)⟩,⟨tp3,p3,Go.Joins.var_stays g3 v3 hb (Qd _)⟩,by simpa using hv⟩
end Go.Proofs.YthnbabbhpeebbaaGreatDoor
namespace Go.Pl
open Go
abbrev qa:=List UInt8
theorem qdo(l:qa)(c:UInt8):0<=Lib.index l [c]↔c∈l:=by
 induction l with
 |nil=>simp[Lib.index]
 |cons b l ih=>
  have mz:=Lib.index_ge l [c];unfold Lib.index;by_cases hb:c=b
  .subst hb
   simp[Qg]
  .have hp:([c]:qa).isPrefixOf (b::l)=false:=by simp[Qg,hb]
   rw[hp];by_cases hm:Lib.index l [c]= -1
   .have:c∉l:=λh=>by have:=ih.2 h;omega
    simp[hm,hb,this]
   .have:c∈l:=ih.1 Om
    simp[hm,this];omega
theorem qn4(l:qa)(c:UInt8):Lib.contains l [c]=decide (c∈l):=by
 unfold Lib.contains;by_cases h:c∈l
 .simp[h,(qdo l c).2 h]
 .have:¬0<=Lib.index l [c]:=λh'=>h ((qdo l c).1 h')
  simp[h,this]
theorem qnk(l:qa)(c:UInt8):Lib.hasPrefix l [c]=decide (l.head?=some c):=by
 cases l with
 |nil=>simp[Lib.hasPrefix]
 |cons b l=>
  by_cases h:c=b
  .simp[Lib.hasPrefix,Qg,h]
  .simp[Lib.hasPrefix,Qg,h,Ne.symm h]
def x6(c:UInt8):Prop:=c=32∨c=9
instance (c:UInt8):Decidable (x6 c):=inferInstanceAs (Decidable (c=32∨c=9))
def qhh(l:qa):Prop:=∃c,l.head?=some c∧x6 c
instance (l:qa):Decidable (qhh l):=
 match l with
 | []=>.isFalse (by rintro⟨c,h,_⟩;simp at h)
 |c::r=>decidable_of_iff (x6 c) ⟨λh=>⟨c,rfl,h⟩,λ⟨d,h,hd⟩=>by simp at h;subst h;exact hd⟩
def qd3(l:qa):Prop:=l≠[]∧l.length<=32∧¬qhh l∧¬l.head?=some 35∧58∉l∧10∉l
instance (l:qa):Decidable (qd3 l):=inferInstanceAs (Decidable (_∧_∧_∧_∧_∧_))
theorem quy(c:UInt8)(l:qa):Lib.contains [32,9] [c]=decide (qhh (c::l)):=by
 rw[qn4];have:qhh (c::l)↔x6 c:=⟨λ⟨d,h,hd⟩=>by simp at h;subst h;exact hd,λh=>⟨c,rfl,h⟩⟩;simp[this,x6]
def upto(c:UInt8)(l:qa):qa:=l.takeWhile (·≠c)
def past(c:UInt8)(l:qa):qa:=l.drop ((upto c l).length+1)
theorem qti(c:UInt8)(l:qa)(h:c∈l):Lib.index l [c]=((upto c l).length:Int):=by
 induction l with
 |nil=>simp at h
 |cons b l ih=>
  unfold Lib.index upto;by_cases hb:b=c
  .subst hb;simp[Qg]
  .have hp:([c]:qa).isPrefixOf (b::l)=false:=by simp[Qg,Ne.symm hb]
   have hl:c∈l:=by simpa[Ne.symm hb]using h
   have e:=ih hl;rw[hp];have:(Lib.index l [c]== -1)=false:=by rw[e];simp
   simp only[this];rw[e];simp[hb,upto]
theorem qks(c:UInt8)(l:qa):l.take (upto c l).length=upto c l:=by
 induction l with
 |nil=>simp[upto]
 |cons b l ih=>
  by_cases hb:b=c
  .simp[upto,hb]
  .have:upto c (b::l)=b::upto c l:=by simp[upto,hb]
   rw[this];simp[ih]
theorem qfc{c:UInt8}{l:qa}(h:c∉l):upto c l=l:=by
 induction l with
 |nil=>rfl
 |cons b l ih=>
  have hb:b≠c:=λe=>h (by simp[e]);have:upto c (b::l)=b::upto c l:=by simp[upto,hb]
  rw[this,ih (λh'=>h (by simp[h']))]
theorem vd(c:UInt8)(l:qa):(upto c l).length<=l.length:=by
 have:=congrArg Xa (qks c l);simp at this;omega
theorem qei{c:UInt8}{l:qa}(h:c∈l):(upto c l).length<l.length:=by
 induction l with
 |nil=>simp at h
 |cons b l ih=>
  by_cases hb:b=c
  .simp[upto,hb]
  .have:upto c (b::l)=b::upto c l:=by simp[upto,hb]
   rw[this];have:=ih (by simpa[Ne.symm hb]using h);simp;omega
theorem ku(c:UInt8)(l:qa):(past c l).length=l.length-((upto c l).length+1):=by simp[past]
theorem ze2(c:UInt8)(l:qa):Lib.cut l [c]=(upto c l,past c l,decide (c∈l)):=by
 unfold Lib.cut;by_cases h:c∈l
 .rw[if_pos ((qdo l c).2 h),qti c l h]
  simp[qks,past,h]
 .rw[if_neg (λh'=>h ((qdo l c).1 h'))]
  simp[qfc h,past,h]
theorem yn{c:UInt8}{l:qa}(h:l≠[]):(past c l).length<l.length:=by
 rw[ku];have:=Zl.2 h;omega
def zv(l:qa):List (qa×Bool):=
 if h:l=[]then []else(upto 10 l,decide (10∈l))::zv (past 10 l)
 termination_by l.length
 decreasing_by exact yn h
theorem wi:zv []=[]:=by rw[zv];simp
theorem wr{l:qa}(h:l≠[]):zv l=(upto 10 l,decide (10∈l))::zv (past 10 l):=by rw[zv];simp[h]
def ym(b:Bool):qa:=if b then [10]else []
def vf(by' l:qa):qa×Bool:=
 if∀x∈zv l,by'<+:x.1 then((zv l).flatMap λx=>x.1.drop by'.length++ym x.2,true)else([],false)
theorem qe2(l m:qa):(Lib.trimPrefix l m).length<=l.length:=by
 unfold Lib.trimPrefix;split
 .simp
 .exact Qd _
theorem xw(l m:qa):Lib.hasPrefix l m=true↔m<+:l:=by
 unfold Lib.hasPrefix;exact List.isPrefixOf_iff_prefix
theorem qc3{l m:qa}(h:m<+:l):Lib.trimPrefix l m=l.drop m.length:=by
 unfold Lib.trimPrefix;rw[if_pos ((xw l m).2 h)]
theorem yj{c:UInt8}{a:qa}(r:qa)(h:c∉a):upto c (a++c::r)=a:=by
 induction a with
 |nil=>simp[upto]
 |cons b a ih=>
  have hb:b≠c:=λe=>h (by simp[e]);have h2:c∉a:=λe=>h (by simp[e]);have e:upto c (b::(a++c::r))=b::upto c (a++c::r):=by simp[upto,hb]
  rw[Qh,e,ih h2]
theorem qad{c:UInt8}{a:qa}(r:qa)(h:c∉a):past c (a++c::r)=r:=by
 unfold past;rw[yj r h,show a++c::r=(a++[c])++r by simp,show a.length+1=(a++[c]).length by simp,Qs]
theorem qar{c:UInt8}{l:qa}(h:c∈l):l=upto c l++c::past c l:=by
 induction l with
 |nil=>simp at h
 |cons b l ih=>
  by_cases hb:b=c
  .subst hb;simp[upto,past]
  .have h2:c∈l:=by simpa[Ne.symm hb]using h
   have e1:upto c (b::l)=b::upto c l:=by simp[upto,hb]
   have e2:past c (b::l)=past c l:=by simp[past,e1]
   rw[e1,e2,Qh,<-ih h2]
theorem qd7(c:UInt8)(l:qa):c∉upto c l:=by
 induction l with
 |nil=>simp[upto]
 |cons b l ih=>
  by_cases hb:b=c
  .simp[upto,hb]
  .have e1:upto c (b::l)=b::upto c l:=by simp[upto,hb]
   rw[e1];simp[Ne.symm hb,ih]
def kg(l:qa):qa:=l.takeWhile (·≠58)
theorem q2g(l:qa)(h:58∈l):Lib.index l [58]=((kg l).length:Int):=by
 induction l with
 |nil=>simp at h
 |cons b l ih=>
  unfold Lib.index kg;by_cases hb:b=58
  .subst hb;simp[Qg]
  .have hp:([58]:qa).isPrefixOf (b::l)=false:=by simp[Qg,Ne.symm hb]
   have hl:58∈l:=by simpa[Ne.symm hb]using h
   have e:=ih hl;rw[hp];have:(Lib.index l [58]== -1)=false:=by rw[e];simp
   simp only[this];rw[e];simp[hb,kg]
theorem q1i(l:qa):l.take (kg l).length=kg l:=by
 induction l with
 |nil=>simp[kg]
 |cons b l ih=>
  by_cases hb:b=58
  .simp[kg,hb]
  .have:kg (b::l)=b::kg l:=by simp[kg,hb]
   rw[this];simp[ih]
def yv(l:qa):qa:=l.drop ((kg l).length+1)
theorem qv2(l:qa):Lib.cut l [58]=if 58∈l then(kg l,yv l,true)else(l,[],false):=by
 unfold Lib.cut;by_cases h:58∈l
 .rw[if_pos ((qdo l 58).2 h),if_pos h,q2g l h]
  simp[q1i,yv]
 .rw[if_neg (λh'=>h ((qdo l 58).1 h')),if_neg h]
def qy(l:qa):Int:=
 if 10∈l then 5 else if∀c∈l,x6 c then 1 else if l.head?=some 35 then 2 else if qhh l then 3
 else if 58∈l∧qd3 (kg l)then 4 else 5
theorem q2h{l:qa}(h:10∉l)(hb:¬ ∀c∈l,x6 c):0<l.length∧qy l=if l.getD 0 0=35 then 2 else if x6 (l.getD 0 0)then 3 else if 58∈l∧qd3 (kg l)then 4 else 5:=by
 cases l with
 |nil=>simp at hb
 |cons c l=>
  have e:qhh (c::l)↔x6 c:=⟨λ⟨d,h,hd⟩=>by simp at h;subst h;exact hd,λh=>⟨c,rfl,h⟩⟩;refine⟨Sx,?_⟩;unfold qy;rw[if_neg h,if_neg hb];simp[e]
theorem qni{α:Type}(p:α->Bool)(l:List α):l.dropWhile p=[]↔∀x∈l,p x=true:=by
 induction l with
 |nil=>simp
 |cons a l ih=>
  by_cases h:p a=true
  .simp[h,ih]
  .simp[h]
theorem zbn{α:Type}(p:α->Bool)(l:List α):(l.reverse.dropWhile p).reverse.dropWhile p=[]↔∀x∈l,p x=true:=by
 rw[qni];constructor
 .intro h x hx
  by_cases hq:∀y∈l,p y=true
  .exact hq x hx
  .have hr:¬ ∀y∈l.reverse,p y=true:=λh'=>hq λy hy=>h' y (by simpa using hy)
   rw[<-qni]at hr;obtain⟨a,r,hd⟩:=List.exists_cons_of_ne_nil hr;have h1:=List.head?_dropWhile_not p l.reverse;rw[hd]at h1;have h2:=h a (by simp[hd]);simp[h2]at h1
 .intro h x hx
  exact h x (by
   have:=(List.dropWhile_sublist (l:=l.reverse) p).subset (by simpa using hx)
   simpa using this)
theorem qo4(l m:qa):Lib.trimS l m=[]↔∀c∈l,c∈m:=by
 unfold Lib.trimS Lib.trimLeftS Lib.trimRightS;rw[zbn];simp
theorem qsy(l m:qa):(Lib.cut l m).1.length<=l.length:=by
 unfold Lib.cut;split
 .simp;omega
 .simp
def y9(l:qa):Prop:=2<=l.length∧l.length<=50000∧l.getLast?=some 10∧(vf [32] l).2=true
instance (l:qa):Decidable (y9 l):=inferInstanceAs (Decidable (_∧_∧_∧_))
def qki(n:Nat)(fig:qa):qa:=[37,97,109,101,110,100,32]++Lib.itoa n++[32]++fig++[10]
def qe1(n:Nat):qa:=[37,101,110,100,32]++Lib.itoa n++[10]
theorem qir:∀(k u:Nat),u<10^(k+1)->Lib.nDigits u<=k+1
 |0,u,h=>by rw[Lib.nDigits_small (by simpa using h)];omega
 |k+1,u,h=>by
  by_cases h':u<10
  .rw[Lib.nDigits_small h'];omega
  .rw[Lib.nDigits_big h']
   have:=qir k (u / 10) (by rw[Nat.pow_succ]at h;omega);omega
theorem qjj(n:Nat)(h:n<=9223372036854775807):(Lib.itoa n).length<=19:=by
 unfold Lib.itoa;rw[if_neg Om,Lib.decDigits_length];have:((n:Int)).toNat=n:=Sx
 rw[this];exact qir 18 n Om
theorem qh5(l:qa)(c:UInt8):Lib.hasSuffix l [c]=decide (l.getLast?=some c):=by
 have:Lib.hasSuffix l [c]=true↔l.getLast?=some c:=by
  unfold Lib.hasSuffix;rw[List.isSuffixOf_iff_suffix,List.singleton_suffix_iff_getLast?_eq_some]
 by_cases h:l.getLast?=some c
 .simp[this.2 h,h]
 .have:¬Lib.hasSuffix l [c]=true:=λh'=>h (this.1 h')
  simp[this,h]
theorem atoiAll_bounds{l:qa}{v:Int}(h:Lib.atoiAll l=.ok v): -9223372036854775808<=v∧v<=9223372036854775807:=by
 unfold Lib.atoiAll at h
 cases l with
 |nil=>simp at h
 |cons c r=>
  simp only at h;split at h
  .simp at h
  .simp at h
  .split at h
   .simp at h
   .split at h
    .simp at h
    .rename_i h1 h2
     simp only[Lib.NumEnd.ok.injEq]at h;subst h;by_cases hn:c.toNat=45
     .simp only[hn,true_and,not_true,if_true]at *
      omega
     .simp only[hn,not_false_iff,true_and,if_false]at *
      omega
def vq(l:qa):Nat:=
 match Lib.atoiAll l with
 |.ok v=>if Lib.itoa v=l∧1<=v∧v<=50000 then v.toNat else 0
 |_=>0
def z6:qa:=[37,97,109,101,110,100,32]
def hexL:qa:=[48,49,50,51,52,53,54,55,56,57,97,98,99,100,101,102]
def qah(l:qa):Prop:=∀c∈l,c∈hexL
instance (l:qa):Decidable (qah l):=inferInstanceAs (Decidable (∀c∈l,c∈hexL))
theorem qxb(l:qa):Lib.trimS l [48,49,50,51,52,53,54,55,56,57,97,98,99,100,101,102]=[]↔qah l:=qo4 l hexL
def jf(l:qa):Nat×qa×Bool:=
 (vq (upto 32 (Lib.trimPrefix l z6)),past 32 (Lib.trimPrefix l z6),
  decide (z6<+:l∧32∈Lib.trimPrefix l z6∧2<=vq (upto 32 (Lib.trimPrefix l z6))∧(past 32 (Lib.trimPrefix l z6)).length=8∧qah (past 32 (Lib.trimPrefix l z6))))
def qe8(l:qa):Bool:=
 if z6<+:l then decide (¬(32∈l.drop 7∧vq (upto 32 (l.drop 7))<2)∧¬(upto 32 (l.drop 7)≠[]∧vq (upto 32 (l.drop 7))=0)∧(past 32 (l.drop 7)).length<=8∧qah (past 32 (l.drop 7)))
 else decide (l<+:z6)
theorem q0g{l:qa}(h:∀v,Lib.atoiAll l≠.ok v):vq l=0:=by
 unfold vq
 cases ho:Lib.atoiAll l with
 |ok v=>exact absurd ho (h v)
 |_=>rfl
theorem qts{l:qa}{v:Int}(h:Lib.atoiAll l=.ok v):(vq l:Int)=if Lib.itoa v=l∧1<=v∧v<=50000 then v else 0:=by
 unfold vq;rw[h];simp only;split
 .omega
 .rfl
theorem qct(l:qa):vq l<=50000:=by
 unfold vq;split
 .split
  .omega
  .omega
 .omega
def qgp(n:Int):Int:=if n<2∨50000<n then 0 else(qki n.toNat [48,48,48,48,48,48,48,48]).length+n+(qe1 n.toNat).length
theorem qh4(l m:qa):Lib.hasPrefix l m=decide (m<+:l):=by
 by_cases h:m<+:l
 .simp[(xw l m).2 h,h]
 .have:¬Lib.hasPrefix l m=true:=λh'=>h ((xw l m).1 h')
  simp[this,h]
def qd9(body:qa)(lack:Int):Int:=
 if(vf [32] body).2=true∧¬((body=[]∨body.getLast?=some 10)∧lack<2)then 2 else 3
theorem rep8:Lib.repeatL [48] 8=[48,48,48,48,48,48,48,48]:=by decide
theorem qf0(n:Nat)(f:qa):(qki n f).length=(Lib.itoa n).length+f.length+9:=by simp[qki]<;>omega
theorem qf9(n:Nat):(qe1 n).length=(Lib.itoa n).length+6:=by simp[qe1]<;>omega
theorem qcz{u:Nat}(h:¬u<10):Lib.decDigits u=Lib.decDigits (u / 10)++Lib.decDigits (u%10):=by
 rw[Lib.decDigits,dif_neg h,Lib.decDigits_one (Nat.mod_lt u Om)]
end Go.Pl
namespace Go.Proofs.YthnbabbhpeebbaaGreatDoor
open Go Go.Av Go.RowKit Go.Proofs Go.Pl
theorem qp4(l:List UInt8)(c:UInt8)(st:List AObj)(hl:l.length<4294967281):qm E 229 [Sv l,Sv [c]] st λr st'=>r=Bv (decide (c∈l))∧st'=st:=by
 rw[<-qn4];exact qsw l [c] st hl
theorem qfz(l:List UInt8)(c:UInt8)(st:List AObj):qm E 193 [Sv l,Sv [c]] st λr st'=>r=Bv (decide (l.head?=some c))∧st'=st:=by
 rw[<-qnk];exact qeo l [c] st
theorem q3a(l:List UInt8)(st:List AObj):qm E 230 [Sv l] st λr st'=>r=Bv (decide (qhh l))∧st'=st:=by
 refine ze (qw _) (qq Tryz.func230 rfl (Qa rfl) ?_)
 cases l with
 |nil=>
  repeat' (first|apply qp|apply qi|apply qh|apply ql|apply qj|(apply j5;(iterate 3 exact rfl))|(apply zn;(iterate 4 exact rfl))|(apply qcf;exact cRa)|(apply qn;exact rfl;apply pk_f;exact cRa)|apply q7)
  refine qo rfl (zt rfl) ⟨congrArg Bv (?_:_=_),_,rfl⟩
  simp[qhh]
 |cons c l=>
  have d7:¬(c::l)=[]:=Sx
  repeat' (first|apply qp|apply qi|apply qh|apply ql|apply qj|(apply j5;(iterate 3 exact rfl))|(apply zn;(iterate 4 exact rfl))|(apply qe7;exact cAo)|(apply qn;exact rfl;apply qeb;exact cAo)|apply q7|refine qek rfl rfl rfl ⟨_,rfl⟩ Om Om So ?_|(apply qk;exact Tryz.call229;exact qsw _ _ _ Sx))
  refine qo rfl (zt rfl) ⟨congrArg Bv (?_:_=_),_,rfl⟩;exact quy c l
theorem zd4(l:List UInt8)(st:List AObj)(hl:l.length<4294967281):qm E 231 [Sv l] st λr st'=>r=Bv (decide (qd3 l))∧st'=st:=by
 refine ze (qw _) (qq Tryz.func231 rfl (Qa rfl) ?_);repeat' (first|apply qp|apply qi|apply qh|apply ql|apply qj|(apply zh;(iterate 3 exact rfl))|(apply j5;(iterate 3 exact rfl))|(apply j6;exact rfl)|(apply zn;(iterate 4 exact rfl))|(apply qcq;exact cAo)|(apply qce;exact cAo)|(apply qoc;exact cRa)|(apply qmh;exact cRa)|(apply qim<;>intro h)|(apply qbl;exact cRa)|(apply xv<;>intro h)|(apply qn;exact rfl;apply qeb;exact cAo)|(apply qn;exact rfl;apply qea;exact cAo)|(apply qn;exact rfl;apply qko;exact cRa)|(apply qn;exact rfl;apply qg8;exact cRa)|(apply qn;exact rfl;apply pk_t;exact cRa)|(apply qe;exact rfl;apply cd_t;exact cRa)|(apply qe;exact rfl;apply cd_d<;>intro h)|(apply wm;(iterate 3 exact rfl))|apply za|apply q7|(apply qk;exact Tryz.call229;exact qp4 _ _ _ hl)|(apply qk;exact Tryz.call193;exact qfz _ _ _)|(apply qk;exact Tryz.call230;exact q3a _ _))
 all_goals refine qo rfl (zt rfl) ⟨congrArg Bv (?_:_=_),_,rfl⟩
 all_goals simp[qd3, *]
 all_goals omega
theorem E_ok:zdx E:=λ_ _ _ h hb hB _ h2=>h _ (hb.trans (h2.mono hB))
theorem qlk(l:List UInt8)(st:List AObj)(hl:l.length<4294967281):qm E 184 [Sv l] st λr st'=>r=Iv (qy l)∧st'=st:=by
 refine ze (qw _) (qq Tryz.func184 rfl (Qa rfl) ?_);repeat' (first|apply qp|apply zm|apply qi|apply qh|apply ql|apply qj|(apply zk;exact rfl;exact rfl)|(apply j5;(iterate 3 exact rfl))|(apply zn;(iterate 4 exact rfl))|(apply qdm;exact cRa)|(apply qcf;exact cRa)|(apply qgn<;>intro h)|(apply qn;exact rfl;apply pk_t;exact cRa)|(apply qn;exact rfl;apply pk_f;exact cRa)|(apply qe;exact rfl;apply cd_f;exact cRa)|(apply qe;exact rfl;apply cd_d<;>intro h)|apply za|apply q7|(apply qk;exact Tryz.call229;exact qp4 _ _ _ hl)|(apply qk;exact Tryz.call47;exact zan _ _ _ Om Sx (by intro j b h;match j with |0=>simp at h;subst h;decide |1=>simp at h;subst h;decide|j+2=>simp at h))|(apply qk;exact Tryz.call193;exact qfz _ _ _)|(apply qk;exact Tryz.call230;exact q3a _ _)|(apply qk;exact Tryz.call146;exact qsx _ _ _ hl)|(apply qk;exact Tryz.call231;exact zd4 _ _ (Zn (qsy _ _) hl)))
 all_goals refine qo rfl (zt rfl) ⟨congrArg Iv (?_:_=_),_,rfl⟩
 all_goals have hb:Lib.trimS l [32,9]=[]↔∀c∈l,x6 c:=by rw[qo4];simp[x6]
 all_goals by_cases hA:∀c∈l,x6 c<;>by_cases hC:58∈l<;>by_cases hK:qd3 (kg l)<;>simp_all[qy,qv2]
end Go.Proofs.YthnbabbhpeebbaaGreatDoor
namespace Go.Proofs
open Go.Shelf Go.RowKit
variable {P : Program} {ρ : Ren}
set_option maxHeartbeats 4000000 in
theorem qsr(L:Lays.n169 P ρ)(X:Builder.Extra P ρ)(b n c:Nat)(ad:Option Addr)(q:Value)(str:ByteArray)(w w2:World)(c1:w.drew.cell? ⟨b,1,none⟩=some (.slice ad n c))
  (hSD:(Builtin.unsafeSliceData_ #[(ρ.t 37)] (ρ.t 127) #[.slice ad n c]).run P w.drew=.ok q w.drew)
  (hUS:(Builtin.unsafeString_ #[(ρ.t 127),(ρ.t 3)] (ρ.t 9) #[q,.int .i64 n]).run P w.drew=.ok (.string str) w2):
  Calls P (ρ.f 169) #[.pointer (some ⟨b,0,none⟩)] w λe w'=>e=.returned (.string str)∧w'=w2:=by
 have mixed:=L.mixed;have t72:=L.t72;have a72:=L.a72;have z72:=L.z72;have v72:=L.v72;have u72:=run_underlying L.t72;have t70:=L.t70;have a70:=L.a70;have z70:=L.z70;have v70:=L.v70;have u70:=run_underlying L.t70;have t37:=L.t37;have a37:=L.a37;have z37:=L.z37;have v37:=L.v37;have u37:=run_underlying L.t37;have t127:=L.t127;have a127:=L.a127;have z127:=L.z127;have v127:=L.v127;have u127:=run_underlying L.t127;have t3:=L.t3;have a3:=L.a3;have z3:=L.z3;have v3:=L.v3;have u3:=run_underlying L.t3;have t9:=L.t9;have a9:=L.a9;have z9:=L.z9;have v9:=L.v9;have u9:=run_underlying L.t9;have t5:=X.t5;have a5:=X.a5;have z5:=X.z5;have v5:=X.v5;have u5:=run_underlying X.t5
 go_enter L.f169,Body.n169_ntmps ρ
 go_wp2
 go_region_o
 all_goals (go_wp2;go_ret;exact⟨rfl,rfl⟩)
end Go.Proofs
namespace Go.Proofs.YthnbabbhpeebbaaGreatDoor
open Go Go.Av Go.RowKit Go.Proofs
@[reducible] def bldO (ver : Nat) (q : AV) (l : List UInt8) (tp : Nat) : AObj := .cells ver 193 [q, .sl 1 (l.map Uv) (some tp)]
theorem q0b(v:Value)(w:World):(callFunc 224 #[v]).run E.P w=.ok (.value v) w:=by
 have h:=run_callFunc_extern (P:=E.P) Tryz.func224 Kr Kr Kr (e:=Extern.AbiNoEscape.same) Kr #[v] w;rw[h,Lib.run_noEscape];rfl
theorem q3d(o ver:Nat)(q buf:AV)(st:List AObj)(ho:st[o]?=some (.cells ver 193 [q,buf]))(hq:q=.v (.pointer none)∨q=.bx o ver 0):
  qm E 175 [.bx o ver 0] st λr st'=>r=.tu []∧st'=st.set o (.cells ver 193 [.bx o ver 0,buf]):=by
 have e7:(st++[])[o]?=some (.cells ver 193 [q,buf]):=by rw[Qf];exact ho
 refine qq Tryz.func175 rfl (Qa rfl) ?_;rcases hq with rfl|rfl
 .skip
  repeat' (first|apply qp|apply qi|apply qh|apply ql|(apply qe;exact rfl;apply cd_t;exact cRa)|(apply zr;(iterate 3 exact rfl))|(apply xu;exact rfl;exact rfl)|(apply qcx;(iterate 3 exact rfl))|(apply kh;exact rfl;exact e7;exact rfl;exact rfl)|(apply yo;exact rfl;exact rfl;exact e7;(iterate 6 exact rfl))|(apply qxj;exact rfl;exact e7;(simp);exact rfl;exact rfl;kernel_rfl)|(apply qsg;exact rfl;exact e7;(iterate 3 exact rfl);kernel_rfl)|(apply qxh;exact q0b;exact rfl))
  refine qo rfl (qbe rfl) ⟨rfl,?_⟩
  show(st++[]).set o _=_
  rw[Qf];rfl
 .skip
  repeat' (first|apply qp|apply qi|apply qh|apply ql|(apply qe;exact rfl;apply cd_f;exact cRa)|(apply zr;(iterate 3 exact rfl))|(apply xu;exact rfl;exact rfl)|(apply qcx;(iterate 3 exact rfl))|apply za|(apply kh;exact rfl;exact e7;exact rfl;exact rfl)|(apply qum;exact rfl;exact rfl;exact e7;exact rfl;exact rfl))
  refine qo rfl (qbe rfl) ⟨rfl,?_⟩
  show st++[]=_
  rw[Qf,zdf ho]
theorem q3j:yr E.P 5 1 1:=⟨_,_,rfl,rfl,rfl,rfl,rfl⟩
theorem qyq(o ver tp:Nat)(q:AV)(l m:List UInt8)(st:List AObj)(ho:st[o]?=some (bldO ver q l tp))(ht:st[tp]?=some (.tip l.length 1 5))(hq:q=.v (.pointer none)∨q=.bx o ver 0)(b9:l.length+m.length<=140737488355328):
  qm E 130 [.bx o ver 0,Sv m] st λr st'=>r=.tu [Iv m.length,.v .nilIface]∧st'=(st.set o (bldO ver (.bx o ver 0) (l++m) tp)).set tp (.tip (l.length+m.length) 1 5):=by
 have d7:tp≠o:=λe=>by rw[e,ho]at ht;simp at ht
 have e7:(st++[])[o]?=some (bldO ver q l tp):=by rw[Qf];exact ho
 have ht':(st++[])[tp]?=some (.tip l.length 1 5):=by rw[Qf];exact ht
 have h2:=ke (y:=.cells ver 193 [.bx o ver 0,.sl 1 (l.map Uv) (some tp)]) e7;have h3:=kq (y:=.cells ver 193 [.bx o ver 0,.sl 1 (l.map Uv) (some tp)]) ht' (Ne.symm d7);have h4:=kq (y:=.tip (l.length+m.length) 1 5) h2 d7;have h5:maxLen=140737488351232∨True:=.inr trivial;refine qq Tryz.func130 rfl (Qa rfl) ?_;repeat' (first|apply qp|apply qi|apply qh|apply ql|apply qj|(apply wm;(iterate 3 exact rfl))|(apply zr;(iterate 3 exact rfl))|(apply xu;exact rfl;exact rfl)|apply q7|(apply qk;exact Tryz.call175;exact q3d o ver q _ (st++[]) e7 hq)|(apply kh;exact rfl;exact h2;exact rfl;exact rfl)|(apply qyb;exact rfl;exact rfl;exact h3;(simp);exact rfl;exact rfl;exact q3j;(simp only[maxLen];omega);omega)|(apply yo;exact rfl;exact rfl;exact h4;(iterate 6 exact rfl)))
 refine qo rfl (wz rfl) ⟨rfl,?_⟩
 show(((st++[]).set o _).set tp _).set o (.cells ver 193 [.bx o ver 0,.sl 1 (l.map Uv++m.map Uv) (some tp)])=_
 rw[Qf,Zu _ _ d7,Zw,<-Zt]
theorem zeo(o ver tp:Nat)(q:AV)(l:List UInt8)(c:UInt8)(st:List AObj)(ho:st[o]?=some (bldO ver q l tp))(ht:st[tp]?=some (.tip l.length 1 5))(hq:q=.v (.pointer none)∨q=.bx o ver 0)(b9:l.length+1<=140737488355328):
  qm E 180 [.bx o ver 0,Uv c] st λr st'=>r=.v .nilIface∧st'=(st.set o (bldO ver (.bx o ver 0) (l++[c]) tp)).set tp (.tip (l.length+1) 1 5):=by
 have d7:tp≠o:=λe=>by rw[e,ho]at ht;simp at ht
 have e7:(st++[])[o]?=some (bldO ver q l tp):=by rw[Qf];exact ho
 have ht':(st++[])[tp]?=some (.tip l.length 1 5):=by rw[Qf];exact ht
 have h2:=ke (y:=.cells ver 193 [.bx o ver 0,.sl 1 (l.map Uv) (some tp)]) e7;have h3:=kq (y:=.cells ver 193 [.bx o ver 0,.sl 1 (l.map Uv) (some tp)]) ht' (Ne.symm d7);have h4:=kq (y:=.tip (l.length+1) 1 5) h2 d7;refine qq Tryz.func180 rfl (Qa rfl) ?_;repeat' (first|apply qp|apply qi|apply qh|apply ql|apply qj|(apply zr;(iterate 3 exact rfl))|(apply xj;(iterate 9 exact rfl))|(apply xu;exact rfl;exact rfl)|apply q7|(apply qk;exact Tryz.call175;exact q3d o ver q _ (st++[]) e7 hq)|(apply kh;exact rfl;exact h2;exact rfl;exact rfl)|(apply qpv (m:=1);exact rfl;exact rfl;exact h3;(simp);exact rfl;exact rfl;exact q3j;exact rfl;exact rfl;(simp only[maxLen];omega);omega)|(apply yo;exact rfl;exact rfl;exact h4;(iterate 6 exact rfl)))
 refine qo rfl (zt rfl) ⟨rfl,?_⟩
 show(((st++[]).set o _).set tp _).set o (.cells ver 193 [.bx o ver 0,.sl 1 (l.map Uv++[c].map Uv) (some tp)])=_
 rw[Qf,Zu _ _ d7,Zw,<-Zt]
theorem qvv(o ver tp:Nat)(q:AV)(l:List UInt8)(st:List AObj)(ho:st[o]?=some (bldO ver q l tp))(ht:st[tp]?=some (.tip l.length 1 5)):
  qm E 133 [.bx o ver 0] st λr st'=>r=Sv l∧st'=st.set tp .dead:=by
 refine⟨λB0 w0 G vals w hL hA hR=>?_⟩;obtain⟨h0,h1,h2,h3,c,h4,h5,h6⟩:=hA.ob o _ ho;obtain⟨g0,g1,g2⟩:=hA.ob tp _ ht;have d7:tp≠o:=λe=>by rw[e,ho]at ht;simp at ht
 have hvals:vals= #[.pointer (some ⟨(G.ob o).blk,0,none⟩)]:=by
  have hs:vals.size=1:=by have:=hR.1;simpa using this.symm
  have h:=hR.2 0 (.bx o ver 0) vals[0] rfl (by simp[hs]);apply Xd
  .simp[hs]
  .intro i hi1 mc
   have:i=0:=by simp at mc;omega
   subst this
   have e:vals[0]=.pointer (some ⟨(G.ob o).blk,0,none⟩):=by
    generalize vals[0]=v at h
    cases h with
    |bx _ _ _ b hn e1 e2=>rw[e2 h1]
   simpa using e
 subst hvals;have hc2:c.size=2:=by rw[<-h5];rfl
 have m8:=h6 1 (.sl 1 (l.map Uv) (some tp)) c[1] rfl (by simp[hc2])
 have s9:w.drew.cell? ⟨(G.ob o).blk,1,none⟩=some c[1]:=by
  have h4':w.drew.heap[(G.ob o).blk]?=some (.cells c 193 (0,0)):=h4;simp[World.cell?,h4',hc2]
 generalize hv:c[1]=v at m8 s9;have cq:Below w.heap.size w w.drew:=⟨rfl,rfl,rfl,Qd _,λ_ _=>rfl⟩;have gq:=(hA.kill tp).fresh cq;have hl:(l.map Uv).length=l.length:=Sx
 generalize rf:l.map Uv=xs at m8
 cases m8 with
 |sl0 _ _ base cap hto=>
  obtain⟨_,rfl,rfl⟩:=hto tp rfl;have pk:l=[]:=by simpa using rf
  subst pk;refine(qsr Tryz.lays169 Tryz.Builder_Extra_169 (G.ob o).blk 0 0 none (.pointer none) .empty w w.drew s9 rfl (Lib.run_unsafeString_none w.drew _ _ _ none)).mono ?_;rintro e w' ⟨rfl,rfl⟩
  exact⟨_,G,Sv [],_,rfl,.refl G,gq,.v _,rfl,rfl⟩
 |sl _ _ _ b off cap pub hp hw b9 hr hto hcap0=>
  subst rf;rw[hl]at hto s9;obtain⟨_,sg,_,hcur⟩:=hto tp rfl;obtain⟨hb,rfl,hcp,tn,pg⟩:=hcur g1;obtain⟨hB,c2,vs,e1,e2,e3,e4⟩:=g2 sg;rw[hb]at e1 e2 hB
  have hcells:∀j x,l[j]?=some x->w.drew.cell? ((⟨b,0,none⟩:Addr).add j)=some (.int .u8 x.toNat):=λj x hx=>by
   obtain⟨c3,T3,fz3,k1,k2⟩:=hA.pub b pub hp;have k1':w.drew.heap[b]?=some (.cells c3 T3 fz3):=k1;have hj:j<(flat (l.map Uv)).length:=by rw[qij];simpa using lt_of_getElem? hx
   have hy:pub[0+j]?=some (pub[0+j]'(by omega)):=List.getElem?_eq_getElem Om;have hrj:=hr j (Uv x) _ (by rw[qij];simp[hx]) hy
   have:pub[0+j]'(by omega)=.int .u8 x.toNat:=by
    generalize pub[0+j]'(by omega)=y at hrj
    cases hrj;rfl
   rw[this]at hy;rw[Addr.add_lit];simp only[World.cell?,k1']
   simpa using k2 _ _ hy
  have d8:l.length<=c2.size:=by rw[e4,<-hcp];omega
  have e1':w.drew.heap[b]?=some (.cells c2 5 (0,0)):=e1;have hUS:=Lib.run_unsafeString_row (P:=E.P) w.drew 255 3 9 5 rfl Kr b c2.size (by simp[World.shape?,e1']) l (by rintro rfl;exact sg rfl) d8 (by simp only[maxLen]at tn;omega) hcells;have hSD:(Builtin.unsafeSliceData_ #[191] 255 #[.slice (some ⟨b,0,none⟩) l.length cap]).run E.P w.drew=.ok (.pointer (some ⟨b,0,none⟩)) w.drew:=Lib.run_unsafeSliceData_row _ _ _ _ _ _ Om;refine(qsr Tryz.lays169 Tryz.Builder_Extra_169 (G.ob o).blk l.length cap (some ⟨b,0,none⟩) _ _ w _ s9 hSD hUS).mono ?_;rintro e w' ⟨rfl,rfl⟩
  have hfz:∃fz',(w.drew.freeze ⟨b,0,none⟩ l.length).heap[b]?=some (.cells c2 5 fz'):=by
   unfold World.freeze;rw[if_neg sg];simp[Zi,e1']
  obtain⟨fz',hfz⟩:=hfz
  have t8:∀k,k≠b->(w.drew.freeze ⟨b,0,none⟩ l.length).heap[k]?=w.drew.heap[k]?:=λk hk=>by
   unfold World.freeze;rw[if_neg sg];simp[Zi,Ne.symm hk]
  refine⟨_,G,Sv l,_,rfl,.refl G,gq.refroze e1' hfz t8 hB (by unfold World.freeze;rw[if_neg sg];simp) (by unfold World.freeze;rw[if_neg sg]) (by unfold World.freeze;rw[if_neg sg]) (by unfold World.freeze;rw[if_neg sg]) (λk x hx hlv=>?_),.v _,rfl,rfl⟩;rcases getElem?_set' _ _ _ _ _ hx with⟨_,e⟩|⟨k1,k2⟩
  .subst e;exact hlv.elim
  .have:=hA.sep k tp x _ k1 k2 ht hlv sg
   rwa [hb]at this
theorem q7i(st loc loc':List AObj)(k kt ver:Nat)(q:AV)(l:List UInt8)(c:UInt8)(hk:loc[k]?=some (bldO ver q l (st.length+kt)))(rm:loc[kt]?=some (.tip l.length 1 5))(hq:q=.v (.pointer none)∨q=.bx (st.length+k) ver 0)
  (b9:l.length+1<=140737488355328) (hl:loc'=(loc.set k (bldO ver (.bx (st.length+k) ver 0) (l++[c]) (st.length+kt))).set kt (.tip (l++[c]).length 1 5)):
  qm E 180 [.bx (st.length+k) ver 0,Uv c] (st++loc) λr st'=>r=.v .nilIface∧st'=st++loc':=by
 refine(zeo (st.length+k) ver (st.length+kt) q l c (st++loc) (jl hk) (jl rm) hq b9).mono λr st' ⟨h1,h2⟩=>⟨h1,?_⟩;rw[h2,x9,x9,hl,Qv];rfl
end Go.Proofs.YthnbabbhpeebbaaGreatDoor
namespace Go.Proofs.YthnbabbhpeebbaaGreatDoor
open Go Go.Av Go.RowKit Go.Proofs Go.Pl
theorem qi9(l:List UInt8)(c:UInt8)(st:List AObj)(hl:l.length<4294967281):qm E 146 [Sv l,Sv [c]] st λr st'=>r=.tu [Sv (upto c l),Sv (past c l),Bv (decide (c∈l))]∧st'=st:=by
 have:=qsx l [c] st hl;rw[ze2]at this;exact this
@[reducible] def qd5 (k : Nat) (text rest : List UInt8) : AV := .ag [Iv k, Iv ((text.length : Int) - rest.length), Sv (upto 10 rest), Bv (decide (10 ∈ rest))]
theorem zdi(text:List UInt8)(o kb ver n:Nat)(I:Nat->List UInt8->List AObj->Prop)(D:List AObj->Prop)(st:List AObj)(ht:text.length<4294967281)(h0:I 0 text st)
  (hI:∀k rest st',I k rest st'->st'.length=n∧st'[kb]?=some (.cells ver 9 [Sv text]))
  (hY:∀k rest st' own,I k rest st'->rest≠[]->rest.length<=text.length->qaf E o [qd5 k text rest] (st'++[own]) λb st2=>∃st3,st2=st3++[own]∧(b=true->I (k+1) (past 10 rest) st3)∧(b=false->D st3)):
  qm E 183 [.yd o,.bx kb ver 0] st λr st'=>∃st3 ext',st'=st3++ext'∧((∃k,I k [] st3)∨D st3):=by
 refine qq Tryz.func183 rfl (Qa rfl) ?_;obtain⟨hn,hb⟩:=hI 0 text st h0;subst hn;repeat' (first|apply qp|apply zm|apply qi|apply qh|apply qj|(apply kj;exact rfl;exact rfl)|(apply jt;(iterate 11 exact rfl))|(apply yc;(iterate 3 exact rfl))|(apply qcw;exact rfl;exact rfl;exact hb;exact rfl;exact rfl))
 refine xy (λ(x:Nat×List UInt8)s=>match x with|(k,rest)=>∃stk at' ta eb,I k rest stk∧k+rest.length<=text.length∧at'=(text.length:Int)-rest.length∧StA [(0,.yd o),(1,.bx kb ver 0),(3,.bx (st.length+0) 0 0),(4,Sv rest)] (stk++(.cells 0 221 [Iv k,Iv at',Sv ta,Bv eb]::[])) [] s) (λx=>x.2.length) (0,text)
  ⟨st,0,[],false,h0,Sx,Sx,?_⟩ ?_
 .exact xp ⟨rfl,rfl,rfl,rfl,trivial⟩
 rintro⟨k,rest⟩ _ ⟨stk,_,ta,eb,hi,d8,rfl,t,rfl⟩;obtain⟨hn,lx⟩:=hI k rest stk hi;repeat' (first|apply qp|apply zm|apply qi|apply qh|apply ql|apply qj|(apply zk;exact rfl;exact rfl)|(apply j5;(iterate 3 exact rfl))|(apply qe;exact rfl;apply cd_d<;>intro h)|(apply zr;(iterate 3 exact rfl))|apply za|apply wd|(apply qk;exact Tryz.call146;exact qi9 _ _ _ Om)|(apply qbc;exact rfl;assumption;(iterate 10 exact rfl))|(apply qb6;exact rfl;assumption;(iterate 4 exact rfl)))
 .refine qgb rfl ((hY k rest stk _ hi h Om).mono ?_)
  rintro b _ ⟨st3,rfl,h1,h2⟩
  cases b
  .skip
   repeat' (first|apply qh|(apply j6;exact rfl)|(apply qe;exact rfl;apply qpc;exact cRa)|apply q7)
   refine qo rfl (qbe rfl) ⟨st3,_,rfl,.inr (h2 rfl)⟩
  .have hi3:=h1 rfl
   obtain⟨hn3,td⟩:=hI _ _ _ hi3;have hp:=ku 10 rest;have hr0:0<rest.length:=Zl.2 h;repeat' (first|apply qp|apply qi|apply qh|apply ql|(apply j6;exact rfl)|(apply qe;exact rfl;apply qsu;exact cRa)|(apply wm;(iterate 3 exact rfl))|(apply jw;exact rfl;exact rfl;exact zu Om Om)|(apply qcj;exact rfl;exact rfl;exact zu Om Om)|(apply zr;(iterate 3 exact rfl))|apply za|(apply qcw;exact rfl;exact rfl;exact td;exact rfl;exact rfl)|(apply qbc;exact rfl;assumption;(iterate 10 exact rfl))|(apply qb6;exact rfl;assumption;(iterate 4 exact rfl)))
   exact⟨(k+1,past 10 rest),⟨st3,_,_,_,hi3,Om,rfl,xp ⟨rfl,rfl,rfl,rfl,trivial⟩⟩,by simp only;omega⟩
 .have hr:rest=[]:=Classical.not_not.1 h
  subst hr;exact qo rfl (qbe rfl) ⟨stk,_,rfl,.inl ⟨k,hi⟩⟩
theorem qvi(text:List UInt8)(st st':List AObj)(n:Nat)(hn:st.length=n)(d9:st++[.cells 0 9 [Sv text]]=st'):qm E 143 [Sv text] st λr st1=>r=.fn (.func 183) [] [.bx n 0 0]∧st1=st':=by
 subst hn;subst d9;refine qq Tryz.func143 rfl (Qa rfl) ?_;repeat' (first|apply qp|apply qi|apply qh|apply qj|apply qev|(apply qch;(iterate 4 exact rfl))|apply q7)
 exact qo rfl (zt rfl) ⟨rfl,rfl⟩
theorem q4z(st loc loc':List AObj)(k kt ver:Nat)(q:AV)(l m:List UInt8)(hk:loc[k]?=some (bldO ver q l (st.length+kt)))(rm:loc[kt]?=some (.tip l.length 1 5))(hq:q=.v (.pointer none)∨q=.bx (st.length+k) ver 0)
  (b9:l.length+m.length<=140737488355328) (hl:loc'=(loc.set k (bldO ver (.bx (st.length+k) ver 0) (l++m) (st.length+kt))).set kt (.tip (l++m).length 1 5)):
  qm E 130 [.bx (st.length+k) ver 0,Sv m] (st++loc) λr st'=>r=.tu [Iv m.length,.v .nilIface]∧st'=st++loc':=by
 refine(qyq (st.length+k) ver (st.length+kt) q l m (st++loc) (jl hk) (jl rm) hq b9).mono λr st' ⟨h1,h2⟩=>⟨h1,?_⟩;rw[h2,x9,x9,hl,Qv]
theorem qp1(st loc loc':List AObj)(k kt ver:Nat)(q:AV)(l:List UInt8)(hk:loc[k]?=some (bldO ver q l (st.length+kt)))(rm:loc[kt]?=some (.tip l.length 1 5))(hl:loc'=loc.set kt .dead):
  qm E 133 [.bx (st.length+k) ver 0] (st++loc) λr st'=>r=Sv l∧st'=st++loc':=by
 refine(qvv (st.length+k) ver (st.length+kt) q l (st++loc) (jl hk) (jl rm)).mono λr st' ⟨h1,h2⟩=>⟨h1,?_⟩;rw[h2,x9,hl]
@[reducible] def dedL (st : List AObj) (by' text : List UInt8) (q : AV) (acc : List UInt8) (lp : AObj) : List AObj :=
 [.cells 0 9 [Sv by'],.cells 0 9 [Sv []],.cells 0 4 [Bv false],bldO 0 q acc (st.length+5),.cells 0 9 [Sv text],.tip acc.length 1 5,.dfr,lp]
theorem qy6(text by':List UInt8)(st:List AObj)(hl:text.length<4294967281):qm E 227 [Sv text,Sv by'] st λr st'=>r=.tu [Sv (vf by' text).1,Bv (vf by' text).2]∧st'=st:=by
 refine ze (qwy _ _) (qq Tryz.func227 rfl (Qa rfl) ?_);repeat' (first|apply qp|apply qi|apply qh|apply ql|(apply kj;exact rfl;exact rfl)|(apply qch;(iterate 4 exact rfl)))
 refine qk Tryz.call143 (qvi text _ (st++[.cells 0 9 [Sv by'],.cells 0 9 [Sv []],.cells 0 4 [Bv false],.cells 0 193 [.v (.pointer none),zf],.cells 0 9 [Sv text]]) (st.length+4) ?_ ?_) ?_
 .show(st++[_,_,_,_]).length=_
  simp
 .show(st++[_,_,_,_])++[_]=_
  rw[Qb];rfl
 repeat' (first|apply zm|apply qh)
 refine qp0 (o:=st.length+3) (j:=1) (sz:=1) (T':=5) (jl rfl) rfl ?_
 refine qfg [(3,.bx (st.length+0) 0 0),(4,.bx (st.length+1) 0 0),(5,.bx (st.length+2) 0 0),(6,.bx (st.length+3) 0 0),(11,.fn (.func 183) [] [.bx (st.length+4) 0 0])]
  (st++[.cells 0 9 [Sv by'],.cells 0 9 [Sv []],.cells 0 4 [Bv false],bldO 0 (.v (.pointer none)) [] (st.length+5),.cells 0 9 [Sv text],.tip 0 1 5]) [] ⟨rfl,rfl,rfl,rfl,rfl,trivial⟩ ?_ rfl (λt=>?_)
 .show(st++[_,_,_,_,_]).set (st.length+3) (.cells 0 193 [_,.sl 1 [] (some (st++[_,_,_,_,_]).length)])++[_]=_
  rw[x9,Qb];simp
 refine ql2 (st:=st) (loc:=[.cells 0 9 [Sv by'],.cells 0 9 [Sv []],.cells 0 4 [Bv false],bldO 0 (.v (.pointer none)) [] (st.length+5),.cells 0 9 [Sv text],.tip 0 1 5]) rfl rfl Tryz.call183 λF hF=>?_
 refine qm.mono (zdi text (st.length+7) (st.length+4) 0 (st.length+8)
  (λ_ rest st'=>∃q acc don,(q=.v (.pointer none)∨q=.bx (st.length+3) 0 0)∧zv text=don++zv rest∧(∀x∈don,by'<+:x.1)∧acc=don.flatMap (λx=>x.1.drop by'.length++ym x.2)∧acc.length+rest.length<=text.length∧st'=st++dedL st by' text q acc (F .ready none))
  (λst'=>(¬ ∀x∈zv text,by'<+:x.1)∧∃q acc,st'=st++dedL st by' text q acc (F .done (some .ret)))
  (st++dedL st by' text (.v (.pointer none)) [] (F .ready none)) hl ⟨_,[],[],.inl rfl,rfl,Sx,rfl,Sx,rfl⟩ ?_ ?_) ?_
 .rintro k rest _ ⟨q,acc,don,hq,h1,h2,h3,h4,rfl⟩
  exact⟨Sx,jl rfl⟩
 .rintro k rest _ own ⟨q,acc,don,hq,h1,h2,h3,h4,rfl⟩ d7 d8
  refine q12 ?_;rw[Qb];refine qqy hF (jl rfl) rfl λl=>?_;repeat' (first|apply qi|apply qh|(apply kj;exact rfl;exact rfl)|(apply jt;(iterate 11 exact rfl)))
  refine⟨jl rfl,rfl,?_⟩
  refine qfg [(3,.bx (st.length+0) 0 0),(4,.bx (st.length+1) 0 0),(5,.bx (st.length+2) 0 0),(6,.bx (st.length+3) 0 0),(7,.bx (st.length+9) 0 0)]
   (st++(dedL st by' text q acc (F .busy none)++[own,.cells 0 221 (qd5 k text rest).cells])) [] ⟨rfl,rfl,rfl,rfl,rfl,trivial⟩ ?_ rfl (λt=>?_)
  .show(st++(dedL st by' text q acc (F .ready none)++[own,_])).set (st.length+7) _=_
   rw[x9];rfl
  have db:=qe2 (upto 10 rest) by';have gp:=vd 10 rest;have dq:(upto 10 rest,decide (10∈rest))∈zv text:=by rw[h1,wr d7];simp
  have nv:=wr d7;have gm:=ku 10 rest;have e8:10∈rest->(upto 10 rest).length<rest.length:=qei;repeat' (first|apply qp|apply zm|apply qi|apply qh|apply ql|apply qj|(apply zk;exact rfl;exact rfl)|(apply j6;exact rfl)|(apply qe;exact rfl;apply cd_n<;>intro h)|(apply qe;exact rfl;apply cd_d<;>intro h)|(apply zr;(iterate 3 exact rfl))|(apply ve;(iterate 5 exact rfl))|(apply jt;(iterate 11 exact rfl))|apply za|apply q7|(apply qk;exact Tryz.call240;exact qem _ _ _)|(refine qk Tryz.call130 (q4z st _ _ 3 5 0 _ _ _ rfl rfl ?_ ?_ rfl) ?_;(first|exact hq|exact .inr rfl);(first|omega|(simp;omega))))
  .have hno:¬ ∀x∈zv text,by'<+:x.1:=λi6=>by
    have:=(xw _ _).2 (i6 _ dq);simp_all
   refine⟨jl rfl,st++(dedL st by' text q acc (F .done (some .ret))++[own]),[.cells 0 221 (qd5 k text rest).cells],?_,?_,st++dedL st by' text q acc (F .done (some .ret)),(Qb _ _ _).symm,nofun,λ_=>⟨hno,q,acc,rfl⟩⟩
   .show(st++_).set (st.length+7) _=_
    rw[x9,Qb st];rfl
   .exact qkk (.same _ (.same _ (.same _ (.same _ (.same _ (.same _ (.same _ (q5t hF (qin _ _))))))))) st
  all_goals
   have pw:by'<+:upto 10 rest:=(xw _ _).1 (by simp_all);have htp:=qc3 pw
  .refine⟨jl rfl,st++(dedL st by' text (.bx (st.length+3) 0 0) (acc++Lib.trimPrefix (upto 10 rest) by'++[10]) (F .ready none)++[own]),[.cells 0 221 (qd5 k text rest).cells],?_,?_,
    st++dedL st by' text (.bx (st.length+3) 0 0) (acc++Lib.trimPrefix (upto 10 rest) by'++[10]) (F .ready none),(Qb _ _ _).symm,λ_=>⟨_,_,don++[(upto 10 rest,true)],.inr rfl,?_,?_,?_,?_,rfl⟩,nofun⟩
   .show(st++_).set (st.length+7) _=_
    rw[x9,Qb st];rfl
   .refine qkk (.same _ (.same _ (.same _ (.cut (qp6 ?_) (.same _ (.cut qv0 (.same _ (q5t hF (qin _ _))))))))) st
    intro x hx;simp only[Qy,Zs,or_false]at hx;rcases hx with rfl|rfl
    .exact q7z Sx
    .exact qv1 Sx
   .rw[h1,nv];simp_all
   .intro x hx
    rcases Qj.1 hx with hx|hx
    .exact h2 x hx
    .simp at hx;subst hx;exact pw
   .rw[h3,htp];simp[ym]
   .have:=e8 (by assumption)
    simp;omega
  .refine⟨jl rfl,st++(dedL st by' text (.bx (st.length+3) 0 0) (acc++Lib.trimPrefix (upto 10 rest) by') (F .ready none)++[own]),[.cells 0 221 (qd5 k text rest).cells],?_,?_,
    st++dedL st by' text (.bx (st.length+3) 0 0) (acc++Lib.trimPrefix (upto 10 rest) by') (F .ready none),(Qb _ _ _).symm,λ_=>⟨_,_,don++[(upto 10 rest,false)],.inr rfl,?_,?_,?_,?_,rfl⟩,nofun⟩
   .show(st++_).set (st.length+7) _=_
    rw[x9,Qb st];rfl
   .refine qkk (.same _ (.same _ (.same _ (.cut (qp6 ?_) (.same _ (.cut qv0 (.same _ (q5t hF (qin _ _))))))))) st
    intro x hx;simp only[Qy,Zs,or_false]at hx;rcases hx with rfl|rfl
    .exact q7z Sx
    .exact qv1 Sx
   .rw[h1,nv];simp_all
   .intro x hx
    rcases Qj.1 hx with hx|hx
    .exact h2 x hx
    .simp at hx;subst hx;exact pw
   .rw[h3,htp];simp[ym]
   .simp
    omega
 .rintro r st' ⟨st3,ext,rfl,⟨k,q,acc,don,hq,h1,h2,h3,h4,rfl⟩|⟨hno,q,acc,rfl⟩⟩
  .refine⟨.ready,none,nofun,by rw[Qb];exact jl rfl,?_⟩
   refine qfg [(4,.bx (st.length+1) 0 0),(5,.bx (st.length+2) 0 0),(6,.bx (st.length+3) 0 0)] (st++(dedL st by' text q acc .dead++ext)) [st.length+6] ⟨rfl,rfl,rfl,trivial⟩ ?_ rfl (λt=>?_)
   .show((st++_)++ext).set (st.length+7) _=_
    rw[Qb,x9];rfl
   repeat' (first|apply qp|apply qi|apply qh|(apply jt;(iterate 11 exact rfl))|apply q7|(refine qk Tryz.call133 (qp1 st _ _ 3 5 0 _ _ rfl rfl rfl) ?_))
   refine qnh rfl rfl rfl (qo rfl (qk9 rfl rfl rfl rfl rfl rfl rfl rfl rfl rfl) ⟨zeb (?_:_=_),_,rfl⟩);rw[wi,Qf]at h1;unfold vf;rw[h1,if_pos h2,h3]
  .refine⟨.done,some .ret,nofun,by rw[Qb];exact jl rfl,?_⟩
   refine qfg [(4,.bx (st.length+1) 0 0),(5,.bx (st.length+2) 0 0),(6,.bx (st.length+3) 0 0)] (st++(dedL st by' text q acc .dead++ext)) [st.length+6] ⟨rfl,rfl,rfl,trivial⟩ ?_ rfl (λt=>?_)
   .show((st++_)++ext).set (st.length+7) _=_
    rw[Qb,x9];rfl
   repeat' (first|apply q7)
   refine qnh rfl rfl rfl (qo rfl (qk9 rfl rfl rfl rfl rfl rfl rfl rfl rfl rfl) ⟨zeb (?_:_=_),_,rfl⟩);unfold vf;rw[if_neg hno]
theorem qth(l:List UInt8)(st:List AObj)(hl:l.length<4294967281):qm E 179 [Sv l] st λr st'=>r=Bv (vf [32] l).2∧st'=st:=by
 refine ze (qw _) (qq Tryz.func179 rfl (Qa rfl) ?_);repeat' (first|apply qp|apply qi|apply qh|apply ql|apply qj|(apply zk;exact rfl;exact rfl)|apply q7|(apply qk;exact Tryz.call227;exact qy6 _ _ _ hl))
 exact qo rfl (zt rfl) ⟨rfl,_,rfl⟩
theorem q8l(l:List UInt8)(st:List AObj)(hl:l.length<4294967281):qm E 134 [Sv l] st λr st'=>r=Bv (decide (y9 l))∧st'=st:=by
 refine ze (qw _) (qq Tryz.func134 rfl (Qa rfl) ?_);repeat' (first|apply qp|apply qi|apply qh|apply ql|apply qj|(apply zh;(iterate 3 exact rfl))|(apply j6;exact rfl)|(apply zn;(iterate 4 exact rfl))|(apply qcq;exact cAo)|(apply qce;exact cAo)|(apply qbl;exact cRa)|(apply xv<;>intro h)|(apply qn;exact rfl;apply qeb;exact cAo)|(apply qn;exact rfl;apply qea;exact cAo)|(apply qn;exact rfl;apply pk_t;exact cRa)|(apply qe;exact rfl;apply cd_n<;>intro h)|(apply qe;exact rfl;apply cd_t;exact cRa)|(apply wm;(iterate 3 exact rfl))|apply za|apply q7|(apply qk;exact Tryz.call178;exact qqd _ _ _ Om)|(apply qk;exact Tryz.call179;exact qth _ _ hl))
 all_goals refine qo rfl (zt rfl) ⟨congrArg Bv (?_:_=_),_,rfl⟩
 .exact(decide_eq_false λ⟨a,b,c,d⟩=>by omega).symm
 .exact(decide_eq_false λ⟨a,b,c,d⟩=>by omega).symm
 .exact(decide_eq_false λ⟨a,b,c,d⟩=>by simp_all[qh5]).symm
 .have e:y9 l↔(vf [32] l).2=true:=⟨λh=>h.2.2.2,λh=>⟨Om,Om,by simp_all[qh5],h⟩⟩
  simp[e]
theorem q8p(n:Nat)(l:List UInt8)(st:List AObj)(hn:n<=9223372036854775807)(hl:l.length<4294967281):qm E 135 [Iv n,Sv l] st λr st'=>r=Sv (qki n l)∧st'=st:=by
 refine ze (qw _) (qq Tryz.func135 rfl (Qa rfl) ?_);have h1:=qjj n hn;repeat' (first|apply qp|apply qi|apply qh|apply ql|apply qj|(apply vb;exact rfl;exact rfl;exact cOs)|apply q7|(apply qk;exact Tryz.call153;exact qof _ _ Om Om))
 exact qo rfl (zt rfl) ⟨rfl,_,rfl⟩
theorem q1g(n:Nat)(st:List AObj)(hn:n<=9223372036854775807):qm E 138 [Iv n] st λr st'=>r=Sv (qe1 n)∧st'=st:=by
 refine ze (qw _) (qq Tryz.func138 rfl (Qa rfl) ?_);have h1:=qjj n hn;repeat' (first|apply qp|apply qi|apply qh|apply ql|apply qj|(apply vb;exact rfl;exact rfl;exact cOs)|apply q7|(apply qk;exact Tryz.call153;exact qof _ _ Om Om))
 exact qo rfl (zt rfl) ⟨rfl,_,rfl⟩
theorem q0h(l:List UInt8)(st:List AObj)(hl:l.length<4294967281):qm E 241 [Sv l] st λr st'=>r=Iv (vq l)∧st'=st:=by
 refine ze (qw _) (qq Tryz.func241 rfl (Qa rfl) ?_);repeat' (first|apply qp|apply qi|apply qh|apply ql|apply qj)
 refine qfe Tryz.call147 ((qnx l _ Om).mono ?_);rintro _ _ ⟨rfl,n,x,rfl,hx⟩;rcases x with _|⟨t',y⟩
 .simp only at hx
  have hb:=atoiAll_bounds hx;repeat' (first|apply qp|apply qi|apply qh|apply ql|apply qj|(apply zk;exact rfl;exact rfl)|(apply zh;(iterate 3 exact rfl))|(apply j5;(iterate 3 exact rfl))|(apply zn;(iterate 4 exact rfl))|(apply qcq;exact cAo)|(apply qce;exact cAo)|(apply qgm;exact cRa)|(apply qbl;exact cRa)|(apply xv<;>intro h)|(apply qn;exact rfl;apply qeb;exact cAo)|(apply qn;exact rfl;apply qea;exact cAo)|(apply qn;exact rfl;apply pk_t;exact cRa)|(apply qn;exact rfl;apply pk_f;exact cRa)|(apply qe;exact rfl;apply cd_t;exact cRa)|(apply qe;exact rfl;apply cd_d<;>intro h)|(apply vp;exact rfl;exact rfl)|apply za|apply q7|(apply qk;exact Tryz.call153;exact qof _ _ Om Om))
  all_goals refine qo rfl (zt rfl) ⟨congrArg Iv (?_:_=_),_,rfl⟩
  all_goals rw[qts hx]
  .rw[if_neg (by simp_all)]
  .rw[if_neg Om]
  .rw[if_neg Om]
  .rw[if_pos ⟨Classical.not_not.1 (by assumption),Om,Om⟩]
 .simp only at hx
  repeat' (first|apply qp|apply qi|apply qh|apply ql|apply qj|(apply zk;exact rfl;exact rfl)|(apply zn;(iterate 4 exact rfl))|(apply qbl;exact cRa)|(apply qn;exact rfl;apply pk_t;exact cRa)|(apply qe;exact rfl;apply cd_t;exact cRa)|(apply wq;exact rfl;exact rfl)|apply q7)
  refine qo rfl (zt rfl) ⟨congrArg Iv (?_:_=_),_,rfl⟩;rw[q0g hx];rfl
theorem zcs(l:List UInt8)(st:List AObj)(hl:l.length<4294967281):qm E 195 [Sv l] st λr st'=>r=.tu [Iv (jf l).1,Sv (jf l).2.1,Bv (jf l).2.2]∧st'=st:=by
 refine ze (qht _ _ _) (qq Tryz.func195 rfl (Qa rfl) ?_);have db:=qe2 l z6;have gp:=vd 32 (Lib.trimPrefix l z6);have td:=ku 32 (Lib.trimPrefix l z6);repeat' (first|apply qp|apply qi|apply qh|apply ql|apply qj|(apply zk;exact rfl;exact rfl)|(apply zh;(iterate 3 exact rfl))|(apply j5;(iterate 3 exact rfl))|(apply zn;(iterate 4 exact rfl))|(apply qe7;exact cAo)|(apply qfi;exact cAo)|(apply qdm;exact cRa)|(apply qcf;exact cRa)|(apply xv<;>intro h)|(apply qgn<;>intro h)|(apply qn;exact rfl;apply qeb;exact cAo)|(apply qn;exact rfl;apply qea;exact cAo)|(apply qn;exact rfl;apply pk_t;exact cRa)|(apply qn;exact rfl;apply pk_f;exact cRa)|(apply wm;(iterate 3 exact rfl))|apply q7|(apply qk;exact Tryz.call240;exact qem l z6 _)|(apply qk;exact Tryz.call146;exact qi9 (Lib.trimPrefix l z6) 32 _ Om)|(apply qk;exact Tryz.call241;exact q0h (upto 32 (Lib.trimPrefix l z6)) _ Om)|(apply qk;exact Tryz.call47;exact qls _ _ _ Om rfl rfl))
 all_goals refine qo rfl (qfw rfl) ⟨ziq (?_:_=_),_,rfl⟩
 all_goals simp only[jf,Xf,true_and]
 all_goals clear db gp td
 all_goals have c3:(2:Int)<=↑(vq (upto 32 (Lib.trimPrefix l z6)))↔2<=vq (upto 32 (Lib.trimPrefix l z6)):=Om
 all_goals have c4:(↑(past 32 (Lib.trimPrefix l z6)).length:Int)=8↔(past 32 (Lib.trimPrefix l z6)).length=8:=Om
 all_goals simp only[c3,c4,qh4,qxb]at *
 all_goals clear c3 c4
 all_goals simp_all
 all_goals first|(intros;omega)|skip
theorem q9g(l:List UInt8)(st:List AObj)(hl:l.length<4294967281):qm E 194 [Sv l] st λr st'=>r=Bv (qe8 l)∧st'=st:=by
 refine ze (qw _) (qq Tryz.func194 rfl (Qa rfl) ?_);have db:=qe2 l z6;have gp:=vd 32 (Lib.trimPrefix l z6);have td:=ku 32 (Lib.trimPrefix l z6);repeat' (first|apply qp|apply zm|apply qi|apply qh|apply ql|apply qj|(apply zk;exact rfl;exact rfl)|(apply zh;(iterate 3 exact rfl))|(apply j5;(iterate 3 exact rfl))|(apply j6;exact rfl)|(apply zn;(iterate 4 exact rfl))|(apply qe7;exact cAo)|(apply qfi;exact cAo)|(apply xv<;>intro h)|(apply qn;exact rfl;apply qeb;exact cAo)|(apply qn;exact rfl;apply qea;exact cAo)|(apply qe;exact rfl;apply yw;exact cAo)|(apply qe;exact rfl;apply cd_n<;>intro h)|(apply qe;exact rfl;apply cd_f;exact cRa)|(apply qe;exact rfl;apply cd_d<;>intro h)|(apply wm;(iterate 3 exact rfl))|apply za|apply q7|(apply qk;exact Tryz.call240;exact qem l z6 _)|(apply qk;exact Tryz.call193;exact qeo _ _ _)|(apply qk;exact Tryz.call146;exact qi9 (Lib.trimPrefix l z6) 32 _ Om)|(apply qk;exact Tryz.call241;exact q0h (upto 32 (Lib.trimPrefix l z6)) _ Om)|(apply qk;exact Tryz.call47;exact qls _ _ _ Om rfl rfl))
 all_goals refine qo rfl (zt rfl) ⟨congrArg Bv (?_:_=_),_,rfl⟩
 all_goals clear db gp td
 all_goals by_cases hp:z6<+:l
 all_goals have c1:(↑(vq (upto 32 (Lib.trimPrefix l z6))):Int)<2↔vq (upto 32 (Lib.trimPrefix l z6))<2:=Om
 all_goals have c2:(↑(vq (upto 32 (Lib.trimPrefix l z6))):Int)=0↔vq (upto 32 (Lib.trimPrefix l z6))=0:=Om
 all_goals have c4:(↑(past 32 (Lib.trimPrefix l z6)).length:Int)<=8↔(past 32 (Lib.trimPrefix l z6)).length<=8:=Om
 all_goals simp only[c1,c2,c4,qh4,qxb]at *
 all_goals clear c1 c2 c4
 all_goals try (have e:Lib.trimPrefix l z6=l.drop 7:=qc3 hp;simp only[e]at *)
 all_goals unfold qe8
 all_goals first|rw[if_pos hp]|rw[if_neg hp]
 all_goals simp_all
 all_goals first|exact Iff.rfl|(intros;omega)|skip
theorem zct(l:List UInt8)(n:Int)(st:List AObj)(hl:l.length<4294967281):qm E 196 [Sv l,Iv n] st λr st'=>r=Iv (qd9 l n)∧st'=st:=by
 refine ze (qw _) (qq Tryz.func196 rfl (Qa rfl) ?_);repeat' (first|apply qp|apply qi|apply qh|apply ql|apply qj|(apply zh;(iterate 3 exact rfl))|(apply j5;(iterate 3 exact rfl))|(apply j6;exact rfl)|(apply zn;(iterate 4 exact rfl))|(apply qcq;exact cAo)|(apply qce;exact cAo)|(apply qci;(iterate 4 exact rfl))|(apply qbk;exact cRa)|(apply qcr;exact cRa)|(apply qim<;>intro h)|(apply qdm;exact cRa)|(apply qcf;exact cRa)|(apply xv<;>intro h)|(apply qgn<;>intro h)|(apply qn;exact rfl;apply qeb;exact cAo)|(apply qn;exact rfl;apply qea;exact cAo)|(apply qn;exact rfl;apply qko;exact cRa)|(apply qn;exact rfl;apply qg8;exact cRa)|(apply qn;exact rfl;apply pk_t;exact cRa)|(apply qn;exact rfl;apply pk_f;exact cRa)|(apply qe;exact rfl;apply cd_t;exact cRa)|(apply qe;exact rfl;apply cd_f;exact cRa)|(apply qe;exact rfl;apply cd_d<;>intro h)|apply za|apply q7|(apply qk;exact Tryz.call178;exact qqd _ _ _ Om)|(apply qk;exact Tryz.call179;exact qth _ _ hl))
 all_goals refine qo rfl (zt rfl) ⟨congrArg Iv (?_:_=_),_,rfl⟩
 all_goals simp_all[qd9,qh5]
theorem zcc(n:Int)(st:List AObj):qm E 198 [Iv n] st λr st'=>r=Iv (qgp n)∧st'=st:=by
 refine ze (qw _) (qq Tryz.func198 rfl (Qa rfl) ?_);by_cases hr:n<2∨50000<n
 .skip
  repeat' (first|apply qp|apply qi|apply qh|apply ql|apply qj|(apply zh;(iterate 3 exact rfl))|(apply zn;(iterate 4 exact rfl))|(apply qcq;exact cAo)|(apply qce;exact cAo)|(apply xv<;>intro h)|(apply qn;exact rfl;apply qeb;exact cAo)|(apply qn;exact rfl;apply qea;exact cAo)|(apply qe;exact rfl;apply y5;exact cAo)|(apply qe;exact rfl;apply cd_t;exact cRa)|apply q7)
  all_goals refine qo rfl (zt rfl) ⟨congrArg Iv (?_:_=_),_,rfl⟩
  all_goals first|exact(if_pos hr).symm|omega
 .obtain⟨k,rfl⟩:=Int.eq_ofNat_of_zero_le (by omega:0<=n)
  have h1:=qjj k Om;have h2:=qf0 k (Lib.repeatL [48] 8);have h3:=qf9 k;have h4:(Lib.repeatL [48] 8).length=8:=by decide
  repeat' (first|apply qp|apply qi|apply qh|apply ql|apply qj|(apply zh;(iterate 3 exact rfl))|(apply zn;(iterate 4 exact rfl))|(apply qcq;exact cAo)|(apply qn;exact rfl;apply qea;exact cAo)|(apply qe;exact rfl;apply yw;exact cAo)|(apply wm;(iterate 3 exact rfl))|(apply jw;exact rfl;exact rfl;exact zu Om Om)|apply za|apply q7|(apply qk;exact Tryz.call243;exact zc8 [48] 8 _ Om (by decide))|(apply qk;exact Tryz.call135;exact q8p k _ _ Om (by decide))|(apply qk;exact Tryz.call138;exact q1g k _ Om))
  refine qo rfl (zt rfl) ⟨congrArg Iv (?_:_=_),_,rfl⟩;unfold qgp;rw[if_neg hr,<-rep8];rfl
def qn5(x:BitVec 32):BitVec 32:=if x&&& 2147483648#32≠0#32 then(x<<<1)^^^79764919#32 else x<<<1
def qpe:Nat->BitVec 32->BitVec 32
 |0,x=>x
 |n+1,x=>qn5 (qpe n x)
theorem zi7(x:BitVec 32)(st:List AObj):qm E 259 [Wv x] st λr st'=>r=Wv (qpe 4 (x<<<28))∧st'=st:=by
 refine ze (qw _) (qq Tryz.func259 rfl (Qa rfl) ?_);repeat' (first|apply qp|apply zm|apply qi|apply qh|apply ql|apply qj|(apply qdw;(iterate 3 exact rfl)))
 refine xy (λ(k:Nat)s=>k<=4∧StA [(3,Wv (qpe k (x<<<28))),(6,Iv k)] (st++[]) [] s) (λk=>4-k) 0 ⟨Om,xp ⟨rfl,rfl,trivial⟩⟩ ?_;rintro k _ ⟨hk,t,rfl⟩;repeat' (first|apply qp|apply zm|apply qi|apply qh|apply ql|apply qj|(apply zh;(iterate 3 exact rfl))|(apply qe;exact rfl;apply cd_d<;>intro h)|(apply jw;exact rfl;exact rfl;exact zu Om Om)|(apply qfv;exact rfl;exact rfl;(first|exact jo _|exact rfl);first|exact jo _|exact rfl)|(apply qid;exact rfl;exact rfl;(first|exact jo _|exact rfl);first|exact jo _|exact rfl)|(apply qdw;(iterate 3 exact rfl))|apply za|apply wd|apply q7)
 .refine⟨k+1,⟨Om,xp ⟨?_,rfl,trivial⟩⟩,Om⟩
  refine congrArg Wv (?_:_=qn5 _);unfold qn5;rw[if_pos (λe=>by rename_i h;exact h ((qug _).2 e))];rfl
 .refine⟨k+1,⟨Om,xp ⟨?_,rfl,trivial⟩⟩,Om⟩
  refine congrArg Wv (?_:_=qn5 _);unfold qn5;rw[if_neg (λe=>by rename_i h;exact h (λh'=>e ((qug _).1 h')))]
 .have e:k=4:=by omega
  subst e;exact qo rfl (zt rfl) ⟨rfl,_,rfl⟩
def rowT(i:Nat):BitVec 32:=qpe 4 (BitVec.ofNat 32 i<<<28)
def tabA(k:Nat):List AV:=(Qz 16).map λi=>if i<k then Wv (rowT i)else .v (.int .u32 0)
theorem q2z(k:Nat):(tabA k).length=16:=by simp[tabA]
theorem zag{k:Nat}(h:k<16):(tabA k).set k (Wv (rowT k))=tabA (k+1):=by
 apply List.ext_getElem
 .simp[tabA]
 .intro i h1 h2
  simp only[tabA,List.length_map,List.length_range]at h2;rw[List.getElem_set];by_cases e:k=i
  .subst e
   simp[tabA]
  .rw[if_neg e]
   simp only[tabA,List.getElem_map,List.getElem_range];by_cases hi:i<k
   .rw[if_pos hi,if_pos Om]
   .rw[if_neg hi,if_neg Om]
theorem zdo{i:Nat}(h:i<16):(tabA 16)[i]?=some (Wv (rowT i)):=by
 simp[tabA,h]
theorem zii(st:List AObj):qm E 228 [] st λr st'=>r=.ag (tabA 16)∧st'=st:=by
 refine ze (qpo (λx hx=>?_)) (qq Tryz.func228 rfl (Qa rfl) ?_)
 .simp only[tabA,Zx]at hx
  obtain⟨i,_,rfl⟩:=hx;split <;>exact qw _
 repeat' (first|apply qp|apply zm|apply qi|apply qh|apply ql|(apply kj;exact rfl;exact rfl))
 refine xy (λ(k:Nat)s=>k<=16∧StA [(0,.bx (st.length+0) 0 0),(2,Iv k)] (st++[.cells 0 302 (tabA k)]) [] s) (λk=>16-k) 0 ⟨Om,qcb ⟨rfl,rfl,trivial⟩ (by show st++[AObj.cells 0 _ _]=_;rfl)⟩ ?_;rintro k _ ⟨hk,t,rfl⟩;have b9:=q2z k;repeat' (first|apply qp|apply zm|apply qi|apply qh|apply ql|apply qj|(apply zh;(iterate 3 exact rfl))|(apply qe;exact rfl;apply cd_d<;>intro h)|(apply jw;exact rfl;exact rfl;exact zu Om Om)|(apply ve;(iterate 5 exact rfl))|(apply qbb;(iterate 4 exact rfl);first|assumption|omega|decide)|apply za|apply wd|(apply qk;exact Tryz.call259;exact zi7 _ _)|(apply q4p;(iterate 3 exact rfl);omega)|(apply qun;(iterate 9 exact rfl);(show 0+k*1+1<=_;omega);exact rfl))
 .refine⟨k+1,⟨Om,qcb ⟨rfl,rfl,trivial⟩ ?_⟩,Om⟩
  show st++[AObj.cells 0 _ (z0 (tabA k) (0+k*1) [Wv (rowT k)])]=_
  rw[Zy,Xb,q6p Om,zag Om]
 .have e:k=16:=by omega
  subst e;repeat' (first|apply qh|(apply jt;(iterate 11 exact rfl))|apply q7)
  exact qo rfl (qus rfl rfl rfl rfl rfl rfl) ⟨rfl,_,rfl⟩
def crcN(x:BitVec 32)(n:Nat):BitVec 32:=(x<<<4)^^^rowT ((x>>>28)^^^BitVec.ofNat 32 n).toNat
def crcP(x:BitVec 32)(c:UInt8):BitVec 32:=crcN (crcN x (c.toNat / 16)) (c.toNat%16)
def addP(s:BitVec 32)(l:List UInt8):BitVec 32:= ~~~ (l.foldl crcP (~~~ s))
def qx1(y:BitVec 32)(c:UInt8):Nat->BitVec 32
 |0=>y
 |1=>crcN y (c.toNat / 16)
 |_=>crcP y c
theorem q82(x:BitVec 32){n:Nat}(h:n<16):((x>>>28)^^^BitVec.ofNat 32 n).toNat<16:=by
 rw[BitVec.toNat_xor];refine Nat.xor_lt_two_pow (n:=4) ?_ ?_
 .rw[BitVec.toNat_ushiftRight,Za]
  have:=x.isLt;omega
 .rw[BitVec.toNat_ofNat]
  omega
theorem q1f{n:Nat}(h:n<16):jy 1 false (0+n*1) (tabA 16)=some (Wv (rowT n)):=by
 rw[Zy,Xb];exact zdo h
theorem ziy(x:BitVec 32)(l:List UInt8)(st:List AObj)(hl:l.length<4294967281):qm E 181 [Wv x,Sv l] st λr st'=>r=Wv (addP x l)∧st'=st:=by
 refine ze (qw _) (qq Tryz.func181 rfl (Qa rfl) ?_);repeat' (first|apply qp|apply zm|apply qi|apply qh|apply ql|apply qj|(apply wm;(iterate 3 exact rfl))|(apply kj;exact rfl;exact rfl)|(apply jt;(iterate 11 exact rfl))|(apply qfs;exact rfl)|(apply qk;exact Tryz.call228;exact zii _))
 refine xy (λ(k:Nat)s=>k<=l.length∧StA [(1,Sv l),(5,.bx (st.length+0) 0 0),(6,Wv ((l.take k).foldl crcP (~~~ x))),(14,Iv l.length),(15,Iv k)] (st++[.cells 0 302 (tabA 16)]) [] s) (λk=>l.length-k) 0 ⟨Om,qcb ⟨rfl,rfl,rfl,rfl,rfl,trivial⟩ (by show st++[AObj.cells 0 _ _]=_;rfl)⟩ ?_;rintro k _ ⟨hk,t,rfl⟩;generalize hx:(l.take k).foldl crcP (~~~ x)=y;have hc:=UInt8.toNat_lt (l.getD k 0);repeat' (first|apply qp|apply zm|apply qi|apply qh|apply ql|apply qj|(apply zh;(iterate 3 exact rfl))|(apply qe;exact rfl;apply cd_d<;>intro h)|(apply qfs;exact rfl)|(apply qqx;exact rfl;kernel_rfl)|apply qnv|(apply qyk;(iterate 3 exact rfl);exact cAs)|(apply quq;exact rfl;exact rfl)|(apply qqt;exact rfl;exact rfl)|(apply qqu;(iterate 3 exact rfl);omega)|(apply qnt;(iterate 3 exact rfl))|apply qk8|apply za|apply wd|apply q7)
 .generalize hcc:l.getD k 0=c at *
  refine xy (λ(j:Nat)s=>j<=2∧StA [(1,Sv l),(5,.bx (st.length+0) 0 0),(6,Wv (qx1 y c j)),(14,Iv l.length),(15,Iv k),(28,.ag [Wv (BitVec.ofNat 32 (c.toNat / 16)),Wv (BitVec.ofNat 32 (c.toNat%16))]),(29,Iv j)] (st++[.cells 0 302 (tabA 16)]) [] s) (λj=>2-j) 0 ⟨Om,qcb ⟨rfl,rfl,rfl,rfl,rfl,rfl,rfl,trivial⟩ rfl⟩ ?_;rintro j _ ⟨hj,t2,rfl⟩;have hj3:j=0∨j=1∨j=2:=Om
  have hn1:=q82 (qx1 y c j) (n:=c.toNat / 16) Om;have hn2:=q82 (qx1 y c j) (n:=c.toNat%16) Om;generalize hz:qx1 y c j=z at hn1 hn2⊢;rcases hj3 with rfl|rfl|rfl
  .skip
   repeat' (first|apply qp|apply zm|apply qi|apply qh|apply ql|apply qj|(apply zh;(iterate 3 exact rfl))|(apply qe;exact rfl;apply y5;exact cAo)|(apply jw;exact rfl;exact rfl;exact zu Om Om)|(apply qfv;exact rfl;exact rfl;(first|exact jo _|exact rfl);first|exact jo _|exact rfl)|(apply qdw;(iterate 3 exact rfl))|(apply qft;(iterate 3 exact rfl))|(apply qg3;(iterate 4 exact rfl);(first|assumption|omega|decide);exact rfl)|(apply qbb;(iterate 4 exact rfl);first|assumption|omega|decide)|apply za|(apply ve;(iterate 4 exact rfl);exact q1f hn1))
   subst hz;exact⟨1,⟨Om,qcb ⟨rfl,rfl,rfl,rfl,rfl,rfl,rfl,trivial⟩ rfl⟩,Om⟩
  .skip
   repeat' (first|apply qp|apply zm|apply qi|apply qh|apply ql|apply qj|(apply zh;(iterate 3 exact rfl))|(apply qe;exact rfl;apply y5;exact cAo)|(apply jw;exact rfl;exact rfl;exact zu Om Om)|(apply qfv;exact rfl;exact rfl;(first|exact jo _|exact rfl);first|exact jo _|exact rfl)|(apply qdw;(iterate 3 exact rfl))|(apply qft;(iterate 3 exact rfl))|(apply qg3;(iterate 4 exact rfl);(first|assumption|omega|decide);exact rfl)|(apply qbb;(iterate 4 exact rfl);first|assumption|omega|decide)|apply za|(apply ve;(iterate 4 exact rfl);exact q1f hn2))
   subst hz;exact⟨2,⟨Om,qcb ⟨rfl,rfl,rfl,rfl,rfl,rfl,rfl,trivial⟩ rfl⟩,Om⟩
  .skip
   repeat' (first|apply qp|apply qi|apply qh|apply ql|(apply zh;(iterate 3 exact rfl))|(apply qe;exact rfl;apply yw;exact cAo)|(apply jw;exact rfl;exact rfl;exact zu Om Om)|apply wd)
   subst hz;refine⟨k+1,⟨Om,qcb ⟨rfl,rfl,?_,rfl,rfl,trivial⟩ rfl⟩,Om⟩;refine congrArg Wv (?_:crcP y c=_);rw[qo1 Om,List.foldl_append,hx,hcc];rfl
 .have e:k=l.length:=by omega
  subst e;refine qo rfl (zt rfl) ⟨congrArg Wv (?_:_=_),_,rfl⟩;unfold addP;rw[<-hx,List.take_length]
theorem zae(l:List UInt8)(st:List AObj)(hl:l.length<4294967281):qm E 137 [.sl 1 [Sv l] none] st λr st'=>r=Wv (addP 0 l)∧st'=st:=by
 refine ze (qw _) (qq Tryz.func137 rfl (Qa rfl) ?_);repeat' (first|apply qp|apply zm|apply qi|apply qh|apply ql|apply qj|(apply kc;(iterate 4 exact rfl)))
 refine xy (λ(k:Nat)s=>k<=1∧StA [(3,Wv (if k=0 then 0 else addP 0 l)),(6,.sl 1 [Sv l] none),(7,Iv 1),(8,Iv k)] (st++[]) [] s) (λk=>1-k) 0 ⟨Om,qcb ⟨rfl,rfl,rfl,rfl,trivial⟩ rfl⟩ ?_;rintro k _ ⟨hk,t,rfl⟩;have gv:k=0∨k=1:=Om
 rcases gv with rfl|rfl
 .skip
  repeat' (first|apply qp|apply zm|apply qi|apply qh|apply ql|apply qj|(apply zh;(iterate 3 exact rfl))|(apply qe;exact rfl;apply y5;exact cAo)|(apply jw;exact rfl;exact rfl;exact zu Om Om)|(apply vr;(iterate 3 exact rfl))|apply za|(apply wv;(iterate 4 exact rfl);exact(rfl:(0:Int)=((0:Nat):Int));exact rfl)|(apply qk;exact Tryz.call181;exact ziy 0 _ _ hl))
  exact⟨1,⟨Om,qcb ⟨rfl,rfl,rfl,rfl,trivial⟩ rfl⟩,Om⟩
 .skip
  repeat' (first|apply qp|apply qi|apply qh|apply ql|apply qj|(apply zh;(iterate 3 exact rfl))|(apply qe;exact rfl;apply yw;exact cAo)|apply wd|apply q7)
  exact qo rfl (zt rfl) ⟨rfl,_,rfl⟩
def figP(s:BitVec 32)(j:Nat):UInt8:=[48,49,50,51,52,53,54,55,56,57,97,98,99,100,101,102].getD ((s>>>(4*(7-j)))&&& BitVec.ofInt 32 15).toNat 0
def qco(s:BitVec 32)(n:Nat):List UInt8:=(Qz n).map (figP s)
theorem qwd(x:BitVec 32)(st:List AObj):qm E 136 [Wv x] st λr st'=>r=Sv (qco x 8)∧st'=st:=by
 refine ze (qw _) (qq Tryz.func136 rfl (Qa rfl) ?_);repeat' (first|apply qp|apply zm|apply qi|apply qh|apply qj|(apply kj;exact rfl;exact rfl))
 refine qp0 (o:=st.length+0) (j:=1) (sz:=1) (T':=5) (jl rfl) rfl ?_
 refine xy (λ(j:Nat)s=>j<=8∧∃q,(q=.v (.pointer none)∨q=.bx (st.length+0) 0 0)∧StA [(0,Wv x),(3,.bx (st.length+0) 0 0),(4,Iv (7-(j:Int)))] (st++[bldO 0 q (qco x j) (st.length+1),.tip (qco x j).length 1 5]) [] s) (λj=>8-j) 0
  ⟨Om,_,.inl rfl,qcb ⟨rfl,rfl,rfl,trivial⟩ ?_⟩ ?_
 .show(st++[_]).set (st.length+0) (.cells 0 193 [_,.sl 1 [] (some (st++[_]).length)])++[_]=_
  rw[x9,Qb];simp[qco]
 rintro j _ ⟨hj,q,hq,t,rfl⟩;have hf:(qco x j).length=j:=by simp[qco]
 repeat' (first|apply qp|apply zm|apply qi|apply qh|apply ql|apply qj|(apply zh;(iterate 3 exact rfl))|(apply qe;exact rfl;apply cd_d<;>intro h)|(apply qcj;exact rfl;exact rfl;exact zu Om Om)|(apply qid;exact rfl;exact rfl;(first|exact jo _|exact rfl);first|exact jo _|exact rfl)|apply za|apply wd|apply q7|(apply qyh;exact rfl;exact rfl;exact zu Om Om)|(apply q1w (n:=4*(7-j));exact rfl;exact rfl;omega;omega)|(apply qlx;(iterate 3 exact rfl);exact and15_lt _)|(refine qk Tryz.call180 (q7i st _ _ 0 1 0 _ _ _ rfl rfl ?_ ?_ rfl) ?_;exact hq;omega)|(refine qk Tryz.call133 (qp1 st _ _ 0 1 0 _ _ rfl rfl rfl) ?_))
 .have e1:qco x j++[figP x j]=qco x (j+1):=by simp[qco,List.range_succ]
  refine⟨j+1,⟨Om,_,.inr rfl,qcb ⟨rfl,rfl,congrArg Iv (by omega:(7-(j:Int))-1=7-((j+1:Nat):Int)),trivial⟩ ?_⟩,Om⟩
  show st++[bldO 0 _ (qco x j++[figP x j]) (st.length+1),.tip (qco x j++[figP x j]).length 1 5]=_
  rw[e1]
 .have e:j=8:=by omega
  subst e;exact qo rfl (zt rfl) ⟨rfl,_,rfl⟩
def sumF(l:List UInt8):List UInt8:=qco (addP 0 l) 8
theorem qhc(l:List UInt8):(sumF l).length=8:=by simp[sumF,qco]
theorem is_c(f l:List UInt8)(st:List AObj)(hl:l.length<4294967281):qm E 242 [Sv f,.sl 1 [Sv l] none] st λr st'=>r=Bv (decide (f=sumF l))∧st'=st:=by
 refine ze (qw _) (qq Tryz.func242 rfl (Qa rfl) ?_);repeat' (first|apply qp|apply qi|apply qh|apply ql|apply qj|(apply j5;(iterate 3 exact rfl))|apply q7|(apply qk;exact Tryz.call137;exact zae l _ hl)|(apply qk;exact Tryz.call136;exact qwd _ _))
 exact qo rfl (zt rfl) ⟨rfl,_,rfl⟩
def qa6(rest body sums:List UInt8)(size:Int):Int×List UInt8×Int:=
 if rest.length<(qe1 body.length).length∧rest<+:qe1 body.length then(2,[],0)
 else if qe1 body.length<+:rest∧sums=sumF body then(1,body,size)else(3,[],0)
theorem zbf(rest body sums:List UInt8)(size:Int)(st:List AObj)(hb:body.length<4294967281):qm E 197 [Sv rest,Sv body,Sv sums,Iv size] st λr st'=>r=.tu [Iv (qa6 rest body sums size).1,Sv (qa6 rest body sums size).2.1,Iv (qa6 rest body sums size).2.2]∧st'=st:=by
 refine ze (qht _ _ _) (qq Tryz.func197 rfl (Qa rfl) ?_);repeat' (first|apply qp|apply zm|apply qi|apply qh|apply ql|apply qj|(apply zh;(iterate 3 exact rfl))|(apply zn;(iterate 4 exact rfl))|(apply qe7;exact cAo)|(apply qfi;exact cAo)|(apply qdm;exact cRa)|(apply qcf;exact cRa)|(apply xv<;>intro h)|(apply qgn<;>intro h)|(apply qn;exact rfl;apply qeb;exact cAo)|(apply qn;exact rfl;apply qea;exact cAo)|(apply qn;exact rfl;apply pk_t;exact cRa)|(apply qn;exact rfl;apply pk_f;exact cRa)|(apply qe;exact rfl;apply cd_f;exact cRa)|(apply qe;exact rfl;apply cd_d<;>intro h)|(apply qe;exact rfl;apply cd_s<;>intro h)|(apply wm;(iterate 3 exact rfl))|(apply xj;(iterate 9 exact rfl))|apply za|apply q7|(apply qk;exact Tryz.call138;exact q1g body.length _ Om)|(apply qk;exact Tryz.call193;exact qeo _ _ _)|(apply qk;exact Tryz.call242;exact is_c sums body _ hb))
 all_goals refine qo rfl (qfw rfl) ⟨zao (?_:_=_),_,rfl⟩
 all_goals show _=qa6 rest body sums size
 all_goals
  have c1:(↑rest.length:Int)< ↑(qe1 body.length).length↔rest.length<(qe1 body.length).length:=Om
  simp only[c1,qh4,decide_eq_true_eq,decide_eq_false_iff_not]at *;simp_all[qa6]<;>(intros;omega)
theorem za8(l:List UInt8)(st:List AObj)(hl:l.length<4294967281):qm E 149 [Sv l] st λr st'=>r=Bv (decide (l.head?=some 37∧qy l=5))∧st'=st:=by
 refine ze (qw _) (qq Tryz.func149 rfl (Qa rfl) ?_);repeat' (first|apply qp|apply qi|apply qh|apply ql|apply qj|(apply zh;(iterate 3 exact rfl))|(apply zn;(iterate 4 exact rfl))|(apply qe7;exact cAo)|(apply qfi;exact cAo)|(apply xv<;>intro h)|(apply qn;exact rfl;apply qeb;exact cAo)|(apply qn;exact rfl;apply qea;exact cAo)|apply q7|(apply qk;exact Tryz.call193;exact qfz _ _ _)|(apply qk;exact Tryz.call184;exact qlk _ _ hl))
 all_goals refine qo rfl (zt rfl) ⟨congrArg Bv (?_:_=_),_,rfl⟩
 all_goals simp_all
def z4(l:List UInt8):Int×List UInt8×Int:=
 if 10∈l then
  if(jf (upto 10 l)).2.2=true then
   if(past 10 l).length<(jf (upto 10 l)).1 then(qd9 (past 10 l) ((jf (upto 10 l)).1-(past 10 l).length),[],0)
   else if y9 ((past 10 l).take (jf (upto 10 l)).1)then qa6 ((past 10 l).drop (jf (upto 10 l)).1) ((past 10 l).take (jf (upto 10 l)).1) (jf (upto 10 l)).2.1 (qgp (jf (upto 10 l)).1)
   else(3,[],0)
  else(3,[],0)
 else if qe8 l=true then(2,[],0)else(3,[],0)
theorem zie(l:List UInt8)(st:List AObj)(hl:l.length<4294967281):qm E 150 [Sv l] st λr st'=>r=.tu [Iv (z4 l).1,Sv (z4 l).2.1,Iv (z4 l).2.2]∧st'=st:=by
 refine ze (qht _ _ _) (qq Tryz.func150 rfl (Qa rfl) ?_);have gp:=vd 10 l;have td:=ku 10 l;have hn:(jf (upto 10 l)).1<=50000:=qct _;repeat' (first|apply qp|apply zm|apply qi|apply qh|apply ql|apply qj|(apply zk;exact rfl;exact rfl)|(apply zh;(iterate 3 exact rfl))|(apply j6;exact rfl)|(apply qe;exact rfl;apply cd_n<;>intro h)|(apply qe;exact rfl;apply cd_d<;>intro h)|(apply qe;exact rfl;apply cd_s<;>intro h)|(apply wm;(iterate 3 exact rfl))|(apply qcj;exact rfl;exact rfl;exact zu Om Om)|(apply qj5;(iterate 3 exact rfl);exact cAs)|(apply qqx;exact rfl;kernel_rfl)|apply qnv|apply qk8|apply qns|(apply qur;(iterate 3 exact rfl);exact cAs)|(apply qup;(iterate 3 exact rfl);exact cAs)|(apply qlz;exact rfl;exact rfl)|apply za|apply q7|(apply qk;exact Tryz.call146;exact qi9 l 10 _ hl)|(apply qk;exact Tryz.call194;exact q9g _ _ hl)|(apply qk;exact Tryz.call195;exact zcs (upto 10 l) _ Om)|(apply qk;exact Tryz.call196;exact zct _ _ _ Om)|(apply qk;exact Tryz.call134;exact q8l ((past 10 l).take (jf (upto 10 l)).1) _ So)|(refine q24 (vals:=[.int .i64 (jf (upto 10 l)).1]) E_ok Tryz.call198 rfl (que _) (λ_=>.v _) (zcc _ _) ?_)|(refine q24 (vals:=[.string ⟨((past 10 l).drop (jf (upto 10 l)).1).toArray⟩,.string ⟨((past 10 l).take (jf (upto 10 l)).1).toArray⟩,.string ⟨(jf (upto 10 l)).2.1.toArray⟩,.int .i64 (qgp (jf (upto 10 l)).1)]) E_ok Tryz.call197 rfl zdm (λ_=>qpp (.v _) (.v _) (.v _)) (zbf _ _ _ _ _ So) ?_))
 all_goals refine qo rfl (qfw rfl) ⟨zao (?_:_=z4 l),_,rfl⟩
 all_goals
  have c1:(↑(past 10 l).length:Int)< ↑(jf (upto 10 l)).1↔(past 10 l).length<(jf (upto 10 l)).1:=Om
  simp only[c1,decide_eq_true_eq,decide_eq_false_iff_not]at *;clear c1 gp td hn hl
 .unfold z4;rw[if_neg (by assumption),if_pos (by assumption)]
 .unfold z4;rw[if_neg (by assumption),if_neg (by simp_all)]
 .unfold z4;rw[if_pos (by assumption),if_neg (by simp_all)]
 .unfold z4;rw[if_pos (by assumption),if_pos (by assumption),if_pos (by assumption)]
 .unfold z4;rw[if_pos (by assumption),if_pos (by assumption),if_neg (by assumption),if_neg (by assumption)]
 .unfold z4;rw[if_pos (by assumption),if_pos (by assumption),if_neg (by assumption),if_pos (by assumption)]
def recF(l:List UInt8):List UInt8:=qki l.length (sumF l)++l++qe1 l.length
def q3m:AV:=.ifc 43 (.v (.int .i64 2))
def qfm(l:List UInt8):AV:=if y9 l then .tu [Sv (recF l),.v .nilIface]else .tu [Sv [],q3m]
theorem q0x(l:List UInt8):Pure (qfm l):=by
 unfold qfm;split
 .exact qwy _ _
 .exact qfl (by simp;exact⟨qw _,qcu (qw _)⟩)
theorem zc5(l:List UInt8)(st:List AObj)(hl:l.length<4294967281):qm E 104 [Sv l] st λr st'=>r=qfm l∧st'=st:=by
 refine ze (q0x l) (qq Tryz.func104 rfl (Qa rfl) ?_);have h1:=qjj l.length Om;have h2:=qf0 l.length (sumF l);have h3:=qf9 l.length;have h4:=qhc l;repeat' (first|apply qp|apply qi|apply qh|apply ql|apply qj|(apply j6;exact rfl)|(apply qe;exact rfl;apply cd_n<;>intro h)|(apply wm;(iterate 3 exact rfl))|(apply vb;exact rfl;exact rfl;exact cOs)|(apply vc;exact rfl;exact rfl)|(apply xj;(iterate 9 exact rfl))|apply za|apply q7|(apply qk;exact Tryz.call134;exact q8l _ _ hl)|(apply qk;exact Tryz.call137;exact zae l _ hl)|(apply qk;exact Tryz.call136;exact qwd _ _)|(apply qk;exact Tryz.call135;exact q8p l.length (sumF l) _ Om Om)|(apply qk;exact Tryz.call138;exact q1g l.length _ Om))
 .have e:AV.tu [Sv [],q3m]=qfm l:=by unfold qfm;rw[if_neg (of_decide_eq_false (by assumption))]
  exact qo rfl (wz rfl) ⟨e,_,rfl⟩
 .have e:AV.tu [Sv (recF l),.v .nilIface]=qfm l:=by unfold qfm;rw[if_pos (of_decide_eq_true (by assumption))]
  exact qo rfl (wz rfl) ⟨e,_,rfl⟩
def qtj(c:UInt8):Bool:=decide (48<=c.toNat∧c.toNat<=57)
end Go.Proofs.YthnbabbhpeebbaaGreatDoor
namespace Go.Pl
open Go
theorem xk:∀(n u:Nat),u<=n->∀c∈Lib.decDigits u,48<=c.toNat∧c.toNat<=57
 |n,u,hn,c,hc=>by
  by_cases h:u<10
  .rw[Lib.decDigits_one h]at hc
   simp only[Qo]at hc;subst hc;rw[UInt8.toNat_ofNat'];omega
  .rw[qcz h,Qj]at hc
   cases n with
   |zero=>omega
   |succ n=>
    rcases hc with hc|hc
    .exact xk n (u / 10) Om c hc
    .exact xk n (u%10) Om c hc
theorem qh3(u:Nat):1<=(Lib.decDigits u).length:=by
 rw[Lib.decDigits_length];exact Lib.nDigits_pos u
theorem qjk{v:Int}(h:v<0):Lib.itoa v=45::Lib.decDigits v.natAbs:=by
 unfold Lib.itoa;rw[if_pos h]
theorem qjl{v:Int}(h:0<=v):Lib.itoa v=Lib.decDigits v.toNat:=by
 unfold Lib.itoa;rw[if_neg Om]
theorem qog{v:Int}(h1: -9223372036854775808<=v)(h2:v<=9223372036854775807):(Lib.itoa v).length<=20:=by
 by_cases h:v<0
 .rw[qjk h,Zp,Lib.decDigits_length]
  have:=qir 18 v.natAbs Om;omega
 .rw[qjl Om,Lib.decDigits_length]
  have:=qir 18 v.toNat Om;omega
theorem qwt:∀(a:Nat)(l m:qa)(b:Nat),Lib.parseUint10 a l=.ok b->Lib.parseUint10 a (l++m)=Lib.parseUint10 b m
 |a,[],m,b,h=>by
  simp only[Lib.parseUint10,Lib.NumEnd.ok.injEq]at h
  subst h;rfl
 |a,c::l,m,b,h=>by
  simp only[Qh,Lib.parseUint10]at h⊢;split at h
  .rename_i hd
   rw[if_pos hd];split at h
   .cases h
   .rename_i h1
    rw[if_neg h1];split at h
    .cases h
    .rename_i h2
     rw[if_neg h2];exact qwt _ l m b h
  .cases h
theorem qmw:∀(n u:Nat),u<=n->u<=9223372036854775808->Lib.parseUint10 0 (Lib.decDigits u)=.ok u
 |n,u,hn,hu=>by
  have key:∀(a d:Nat),a<=922337203685477580->d<10->Lib.parseUint10 a (Lib.decDigits d)=.ok (a*10+d):=by
   intro a d ha hd;have e:(UInt8.ofNat (48+d)).toNat=48+d:=by rw[UInt8.toNat_ofNat'];omega
   rw[Lib.decDigits_one hd];simp only[Lib.parseUint10,e];rw[if_pos Om,if_neg Om,if_neg Om];congr 1;omega
  by_cases h:u<10
  .have:=key 0 u Om h
   simpa using this
  .cases n with
   |zero=>omega
   |succ n=>
    rw[qcz h,qwt 0 _ _ (u / 10) (qmw n (u / 10) Om Om),key _ _ Om Om];congr 1;omega
theorem ql1{v:Int}(h1: -9223372036854775808<=v)(h2:v<=9223372036854775807):Lib.atoiAll (Lib.itoa v)=.ok v:=by
 by_cases h:v<0
 .have hp:=qmw v.natAbs v.natAbs (Qd _) Om
  rw[qjk h]
  have hm:Lib.parseMag (Lib.decDigits v.natAbs)=.ok v.natAbs:=by
   unfold Lib.parseMag;rw[if_neg (λe=>by have:=qh3 v.natAbs;rw[e]at this;simp at this)];exact hp
  have e45:(45:UInt8).toNat=45:=rfl;simp only[Lib.atoiAll,e45];rw[if_pos (Or.inr trivial),hm];simp only[not_true,false_and,if_false,true_and];rw[if_neg Om];simp only[if_true];congr 1;omega
 .have hp:=qmw v.toNat v.toNat (Qd _) Om
  have hd:=xk v.toNat v.toNat (Qd _);rw[qjl Om]
  cases hl:Lib.decDigits v.toNat with
  |nil=>have:=qh3 v.toNat;rw[hl]at this;simp at this
  |cons c r=>
   rw[hl]at hp hd;have hc:=hd c Sx;simp only[Lib.atoiAll];have g1:¬(c.toNat=43∨c.toNat=45):=Om
   rw[if_neg g1];have hm:Lib.parseMag (c::r)=.ok v.toNat:=by unfold Lib.parseMag;rw[if_neg Sx];exact hp
   rw[hm];have g2:¬c.toNat=45:=Om
   simp only[g2,not_false_iff,true_and,false_and,if_false];rw[if_neg Om];congr 1;omega
def numZ(l:qa):Option Int:=
 match Lib.atoiAll l with
 |.ok v=>if Lib.itoa v=l then some v else none
 |_=>none
theorem q83{v:Int}(h1: -9223372036854775808<=v)(h2:v<=9223372036854775807):numZ (Lib.itoa v)=some v:=by
 unfold numZ;rw[ql1 h1 h2];simp
theorem q84{l:qa}{v:Int}(h:numZ l=some v):l=Lib.itoa v∧-9223372036854775808<=v∧v<=9223372036854775807:=by
 unfold numZ at h;split at h
 .rename_i u hu
  split at h
  .rename_i he
   simp only[Qk]at h;subst h;exact⟨he.symm,atoiAll_bounds hu⟩
  .simp at h
 .simp at h
end Go.Pl
namespace Go.Proofs.YthnbabbhpeebbaaGreatDoor
open Go Go.Av Go.RowKit Go.Proofs Go.Pl
theorem q8r{l:qa}{v:Int}(h:l=Lib.itoa v):(v<0->(l.getD 0 0).toNat=45∧l.drop 1=Lib.decDigits v.natAbs)∧(0<=v->(l.getD 0 0).toNat≠45∧l=Lib.decDigits v.toNat):=by
 subst h;refine⟨λh=>?_,λh=>?_⟩
 .rw[qjk h];exact⟨rfl,rfl⟩
 .rw[qjl h]
  refine⟨?_,rfl⟩;have hp:=qh3 v.toNat;have hd:=xk v.toNat v.toNat (Qd _)
  cases hl:Lib.decDigits v.toNat with
  |nil=>rw[hl]at hp;simp at hp
  |cons c r=>
   rw[hl]at hd;have:=hd c Sx;simp;omega
def sgn(l:qa):Nat:=if(l.getD 0 0).toNat=45 then 1 else 0
theorem qqj{l:qa}{v:Int}(h:l=Lib.itoa v):l.drop (sgn l)=Lib.decDigits v.natAbs:=by
 obtain⟨h1,h2⟩:=q8r h;unfold sgn;by_cases hv:v<0
 .obtain⟨a,b⟩:=h1 hv
  rw[if_pos a,b]
 .obtain⟨a,b⟩:=h2 Om
  rw[if_neg a,List.drop_zero,show v.natAbs=v.toNat by omega];exact b
end Go.Proofs.YthnbabbhpeebbaaGreatDoor
namespace Go.Pl
open Go
def sp:Bool->qa->Bool
 |_,[]=>true
 |f,c::l=>(!f||decide (c=32))&&sp (decide (c=10)) l
theorem qnm:∀l,sp false l=sp true (past 10 l)
 | []=>rfl
 |c::l=>by
  by_cases h:c=10
  .subst h;simp[sp,past,upto]
  .have e:past 10 (c::l)=past 10 l:=by simp[past,upto,h]
   rw[e,<-qnm l];simp[sp,h]
theorem q1b{l:qa}(h:l≠[]):sp true l=(decide ([32]<+:upto 10 l)&&sp true (past 10 l)):=by
 cases l with
 |nil=>exact absurd rfl h
 |cons c r=>
  by_cases hc:c=10
  .subst hc;simp[sp,upto]
  .have e:past 10 (c::r)=past 10 r:=by simp[past,upto,hc]
   have e2:upto 10 (c::r)=c::upto 10 r:=by simp[upto,hc]
   rw[e,e2,<-qnm];simp[sp,hc,eq_comm]
theorem qmp:∀(n:Nat)(l:qa),l.length<=n->((∀x∈zv l,[32]<+:x.1)↔sp true l=true)
 |0,l,h=>by
  have:l=[]:=List.length_eq_zero_iff.1 Om;subst this
  simp[wi,sp]
 |n+1,l,h=>by
  by_cases hl:l=[]
  .subst hl;simp[wi,sp]
  .rw[wr hl,q1b hl,Zq,<-qmp n (past 10 l) (by have:=yn (c:=10) hl;omega)]
   simp only[Qy,forall_eq_or_imp,decide_eq_true_eq]
theorem qkc(l:qa):(vf [32] l).2=sp true l:=by
 unfold vf;by_cases h:sp true l=true
 .rw[if_pos ((qmp _ l (Qd _)).2 h),h]
 .rw[if_neg (λh'=>h ((qmp _ l (Qd _)).1 h'))]
  simp only[Bool.not_eq_true]at h;rw[h]
def qkf(f:Bool)(l:qa):Bool:=match l.getLast? with|none=>f|some c=>decide (c=10)
theorem q5f(f:Bool)(c:UInt8)(l:qa):qkf f (c::l)=qkf (decide (c=10)) l:=by
 cases l with
 |nil=>simp[qkf]
 |cons b l=>
  unfold qkf;rw[List.getLast?_cons_cons]
  cases hb:(b::l).getLast? with
  |none=>simp at hb
  |some x=>rfl
theorem q1a:∀(f:Bool)(l m:qa),sp f (l++m)=(sp f l&&sp (qkf f l) m)
 |f,[],m=>by simp[sp,qkf]
 |f,c::l,m=>by
  simp only[Qh,sp];rw[q1a _ l m,q5f,Bool.and_assoc]
theorem qwh(l:qa):y9 l↔2<=l.length∧l.length<=50000∧l.getLast?=some 10∧sp true l=true:=by
 unfold y9;rw[qkc]
theorem qey:∀(n u:Nat),u<=n->∀c∈Lib.decDigits u,48<=c.toNat∧c.toNat<=57
 |n,u,hn,c,hc=>by
  by_cases h:u<10
  .rw[Lib.decDigits_one h]at hc
   simp only[Qo]at hc;subst hc;rw[UInt8.toNat_ofNat'];omega
  .rw[qcz h,Qj]at hc
   cases n with
   |zero=>omega
   |succ n=>
    rcases hc with hc|hc
    .exact qey n (u / 10) Om c hc
    .exact qey n (u%10) Om c hc
theorem qmm(n:Nat):Lib.itoa (n:Int)=Lib.decDigits n:=by
 unfold Lib.itoa;rw[if_neg Om];simp
theorem zca(n:Nat):∀c∈Lib.itoa (n:Int),48<=c.toNat∧c.toNat<=57:=by
 rw[qmm];exact qey n n (Qd _)
theorem qy4(u:Nat):Lib.decDigits u≠[]:=by
 intro h;have:=congrArg Xa h;rw[Lib.decDigits_length]at this;have:=Lib.nDigits_pos u;simp at *;omega
theorem qws:∀(a:Nat)(l m:qa)(b:Nat),Lib.parseUint10 a l=.ok b->Lib.parseUint10 a (l++m)=Lib.parseUint10 b m
 |a,[],m,b,h=>by
  simp only[Lib.parseUint10,Lib.NumEnd.ok.injEq]at h
  subst h;rfl
 |a,c::l,m,b,h=>by
  simp only[Qh,Lib.parseUint10]at h⊢;split at h
  .rename_i hd
   rw[if_pos hd];split at h
   .cases h
   .rename_i h1
    rw[if_neg h1];split at h
    .cases h
    .rename_i h2
     rw[if_neg h2];exact qws _ l m b h
  .cases h
theorem qwu:∀(n u:Nat),u<=n->u<1000000000000000000->Lib.parseUint10 0 (Lib.decDigits u)=.ok u
 |n,u,hn,hu=>by
  have key:∀(a d:Nat),a<100000000000000000->d<10->Lib.parseUint10 a (Lib.decDigits d)=.ok (a*10+d):=by
   intro a d ha hd;have e:(UInt8.ofNat (48+d)).toNat=48+d:=by rw[UInt8.toNat_ofNat'];omega
   rw[Lib.decDigits_one hd];simp only[Lib.parseUint10,e];rw[if_pos Om,if_neg Om,if_neg Om];congr 1;omega
  by_cases h:u<10
  .have:=key 0 u Om h
   simpa using this
  .cases n with
   |zero=>omega
   |succ n=>
    rw[qcz h,qws 0 _ _ (u / 10) (qwu n (u / 10) Om Om),key _ _ Om Om];congr 1;omega
theorem q7c{n:Nat}(h:n<1000000000000000000):Lib.atoiAll (Lib.itoa (n:Int))=.ok (n:Int):=by
 have hp:=qwu n n (Qd _) h;have hd:=qey n n (Qd _);rw[qmm]
 cases hl:Lib.decDigits n with
 |nil=>exact absurd hl (qy4 n)
 |cons c r=>
  rw[hl]at hp hd;have hc:=hd c Sx;simp only[Lib.atoiAll];have h1:¬(c.toNat=43∨c.toNat=45):=Om
  rw[if_neg h1];have hm:Lib.parseMag (c::r)=.ok n:=by unfold Lib.parseMag;rw[if_neg Sx];exact hp
  rw[hm];have h2:¬c.toNat=45:=Om
  simp only[h2,not_false_iff,true_and,false_and,if_false];rw[if_neg Om]
theorem qoo{n:Nat}(h1:1<=n)(h2:n<=50000):vq (Lib.itoa (n:Int))=n:=by
 have:=qts (q7c (n:=n) Om);rw[if_pos ⟨rfl,Om,Om⟩]at this;omega
theorem qg7{l:qa}{n:Nat}(h:vq l=n)(hn:1<=n):l=Lib.itoa (n:Int):=by
 unfold vq at h;split at h
 .split at h
  .rename_i v _ hv
   have:v=(n:Int):=Om
   rw[<-this,hv.1]
  .omega
 .omega
end Go.Pl
namespace Go.Proofs.YthnbabbhpeebbaaGreatDoor
open Go Go.Pl
def xc(n:Nat)(fig:qa):qa:=z6++(Lib.itoa n++32::fig)
theorem zb5(n:Nat)(fig:qa):qki n fig=xc n fig++[10]:=by simp[qki,xc,z6]
theorem qmu(n:Nat){c:UInt8}(h:¬(48<=c.toNat∧c.toNat<=57)):c∉Lib.itoa (n:Int):=λhc=>h (zca n c hc)
theorem qoe{f:qa}(h:qah f){c:UInt8}(hc:c∉hexL):c∉f:=λh'=>hc (h c h')
theorem qd2(n:Nat){fig:qa}(h:qah fig):10∉xc n fig:=by
 unfold xc;simp only[Qj,Qy,not_or];exact⟨by decide,qmu n (by decide),by decide,qoe h (by decide)⟩
theorem qnd(l:qa):Lib.trimPrefix (z6++l) z6=l:=by
 rw[qc3 (Qe _ _),Qs]
theorem q0n{n:Nat}{fig:qa}(h2:2<=n)(hn:n<=50000)(hf:fig.length=8)(hx:qah fig):jf (xc n fig)=(n,fig,true):=by
 unfold jf xc;have h32:32∉Lib.itoa (n:Int):=qmu n (by decide);rw[qnd,yj fig h32,qad fig h32,qoo Om hn];rw[decide_eq_true ⟨Qe _ _,Sx,h2,hf,hx⟩]
theorem q6e{n:Nat}{fig:qa}(r:qa)(h2:2<=n)(hn:n<=50000)(hf:fig.length=8)(hx:qah fig):
  z4 (xc n fig++10::r)=if r.length<n then(qd9 r ((n:Int)-r.length),[],0)
   else if y9 (r.take n)then qa6 (r.drop n) (r.take n) fig (qgp n)else(3,[],0):=by
 have hm:10∈xc n fig++10::r:=Sx
 have p7:=qd2 n hx;unfold z4;rw[if_pos hm,yj r p7,qad r p7,q0n h2 hn hf hx];simp only[if_true]
structure q23 (n:Nat) (fig body:qa):Prop where
 two:2<=n
 most:n<=50000
 len:body.length=n
 good:y9 body
 figs:fig.length=8
 hex:qah fig
def recL(n:Nat)(fig body:qa):qa:=xc n fig++10::(body++qe1 n)
theorem qln(l:qa):recF l=recL l.length (sumF l) l:=by
 unfold recF recL;rw[zb5];simp
theorem qwx{l a b:qa}(h:l<+:a++b):l<+:a∨∃r,l=a++r∧r<+:b:=by
 rcases Nat.le_total l.length a.length with hl|hl
 .exact .inl (Qq h (Qe _ _) hl)
 .obtain⟨r,hr⟩:=Qq (Qe a b) h hl
  exact .inr ⟨r,hr.symm,by rw[<-hr]at h;exact(Qc a).1 h⟩
theorem qvd{a b:qa}{c:UInt8}(h:a<+:b)(hc:c∉b):c∉a:=λh'=>hc (h.subset h')
theorem q6d(f:qa)(hl:f.length<=8)(hx:qah f):∃g:qa,g.length=8∧qah g∧f<+:g:=
 ⟨f++Qi (8-f.length) 48,So,λc hc=>by
  rw[Qj,List.mem_replicate]at hc;rcases hc with hc|⟨_,rfl⟩
  .exact hx c hc
  .decide,Qe _ _⟩
theorem qvh:∀(k:Nat),sp false (Qi k 97++[10])=true
 |0=>by simp[sp]
 |k+1=>by rw[List.replicate_succ,Qh];simp only[sp];exact by simpa using qvh k
theorem qyt{n:Nat}{r:qa}(hn:n<=50000)(e8:r.length<n)(h2:2<=n)(hp:qd9 r ((n:Int)-r.length)=2):∃body:qa,body.length=n∧y9 body∧r<+:body:=by
 unfold qd9 at hp;split at hp
 .rename_i h
  obtain⟨hs,t6⟩:=h;rw[qkc]at hs;by_cases hf:r=[]∨r.getLast?=some 10
  .have hk:r.length+2<=n:=by
    rcases Zz (r.length+1) n with h|h
    .omega
    .exact absurd ⟨hf,Om⟩ t6
   refine⟨r++(32::(Qi (n-r.length-2) 97++[10])),So,?_,Qe _ _⟩;rw[qwh];refine⟨So,So,by simp[Zj,List.getLast?_cons],?_⟩;rw[q1a,hs];simp only[sp,Bool.true_and];have:=qvh (n-r.length-2)
   simpa using this
  .refine⟨r++(Qi (n-r.length-1) 97++[10]),So,?_,Qe _ _⟩
   rw[qwh];refine⟨So,So,by simp[Zj],?_⟩;rw[q1a,hs]
   have e:qkf true r=false:=by
    unfold qkf
    cases hq:r.getLast? with
    |none=>exact absurd (.inl (List.getLast?_eq_none_iff.1 hq)) hf
    |some c=>
     refine decide_eq_false λh=>hf (.inr ?_);rw[hq,h]
   rw[e,qvh];rfl
 .simp at hp
theorem qhz{n:Nat}(h2:2<=n)(hn:n<=50000):∃body:qa,body.length=n∧y9 body:=by
 obtain⟨b,h1,h3,_⟩:=qyt (n:=n) (r:=[]) hn So h2 (by
  unfold qd9;rw[qkc]
  rw[if_pos ⟨rfl,by rintro⟨_,h⟩;simp at h;omega⟩])
 exact⟨b,h1,h3⟩
theorem qh7{a b c:qa}(h:a<+:b):a<+:b++c:=h.trans (Qe _ _)
theorem qhp{n:Nat}{fig body l:qa}(h:l<+:xc n fig):l<+:recL n fig body∧l.length<(recL n fig body).length:=by
 refine⟨qh7 h,?_⟩;have:=h.length_le;unfold recL;simp;omega
theorem zf1{l:qa}(h:(z4 l).1=2):∃n fig body,q23 n fig body∧l<+:recL n fig body∧l.length<(recL n fig body).length:=by
 unfold z4 at h;split at h
 .rename_i p7
  split at h
  .rename_i ho
   generalize hr:past 10 l=r at *;have hl:=qar p7;rw[hr]at hl;generalize hu:upto 10 l=u at *
   -- the first line
   have rq:u=xc (jf u).1 (jf u).2.1∧2<=(jf u).1∧(jf u).1<=50000∧(jf u).2.1.length=8∧qah (jf u).2.1:=by
    simp only[jf,decide_eq_true_eq]at ho⊢;obtain⟨o1,o2,o3,o4,o5⟩:=ho;refine⟨?_,o3,qct _,o4,o5⟩;obtain⟨t,rfl⟩:=o1;rw[qnd]at *;have:=qg7 rfl (Nat.le_trans (by decide) o3);unfold xc;rw[<-this,<-qar o2]
   generalize(jf u).1=n at *;generalize(jf u).2.1=fig at *;obtain⟨rfl,h2,hn,hf,hx⟩:=rq;split at h
   .rename_i e8
    obtain⟨body,b1,b2,b3⟩:=qyt hn e8 h2 h;refine⟨n,fig,body,⟨h2,hn,b1,b2,hf,hx⟩,?_,?_⟩
    .rw[hl]
     unfold recL;rw[Qc,Qp];exact⟨rfl,qh7 b3⟩
    .rw[hl]
     unfold recL;have:=b3.length_le;have:=qf9 n;simp;omega
   .rename_i mz
    split at h
    .rename_i hg
     have b9:(r.take n).length=n:=So
     refine⟨n,fig,r.take n,⟨h2,hn,b9,hg,hf,hx⟩,?_⟩;unfold qa6 at h;rw[b9]at h;split at h
     .rename_i hc
      rw[hl];unfold recL;constructor
      .rw[Qc,Qp]
       refine⟨rfl,?_⟩
       conv=>lhs;rw[<-List.take_append_drop n r]
       rw[Qc];exact hc.2
      .have:=hc.1
       simp at this⊢;omega
     .split at h<;>simp at h
    .simp at h
  .simp at h
 .rename_i p7
  split at h
  .rename_i ho
   unfold qe8 at ho;split at ho
   .rename_i hb
    obtain⟨t,rfl⟩:=hb;have ed:(z6++t).drop 7=t:=by rw[show(7:Nat)=z6.length by rfl,Qs]
    rw[ed]at ho;obtain⟨o1,o2,o3,o4⟩:=of_decide_eq_true ho;by_cases h32:32∈t
    .have hn2:2<=vq (upto 32 t):=by
      rcases Zz (vq (upto 32 t)) 2 with h|h
      .exact absurd ⟨h32,h⟩ o1
      .exact h
     obtain⟨fig,f1,f2,f3⟩:=q6d _ o3 o4;obtain⟨body,b1,b2⟩:=qhz hn2 (qct _);refine⟨_,fig,body,⟨hn2,qct _,b1,b2,f1,f2⟩,qhp ?_⟩;unfold xc;rw[Qc]
     conv=>lhs;rw[qar h32]
     rw[qg7 (l:=upto 32 t) rfl Om];rw[qoo Om (qct _),Qc,Qp];exact⟨rfl,f3⟩
    .rw[qfc h32]at o2
     by_cases ht:t=[]
     .subst ht
      obtain⟨body,b1,b2⟩:=qhz (n:=2) Om Om;refine⟨2,Qi 8 48,body,⟨Om,Om,b1,b2,Sx,by decide⟩,qhp ?_⟩;unfold xc;simp
     .have pt:1<=vq t:=by
       rcases Nat.eq_zero_or_pos (vq t)with h|h
       .exact absurd ⟨ht,h⟩ o2
       .exact h
      have d8:=qct t;have ht2:=qg7 (l:=t) rfl pt;generalize vq t=m at *;subst ht2;by_cases hm:m=1
      .subst hm
       obtain⟨body,b1,b2⟩:=qhz (n:=10) Om Om;refine⟨10,Qi 8 48,body,⟨Om,Om,b1,b2,Sx,by decide⟩,qhp ?_⟩;unfold xc;rw[Qc];have e1:Lib.itoa ((1:Nat):Int)=[49]:=by rw[qmm,Lib.decDigits_one (by decide)];rfl
       have e2:Lib.itoa ((10:Nat):Int)=[49,48]:=by rw[qmm,qcz (by decide),Lib.decDigits_one (by decide),Lib.decDigits_one (by decide)];rfl
       rw[e1,e2];exact⟨_,rfl⟩
      .obtain⟨body,b1,b2⟩:=qhz (n:=m) Om Om
       refine⟨m,Qi 8 48,body,⟨Om,Om,b1,b2,Sx,by decide⟩,qhp ?_⟩;unfold xc;rw[Qc];exact Qe _ _
   .rename_i hb
    have hp:=of_decide_eq_true ho;obtain⟨body,b1,b2⟩:=qhz (n:=2) Om Om;refine⟨2,Qi 8 48,body,⟨Om,Om,b1,b2,Sx,by decide⟩,qhp ?_⟩;unfold xc;exact qh7 hp
  .simp at h
theorem qqe(s:BitVec 32):qah (qco s 8):=by
 intro c hc;simp only[qco,Zx]at hc;obtain⟨j,_,rfl⟩:=hc;unfold figP;have h:=Go.Av.and15_lt (s>>>(4*(7-j)));generalize((s>>>(4*(7-j)))&&& BitVec.ofInt 32 15).toNat=k at h;have key:∀i:Fin 16,([48,49,50,51,52,53,54,55,56,57,97,98,99,100,101,102]:qa).getD i.val 0∈hexL:=by decide
 exact key ⟨k,h⟩
theorem q6h{b:qa}(h:y9 b):q23 b.length (sumF b) b:=⟨h.1,h.2.1,rfl,h,qhc b,qqe _⟩
theorem qqo(b:qa)(h:y9 b):((recF b).length:Int)=qgp b.length:=by
 obtain⟨g1,g2,_⟩:=h;unfold recF qgp;rw[if_neg Om];simp only[Qv,qf0,qhc];simp
theorem zc4{b:qa}(m:qa)(h:y9 b):z4 (recF b++m)=(1,b,((recF b).length:Int)):=by
 have R:=q6h h;rw[qqo b h,qln];unfold recL;rw[Qb,Qh,Qb,q6e _ R.two R.most R.figs R.hex,if_neg Sx,List.take_left,Qs,if_pos h];unfold qa6;rw[if_neg (by simp;intro h;omega),if_pos ⟨Qe _ _,rfl⟩]
end Go.Proofs.YthnbabbhpeebbaaGreatDoor
