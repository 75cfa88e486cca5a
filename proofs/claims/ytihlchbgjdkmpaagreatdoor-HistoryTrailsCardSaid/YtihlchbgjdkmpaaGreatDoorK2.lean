/- Contracts and plain facts that the closing text leans on (part 2). No condition of their own beyond those that each states. -/
import Derived.Test.YtihlchbgjdkmpaaGreatDoorK1
import Derived.Lib.Builder
import Derived.Laws.Pointers
import Derived.Laws.Externs
import Derived.Laws.Tables
import Derived.Test.YtihlchbgjdkmpaaGreatDoorK0
import Derived.Test.YtihlchbgjdkmpaaGreatDoorRows
import Derived.LaidHandle
import Derived.ProofKit
import Derived.OpenShut
import Derived.ShutString
import Derived.Deep.DeepHandedRow
import Derived.Deep.DeepWitnessRowRef
import Derived.Lib.LaidU8
import Derived.Lib.SmallJoins
import Derived.ChangeSame
import Derived.ChangeAgain
import Derived.Lay
import Derived.Lib.Index
import Derived.Lib.SlTrimSet
import Derived.Shelf.Strings.Prefix
import Derived.Shelf.Strings.Cut
import Derived.Lib.ItoaNum
import Derived.Lib.AtoiAll
import Derived.Lib.Repeat
set_option maxRecDepth 100000
set_option linter.unusedVariables false
set_option linter.unusedSimpArgs false
open Array renaming range→Qm,getD_eq_getD_getElem?→Qn,getElem?_modify→Za,ext→Zs
open Int renaming fdiv_eq_ediv_of_nonneg→Qp
open List renaming append_assoc→Qb,append_nil→Qc,isPrefixOf→Qd,getElem?_append_left→Qi,take_length→Qj,mem_filter→Qk,getElem?_append_right→Qo,getElem?_map→Qq,range→Qr,all_eq_true→Qv,mem_append→Qw,contains_iff_mem→Qz,mem_cons→Zb,mem_map_of_mem→Zc,length_pos_iff→Zd,getElem?_drop→Ze,mem_singleton→Zg,length_append→Zh,cons_append→Zj,not_mem_nil→Zk,map_append→Zl,set_comm→Zm,set_set→Zo
open Nat renaming le_of_ble_eq_true→Qa,le_refl→Qe,mod_eq_of_lt→Qf,beq→Ql,shiftRight_eq_div_pow→Qs,ble→Qt,eq_of_beq_eq_true→Qx,ble_eq_true_of_le→Qy,lt_of_le_of_lt→Zf,le_of_eq→Zn,zero_add→Zp,mul_one→Zq,blt_eq→Zr,blt→Zt
open Option renaming isSome_iff_exists→Qu
open Option.some renaming inj→Qg,injEq→Qh
open Prod renaming fst→Zi
open Prod.mk renaming injEq→Zu
namespace Go.Av
open Go Go.RowKit
section
variable {E : Env} {rd : Option Nat} {N : Nat} {ops : Array Oper} {K : AS → Prop} {s : AS} {rest : List Oper} {d : Option Tmp} {T : TypeId} {p : String} {af : Array Edge}
def zkx:AV->Bool
 |.bx _ _ _=>true
 |.pp _=>true
 |_=>false
theorem wv{x:Operand}{r:AV}(hx:qn N s x=r)(hr:zkx r=true)(h:AOps E rd N ops rest K (s.put d r)):AOps E rd N ops (⟨d,.nilCheck x,T,p,af,none⟩::rest) K s:=by
 refine ze rfl (za nofun λB0 w0 G a w _ hI=>?_);have he:=hI.eval_of hx
 have key:∃q,a.eval x=.pointer (some q):=by
  generalize a.eval x=u at he
  cases he<;>simp[zkx]at hr
  .exact⟨_,rfl⟩
  .exact⟨_,rfl⟩
 obtain⟨q,hv⟩:=key;refine⟨_,w,G,r,s.st,?_,.refl G,hI.agree,hv▸he,h⟩;generalize a.eval=ρ at hv;simp[execOp,hv]
end
section
variable {B0 : Nat} {w0 : World} {G : Gh} {st : List AObj} {w : World}
theorem zm.refroze(h:zm B0 w0 G st w){w':World}{g:Nat}{c:Array Value}{T:TypeId}{fz fz':Nat×Nat}(hg:w.heap[g]?=some (.cells c T fz))(hg':w'.heap[g]?=some (.cells c T fz'))(ho:∀k,k≠g->w'.heap[k]?=w.heap[k]?)(hB:B0<=g)
  (m8:w'.heap.size=w.heap.size) (hos:w'.os=w.os) (htape:w'.tape=w.tape) (hout:w'.output=w.output) (hs:∀o x,st[o]?=some x->x.live->(G.ob o).blk≠g):zm B0 w0 G st w':=by
 refine⟨h.below.trans ⟨hos,htape,hout,Om,λk hk=>ho k Om⟩,by rw[m8];exact h.hB,h.n,λb vs hb=>?_,λo x hx=>(h.ob o x hx).mono (.refl G) rfl (λ_=>rfl) (λhl=>ho _ (hs o x hx hl)),h.sep⟩;by_cases e:b=g
 .subst e
  obtain⟨c2,T2,fz2,e1,e2⟩:=h.pub b vs hb;rw[hg]at e1;simp only[Qh,Obj.cells.injEq]at e1;exact⟨c,T,fz',hg',by rw[e1.1];exact e2⟩
 .rw[ho b e]
  exact h.pub b vs hb
theorem zm.tipCell(h:zm B0 w0 G st w){o ver j sz:Nat}{T T':TypeId}{cs:List AV}(ho:st[o]?=some (.cells ver T cs))(hj:cs[j]?=some zn):
  zm B0 w0 (G.new 0 0 0 false) (st.set o (.cells ver T (cs.set j (.sl sz [] (some st.length))))++[AObj.tip 0 sz T']) w:=by
 have h1:=h.newTip sz T';have d7:=G.le_new 0 0 0 false;have d8:=lt_of_getElem? ho
 have e:st.set o (.cells ver T (cs.set j (.sl sz [] (some st.length))))++[AObj.tip 0 sz T']=(st++[AObj.tip 0 sz T']).set o (.cells ver T (cs.set j (.sl sz [] (some st.length)))):=by
  rw[List.set_append_left _ _ d8]
 rw[e];have e7:(st++[AObj.tip 0 sz T'])[o]?=some (.cells ver T cs):=by rw[Qi d8];exact ho
 generalize hG:G.new 0 0 0 false=G' at h1 d7;have hn:st.length<G'.n:=by rw[h1.n];simp
 refine⟨h1.below,h1.hB,by simp[h1.n],h1.pub,λk x hx=>?_,λk k' x x' b9 hx i4 hl bj=>?_⟩
 .rcases getElem?_set' _ _ _ _ _ hx with⟨rfl,rfl⟩|⟨b9,hx⟩
  .obtain⟨g0,g1,g2,g3,c,g4,g5,g6⟩:=h1.ob k _ e7
   refine⟨g0,g1,g2,g3,c,g4,by simpa using g5,λi x y hx hy=>?_⟩;rcases getElem?_set' _ _ _ _ _ hx with⟨rfl,rfl⟩|⟨_,hx⟩
   .have:=g6 i _ y hj hy
    cases this
    exact .sl0 sz (some st.length) none 0 λt ht=>by simp at ht;subst ht;exact⟨hn,rfl,rfl⟩
   .exact g6 i x y hx hy
  .exact h1.ob k x hx
 .have key:∀(k:Nat)(x:AObj),((st++[AObj.tip 0 sz T']).set o (.cells ver T (cs.set j (.sl sz [] (some st.length)))))[k]?=some x->∃x0:AObj,(st++[AObj.tip 0 sz T'])[k]?=some x0∧(x.live->x0.live):=λk x hx=>by
   rcases getElem?_set' _ _ _ _ _ hx with⟨rfl,rfl⟩|⟨_,hx⟩
   .exact⟨_,e7,λ_=>trivial⟩
   .exact⟨x,hx,id⟩
  obtain⟨x0,e1,e2⟩:=key k x hx;obtain⟨x1,e3,e4⟩:=key k' x' i4;exact h1.sep k k' x0 x1 b9 e1 e3 (e2 hl) (e4 bj)
end
section
variable {E : Env} {rd : Option Nat} {N : Nat} {ops : Array Oper} {K : AS → Prop} {s : AS} {rest : List Oper} {d : Option Tmp} {T : TypeId} {p : String} {af : Array Edge}
def qdn:AV->Option Bool
 |.bx _ _ _=>some false
 |.pp _=>some false
 |.v (.pointer none)=>some true
 |_=>none
theorem qbi{x:Operand}{t t' te:TypeId}{r:AV}{b:Bool}(hx:qn N s x=r)(hr:qdn r=some b)(hu:E.P.underlying t=some (.pointer te))(h:AOps E rd N ops rest K (s.put d (Bv b))):AOps E rd N ops (⟨d,.binOp .eql t x (.const (.pointer none)) t',T,p,af,none⟩::rest) K s:=by
 refine ze rfl (za nofun λB0 w0 G a w _ hI=>?_);have he:=hI.eval_of hx
 have key:∃q:Option Addr,a.eval x=.pointer q∧q.isNone=b:=by
  generalize a.eval x=u at he
  cases he<;>try (simp[qdn]at hr;done)
  case v=>
   cases u<;>try (simp[qdn]at hr;done)
   case pointer q=>
    cases q<;>simp[qdn]at hr
    subst hr;exact⟨_,rfl,rfl⟩
  case pp=>simp[qdn]at hr;subst hr;exact⟨_,rfl,rfl⟩
  case bx=>simp[qdn]at hr;subst hr;exact⟨_,rfl,rfl⟩
 obtain⟨q,hv,rfl⟩:=key;have hc:a.eval (.const (.pointer none))=.pointer none:=rfl;have hq:=run_eql_pointer_nil (P:=E.P) w t q (by simp[Program.pointee,hu]);refine⟨_,w,G,_,s.st,?_,.refl G,hI.agree,.v _,h⟩;generalize a.eval=ρ at hv hc;simp[execOp,hv,hc,eqGuard_at_pointer,hq]
theorem qf3{x:Operand}{t t' te:TypeId}{r:AV}{b:Bool}(hx:qn N s x=r)(hr:qdn r=some b)(hu:E.P.underlying t=some (.pointer te))(h:AOps E rd N ops rest K (s.put d (Bv !b))):AOps E rd N ops (⟨d,.binOp .neq t x (.const (.pointer none)) t',T,p,af,none⟩::rest) K s:=by
 refine ze rfl (za nofun λB0 w0 G a w _ hI=>?_);have he:=hI.eval_of hx
 have key:∃q:Option Addr,a.eval x=.pointer q∧q.isNone=b:=by
  generalize a.eval x=u at he
  cases he<;>try (simp[qdn]at hr;done)
  case v=>
   cases u<;>try (simp[qdn]at hr;done)
   case pointer q=>
    cases q<;>simp[qdn]at hr
    subst hr;exact⟨_,rfl,rfl⟩
  case pp=>simp[qdn]at hr;subst hr;exact⟨_,rfl,rfl⟩
  case bx=>simp[qdn]at hr;subst hr;exact⟨_,rfl,rfl⟩
 obtain⟨q,hv,rfl⟩:=key;have hc:a.eval (.const (.pointer none))=.pointer none:=rfl;have hq:=run_neq_pointer_nil (P:=E.P) w t q (by simp[Program.pointee,hu]);refine⟨_,w,G,_,s.st,?_,.refl G,hI.agree,.v _,h⟩;generalize a.eval=ρ at hv hc;simp[execOp,hv,hc,eqGuard_at_pointer,hq]
theorem Inv.ptr{B0:Nat}{w0:World}{G:Gh}{a:Act}{w:World}(hI:Inv B0 w0 N G s a w){x:Operand}{o ver off:Nat}{T1:TypeId}{cs:List AV}(hx:qn N s x=.bx o ver off)(ho:s.st[o]?=some (.cells ver T1 cs)):a.eval x=.pointer (some ⟨(G.ob o).blk,off,none⟩):=by
 have he:=hI.eval_of hx;obtain⟨_,h1,_⟩:=hI.agree.ob o _ ho;generalize a.eval x=v at he
 cases he with
 |bx _ _ _ b hn hv hb=>rw[hb h1]
theorem qye{x y:Operand}{t t' te:TypeId}{o ver off:Nat}{T1:TypeId}{cs:List AV}(hx:qn N s x=.bx o ver off)(hy:qn N s y=.bx o ver off)(ho:s.st[o]?=some (.cells ver T1 cs))(hu:E.P.underlying t=some (.pointer te))(hi:(E.P.info? te).isSome=true)
  (h:AOps E rd N ops rest K (s.put d (Bv false))):AOps E rd N ops (⟨d,.binOp .neq t x y t',T,p,af,none⟩::rest) K s:=by
 refine ze rfl (za nofun λB0 w0 G a w _ hI=>?_);obtain⟨j,hj⟩:=Qu.1 hi;have h1:=hI.ptr hx ho;have h2:=hI.ptr hy ho;have hq:=Lib.run_neq_ptr_same (P:=E.P) w ⟨(G.ob o).blk,off,none⟩ hu hj;refine⟨_,w,G,_,s.st,?_,.refl G,hI.agree,.v _,h⟩;generalize a.eval=ρ at h1 h2;simp[execOp,h1,h2,eqGuard_at_pointer,hq]
theorem q18{x:Operand}{t t' te:TypeId}{o ver:Nat}{T1:TypeId}{cs:List AV}(hx:qn N s x=.bx o ver 0)(ho:s.st[o]?=some (.cells ver T1 cs))(b9:0<cs.length)(hs:E.P.underlying t=some (.pointer te))(hd:E.P.underlying t'=some .unsafePointer)(hi:(match E.P.info? te with|some j=>Ql j.size 0|none=>true)=false)
  (h:AOps E rd N ops rest K (s.put d (.bx o ver 0))):AOps E rd N ops (⟨d,.convert t t' x,T,p,af,none⟩::rest) K s:=by
 refine ze rfl (za nofun λB0 w0 G a w _ hI=>?_);obtain⟨_,h1,h2,h3,c,h4,h5,h6⟩:=hI.agree.ob o _ ho;have he:=hI.eval_of hx;have hv:=hI.ptr hx ho
 cases hj:E.P.info? te with
 |none=>rw[hj]at hi;simp at hi
 |some j=>
  rw[hj]at hi;have hj0:j.size≠0:=λe=>by simp[e]at hi
  have hq:=Lib.run_to_unsafe (P:=E.P) w ⟨(G.ob o).blk,0,none⟩ hs hd hj hj0 (e:=T1) (cells:=c.size) (by simp[World.shape?,h4]) (by simpa[<-h5]using b9);refine⟨_,w,G,_,s.st,?_,.refl G,hI.agree,hv▸he,h⟩;generalize a.eval=ρ at hv;simp[execOp,hv,hq]
theorem qvr{x:Operand}{t t' te:TypeId}{o ver:Nat}{T1:TypeId}{cs:List AV}(hx:qn N s x=.bx o ver 0)(ho:s.st[o]?=some (.cells ver T1 cs))(hs:E.P.underlying t=some .unsafePointer)(hd:E.P.underlying t'=some (.pointer te))(hi:(E.P.info? te).isSome=true)(hl:liesAt E.P E.P.depth T1 (cs.length / E.P.cellsOf T1) 0 te 1=true)
  (h:AOps E rd N ops rest K (s.put d (.bx o ver 0))):AOps E rd N ops (⟨d,.convert t t' x,T,p,af,none⟩::rest) K s:=by
 refine ze rfl (za nofun λB0 w0 G a w _ hI=>?_);obtain⟨_,h1,h2,h3,c,h4,h5,h6⟩:=hI.agree.ob o _ ho;obtain⟨j,hj⟩:=Qu.1 hi;have he:=hI.eval_of hx;have hv:=hI.ptr hx ho;have hq:=Lib.run_from_unsafe (P:=E.P) w ⟨(G.ob o).blk,0,none⟩ hs hd hj (e:=T1) (cells:=c.size) (by simp[World.shape?,h4]) (by rw[<-h5];exact hl);refine⟨_,w,G,_,s.st,?_,.refl G,hI.agree,hv▸he,h⟩;generalize a.eval=ρ at hv;simp[execOp,hv,hq]
theorem q16{f:FuncId}{x:Operand}{ts:Array TypeId}{r:AV}(a8:∀v w,(callFunc f #[v]).run E.P w=.ok (.value v) w)(hx:qn N s x=r)
  (h:AOps E rd N ops rest K (s.put d r)):AOps E rd N ops (⟨d,.call ⟨.value (.func f),#[x],ts⟩,T,p,af,none⟩::rest) K s:=by
 refine ze rfl (za nofun λB0 w0 G a w _ hI=>?_);refine⟨a.eval x,w,G,_,s.st,?_,.refl G,hI.agree,hI.eval_of hx,h⟩;have he:a.eval (.func f)=.func (.func f) #[] #[]:=rfl;generalize a.eval=ρ at he;simp[execOp,resolve,Deferred.ofValue,he,invoke,a8]
theorem Inv.restate{B0:Nat}{w0:World}{G G':Gh}{a:Act}{w:World}{st':List AObj}(h:Inv B0 w0 N G s a w)(hG:G.le G')(hA:zm B0 w0 G' st' w):Inv B0 w0 N G' ⟨s.t,st',s.df⟩ a w:=
 ⟨hA,h.defers_mono hG,h.size,λi y hy=>(h.tmps i y hy).mono hG⟩
theorem q3p{o ver j sz:Nat}{T1 T':TypeId}{cs:List AV}{l:List Oper}(ho:s.st[o]?=some (.cells ver T1 cs))(hj:cs[j]?=some zn)
  (h:AOps E rd N ops l K ⟨s.t,s.st.set o (.cells ver T1 (cs.set j (.sl sz [] (some s.st.length))))++[AObj.tip 0 sz T'],s.df⟩):AOps E rd N ops l K s:=
 ⟨λB0 w0 G a w hL hI Q hQ=>h.run B0 w0 _ a w hL (hI.restate (G.le_new 0 0 0 false) (hI.agree.tipCell ho hj)) Q λG' s' a' w' hG=>hQ G' s' a' w' ((G.le_new 0 0 0 false).trans hG)⟩
theorem qs2{o ver j sz:Nat}{T1 T':TypeId}{cs:List AV}{c:Code}{Q:Exit->AS->Prop}(ho:s.st[o]?=some (.cells ver T1 cs))(hj:cs[j]?=some zn)
  (h:AWp E rd N c Q ⟨s.t,s.st.set o (.cells ver T1 (cs.set j (.sl sz [] (some s.st.length))))++[AObj.tip 0 sz T'],s.df⟩):AWp E rd N c Q s:=
 ⟨λB0 w0 G a w hL hI=>wpIn_mono (h.run B0 w0 _ a w hL (hI.restate (G.le_new 0 0 0 false) (hI.agree.tipCell ho hj))) λ_ _ _ ⟨G',s',hG,h1,h2⟩=>⟨G',s',(G.le_new 0 0 0 false).trans hG,h1,h2⟩⟩
theorem Inv.newTip{B0:Nat}{w0:World}{G:Gh}{a:Act}{w:World}(h:Inv B0 w0 N G s a w){i sz:Nat}{T':TypeId}(hi:s.t i=zn):Inv B0 w0 N (G.new 0 0 0 false) ⟨Av.put s.t i (.sl sz [] (some s.st.length)),s.st++[AObj.tip 0 sz T'],s.df⟩ a w:=by
 have hA:=h.agree.newTip sz T';have h2:=h.restate (G.le_new 0 0 0 false) hA;refine⟨h2.agree,h2.defers,h2.size,λk y hy=>?_⟩;by_cases e:k=i
 .subst e
  show Rel _ (Av.put s.t k _ k) y
  rw[xw];have:=h2.tmps k y hy;simp only[hi]at this
  cases this
  exact .sl0 sz _ none 0 λt ht=>by simp at ht;subst ht;exact⟨by rw[hA.n];simp,rfl,rfl⟩
 .show Rel _ (Av.put s.t i _ k) y
  rw[qat _ _ _ _ e];exact h2.tmps k y hy
theorem zbl{i sz:Nat}{T':TypeId}{c:Code}{Q:Exit->AS->Prop}(hi:s.t i=zn)
  (h:AWp E rd N c Q ⟨Av.put s.t i (.sl sz [] (some s.st.length)),s.st++[AObj.tip 0 sz T'],s.df⟩):AWp E rd N c Q s:=
 ⟨λB0 w0 G a w hL hI=>wpIn_mono (h.run B0 w0 _ a w hL (hI.newTip hi)) λ_ _ _ ⟨G',s',hG,h1,h2⟩=>⟨G',s',(G.le_new 0 0 0 false).trans hG,h1,h2⟩⟩
end
end Go.Av
namespace Go.Av
open Go Go.RowKit
theorem q4w:∀(vs:List Value)(off n:Nat)(c:Array Value),off+n+vs.length<=c.size->
  ((vs.zipIdx n).foldl (λ(cs:Array Value)(x:Value×Nat)=>cs.setIfInBounds (off+x.2) x.1) c).size=c.size∧
  ∀k,((vs.zipIdx n).foldl (λ(cs:Array Value)(x:Value×Nat)=>cs.setIfInBounds (off+x.2) x.1) c)[k]?=if off+n<=k∧k<off+n+vs.length then vs[k-(off+n)]?else c[k]?
 | [],off,n,c,_=>⟨Sx,λk=>by simp;intro h1 h2;omega⟩
 |v::vs,off,n,c,h=>by
  simp only[List.zipIdx_cons,List.foldl_cons,List.length_cons]at h⊢;obtain⟨h1,h2⟩:=q4w vs off (n+1) (c.setIfInBounds (off+n) v) So;refine⟨by rw[h1];simp,λk=>?_⟩;rw[h2 k];by_cases hk:k=off+n
  .subst hk
   rw[if_neg Om,if_pos Om,Array.getElem?_setIfInBounds_self,if_pos Om];simp
  .by_cases hr:off+n<=k∧k<off+n+(vs.length+1)
   .rw[if_pos Om,if_pos hr]
    rw[show k-(off+n)=(k-(off+(n+1)))+1 by omega];simp
   .rw[if_neg Om,if_neg hr]
    rw[Array.getElem?_setIfInBounds,if_neg Om]
def qd0(place:Nat->Option (Nat×Nat))(cells:List AV):List (Nat×AV)->Option (List AV)
 | []=>some cells
 |(i,x)::rest=>
  match place i with
  |none=>none
  |some (off,size)=>bif x.okc&&Ql x.cells.length size&&Qt (off+size) cells.length then qd0 place (z6 cells off x.cells) rest else none
theorem qk6{G:Gh}(place:Nat->Option (Nat×Nat)):∀(ps:List (Nat×AV))(vs:List (Nat×Value))(cs:List AV)(c:Array Value)(cs':List AV),ps.length=vs.length->(∀(i:Nat)(p:Nat×AV)(v:Nat×Value),ps[i]?=some p->vs[i]?=some v->p.1=v.1∧Rel G p.2 v.2)->
  RelC G cs c->qd0 place cs ps=some cs'->∃c',Instr.fill place c vs=some c'∧RelC G cs' c'
 | [],[],cs,c,cs',_,_,hc,h=>by
  simp only[qd0,Qh]at h;subst h
  exact⟨c,rfl,hc⟩
 | [],v::vs,_,_,_,hl,_,_,_=>by simp at hl
 |p::ps,[],_,_,_,hl,_,_,_=>by simp at hl
 |(i,x)::ps,(j,v)::vs,cs,c,cs',hl,hr,hc,h=>by
  obtain⟨e,hx⟩:=hr 0 _ _ rfl rfl;simp only at e hx;subst e;simp only[qd0]at h;simp only[Instr.fill]
  cases hp:place i with
  |none=>simp[hp]at h
  |some q=>
   obtain⟨off,size⟩:=q;simp only[hp]at h⊢
   cases hb:(x.okc&&Ql x.cells.length size&&Qt (off+size) cs.length)with
   |false=>simp[hb]at h
   |true=>
    simp only[hb,cond_true]at h;simp only[Bool.and_eq_true]at hb;obtain⟨⟨hok,m8⟩,d7⟩:=hb;have m8:=Qx m8;have d7:=Qa d7;have hcx:=hx.cells hok;have sj:v.cells.size=size:=by rw[<-hcx.1];exact m8
    have i8:off+v.cells.size<=c.size:=by rw[sj,<-hc.1];exact d7
    rw[if_neg (by simp[sj];rw[<-hc.1];exact d7)]
    have hfold:v.cells.zipIdx.foldl (λcs(x:Value×Nat)=>cs.setIfInBounds (off+x.2) x.1) c=(v.cells.toList.zipIdx 0).foldl (λ(cs:Array Value)(x:Value×Nat)=>cs.setIfInBounds (off+x.2) x.1) c:=by
     rw[<-Array.foldl_toList,Array.toList_zipIdx]
    obtain⟨g1,g2⟩:=q4w v.cells.toList off 0 c (by simpa using i8)
    have s7:RelC G (z6 cs off x.cells) ((v.cells.toList.zipIdx 0).foldl (λ(cs:Array Value)(x:Value×Nat)=>cs.setIfInBounds (off+x.2) x.1) c):=by
     refine⟨?_,λk a y h1 h2=>?_⟩
     .rw[g1,<-hc.1]
      simp[z6];omega
     .rw[g2]at h2
      have e1:(cs.take off).length=off:=So
      simp only[z6,Qb]at h1;by_cases hk:k<off
      .rw[Qi Om,List.getElem?_take,if_pos hk]at h1
       rw[if_neg Om]at h2;exact hc.2 k a y h1 h2
      .rw[Qo Om,e1]at h1
       by_cases s4:k-off<x.cells.length
       .rw[Qi s4]at h1
        rw[if_pos ⟨Om,So⟩]at h2;exact hcx.2 (k-off) a y h1 (by simpa using h2)
       .rw[Qo Om,Ze]at h1
        rw[if_neg So]at h2;rw[show off+x.cells.length+(k-off-x.cells.length)=k by omega]at h1;exact hc.2 k a y h1 h2
    have:=qk6 place ps vs _ _ cs' (by simpa using hl) (λi p v h1 h2=>hr (i+1) p v (by simpa using h1) (by simpa using h2)) s7 h;rw[<-hfold]at this;exact this
section
variable {E : Env} {rd : Option Nat} {N : Nat} {ops : Array Oper} {K : AS → Prop} {s : AS} {rest : List Oper} {d : Option Tmp} {T : TypeId} {p : String} {af : Array Edge}
def wp(N:Nat)(s:AS)(parts:Array (Nat×Operand)):List (Nat×AV):=parts.toList.map λx=>(x.1,qn N s x.2)
def qy3(P:Program)(t:TypeId):Option (List (Nat×Nat)):=
 match P.underlying t with
 |some (.struct fs)=>fs.toList.mapM (λf=>(P.info? f.type).map λi=>(f.offset,i.size))
 |_=>none
theorem qmp{B0:Nat}{w0:World}{G:Gh}{a:Act}{w:World}(hI:Inv B0 w0 N G s a w)(parts:Array (Nat×Operand)):∀(i:Nat)(p:Nat×AV)(v:Nat×Value),(wp N s parts)[i]?=some p->(parts.toList.map λx=>(x.1,a.eval x.2))[i]?=some v->p.1=v.1∧Rel G p.2 v.2:=λi p v h1 h2=>by
 simp only[wp,Qq]at h1 h2
 cases hq:parts.toList[i]?with
 |none=>simp[hq]at h1
 |some z=>simp[hq]at h1 h2;subst h1;subst h2;exact⟨rfl,hI.eval _⟩
theorem yb{t:TypeId}{parts:Array (Nat×Operand)}{zs cs:List AV}{pl:List (Nat×Nat)}(hz:qkr E.P t=some zs)(hp:qy3 E.P t=some pl)(hf:qd0 (pl[·]?) zs (wp N s parts)=some cs)
  (h:AOps E rd N ops rest K (s.put d (.ag cs))):AOps E rd N ops (⟨d,.build t parts,T,p,af,none⟩::rest) K s:=by
 refine ze rfl (za nofun λB0 w0 G a w _ hI=>?_);obtain⟨z,a8,hr⟩:=qr5 hz w;obtain⟨c',h1,h2⟩:=qk6 (pl[·]?) (wp N s parts) (parts.toList.map λx=>(x.1,a.eval x.2)) zs z.cells cs (by simp[wp]) (qmp hI parts) (hr G) hf;unfold qy3 at hp;split at hp
 .rename_i fs hu
  refine⟨.agg c',w,G,.ag cs,s.st,?_,.refl G,hI.agree,.ag _ _ h2.1 h2.2,h⟩;generalize a.eval=ρ at h1;simp[execOp,Instr.build,run_underlying hu,a8,Array.mapM_eq_mapM_toList,run_places w _ _ hp,h1]
 .simp at hp
def qh5(P:Program)(e:TypeId)(n:Nat):Option (List AV):=
 match P.info? e with
 |some i=>bif Ql (n*i.size) 0 then some []else i.zero.map λz=>(Qr (n*i.size)).map λk=>.v (z.cells[k%z.cells.size]!)
 |none=>none
theorem qni{B0:Nat}{w0:World}{G:Gh}{a:Act}{w:World}(hI:Inv B0 w0 N G s a w){t e:TypeId}{len sz:Nat}{agg:Bool}{parts:Array (Nat×Operand)}{zs cs:List AV}(hu:E.P.underlying t=some (.slice e))(ht:tyOf E.P e=some (sz,agg))(hz:qh5 E.P e len=some zs)
  (hf:qd0 (λi=>some (i*sz,sz)) zs (wp N s parts)=some cs) (m8:Qt (len*sz) 16777216=true):
  ∃c':Array Value,(execOp a.eval ⟨d,.buildSlice t len parts,T,p,af,none⟩).run E.P w=.ok (.value (.slice (some ⟨w.heap.size,0,none⟩) len len)) (w.alloc (.cells c' e))∧RelC G cs c':=by
 have dw:=(vw ht w).1;have m8:=Qa m8;unfold qh5 at hz
 cases hi:E.P.info? e with
 |none=>rw[hi]at hz;simp at hz
 |some i=>
  rw[hi]at hz;simp only at hz;have hs:i.size=sz:=by simpa[sizeOf,typeInfo,hi]using dw
  rw[hs]at hz
  -- the array that the run starts from
  have key:∃c0:Array Value,RelC G zs c0∧∀(Q:Array Value->Sem Value),((do
    let zero <-if len*sz=0 then pure #[]else do pure (<-zeroValue e).cells
    Q ((Qm (len*sz)).map (zero[· %zero.size]!)):Sem Value)).run E.P w=(Q c0).run E.P w:=by
   by_cases h0:len*sz=0
   .rw[h0]at hz
    simp at hz;subst hz;exact⟨#[],⟨rfl,Sx⟩,λQ=>by have e:Qm 0= #[]:=(by simp[Qm]);simp[h0,e]⟩
   .have:Ql (len*sz) 0=false:=ju h0
    rw[this]at hz;simp only[cond_false]at hz
    cases hzr:i.zero with
    |none=>rw[hzr]at hz;simp at hz
    |some z=>
     rw[hzr]at hz;simp only[Option.map_some,Qh]at hz;subst hz;refine⟨(Qm (len*sz)).map (z.cells[· %z.cells.size]!),⟨Sx,λk x y h1 h2=>?_⟩,λQ=>by simp[h0,zeroValue,typeInfo,hi,hzr]⟩;have hk:k<len*sz:=by have:=lt_of_getElem? h1;simpa using this
     simp[hk]at h1 h2;subst h1;subst h2;exact .v _
  obtain⟨c0,hc0,hrun0⟩:=key;obtain⟨c',h1,h2⟩:=qk6 (λi=>some (i*sz,sz)) (wp N s parts) (parts.toList.map λx=>(x.1,a.eval x.2)) zs c0 cs (by simp[wp]) (qmp hI parts) hc0 hf;refine⟨c',?_,h2⟩
  .generalize a.eval=ρ at h1
   have hb:¬16777216<len*sz:=Om
   have hg:∃m:String,(execOp ρ ⟨d,.buildSlice t len parts,T,p,af,none⟩).run E.P w=(((do
    let zero <-if len*sz=0 then pure #[]else do pure (<-zeroValue e).cells
    (λc=>(do
    let some cells:=Instr.fill (λi=>some (i*sz,sz)) c (parts.map λx=>(x.1,ρ x.2)).toList|stuck m
    pure (Value.slice (some (<-newRow e cells)) len len):Sem Value)) ((Qm (len*sz)).map (zero[· %zero.size]!)):Sem Value)).run E.P w).andThen λv w'=>.ok (.value v) w':=by
    apply Exists.intro;simp only[execOp,Instr.buildSlice];simp[run_underlying hu,dw,hb];rfl
   obtain⟨m,hg⟩:=hg
   have hQ:=hrun0 (λc=>do
    let some cells:=Instr.fill (λi=>some (i*sz,sz)) c (parts.map λx=>(x.1,ρ x.2)).toList|stuck m
    pure (.slice (some (<-newRow e cells)) len len))
   rw[hg,hQ];simp[h1,newRow,newObj,Sem.run]
theorem we{t e:TypeId}{len sz:Nat}{agg:Bool}{parts:Array (Nat×Operand)}{zs cs xs:List AV}(hu:E.P.underlying t=some (.slice e))(ht:tyOf E.P e=some (sz,agg))(hz:qh5 E.P e len=some zs)
  (hf:qd0 (λi=>some (i*sz,sz)) zs (wp N s parts)=some cs) (ng:(wp N s parts).map Prod.snd=xs) (d5:xs.length=len) (o7:flat xs=cs) (hw:xs.all (λx=>Ql x.cells.length sz)=true) (m8:Qt (len*sz) 16777216=true)
  (h:AOps E rd N ops rest K (s.put d (.sl sz xs none))):AOps E rd N ops (⟨d,.buildSlice t len parts,T,p,af,none⟩::rest) K s:=by
 refine ze rfl (za nofun λB0 w0 G a w _ hI=>?_);obtain⟨c',a8,h2⟩:=qni (d:=d) (T:=T) (p:=p) (af:=af) hI hu ht hz hf m8;obtain⟨d7,hA⟩:=hI.agree.newPub e c' (0,0) c'.toList (λi y hy=>by simpa using hy);refine⟨.slice (some ⟨w.heap.size,0,none⟩) len len,w.alloc (.cells c' e),_,.sl sz xs none,s.st,a8,d7,hA,?_,h⟩;rw[<-d5]
 cases xs with
 |nil=>exact .sl0 sz none _ _ Sx
 |cons x0 xr=>
  refine .sl sz _ none w.heap.size 0 _ c'.toList (by simp[Gh.publish]) (λx hx=>?_) (by rw[o7,h2.1];simp) (λk x y g1 g2=>?_) (λt ht=>by simp at ht) (Qe _)
  .exact Qx (Qv.1 hw x hx)
  .rw[o7]at g1
   exact(h2.2 k x y g1 (by simpa using g2)).mono d7
end
end Go.Av
namespace Go.Av
open Go Go.RowKit
inductive qcg (n:Nat):List AObj->List AObj->Prop
 |nil:qcg n [] []
 |same {l l':List AObj} (x:AObj) (h:qcg n l l'):qcg n (x::l) (x::l')
 |cut {l l':List AObj} {x x':AObj} (hx:qj1 n x') (h:qcg n l l'):qcg n (x::l) (x'::l')
 |loop {l l':List AObj} {ls ls':LoopState} {pend pend':Option Code} {N:Nat} {t:Nat->AV} {ps:Array Tmp} {asg body:Code} (h:qcg n l l'):qcg n (.loop ls pend N t ps asg body::l) (.loop ls' pend' N t ps asg body::l')
theorem qkd(n:Nat):∀l,qcg n l l
 | []=>.nil
 |x::l=>.same x (qkd n l)
theorem qme{n:Nat}{l l':List AObj}(h:qcg n l l'):∀st,qcg n (st++l) (st++l')
 | []=>h
 |x::st=>.same x (qme h st)
theorem qcg.length{n:Nat}{l l':List AObj}(h:qcg n l l'):l'.length=l.length:=by
 induction h with
 |nil=>rfl
 |_=>simpa
theorem qcg.get{n:Nat}{l l':List AObj}(h:qcg n l l')(hc:∀(o:Nat)(x:AObj),l[o]?=some x->qj1 n x):∀(o:Nat)(x:AObj),l'[o]?=some x->qj1 n x:=by
 induction h with
 |nil=>exact hc
 |same y h ih=>
  intro o x hx
  cases o with
  |zero=>exact hc 0 x hx
  |succ o=>exact ih (λo x h=>hc (o+1) x h) o x (by simpa using hx)
 |cut i4 h ih=>
  intro o x hx
  cases o with
  |zero=>simp at hx;subst hx;exact i4
  |succ o=>exact ih (λo x h=>hc (o+1) x h) o x (by simpa using hx)
 |loop h ih=>
  intro o x hx
  cases o with
  |zero=>simp at hx;subst hx;have h0:=hc 0 _ rfl;exact h0
  |succ o=>exact ih (λo x h=>hc (o+1) x h) o x (by simpa using hx)
theorem q7v{E:Env}{o:Nat}{xs:List AV}{st:List AObj}{R:Bool->List AObj->Prop}
  (h:yv E o xs st λb st2=>∃st1 ext,st2=st1++ext∧qcg st.length st st1∧R b st1):yv E o xs st R:=by
 refine⟨λB0 w0 G vals w hL hA hR=>?_⟩;obtain⟨f,tmps,asg,body,h1,h2⟩:=h.run B0 w0 G vals w hL hA hR;refine⟨f,tmps,asg,body,h1,h2.mono ?_⟩;rintro e w' ⟨b,G',st2,he,hG,hA',st1,ext,rfl,hk,hRR⟩;have d7:=hG.cut;rw[hA.n]at d7;refine⟨b,G'.cut st.length,st1,he,d7,?_,hRR⟩;have hd:=hk.get (λo x hx=>hA.cutOb hx);have hl:=hk.length;rw[<-hl]at hd⊢;exact hA'.drop hd
theorem qs7{n ver:Nat}{T:TypeId}{cs:List AV}(h:∀x∈cs,Cut n x):qj1 n (.cells ver T cs):=h
theorem qz9{n a b:Nat}{T:TypeId}:qj1 n (.tip a b T):=trivial
theorem zel{n o ver off:Nat}(h:o<n):Cut n (.bx o ver off):=qhp (.bx o ver off h)
theorem q0a{n tp:Nat}{l:List UInt8}(h:tp<n):Cut n (.sl 1 (l.map λc=>.v (.int .u8 (c.toNat:Nat))) (some tp)):=by
 refine qhp (.sl 1 _ _ (λi x hx=>?_) (λt ht=>by simp at ht;omega));have:=qka l;rw[this]at hx;simp only[Qq]at hx
 cases hq:l[i]?with
 |none=>simp[hq]at hx
 |some c=>simp[hq]at hx;subst hx;exact .v _
def qls(F:LoopState->Option Code->AObj)(N:Nat)(t:Nat->AV)(ps:Array Tmp)(asg body:Code):Prop:=∀ls pend,F ls pend=AObj.loop ls pend N t ps asg body
theorem zcg{n:Nat}{l l':List AObj}{F:LoopState->Option Code->AObj}{ls ls':LoopState}{pend pend':Option Code}{N:Nat}{t:Nat->AV}{ps:Array Tmp}{asg body:Code}(hF:qls F N t ps asg body)(h:qcg n l l'):qcg n (F ls pend::l) (F ls' pend'::l'):=by
 rw[hF,hF];exact .loop h
@[reducible] def zoo (o : Nat) (F : LoopState → Option Code → AObj) (R : Bool → List AObj → Prop) : Exit → AS → Prop
 |.normal,s=>s.st[o]?=some (F .busy none)∧R true (s.st.set o (F .ready none))
 |.ret,s=>s.st[o]?=some (F .busy none)∧R false (s.st.set o (F .done (some .ret)))
 |.exit id,s=>s.st[o]?=some (F .busy none)∧R false (s.st.set o (F .done (some (.exit id))))
 |_,_=>False
theorem qoa{E:Env}{o N:Nat}{t:Nat->AV}{ps:Array Tmp}{asg body:Code}{st:List AObj}{R:Bool->List AObj->Prop}{xs:List AV}{F:LoopState->Option Code->AObj}(hF:qls F N t ps asg body)(ho:st[o]?=some (F .ready none))(hps:ps.size=xs.length)
  (h:∀l,AWp E (some l) N asg (only λs1=>s1.st[o]?=some (F .ready none)∧s1.df=[]∧AWp E (some l) N body (zoo o F R) ⟨s1.t,s1.st.set o (F .busy none),[]⟩) ⟨qms t (ps.toList.zip xs),st,[]⟩):yv E o xs st R:=by
 refine q7t (N:=N) (t:=t) (ps:=ps) (asg:=asg) (body:=body) (by rw[ho,hF]) hps λl=>(h l).mono λe s1 hq=>?_
 cases e with
 |normal=>
  obtain⟨h1,h2,h3⟩:=hq;refine⟨by rw[h1,hF],h2,?_⟩;rw[hF]at h3;refine h3.mono λe s2 r9=>?_
  cases e with
  |normal=>obtain⟨k1,k2⟩:=r9;exact⟨by rw[k1,hF],by rw[hF]at k2;exact k2⟩
  |ret=>obtain⟨k1,k2⟩:=r9;exact⟨by rw[k1,hF],by rw[hF]at k2;exact k2⟩
  |exit id=>obtain⟨k1,k2⟩:=r9;exact⟨by rw[k1,hF],by rw[hF]at k2;exact k2⟩
  |_=>exact r9.elim
 |_=>exact hq.elim
theorem qj7{E:Env}{N:Nat}{Q:Exit->AS->Prop}{s:AS}{f:Operand}{ps:Array Tmp}{asg body:Code}{st loc:List AObj}{g:FuncId}{fs cs:List AV}(e8:s.st=st++loc)(hx:qn N s f=.fn (.func g) fs cs)
  (a8:∀vs w,(callFunc g vs).run E.P w=.ok (.enter g vs) w)
  (h:∀F,qls F N s.t ps asg body->qr E g (fs++[.yd (st.length+(loc.length+1))]++cs) (st++(loc++[.dfr,F .ready none])) λ_ st'=>∃ls pend,ls≠LoopState.busy∧st'[st.length+(loc.length+1)]?=some (F ls pend)∧
   match pend with
   |none=>Q .normal ⟨s.t,st'.set (st.length+(loc.length+1)) .dead,(st.length+loc.length)::s.df⟩
   |some c=>AWp E none N c Q ⟨s.t,st'.set (st.length+(loc.length+1)) .dead,(st.length+loc.length)::s.df⟩):AWp E none N (.rangeFunc f ps asg body) Q s:=
 q2a e8 hx a8 ((h (λls pend=>.loop ls pend N s.t ps asg body) (λ_ _=>rfl)).mono λ_ _ ⟨ls,pend,h1,h2,h3⟩=>⟨ls,pend,h1,h2,h3⟩)
theorem qgr{E:Env}{rd:Option Nat}{N:Nat}{c:Code}{Q:Exit->AS->Prop}{s:AS}(L:List (Nat×AV))(st':List AObj)(df':List Nat)(h:HasL s.t L)(e8:s.st=st')(m9:s.df=df')(k:∀t,AWp E rd N c Q ⟨puts t L,st',df'⟩):AWp E rd N c Q s:=by
 have:=k s.t;rw[qku h,<-e8,<-m9]at this;exact this
theorem qi2{E:Env}{B0:Nat}{w0:World}{N:Nat}{G:Gh}{s:AS}{a:Act}{w:World}(hI:Inv B0 w0 N G s a w){x:Operand}{t:TypeId}{sz:Nat}{agg:Bool}{o ver off:Nat}{T':TypeId}{cs:List AV}{r:AV}(hx:qn N s x=.bx o ver off)(ho:s.st[o]?=some (.cells ver T' cs))(ht:tyOf E.P t=some (sz,agg))(hr:kf sz agg off cs=some r):
  ∃b v,a.eval x=.pointer (some ⟨b,off,none⟩)∧(loadVar t ⟨b,off,none⟩).run E.P w=.ok v w∧Rel G r v:=by
 have he:=hI.eval_of hx;generalize hv:a.eval x=v at he
 cases he with
 |bx _ _ _ b hn dk hb=>
  obtain⟨_,h1,h2,h3,c,h4,h5,h6⟩:=hI.agree.ob o _ ho;have hb:=hb h1;rw[hb]at h4
  obtain⟨v,a8,hR⟩:=qbz (w:=w) (G:=G) (b:=b) (off:=off) (off':=off) ht (λi x hx hi=>by
   obtain⟨y,hy⟩:=wz hx (Zn h5);refine⟨y,?_,h6 i x y hx hy⟩
   simp[World.cell?,h4,show off+(i-off)=i by omega,hy]) hr
  exact⟨b,v,rfl,a8,hR⟩
theorem zbg{E:Env}{fn:Func}{s:AS}{t u:Tmp}{Ta Tb:TypeId}{o1 v1 f1 sz1:Nat}{agg1:Bool}{T1:TypeId}{cs1:List AV}{r1:AV}{o2 v2 f2 sz2:Nat}{agg2:Bool}{T2:TypeId}{cs2:List AV}{r2:AV}(hr:fn.results= #[.cell t Ta,.cell u Tb])
  (hx1:qn fn.ntmps s (.tmp t)=.bx o1 v1 f1) (ho1:s.st[o1]?=some (.cells v1 T1 cs1)) (tj:tyOf E.P Ta=some (sz1,agg1)) (bt:kf sz1 agg1 f1 cs1=some r1)
  (tx:qn fn.ntmps s (.tmp u)=.bx o2 v2 f2) (mv:s.st[o2]?=some (.cells v2 T2 cs2)) (ht2:tyOf E.P Tb=some (sz2,agg2)) (mt:kf sz2 agg2 f2 cs2=some r2):ARes E fn s (.tu [r1,r2]):=by
 refine⟨λB0 w0 G a w _ hI=>?_⟩;obtain⟨b1,y1,e1,e2,e3⟩:=qi2 hI hx1 ho1 tj bt;obtain⟨b2,y2,k1,k2,k3⟩:=qi2 hI tx mv ht2 mt;simp only[Act.eval,Qn]at e1 k1;refine⟨.tuple #[y1,y2],?_,qfj e3 k3⟩;simp[results,hr,e1,k1,asAddr,e2,k2]
theorem qpv{E:Env}{fn:Func}{R:AV->List AObj->Prop}{s:AS}{st loc:List AObj}{k:Nat}{ds:List Nat}(hs:s.st=st++loc)(hd:s.df=(st.length+k)::ds)(ho:loc[k]?=some .dfr)(h:ARet E fn R ⟨s.t,st++loc.set k .dead,ds⟩):ARet E fn R s:=
 qqg hd (by rw[hs];exact j9 ho) (by rw[hs,y4];exact h)
theorem qnf{E:Env}{fn:Func}{s:AS}{t u:Tmp}{Ta Tb:TypeId}{st loc:List AObj}{k1 v1 f1 sz1:Nat}{agg1:Bool}{T1:TypeId}{cs1:List AV}{r1:AV}{k2 v2 f2 sz2:Nat}{agg2:Bool}{T2:TypeId}{cs2:List AV}{r2:AV}(hr:fn.results= #[.cell t Ta,.cell u Tb])(hs:s.st=st++loc)
  (hx1:qn fn.ntmps s (.tmp t)=.bx (st.length+k1) v1 f1) (ho1:loc[k1]?=some (.cells v1 T1 cs1)) (tj:tyOf E.P Ta=some (sz1,agg1)) (bt:kf sz1 agg1 f1 cs1=some r1)
  (tx:qn fn.ntmps s (.tmp u)=.bx (st.length+k2) v2 f2) (mv:loc[k2]?=some (.cells v2 T2 cs2)) (ht2:tyOf E.P Tb=some (sz2,agg2)) (mt:kf sz2 agg2 f2 cs2=some r2):ARes E fn s (.tu [r1,r2]):=
 zbg hr hx1 (by rw[hs];exact j9 ho1) tj bt tx (by rw[hs];exact j9 mv) ht2 mt
@[reducible] def Wv (x : BitVec 32) : AV := .v (.int .u32 (x.toNat : Nat))
theorem qik(n:Nat):IntKind.u32.wrap (n:Int)=((n%4294967296:Nat):Int):=by
 simp[IntKind.wrap,IntKind.bits,IntKind.signed]
theorem jg(x:BitVec 32):BitVec.ofInt 32 (x.toNat:Int)=x:=by
 rw[BitVec.ofInt_natCast,BitVec.ofNat_toNat];simp
theorem qh4(x:BitVec 32):IntKind.u32.wrap (x.toNat:Int)=(x.toNat:Int):=by
 rw[qik,Qf x.isLt]
section
variable {E : Env} {rd : Option Nat} {N : Nat} {ops : Array Oper} {K : AS → Prop} {s : AS} {rest : List Oper} {d : Option Tmp} {T : TypeId} {p : String} {af : Array Edge}
theorem qx5(x:BitVec 32):((x.toNat:Nat):Int)=0↔x=0#32:=by
 constructor
 .intro h
  apply BitVec.eq_of_toNat_eq
  simpa using h
 .rintro rfl
  rfl
theorem qdy{x y:Operand}{t t':TypeId}{m n:Int}{a b:BitVec 32}(hx:qn N s x=.v (.int .u32 m))(hy:qn N s y=.v (.int .u32 n))(ha:BitVec.ofInt 32 m=a)(hb:BitVec.ofInt 32 n=b)(h:AOps E rd N ops rest K (s.put d (Wv (a^^^b)))):AOps E rd N ops (⟨d,.binOp .xor t x y t',T,p,af,none⟩::rest) K s:=
 zhs hx hy (by subst ha;subst hb;simp only[qdz,IntKind.bits];rw[qh4];rfl) h
theorem qj3{x y:Operand}{t t':TypeId}{m n:Int}{a b:BitVec 32}(hx:qn N s x=.v (.int .u32 m))(hy:qn N s y=.v (.int .u32 n))(ha:BitVec.ofInt 32 m=a)(hb:BitVec.ofInt 32 n=b)(h:AOps E rd N ops rest K (s.put d (Wv (a&&& b)))):AOps E rd N ops (⟨d,.binOp .and t x y t',T,p,af,none⟩::rest) K s:=
 zhn hx hy (by subst ha;subst hb;simp only[qdz,IntKind.bits];rw[qh4];rfl) h
theorem qzt{x y:Operand}{t t':TypeId}{m n:Int}{a b:BitVec 32}(hx:qn N s x=.v (.int .u32 m))(hy:qn N s y=.v (.int .u32 n))(ha:BitVec.ofInt 32 m=a)(hb:BitVec.ofInt 32 n=b)(h:AOps E rd N ops rest K (s.put d (Wv (a|||b)))):AOps E rd N ops (⟨d,.binOp .or t x y t',T,p,af,none⟩::rest) K s:=
 zk7 hx hy (by subst ha;subst hb;simp only[qdz,IntKind.bits];rw[qh4];rfl) h
theorem qhg{x:Operand}{t:TypeId}{a:BitVec 32}(hx:qn N s x=Wv a)(h:AOps E rd N ops rest K (s.put d (Wv (~~~ a)))):AOps E rd N ops (⟨d,.unOp .xor t x,T,p,af,none⟩::rest) K s:=
 zbd hx (by
  simp only[qdz,IntKind.bits,IntKind.signed,Bool.false_eq_true,if_false];rw[jg];have h1:BitVec.ofInt 32 IntKind.u32.max=BitVec.allOnes 32:=by decide
  have h2:BitVec.ofInt 32 IntKind.u32.max^^^a= ~~~ a:=by rw[h1,BitVec.xor_comm,BitVec.xor_allOnes]
  exact(congrArg (λz:BitVec 32=>IntKind.u32.wrap (z.toNat:Int)) h2).trans (qh4 _)) h
theorem qe6{x y:Operand}{t t':TypeId}{yk:IntKind}{a:BitVec 32}{n:Nat}(hx:qn N s x=Wv a)(hy:qn N s y=.v (.int yk (n:Int)))(hn:Qt n 32=true)(h:AOps E rd N ops rest K (s.put d (Wv (a<<<n)))):AOps E rd N ops (⟨d,.binOp .shl t x y t',T,p,af,none⟩::rest) K s:=
 zhq hx hy Om (by
  have hn:=Qa hn;have:min (n:Int).toNat IntKind.u32.bits=n:=by simp[IntKind.bits];omega
  rw[this];have e:(a.toNat:Int)*2^n=((a.toNat*2^n:Nat):Int):=Sx
  rw[e,qik,BitVec.toNat_shiftLeft,Nat.shiftLeft_eq]) h
theorem qhi{x y:Operand}{t t':TypeId}{yk:IntKind}{a:BitVec 32}{n:Nat}(hx:qn N s x=Wv a)(hy:qn N s y=.v (.int yk (n:Int)))(hn:Qt n 32=true)(h:AOps E rd N ops rest K (s.put d (Wv (a>>>n)))):AOps E rd N ops (⟨d,.binOp .shr t x y t',T,p,af,none⟩::rest) K s:=
 zhr hx hy Om (by
  have hn:=Qa hn;have:min (n:Int).toNat IntKind.u32.bits=n:=by simp[IntKind.bits];omega
  rw[this,BitVec.toNat_ushiftRight,Qs]
  have h0:(0:Int)<=2^n:=by
   have:((2^n:Nat):Int)=(2:Int)^n:=Sx
   rw[<-this];exact Int.natCast_nonneg _
  rw[Qp _ h0]
  simp) h
theorem qio{x y:Operand}{t e:TypeId}{len sz:Nat}{agg:Bool}{k:IntKind}{n:Nat}{cs:List AV}{r:AV}(hx:qn N s x=.ag cs)(hy:qn N s y=.v (.int k (n:Int)))(hu:E.P.underlying t=some (.array len e))(ht:tyOf E.P e=some (sz,agg))(hn:n<len)(hr:kf sz agg (n*sz) cs=some r)
  (h:AOps E rd N ops rest K (s.put d r)):AOps E rd N ops (⟨d,.index t x y,T,p,af,none⟩::rest) K s:=by
 refine ze rfl (za nofun λB0 w0 G a w _ hI=>?_);have he:=hI.eval_of hx;have fb:=hI.evalv hy;generalize hv:a.eval x=v at he
 cases he with
 |ag _ vs hl i7=>
  obtain⟨i1,i2⟩:=vw ht w
  cases agg with
  |false=>
   simp only[kf,cond_false]at hr;obtain⟨z,hz⟩:=wz hr (Zn hl);refine⟨z,w,G,r,s.st,?_,.refl G,hI.agree,i7 _ r z hr hz,h⟩;generalize a.eval=ρ at hv fb;simp only[execOp,hv,fb]
   simp[Instr.index,asIntOf,run_underlying hu,hn,part,i1,i2,hz]
  |true=>
   simp only[kf,cond_true]at hr
   cases hb:Qt (n*sz+sz) cs.length with
   |false=>rw[hb]at hr;simp at hr
   |true=>
    rw[hb]at hr;simp only[cond_true,Qh]at hr;have d7:n*sz+sz<=cs.length:=Qa hb;refine⟨.agg (vs.extract (n*sz) (n*sz+sz)),w,G,r,s.st,?_,.refl G,hI.agree,?_,h⟩
    .generalize a.eval=ρ at hv fb
     simp only[execOp,hv,fb];simp[Instr.index,asIntOf,run_underlying hu,hn,part,i1,i2]
    .subst hr
     refine .ag _ _ So λi x y h1 h2=>?_;have hi:i<sz:=by have:=lt_of_getElem? h1;simp at this;omega
     simp[hi,Ze]at h1;rw[Array.getElem?_extract]at h2;split at h2
     .exact i7 (n*sz+i) x y h1 h2
     .simp at h2
theorem qch{x y:Operand}{t e:TypeId}{len sz:Nat}{agg:Bool}{k:IntKind}{n o ver off:Nat}(hx:qn N s x=.bx o ver off)(hy:qn N s y=.v (.int k (n:Int)))(hu:E.P.underlying t=some (.array len e))(ht:tyOf E.P e=some (sz,agg))(hn:n<len)
  (h:AOps E rd N ops rest K (s.put d (.bx o ver (off+n*sz)))):AOps E rd N ops (⟨d,.indexAddr t x y,T,p,af,none⟩::rest) K s:=by
 refine ze rfl (za nofun λB0 w0 G a w _ hI=>?_);have he:=hI.eval_of hx;have fb:=hI.evalv hy;generalize hv:a.eval x=v at he
 cases he with
 |bx _ _ _ b nw cn hb=>
  refine⟨.pointer (some ⟨b,off+n*sz,none⟩),w,G,_,s.st,?_,.refl G,hI.agree,.bx o ver _ b nw cn hb,h⟩;generalize a.eval=ρ at hv fb;simp only[execOp,hv,fb];simp[Instr.indexAt,asIntOf,run_underlying hu,Instr.sureAddr,hn,(vw ht w).1,Addr.add_lit]
theorem qvq{x:Operand}{t t':TypeId}{k:IntKind}{n:Nat}{e:TypeDesc}(hx:qn N s x=.v (.int k (n:Int)))(hs:E.P.underlying t=some e)(hd:E.P.underlying t'=some (.int .u32))(hn:n<4294967296)
  (h:AOps E rd N ops rest K (s.put d (Wv (BitVec.ofNat 32 n)))):AOps E rd N ops (⟨d,.convert t t' x,T,p,af,none⟩::rest) K s:=
 qe5 hx hs hd (by rw[qik,Qf hn,BitVec.toNat_ofNat,Qf hn]) h
theorem qyf{x y:Operand}{t:TypeId}{sz:Nat}{agg:Bool}{st loc loc':List AObj}{k ver off:Nat}{T':TypeId}{cs xs:List AV}{r:AV}(hs:s.st=st++loc)(hx:qn N s x=.bx (st.length+k) ver off)(hy:qn N s y=r)(ho:loc[k]?=some (.cells ver T' cs))(ht:tyOf E.P t=some (sz,agg))
  (hok:r.okc=true) (hc:r.cells=xs) (m8:Ql xs.length sz=true) (h1:ke xs=true) (i8:off+sz<=cs.length) (hl:loc'=loc.set k (.cells ver T' (z6 cs off xs)))
  (h:AOps E rd N ops rest K (AS.put ⟨s.t,st++loc',s.df⟩ d (.v undef))):AOps E rd N ops (⟨d,.store t x y,T,p,af,none⟩::rest) K s:=
 jc hs hx hy ho ht hok hc m8 h1 (Qy i8) hl h
theorem zdd{cs:List AV}{off:Nat}{x:AV}(h:off<cs.length):z6 cs off [x]=cs.set off x:=by
 rw[List.set_eq_take_append_cons_drop,if_pos h];simp[z6]
theorem qdr{t:Nat->AV}{L:List (Nat×AV)}{st st':List AObj}{df:List Nat}(h:HasL t L)(e:st'=st):StA L st df ⟨t,st',df⟩:=by
 subst e;exact z7 h
theorem qyj{fn:Func}{t:Tmp}{Ta:TypeId}{st loc:List AObj}{k1 v1 f1 sz1:Nat}{agg1:Bool}{T1:TypeId}{cs1:List AV}{r1:AV}(hr:fn.results= #[.cell t Ta])(hs:s.st=st++loc)
  (hx1:qn fn.ntmps s (.tmp t)=.bx (st.length+k1) v1 f1) (ho1:loc[k1]?=some (.cells v1 T1 cs1)) (tj:tyOf E.P Ta=some (sz1,agg1)) (bt:kf sz1 agg1 f1 cs1=some r1):ARes E fn s r1:=by
 refine⟨λB0 w0 G a w _ hI=>?_⟩;obtain⟨b1,y1,e1,e2,e3⟩:=qi2 hI hx1 (by rw[hs];exact j9 ho1) tj bt;simp only[Act.eval,Qn]at e1;refine⟨y1,?_,e3⟩;simp[results,hr,e1,asAddr,e2]
def qyk(P:Program)(t:TypeId):Option Nat:=
 match P.underlying t with
 |some (.array _ e)=>match P.info? e with
  |some i=>some i.size
  |none=>none
 |_=>none
theorem q7s{P:Program}{t:TypeId}{sz:Nat}(h:qyk P t=some sz):∃len e i,P.underlying t=some (.array len e)∧P.info? e=some i∧i.size=sz:=by
 unfold qyk at h;split at h
 .rename_i len e hu
  split at h
  .rename_i i hi
   simp only[Qh]at h;exact⟨len,e,i,hu,hi,h⟩
  .simp at h
 .simp at h
theorem qqe{t:TypeId}{parts:Array (Nat×Operand)}{zs cs:List AV}{sz:Nat}(hz:qkr E.P t=some zs)(hp:qyk E.P t=some sz)(hf:qd0 (λi=>some (i*sz,sz)) zs (wp N s parts)=some cs)
  (h:AQ E N ops rest K (s.put d (.ag cs))):AQ E N ops (⟨d,.build t parts,T,p,af,none⟩::rest) K s:=by
 refine qf4 rfl nofun λB0 w0 G a w _ hI=>?_;obtain⟨len,e,i,hu,hi,rfl⟩:=q7s hp;obtain⟨z,a8,hr⟩:=qr5 hz w;obtain⟨c',h1,h2⟩:=qk6 (λk=>some (k*i.size,i.size)) (wp N s parts) (parts.toList.map λx=>(x.1,a.eval x.2)) zs z.cells cs (by simp[wp]) (qmp hI parts) (hr G) hf
 have dx:∃ti,E.P.info? t=some ti∧ti.zero=some z:=by
  unfold zeroValue at a8;simp[typeInfo]at a8
  cases hti:E.P.info? t with
  |none=>simp[hti]at a8
  |some ti=>
   simp[hti]at a8
   cases htz:ti.zero with
   |none=>simp[htz]at a8
   |some y=>simp[htz]at a8;exact⟨ti,rfl,by rw[htz,a8]⟩
 obtain⟨ti,g1,g2⟩:=dx;refine⟨.agg c',.ag cs,λw' _=>?_,.ag _ _ h2.1 h2.2,h⟩;generalize a.eval=ρ at h1;simp[execOp,Instr.build,run_underlying hu,zeroValue,typeInfo,g1,g2,sizeOf,hi,h1]
theorem q3r{x y:Operand}{t:TypeId}{m:List UInt8}{k:IntKind}{n:Nat}(hx:qn N s x=Sv m)(hy:qn N s y=.v (.int k (n:Int)))(hu:E.P.underlying t=some .string)(h1:n<m.length)
  (h:AQ E N ops rest K (s.put d (Uv (m.getD n 0)))):AQ E N ops (⟨d,.index t x y,T,p,af,none⟩::rest) K s:=
 qcj _ rfl nofun (λa w he=>by
  have hg:(⟨m.toArray⟩:ByteArray)[n]?=some (m.getD n 0):=by
   simp only[getElem?_def,qb0,h1,dite_true,List.getD,Option.getD_some];rfl
  simp[execOp,Instr.index,he _ _ hx,he _ _ hy,asIntOf,run_underlying hu,hg]) h
theorem qt7{x:Operand}{t t':TypeId}{k:IntKind}{n:Nat}{e:TypeDesc}(hx:qn N s x=.v (.int k (n:Int)))(hs:E.P.underlying t=some e)(hd:E.P.underlying t'=some (.int .u32))(hn:n<4294967296)
  (h:AQ E N ops rest K (s.put d (Wv (BitVec.ofNat 32 n)))):AQ E N ops (⟨d,.convert t t' x,T,p,af,none⟩::rest) K s:=by
 have hr:IntKind.u32.wrap (n:Int)=(((BitVec.ofNat 32 n).toNat:Nat):Int):=by rw[qik,Qf hn,BitVec.toNat_ofNat,Qf hn]
 exact qcj _ rfl nofun (λa w he=>by rw[<-hr];simp[execOp,he _ _ hx,convert,run_underlying hs,run_underlying hd,Conv.intToInt]) h
theorem qyh{x y:Operand}{t t':TypeId}{yk:IntKind}{c:UInt8}(hx:qn N s x=Uv c)(hy:qn N s y=.v (.int yk 4))(h:AQ E N ops rest K (s.put d (.v (.int .u8 ((c.toNat / 16:Nat):Int))))):AQ E N ops (⟨d,.binOp .shr t x y t',T,p,af,none⟩::rest) K s:=
 qcj _ rfl nofun (λa w he=>by
  have:(c.toNat:Int).fdiv (2^(min (4:Int).toNat IntKind.u8.bits))=((c.toNat / 16:Nat):Int):=by
   rw[Qp _ (by decide)];simp[IntKind.bits]
  rw[<-this]
  simp[execOp,he _ _ hx,he _ _ hy,eqGuard_at_int,binOp_shr,Op.shift]) h
theorem qt5{x y:Operand}{t t':TypeId}{c:UInt8}(hx:qn N s x=Uv c)(hy:qn N s y=.v (.int .u8 15))(h:AQ E N ops rest K (s.put d (.v (.int .u8 ((c.toNat%16:Nat):Int))))):AQ E N ops (⟨d,.binOp .and t x y t',T,p,af,none⟩::rest) K s:=
 znj hx hy (by
  simp only[qdz,IntKind.bits];have h1:BitVec.ofInt 8 (c.toNat:Int)=c.toBitVec:=by rw[BitVec.ofInt_natCast];simp
  have h2:(BitVec.ofInt 8 (c.toNat:Int)&&& BitVec.ofInt 8 15).toNat=c.toNat%16:=by
   rw[h1,BitVec.toNat_and];exact Nat.and_two_pow_sub_one_eq_mod c.toNat 4
  have h3:IntKind.u8.wrap ((c.toNat%16:Nat):Int)=((c.toNat%16:Nat):Int):=by
   simp[IntKind.wrap,IntKind.bits,IntKind.signed];omega
  exact(congrArg (λz:Nat=>IntKind.u8.wrap (z:Int)) h2).trans h3) h
theorem q7p{x y:Operand}{t t':TypeId}{yk:IntKind}{a:BitVec 32}{m:Int}{n:Nat}(hx:qn N s x=Wv a)(hy:qn N s y=.v (.int yk m))(hm:m=(n:Int))(hn:n<=32)(h:AOps E rd N ops rest K (s.put d (Wv (a>>>n)))):AOps E rd N ops (⟨d,.binOp .shr t x y t',T,p,af,none⟩::rest) K s:=
 qhi hx (hm▸hy) (Qy hn) h
theorem and15_lt(x:BitVec 32):(x&&& BitVec.ofInt 32 15).toNat<16:=by
 rw[BitVec.toNat_and];exact Zf Nat.and_le_right (by decide)
theorem qzs{x y:Operand}{t t':TypeId}{k:IntKind}{m n:Nat}(hx:qn N s x=.v (.int k (m:Int)))(hy:qn N s y=.v (.int k (n:Int)))(hf:k.wrap ((m+n:Nat):Int)=((m+n:Nat):Int))
  (h:AOps E rd N ops rest K (s.put d (.v (.int k ((m+n:Nat):Int))))):AOps E rd N ops (⟨d,.binOp .add t x y t',T,p,af,none⟩::rest) K s:=
 zo hx hy (by rw[<-Int.natCast_add];exact hf) h
theorem qqd{x y:Operand}{t t':TypeId}{k:IntKind}{m n:Nat}(hx:qn N s x=.v (.int k (m:Int)))(hy:qn N s y=.v (.int k (n:Int)))(hn:n≠0)(hf:k.wrap ((m / n:Nat):Int)=((m / n:Nat):Int))
  (h:AOps E rd N ops rest K (s.put d (.v (.int k ((m / n:Nat):Int))))):AOps E rd N ops (⟨d,.binOp .quo t x y t',T,p,af,none⟩::rest) K s:=
 q3m hx hy Om (by rw[Int.tdiv_eq_ediv_of_nonneg Om,<-Int.natCast_ediv];exact hf) h
theorem qzu{x y:Operand}{t t':TypeId}{k:IntKind}{m n:Nat}(hx:qn N s x=.v (.int k (m:Int)))(hy:qn N s y=.v (.int k (n:Int)))(hn:n≠0)
  (h:AOps E rd N ops rest K (s.put d (.v (.int k ((m%n:Nat):Int))))):AOps E rd N ops (⟨d,.binOp .rem t x y t',T,p,af,none⟩::rest) K s:=
 q3n hx hy Om (by rw[Int.tmod_eq_emod_of_nonneg Om,<-Int.natCast_emod];exact h)
theorem qn4{n:Nat}(h:n<18446744073709551616):IntKind.u64.wrap (n:Int)=(n:Int):=by
 simp[IntKind.wrap,IntKind.bits,IntKind.signed];omega
theorem qzp{n:Nat}(h:n<4294967296):IntKind.u32.wrap (n:Int)=(n:Int):=by
 rw[qik,Qf h]
end
end Go.Av
namespace Go.Av
open Go Go.RowKit
section
variable {E : Env} {rd : Option Nat} {N : Nat} {ops : Array Oper} {K : AS → Prop} {s : AS} {rest : List Oper} {d : Option Tmp} {T : TypeId} {p : String} {af : Array Edge}
theorem qhh{x lo:Operand}{t:TypeId}{m r:List UInt8}{k:IntKind}{n:Nat}(hr:m.drop n=r)(hx:qn N s x=Sv m)(hl:qn N s lo=.v (.int k (n:Int)))(hu:E.P.underlying t=some .string)(h1:n<=m.length)
  (h:AOps E rd N ops rest K (s.put d (Sv r))):AOps E rd N ops (⟨d,.slice t x (some lo) none none,T,p,af,none⟩::rest) K s:=
 qgn hx hl hu h1 (by rw[hr];exact h)
end
end Go.Av
namespace Go.Av
open Go Go.RowKit
section
variable {E : Env} {rd : Option Nat} {N : Nat} {ops : Array Oper} {K : AS → Prop} {s : AS} {rest : List Oper} {d : Option Tmp} {T : TypeId} {p : String} {af : Array Edge}
def qsh:TypeDesc->Bool
 |.interface _=>false
 |_=>true
def q20(P:Program)(t:TypeId):Option Value:=match P.info? t with|some i=>i.zero|none=>none
theorem q14{P:Program}{t:TypeId}{z:Value}(h:q20 P t=some z)(w:World):(zeroValue t).run P w=.ok z w:=by
 unfold q20 at h;split at h
 .rename_i i hi
  simp[zeroValue,typeInfo,hi,h]
 .simp at h
theorem qe4{x:Operand}{xt t:TypeId}{D:TypeDesc}{y:AV}(hx:qn N s x=.ifc t y)(hu:E.P.underlying t=some D)(hn:qsh D=true)
  (h:AOps E rd N ops rest K (s.put d (.tu [y,Bv true]))):AOps E rd N ops (⟨d,.typeAssert x xt t true,T,p,af,none⟩::rest) K s:=by
 refine ze rfl (za nofun λB0 w0 G a w _ hI=>?_);have he:=hI.eval_of hx;generalize hv:a.eval x=v at he
 cases he with
 |ifc _ _ z hz=>
  refine⟨.tuple #[z,.bool true],w,G,_,s.st,?_,.refl G,hI.agree,qfj hz (.v _),h⟩;generalize a.eval=ρ at hv
  cases D<;>first|(simp[qsh]at hn;done)|simp[execOp,Instr.typeAssert,hv,run_underlying hu]
theorem qlv{x:Operand}{xt t u:TypeId}{D:TypeDesc}{y:AV}{z:Value}(hx:qn N s x=.ifc u y)(hu:E.P.underlying t=some D)(hn:qsh D=true)(b9:Ql u t=false)(hz:q20 E.P t=some z)
  (h:AOps E rd N ops rest K (s.put d (.tu [.v z,Bv false]))):AOps E rd N ops (⟨d,.typeAssert x xt t true,T,p,af,none⟩::rest) K s:=by
 refine ze rfl (za nofun λB0 w0 G a w _ hI=>?_);have he:=hI.eval_of hx;generalize hv:a.eval x=v at he;have hne':u≠t:=λe=>by subst e;simp at b9
 have dx:=q14 hz w
 cases he with
 |ifc _ _ q hq=>
  refine⟨.tuple #[z,.bool false],w,G,_,s.st,?_,.refl G,hI.agree,qfj (.v _) (.v _),h⟩;generalize a.eval=ρ at hv
  cases D<;>first|(simp[qsh]at hn;done)|simp[execOp,Instr.typeAssert,hv,run_underlying hu,hne',dx]
theorem qyd{x:Operand}{xt t:TypeId}{D:TypeDesc}{z:Value}(hx:qn N s x=.v .nilIface)(hu:E.P.underlying t=some D)(hn:qsh D=true)(hz:q20 E.P t=some z)
  (h:AOps E rd N ops rest K (s.put d (.tu [.v z,Bv false]))):AOps E rd N ops (⟨d,.typeAssert x xt t true,T,p,af,none⟩::rest) K s:=by
 refine ze rfl (za nofun λB0 w0 G a w _ hI=>?_);have hv:=hI.evalv hx;have dx:=q14 hz w;refine⟨.tuple #[z,.bool false],w,G,_,s.st,?_,.refl G,hI.agree,qfj (.v _) (.v _),h⟩;generalize a.eval=ρ at hv
 cases D<;>first|(simp[qsh]at hn;done)|simp[execOp,Instr.typeAssert,hv,run_underlying hu,dx]
end
end Go.Av
namespace Go.Proofs.YtihlchbgjdkmpaaGreatDoor
open Go Go.Av Go.RowKit Go.Proofs
structure Laid (w:World):Prop where
 shaped:World.ShapedOpen Tryz.prog w
 pow:Lib.TabIs Tryz.prog w "internal/strconv.uint64pow10" .u64 Lib.pow10Tab
 syn:∃tp p,World.var? Tryz.prog w "strconv.ErrSyntax" =some #[.iface tp p]
 ran:∃tp p,World.var? Tryz.prog w "strconv.ErrRange" =some #[.iface tp p]
 ert:w.cell? ⟨4,0,none⟩=some (.iface 365 (.agg #[.pointer (some ⟨9,29,none⟩)]))
@[reducible] noncomputable def E : Env := ⟨Tryz.prog, fun B0 w0 => ∀ w, Below B0 w0 w → Laid w⟩
theorem qv8(l m:List UInt8)(st:List AObj)(hl:l.length<4294967281):qr E 214 [Sv l,Sv m] st λr st'=>r=Bv (Lib.contains l m)∧st'=st:=
 qav (vals:= #[.string ⟨l.toArray⟩,.string ⟨m.toArray⟩]) rfl λ_ _ w hL hb=>(Tryz.strings_Contains_shaped ⟨l.toArray⟩ ⟨m.toArray⟩ w (hL w hb).shaped (by simpa[ByteArray.size]using hl)).mono λ_ _ ⟨h1,h2⟩=>⟨h1,qfv h2⟩
theorem qfz(l m:List UInt8)(st:List AObj):qr E 155 [Sv l,Sv m] st λr st'=>r=Bv (Lib.hasPrefix l m)∧st'=st:=
 qav (vals:= #[.string ⟨l.toArray⟩,.string ⟨m.toArray⟩]) rfl λ_ _ w _ _=>(Tryz.strings_HasPrefix ⟨l.toArray⟩ ⟨m.toArray⟩ w).mono λ_ _ ⟨h1,h2⟩=>⟨h1,qfv h2⟩
theorem qtg(l m:List UInt8)(st:List AObj)(hl:l.length<=9223372036854775807):qr E 146 [Sv l,Sv m] st λr st'=>r=Bv (Lib.hasSuffix l m)∧st'=st:=
 qav (vals:= #[.string ⟨l.toArray⟩,.string ⟨m.toArray⟩]) rfl λ_ _ w _ _=>(Tryz.strings_HasSuffix ⟨l.toArray⟩ ⟨m.toArray⟩ w (by simpa[ByteArray.size]using hl)).mono λ_ _ ⟨h1,h2⟩=>⟨h1,qfv h2⟩
theorem qv9(l m:List UInt8)(st:List AObj)(hl:l.length<4294967281):qr E 110 [Sv l,Sv m] st λr st'=>r=.tu [Sv (Lib.cut l m).1,Sv (Lib.cut l m).2.1,Bv (Lib.cut l m).2.2]∧st'=st:=
 qj0 (vals:= #[.string ⟨l.toArray⟩,.string ⟨m.toArray⟩]) (rs:= #[.string ⟨(Lib.cut l m).1.toArray⟩,.string ⟨(Lib.cut l m).2.1.toArray⟩,.bool (Lib.cut l m).2.2]) rfl λ_ _ w hL hb=>(Tryz.strings_Cut_shaped ⟨l.toArray⟩ ⟨m.toArray⟩ w (hL w hb).shaped (by simpa[ByteArray.size]using hl)).mono λ_ _ ⟨h1,n,h2⟩=>⟨h1,h2▸q7y w n⟩
theorem qfx(l m:List UInt8)(st:List AObj):qr E 219 [Sv l,Sv m] st λr st'=>r=.tu [Sv (Lib.trimPrefix l m),Bv (Lib.hasPrefix l m)]∧st'=st:=
 qj0 (vals:= #[.string ⟨l.toArray⟩,.string ⟨m.toArray⟩]) (rs:= #[.string ⟨(Lib.trimPrefix l m).toArray⟩,.bool (Lib.hasPrefix l m)]) rfl λ_ _ w _ _=>(Tryz.strings_CutPrefix ⟨l.toArray⟩ ⟨m.toArray⟩ w).mono λ_ _ ⟨h1,h2⟩=>⟨h1,qfv h2⟩
theorem qlb(n:Int)(st:List AObj)(h0: -9223372036854775808<=n)(h1:n<=9223372036854775807):qr E 54 [Iv n] st λr st'=>r=Sv (Lib.itoa n)∧st'=st:=
 qav (vals:= #[.int .i64 n]) rfl λ_ _ w hL hb=>(Tryz.strconv_Itoa n h0 h1 w (hL w hb).pow).mono λ_ _ ⟨h1,k,os,h2⟩=>⟨h1,h2▸zbr w k os⟩
theorem zj4(l:List UInt8)(c:Nat)(st:List AObj)(h0:c<=9223372036854775807)(h1:l.length*c<=140737488355328):qr E 222 [Sv l,Iv c] st λr st'=>r=Sv (Lib.repeatL l c)∧st'=st:=
 qav (vals:= #[.string ⟨l.toArray⟩,.int .i64 c]) rfl λ_ _ w _ _=>(Tryz.strings_Repeat ⟨l.toArray⟩ c w h0 (by simpa[ByteArray.size]using h1)).mono λ_ _ ⟨h1,h2⟩=>⟨h1,h2⟩
theorem zha(l m:List UInt8)(st:List AObj)(hl:l.length<=9223372036854775807)(hm:m.length<4294967281)(ha:∀(j:Nat)(b:UInt8),m[j]?=some b->b.toNat<128):qr E 215 [Sv l,Sv m] st λr st'=>r=Sv (Lib.trimS l m)∧st'=st:=
 qav (vals:= #[.string ⟨l.toArray⟩,.string ⟨m.toArray⟩]) rfl λ_ _ w _ _=>(Any.strings_Trim_laid Tryz.lays160t Kr ⟨l.toArray⟩ ⟨m.toArray⟩ w (by simpa[ByteArray.size]using hl) (by simpa[ByteArray.size]using hm) (by simpa using ha)).mono λ_ _ ⟨h1,h2⟩=>⟨h1,h2⟩
theorem q7x{w w':World}{T:TypeId}{s:ByteArray}(h:w'=w∨∃t,w'=Lib.bytesWorld w T t):Below w.heap.size w w':=by
 rcases h with rfl |⟨t,rfl⟩
 .exact Below.refl _ _
 .unfold Lib.bytesWorld
  exact Lib.below_freeze ((Below.drew (Below.refl w.heap.size w)).alloc (Qe _) _) (p:=⟨w.heap.size,_,none⟩) (Qe _) _
theorem qvj{f:FuncId}{st:List AObj}{args:List AV}{vals:Array Value}{R:Int->Option (TypeId×Value)->Prop}(ha:args=vals.toList.map .v)
  (h:∀B0 w0 w,E.L B0 w0->Below B0 w0 w->Calls E.P f vals w λe w'=>∃n x,e=.returned (.tuple #[.int .i64 n,match x with|none=>.nilIface|some (t,y)=>.iface t y])∧R n x∧Below w.heap.size w w'):
  qr E f args st λr st'=>st'=st∧∃n x,r=.tu [Iv n,match x with|none=>.v .nilIface|some (t,y)=>.ifc t (.v y)]∧R n x:=by
 subst ha;refine⟨λB0 w0 G vs w hL hA hR=>?_⟩
 have hv:vs=vals:=by
  have hs:vs.size=vals.size:=by have:=hR.1;simpa using this.symm
  apply Zs hs;intro i h1 h2;have:=hR.2 i (.v vals[i]) vs[i] (by simp[h2]) (by simp[h1]);generalize vs[i]=y at this
  cases this
  rfl
 subst hv;refine(h B0 w0 w hL hA.below).mono ?_;rintro e w' ⟨n,x,rfl,hRR,hb⟩;refine⟨_,G,_,st,rfl,.refl G,hA.fresh hb,qfj (.v _) ?_,rfl,n,x,rfl,hRR⟩
 cases x with
 |none=>exact .v _
 |some p=>exact .ifc _ _ _ (.v _)
theorem qqh(l:List UInt8)(st:List AObj)(hl:l.length<=281474976710656):qr E 111 [Sv l] st λr st'=>st'=st∧∃n x,r=.tu [Iv n,match x with|none=>.v .nilIface|some (t,y)=>.ifc t (.v y)]∧match x with|none=>Lib.atoiAll l=.ok n|some _=>∀v,Lib.atoiAll l≠.ok v:=by
 refine qvj (vals:= #[.string ⟨l.toArray⟩]) (R:=λn x=>match x with|none=>Lib.atoiAll l=.ok n|some _=>∀v,Lib.atoiAll l≠.ok v) rfl λB0 w0 w hL hb=>?_;have nv:(⟨l.toArray⟩:ByteArray).data.toList=l:=rfl;rcases ho:Lib.atoiAll l with v|_|_
 .
  refine(Tryz.strconv_Atoi_ok ⟨l.toArray⟩ (by simp[ByteArray.size];omega) v (by rw[nv];exact ho) w).mono ?_;rintro e w' ⟨rfl,hw⟩;exact⟨v,none,rfl,rfl,q7x (s:=⟨l.toArray⟩) hw⟩
 .
  obtain⟨tp,p,hv⟩:=(hL w hb).syn;refine(Any.strconv_Atoi_syntax_var Tryz.laysC172 ⟨l.toArray⟩ (by simpa[ByteArray.size]using hl) (by rw[nv];exact ho) tp p w hv).mono ?_;rintro e w' ⟨N,rfl,_,_,hw⟩;exact⟨_,some (_,_),rfl,Sx,hw⟩
 .
  obtain⟨tp,p,hv⟩:=(hL w hb).ran;refine(Tryz.strconv_Atoi_range_var ⟨l.toArray⟩ (by simpa[ByteArray.size]using hl) (by rw[nv];exact ho) tp p w hv).mono ?_;rintro e w' ⟨N,rfl,_,_,hw⟩;exact⟨_,some (_,_),rfl,Sx,hw⟩
theorem qzl(l m:List UInt8)(st:List AObj)(hl:l.length<=9223372036854775807)(hm:Zt m.length 4294967281=true)(ha:m.all (λb=>Zt b.toNat 128)=true):qr E 215 [Sv l,Sv m] st λr st'=>r=Sv (Lib.trimS l m)∧st'=st:=
 zha l m st hl (by simpa[Zr]using hm) λj b h=>by
  have:=Qv.1 ha b (List.mem_of_getElem? h)
  simpa[Zr]using this
end Go.Proofs.YtihlchbgjdkmpaaGreatDoor
namespace Go.Av
open Go Go.RowKit Go.WideShapes Go.ChangeShapes
def G0:Gh:=⟨λ_=>none,λ_=>⟨0,0,0,false⟩,0⟩
theorem q7l(W:World):zm W.heap.size W G0 [] W:=
 ⟨Below.refl _ _,Qe _,rfl,λb vs h=>by simp[G0]at h,λo x h=>by simp at h,λo o' x x' _ h=>by simp at h⟩
theorem zgg(G:Gh)(vals:Array Value):RelL G (vals.toList.map .v) vals:=by
 refine⟨Sx,λi x y hx hy=>?_⟩;rw[Qq]at hx;rw[Array.getElem?_toList,hy]at hx;simp at hx;subst hx;exact .v y
theorem qyp{E:Env}{f:FuncId}{args:List AV}{vals:Array Value}{b:Bool}{W:World}(h:qr E f args [] λr st'=>r=Bv b∧st'=[])(hL:E.L W.heap.size W)(ha:args=vals.toList.map .v):
  Calls E.P f vals W λe w'=>e=.returned (.bool b)∧Below W.heap.size W w':=by
 subst ha;refine(h.run W.heap.size W G0 vals W hL (q7l W) (zgg _ _)).mono ?_;rintro e w' ⟨v,G',r,st',rfl,_,hA,hr,rfl,_⟩
 cases hr
 exact⟨rfl,hA.below⟩
theorem qzg{P:Program}{W:World}{name:String}{k:IntKind}{zs:List Int}{g:Nat}{t e:TypeId}{n:Nat}
  (hg:P.globalNamed name=some g) (hty:(P.globals[g]?).map (·.type)=some t) (ht:P.underlying t=some (.array n e)) (he:P.underlying e=some (.int k)) (hce:P.cellsOf e=1) (hct:P.cellsOf t=n)
  (h:Lib.VarReads P W name (Lib.tabData k zs)):Lib.TabIs P W name k zs:=by
 obtain⟨g',t',cs,fuel,p,hg',ht',hvar,hd⟩:=h;obtain rfl:=Qg (hg.symm.trans hg');obtain rfl:=Qg (hty.symm.trans ht');unfold Lib.TabIs;rw[hvar,<-Lib.cells_of_tab ht he hce hct hd]
theorem qp6{P:Program}{W:World}{name s:String}{d:DataW Unit}{g:Nat}{t:TypeId}{ms:Array (String×TypeId)}
  (hg:P.globalNamed name=some g) (hty:(P.globals[g]?).map (·.type)=some t) (ht:P.underlying t=some (.interface ms))
  (h:Lib.VarReads P W name (.iface s d)):∃tp p,W.var? P name=some #[.iface tp p]:=by
 obtain⟨g',t',cs,fuel,p,hg',ht',hvar,hd⟩:=h;obtain rfl:=Qg (hg.symm.trans hg');obtain rfl:=Qg (hty.symm.trans ht')
 cases fuel with
 |zero=>simp[DataW.trod]at hd
 |succ fuel=>
  obtain⟨l⟩:=cs;simp only[DataW.trod,ht]at hd;split at hd;all_goals simp_all
section
variable {H : Type} {enc : TypeId × Value → H} {P : Program}
theorem q2h{f:Func}{s:ChangeSpec}{qb9 fresh handsOn again:Bool}{W W':World}{args:Array Value}{v:Value}{ds gs:List (DataW H)}{before pa pv:List MemPlace}
  (hW:DataW.Whole enc P f.params.toList s.vars qb9 W args.toList ds gs before)
  (hres:∀(b:Nat)(sp:Nat->Bool)(hd:Bool),DataW.TrodAll enc P W' b sp hd f.resultTypes.toList (v.resultList f.resultTypes.size) (s.fn H (ds++gs)).results [])
  (rk:∀sp:Nat->Bool,(∀p∈before,sp p.block=true)->DataW.TrodAll enc P W' 0 sp true f.params.toList args.toList (s.fn H (ds++gs)).args pa)
  (hvars:∀sp:Nat->Bool,(∀p∈before,sp p.block=true)->DataW.TrodVars enc P W' sp s.vars (s.fn H (ds++gs)).vars pv)
  (hps:before=pa++pv) (hb:Below W.heap.size W W')
  (hok:∀(j:Nat)(t:TypeId)(r:Value),f.resultTypes[j]?=some t->(v.resultList f.resultTypes.size)[j]?=some r->Value.okWide P W' .any 0 t r):
  s.post enc P f qb9 fresh handsOn again W args v W':=by
 have d8:∀p∈before,p.block<W.heap.size:=λp hp=>hW.lt p hp;have i5:∀p∈before,(λb=>decide (b<W.heap.size)) p.block=true:=λp hp=>by simpa using d8 p hp
 refine⟨ds,gs,before,[],pa,pv,hW,hres _ _ _,rk _ i5,hvars _ i5,World.keptBut_mono (λp hp=>⟨hp,?_⟩) (hb.frame (·∈before)),λ_=>?_⟩
 .rw[hps,Qw]at hp
  exact Or.inr hp
 .obtain⟨_,_,_,_,_,hz,hn⟩:=hW
  refine⟨hok,_,_,([]++pa)++pv,⟨[]++pa,pv,trodAll_append (rk _ (λ_ _=>rfl)) (hres _ _ _),hvars _ (λ_ _=>rfl),rfl,?_,?_⟩,?_⟩
  .intro b off hp
   have hin:MemPlace.cell b off∈before:=by rw[hps];simpa using hp
   rw[hb.frozen (d8 _ hin)];exact hz b off hin
  .intro ha
   have:=hn ha;rw[hps]at this
   simpa using this
  .intro p hp _
   rw[hps]
   simpa using hp
end
end Go.Av
namespace Go.Proofs.YtihlchbgjdkmpaaGreatDoor
open Go Go.Av Go.RowKit
theorem zoh:((Qr 412).filter λt=>Tryz.prog.rowNamed t [101,114,114,111,114])=[29]:=Kr
theorem zpa:(Tryz.prog.cutTypes.find? (·.1== "internal/reflectlite.rtype")).map (·.2)=some 365:=by kernel_rfl
theorem zpd:Tryz.prog.types.size=412:=Kr
theorem zo6:typeHandle Tryz.prog 29=.pointer (some ⟨9,29,none⟩):=Kr
theorem zkv:Tryz.prog.globalNamed "errors.errorType" =some 4:=by kernel_rfl
theorem q5n{l:List (String×DataW Unit)}(h:(l.all λx=>x.1== "errors.errorType" ||x.2.handleName?.isNone)=true){x:String×DataW Unit}(hx:x∈l)(hn:(x.1== "errors.errorType")=false):x.2.handleName?.isNone=true:=by
 have:=Qv.1 h x hx;rw[hn]at this
 simpa using this
theorem q49{P:Program}{w0:World}{laid:List (String×DataW Unit)}(args:Array Value)(hf:w0.layFits P laid []=true)(hi:w0.layIfaces P laid (w0.layVars P laid)=true):
  laidMet P laid ((w0.layVars P laid).forCall (λ_ _=>0) ⟨#[],args,[]⟩).memory:=by
 have e1:(laid.filter λx=>(laid.map Zi).contains x.1)=laid:=List.filter_eq_self.2 λx hx=>Qz.2 (Zc hx)
 have e2:(laid.filter λx=> !(laid.map Zi).contains x.1)=[]:=List.filter_eq_nil_iff.2 λx hx=>by
  rw[Qz.2 (Zc (f:=Zi) hx)];simp
 have h:laidMet P laid (w0.layVars P laid):=laidMet_layVars (w0:=w0) (laid.map Zi) [] (by rw[e1]) (by rw[e1];exact hf) (by rw[e1];exact hi) (by rw[e2];exact LaidIn.none);exact h.of_heap (by simp[World.memory,World.forCall,Input.heap])
noncomputable def zo4(os:Os):World:={World.holding Tryz.prog os ⟨#[],#[],[]⟩with heap:=(World.holding Tryz.prog os ⟨#[],#[],[]⟩).heap.modify 4 λ
 |.cells _ t fz=>.cells #[.iface 365 (.agg #[.pointer (some ⟨9,29,none⟩)])] t fz
 |o=>o}
theorem zma{l:List (String×DataW Unit)}{W:World}
  (hp:(l.filter λx=>x.2.handleName?.isSome)=[("errors.errorType",Rows.laid_errors_errorType)]∧(l.all λx=>x.1== "errors.errorType" ||x.2.handleName?.isNone)=true)
  (hL:laidMetH Tryz.prog l W) (hs:W.ShapedOpen Tryz.prog)
  (h1:("internal/strconv.uint64pow10",Rows.laid_internal_strconv_uint64pow10)∈l) (h2:("strconv.ErrSyntax",Rows.laid_strconv_ErrSyntax)∈l) (h3:("strconv.ErrRange",Rows.laid_strconv_ErrRange)∈l):E.L W.heap.size W:=by
 unfold laidMetH at hL;rw[hp.1]at hL;simp only at hL;intro w hb;obtain⟨hL,hH⟩:=hL;have h1:=(Qk (p:=λx=>x.2.handleName?.isNone)).2 ⟨h1,q5n hp.2 h1 (by decide)⟩;have h2:=(Qk (p:=λx=>x.2.handleName?.isNone)).2 ⟨h2,q5n hp.2 h2 (by decide)⟩;have h3:=(Qk (p:=λx=>x.2.handleName?.isNone)).2 ⟨h3,q5n hp.2 h3 (by decide)⟩;obtain⟨name,u,ty,e1,e2,e3,e4,e5⟩:=hH _ (Zg.2 rfl);have en:name=[101,114,114,111,114]:=(Qg e1).symm;subst en;obtain rfl:=Qg (zpa.symm.trans e2);have hm:ty∈(Qr 412).filter λt=>Tryz.prog.rowNamed t [101,114,114,111,114]:=Qk.2 ⟨List.mem_range.2 (by rw[<-zpd];exact e3),e4⟩;rw[zoh]at hm;obtain rfl:=Zg.1 hm;rw[zo6]at e5;have hv:=World.var?_cell zkv (Go.Joins.var_stays zkv e5 hb (Qe _)) 0
 have g1:Tryz.prog.globalNamed "internal/strconv.uint64pow10" =some 0:=by kernel_rfl
 have g2:Tryz.prog.globalNamed "strconv.ErrSyntax" =some 2:=by kernel_rfl
 have g3:Tryz.prog.globalNamed "strconv.ErrRange" =some 3:=by kernel_rfl
 have t1:=qzg (k:=.u64) (zs:=Lib.pow10Tab) (t:=318) (e:=189) (n:=20) g1 Kr Kr Kr Kr Kr (Lib.laidMet.reads hL h1);obtain⟨tp2,p2,v2⟩:=qp6 (t:=29) g2 Kr rfl (Lib.laidMet.reads hL h2);obtain⟨tp3,p3,v3⟩:=qp6 (t:=29) g3 Kr rfl (Lib.laidMet.reads hL h3);exact⟨hs.keptBut (hb.frame (λ_=>False)) (λ_ h=>h.elim),Go.Joins.var_stays g1 t1 hb (Qe _),⟨tp2,p2,Go.Joins.var_stays g2 v2 hb (Qe _)⟩,⟨tp3,p3,Go.Joins.var_stays g3 v3 hb (Qe _)⟩,by simpa using hv⟩
end Go.Proofs.YtihlchbgjdkmpaaGreatDoor
namespace Go.Pl
open Go
abbrev qc:=List UInt8
theorem qev(l:qc)(c:UInt8):0<=Lib.index l [c]↔c∈l:=by
 induction l with
 |nil=>simp[Lib.index]
 |cons b l ih=>
  have fp:=Lib.index_ge l [c];unfold Lib.index;by_cases hb:c=b
  .subst hb
   simp[Qd]
  .have hp:([c]:qc).isPrefixOf (b::l)=false:=by simp[Qd,hb]
   rw[hp];by_cases hm:Lib.index l [c]= -1
   .have:c∉l:=λh=>by have:=ih.2 h;omega
    simp[hm,hb,this]
   .have:c∈l:=ih.1 Om
    simp[hm,this];omega
theorem qqp(l:qc)(c:UInt8):Lib.contains l [c]=decide (c∈l):=by
 unfold Lib.contains;by_cases h:c∈l
 .simp[h,(qev l c).2 h]
 .have:¬0<=Lib.index l [c]:=λh'=>h ((qev l c).1 h')
  simp[h,this]
theorem qpz(l:qc)(c:UInt8):Lib.hasPrefix l [c]=decide (l.head?=some c):=by
 cases l with
 |nil=>simp[Lib.hasPrefix]
 |cons b l=>
  by_cases h:c=b
  .simp[Lib.hasPrefix,Qd,h]
  .simp[Lib.hasPrefix,Qd,h,Ne.symm h]
def wy(c:UInt8):Prop:=c=32∨c=9
instance (c:UInt8):Decidable (wy c):=inferInstanceAs (Decidable (c=32∨c=9))
def qfw(l:qc):Prop:=∃c,l.head?=some c∧wy c
instance (l:qc):Decidable (qfw l):=
 match l with
 | []=>.isFalse (by rintro⟨c,h,_⟩;simp at h)
 |c::r=>decidable_of_iff (wy c) ⟨λh=>⟨c,rfl,h⟩,λ⟨d,h,hd⟩=>by simp at h;subst h;exact hd⟩
def qa2(l:qc):Prop:=l≠[]∧l.length<=32∧¬qfw l∧¬l.head?=some 35∧58∉l∧10∉l
instance (l:qc):Decidable (qa2 l):=inferInstanceAs (Decidable (_∧_∧_∧_∧_∧_))
theorem qmf(l:qc):qa2 l↔1<=l.length∧l.length<=32∧¬wy (l.getD 0 0)∧l.getD 0 0≠35∧58∉l∧10∉l:=by
 cases l with
 |nil=>simp[qa2]
 |cons c l=>simp[qa2,qfw]
theorem qyo(c:UInt8)(l:qc):Lib.contains [32,9] [c]=decide (qfw (c::l)):=by
 rw[qqp];have:qfw (c::l)↔wy c:=⟨λ⟨d,h,hd⟩=>by simp at h;subst h;exact hd,λh=>⟨c,rfl,h⟩⟩;simp[this,wy]
def upto(c:UInt8)(l:qc):qc:=l.takeWhile (·≠c)
def past(c:UInt8)(l:qc):qc:=l.drop ((upto c l).length+1)
theorem qwz(c:UInt8)(l:qc)(h:c∈l):Lib.index l [c]=((upto c l).length:Int):=by
 induction l with
 |nil=>simp at h
 |cons b l ih=>
  unfold Lib.index upto;by_cases hb:b=c
  .subst hb;simp[Qd]
  .have hp:([c]:qc).isPrefixOf (b::l)=false:=by simp[Qd,Ne.symm hb]
   have hl:c∈l:=by simpa[Ne.symm hb]using h
   have e:=ih hl;rw[hp];have:(Lib.index l [c]== -1)=false:=by rw[e];simp
   simp only[this];rw[e];simp[hb,upto]
theorem qha(c:UInt8)(l:qc):l.take (upto c l).length=upto c l:=by
 induction l with
 |nil=>simp[upto]
 |cons b l ih=>
  by_cases hb:b=c
  .simp[upto,hb]
  .have:upto c (b::l)=b::upto c l:=by simp[upto,hb]
   rw[this];simp[ih]
theorem xx{c:UInt8}{l:qc}(h:c∉l):upto c l=l:=by
 induction l with
 |nil=>rfl
 |cons b l ih=>
  have hb:b≠c:=λe=>h (by simp[e]);have:upto c (b::l)=b::upto c l:=by simp[upto,hb]
  rw[this,ih (λh'=>h (by simp[h']))]
theorem vk(c:UInt8)(l:qc):(upto c l).length<=l.length:=by
 have:=congrArg List.length (qha c l);simp at this;omega
theorem qfs{c:UInt8}{l:qc}(h:c∈l):(upto c l).length<l.length:=by
 induction l with
 |nil=>simp at h
 |cons b l ih=>
  by_cases hb:b=c
  .simp[upto,hb]
  .have:upto c (b::l)=b::upto c l:=by simp[upto,hb]
   rw[this];have:=ih (by simpa[Ne.symm hb]using h);simp;omega
theorem vl(c:UInt8)(l:qc):(past c l).length=l.length-((upto c l).length+1):=by simp[past]
theorem zlr(c:UInt8)(l:qc):Lib.cut l [c]=(upto c l,past c l,decide (c∈l)):=by
 unfold Lib.cut;by_cases h:c∈l
 .rw[if_pos ((qev l c).2 h),qwz c l h]
  simp[qha,past,h]
 .rw[if_neg (λh'=>h ((qev l c).1 h'))]
  simp[xx h,past,h]
theorem xp{c:UInt8}{l:qc}(h:l≠[]):(past c l).length<l.length:=by
 rw[vl];have:=Zd.2 h;omega
def zp(l:qc):List (qc×Bool):=
 if h:l=[]then []else(upto 10 l,decide (10∈l))::zp (past 10 l)
 termination_by l.length
 decreasing_by exact xp h
theorem vu:zp []=[]:=by rw[zp];simp
theorem wh{l:qc}(h:l≠[]):zp l=(upto 10 l,decide (10∈l))::zp (past 10 l):=by rw[zp];simp[h]
def x6(b:Bool):qc:=if b then [10]else []
def v6(by' l:qc):qc×Bool:=
 if∀x∈zp l,by'<+:x.1 then((zp l).flatMap λx=>x.1.drop by'.length++x6 x.2,true)else([],false)
theorem qf9(l m:qc):(Lib.trimPrefix l m).length<=l.length:=by
 unfold Lib.trimPrefix;split
 .simp
 .exact Qe _
theorem yt(l m:qc):Lib.hasPrefix l m=true↔m<+:l:=by
 unfold Lib.hasPrefix;exact List.isPrefixOf_iff_prefix
theorem qea{l m:qc}(h:m<+:l):Lib.trimPrefix l m=l.drop m.length:=by
 unfold Lib.trimPrefix;rw[if_pos ((yt l m).2 h)]
theorem v7{c:UInt8}{a:qc}(r:qc)(h:c∉a):upto c (a++c::r)=a:=by
 induction a with
 |nil=>simp[upto]
 |cons b a ih=>
  have hb:b≠c:=λe=>h (by simp[e]);have h2:c∉a:=λe=>h (by simp[e]);have e:upto c (b::(a++c::r))=b::upto c (a++c::r):=by simp[upto,hb]
  rw[Zj,e,ih h2]
theorem xv{c:UInt8}{a:qc}(r:qc)(h:c∉a):past c (a++c::r)=r:=by
 unfold past;rw[v7 r h,show a++c::r=(a++[c])++r by simp,show a.length+1=(a++[c]).length by simp,List.drop_left]
theorem wl{c:UInt8}{l:qc}(h:c∈l):l=upto c l++c::past c l:=by
 induction l with
 |nil=>simp at h
 |cons b l ih=>
  by_cases hb:b=c
  .subst hb;simp[upto,past]
  .have h2:c∈l:=by simpa[Ne.symm hb]using h
   have e1:upto c (b::l)=b::upto c l:=by simp[upto,hb]
   have e2:past c (b::l)=past c l:=by simp[past,e1]
   rw[e1,e2,Zj,<-ih h2]
theorem yu(c:UInt8)(l:qc):c∉upto c l:=by
 induction l with
 |nil=>simp[upto]
 |cons b l ih=>
  by_cases hb:b=c
  .simp[upto,hb]
  .have e1:upto c (b::l)=b::upto c l:=by simp[upto,hb]
   rw[e1];simp[Ne.symm hb,ih]
def jf(l:qc):qc:=l.takeWhile (·≠58)
theorem q8c(l:qc)(h:58∈l):Lib.index l [58]=((jf l).length:Int):=by
 induction l with
 |nil=>simp at h
 |cons b l ih=>
  unfold Lib.index jf;by_cases hb:b=58
  .subst hb;simp[Qd]
  .have hp:([58]:qc).isPrefixOf (b::l)=false:=by simp[Qd,Ne.symm hb]
   have hl:58∈l:=by simpa[Ne.symm hb]using h
   have e:=ih hl;rw[hp];have:(Lib.index l [58]== -1)=false:=by rw[e];simp
   simp only[this];rw[e];simp[hb,jf]
theorem q69(l:qc):l.take (jf l).length=jf l:=by
 induction l with
 |nil=>simp[jf]
 |cons b l ih=>
  by_cases hb:b=58
  .simp[jf,hb]
  .have:jf (b::l)=b::jf l:=by simp[jf,hb]
   rw[this];simp[ih]
def vc(l:qc):qc:=l.drop ((jf l).length+1)
theorem q0b(l:qc):Lib.cut l [58]=if 58∈l then(jf l,vc l,true)else(l,[],false):=by
 unfold Lib.cut;by_cases h:58∈l
 .rw[if_pos ((qev l 58).2 h),if_pos h,q8c l h]
  simp[q69,vc]
 .rw[if_neg (λh'=>h ((qev l 58).1 h')),if_neg h]
theorem qw2{l:qc}{k:Nat}(h:58∉l.take k)(hk:k<l.length)(e:l.getD k 0=58):jf l=l.take k∧58∈l:=by
 induction l generalizing k with
 |nil=>simp at hk
 |cons b l ih=>
  cases k with
  |zero=>simp at e;subst e;simp[jf]
  |succ k=>
   simp only[List.take_succ_cons,Zb,not_or]at h;obtain⟨h1,h2⟩:=ih h.2 (by simpa using hk) (by simpa using e);have:jf (b::l)=b::jf l:=by simp[jf,Ne.symm h.1]
   exact⟨by rw[this,h1];rfl,by simp[h2]⟩
def qf5(l:qc):qc×qc×Bool:=if 10∉l∧58∈l∧qa2 (jf l)then(jf l,vc l,true)else([],[],false)
def qy(l:qc):Int:=
 if 10∈l then 5 else if∀c∈l,wy c then 1 else if l.head?=some 35 then 2 else if qfw l then 3
 else if 58∈l∧qa2 (jf l)then 4 else 5
theorem qtk{l:qc}(h:10∉l)(hb:¬ ∀c∈l,wy c):0<l.length∧qy l=if l.getD 0 0=35 then 2 else if wy (l.getD 0 0)then 3 else if 58∈l∧qa2 (jf l)then 4 else 5:=by
 cases l with
 |nil=>simp at hb
 |cons c l=>
  have e:qfw (c::l)↔wy c:=⟨λ⟨d,h,hd⟩=>by simp at h;subst h;exact hd,λh=>⟨c,rfl,h⟩⟩;refine⟨Sx,?_⟩;unfold qy;rw[if_neg h,if_neg hb];simp[e]
theorem qpx{α:Type}(p:α->Bool)(l:List α):l.dropWhile p=[]↔∀x∈l,p x=true:=by
 induction l with
 |nil=>simp
 |cons a l ih=>
  by_cases h:p a=true
  .simp[h,ih]
  .simp[h]
theorem zie{α:Type}(p:α->Bool)(l:List α):(l.reverse.dropWhile p).reverse.dropWhile p=[]↔∀x∈l,p x=true:=by
 rw[qpx];constructor
 .intro h x hx
  by_cases hq:∀y∈l,p y=true
  .exact hq x hx
  .have hr:¬ ∀y∈l.reverse,p y=true:=λh'=>hq λy hy=>h' y (by simpa using hy)
   rw[<-qpx]at hr;obtain⟨a,r,hd⟩:=List.exists_cons_of_ne_nil hr;have h1:=List.head?_dropWhile_not p l.reverse;rw[hd]at h1;have h2:=h a (by simp[hd]);simp[h2]at h1
 .intro h x hx
  exact h x (by
   have:=(List.dropWhile_sublist (l:=l.reverse) p).subset (by simpa using hx)
   simpa using this)
theorem qr1(l m:qc):Lib.trimS l m=[]↔∀c∈l,c∈m:=by
 unfold Lib.trimS Lib.trimLeftS Lib.trimRightS;rw[zie];simp
theorem qwa(l m:qc):(Lib.cut l m).1.length<=l.length:=by
 unfold Lib.cut;split
 .simp;omega
 .simp
def yr(l:qc):Prop:=2<=l.length∧l.length<=50000∧l.getLast?=some 10∧(v6 [32] l).2=true
instance (l:qc):Decidable (yr l):=inferInstanceAs (Decidable (_∧_∧_∧_))
def qiz(n:Nat)(fig:qc):qc:=[37,97,109,101,110,100,32]++Lib.itoa n++[32]++fig++[10]
def qae(n:Nat):qc:=[37,101,110,100,32]++Lib.itoa n++[10]
theorem qd2:∀(k u:Nat),u<10^(k+1)->Lib.nDigits u<=k+1
 |0,u,h=>by rw[Lib.nDigits_small (by simpa using h)];omega
 |k+1,u,h=>by
  by_cases h':u<10
  .rw[Lib.nDigits_small h'];omega
  .rw[Lib.nDigits_big h']
   have:=qd2 k (u / 10) (by rw[Nat.pow_succ]at h;omega);omega
theorem qbl(n:Nat)(h:n<=9223372036854775807):(Lib.itoa n).length<=19:=by
 unfold Lib.itoa;rw[if_neg Om,Lib.decDigits_length];have:((n:Int)).toNat=n:=Sx
 rw[this];exact qd2 18 n Om
theorem qjv(l:qc)(c:UInt8):Lib.hasSuffix l [c]=decide (l.getLast?=some c):=by
 have:Lib.hasSuffix l [c]=true↔l.getLast?=some c:=by
  unfold Lib.hasSuffix;rw[List.isSuffixOf_iff_suffix,List.singleton_suffix_iff_getLast?_eq_some]
 by_cases h:l.getLast?=some c
 .simp[this.2 h,h]
 .have:¬Lib.hasSuffix l [c]=true:=λh'=>h (this.1 h')
  simp[this,h]
theorem atoiAll_bounds{l:qc}{v:Int}(h:Lib.atoiAll l=.ok v): -9223372036854775808<=v∧v<=9223372036854775807:=by
 unfold Lib.atoiAll at h
 cases l with
 |nil=>simp at h
 |cons c r=>
  simp only at h;split at h
  .simp at h
  .simp at h
  .split at h
   .simp at h
   .split at h
    .simp at h
    .rename_i h1 h2
     simp only[Lib.NumEnd.ok.injEq]at h;subst h;by_cases hn:c.toNat=45
     .simp only[hn,true_and,not_true,if_true]at *
      omega
     .simp only[hn,not_false_iff,true_and,if_false]at *
      omega
def kz(l:qc):Nat:=
 match Lib.atoiAll l with
 |.ok v=>if Lib.itoa v=l∧1<=v∧v<=50000 then v.toNat else 0
 |_=>0
def zf:qc:=[37,97,109,101,110,100,32]
def hexL:qc:=[48,49,50,51,52,53,54,55,56,57,97,98,99,100,101,102]
def xk(l:qc):Prop:=∀c∈l,c∈hexL
instance (l:qc):Decidable (xk l):=inferInstanceAs (Decidable (∀c∈l,c∈hexL))
theorem q12(l:qc):Lib.trimS l [48,49,50,51,52,53,54,55,56,57,97,98,99,100,101,102]=[]↔xk l:=qr1 l hexL
def jh(l:qc):Nat×qc×Bool:=
 (kz (upto 32 (Lib.trimPrefix l zf)),past 32 (Lib.trimPrefix l zf),
  decide (zf<+:l∧32∈Lib.trimPrefix l zf∧2<=kz (upto 32 (Lib.trimPrefix l zf))∧(past 32 (Lib.trimPrefix l zf)).length=8∧xk (past 32 (Lib.trimPrefix l zf))))
def yh(l:qc):Bool:=
 if zf<+:l then decide (¬(32∈l.drop 7∧kz (upto 32 (l.drop 7))<2)∧¬(upto 32 (l.drop 7)≠[]∧kz (upto 32 (l.drop 7))=0)∧(past 32 (l.drop 7)).length<=8∧xk (past 32 (l.drop 7)))
 else decide (l<+:zf)
theorem q5r{l:qc}(h:∀v,Lib.atoiAll l≠.ok v):kz l=0:=by
 unfold kz
 cases ho:Lib.atoiAll l with
 |ok v=>exact absurd ho (h v)
 |_=>rfl
theorem qw9{l:qc}{v:Int}(h:Lib.atoiAll l=.ok v):(kz l:Int)=if Lib.itoa v=l∧1<=v∧v<=50000 then v else 0:=by
 unfold kz;rw[h];simp only;split
 .omega
 .rfl
theorem qa3(l:qc):kz l<=50000:=by
 unfold kz;split
 .split
  .omega
  .omega
 .omega
def qeg(n:Int):Int:=if n<2∨50000<n then 0 else(qiz n.toNat [48,48,48,48,48,48,48,48]).length+n+(qae n.toNat).length
theorem qju(l m:qc):Lib.hasPrefix l m=decide (m<+:l):=by
 by_cases h:m<+:l
 .simp[(yt l m).2 h,h]
 .have:¬Lib.hasPrefix l m=true:=λh'=>h ((yt l m).1 h')
  simp[this,h]
def yl(body:qc)(lack:Int):Int:=
 if(v6 [32] body).2=true∧¬((body=[]∨body.getLast?=some 10)∧lack<2)then 2 else 3
theorem rep8:Lib.repeatL [48] 8=[48,48,48,48,48,48,48,48]:=by decide
theorem qdk(n:Nat)(f:qc):(qiz n f).length=(Lib.itoa n).length+f.length+9:=by simp[qiz]<;>omega
theorem qbb(n:Nat):(qae n).length=(Lib.itoa n).length+6:=by simp[qae]<;>omega
theorem q76{u:Nat}(h:u<10):(([48,49,50,51,52,53,54,55,56,57]:qc).take (u+1)).drop u=Lib.decDigits u:=by
 rw[Lib.decDigits_one h];have:u=0∨u=1∨u=2∨u=3∨u=4∨u=5∨u=6∨u=7∨u=8∨u=9:=Om
 rcases this with rfl|rfl|rfl|rfl|rfl|rfl|rfl|rfl|rfl|rfl <;>rfl
theorem yq{u:Nat}(h:¬u<10):Lib.decDigits u=Lib.decDigits (u / 10)++Lib.decDigits (u%10):=by
 rw[Lib.decDigits,dif_neg h,Lib.decDigits_one (Nat.mod_lt u Om)]
theorem qgb{u:Nat}(h:u<18446744073709551616):(Lib.decDigits u).length<=20:=by
 rw[Lib.decDigits_length];exact qd2 19 u Om
end Go.Pl
namespace Go.Proofs.YtihlchbgjdkmpaaGreatDoor
open Go Go.Av Go.RowKit Go.Proofs Go.Pl
theorem qs5(l:List UInt8)(c:UInt8)(st:List AObj)(hl:l.length<4294967281):qr E 214 [Sv l,Sv [c]] st λr st'=>r=Bv (decide (c∈l))∧st'=st:=by
 rw[<-qqp];exact qv8 l [c] st hl
theorem qhs(l:List UInt8)(c:UInt8)(st:List AObj):qr E 155 [Sv l,Sv [c]] st λr st'=>r=Bv (decide (l.head?=some c))∧st'=st:=by
 rw[<-qpz];exact qfz l [c] st
theorem q9g(l:List UInt8)(st:List AObj):qr E 216 [Sv l] st λr st'=>r=Bv (decide (qfw l))∧st'=st:=by
 refine q5 (qt _) (qs Tryz.func216 rfl (Qa rfl) ?_)
 cases l with
 |nil=>
  repeat' (first|apply qq|apply qh|apply qj|apply ql|apply qi|(apply jo;(iterate 3 exact rfl))|(apply qx;(iterate 4 exact rfl))|(apply xq;exact cRa)|(apply qk;exact rfl;apply pk_f;exact cRa)|apply qw)
  refine qo rfl (q7 rfl) ⟨congrArg Bv (?_:_=_),_,rfl⟩
  simp[qfw]
 |cons c l=>
  have b9:¬(c::l)=[]:=Sx
  repeat' (first|apply qq|apply qh|apply qj|apply ql|apply qi|(apply jo;(iterate 3 exact rfl))|(apply qx;(iterate 4 exact rfl))|(apply xf;exact cAo)|(apply qk;exact rfl;apply w7;exact cAo)|apply qw|refine qft rfl rfl rfl ⟨_,rfl⟩ Om Om So ?_|(apply qm;exact Tryz.call214;exact qv8 _ _ _ Sx))
  refine qo rfl (q7 rfl) ⟨congrArg Bv (?_:_=_),_,rfl⟩;exact qyo c l
theorem zky(l:List UInt8)(st:List AObj)(hl:l.length<4294967281):qr E 217 [Sv l] st λr st'=>r=Bv (decide (qa2 l))∧st'=st:=by
 refine q5 (qt _) (qs Tryz.func217 rfl (Qa rfl) ?_);repeat' (first|apply qq|apply qh|apply qj|apply ql|apply qi|(apply qv;(iterate 3 exact rfl))|(apply jo;(iterate 3 exact rfl))|(apply ja;exact rfl)|(apply qx;(iterate 4 exact rfl))|(apply wc;exact cAo)|(apply wg;exact cAo)|(apply qqy;exact cRa)|(apply qon;exact cRa)|(apply qhr<;>intro h)|(apply qa8;exact cRa)|(apply jn<;>intro h)|(apply qk;exact rfl;apply w7;exact cAo)|(apply qk;exact rfl;apply wt;exact cAo)|(apply qk;exact rfl;apply qi4;exact cRa)|(apply qk;exact rfl;apply qfi;exact cRa)|(apply qk;exact rfl;apply pk_t;exact cRa)|(apply qe;exact rfl;apply cd_t;exact cRa)|(apply qe;exact rfl;apply cd_d<;>intro h)|(apply zu;(iterate 3 exact rfl))|apply qz|apply qw|(apply qm;exact Tryz.call214;exact qs5 _ _ _ hl)|(apply qm;exact Tryz.call155;exact qhs _ _ _)|(apply qm;exact Tryz.call216;exact q9g _ _))
 all_goals refine qo rfl (q7 rfl) ⟨congrArg Bv (?_:_=_),_,rfl⟩
 all_goals simp[qa2, *]
 all_goals omega
theorem qpg(c:UInt8)(st:List AObj):qr E 230 [Uv c] st λr st'=>r=Bv (decide (wy c))∧st'=st:=by
 refine q5 (qt _) (qs Tryz.func230 rfl (Qa rfl) ?_);repeat' (first|apply qq|apply qh|apply qj|apply ql|apply qi|(apply qv;(iterate 3 exact rfl))|(apply qx;(iterate 4 exact rfl))|(apply wc;exact cAo)|(apply wg;exact cAo)|(apply jn<;>intro h)|(apply qk;exact rfl;apply w7;exact cAo)|(apply qk;exact rfl;apply wt;exact cAo)|apply qw)
 all_goals refine qo rfl (q7 rfl) ⟨congrArg Bv (?_:_=_),_,rfl⟩
 all_goals simp_all[wy,qx8,u8_9]
theorem q6o(l:List UInt8)(st:List AObj)(hl:l.length<4294967281):qr E 269 [Sv l] st λr st'=>r=Bv (decide (qa2 l))∧st'=st:=by
 refine q5 (qt _) (qs Tryz.func269 rfl (Qa rfl) ?_);repeat' (first|apply qq|apply q6|apply qh|apply qj|apply ql|apply qi|(apply qv;(iterate 3 exact rfl))|(apply qx;(iterate 4 exact rfl))|(apply wc;exact cAo)|(apply wg;exact cAo)|(apply qa8;exact cRa)|(apply jn<;>intro h)|(apply qk;exact rfl;apply w7;exact cAo)|(apply qk;exact rfl;apply wt;exact cAo)|(apply qk;exact rfl;apply pk_t;exact cRa)|(apply qe;exact rfl;apply cd_t;exact cRa)|(apply qe;exact rfl;apply cd_d<;>intro h)|(apply zu;(iterate 3 exact rfl))|(apply wm;(iterate 3 exact rfl);exact cAs)|apply qz|apply qw|(apply qm;exact Tryz.call230;exact qpg _ _))
 rotate_left 4
 .refine jt (λ(k:Nat)s=>k<=l.length∧58∉l.take k∧10∉l.take k∧StA [(0,Sv l),(3,Iv k)] (st++[]) [] s) (λk=>l.length-k) 0 ⟨Om,Sx,Sx,z7 ⟨rfl,rfl,trivial⟩⟩ ?_
  rintro k _ ⟨hk,h1,h2,t,rfl⟩;repeat' (first|apply qq|apply q6|apply qh|apply qj|apply ql|apply qi|(apply qv;(iterate 3 exact rfl))|(apply qx;(iterate 4 exact rfl))|(apply wc;exact cAo)|(apply wg;exact cAo)|(apply jn<;>intro h)|(apply qk;exact rfl;apply w7;exact cAo)|(apply qk;exact rfl;apply wt;exact cAo)|(apply qe;exact rfl;apply cd_t;exact cRa)|(apply qe;exact rfl;apply cd_d<;>intro h)|(apply zu;(iterate 3 exact rfl))|(apply zo;exact rfl;exact rfl;exact q8 Om Om)|(apply wm;(iterate 3 exact rfl);exact cAs)|apply qz|apply jd|apply qw)
  rotate_left 2
  .exact⟨k+1,⟨Om,qd3 Om h1 (by simp_all[qx9]),qd3 Om h2 (by simp_all[qcb]),z7 ⟨rfl,rfl,trivial⟩⟩,Om⟩
  all_goals refine qo rfl (q7 rfl) ⟨congrArg Bv (?_:_=_),_,rfl⟩
  .have e:k=l.length:=by omega
   subst e;simp_all[qmf,qsr];omega
  .have:=qnp (l:=l) (k:=k) Om
   simp_all[qmf,qx9]
  .have:=qnp (l:=l) (k:=k) Om
   simp_all[qmf,qcb]
 all_goals refine qo rfl (q7 rfl) ⟨congrArg Bv (?_:_=_),_,rfl⟩
 all_goals simp_all[qmf,qsr]
 all_goals omega
theorem E_ok:qvg E:=λ_ _ _ h hb hB _ h2=>h _ (hb.trans (h2.mono hB))
theorem q6k(l:List UInt8)(st:List AObj)(hl:l.length<4294967281):qr E 231 [Sv l] st λr st'=>r=.tu [Sv (qf5 l).1,Sv (qf5 l).2.1,Bv (qf5 l).2.2]∧st'=st:=by
 refine q5 (qcu _ _ _) (qs Tryz.func231 rfl (Qa rfl) ?_);repeat' (first|apply qq|apply q6|apply qh|apply qj|apply qi)
 refine jt (λ(k:Nat)s=>k<=l.length∧10∉l.take k∧StA [(0,Sv l),(2,Sv []),(3,Sv []),(4,Bv false),(5,Iv k)] (st++[]) [] s) (λk=>l.length-k) 0 ⟨Om,Sx,z7 ⟨rfl,rfl,rfl,rfl,rfl,trivial⟩⟩ ?_;rintro k _ ⟨hk,h1,t,rfl⟩;repeat' (first|apply qq|apply q6|apply qh|apply qj|apply ql|apply qi|(apply qv;(iterate 3 exact rfl))|(apply qe;exact rfl;apply cd_d<;>intro h)|(apply zu;(iterate 3 exact rfl))|(apply zo;exact rfl;exact rfl;exact q8 Om Om)|(apply wm;(iterate 3 exact rfl);exact cAs)|apply qz|apply jd|apply qw)
 rotate_left 1
 .exact⟨k+1,⟨Om,qd3 Om h1 (by simp_all[qcb]),z7 ⟨rfl,rfl,rfl,rfl,rfl,trivial⟩⟩,Om⟩
 .have e:k=l.length:=by omega
  subst e;rw[Qj]at h1;refine jt (λ(k:Nat)s=>k<=l.length∧58∉l.take k∧StA [(0,Sv l),(2,Sv []),(3,Sv []),(4,Bv false),(6,Iv k)] (st++[]) [] s) (λk=>l.length-k) 0 ⟨Om,Sx,z7 ⟨rfl,rfl,rfl,rfl,rfl,trivial⟩⟩ ?_;rintro k _ ⟨hk,h2,t,rfl⟩;repeat' (first|apply qq|apply q6|apply qh|apply qj|apply ql|apply qi|(apply qv;(iterate 3 exact rfl))|(apply ja;exact rfl)|(apply qe;exact rfl;apply cd_n<;>intro h)|(apply qe;exact rfl;apply cd_d<;>intro h)|(apply zu;(iterate 3 exact rfl))|(apply zo;exact rfl;exact rfl;exact q8 Om Om)|(apply wm;(iterate 3 exact rfl);exact cAs)|(apply qbt;(iterate 3 exact rfl);exact cAs)|(apply qky;exact rfl;kernel_rfl)|apply qjf|apply qgq|apply qjd|(apply qvw;exact rfl;exact rfl;exact q8 Om Om)|(apply qr9;(iterate 3 exact rfl);exact cAs)|(apply qr8;(iterate 3 exact rfl);exact cAs)|apply qz|apply jd|apply qw|(apply qm;exact Tryz.call269;exact q6o _ _ So))
  rotate_left 2
  .exact⟨k+1,⟨Om,qd3 Om h2 (by simp_all[qx9]),z7 ⟨rfl,rfl,rfl,rfl,rfl,trivial⟩⟩,Om⟩
  all_goals refine qo rfl (yo rfl) ⟨q7f (?_:_=_),_,rfl⟩
  .have e:k=l.length:=by omega
   subst e;rw[Qj]at h2;simp[qf5,h2]
  .obtain⟨e1,e2⟩:=qw2 h2 Om (by simp_all[qx9])
   simp_all[qf5]
  .obtain⟨e1,e2⟩:=qw2 h2 Om (by simp_all[qx9])
   have u6:k<l.length:=Om
   have s4:(l.take k).length=k:=So
   have hkey:qa2 (l.take k):=by simp_all
   simp only[qf5,vc,e1,e2,h1,hkey,s4];simp
 .refine qo rfl (yo rfl) ⟨q7f (?_:_=_),_,rfl⟩
  have:=qnp (l:=l) (k:=k) Om;simp_all[qf5,qcb]
theorem qjo(l:List UInt8)(st:List AObj)(hl:l.length<4294967281):qr E 177 [Sv l] st λr st'=>r=Iv (qy l)∧st'=st:=by
 refine q5 (qt _) (qs Tryz.func177 rfl (Qa rfl) ?_);repeat' (first|apply qq|apply q6|apply qh|apply qj|apply qi)
 refine jt (λ(k:Nat)s=>k<=l.length∧10∉l.take k∧∃b,(b=true↔∀c∈l.take k,wy c)∧StA [(0,Sv l),(3,Bv b),(4,Iv k)] (st++[]) [] s) (λk=>l.length-k) 0 ⟨Om,Sx,true,Sx,z7 ⟨rfl,rfl,rfl,trivial⟩⟩ ?_;rintro k _ ⟨hk,h1,b,hb,t,rfl⟩;repeat' (first|apply qq|apply q6|apply qh|apply qj|apply ql|apply qi|(apply qv;(iterate 3 exact rfl))|(apply qx;(iterate 4 exact rfl))|(apply qaa;exact cRa)|(apply xq;exact cRa)|(apply qgd<;>intro h)|(apply qk;exact rfl;apply pk_t;exact cRa)|(apply qk;exact rfl;apply pk_f;exact cRa)|(apply qe;exact rfl;apply cd_d<;>intro h)|(apply qe;exact rfl;apply cd_s<;>intro h)|(apply zu;(iterate 3 exact rfl))|(apply zo;exact rfl;exact rfl;exact q8 Om Om)|(apply wm;(iterate 3 exact rfl);exact cAs)|apply qz|apply jd|apply qw|(apply qm;exact Tryz.call230;exact qpg _ _))
 .refine qo rfl (q7 rfl) ⟨congrArg Iv (?_:_=_),_,rfl⟩
  have:=qnp (l:=l) (k:=k) Om;simp_all[qy,qcb]
 .exact⟨k+1,⟨Om,qd3 Om h1 (by simp_all[qcb]),_,by rw[qn6 Om,decide_eq_true_iff,<-hb];simp[*],z7 ⟨rfl,rfl,rfl,trivial⟩⟩,Om⟩
 .exact⟨k+1,⟨Om,qd3 Om h1 (by simp_all[qcb]),_,by rw[qn6 Om,<-hb];simp[*],z7 ⟨rfl,rfl,rfl,trivial⟩⟩,Om⟩
 .refine qo rfl (q7 rfl) ⟨congrArg Iv (?_:_=_),_,rfl⟩
  have e:k=l.length:=Om
  subst e;simp_all[qy]
 .have e:k=l.length:=by omega
  subst e;rw[Qj]at h1 hb;obtain⟨h0,hk⟩:=qtk h1 (λh=>by simp_all);repeat' (first|apply qq|apply qh|apply qj|apply ql|apply qi|(apply zg;exact rfl;exact rfl)|(apply qv;(iterate 3 exact rfl))|(apply qe;exact rfl;apply cd_d<;>intro h)|(apply qe;exact rfl;apply cd_s<;>intro h)|(apply wm;(iterate 3 exact rfl);exact cAs)|apply qz|apply qw|(apply qm;exact Tryz.call230;exact qpg _ _)|(apply qm;exact Tryz.call231;exact q6k _ _ hl))
  all_goals refine qo rfl (q7 rfl) ⟨congrArg Iv (?_:_=_),_,rfl⟩
  .simp_all[qsr]
  .simp_all[qsr]
  .have hc:58∈l∧qa2 (jf l):=by
    apply Classical.byContradiction;intro hn;have:qf5 l=([],[],false):=by unfold qf5;rw[if_neg (λh=>hn h.2)]
    simp_all
   simp_all[qsr]
  .have hc:¬(58∈l∧qa2 (jf l)):=λhn=>by
    have:qf5 l=(jf l,vc l,true):=by unfold qf5;rw[if_pos ⟨h1,hn⟩]
    simp_all
   simp_all[qsr]
theorem qnq(l:List UInt8)(st:List AObj)(hl:l.length<4294967281):qr E 156 [Sv l] st λr st'=>r=Iv (qy l)∧st'=st:=by
 refine q5 (qt _) (qs Tryz.func156 rfl (Qa rfl) ?_);repeat' (first|apply qq|apply q6|apply qh|apply qj|apply ql|apply qi|(apply zg;exact rfl;exact rfl)|(apply jo;(iterate 3 exact rfl))|(apply qx;(iterate 4 exact rfl))|(apply qaa;exact cRa)|(apply xq;exact cRa)|(apply qgd<;>intro h)|(apply qk;exact rfl;apply pk_t;exact cRa)|(apply qk;exact rfl;apply pk_f;exact cRa)|(apply qe;exact rfl;apply cd_f;exact cRa)|(apply qe;exact rfl;apply cd_d<;>intro h)|apply qz|apply qw|(apply qm;exact Tryz.call214;exact qs5 _ _ _ hl)|(apply qm;exact Tryz.call215;exact zha _ _ _ Om Sx (by intro j b h;match j with |0=>simp at h;subst h;decide |1=>simp at h;subst h;decide|j+2=>simp at h))|(apply qm;exact Tryz.call155;exact qhs _ _ _)|(apply qm;exact Tryz.call216;exact q9g _ _)|(apply qm;exact Tryz.call110;exact qv9 _ _ _ hl)|(apply qm;exact Tryz.call217;exact zky _ _ (Zf (qwa _ _) hl)))
 all_goals refine qo rfl (q7 rfl) ⟨congrArg Iv (?_:_=_),_,rfl⟩
 all_goals have hb:Lib.trimS l [32,9]=[]↔∀c∈l,wy c:=by rw[qr1];simp[wy]
 all_goals by_cases hA:∀c∈l,wy c<;>by_cases hC:58∈l<;>by_cases hK:qa2 (jf l)<;>simp_all[qy,q0b]
end Go.Proofs.YtihlchbgjdkmpaaGreatDoor
namespace Go.Proofs
open Go.Shelf Go.RowKit
variable {P : Program} {ρ : Ren}
set_option maxHeartbeats 4000000 in
theorem qv4(L:Lays.n169 P ρ)(X:Builder.Extra P ρ)(b n c:Nat)(ad:Option Addr)(q:Value)(str:ByteArray)(w w2:World)(c1:w.drew.cell? ⟨b,1,none⟩=some (.slice ad n c))
  (hSD:(Builtin.unsafeSliceData_ #[(ρ.t 37)] (ρ.t 127) #[.slice ad n c]).run P w.drew=.ok q w.drew)
  (hUS:(Builtin.unsafeString_ #[(ρ.t 127),(ρ.t 3)] (ρ.t 9) #[q,.int .i64 n]).run P w.drew=.ok (.string str) w2):
  Calls P (ρ.f 169) #[.pointer (some ⟨b,0,none⟩)] w λe w'=>e=.returned (.string str)∧w'=w2:=by
 have mixed:=L.mixed;have t72:=L.t72;have a72:=L.a72;have z72:=L.z72;have v72:=L.v72;have u72:=run_underlying L.t72;have t70:=L.t70;have a70:=L.a70;have z70:=L.z70;have v70:=L.v70;have u70:=run_underlying L.t70;have t37:=L.t37;have a37:=L.a37;have z37:=L.z37;have v37:=L.v37;have u37:=run_underlying L.t37;have t127:=L.t127;have a127:=L.a127;have z127:=L.z127;have v127:=L.v127;have u127:=run_underlying L.t127;have t3:=L.t3;have a3:=L.a3;have z3:=L.z3;have v3:=L.v3;have u3:=run_underlying L.t3;have t9:=L.t9;have a9:=L.a9;have z9:=L.z9;have v9:=L.v9;have u9:=run_underlying L.t9;have t5:=X.t5;have a5:=X.a5;have z5:=X.z5;have v5:=X.v5;have u5:=run_underlying X.t5
 go_enter L.f169,Body.n169_ntmps ρ
 go_wp2
 go_region_o
 all_goals (go_wp2;go_ret;exact⟨rfl,rfl⟩)
end Go.Proofs
namespace Go.Proofs.YtihlchbgjdkmpaaGreatDoor
open Go Go.Av Go.RowKit Go.Proofs
@[reducible] def bldO (ver : Nat) (q : AV) (l : List UInt8) (tp : Nat) : AObj := .cells ver 194 [q, .sl 1 (l.map Uv) (some tp)]
theorem q5l(v:Value)(w:World):(callFunc 203 #[v]).run E.P w=.ok (.value v) w:=by
 have h:=run_callFunc_extern (P:=E.P) Tryz.func203 Kr Kr Kr (e:=Extern.AbiNoEscape.same) Kr #[v] w;rw[h,Lib.run_noEscape];rfl
theorem q9j(o ver:Nat)(q buf:AV)(st:List AObj)(ho:st[o]?=some (.cells ver 194 [q,buf]))(hq:q=.v (.pointer none)∨q=.bx o ver 0):
  qr E 144 [.bx o ver 0] st λr st'=>r=.tu []∧st'=st.set o (.cells ver 194 [.bx o ver 0,buf]):=by
 have e7:(st++[])[o]?=some (.cells ver 194 [q,buf]):=by rw[Qc];exact ho
 refine qs Tryz.func144 rfl (Qa rfl) ?_;rcases hq with rfl|rfl
 .skip
  repeat' (first|apply qq|apply qh|apply qj|apply ql|(apply qe;exact rfl;apply cd_t;exact cRa)|(apply zl;(iterate 3 exact rfl))|(apply wv;exact rfl;exact rfl)|(apply qbi;(iterate 3 exact rfl))|(apply vb;exact rfl;exact e7;exact rfl;exact rfl)|(apply qai;exact rfl;exact rfl;exact e7;(iterate 6 exact rfl))|(apply q18;exact rfl;exact e7;(simp);exact rfl;exact rfl;kernel_rfl)|(apply qvr;exact rfl;exact e7;(iterate 3 exact rfl);kernel_rfl)|(apply q16;exact q5l;exact rfl))
  refine qo rfl (yx rfl) ⟨rfl,?_⟩
  show(st++[]).set o _=_
  rw[Qc];rfl
 .skip
  repeat' (first|apply qq|apply qh|apply qj|apply ql|(apply qe;exact rfl;apply cd_f;exact cRa)|(apply zl;(iterate 3 exact rfl))|(apply wv;exact rfl;exact rfl)|(apply qbi;(iterate 3 exact rfl))|apply qz|(apply vb;exact rfl;exact e7;exact rfl;exact rfl)|(apply qye;exact rfl;exact rfl;exact e7;exact rfl;exact rfl))
  refine qo rfl (yx rfl) ⟨rfl,?_⟩
  show st++[]=_
  rw[Qc,zke ho]
theorem q9t:yw E.P 5 1 1:=⟨_,_,rfl,rfl,rfl,rfl,rfl⟩
theorem q3v(o ver tp:Nat)(q:AV)(l m:List UInt8)(st:List AObj)(ho:st[o]?=some (bldO ver q l tp))(ht:st[tp]?=some (.tip l.length 1 5))(hq:q=.v (.pointer none)∨q=.bx o ver 0)(d5:l.length+m.length<=140737488355328):
  qr E 101 [.bx o ver 0,Sv m] st λr st'=>r=.tu [Iv m.length,.v .nilIface]∧st'=(st.set o (bldO ver (.bx o ver 0) (l++m) tp)).set tp (.tip (l.length+m.length) 1 5):=by
 have b9:tp≠o:=λe=>by rw[e,ho]at ht;simp at ht
 have e7:(st++[])[o]?=some (bldO ver q l tp):=by rw[Qc];exact ho
 have ht':(st++[])[tp]?=some (.tip l.length 1 5):=by rw[Qc];exact ht
 have h2:=kh (y:=.cells ver 194 [.bx o ver 0,.sl 1 (l.map Uv) (some tp)]) e7;have h3:=j8 (y:=.cells ver 194 [.bx o ver 0,.sl 1 (l.map Uv) (some tp)]) ht' (Ne.symm b9);have h4:=j8 (y:=.tip (l.length+m.length) 1 5) h2 b9;have h5:maxLen=140737488351232∨True:=.inr trivial;refine qs Tryz.func101 rfl (Qa rfl) ?_;repeat' (first|apply qq|apply qh|apply qj|apply ql|apply qi|(apply zu;(iterate 3 exact rfl))|(apply zl;(iterate 3 exact rfl))|(apply wv;exact rfl;exact rfl)|apply qw|(apply qm;exact Tryz.call144;exact q9j o ver q _ (st++[]) e7 hq)|(apply vb;exact rfl;exact h2;exact rfl;exact rfl)|(apply q3e;exact rfl;exact rfl;exact h3;(simp);exact rfl;exact rfl;exact q9t;(simp only[maxLen];omega);omega)|(apply qai;exact rfl;exact rfl;exact h4;(iterate 6 exact rfl)))
 refine qo rfl (kw rfl) ⟨rfl,?_⟩
 show(((st++[]).set o _).set tp _).set o (.cells ver 194 [.bx o ver 0,.sl 1 (l.map Uv++m.map Uv) (some tp)])=_
 rw[Qc,Zm _ _ b9,Zo,<-Zl]
theorem zld(o ver tp:Nat)(q:AV)(l:List UInt8)(c:UInt8)(st:List AObj)(ho:st[o]?=some (bldO ver q l tp))(ht:st[tp]?=some (.tip l.length 1 5))(hq:q=.v (.pointer none)∨q=.bx o ver 0)(d5:l.length+1<=140737488355328):
  qr E 148 [.bx o ver 0,Uv c] st λr st'=>r=.v .nilIface∧st'=(st.set o (bldO ver (.bx o ver 0) (l++[c]) tp)).set tp (.tip (l.length+1) 1 5):=by
 have b9:tp≠o:=λe=>by rw[e,ho]at ht;simp at ht
 have e7:(st++[])[o]?=some (bldO ver q l tp):=by rw[Qc];exact ho
 have ht':(st++[])[tp]?=some (.tip l.length 1 5):=by rw[Qc];exact ht
 have h2:=kh (y:=.cells ver 194 [.bx o ver 0,.sl 1 (l.map Uv) (some tp)]) e7;have h3:=j8 (y:=.cells ver 194 [.bx o ver 0,.sl 1 (l.map Uv) (some tp)]) ht' (Ne.symm b9);have h4:=j8 (y:=.tip (l.length+1) 1 5) h2 b9;refine qs Tryz.func148 rfl (Qa rfl) ?_;repeat' (first|apply qq|apply qh|apply qj|apply ql|apply qi|(apply zl;(iterate 3 exact rfl))|(apply we;(iterate 9 exact rfl))|(apply wv;exact rfl;exact rfl)|apply qw|(apply qm;exact Tryz.call144;exact q9j o ver q _ (st++[]) e7 hq)|(apply vb;exact rfl;exact h2;exact rfl;exact rfl)|(apply qsy (m:=1);exact rfl;exact rfl;exact h3;(simp);exact rfl;exact rfl;exact q9t;exact rfl;exact rfl;(simp only[maxLen];omega);omega)|(apply qai;exact rfl;exact rfl;exact h4;(iterate 6 exact rfl)))
 refine qo rfl (q7 rfl) ⟨rfl,?_⟩
 show(((st++[]).set o _).set tp _).set o (.cells ver 194 [.bx o ver 0,.sl 1 (l.map Uv++[c].map Uv) (some tp)])=_
 rw[Qc,Zm _ _ b9,Zo,<-Zl]
theorem qz0(o ver tp:Nat)(q:AV)(l:List UInt8)(st:List AObj)(ho:st[o]?=some (bldO ver q l tp))(ht:st[tp]?=some (.tip l.length 1 5)):
  qr E 104 [.bx o ver 0] st λr st'=>r=Sv l∧st'=st.set tp .dead:=by
 refine⟨λB0 w0 G vals w hL hA hR=>?_⟩;obtain⟨h0,h1,h2,h3,c,h4,h5,h6⟩:=hA.ob o _ ho;obtain⟨g0,g1,g2⟩:=hA.ob tp _ ht;have b9:tp≠o:=λe=>by rw[e,ho]at ht;simp at ht
 have hvals:vals= #[.pointer (some ⟨(G.ob o).blk,0,none⟩)]:=by
  have hs:vals.size=1:=by have:=hR.1;simpa using this.symm
  have h:=hR.2 0 (.bx o ver 0) vals[0] rfl (by simp[hs]);apply Zs
  .simp[hs]
  .intro i hi1 ld
   have:i=0:=by simp at ld;omega
   subst this
   have e:vals[0]=.pointer (some ⟨(G.ob o).blk,0,none⟩):=by
    generalize vals[0]=v at h
    cases h with
    |bx _ _ _ b hn e1 e2=>rw[e2 h1]
   simpa using e
 subst hvals;have hc2:c.size=2:=by rw[<-h5];rfl
 have i7:=h6 1 (.sl 1 (l.map Uv) (some tp)) c[1] rfl (by simp[hc2])
 have db:w.drew.cell? ⟨(G.ob o).blk,1,none⟩=some c[1]:=by
  have h4':w.drew.heap[(G.ob o).blk]?=some (.cells c 194 (0,0)):=h4;simp[World.cell?,h4',hc2]
 generalize hv:c[1]=v at i7 db;have bz:Below w.heap.size w w.drew:=⟨rfl,rfl,rfl,Qe _,λ_ _=>rfl⟩;have gw:=(hA.kill tp).fresh bz;have hl:(l.map Uv).length=l.length:=Sx
 generalize ng:l.map Uv=xs at i7
 cases i7 with
 |sl0 _ _ base cap tn=>
  obtain⟨_,rfl,rfl⟩:=tn tp rfl;have hl0:l=[]:=by simpa using ng
  subst hl0;refine(qv4 Tryz.lays169 Tryz.Builder_Extra_169 (G.ob o).blk 0 0 none (.pointer none) .empty w w.drew db rfl (Lib.run_unsafeString_none w.drew _ _ _ none)).mono ?_;rintro e w' ⟨rfl,rfl⟩
  exact⟨_,G,Sv [],_,rfl,.refl G,gw,.v _,rfl,rfl⟩
 |sl _ _ _ b off cap pub hp hw d5 hr tn hcap0=>
  subst ng;rw[hl]at tn db;obtain⟨_,gv,_,hcur⟩:=tn tp rfl;obtain⟨hb,rfl,sg,pw,gr⟩:=hcur g1;obtain⟨hB,c2,vs,e1,e2,e3,e4⟩:=g2 gv;rw[hb]at e1 e2 hB
  have hcells:∀j x,l[j]?=some x->w.drew.cell? ((⟨b,0,none⟩:Addr).add j)=some (.int .u8 x.toNat):=λj x hx=>by
   obtain⟨c3,T3,fz3,k1,k2⟩:=hA.pub b pub hp;have k1':w.drew.heap[b]?=some (.cells c3 T3 fz3):=k1;have hj:j<(flat (l.map Uv)).length:=by rw[qka];simpa using lt_of_getElem? hx
   have hy:pub[0+j]?=some (pub[0+j]'(by omega)):=List.getElem?_eq_getElem Om;have hrj:=hr j (Uv x) _ (by rw[qka];simp[hx]) hy
   have:pub[0+j]'(by omega)=.int .u8 x.toNat:=by
    generalize pub[0+j]'(by omega)=y at hrj
    cases hrj;rfl
   rw[this]at hy;rw[Addr.add_lit];simp only[World.cell?,k1']
   simpa using k2 _ _ hy
  have d7:l.length<=c2.size:=by rw[e4,<-sg];omega
  have e1':w.drew.heap[b]?=some (.cells c2 5 (0,0)):=e1;have hUS:=Lib.run_unsafeString_row (P:=E.P) w.drew 248 3 9 5 rfl Kr b c2.size (by simp[World.shape?,e1']) l (by rintro rfl;exact gv rfl) d7 (by simp only[maxLen]at pw;omega) hcells;have hSD:(Builtin.unsafeSliceData_ #[192] 248 #[.slice (some ⟨b,0,none⟩) l.length cap]).run E.P w.drew=.ok (.pointer (some ⟨b,0,none⟩)) w.drew:=Lib.run_unsafeSliceData_row _ _ _ _ _ _ Om;refine(qv4 Tryz.lays169 Tryz.Builder_Extra_169 (G.ob o).blk l.length cap (some ⟨b,0,none⟩) _ _ w _ db hSD hUS).mono ?_;rintro e w' ⟨rfl,rfl⟩
  have hfz:∃fz',(w.drew.freeze ⟨b,0,none⟩ l.length).heap[b]?=some (.cells c2 5 fz'):=by
   unfold World.freeze;rw[if_neg gv];simp[Za,e1']
  obtain⟨fz',hfz⟩:=hfz
  have o9:∀k,k≠b->(w.drew.freeze ⟨b,0,none⟩ l.length).heap[k]?=w.drew.heap[k]?:=λk hk=>by
   unfold World.freeze;rw[if_neg gv];simp[Za,Ne.symm hk]
  refine⟨_,G,Sv l,_,rfl,.refl G,gw.refroze e1' hfz o9 hB (by unfold World.freeze;rw[if_neg gv];simp) (by unfold World.freeze;rw[if_neg gv]) (by unfold World.freeze;rw[if_neg gv]) (by unfold World.freeze;rw[if_neg gv]) (λk x hx hlv=>?_),.v _,rfl,rfl⟩;rcases getElem?_set' _ _ _ _ _ hx with⟨_,e⟩|⟨k1,k2⟩
  .subst e;exact hlv.elim
  .have:=hA.sep k tp x _ k1 k2 ht hlv gv
   rwa [hb]at this
theorem zd5(st loc loc':List AObj)(k kt ver:Nat)(q:AV)(l:List UInt8)(c:UInt8)(hk:loc[k]?=some (bldO ver q l (st.length+kt)))(pz:loc[kt]?=some (.tip l.length 1 5))(hq:q=.v (.pointer none)∨q=.bx (st.length+k) ver 0)
  (d5:l.length+1<=140737488355328) (hl:loc'=(loc.set k (bldO ver (.bx (st.length+k) ver 0) (l++[c]) (st.length+kt))).set kt (.tip (l++[c]).length 1 5)):
  qr E 148 [.bx (st.length+k) ver 0,Uv c] (st++loc) λr st'=>r=.v .nilIface∧st'=st++loc':=by
 refine(zld (st.length+k) ver (st.length+kt) q l c (st++loc) (j9 hk) (j9 pz) hq d5).mono λr st' ⟨h1,h2⟩=>⟨h1,?_⟩;rw[h2,y4,y4,hl,Zh];rfl
end Go.Proofs.YtihlchbgjdkmpaaGreatDoor
namespace Go.Proofs.YtihlchbgjdkmpaaGreatDoor
open Go Go.Av Go.RowKit Go.Proofs Go.Pl
theorem qk1(l:List UInt8)(c:UInt8)(st:List AObj)(hl:l.length<4294967281):qr E 110 [Sv l,Sv [c]] st λr st'=>r=.tu [Sv (upto c l),Sv (past c l),Bv (decide (c∈l))]∧st'=st:=by
 have:=qv9 l [c] st hl;rw[zlr]at this;exact this
@[reducible] def qfc (k : Nat) (text rest : List UInt8) : AV := .ag [Iv k, Iv ((text.length : Int) - rest.length), Sv (upto 10 rest), Bv (decide (10 ∈ rest))]
theorem zkh(text:List UInt8)(o kb ver n:Nat)(I:Nat->List UInt8->List AObj->Prop)(D:List AObj->Prop)(st:List AObj)(ht:text.length<4294967281)(h0:I 0 text st)
  (hI:∀k rest st',I k rest st'->st'.length=n∧st'[kb]?=some (.cells ver 9 [Sv text]))
  (hY:∀k rest st' own,I k rest st'->rest≠[]->rest.length<=text.length->yv E o [qfc k text rest] (st'++[own]) λb st2=>∃st3,st2=st3++[own]∧(b=true->I (k+1) (past 10 rest) st3)∧(b=false->D st3)):
  qr E 154 [.yd o,.bx kb ver 0] st λr st'=>∃st3 ext',st'=st3++ext'∧((∃k,I k [] st3)∨D st3):=by
 refine qs Tryz.func154 rfl (Qa rfl) ?_;obtain⟨hn,hb⟩:=hI 0 text st h0;subst hn;repeat' (first|apply qq|apply q6|apply qh|apply qj|apply qi|(apply j7;exact rfl;exact rfl)|(apply jc;(iterate 11 exact rfl))|(apply yb;(iterate 3 exact rfl))|(apply qbh;exact rfl;exact rfl;exact hb;exact rfl;exact rfl))
 refine jt (λ(x:Nat×List UInt8)s=>match x with|(k,rest)=>∃stk at' ta eb,I k rest stk∧k+rest.length<=text.length∧at'=(text.length:Int)-rest.length∧StA [(0,.yd o),(1,.bx kb ver 0),(3,.bx (st.length+0) 0 0),(4,Sv rest)] (stk++(.cells 0 206 [Iv k,Iv at',Sv ta,Bv eb]::[])) [] s) (λx=>x.2.length) (0,text)
  ⟨st,0,[],false,h0,Sx,Sx,?_⟩ ?_
 .exact z7 ⟨rfl,rfl,rfl,rfl,trivial⟩
 rintro⟨k,rest⟩ _ ⟨stk,_,ta,eb,hi,d7,rfl,t,rfl⟩;obtain⟨hn,fx⟩:=hI k rest stk hi;repeat' (first|apply qq|apply q6|apply qh|apply qj|apply ql|apply qi|(apply zg;exact rfl;exact rfl)|(apply jo;(iterate 3 exact rfl))|(apply qe;exact rfl;apply cd_d<;>intro h)|(apply zl;(iterate 3 exact rfl))|apply qz|apply jd|(apply qm;exact Tryz.call110;exact qk1 _ _ _ Om)|(apply qci;exact rfl;assumption;(iterate 10 exact rfl))|(apply qdi;exact rfl;assumption;(iterate 4 exact rfl)))
 .refine qdh rfl ((hY k rest stk _ hi h Om).mono ?_)
  rintro b _ ⟨st3,rfl,h1,h2⟩
  cases b
  .skip
   repeat' (first|apply qj|(apply ja;exact rfl)|(apply qe;exact rfl;apply qit;exact cRa)|apply qw)
   refine qo rfl (yx rfl) ⟨st3,_,rfl,.inr (h2 rfl)⟩
  .have hi3:=h1 rfl
   obtain⟨hn3,gb⟩:=hI _ _ _ hi3;have hp:=vl 10 rest;have hr0:0<rest.length:=Zd.2 h;repeat' (first|apply qq|apply qh|apply qj|apply ql|(apply ja;exact rfl)|(apply qe;exact rfl;apply qis;exact cRa)|(apply zu;(iterate 3 exact rfl))|(apply zo;exact rfl;exact rfl;exact q8 Om Om)|(apply ww;exact rfl;exact rfl;exact q8 Om Om)|(apply zl;(iterate 3 exact rfl))|apply qz|(apply qbh;exact rfl;exact rfl;exact gb;exact rfl;exact rfl)|(apply qci;exact rfl;assumption;(iterate 10 exact rfl))|(apply qdi;exact rfl;assumption;(iterate 4 exact rfl)))
   exact⟨(k+1,past 10 rest),⟨st3,_,_,_,hi3,Om,rfl,z7 ⟨rfl,rfl,rfl,rfl,trivial⟩⟩,by simp only;omega⟩
 .have hr:rest=[]:=Classical.not_not.1 h
  subst hr;exact qo rfl (yx rfl) ⟨stk,_,rfl,.inl ⟨k,hi⟩⟩
theorem qzc(text:List UInt8)(st st':List AObj)(n:Nat)(hn:st.length=n)(e8:st++[.cells 0 9 [Sv text]]=st'):qr E 113 [Sv text] st λr st1=>r=.fn (.func 154) [] [.bx n 0 0]∧st1=st':=by
 subst hn;subst e8;refine qs Tryz.func113 rfl (Qa rfl) ?_;repeat' (first|apply qq|apply qh|apply qj|apply qi|apply qf2|(apply qb1;(iterate 4 exact rfl))|apply qw)
 exact qo rfl (q7 rfl) ⟨rfl,rfl⟩
theorem zbm(st loc loc':List AObj)(k kt ver:Nat)(q:AV)(l m:List UInt8)(hk:loc[k]?=some (bldO ver q l (st.length+kt)))(pz:loc[kt]?=some (.tip l.length 1 5))(hq:q=.v (.pointer none)∨q=.bx (st.length+k) ver 0)
  (d5:l.length+m.length<=140737488355328) (hl:loc'=(loc.set k (bldO ver (.bx (st.length+k) ver 0) (l++m) (st.length+kt))).set kt (.tip (l++m).length 1 5)):
  qr E 101 [.bx (st.length+k) ver 0,Sv m] (st++loc) λr st'=>r=.tu [Iv m.length,.v .nilIface]∧st'=st++loc':=by
 refine(q3v (st.length+k) ver (st.length+kt) q l m (st++loc) (j9 hk) (j9 pz) hq d5).mono λr st' ⟨h1,h2⟩=>⟨h1,?_⟩;rw[h2,y4,y4,hl,Zh]
theorem qs3(st loc loc':List AObj)(k kt ver:Nat)(q:AV)(l:List UInt8)(hk:loc[k]?=some (bldO ver q l (st.length+kt)))(pz:loc[kt]?=some (.tip l.length 1 5))(hl:loc'=loc.set kt .dead):
  qr E 104 [.bx (st.length+k) ver 0] (st++loc) λr st'=>r=Sv l∧st'=st++loc':=by
 refine(qz0 (st.length+k) ver (st.length+kt) q l (st++loc) (j9 hk) (j9 pz)).mono λr st' ⟨h1,h2⟩=>⟨h1,?_⟩;rw[h2,y4,hl]
@[reducible] def dedL (st : List AObj) (by' text : List UInt8) (q : AV) (acc : List UInt8) (lp : AObj) : List AObj :=
 [.cells 0 9 [Sv by'],.cells 0 9 [Sv []],.cells 0 4 [Bv false],bldO 0 q acc (st.length+5),.cells 0 9 [Sv text],.tip acc.length 1 5,.dfr,lp]
theorem q37(text by':List UInt8)(st:List AObj)(hl:text.length<4294967281):qr E 205 [Sv text,Sv by'] st λr st'=>r=.tu [Sv (v6 by' text).1,Bv (v6 by' text).2]∧st'=st:=by
 refine q5 (qmq _ _) (qs Tryz.func205 rfl (Qa rfl) ?_);repeat' (first|apply qq|apply qh|apply qj|apply ql|(apply j7;exact rfl;exact rfl)|(apply qb1;(iterate 4 exact rfl)))
 refine qm Tryz.call113 (qzc text _ (st++[.cells 0 9 [Sv by'],.cells 0 9 [Sv []],.cells 0 4 [Bv false],.cells 0 194 [.v (.pointer none),zn],.cells 0 9 [Sv text]]) (st.length+4) ?_ ?_) ?_
 .show(st++[_,_,_,_]).length=_
  simp
 .show(st++[_,_,_,_])++[_]=_
  rw[Qb];rfl
 repeat' (first|apply q6|apply qj)
 refine qs2 (o:=st.length+3) (j:=1) (sz:=1) (T':=5) (j9 rfl) rfl ?_
 refine qgr [(3,.bx (st.length+0) 0 0),(4,.bx (st.length+1) 0 0),(5,.bx (st.length+2) 0 0),(6,.bx (st.length+3) 0 0),(11,.fn (.func 154) [] [.bx (st.length+4) 0 0])]
  (st++[.cells 0 9 [Sv by'],.cells 0 9 [Sv []],.cells 0 4 [Bv false],bldO 0 (.v (.pointer none)) [] (st.length+5),.cells 0 9 [Sv text],.tip 0 1 5]) [] ⟨rfl,rfl,rfl,rfl,rfl,trivial⟩ ?_ rfl (λt=>?_)
 .show(st++[_,_,_,_,_]).set (st.length+3) (.cells 0 194 [_,.sl 1 [] (some (st++[_,_,_,_,_]).length)])++[_]=_
  rw[y4,Qb];simp
 refine qj7 (st:=st) (loc:=[.cells 0 9 [Sv by'],.cells 0 9 [Sv []],.cells 0 4 [Bv false],bldO 0 (.v (.pointer none)) [] (st.length+5),.cells 0 9 [Sv text],.tip 0 1 5]) rfl rfl Tryz.call154 λF hF=>?_
 refine qr.mono (zkh text (st.length+7) (st.length+4) 0 (st.length+8)
  (λ_ rest st'=>∃q acc don,(q=.v (.pointer none)∨q=.bx (st.length+3) 0 0)∧zp text=don++zp rest∧(∀x∈don,by'<+:x.1)∧acc=don.flatMap (λx=>x.1.drop by'.length++x6 x.2)∧acc.length+rest.length<=text.length∧st'=st++dedL st by' text q acc (F .ready none))
  (λst'=>(¬ ∀x∈zp text,by'<+:x.1)∧∃q acc,st'=st++dedL st by' text q acc (F .done (some .ret)))
  (st++dedL st by' text (.v (.pointer none)) [] (F .ready none)) hl ⟨_,[],[],.inl rfl,rfl,Sx,rfl,Sx,rfl⟩ ?_ ?_) ?_
 .rintro k rest _ ⟨q,acc,don,hq,h1,h2,h3,h4,rfl⟩
  exact⟨Sx,j9 rfl⟩
 .rintro k rest _ own ⟨q,acc,don,hq,h1,h2,h3,h4,rfl⟩ b9 d7
  refine q7v ?_;rw[Qb];refine qoa hF (j9 rfl) rfl λl=>?_;repeat' (first|apply qh|apply qj|(apply j7;exact rfl;exact rfl)|(apply jc;(iterate 11 exact rfl)))
  refine⟨j9 rfl,rfl,?_⟩
  refine qgr [(3,.bx (st.length+0) 0 0),(4,.bx (st.length+1) 0 0),(5,.bx (st.length+2) 0 0),(6,.bx (st.length+3) 0 0),(7,.bx (st.length+9) 0 0)]
   (st++(dedL st by' text q acc (F .busy none)++[own,.cells 0 206 (qfc k text rest).cells])) [] ⟨rfl,rfl,rfl,rfl,rfl,trivial⟩ ?_ rfl (λt=>?_)
  .show(st++(dedL st by' text q acc (F .ready none)++[own,_])).set (st.length+7) _=_
   rw[y4];rfl
  have r6:=qf9 (upto 10 rest) by';have t6:=vk 10 rest;have td:(upto 10 rest,decide (10∈rest))∈zp text:=by rw[h1,wh b9];simp
  have np:=wh b9;have fj:=vl 10 rest;have d8:10∈rest->(upto 10 rest).length<rest.length:=qfs;repeat' (first|apply qq|apply q6|apply qh|apply qj|apply ql|apply qi|(apply zg;exact rfl;exact rfl)|(apply ja;exact rfl)|(apply qe;exact rfl;apply cd_n<;>intro h)|(apply qe;exact rfl;apply cd_d<;>intro h)|(apply zl;(iterate 3 exact rfl))|(apply jr;(iterate 5 exact rfl))|(apply jc;(iterate 11 exact rfl))|apply qz|apply qw|(apply qm;exact Tryz.call219;exact qfx _ _ _)|(refine qm Tryz.call101 (zbm st _ _ 3 5 0 _ _ _ rfl rfl ?_ ?_ rfl) ?_;(first|exact hq|exact .inr rfl);(first|omega|(simp;omega))))
  .have gm:¬ ∀x∈zp text,by'<+:x.1:=λbm=>by
    have:=(yt _ _).2 (bm _ td);simp_all
   refine⟨j9 rfl,st++(dedL st by' text q acc (F .done (some .ret))++[own]),[.cells 0 206 (qfc k text rest).cells],?_,?_,st++dedL st by' text q acc (F .done (some .ret)),(Qb _ _ _).symm,nofun,λ_=>⟨gm,q,acc,rfl⟩⟩
   .show(st++_).set (st.length+7) _=_
    rw[y4,Qb st];rfl
   .exact qme (.same _ (.same _ (.same _ (.same _ (.same _ (.same _ (.same _ (zcg hF (qkd _ _))))))))) st
  all_goals
   have gn:by'<+:upto 10 rest:=(yt _ _).1 (by simp_all);have htp:=qea gn
  .refine⟨j9 rfl,st++(dedL st by' text (.bx (st.length+3) 0 0) (acc++Lib.trimPrefix (upto 10 rest) by'++[10]) (F .ready none)++[own]),[.cells 0 206 (qfc k text rest).cells],?_,?_,
    st++dedL st by' text (.bx (st.length+3) 0 0) (acc++Lib.trimPrefix (upto 10 rest) by'++[10]) (F .ready none),(Qb _ _ _).symm,λ_=>⟨_,_,don++[(upto 10 rest,true)],.inr rfl,?_,?_,?_,?_,rfl⟩,nofun⟩
   .show(st++_).set (st.length+7) _=_
    rw[y4,Qb st];rfl
   .refine qme (.same _ (.same _ (.same _ (.cut (qs7 ?_) (.same _ (.cut qz9 (.same _ (zcg hF (qkd _ _))))))))) st
    intro x hx;simp only[Zb,Zk,or_false]at hx;rcases hx with rfl|rfl
    .exact zel Sx
    .exact q0a Sx
   .rw[h1,np];simp_all
   .intro x hx
    rcases Qw.1 hx with hx|hx
    .exact h2 x hx
    .simp at hx;subst hx;exact gn
   .rw[h3,htp];simp[x6]
   .have:=d8 (by assumption)
    simp;omega
  .refine⟨j9 rfl,st++(dedL st by' text (.bx (st.length+3) 0 0) (acc++Lib.trimPrefix (upto 10 rest) by') (F .ready none)++[own]),[.cells 0 206 (qfc k text rest).cells],?_,?_,
    st++dedL st by' text (.bx (st.length+3) 0 0) (acc++Lib.trimPrefix (upto 10 rest) by') (F .ready none),(Qb _ _ _).symm,λ_=>⟨_,_,don++[(upto 10 rest,false)],.inr rfl,?_,?_,?_,?_,rfl⟩,nofun⟩
   .show(st++_).set (st.length+7) _=_
    rw[y4,Qb st];rfl
   .refine qme (.same _ (.same _ (.same _ (.cut (qs7 ?_) (.same _ (.cut qz9 (.same _ (zcg hF (qkd _ _))))))))) st
    intro x hx;simp only[Zb,Zk,or_false]at hx;rcases hx with rfl|rfl
    .exact zel Sx
    .exact q0a Sx
   .rw[h1,np];simp_all
   .intro x hx
    rcases Qw.1 hx with hx|hx
    .exact h2 x hx
    .simp at hx;subst hx;exact gn
   .rw[h3,htp];simp[x6]
   .simp
    omega
 .rintro r st' ⟨st3,ext,rfl,⟨k,q,acc,don,hq,h1,h2,h3,h4,rfl⟩|⟨gm,q,acc,rfl⟩⟩
  .refine⟨.ready,none,nofun,by rw[Qb];exact j9 rfl,?_⟩
   refine qgr [(4,.bx (st.length+1) 0 0),(5,.bx (st.length+2) 0 0),(6,.bx (st.length+3) 0 0)] (st++(dedL st by' text q acc .dead++ext)) [st.length+6] ⟨rfl,rfl,rfl,trivial⟩ ?_ rfl (λt=>?_)
   .show((st++_)++ext).set (st.length+7) _=_
    rw[Qb,y4];rfl
   repeat' (first|apply qq|apply qh|apply qj|(apply jc;(iterate 11 exact rfl))|apply qw|(refine qm Tryz.call104 (qs3 st _ _ 3 5 0 _ _ rfl rfl rfl) ?_))
   refine qpv rfl rfl rfl (qo rfl (qnf rfl rfl rfl rfl rfl rfl rfl rfl rfl rfl) ⟨zk3 (?_:_=_),_,rfl⟩);rw[vu,Qc]at h1;unfold v6;rw[h1,if_pos h2,h3]
  .refine⟨.done,some .ret,nofun,by rw[Qb];exact j9 rfl,?_⟩
   refine qgr [(4,.bx (st.length+1) 0 0),(5,.bx (st.length+2) 0 0),(6,.bx (st.length+3) 0 0)] (st++(dedL st by' text q acc .dead++ext)) [st.length+6] ⟨rfl,rfl,rfl,trivial⟩ ?_ rfl (λt=>?_)
   .show((st++_)++ext).set (st.length+7) _=_
    rw[Qb,y4];rfl
   repeat' (first|apply qw)
   refine qpv rfl rfl rfl (qo rfl (qnf rfl rfl rfl rfl rfl rfl rfl rfl rfl rfl) ⟨zk3 (?_:_=_),_,rfl⟩);unfold v6;rw[if_neg gm]
theorem qwy(l:List UInt8)(st:List AObj)(hl:l.length<4294967281):qr E 147 [Sv l] st λr st'=>r=Bv (v6 [32] l).2∧st'=st:=by
 refine q5 (qt _) (qs Tryz.func147 rfl (Qa rfl) ?_);repeat' (first|apply qq|apply qh|apply qj|apply ql|apply qi|(apply zg;exact rfl;exact rfl)|apply qw|(apply qm;exact Tryz.call205;exact q37 _ _ _ hl))
 exact qo rfl (q7 rfl) ⟨rfl,_,rfl⟩
theorem ze0(l:List UInt8)(st:List AObj)(hl:l.length<4294967281):qr E 105 [Sv l] st λr st'=>r=Bv (decide (yr l))∧st'=st:=by
 refine q5 (qt _) (qs Tryz.func105 rfl (Qa rfl) ?_);repeat' (first|apply qq|apply qh|apply qj|apply ql|apply qi|(apply qv;(iterate 3 exact rfl))|(apply ja;exact rfl)|(apply qx;(iterate 4 exact rfl))|(apply wc;exact cAo)|(apply wg;exact cAo)|(apply qa8;exact cRa)|(apply jn<;>intro h)|(apply qk;exact rfl;apply w7;exact cAo)|(apply qk;exact rfl;apply wt;exact cAo)|(apply qk;exact rfl;apply pk_t;exact cRa)|(apply qe;exact rfl;apply cd_n<;>intro h)|(apply qe;exact rfl;apply cd_t;exact cRa)|(apply zu;(iterate 3 exact rfl))|apply qz|apply qw|(apply qm;exact Tryz.call146;exact qtg _ _ _ Om)|(apply qm;exact Tryz.call147;exact qwy _ _ hl))
 all_goals refine qo rfl (q7 rfl) ⟨congrArg Bv (?_:_=_),_,rfl⟩
 .exact(decide_eq_false λ⟨a,b,c,d⟩=>by omega).symm
 .exact(decide_eq_false λ⟨a,b,c,d⟩=>by omega).symm
 .exact(decide_eq_false λ⟨a,b,c,d⟩=>by simp_all[qjv]).symm
 .have e:yr l↔(v6 [32] l).2=true:=⟨λh=>h.2.2.2,λh=>⟨Om,Om,by simp_all[qjv],h⟩⟩
  simp[e]
theorem ze4(n:Nat)(l:List UInt8)(st:List AObj)(hn:n<=9223372036854775807)(hl:l.length<4294967281):qr E 106 [Iv n,Sv l] st λr st'=>r=Sv (qiz n l)∧st'=st:=by
 refine q5 (qt _) (qs Tryz.func106 rfl (Qa rfl) ?_);have h1:=qbl n hn;repeat' (first|apply qq|apply qh|apply qj|apply ql|apply qi|(apply jy;exact rfl;exact rfl;exact cOs)|apply qw|(apply qm;exact Tryz.call54;exact qlb _ _ Om Om))
 exact qo rfl (q7 rfl) ⟨rfl,_,rfl⟩
theorem q68(n:Nat)(st:List AObj)(hn:n<=9223372036854775807):qr E 109 [Iv n] st λr st'=>r=Sv (qae n)∧st'=st:=by
 refine q5 (qt _) (qs Tryz.func109 rfl (Qa rfl) ?_);have h1:=qbl n hn;repeat' (first|apply qq|apply qh|apply qj|apply ql|apply qi|(apply jy;exact rfl;exact rfl;exact cOs)|apply qw|(apply qm;exact Tryz.call54;exact qlb _ _ Om Om))
 exact qo rfl (q7 rfl) ⟨rfl,_,rfl⟩
theorem q5s(l:List UInt8)(st:List AObj)(hl:l.length<4294967281):qr E 220 [Sv l] st λr st'=>r=Iv (kz l)∧st'=st:=by
 refine q5 (qt _) (qs Tryz.func220 rfl (Qa rfl) ?_);repeat' (first|apply qq|apply qh|apply qj|apply ql|apply qi)
 refine qgm Tryz.call111 ((qqh l _ Om).mono ?_);rintro _ _ ⟨rfl,n,x,rfl,hx⟩;rcases x with _|⟨t',y⟩
 .simp only at hx
  have hb:=atoiAll_bounds hx;repeat' (first|apply qq|apply qh|apply qj|apply ql|apply qi|(apply zg;exact rfl;exact rfl)|(apply qv;(iterate 3 exact rfl))|(apply jo;(iterate 3 exact rfl))|(apply qx;(iterate 4 exact rfl))|(apply wc;exact cAo)|(apply wg;exact cAo)|(apply qet;exact cRa)|(apply qa8;exact cRa)|(apply jn<;>intro h)|(apply qk;exact rfl;apply w7;exact cAo)|(apply qk;exact rfl;apply wt;exact cAo)|(apply qk;exact rfl;apply pk_t;exact cRa)|(apply qk;exact rfl;apply pk_f;exact cRa)|(apply qe;exact rfl;apply cd_t;exact cRa)|(apply qe;exact rfl;apply cd_d<;>intro h)|(apply wd;exact rfl;exact rfl)|apply qz|apply qw|(apply qm;exact Tryz.call54;exact qlb _ _ Om Om))
  all_goals refine qo rfl (q7 rfl) ⟨congrArg Iv (?_:_=_),_,rfl⟩
  all_goals rw[qw9 hx]
  .rw[if_neg (by simp_all)]
  .rw[if_neg Om]
  .rw[if_neg Om]
  .rw[if_pos ⟨Classical.not_not.1 (by assumption),Om,Om⟩]
 .simp only at hx
  repeat' (first|apply qq|apply qh|apply qj|apply ql|apply qi|(apply zg;exact rfl;exact rfl)|(apply qx;(iterate 4 exact rfl))|(apply qa8;exact cRa)|(apply qk;exact rfl;apply pk_t;exact cRa)|(apply qe;exact rfl;apply cd_t;exact cRa)|(apply xj;exact rfl;exact rfl)|apply qw)
  refine qo rfl (q7 rfl) ⟨congrArg Iv (?_:_=_),_,rfl⟩;rw[q5r hx];rfl
theorem zjg(l:List UInt8)(st:List AObj)(hl:l.length<4294967281):qr E 162 [Sv l] st λr st'=>r=.tu [Iv (jh l).1,Sv (jh l).2.1,Bv (jh l).2.2]∧st'=st:=by
 refine q5 (qcu _ _ _) (qs Tryz.func162 rfl (Qa rfl) ?_);have r6:=qf9 l zf;have t6:=vk 32 (Lib.trimPrefix l zf);have gb:=vl 32 (Lib.trimPrefix l zf);repeat' (first|apply qq|apply qh|apply qj|apply ql|apply qi|(apply zg;exact rfl;exact rfl)|(apply qv;(iterate 3 exact rfl))|(apply jo;(iterate 3 exact rfl))|(apply qx;(iterate 4 exact rfl))|(apply xf;exact cAo)|(apply xu;exact cAo)|(apply qaa;exact cRa)|(apply xq;exact cRa)|(apply jn<;>intro h)|(apply qgd<;>intro h)|(apply qk;exact rfl;apply w7;exact cAo)|(apply qk;exact rfl;apply wt;exact cAo)|(apply qk;exact rfl;apply pk_t;exact cRa)|(apply qk;exact rfl;apply pk_f;exact cRa)|(apply zu;(iterate 3 exact rfl))|apply qw|(apply qm;exact Tryz.call219;exact qfx l zf _)|(apply qm;exact Tryz.call110;exact qk1 (Lib.trimPrefix l zf) 32 _ Om)|(apply qm;exact Tryz.call220;exact q5s (upto 32 (Lib.trimPrefix l zf)) _ Om)|(apply qm;exact Tryz.call215;exact qzl _ _ _ Om rfl rfl))
 all_goals refine qo rfl (yo rfl) ⟨zow (?_:_=_),_,rfl⟩
 all_goals simp only[jh,Zu,true_and]
 all_goals clear r6 t6 gb
 all_goals have c3:(2:Int)<=↑(kz (upto 32 (Lib.trimPrefix l zf)))↔2<=kz (upto 32 (Lib.trimPrefix l zf)):=Om
 all_goals have c4:(↑(past 32 (Lib.trimPrefix l zf)).length:Int)=8↔(past 32 (Lib.trimPrefix l zf)).length=8:=Om
 all_goals simp only[c3,c4,qju,q12]at *
 all_goals clear c3 c4
 all_goals simp_all
 all_goals first|(intros;omega)|skip
theorem zfs(l:List UInt8)(st:List AObj)(hl:l.length<4294967281):qr E 161 [Sv l] st λr st'=>r=Bv (yh l)∧st'=st:=by
 refine q5 (qt _) (qs Tryz.func161 rfl (Qa rfl) ?_);have r6:=qf9 l zf;have t6:=vk 32 (Lib.trimPrefix l zf);have gb:=vl 32 (Lib.trimPrefix l zf);repeat' (first|apply qq|apply q6|apply qh|apply qj|apply ql|apply qi|(apply zg;exact rfl;exact rfl)|(apply qv;(iterate 3 exact rfl))|(apply jo;(iterate 3 exact rfl))|(apply ja;exact rfl)|(apply qx;(iterate 4 exact rfl))|(apply xf;exact cAo)|(apply xu;exact cAo)|(apply jn<;>intro h)|(apply qk;exact rfl;apply w7;exact cAo)|(apply qk;exact rfl;apply wt;exact cAo)|(apply qe;exact rfl;apply v8;exact cAo)|(apply qe;exact rfl;apply cd_n<;>intro h)|(apply qe;exact rfl;apply cd_f;exact cRa)|(apply qe;exact rfl;apply cd_d<;>intro h)|(apply zu;(iterate 3 exact rfl))|apply qz|apply qw|(apply qm;exact Tryz.call219;exact qfx l zf _)|(apply qm;exact Tryz.call155;exact qfz _ _ _)|(apply qm;exact Tryz.call110;exact qk1 (Lib.trimPrefix l zf) 32 _ Om)|(apply qm;exact Tryz.call220;exact q5s (upto 32 (Lib.trimPrefix l zf)) _ Om)|(apply qm;exact Tryz.call215;exact qzl _ _ _ Om rfl rfl))
 all_goals refine qo rfl (q7 rfl) ⟨congrArg Bv (?_:_=_),_,rfl⟩
 all_goals clear r6 t6 gb
 all_goals by_cases hp:zf<+:l
 all_goals have c1:(↑(kz (upto 32 (Lib.trimPrefix l zf))):Int)<2↔kz (upto 32 (Lib.trimPrefix l zf))<2:=Om
 all_goals have c2:(↑(kz (upto 32 (Lib.trimPrefix l zf))):Int)=0↔kz (upto 32 (Lib.trimPrefix l zf))=0:=Om
 all_goals have c4:(↑(past 32 (Lib.trimPrefix l zf)).length:Int)<=8↔(past 32 (Lib.trimPrefix l zf)).length<=8:=Om
 all_goals simp only[c1,c2,c4,qju,q12]at *
 all_goals clear c1 c2 c4
 all_goals try (have e:Lib.trimPrefix l zf=l.drop 7:=qea hp;simp only[e]at *)
 all_goals unfold yh
 all_goals first|rw[if_pos hp]|rw[if_neg hp]
 all_goals simp_all
 all_goals first|exact Iff.rfl|(intros;omega)|skip
theorem zjm(l:List UInt8)(n:Int)(st:List AObj)(hl:l.length<4294967281):qr E 163 [Sv l,Iv n] st λr st'=>r=Iv (yl l n)∧st'=st:=by
 refine q5 (qt _) (qs Tryz.func163 rfl (Qa rfl) ?_);repeat' (first|apply qq|apply qh|apply qj|apply ql|apply qi|(apply qv;(iterate 3 exact rfl))|(apply jo;(iterate 3 exact rfl))|(apply ja;exact rfl)|(apply qx;(iterate 4 exact rfl))|(apply wc;exact cAo)|(apply wg;exact cAo)|(apply qaw;(iterate 4 exact rfl))|(apply qaj;exact cRa)|(apply qbp;exact cRa)|(apply qhr<;>intro h)|(apply qaa;exact cRa)|(apply xq;exact cRa)|(apply jn<;>intro h)|(apply qgd<;>intro h)|(apply qk;exact rfl;apply w7;exact cAo)|(apply qk;exact rfl;apply wt;exact cAo)|(apply qk;exact rfl;apply qi4;exact cRa)|(apply qk;exact rfl;apply qfi;exact cRa)|(apply qk;exact rfl;apply pk_t;exact cRa)|(apply qk;exact rfl;apply pk_f;exact cRa)|(apply qe;exact rfl;apply cd_t;exact cRa)|(apply qe;exact rfl;apply cd_f;exact cRa)|(apply qe;exact rfl;apply cd_d<;>intro h)|apply qz|apply qw|(apply qm;exact Tryz.call146;exact qtg _ _ _ Om)|(apply qm;exact Tryz.call147;exact qwy _ _ hl))
 all_goals refine qo rfl (q7 rfl) ⟨congrArg Iv (?_:_=_),_,rfl⟩
 all_goals simp_all[yl,qjv]
theorem zi2(n:Int)(st:List AObj):qr E 165 [Iv n] st λr st'=>r=Iv (qeg n)∧st'=st:=by
 refine q5 (qt _) (qs Tryz.func165 rfl (Qa rfl) ?_);by_cases hr:n<2∨50000<n
 .skip
  repeat' (first|apply qq|apply qh|apply qj|apply ql|apply qi|(apply qv;(iterate 3 exact rfl))|(apply qx;(iterate 4 exact rfl))|(apply wc;exact cAo)|(apply wg;exact cAo)|(apply jn<;>intro h)|(apply qk;exact rfl;apply w7;exact cAo)|(apply qk;exact rfl;apply wt;exact cAo)|(apply qe;exact rfl;apply vo;exact cAo)|(apply qe;exact rfl;apply cd_t;exact cRa)|apply qw)
  all_goals refine qo rfl (q7 rfl) ⟨congrArg Iv (?_:_=_),_,rfl⟩
  all_goals first|exact(if_pos hr).symm|omega
 .obtain⟨k,rfl⟩:=Int.eq_ofNat_of_zero_le (by omega:0<=n)
  have h1:=qbl k Om;have h2:=qdk k (Lib.repeatL [48] 8);have h3:=qbb k;have h4:(Lib.repeatL [48] 8).length=8:=by decide
  repeat' (first|apply qq|apply qh|apply qj|apply ql|apply qi|(apply qv;(iterate 3 exact rfl))|(apply qx;(iterate 4 exact rfl))|(apply wc;exact cAo)|(apply qk;exact rfl;apply wt;exact cAo)|(apply qe;exact rfl;apply v8;exact cAo)|(apply zu;(iterate 3 exact rfl))|(apply zo;exact rfl;exact rfl;exact q8 Om Om)|apply qz|apply qw|(apply qm;exact Tryz.call222;exact zj4 [48] 8 _ Om (by decide))|(apply qm;exact Tryz.call106;exact ze4 k _ _ Om (by decide))|(apply qm;exact Tryz.call109;exact q68 k _ Om))
  refine qo rfl (q7 rfl) ⟨congrArg Iv (?_:_=_),_,rfl⟩;unfold qeg;rw[if_neg hr,<-rep8];rfl
def qcn(x:BitVec 32):BitVec 32:=if x&&& 2147483648#32≠0#32 then(x<<<1)^^^79764919#32 else x<<<1
def x5:Nat->BitVec 32->BitVec 32
 |0,x=>x
 |n+1,x=>qcn (x5 n x)
theorem zo9(x:BitVec 32)(st:List AObj):qr E 243 [Wv x] st λr st'=>r=Wv (x5 4 (x<<<28))∧st'=st:=by
 refine q5 (qt _) (qs Tryz.func243 rfl (Qa rfl) ?_);repeat' (first|apply qq|apply q6|apply qh|apply qj|apply ql|apply qi|(apply qe6;(iterate 3 exact rfl)))
 refine jt (λ(k:Nat)s=>k<=4∧StA [(3,Wv (x5 k (x<<<28))),(6,Iv k)] (st++[]) [] s) (λk=>4-k) 0 ⟨Om,z7 ⟨rfl,rfl,trivial⟩⟩ ?_;rintro k _ ⟨hk,t,rfl⟩;repeat' (first|apply qq|apply q6|apply qh|apply qj|apply ql|apply qi|(apply qv;(iterate 3 exact rfl))|(apply qe;exact rfl;apply cd_d<;>intro h)|(apply zo;exact rfl;exact rfl;exact q8 Om Om)|(apply qdy;exact rfl;exact rfl;(first|exact jg _|exact rfl);first|exact jg _|exact rfl)|(apply qj3;exact rfl;exact rfl;(first|exact jg _|exact rfl);first|exact jg _|exact rfl)|(apply qe6;(iterate 3 exact rfl))|apply qz|apply jd|apply qw)
 .refine⟨k+1,⟨Om,z7 ⟨?_,rfl,trivial⟩⟩,Om⟩
  refine congrArg Wv (?_:_=qcn _);unfold qcn;rw[if_pos (λe=>by rename_i h;exact h ((qx5 _).2 e))];rfl
 .refine⟨k+1,⟨Om,z7 ⟨?_,rfl,trivial⟩⟩,Om⟩
  refine congrArg Wv (?_:_=qcn _);unfold qcn;rw[if_neg (λe=>by rename_i h;exact h (λh'=>e ((qx5 _).1 h')))]
 .have e:k=4:=by omega
  subst e;exact qo rfl (q7 rfl) ⟨rfl,_,rfl⟩
def rowT(i:Nat):BitVec 32:=x5 4 (BitVec.ofNat 32 i<<<28)
def tabA(k:Nat):List AV:=(Qr 16).map λi=>if i<k then Wv (rowT i)else .v (.int .u32 0)
theorem q87(k:Nat):(tabA k).length=16:=by simp[tabA]
theorem zg4{k:Nat}(h:k<16):(tabA k).set k (Wv (rowT k))=tabA (k+1):=by
 apply List.ext_getElem
 .simp[tabA]
 .intro i h1 h2
  simp only[tabA,List.length_map,List.length_range]at h2;rw[List.getElem_set];by_cases e:k=i
  .subst e
   simp[tabA]
  .rw[if_neg e]
   simp only[tabA,List.getElem_map,List.getElem_range];by_cases hi:i<k
   .rw[if_pos hi,if_pos Om]
   .rw[if_neg hi,if_neg Om]
theorem zkm{i:Nat}(h:i<16):(tabA 16)[i]?=some (Wv (rowT i)):=by
 simp[tabA,h]
theorem zop(st:List AObj):qr E 206 [] st λr st'=>r=.ag (tabA 16)∧st'=st:=by
 refine q5 (qnw (λx hx=>?_)) (qs Tryz.func206 rfl (Qa rfl) ?_)
 .simp only[tabA,List.mem_map]at hx
  obtain⟨i,_,rfl⟩:=hx;split <;>exact qt _
 repeat' (first|apply qq|apply q6|apply qh|apply qj|apply ql|(apply j7;exact rfl;exact rfl))
 refine jt (λ(k:Nat)s=>k<=16∧StA [(0,.bx (st.length+0) 0 0),(2,Iv k)] (st++[.cells 0 290 (tabA k)]) [] s) (λk=>16-k) 0 ⟨Om,qdr ⟨rfl,rfl,trivial⟩ (by show st++[AObj.cells 0 _ _]=_;rfl)⟩ ?_;rintro k _ ⟨hk,t,rfl⟩;have d5:=q87 k;repeat' (first|apply qq|apply q6|apply qh|apply qj|apply ql|apply qi|(apply qv;(iterate 3 exact rfl))|(apply qe;exact rfl;apply cd_d<;>intro h)|(apply zo;exact rfl;exact rfl;exact q8 Om Om)|(apply jr;(iterate 5 exact rfl))|(apply qch;(iterate 4 exact rfl);first|assumption|omega|decide)|apply qz|apply jd|(apply qm;exact Tryz.call243;exact zo9 _ _)|(apply qvq;(iterate 3 exact rfl);omega)|(apply qyf;(iterate 9 exact rfl);(show 0+k*1+1<=_;omega);exact rfl))
 .refine⟨k+1,⟨Om,qdr ⟨rfl,rfl,trivial⟩ ?_⟩,Om⟩
  show st++[AObj.cells 0 _ (z6 (tabA k) (0+k*1) [Wv (rowT k)])]=_
  rw[Zp,Zq,zdd Om,zg4 Om]
 .have e:k=16:=by omega
  subst e;repeat' (first|apply qj|(apply jc;(iterate 11 exact rfl))|apply qw)
  exact qo rfl (qyj rfl rfl rfl rfl rfl rfl) ⟨rfl,_,rfl⟩
def crcN(x:BitVec 32)(n:Nat):BitVec 32:=(x<<<4)^^^rowT ((x>>>28)^^^BitVec.ofNat 32 n).toNat
def crcP(x:BitVec 32)(c:UInt8):BitVec 32:=crcN (crcN x (c.toNat / 16)) (c.toNat%16)
def addP(s:BitVec 32)(l:List UInt8):BitVec 32:= ~~~ (l.foldl crcP (~~~ s))
def q2x(y:BitVec 32)(c:UInt8):Nat->BitVec 32
 |0=>y
 |1=>crcN y (c.toNat / 16)
 |_=>crcP y c
theorem zfi(x:BitVec 32){n:Nat}(h:n<16):((x>>>28)^^^BitVec.ofNat 32 n).toNat<16:=by
 rw[BitVec.toNat_xor];refine Nat.xor_lt_two_pow (n:=4) ?_ ?_
 .rw[BitVec.toNat_ushiftRight,Qs]
  have:=x.isLt;omega
 .rw[BitVec.toNat_ofNat]
  omega
theorem q67{n:Nat}(h:n<16):kf 1 false (0+n*1) (tabA 16)=some (Wv (rowT n)):=by
 rw[Zp,Zq];exact zkm h
theorem zo1(x:BitVec 32)(l:List UInt8)(st:List AObj)(hl:l.length<4294967281):qr E 149 [Wv x,Sv l] st λr st'=>r=Wv (addP x l)∧st'=st:=by
 refine q5 (qt _) (qs Tryz.func149 rfl (Qa rfl) ?_);repeat' (first|apply qq|apply q6|apply qh|apply qj|apply ql|apply qi|(apply zu;(iterate 3 exact rfl))|(apply j7;exact rfl;exact rfl)|(apply jc;(iterate 11 exact rfl))|(apply qhg;exact rfl)|(apply qm;exact Tryz.call206;exact zop _))
 refine jt (λ(k:Nat)s=>k<=l.length∧StA [(1,Sv l),(5,.bx (st.length+0) 0 0),(6,Wv ((l.take k).foldl crcP (~~~ x))),(14,Iv l.length),(15,Iv k)] (st++[.cells 0 290 (tabA 16)]) [] s) (λk=>l.length-k) 0 ⟨Om,qdr ⟨rfl,rfl,rfl,rfl,rfl,trivial⟩ (by show st++[AObj.cells 0 _ _]=_;rfl)⟩ ?_;rintro k _ ⟨hk,t,rfl⟩;generalize hx:(l.take k).foldl crcP (~~~ x)=y;have hc:=UInt8.toNat_lt (l.getD k 0);repeat' (first|apply qq|apply q6|apply qh|apply qj|apply ql|apply qi|(apply qv;(iterate 3 exact rfl))|(apply qe;exact rfl;apply cd_d<;>intro h)|(apply qhg;exact rfl)|(apply qky;exact rfl;kernel_rfl)|apply qjf|(apply q3r;(iterate 3 exact rfl);exact cAs)|(apply qyh;exact rfl;exact rfl)|(apply qt5;exact rfl;exact rfl)|(apply qt7;(iterate 3 exact rfl);omega)|(apply qqe;(iterate 3 exact rfl))|apply qgq|apply qz|apply jd|apply qw)
 .generalize sf:l.getD k 0=c at *
  refine jt (λ(j:Nat)s=>j<=2∧StA [(1,Sv l),(5,.bx (st.length+0) 0 0),(6,Wv (q2x y c j)),(14,Iv l.length),(15,Iv k),(28,.ag [Wv (BitVec.ofNat 32 (c.toNat / 16)),Wv (BitVec.ofNat 32 (c.toNat%16))]),(29,Iv j)] (st++[.cells 0 290 (tabA 16)]) [] s) (λj=>2-j) 0 ⟨Om,qdr ⟨rfl,rfl,rfl,rfl,rfl,rfl,rfl,trivial⟩ rfl⟩ ?_;rintro j _ ⟨hj,t2,rfl⟩;have hj3:j=0∨j=1∨j=2:=Om
  have hn1:=zfi (q2x y c j) (n:=c.toNat / 16) Om;have nz:=zfi (q2x y c j) (n:=c.toNat%16) Om;generalize hz:q2x y c j=z at hn1 nz⊢;rcases hj3 with rfl|rfl|rfl
  .skip
   repeat' (first|apply qq|apply q6|apply qh|apply qj|apply ql|apply qi|(apply qv;(iterate 3 exact rfl))|(apply qe;exact rfl;apply vo;exact cAo)|(apply zo;exact rfl;exact rfl;exact q8 Om Om)|(apply qdy;exact rfl;exact rfl;(first|exact jg _|exact rfl);first|exact jg _|exact rfl)|(apply qe6;(iterate 3 exact rfl))|(apply qhi;(iterate 3 exact rfl))|(apply qio;(iterate 4 exact rfl);(first|assumption|omega|decide);exact rfl)|(apply qch;(iterate 4 exact rfl);first|assumption|omega|decide)|apply qz|(apply jr;(iterate 4 exact rfl);exact q67 hn1))
   subst hz;exact⟨1,⟨Om,qdr ⟨rfl,rfl,rfl,rfl,rfl,rfl,rfl,trivial⟩ rfl⟩,Om⟩
  .skip
   repeat' (first|apply qq|apply q6|apply qh|apply qj|apply ql|apply qi|(apply qv;(iterate 3 exact rfl))|(apply qe;exact rfl;apply vo;exact cAo)|(apply zo;exact rfl;exact rfl;exact q8 Om Om)|(apply qdy;exact rfl;exact rfl;(first|exact jg _|exact rfl);first|exact jg _|exact rfl)|(apply qe6;(iterate 3 exact rfl))|(apply qhi;(iterate 3 exact rfl))|(apply qio;(iterate 4 exact rfl);(first|assumption|omega|decide);exact rfl)|(apply qch;(iterate 4 exact rfl);first|assumption|omega|decide)|apply qz|(apply jr;(iterate 4 exact rfl);exact q67 nz))
   subst hz;exact⟨2,⟨Om,qdr ⟨rfl,rfl,rfl,rfl,rfl,rfl,rfl,trivial⟩ rfl⟩,Om⟩
  .skip
   repeat' (first|apply qq|apply qh|apply qj|apply ql|(apply qv;(iterate 3 exact rfl))|(apply qe;exact rfl;apply v8;exact cAo)|(apply zo;exact rfl;exact rfl;exact q8 Om Om)|apply jd)
   subst hz;refine⟨k+1,⟨Om,qdr ⟨rfl,rfl,?_,rfl,rfl,trivial⟩ rfl⟩,Om⟩;refine congrArg Wv (?_:crcP y c=_);rw[qbw Om,List.foldl_append,hx,sf];rfl
 .have e:k=l.length:=by omega
  subst e;refine qo rfl (q7 rfl) ⟨congrArg Wv (?_:_=_),_,rfl⟩;unfold addP;rw[<-hx,Qj]
theorem zg3(l:List UInt8)(st:List AObj)(hl:l.length<4294967281):qr E 108 [.sl 1 [Sv l] none] st λr st'=>r=Wv (addP 0 l)∧st'=st:=by
 refine q5 (qt _) (qs Tryz.func108 rfl (Qa rfl) ?_);repeat' (first|apply qq|apply q6|apply qh|apply qj|apply ql|apply qi|(apply jp;(iterate 4 exact rfl)))
 refine jt (λ(k:Nat)s=>k<=1∧StA [(3,Wv (if k=0 then 0 else addP 0 l)),(6,.sl 1 [Sv l] none),(7,Iv 1),(8,Iv k)] (st++[]) [] s) (λk=>1-k) 0 ⟨Om,qdr ⟨rfl,rfl,rfl,rfl,trivial⟩ rfl⟩ ?_;rintro k _ ⟨hk,t,rfl⟩;have s4:k=0∨k=1:=Om
 rcases s4 with rfl|rfl
 .skip
  repeat' (first|apply qq|apply q6|apply qh|apply qj|apply ql|apply qi|(apply qv;(iterate 3 exact rfl))|(apply qe;exact rfl;apply vo;exact cAo)|(apply zo;exact rfl;exact rfl;exact q8 Om Om)|(apply jq;(iterate 3 exact rfl))|apply qz|(apply kp;(iterate 4 exact rfl);exact(rfl:(0:Int)=((0:Nat):Int));exact rfl)|(apply qm;exact Tryz.call149;exact zo1 0 _ _ hl))
  exact⟨1,⟨Om,qdr ⟨rfl,rfl,rfl,rfl,trivial⟩ rfl⟩,Om⟩
 .skip
  repeat' (first|apply qq|apply qh|apply qj|apply ql|apply qi|(apply qv;(iterate 3 exact rfl))|(apply qe;exact rfl;apply v8;exact cAo)|apply jd|apply qw)
  exact qo rfl (q7 rfl) ⟨rfl,_,rfl⟩
def figP(s:BitVec 32)(j:Nat):UInt8:=[48,49,50,51,52,53,54,55,56,57,97,98,99,100,101,102].getD ((s>>>(4*(7-j)))&&& BitVec.ofInt 32 15).toNat 0
def x3(s:BitVec 32)(n:Nat):List UInt8:=(Qr n).map (figP s)
theorem q0r(x:BitVec 32)(st:List AObj):qr E 107 [Wv x] st λr st'=>r=Sv (x3 x 8)∧st'=st:=by
 refine q5 (qt _) (qs Tryz.func107 rfl (Qa rfl) ?_);repeat' (first|apply qq|apply q6|apply qh|apply qj|apply qi|(apply j7;exact rfl;exact rfl))
 refine qs2 (o:=st.length+0) (j:=1) (sz:=1) (T':=5) (j9 rfl) rfl ?_
 refine jt (λ(j:Nat)s=>j<=8∧∃q,(q=.v (.pointer none)∨q=.bx (st.length+0) 0 0)∧StA [(0,Wv x),(3,.bx (st.length+0) 0 0),(4,Iv (7-(j:Int)))] (st++[bldO 0 q (x3 x j) (st.length+1),.tip (x3 x j).length 1 5]) [] s) (λj=>8-j) 0
  ⟨Om,_,.inl rfl,qdr ⟨rfl,rfl,rfl,trivial⟩ ?_⟩ ?_
 .show(st++[_]).set (st.length+0) (.cells 0 194 [_,.sl 1 [] (some (st++[_]).length)])++[_]=_
  rw[y4,Qb];simp[x3]
 rintro j _ ⟨hj,q,hq,t,rfl⟩;have hf:(x3 x j).length=j:=by simp[x3]
 repeat' (first|apply qq|apply q6|apply qh|apply qj|apply ql|apply qi|(apply qv;(iterate 3 exact rfl))|(apply qe;exact rfl;apply cd_d<;>intro h)|(apply ww;exact rfl;exact rfl;exact q8 Om Om)|(apply qj3;exact rfl;exact rfl;(first|exact jg _|exact rfl);first|exact jg _|exact rfl)|apply qz|apply jd|apply qw|(apply qh7;exact rfl;exact rfl;exact q8 Om Om)|(apply q7p (n:=4*(7-j));exact rfl;exact rfl;omega;omega)|(apply wm;(iterate 3 exact rfl);exact and15_lt _)|(refine qm Tryz.call148 (zd5 st _ _ 0 1 0 _ _ _ rfl rfl ?_ ?_ rfl) ?_;exact hq;omega)|(refine qm Tryz.call104 (qs3 st _ _ 0 1 0 _ _ rfl rfl rfl) ?_))
 .have e1:x3 x j++[figP x j]=x3 x (j+1):=by simp[x3,List.range_succ]
  refine⟨j+1,⟨Om,_,.inr rfl,qdr ⟨rfl,rfl,congrArg Iv (by omega:(7-(j:Int))-1=7-((j+1:Nat):Int)),trivial⟩ ?_⟩,Om⟩
  show st++[bldO 0 _ (x3 x j++[figP x j]) (st.length+1),.tip (x3 x j++[figP x j]).length 1 5]=_
  rw[e1]
 .have e:j=8:=by omega
  subst e;exact qo rfl (q7 rfl) ⟨rfl,_,rfl⟩
def sumF(l:List UInt8):List UInt8:=x3 (addP 0 l) 8
theorem qja(l:List UInt8):(sumF l).length=8:=by simp[sumF,x3]
theorem is_c(f l:List UInt8)(st:List AObj)(hl:l.length<4294967281):qr E 221 [Sv f,.sl 1 [Sv l] none] st λr st'=>r=Bv (decide (f=sumF l))∧st'=st:=by
 refine q5 (qt _) (qs Tryz.func221 rfl (Qa rfl) ?_);repeat' (first|apply qq|apply qh|apply qj|apply ql|apply qi|(apply jo;(iterate 3 exact rfl))|apply qw|(apply qm;exact Tryz.call108;exact zg3 l _ hl)|(apply qm;exact Tryz.call107;exact q0r _ _))
 exact qo rfl (q7 rfl) ⟨rfl,_,rfl⟩
def xo(rest body sums:List UInt8)(size:Int):Int×List UInt8×Int:=
 if rest.length<(qae body.length).length∧rest<+:qae body.length then(2,[],0)
 else if qae body.length<+:rest∧sums=sumF body then(1,body,size)else(3,[],0)
theorem zh6(rest body sums:List UInt8)(size:Int)(st:List AObj)(hb:body.length<4294967281):qr E 164 [Sv rest,Sv body,Sv sums,Iv size] st λr st'=>r=.tu [Iv (xo rest body sums size).1,Sv (xo rest body sums size).2.1,Iv (xo rest body sums size).2.2]∧st'=st:=by
 refine q5 (qcu _ _ _) (qs Tryz.func164 rfl (Qa rfl) ?_);repeat' (first|apply qq|apply q6|apply qh|apply qj|apply ql|apply qi|(apply qv;(iterate 3 exact rfl))|(apply qx;(iterate 4 exact rfl))|(apply xf;exact cAo)|(apply xu;exact cAo)|(apply qaa;exact cRa)|(apply xq;exact cRa)|(apply jn<;>intro h)|(apply qgd<;>intro h)|(apply qk;exact rfl;apply w7;exact cAo)|(apply qk;exact rfl;apply wt;exact cAo)|(apply qk;exact rfl;apply pk_t;exact cRa)|(apply qk;exact rfl;apply pk_f;exact cRa)|(apply qe;exact rfl;apply cd_f;exact cRa)|(apply qe;exact rfl;apply cd_d<;>intro h)|(apply qe;exact rfl;apply cd_s<;>intro h)|(apply zu;(iterate 3 exact rfl))|(apply we;(iterate 9 exact rfl))|apply qz|apply qw|(apply qm;exact Tryz.call109;exact q68 body.length _ Om)|(apply qm;exact Tryz.call155;exact qfz _ _ _)|(apply qm;exact Tryz.call221;exact is_c sums body _ hb))
 all_goals refine qo rfl (yo rfl) ⟨qx7 (?_:_=_),_,rfl⟩
 all_goals show _=xo rest body sums size
 all_goals
  have c1:(↑rest.length:Int)< ↑(qae body.length).length↔rest.length<(qae body.length).length:=Om
  simp only[c1,qju,decide_eq_true_eq,decide_eq_false_iff_not]at *;simp_all[xo]<;>(intros;omega)
theorem zhy(l:List UInt8)(st:List AObj)(hl:l.length<4294967281):qr E 114 [Sv l] st λr st'=>r=Bv (decide (l.head?=some 37∧qy l=5))∧st'=st:=by
 refine q5 (qt _) (qs Tryz.func114 rfl (Qa rfl) ?_);repeat' (first|apply qq|apply qh|apply qj|apply ql|apply qi|(apply qv;(iterate 3 exact rfl))|(apply qx;(iterate 4 exact rfl))|(apply xf;exact cAo)|(apply xu;exact cAo)|(apply jn<;>intro h)|(apply qk;exact rfl;apply w7;exact cAo)|(apply qk;exact rfl;apply wt;exact cAo)|apply qw|(apply qm;exact Tryz.call155;exact qhs _ _ _)|(apply qm;exact Tryz.call156;exact qnq _ _ hl))
 all_goals refine qo rfl (q7 rfl) ⟨congrArg Bv (?_:_=_),_,rfl⟩
 all_goals simp_all
def zi(l:List UInt8):Int×List UInt8×Int:=
 if 10∈l then
  if(jh (upto 10 l)).2.2=true then
   if(past 10 l).length<(jh (upto 10 l)).1 then(yl (past 10 l) ((jh (upto 10 l)).1-(past 10 l).length),[],0)
   else if yr ((past 10 l).take (jh (upto 10 l)).1)then xo ((past 10 l).drop (jh (upto 10 l)).1) ((past 10 l).take (jh (upto 10 l)).1) (jh (upto 10 l)).2.1 (qeg (jh (upto 10 l)).1)
   else(3,[],0)
  else(3,[],0)
 else if yh l=true then(2,[],0)else(3,[],0)
theorem zol(l:List UInt8)(st:List AObj)(hl:l.length<4294967281):qr E 117 [Sv l] st λr st'=>r=.tu [Iv (zi l).1,Sv (zi l).2.1,Iv (zi l).2.2]∧st'=st:=by
 refine q5 (qcu _ _ _) (qs Tryz.func117 rfl (Qa rfl) ?_);have t6:=vk 10 l;have gb:=vl 10 l;have hn:(jh (upto 10 l)).1<=50000:=qa3 _;repeat' (first|apply qq|apply q6|apply qh|apply qj|apply ql|apply qi|(apply zg;exact rfl;exact rfl)|(apply qv;(iterate 3 exact rfl))|(apply ja;exact rfl)|(apply qe;exact rfl;apply cd_n<;>intro h)|(apply qe;exact rfl;apply cd_d<;>intro h)|(apply qe;exact rfl;apply cd_s<;>intro h)|(apply zu;(iterate 3 exact rfl))|(apply ww;exact rfl;exact rfl;exact q8 Om Om)|(apply qbt;(iterate 3 exact rfl);exact cAs)|(apply qky;exact rfl;kernel_rfl)|apply qjf|apply qgq|apply qjd|(apply qr9;(iterate 3 exact rfl);exact cAs)|(apply qr8;(iterate 3 exact rfl);exact cAs)|(apply qn8;exact rfl;exact rfl)|apply qz|apply qw|(apply qm;exact Tryz.call110;exact qk1 l 10 _ hl)|(apply qm;exact Tryz.call161;exact zfs _ _ hl)|(apply qm;exact Tryz.call162;exact zjg (upto 10 l) _ Om)|(apply qm;exact Tryz.call163;exact zjm _ _ _ Om)|(apply qm;exact Tryz.call105;exact ze0 ((past 10 l).take (jh (upto 10 l)).1) _ So)|(refine q9d (vals:=[.int .i64 (jh (upto 10 l)).1]) E_ok Tryz.call165 rfl (qlo _) (λ_=>.v _) (zi2 _ _) ?_)|(refine q9d (vals:=[.string ⟨((past 10 l).drop (jh (upto 10 l)).1).toArray⟩,.string ⟨((past 10 l).take (jh (upto 10 l)).1).toArray⟩,.string ⟨(jh (upto 10 l)).2.1.toArray⟩,.int .i64 (qeg (jh (upto 10 l)).1)]) E_ok Tryz.call164 rfl zkl (λ_=>qy7 (.v _) (.v _) (.v _)) (zh6 _ _ _ _ _ So) ?_))
 all_goals refine qo rfl (yo rfl) ⟨qx7 (?_:_=zi l),_,rfl⟩
 all_goals
  have c1:(↑(past 10 l).length:Int)< ↑(jh (upto 10 l)).1↔(past 10 l).length<(jh (upto 10 l)).1:=Om
  simp only[c1,decide_eq_true_eq,decide_eq_false_iff_not]at *;clear c1 t6 gb hn hl
 .unfold zi;rw[if_neg (by assumption),if_pos (by assumption)]
 .unfold zi;rw[if_neg (by assumption),if_neg (by simp_all)]
 .unfold zi;rw[if_pos (by assumption),if_neg (by simp_all)]
 .unfold zi;rw[if_pos (by assumption),if_pos (by assumption),if_pos (by assumption)]
 .unfold zi;rw[if_pos (by assumption),if_pos (by assumption),if_neg (by assumption),if_neg (by assumption)]
 .unfold zi;rw[if_pos (by assumption),if_pos (by assumption),if_neg (by assumption),if_pos (by assumption)]
def recF(l:List UInt8):List UInt8:=qiz l.length (sumF l)++l++qae l.length
def q9v:AV:=.ifc 37 (.v (.int .i64 2))
def qg5(l:List UInt8):AV:=if yr l then .tu [Sv (recF l),.v .nilIface]else .tu [Sv [],q9v]
theorem q6c(l:List UInt8):Pure (qg5 l):=by
 unfold qg5;split
 .exact qmq _ _
 .exact qeh (by simp;exact⟨qt _,qd4 (qt _)⟩)
theorem zjy(l:List UInt8)(st:List AObj)(hl:l.length<4294967281):qr E 61 [Sv l] st λr st'=>r=qg5 l∧st'=st:=by
 refine q5 (q6c l) (qs Tryz.func61 rfl (Qa rfl) ?_);have h1:=qbl l.length Om;have h2:=qdk l.length (sumF l);have h3:=qbb l.length;have h4:=qja l;repeat' (first|apply qq|apply qh|apply qj|apply ql|apply qi|(apply ja;exact rfl)|(apply qe;exact rfl;apply cd_n<;>intro h)|(apply zu;(iterate 3 exact rfl))|(apply jy;exact rfl;exact rfl;exact cOs)|(apply vq;exact rfl;exact rfl)|(apply we;(iterate 9 exact rfl))|apply qz|apply qw|(apply qm;exact Tryz.call105;exact ze0 _ _ hl)|(apply qm;exact Tryz.call108;exact zg3 l _ hl)|(apply qm;exact Tryz.call107;exact q0r _ _)|(apply qm;exact Tryz.call106;exact ze4 l.length (sumF l) _ Om Om)|(apply qm;exact Tryz.call109;exact q68 l.length _ Om))
 .have e:AV.tu [Sv [],q9v]=qg5 l:=by unfold qg5;rw[if_neg (of_decide_eq_false (by assumption))]
  exact qo rfl (kw rfl) ⟨e,_,rfl⟩
 .have e:AV.tu [Sv (recF l),.v .nilIface]=qg5 l:=by unfold qg5;rw[if_pos (of_decide_eq_true (by assumption))]
  exact qo rfl (kw rfl) ⟨e,_,rfl⟩
end Go.Proofs.YtihlchbgjdkmpaaGreatDoor
