/- Contracts and plain facts that the closing text leans on (part 2). No condition of their own beyond those that each states. -/
import Derived.Test.YtmjmdjbdoiddeaaGreatDoorK1
import Derived.Lib.Builder
import Derived.Laws.Pointers
import Derived.Laws.Externs
import Derived.Laws.Tables
import Derived.Test.YtmjmdjbdoiddeaaGreatDoorK0
import Derived.Test.YtmjmdjbdoiddeaaGreatDoorRows
import Derived.LaidHandle
import Derived.ProofKit
import Derived.OpenShut
import Derived.ShutString
import Derived.Deep.DeepHandedRow
import Derived.Deep.DeepWitnessRowRef
import Derived.Lib.LaidU8
import Derived.Lib.SmallJoins
import Derived.ChangeSame
import Derived.ChangeAgain
import Derived.Lay
import Derived.Lib.Index
import Derived.Lib.SlTrimSet
import Derived.Shelf.Strings.Prefix
import Derived.Shelf.Strings.Cut
import Derived.Lib.ItoaNum
import Derived.Lib.AtoiAll
import Derived.Lib.Repeat
import Derived.Lib.SplitLaws
import Derived.Shelf.Strings.SplitShaped
set_option maxRecDepth 100000
set_option linter.unusedVariables false
set_option linter.unusedSimpArgs false
namespace Go.Av
open Go Go.RowKit
section
variable {E : Env} {rd : Option Nat} {N : Nat} {ops : Array Oper} {K : AS → Prop} {s : AS} {rest : List Oper} {d : Option Tmp} {T : TypeId} {p : String} {af : Array Edge}
def qz9:AV→Bool
 | .bx _ _ _=>true
 | .pp _=>true
 | _=>false
theorem zk {x:Operand} {r:AV} (hx:qh N s x=r) (hr:qz9 r=true) (h:AOps E rd N ops rest K (s.put d r)):AOps E rd N ops (⟨d,.nilCheck x,T,p,af,none⟩::rest) K s:=by
 refine q5 rfl (q6 nofun fun B0 w0 G a w _ hI=>?_)
 have he:=hI.eval_of hx
 have key:∃ q,a.eval x = .pointer (some q):=by
  generalize a.eval x=u at he
  cases he <;> simp [qz9] at hr
  ·exact⟨_,rfl⟩
  ·exact⟨_,rfl⟩
 obtain⟨q,hv⟩:=key
 refine⟨_,w,G,r,s.st,?_,.refl G,hI.agree,hv▸he,h⟩
 generalize a.eval = ρ at hv
 simp [execOp,hv]
end
section
variable {E : Env} {rd : Option Nat} {N : Nat} {ops : Array Oper} {K : AS → Prop} {s : AS} {rest : List Oper} {d : Option Tmp} {T : TypeId} {p : String} {af : Array Edge}
def qap:AV→Option Bool
 | .bx _ _ _=>some false
 | .pp _=>some false
 | .v (.pointer none)=>some true
 | _=>none
theorem zo {x:Operand} {t t' te:TypeId} {r:AV} {b:Bool} (hx:qh N s x=r) (hr:qap r=some b) (hu:E.P.underlying t=some (.pointer te)) (h:AOps E rd N ops rest K (s.put d (Bv b))):AOps E rd N ops (⟨d,.binOp .eql t x (.const (.pointer none)) t',T,p,af,none⟩::rest) K s:=by
 refine q5 rfl (q6 nofun fun B0 w0 G a w _ hI=>?_)
 have he:=hI.eval_of hx
 have key:∃ q:Option Addr,a.eval x = .pointer q∧q.isNone=b:=by
  generalize a.eval x=u at he
  cases he <;> try (simp [qap] at hr;done)
  case v=>
   cases u <;> try (simp [qap] at hr;done)
   case pointer q=>
    cases q <;> simp [qap] at hr
    subst hr
    exact⟨_,rfl,rfl⟩
  case pp=>simp [qap] at hr;subst hr;exact⟨_,rfl,rfl⟩
  case bx=>simp [qap] at hr;subst hr;exact⟨_,rfl,rfl⟩
 obtain⟨q,hv,rfl⟩:=key
 have hc:a.eval (.const (.pointer none)) = .pointer none:=rfl
 have hq:=run_eql_pointer_nil (P:=E.P) w t q (by simp [Program.pointee,hu])
 refine⟨_,w,G,_,s.st,?_,.refl G,hI.agree,.v _,h⟩
 generalize a.eval = ρ at hv hc
 simp [execOp,hv,hc,eqGuard_at_pointer,hq]
theorem z0 {x:Operand} {t t' te:TypeId} {r:AV} {b:Bool} (hx:qh N s x=r) (hr:qap r=some b) (hu:E.P.underlying t=some (.pointer te)) (h:AOps E rd N ops rest K (s.put d (Bv !b))):AOps E rd N ops (⟨d,.binOp .neq t x (.const (.pointer none)) t',T,p,af,none⟩::rest) K s:=by
 refine q5 rfl (q6 nofun fun B0 w0 G a w _ hI=>?_)
 have he:=hI.eval_of hx
 have key:∃ q:Option Addr,a.eval x = .pointer q∧q.isNone=b:=by
  generalize a.eval x=u at he
  cases he <;> try (simp [qap] at hr;done)
  case v=>
   cases u <;> try (simp [qap] at hr;done)
   case pointer q=>
    cases q <;> simp [qap] at hr
    subst hr
    exact⟨_,rfl,rfl⟩
  case pp=>simp [qap] at hr;subst hr;exact⟨_,rfl,rfl⟩
  case bx=>simp [qap] at hr;subst hr;exact⟨_,rfl,rfl⟩
 obtain⟨q,hv,rfl⟩:=key
 have hc:a.eval (.const (.pointer none)) = .pointer none:=rfl
 have hq:=run_neq_pointer_nil (P:=E.P) w t q (by simp [Program.pointee,hu])
 refine⟨_,w,G,_,s.st,?_,.refl G,hI.agree,.v _,h⟩
 generalize a.eval = ρ at hv hc
 simp [execOp,hv,hc,eqGuard_at_pointer,hq]
theorem Inv.restate {B0:Nat} {w0:World} {G G':Gh} {a:Act} {w:World} {st':List AObj} (h:Inv B0 w0 N G s a w) (hG:G.le G') (hA:zd B0 w0 G' st' w):Inv B0 w0 N G' ⟨s.t,st',s.df⟩ a w:=
 ⟨hA,h.defers_mono hG,h.size,fun i y hy=>(h.tmps i y hy).mono hG⟩
theorem Inv.newTip {B0:Nat} {w0:World} {G:Gh} {a:Act} {w:World} (h:Inv B0 w0 N G s a w) {i sz:Nat} {T':TypeId} (hi:s.t i=kg):Inv B0 w0 N (G.new 0 0 0 false) ⟨Av.put s.t i (.sl sz [] (some s.st.length)),s.st++[AObj.tip 0 sz T'],s.df⟩ a w:=by
 have hA:=h.agree.newTip sz T'
 have h2:=h.restate (G.le_new 0 0 0 false) hA
 refine⟨h2.agree,h2.defers,h2.size,fun k y hy=>?_⟩
 by_cases e:k=i
 ·subst e
  show Rel _ (Av.put s.t k _ k) y
  rw [x3]
  have:=h2.tmps k y hy
  simp only [hi] at this
  cases this
  exact .sl0 sz _ none 0 fun t ht=>by simp at ht;subst ht;exact⟨by rw [hA.n];simp,rfl,rfl⟩
 ·show Rel _ (Av.put s.t i _ k) y
  rw [y3 _ _ _ _ e]
  exact h2.tmps k y hy
theorem qk2 {i sz:Nat} {T':TypeId} {c:Code} {Q:Exit→AS→Prop} (hi:s.t i=kg)
  (h:AWp E rd N c Q ⟨Av.put s.t i (.sl sz [] (some s.st.length)),s.st++[AObj.tip 0 sz T'],s.df⟩):AWp E rd N c Q s:=
 ⟨fun B0 w0 G a w hL hI=>wpIn_mono (h.run B0 w0 _ a w hL (hI.newTip hi)) fun _ _ _ ⟨G',s',hG,h1,h2⟩=>⟨G',s',(G.le_new 0 0 0 false).trans hG,h1,h2⟩⟩
end
end Go.Av
namespace Go.Av
open Go Go.RowKit
theorem qpu:∀ (vs:List Value) (off n:Nat) (c:Array Value),off+n+vs.length≤c.size →
  ((vs.zipIdx n).foldl (fun (cs:Array Value) (x:Value×Nat)=>cs.setIfInBounds (off+x.2) x.1) c).size=c.size ∧
  ∀ k,((vs.zipIdx n).foldl (fun (cs:Array Value) (x:Value×Nat)=>cs.setIfInBounds (off+x.2) x.1) c)[k]? = if off+n≤k∧k<off+n+vs.length then vs[k - (off+n)]? else c[k]?
 | [],off,n,c,_=>⟨by simp,fun k=>by simp;intro h1 h2;omega⟩
 |v::vs,off,n,c,h=>by
  simp only [List.zipIdx_cons,List.foldl_cons,List.length_cons] at h ⊢
  obtain⟨h1,h2⟩:=qpu vs off (n+1) (c.setIfInBounds (off+n) v) (by simp;omega)
  refine⟨by rw [h1];simp,fun k=>?_⟩
  rw [h2 k]
  by_cases hk:k=off+n
  ·subst hk
   rw [if_neg (by omega),if_pos (by omega),Array.getElem?_setIfInBounds_self,if_pos (by omega)]
   simp
  ·by_cases hr:off+n≤k∧k<off+n+(vs.length+1)
   ·rw [if_pos (by omega),if_pos hr]
    rw [show k - (off+n)=(k - (off+(n+1)))+1 by omega]
    simp
   ·rw [if_neg (by omega),if_neg hr]
    rw [Array.getElem?_setIfInBounds,if_neg (by omega)]
def qaz (place:Nat→Option (Nat×Nat)) (cells:List AV):List (Nat×AV)→Option (List AV)
 | []=>some cells
 |(i,x)::rest=>
  match place i with
  |none=>none
  |some (off,size)=>bif x.okc && Nat.beq x.cells.length size && Nat.ble (off+size) cells.length then qaz place (yr cells off x.cells) rest else none
theorem qes {G:Gh} (place:Nat→Option (Nat×Nat)):∀ (ps:List (Nat×AV)) (vs:List (Nat×Value)) (cs:List AV) (c:Array Value) (cs':List AV),ps.length=vs.length→(∀ (i:Nat) (p:Nat×AV) (v:Nat×Value),ps[i]? = some p→vs[i]? = some v→p.1=v.1∧Rel G p.2 v.2) →
  RelC G cs c→qaz place cs ps=some cs'→∃ c',Instr.fill place c vs=some c'∧RelC G cs' c'
 | [],[],cs,c,cs',_,_,hc,h=>by
  simp only [qaz,Option.some.injEq] at h
  subst h
  exact⟨c,rfl,hc⟩
 | [],v::vs,_,_,_,hl,_,_,_=>by simp at hl
 |p::ps,[],_,_,_,hl,_,_,_=>by simp at hl
 |(i,x)::ps,(j,v)::vs,cs,c,cs',hl,hr,hc,h=>by
  obtain⟨e,hx⟩:=hr 0 _ _ rfl rfl
  simp only at e hx
  subst e
  simp only [qaz] at h
  simp only [Instr.fill]
  cases hp:place i with
  |none=>simp [hp] at h
  |some q=>
   obtain⟨off,size⟩:=q
   simp only [hp] at h ⊢
   cases hb:(x.okc && Nat.beq x.cells.length size && Nat.ble (off+size) cs.length) with
   |false=>simp [hb] at h
   |true=>
    simp only [hb,cond_true] at h
    simp only [Bool.and_eq_true] at hb
    obtain⟨⟨hok,hsz⟩,hle⟩:=hb
    have hsz:=Nat.eq_of_beq_eq_true hsz
    have hle:=Nat.le_of_ble_eq_true hle
    have hcx:=hx.cells hok
    have hcs:v.cells.size=size:=by rw [← hcx.1];exact hsz
    have hfit:off+v.cells.size≤c.size:=by rw [hcs,← hc.1];exact hle
    rw [if_neg (by simp [hcs];rw [← hc.1];exact hle)]
    have hfold:v.cells.zipIdx.foldl (fun cs (x:Value×Nat)=>cs.setIfInBounds (off+x.2) x.1) c=(v.cells.toList.zipIdx 0).foldl (fun (cs:Array Value) (x:Value×Nat)=>cs.setIfInBounds (off+x.2) x.1) c:=by
     rw [← Array.foldl_toList,Array.toList_zipIdx]
    obtain⟨g1,g2⟩:=qpu v.cells.toList off 0 c (by simpa using hfit)
    have hnew:RelC G (yr cs off x.cells) ((v.cells.toList.zipIdx 0).foldl (fun (cs:Array Value) (x:Value×Nat)=>cs.setIfInBounds (off+x.2) x.1) c):=by
     refine⟨?_,fun k a y h1 h2=>?_⟩
     ·rw [g1,← hc.1]
      simp [yr]
      omega
     ·rw [g2] at h2
      have e1:(cs.take off).length=off:=by simp;omega
      simp only [yr,List.append_assoc] at h1
      by_cases hk:k<off
      ·rw [List.getElem?_append_left (by omega),List.getElem?_take,if_pos hk] at h1
       rw [if_neg (by omega)] at h2
       exact hc.2 k a y h1 h2
      ·rw [List.getElem?_append_right (by omega),e1] at h1
       by_cases hk2:k - off<x.cells.length
       ·rw [List.getElem?_append_left hk2] at h1
        rw [if_pos ⟨by omega,by simp;omega⟩] at h2
        exact hcx.2 (k - off) a y h1 (by simpa using h2)
       ·rw [List.getElem?_append_right (by omega),List.getElem?_drop] at h1
        rw [if_neg (by simp;omega)] at h2
        rw [show off+x.cells.length+(k - off - x.cells.length)=k by omega] at h1
        exact hc.2 k a y h1 h2
    have:=qes place ps vs _ _ cs' (by simpa using hl) (fun i p v h1 h2=>hr (i+1) p v (by simpa using h1) (by simpa using h2)) hnew h
    rw [← hfold] at this
    exact this
section
variable {E : Env} {rd : Option Nat} {N : Nat} {ops : Array Oper} {K : AS → Prop} {s : AS} {rest : List Oper} {d : Option Tmp} {T : TypeId} {p : String} {af : Array Edge}
def wh (N:Nat) (s:AS) (parts:Array (Nat×Operand)):List (Nat×AV):=parts.toList.map fun x=>(x.1,qh N s x.2)
def qmq (P:Program) (t:TypeId):Option (List (Nat×Nat)):=
 match P.underlying t with
 |some (.struct fs)=>fs.toList.mapM (fun f=>(P.info? f.type).map fun i=>(f.offset,i.size))
 | _=>none
theorem qfn {B0:Nat} {w0:World} {G:Gh} {a:Act} {w:World} (hI:Inv B0 w0 N G s a w) (parts:Array (Nat×Operand)):∀ (i:Nat) (p:Nat×AV) (v:Nat×Value),(wh N s parts)[i]? = some p→(parts.toList.map fun x=>(x.1,a.eval x.2))[i]? = some v→p.1=v.1∧Rel G p.2 v.2:=fun i p v h1 h2=>by
 simp only [wh,List.getElem?_map] at h1 h2
 cases hq:parts.toList[i]? with
 |none=>simp [hq] at h1
 |some z=>simp [hq] at h1 h2;subst h1;subst h2;exact⟨rfl,hI.eval _⟩
theorem z9 {t:TypeId} {parts:Array (Nat×Operand)} {zs cs:List AV} {pl:List (Nat×Nat)} (hz:qfs E.P t=some zs) (hp:qmq E.P t=some pl) (hf:qaz (pl[·]?) zs (wh N s parts)=some cs)
  (h:AOps E rd N ops rest K (s.put d (.ag cs))):AOps E rd N ops (⟨d,.build t parts,T,p,af,none⟩::rest) K s:=by
 refine q5 rfl (q6 nofun fun B0 w0 G a w _ hI=>?_)
 obtain⟨z,hrun,hr⟩:=qit hz w
 obtain⟨c',h1,h2⟩:=qes (pl[·]?) (wh N s parts) (parts.toList.map fun x=>(x.1,a.eval x.2)) zs z.cells cs (by simp [wh]) (qfn hI parts) (hr G) hf
 unfold qmq at hp
 split at hp
 ·rename_i fs hu
  refine⟨.agg c',w,G,.ag cs,s.st,?_,.refl G,hI.agree,.ag _ _ h2.1 h2.2,h⟩
  generalize a.eval = ρ at h1
  simp [execOp,Instr.build,run_underlying hu,hrun,Array.mapM_eq_mapM_toList,run_places w _ _ hp,h1]
 ·simp at hp
def qdd (P:Program) (e:TypeId) (n:Nat):Option (List AV):=
 match P.info? e with
 |some i=>bif Nat.beq (n * i.size) 0 then some [] else i.zero.map fun z=>(List.range (n * i.size)).map fun k=>.v (z.cells[k % z.cells.size]!)
 |none=>none
theorem qf3 {B0:Nat} {w0:World} {G:Gh} {a:Act} {w:World} (hI:Inv B0 w0 N G s a w) {t e:TypeId} {len sz:Nat} {agg:Bool} {parts:Array (Nat×Operand)} {zs cs:List AV} (hu:E.P.underlying t=some (.slice e)) (ht:tyOf E.P e=some (sz,agg)) (hz:qdd E.P e len=some zs)
  (hf:qaz (fun i=>some (i * sz,sz)) zs (wh N s parts)=some cs) (hsz:Nat.ble (len * sz) 16777216=true) :
  ∃ c':Array Value,(execOp a.eval ⟨d,.buildSlice t len parts,T,p,af,none⟩).run E.P w = .ok (.value (.slice (some ⟨w.heap.size,0,none⟩) len len)) (w.alloc (.cells c' e))∧RelC G cs c':=by
 have hsizeOf:=(xg ht w).1
 have hsz:=Nat.le_of_ble_eq_true hsz
 unfold qdd at hz
 cases hi:E.P.info? e with
 |none=>rw [hi] at hz;simp at hz
 |some i=>
  rw [hi] at hz
  simp only at hz
  have hs:i.size=sz:=by simpa [sizeOf,typeInfo,hi] using hsizeOf
  rw [hs] at hz
  -- the array that the run starts from
  have key:∃ c0:Array Value,RelC G zs c0∧∀ (Q:Array Value→Sem Value),((do
    let zero ← if len * sz=0 then pure #[] else do pure (← zeroValue e).cells
    Q ((Array.range (len * sz)).map (zero[· % zero.size]!)):Sem Value)).run E.P w=(Q c0).run E.P w:=by
   by_cases h0:len * sz=0
   ·rw [h0] at hz
    simp at hz
    subst hz
    exact⟨#[],⟨rfl,by simp⟩,fun Q=>by have e:Array.range 0 = #[]:=(by simp [Array.range]);simp [h0,e]⟩
   ·have:Nat.beq (len * sz) 0=false:=va h0
    rw [this] at hz
    simp only [cond_false] at hz
    cases hzr:i.zero with
    |none=>rw [hzr] at hz;simp at hz
    |some z=>
     rw [hzr] at hz
     simp only [Option.map_some,Option.some.injEq] at hz
     subst hz
     refine⟨(Array.range (len * sz)).map (z.cells[· % z.cells.size]!),⟨by simp,fun k x y h1 h2=>?_⟩,fun Q=>by simp [h0,zeroValue,typeInfo,hi,hzr]⟩
     have hk:k<len * sz:=by have:=lt_of_getElem? h1;simpa using this
     simp [hk] at h1 h2
     subst h1;subst h2
     exact .v _
  obtain⟨c0,hc0,hrun0⟩:=key
  obtain⟨c',h1,h2⟩:=qes (fun i=>some (i * sz,sz)) (wh N s parts) (parts.toList.map fun x=>(x.1,a.eval x.2)) zs c0 cs (by simp [wh]) (qfn hI parts) hc0 hf
  refine⟨c',?_,h2⟩
  ·generalize a.eval = ρ at h1
   have hb:¬ 16777216<len * sz:=by omega
   have hg:∃ m:String,(execOp ρ ⟨d,.buildSlice t len parts,T,p,af,none⟩).run E.P w=(((do
    let zero ← if len * sz=0 then pure #[] else do pure (← zeroValue e).cells
    (fun c=>(do
    let some cells:=Instr.fill (fun i=>some (i * sz,sz)) c (parts.map fun x=>(x.1,ρ x.2)).toList|stuck m
    pure (Value.slice (some (← newRow e cells)) len len):Sem Value)) ((Array.range (len * sz)).map (zero[· % zero.size]!)):Sem Value)).run E.P w).andThen fun v w'=>.ok (.value v) w':=by
    apply Exists.intro
    simp only [execOp,Instr.buildSlice]
    simp [run_underlying hu,hsizeOf,hb]
    rfl
   obtain⟨m,hg⟩:=hg
   have hQ:=hrun0 (fun c=>do
    let some cells:=Instr.fill (fun i=>some (i * sz,sz)) c (parts.map fun x=>(x.1,ρ x.2)).toList|stuck m
    pure (.slice (some (← newRow e cells)) len len))
   rw [hg,hQ]
   simp [h1,newRow,newObj,Sem.run]
theorem q9 {t e:TypeId} {len sz:Nat} {agg:Bool} {parts:Array (Nat×Operand)} {zs cs xs:List AV} (hu:E.P.underlying t=some (.slice e)) (ht:tyOf E.P e=some (sz,agg)) (hz:qdd E.P e len=some zs)
  (hf:qaz (fun i=>some (i * sz,sz)) zs (wh N s parts)=some cs) (hxs:(wh N s parts).map Prod.snd=xs) (hlen:xs.length=len) (hfl:flat xs=cs) (hw:xs.all (fun x=>Nat.beq x.cells.length sz)=true) (hsz:Nat.ble (len * sz) 16777216=true)
  (h:AOps E rd N ops rest K (s.put d (.sl sz xs none))):AOps E rd N ops (⟨d,.buildSlice t len parts,T,p,af,none⟩::rest) K s:=by
 refine q5 rfl (q6 nofun fun B0 w0 G a w _ hI=>?_)
 obtain⟨c',hrun,h2⟩:=qf3 (d:=d) (T:=T) (p:=p) (af:=af) hI hu ht hz hf hsz
 obtain⟨hle,hA⟩:=hI.agree.newPub e c' (0,0) c'.toList (fun i y hy=>by simpa using hy)
 refine⟨.slice (some ⟨w.heap.size,0,none⟩) len len,w.alloc (.cells c' e),_,.sl sz xs none,s.st,hrun,hle,hA,?_,h⟩
 rw [← hlen]
 cases xs with
 |nil=>exact .sl0 sz none _ _ (by simp)
 |cons x0 xr=>
  refine .sl sz _ none w.heap.size 0 _ c'.toList (by simp [Gh.publish]) (fun x hx=>?_) (by rw [hfl,h2.1];simp) (fun k x y g1 g2=>?_) (fun t ht=>by simp at ht) (Nat.le_refl _)
  ·exact Nat.eq_of_beq_eq_true (List.all_eq_true.1 hw x hx)
  ·rw [hfl] at g1
   exact (h2.2 k x y g1 (by simpa using g2)).mono hle
end
end Go.Av
namespace Go.Av
open Go Go.RowKit
inductive qea (n:Nat):List AObj→List AObj→Prop
 |nil:qea n [] []
 |same {l l':List AObj} (x:AObj) (h:qea n l l'):qea n (x::l) (x::l')
 |cut {l l':List AObj} {x x':AObj} (hx:qks n x') (h:qea n l l'):qea n (x::l) (x'::l')
 |loop {l l':List AObj} {ls ls':LoopState} {pend pend':Option Code} {N:Nat} {t:Nat→AV} {ps:Array Tmp} {asg body:Code} (h:qea n l l'):qea n (.loop ls pend N t ps asg body::l) (.loop ls' pend' N t ps asg body::l')
theorem qea.length {n:Nat} {l l':List AObj} (h:qea n l l'):l'.length=l.length:=by
 induction h with
 |nil=>rfl
 | _=>simpa
def qoh (F:LoopState→Option Code→AObj) (N:Nat) (t:Nat→AV) (ps:Array Tmp) (asg body:Code):Prop:=∀ ls pend,F ls pend=AObj.loop ls pend N t ps asg body
@[reducible] def q3c (o : Nat) (F : LoopState → Option Code → AObj) (R : Bool → List AObj → Prop) : Exit → AS → Prop
 | .normal,s=>s.st[o]? = some (F .busy none)∧R true (s.st.set o (F .ready none))
 | .ret,s=>s.st[o]? = some (F .busy none)∧R false (s.st.set o (F .done (some .ret)))
 | .exit id,s=>s.st[o]? = some (F .busy none)∧R false (s.st.set o (F .done (some (.exit id))))
 | _,_=>False
theorem qym {E:Env} {o N:Nat} {t:Nat→AV} {ps:Array Tmp} {asg body:Code} {st:List AObj} {R:Bool→List AObj→Prop} {xs:List AV} {F:LoopState→Option Code→AObj} (hF:qoh F N t ps asg body) (ho:st[o]? = some (F .ready none)) (hps:ps.size=xs.length)
  (h:∀ l,AWp E (some l) N asg (only fun s1=>s1.st[o]? = some (F .ready none)∧s1.df=[]∧AWp E (some l) N body (q3c o F R) ⟨s1.t,s1.st.set o (F .busy none),[]⟩) ⟨qhe t (ps.toList.zip xs),st,[]⟩):qbi E o xs st R:=by
 refine qrv (N:=N) (t:=t) (ps:=ps) (asg:=asg) (body:=body) (by rw [ho,hF]) hps fun l=>(h l).mono fun e s1 hq=>?_
 cases e with
 |normal=>
  obtain⟨h1,h2,h3⟩:=hq
  refine⟨by rw [h1,hF],h2,?_⟩
  rw [hF] at h3
  refine h3.mono fun e s2 hq2=>?_
  cases e with
  |normal=>obtain⟨k1,k2⟩:=hq2;exact⟨by rw [k1,hF],by rw [hF] at k2;exact k2⟩
  |ret=>obtain⟨k1,k2⟩:=hq2;exact⟨by rw [k1,hF],by rw [hF] at k2;exact k2⟩
  |exit id=>obtain⟨k1,k2⟩:=hq2;exact⟨by rw [k1,hF],by rw [hF] at k2;exact k2⟩
  | _=>exact hq2.elim
 | _=>exact hq.elim
theorem qt4 {E:Env} {N:Nat} {Q:Exit→AS→Prop} {s:AS} {f:Operand} {ps:Array Tmp} {asg body:Code} {st loc:List AObj} {g:FuncId} {fs cs:List AV} (hst:s.st=st++loc) (hx:qh N s f = .fn (.func g) fs cs)
  (hrun:∀ vs w,(callFunc g vs).run E.P w = .ok (.enter g vs) w)
  (h:∀ F,qoh F N s.t ps asg body→qp E g (fs++[.yd (st.length+(loc.length+1))]++cs) (st++(loc++[.dfr,F .ready none])) fun _ st'=>∃ ls pend,ls≠LoopState.busy∧st'[st.length+(loc.length+1)]? = some (F ls pend) ∧
   match pend with
   |none=>Q .normal ⟨s.t,st'.set (st.length+(loc.length+1)) .dead,(st.length+loc.length)::s.df⟩
   |some c=>AWp E none N c Q ⟨s.t,st'.set (st.length+(loc.length+1)) .dead,(st.length+loc.length)::s.df⟩):AWp E none N (.rangeFunc f ps asg body) Q s:=
 qn3 hst hx hrun ((h (fun ls pend=>.loop ls pend N s.t ps asg body) (fun _ _=>rfl)).mono fun _ _ ⟨ls,pend,h1,h2,h3⟩=>⟨ls,pend,h1,h2,h3⟩)
@[reducible] def Wv (x : BitVec 32) : AV := .v (.int .u32 (x.toNat : Nat))
theorem qkr (n:Nat):IntKind.u32.wrap (n:Int)=((n % 4294967296:Nat):Int):=by
 simp [IntKind.wrap,IntKind.bits,IntKind.signed]
theorem qf (x:BitVec 32):BitVec.ofInt 32 (x.toNat:Int)=x:=by
 rw [BitVec.ofInt_natCast,BitVec.ofNat_toNat]
 simp
theorem qeo (x:BitVec 32):IntKind.u32.wrap (x.toNat:Int)=(x.toNat:Int):=by
 rw [qkr,Nat.mod_eq_of_lt x.isLt]
section
variable {E : Env} {rd : Option Nat} {N : Nat} {ops : Array Oper} {K : AS → Prop} {s : AS} {rest : List Oper} {d : Option Tmp} {T : TypeId} {p : String} {af : Array Edge}
theorem jy {x y:Operand} {t t':TypeId} {m n:Int} {a b:BitVec 32} (hx:qh N s x = .v (.int .u32 m)) (hy:qh N s y = .v (.int .u32 n)) (ha:BitVec.ofInt 32 m=a) (hb:BitVec.ofInt 32 n=b) (h:AOps E rd N ops rest K (s.put d (Wv (a ^^^ b)))):AOps E rd N ops (⟨d,.binOp .xor t x y t',T,p,af,none⟩::rest) K s:=
 qyk hx hy (by subst ha;subst hb;simp only [qaw,IntKind.bits];rw [qeo];rfl) h
theorem jv {x y:Operand} {t t':TypeId} {m n:Int} {a b:BitVec 32} (hx:qh N s x = .v (.int .u32 m)) (hy:qh N s y = .v (.int .u32 n)) (ha:BitVec.ofInt 32 m=a) (hb:BitVec.ofInt 32 n=b) (h:AOps E rd N ops rest K (s.put d (Wv (a &&& b)))):AOps E rd N ops (⟨d,.binOp .and t x y t',T,p,af,none⟩::rest) K s:=
 qyf hx hy (by subst ha;subst hb;simp only [qaw,IntKind.bits];rw [qeo];rfl) h
theorem kn {x y:Operand} {t t':TypeId} {m n:Int} {a b:BitVec 32} (hx:qh N s x = .v (.int .u32 m)) (hy:qh N s y = .v (.int .u32 n)) (ha:BitVec.ofInt 32 m=a) (hb:BitVec.ofInt 32 n=b) (h:AOps E rd N ops rest K (s.put d (Wv (a |||b)))):AOps E rd N ops (⟨d,.binOp .or t x y t',T,p,af,none⟩::rest) K s:=
 q0n hx hy (by subst ha;subst hb;simp only [qaw,IntKind.bits];rw [qeo];rfl) h
theorem ja {x:Operand} {t:TypeId} {a:BitVec 32} (hx:qh N s x=Wv a) (h:AOps E rd N ops rest K (s.put d (Wv (~~~ a)))):AOps E rd N ops (⟨d,.unOp .xor t x,T,p,af,none⟩::rest) K s:=
 qtw hx (by
  simp only [qaw,IntKind.bits,IntKind.signed,Bool.false_eq_true,if_false]
  rw [qf]
  have h1:BitVec.ofInt 32 IntKind.u32.max=BitVec.allOnes 32:=by decide
  have h2:BitVec.ofInt 32 IntKind.u32.max ^^^ a = ~~~ a:=by rw [h1,BitVec.xor_comm,BitVec.xor_allOnes]
  exact (congrArg (fun z:BitVec 32=>IntKind.u32.wrap (z.toNat:Int)) h2).trans (qeo _)) h
theorem jw {x y:Operand} {t t':TypeId} {yk:IntKind} {a:BitVec 32} {n:Nat} (hx:qh N s x=Wv a) (hy:qh N s y = .v (.int yk (n:Int))) (hn:Nat.ble n 32=true) (h:AOps E rd N ops rest K (s.put d (Wv (a <<< n)))):AOps E rd N ops (⟨d,.binOp .shl t x y t',T,p,af,none⟩::rest) K s:=
 qyi hx hy (by omega) (by
  have hn:=Nat.le_of_ble_eq_true hn
  have:min (n:Int).toNat IntKind.u32.bits=n:=by simp [IntKind.bits];omega
  rw [this]
  have e:(a.toNat:Int) * 2 ^ n=((a.toNat * 2 ^ n:Nat):Int):=by simp
  rw [e,qkr,BitVec.toNat_shiftLeft,Nat.shiftLeft_eq]) h
theorem jx {x y:Operand} {t t':TypeId} {yk:IntKind} {a:BitVec 32} {n:Nat} (hx:qh N s x=Wv a) (hy:qh N s y = .v (.int yk (n:Int))) (hn:Nat.ble n 32=true) (h:AOps E rd N ops rest K (s.put d (Wv (a >>> n)))):AOps E rd N ops (⟨d,.binOp .shr t x y t',T,p,af,none⟩::rest) K s:=
 qyj hx hy (by omega) (by
  have hn:=Nat.le_of_ble_eq_true hn
  have:min (n:Int).toNat IntKind.u32.bits=n:=by simp [IntKind.bits];omega
  rw [this,BitVec.toNat_ushiftRight,Nat.shiftRight_eq_div_pow]
  have h0:(0:Int)≤2 ^ n:=by
   have:((2 ^ n:Nat):Int)=(2:Int) ^ n:=by simp
   rw [← this]
   exact Int.natCast_nonneg _
  rw [Int.fdiv_eq_ediv_of_nonneg _ h0]
  simp) h
theorem jk {x y:Operand} {t e:TypeId} {len sz:Nat} {agg:Bool} {k:IntKind} {n:Nat} {cs:List AV} {r:AV} (hx:qh N s x = .ag cs) (hy:qh N s y = .v (.int k (n:Int))) (hu:E.P.underlying t=some (.array len e)) (ht:tyOf E.P e=some (sz,agg)) (hn:n<len) (hr:wq sz agg (n * sz) cs=some r)
  (h:AOps E rd N ops rest K (s.put d r)):AOps E rd N ops (⟨d,.index t x y,T,p,af,none⟩::rest) K s:=by
 refine q5 rfl (q6 nofun fun B0 w0 G a w _ hI=>?_)
 have he:=hI.eval_of hx
 have hey:=hI.evalv hy
 generalize hv:a.eval x=v at he
 cases he with
 |ag _ vs hl hrel=>
  obtain⟨i1,i2⟩:=xg ht w
  cases agg with
  |false=>
   simp only [wq,cond_false] at hr
   obtain⟨z,hz⟩:=wy hr (Nat.le_of_eq hl)
   refine⟨z,w,G,r,s.st,?_,.refl G,hI.agree,hrel _ r z hr hz,h⟩
   generalize a.eval = ρ at hv hey
   simp only [execOp,hv,hey]
   simp [Instr.index,asIntOf,run_underlying hu,hn,part,i1,i2,hz]
  |true=>
   simp only [wq,cond_true] at hr
   cases hb:Nat.ble (n * sz+sz) cs.length with
   |false=>rw [hb] at hr;simp at hr
   |true=>
    rw [hb] at hr
    simp only [cond_true,Option.some.injEq] at hr
    have hle:n * sz+sz≤cs.length:=Nat.le_of_ble_eq_true hb
    refine⟨.agg (vs.extract (n * sz) (n * sz+sz)),w,G,r,s.st,?_,.refl G,hI.agree,?_,h⟩
    ·generalize a.eval = ρ at hv hey
     simp only [execOp,hv,hey]
     simp [Instr.index,asIntOf,run_underlying hu,hn,part,i1,i2]
    ·subst hr
     refine .ag _ _ (by simp;omega) fun i x y h1 h2=>?_
     have hi:i<sz:=by have:=lt_of_getElem? h1;simp at this;omega
     simp [hi,List.getElem?_drop] at h1
     rw [Array.getElem?_extract] at h2
     split at h2
     ·exact hrel (n * sz+i) x y h1 h2
     ·simp at h2
theorem zf {x y:Operand} {t e:TypeId} {len sz:Nat} {agg:Bool} {k:IntKind} {n o ver off:Nat} (hx:qh N s x = .bx o ver off) (hy:qh N s y = .v (.int k (n:Int))) (hu:E.P.underlying t=some (.array len e)) (ht:tyOf E.P e=some (sz,agg)) (hn:n<len)
  (h:AOps E rd N ops rest K (s.put d (.bx o ver (off+n * sz)))):AOps E rd N ops (⟨d,.indexAddr t x y,T,p,af,none⟩::rest) K s:=by
 refine q5 rfl (q6 nofun fun B0 w0 G a w _ hI=>?_)
 have he:=hI.eval_of hx
 have hey:=hI.evalv hy
 generalize hv:a.eval x=v at he
 cases he with
 |bx _ _ _ b hn' hver hb=>
  refine⟨.pointer (some ⟨b,off+n * sz,none⟩),w,G,_,s.st,?_,.refl G,hI.agree,.bx o ver _ b hn' hver hb,h⟩
  generalize a.eval = ρ at hv hey
  simp only [execOp,hv,hey]
  simp [Instr.indexAt,asIntOf,run_underlying hu,Instr.sureAddr,hn,(xg ht w).1,Addr.add_lit]
def qmf (P:Program) (t:TypeId):Option Nat:=
 match P.underlying t with
 |some (.array _ e)=>match P.info? e with
  |some i=>some i.size
  |none=>none
 | _=>none
theorem qru {P:Program} {t:TypeId} {sz:Nat} (h:qmf P t=some sz):∃ len e i,P.underlying t=some (.array len e)∧P.info? e=some i∧i.size=sz:=by
 unfold qmf at h
 split at h
 ·rename_i len e hu
  split at h
  ·rename_i i hi
   simp only [Option.some.injEq] at h
   exact⟨len,e,i,hu,hi,h⟩
  ·simp at h
 ·simp at h
theorem ko {t:TypeId} {parts:Array (Nat×Operand)} {zs cs:List AV} {sz:Nat} (hz:qfs E.P t=some zs) (hp:qmf E.P t=some sz) (hf:qaz (fun i=>some (i * sz,sz)) zs (wh N s parts)=some cs)
  (h:AQ E N ops rest K (s.put d (.ag cs))):AQ E N ops (⟨d,.build t parts,T,p,af,none⟩::rest) K s:=by
 refine qdn rfl nofun fun B0 w0 G a w _ hI=>?_
 obtain⟨len,e,i,hu,hi,rfl⟩:=qru hp
 obtain⟨z,hrun,hr⟩:=qit hz w
 obtain⟨c',h1,h2⟩:=qes (fun k=>some (k * i.size,i.size)) (wh N s parts) (parts.toList.map fun x=>(x.1,a.eval x.2)) zs z.cells cs (by simp [wh]) (qfn hI parts) (hr G) hf
 have hz':∃ ti,E.P.info? t=some ti∧ti.zero=some z:=by
  unfold zeroValue at hrun
  simp [typeInfo] at hrun
  cases hti:E.P.info? t with
  |none=>simp [hti] at hrun
  |some ti=>
   simp [hti] at hrun
   cases htz:ti.zero with
   |none=>simp [htz] at hrun
   |some y=>simp [htz] at hrun;exact⟨ti,rfl,by rw [htz,hrun]⟩
 obtain⟨ti,g1,g2⟩:=hz'
 refine⟨.agg c',.ag cs,fun w' _=>?_,.ag _ _ h2.1 h2.2,h⟩
 generalize a.eval = ρ at h1
 simp [execOp,Instr.build,run_underlying hu,zeroValue,typeInfo,g1,g2,sizeOf,hi,h1]
theorem w8 {x y:Operand} {t:TypeId} {m:List UInt8} {k:IntKind} {n:Nat} (hx:qh N s x=Sv m) (hy:qh N s y = .v (.int k (n:Int))) (hu:E.P.underlying t=some .string) (h1:n<m.length)
  (h:AQ E N ops rest K (s.put d (Uv (m.getD n 0)))):AQ E N ops (⟨d,.index t x y,T,p,af,none⟩::rest) K s:=
 qab _ rfl nofun (fun a w he=>by
  have hg:(⟨m.toArray⟩:ByteArray)[n]? = some (m.getD n 0):=by
   simp only [getElem?_def,qaa,h1,dite_true,List.getD,Option.getD_some]
   rfl
  simp [execOp,Instr.index,he _ _ hx,he _ _ hy,asIntOf,run_underlying hu,hg]) h
theorem vn {x:Operand} {t t':TypeId} {k:IntKind} {n:Nat} {e:TypeDesc} (hx:qh N s x = .v (.int k (n:Int))) (hs:E.P.underlying t=some e) (hd:E.P.underlying t'=some (.int .u32)) (hn:n<4294967296)
  (h:AQ E N ops rest K (s.put d (Wv (BitVec.ofNat 32 n)))):AQ E N ops (⟨d,.convert t t' x,T,p,af,none⟩::rest) K s:=by
 have hr:IntKind.u32.wrap (n:Int)=(((BitVec.ofNat 32 n).toNat:Nat):Int):=by rw [qkr,Nat.mod_eq_of_lt hn,BitVec.toNat_ofNat,Nat.mod_eq_of_lt hn]
 exact qab _ rfl nofun (fun a w he=>by rw [← hr];simp [execOp,he _ _ hx,convert,run_underlying hs,run_underlying hd,Conv.intToInt]) h
theorem wa {x y:Operand} {t t':TypeId} {yk:IntKind} {c:UInt8} (hx:qh N s x=Uv c) (hy:qh N s y = .v (.int yk 4)) (h:AQ E N ops rest K (s.put d (.v (.int .u8 ((c.toNat / 16:Nat):Int))))):AQ E N ops (⟨d,.binOp .shr t x y t',T,p,af,none⟩::rest) K s:=
 qab _ rfl nofun (fun a w he=>by
  have:(c.toNat:Int).fdiv (2 ^ (min (4:Int).toNat IntKind.u8.bits))=((c.toNat / 16:Nat):Int):=by
   rw [Int.fdiv_eq_ediv_of_nonneg _ (by decide)]
   simp [IntKind.bits]
  rw [← this]
  simp [execOp,he _ _ hx,he _ _ hy,eqGuard_at_int,binOp_shr,Op.shift]) h
theorem vm {x y:Operand} {t t':TypeId} {c:UInt8} (hx:qh N s x=Uv c) (hy:qh N s y = .v (.int .u8 15)) (h:AQ E N ops rest K (s.put d (.v (.int .u8 ((c.toNat % 16:Nat):Int))))):AQ E N ops (⟨d,.binOp .and t x y t',T,p,af,none⟩::rest) K s:=
 q18 hx hy (by
  simp only [qaw,IntKind.bits]
  have h1:BitVec.ofInt 8 (c.toNat:Int)=c.toBitVec:=by rw [BitVec.ofInt_natCast];simp
  have h2:(BitVec.ofInt 8 (c.toNat:Int) &&& BitVec.ofInt 8 15).toNat=c.toNat % 16:=by
   rw [h1,BitVec.toNat_and]
   exact Nat.and_two_pow_sub_one_eq_mod c.toNat 4
  have h3:IntKind.u8.wrap ((c.toNat % 16:Nat):Int)=((c.toNat % 16:Nat):Int):=by
   simp [IntKind.wrap,IntKind.bits,IntKind.signed]
   omega
  exact (congrArg (fun z:Nat=>IntKind.u8.wrap (z:Int)) h2).trans h3) h
theorem and15_lt (x:BitVec 32):(x &&& BitVec.ofInt 32 15).toNat<16:=by
 rw [BitVec.toNat_and]
 exact Nat.lt_of_le_of_lt Nat.and_le_right (by decide)
theorem qvz {x y:Operand} {t t':TypeId} {k:IntKind} {m n:Nat} (hx:qh N s x = .v (.int k (m:Int))) (hy:qh N s y = .v (.int k (n:Int))) (hf:k.wrap ((m+n:Nat):Int)=((m+n:Nat):Int))
  (h:AOps E rd N ops rest K (s.put d (.v (.int k ((m+n:Nat):Int))))):AOps E rd N ops (⟨d,.binOp .add t x y t',T,p,af,none⟩::rest) K s:=
 z6 hx hy (by rw [← Int.natCast_add];exact hf) h
theorem qv2 {x y:Operand} {t t':TypeId} {k:IntKind} {m n:Nat} (hx:qh N s x = .v (.int k (m:Int))) (hy:qh N s y = .v (.int k (n:Int))) (hn:n≠0) (hf:k.wrap ((m / n:Nat):Int)=((m / n:Nat):Int))
  (h:AOps E rd N ops rest K (s.put d (.v (.int k ((m / n:Nat):Int))))):AOps E rd N ops (⟨d,.binOp .quo t x y t',T,p,af,none⟩::rest) K s:=
 qo2 hx hy (by omega) (by rw [Int.tdiv_eq_ediv_of_nonneg (by omega),← Int.natCast_ediv];exact hf) h
theorem qv3 {x y:Operand} {t t':TypeId} {k:IntKind} {m n:Nat} (hx:qh N s x = .v (.int k (m:Int))) (hy:qh N s y = .v (.int k (n:Int))) (hn:n≠0)
  (h:AOps E rd N ops rest K (s.put d (.v (.int k ((m % n:Nat):Int))))):AOps E rd N ops (⟨d,.binOp .rem t x y t',T,p,af,none⟩::rest) K s:=
 qo3 hx hy (by omega) (by rw [Int.tmod_eq_emod_of_nonneg (by omega),← Int.natCast_emod];exact h)
theorem qgj {n:Nat} (h:n<18446744073709551616):IntKind.u64.wrap (n:Int)=(n:Int):=by
 simp [IntKind.wrap,IntKind.bits,IntKind.signed]
 omega
end
end Go.Av
namespace Go.Proofs.YtmjmdjbdoiddeaaGreatDoor
open Go Go.Av Go.RowKit Go.Proofs
structure Laid (w:World):Prop where
 shaped:World.ShapedOpen Tryz.prog w
 pow : Lib.TabIs Tryz.prog w "internal/strconv.uint64pow10" .u64 Lib.pow10Tab
 syn : ∃ tp p, World.var? Tryz.prog w "strconv.ErrSyntax" = some #[.iface tp p]
 ran : ∃ tp p, World.var? Tryz.prog w "strconv.ErrRange" = some #[.iface tp p]
@[reducible] noncomputable def E : Env := ⟨Tryz.prog, fun B0 w0 => ∀ w, Below B0 w0 w → Laid w⟩
theorem qk5 (l m:List UInt8) (st:List AObj) (hl:l.length<4294967281):qp E 48 [Sv l,Sv m] st fun r st'=>r=Bv (Lib.contains l m)∧st'=st:=
 qak (vals:= #[.string ⟨l.toArray⟩,.string ⟨m.toArray⟩]) rfl fun _ _ w hL hb=>(Tryz.strings_Contains_shaped ⟨l.toArray⟩ ⟨m.toArray⟩ w (hL w hb).shaped (by simpa [ByteArray.size] using hl)).mono fun _ _ ⟨h1,h2⟩=>⟨h1,qfu h2⟩
theorem qr3 (l m:List UInt8) (st:List AObj):qp E 47 [Sv l,Sv m] st fun r st'=>r=Bv (Lib.hasPrefix l m)∧st'=st:=
 qak (vals:= #[.string ⟨l.toArray⟩,.string ⟨m.toArray⟩]) rfl fun _ _ w _ _=>(Tryz.strings_HasPrefix ⟨l.toArray⟩ ⟨m.toArray⟩ w).mono fun _ _ ⟨h1,h2⟩=>⟨h1,qfu h2⟩
theorem qub (l m:List UInt8) (st:List AObj) (hl:l.length<4294967281):qp E 50 [Sv l,Sv m] st fun r st'=>r = .tu [Sv (Lib.cut l m).1,Sv (Lib.cut l m).2.1,Bv (Lib.cut l m).2.2]∧st'=st:=
 qjd (vals:= #[.string ⟨l.toArray⟩,.string ⟨m.toArray⟩]) (rs:= #[.string ⟨(Lib.cut l m).1.toArray⟩,.string ⟨(Lib.cut l m).2.1.toArray⟩,.bool (Lib.cut l m).2.2]) rfl fun _ _ w hL hb=>(Tryz.strings_Cut_shaped ⟨l.toArray⟩ ⟨m.toArray⟩ w (hL w hb).shaped (by simpa [ByteArray.size] using hl)).mono fun _ _ ⟨h1,n,h2⟩=>⟨h1,h2▸qrx w n⟩
theorem q2x (n:Int) (st:List AObj) (h0 : -9223372036854775808≤n) (h1:n≤9223372036854775807):qp E 64 [Iv n] st fun r st'=>r=Sv (Lib.itoa n)∧st'=st:=
 qak (vals:= #[.int .i64 n]) rfl fun _ _ w hL hb=>(Tryz.strconv_Itoa n h0 h1 w (hL w hb).pow).mono fun _ _ ⟨h1,k,os,h2⟩=>⟨h1,h2▸qt5 w k os⟩
theorem q3h (l m:List UInt8) (st:List AObj) (hl:l.length≤9223372036854775807) (hm:m.length<4294967281) (ha:∀ (j:Nat) (b:UInt8),m[j]? = some b→b.toNat<128):qp E 70 [Sv l,Sv m] st fun r st'=>r=Sv (Lib.trimS l m)∧st'=st:=
 qak (vals:= #[.string ⟨l.toArray⟩,.string ⟨m.toArray⟩]) rfl fun _ _ w _ _=>(Any.strings_Trim_laid Tryz.lays160t (by kernel_rfl) ⟨l.toArray⟩ ⟨m.toArray⟩ w (by simpa [ByteArray.size] using hl) (by simpa [ByteArray.size] using hm) (by simpa using ha)).mono fun _ _ ⟨h1,h2⟩=>⟨h1,h2⟩
theorem qrw {w w':World} {T:TypeId} {s:ByteArray} (h:w'=w∨∃ t,w'=Lib.bytesWorld w T t):Below w.heap.size w w':=by
 rcases h with rfl | ⟨t,rfl⟩
 ·exact Below.refl _ _
 ·unfold Lib.bytesWorld
  exact Lib.below_freeze ((Below.drew (Below.refl w.heap.size w)).alloc (Nat.le_refl _) _) (p:=⟨w.heap.size,_,none⟩) (Nat.le_refl _) _
theorem qkt {f:FuncId} {st:List AObj} {args:List AV} {vals:Array Value} {R:Int→Option (TypeId×Value)→Prop} (ha:args=vals.toList.map .v)
  (h:∀ B0 w0 w,E.L B0 w0→Below B0 w0 w→Calls E.P f vals w fun e w'=>∃ n x,e = .returned (.tuple #[.int .i64 n,match x with|none=>.nilIface|some (t,y)=>.iface t y])∧R n x∧Below w.heap.size w w') :
  qp E f args st fun r st'=>st'=st∧∃ n x,r = .tu [Iv n,match x with|none=>.v .nilIface|some (t,y)=>.ifc t (.v y)]∧R n x:=by
 subst ha
 refine⟨fun B0 w0 G vs w hL hA hR=>?_⟩
 have hv:vs=vals:=by
  have hs:vs.size=vals.size:=by have:=hR.1;simpa using this.symm
  apply Array.ext hs
  intro i h1 h2
  have:=hR.2 i (.v vals[i]) vs[i] (by simp [h2]) (by simp [h1])
  generalize vs[i]=y at this
  cases this
  rfl
 subst hv
 refine (h B0 w0 w hL hA.below).mono ?_
 rintro e w' ⟨n,x,rfl,hRR,hb⟩
 refine⟨_,G,_,st,rfl,.refl G,hA.fresh hb,qmv (.v _) ?_,rfl,n,x,rfl,hRR⟩
 cases x with
 |none=>exact .v _
 |some p=>exact .ifc _ _ _ (.v _)
theorem q2a (l:List UInt8) (st:List AObj) (hl:l.length≤281474976710656):qp E 63 [Sv l] st fun r st'=>st'=st∧∃ n x,r = .tu [Iv n,match x with|none=>.v .nilIface|some (t,y)=>.ifc t (.v y)]∧match x with|none=>Lib.atoiAll l = .ok n|some _=>∀ v,Lib.atoiAll l≠.ok v:=by
 refine qkt (vals:= #[.string ⟨l.toArray⟩]) (R:=fun n x=>match x with|none=>Lib.atoiAll l = .ok n|some _=>∀ v,Lib.atoiAll l≠.ok v) rfl fun B0 w0 w hL hb=>?_
 have hls:(⟨l.toArray⟩:ByteArray).data.toList=l:=rfl
 rcases ho:Lib.atoiAll l with v | _ | _
 ·
  refine (Tryz.strconv_Atoi_ok ⟨l.toArray⟩ (by simp [ByteArray.size];omega) v (by rw [hls];exact ho) w).mono ?_
  rintro e w' ⟨rfl,hw⟩
  exact⟨v,none,rfl,rfl,qrw (s:=⟨l.toArray⟩) hw⟩
 ·
  obtain⟨tp,p,hv⟩:=(hL w hb).syn
  refine (Any.strconv_Atoi_syntax_var Tryz.laysC172 ⟨l.toArray⟩ (by simpa [ByteArray.size] using hl) (by rw [hls];exact ho) tp p w hv).mono ?_
  rintro e w' ⟨N,rfl,_,_,hw⟩
  exact⟨_,some (_,_),rfl,by simp,hw⟩
 ·
  obtain⟨tp,p,hv⟩:=(hL w hb).ran
  refine (Tryz.strconv_Atoi_range_var ⟨l.toArray⟩ (by simpa [ByteArray.size] using hl) (by rw [hls];exact ho) tp p w hv).mono ?_
  rintro e w' ⟨N,rfl,_,_,hw⟩
  exact⟨_,some (_,_),rfl,by simp,hw⟩
end Go.Proofs.YtmjmdjbdoiddeaaGreatDoor
namespace Go.Av
open Go Go.RowKit Go.WideShapes Go.ChangeShapes
theorem qm0 {P:Program} {W:World} {name:String} {k:IntKind} {zs:List Int} {g:Nat} {t e:TypeId} {n:Nat}
  (hg:P.globalNamed name=some g) (hty:(P.globals[g]?).map (·.type)=some t) (ht:P.underlying t=some (.array n e)) (he:P.underlying e=some (.int k)) (hce:P.cellsOf e=1) (hct:P.cellsOf t=n)
  (h:Lib.VarReads P W name (Lib.tabData k zs)):Lib.TabIs P W name k zs:=by
 obtain⟨g',t',cs,fuel,p,hg',ht',hvar,hd⟩:=h
 obtain rfl:=Option.some.inj (hg.symm.trans hg')
 obtain rfl:=Option.some.inj (hty.symm.trans ht')
 unfold Lib.TabIs
 rw [hvar,← Lib.cells_of_tab ht he hce hct hd]
theorem qhr {P:Program} {W:World} {name s:String} {d:DataW Unit} {g:Nat} {t:TypeId} {ms:Array (String×TypeId)}
  (hg:P.globalNamed name=some g) (hty:(P.globals[g]?).map (·.type)=some t) (ht:P.underlying t=some (.interface ms))
  (h:Lib.VarReads P W name (.iface s d)):∃ tp p,W.var? P name=some #[.iface tp p]:=by
 obtain⟨g',t',cs,fuel,p,hg',ht',hvar,hd⟩:=h
 obtain rfl:=Option.some.inj (hg.symm.trans hg')
 obtain rfl:=Option.some.inj (hty.symm.trans ht')
 cases fuel with
 |zero=>simp [DataW.trod] at hd
 |succ fuel=>
  obtain⟨l⟩:=cs
  simp only [DataW.trod,ht] at hd
  split at hd
  all_goals simp_all
section
variable {H : Type} {enc : TypeId × Value → H} {P : Program}
theorem qn8 {f:Func} {s:ChangeSpec} {qbc fresh handsOn again:Bool} {W W':World} {args:Array Value} {v:Value} {ds gs:List (DataW H)} {before pa pv:List MemPlace}
  (hW:DataW.Whole enc P f.params.toList s.vars qbc W args.toList ds gs before)
  (hres:∀ (b:Nat) (sp:Nat→Bool) (hd:Bool),DataW.TrodAll enc P W' b sp hd f.resultTypes.toList (v.resultList f.resultTypes.size) (s.fn H (ds++gs)).results [])
  (hargs:∀ sp:Nat→Bool,(∀ p∈before,sp p.block=true)→DataW.TrodAll enc P W' 0 sp true f.params.toList args.toList (s.fn H (ds++gs)).args pa)
  (hvars:∀ sp:Nat→Bool,(∀ p∈before,sp p.block=true)→DataW.TrodVars enc P W' sp s.vars (s.fn H (ds++gs)).vars pv)
  (hps:before=pa++pv) (hb:Below W.heap.size W W')
  (hok:∀ (j:Nat) (t:TypeId) (r:Value),f.resultTypes[j]? = some t→(v.resultList f.resultTypes.size)[j]? = some r→Value.okWide P W' .any 0 t r) :
  s.post enc P f qbc fresh handsOn again W args v W':=by
 have hlt:∀ p∈before,p.block<W.heap.size:=fun p hp=>hW.lt p hp
 have hold:∀ p∈before,(fun b=>decide (b<W.heap.size)) p.block=true:=fun p hp=>by simpa using hlt p hp
 refine⟨ds,gs,before,[],pa,pv,hW,hres _ _ _,hargs _ hold,hvars _ hold,World.keptBut_mono (fun p hp=>⟨hp,?_⟩) (hb.frame (·∈before)),fun _=>?_⟩
 ·rw [hps,List.mem_append] at hp
  exact Or.inr hp
 ·obtain⟨_,_,_,_,_,hz,hn⟩:=hW
  refine⟨hok,_,_,([]++pa)++pv,⟨[]++pa,pv,trodAll_append (hargs _ (fun _ _=>rfl)) (hres _ _ _),hvars _ (fun _ _=>rfl),rfl,?_,?_⟩,?_⟩
  ·intro b off hp
   have hin:MemPlace.cell b off∈before:=by rw [hps];simpa using hp
   rw [hb.frozen (hlt _ hin)]
   exact hz b off hin
  ·intro ha
   have:=hn ha
   rw [hps] at this
   simpa using this
  ·intro p hp _
   rw [hps]
   simpa using hp
end
end Go.Av
namespace Go.Proofs.YtmjmdjbdoiddeaaGreatDoor
open Go Go.Av Go.RowKit
theorem q07 {l:List (String×DataW Unit)} {W:World}
  (hp:(l.filter fun x=>x.2.handleName?.isSome)=[])
  (hL:laidMetH Tryz.prog l W) (hs:W.ShapedOpen Tryz.prog)
  (h1 : ("internal/strconv.uint64pow10", Rows.laid_internal_strconv_uint64pow10) ∈ l) (h2 : ("strconv.ErrSyntax", Rows.laid_strconv_ErrSyntax) ∈ l) (h3 : ("strconv.ErrRange", Rows.laid_strconv_ErrRange) ∈ l) : E.L W.heap.size W := by
 unfold laidMetH at hL
 rw [hp] at hL
 simp only at hL
 intro w hb
 have g1 : Tryz.prog.globalNamed "internal/strconv.uint64pow10" = some 3 := by kernel_rfl
 have g2 : Tryz.prog.globalNamed "strconv.ErrSyntax" = some 1 := by kernel_rfl
 have g3 : Tryz.prog.globalNamed "strconv.ErrRange" = some 2 := by kernel_rfl
 have t1:=qm0 (k:=.u64) (zs:=Lib.pow10Tab) (t:=196) (e:=145) (n:=20) g1 (by kernel_rfl) (by kernel_rfl) (by kernel_rfl) (by kernel_rfl) (by kernel_rfl) (Lib.laidMet.reads hL h1)
 obtain⟨tp2,p2,v2⟩:=qhr (t:=27) g2 (by kernel_rfl) rfl (Lib.laidMet.reads hL h2)
 obtain⟨tp3,p3,v3⟩:=qhr (t:=27) g3 (by kernel_rfl) rfl (Lib.laidMet.reads hL h3)
 exact⟨hs.keptBut (hb.frame (fun _=>False)) (fun _ h=>h.elim),Go.Joins.var_stays g1 t1 hb (Nat.le_refl _),⟨tp2,p2,Go.Joins.var_stays g2 v2 hb (Nat.le_refl _)⟩,⟨tp3,p3,Go.Joins.var_stays g3 v3 hb (Nat.le_refl _)⟩⟩
end Go.Proofs.YtmjmdjbdoiddeaaGreatDoor
namespace Go.Pl
open Go
abbrev qd:=List UInt8
theorem qbm (l:qd) (c:UInt8):0≤Lib.index l [c]↔c∈l:=by
 induction l with
 |nil=>simp [Lib.index]
 |cons b l ih=>
  have hge:=Lib.index_ge l [c]
  unfold Lib.index
  by_cases hb:c=b
  ·subst hb
   simp [List.isPrefixOf]
  ·have hp:([c]:qd).isPrefixOf (b::l)=false:=by simp [List.isPrefixOf,hb]
   rw [hp]
   by_cases hm:Lib.index l [c] = -1
   ·have:c∉l:=fun h=>by have:=ih.2 h;omega
    simp [hm,hb,this]
   ·have:c∈l:=ih.1 (by omega)
    simp [hm,this]
    omega
theorem qh0 (l:qd) (c:UInt8):Lib.contains l [c]=decide (c∈l):=by
 unfold Lib.contains
 by_cases h:c∈l
 ·simp [h,(qbm l c).2 h]
 ·have:¬ 0≤Lib.index l [c]:=fun h'=>h ((qbm l c).1 h')
  simp [h,this]
theorem qho (l:qd) (c:UInt8):Lib.hasPrefix l [c]=decide (l.head? = some c):=by
 cases l with
 |nil=>simp [Lib.hasPrefix]
 |cons b l=>
  by_cases h:c=b
  ·simp [Lib.hasPrefix,List.isPrefixOf,h]
  ·simp [Lib.hasPrefix,List.isPrefixOf,h,Ne.symm h]
def xc (c:UInt8):Prop:=c=32∨c=9
instance (c:UInt8):Decidable (xc c):=inferInstanceAs (Decidable (c=32∨c=9))
def qc4 (l:qd):Prop:=∃ c,l.head? = some c∧xc c
instance (l:qd):Decidable (qc4 l):=
 match l with
 | []=>.isFalse (by rintro⟨c,h,_⟩;simp at h)
 |c::r=>decidable_of_iff (xc c) ⟨fun h=>⟨c,rfl,h⟩,fun ⟨d,h,hd⟩=>by simp at h;subst h;exact hd⟩
def yb (l:qd):Prop:=l≠[]∧l.length≤32∧¬ qc4 l∧¬ l.head? = some 35∧58∉l∧10∉l
instance (l:qd):Decidable (yb l):=inferInstanceAs (Decidable (_∧_∧_∧_∧_∧_))
theorem qfi (l:qd):yb l↔1≤l.length∧l.length≤32∧¬ xc (l.getD 0 0)∧l.getD 0 0≠35∧58∉l∧10∉l:=by
 cases l with
 |nil=>simp [yb]
 |cons c l=>simp [yb,qc4]
theorem qmg (c:UInt8) (l:qd):Lib.contains [32,9] [c]=decide (qc4 (c::l)):=by
 rw [qh0]
 have:qc4 (c::l)↔xc c:=⟨fun ⟨d,h,hd⟩=>by simp at h;subst h;exact hd,fun h=>⟨c,rfl,h⟩⟩
 simp [this,xc]
def upto (c:UInt8) (l:qd):qd:=l.takeWhile (·≠c)
def past (c:UInt8) (l:qd):qd:=l.drop ((upto c l).length+1)
theorem qlg (c:UInt8) (l:qd) (h:c∈l):Lib.index l [c]=((upto c l).length:Int):=by
 induction l with
 |nil=>simp at h
 |cons b l ih=>
  unfold Lib.index upto
  by_cases hb:b=c
  ·subst hb;simp [List.isPrefixOf]
  ·have hp:([c]:qd).isPrefixOf (b::l)=false:=by simp [List.isPrefixOf,Ne.symm hb]
   have hl:c∈l:=by simpa [Ne.symm hb] using h
   have e:=ih hl
   rw [hp]
   have:(Lib.index l [c] == -1)=false:=by rw [e];simp
   simp only [this]
   rw [e]
   simp [hb,upto]
theorem qfq (c:UInt8) (l:qd):l.take (upto c l).length=upto c l:=by
 induction l with
 |nil=>simp [upto]
 |cons b l ih=>
  by_cases hb:b=c
  ·simp [upto,hb]
  ·have:upto c (b::l)=b::upto c l:=by simp [upto,hb]
   rw [this]
   simp [ih]
theorem qcs {c:UInt8} {l:qd} (h:c∉l):upto c l=l:=by
 induction l with
 |nil=>rfl
 |cons b l ih=>
  have hb:b≠c:=fun e=>h (by simp [e])
  have:upto c (b::l)=b::upto c l:=by simp [upto,hb]
  rw [this,ih (fun h'=>h (by simp [h']))]
theorem qb4 (c:UInt8) (l:qd):(upto c l).length≤l.length:=by
 have:=congrArg List.length (qfq c l)
 simp at this
 omega
theorem qm4 {c:UInt8} {l:qd} (h:c∈l):(upto c l).length<l.length:=by
 induction l with
 |nil=>simp at h
 |cons b l ih=>
  by_cases hb:b=c
  ·simp [upto,hb]
  ·have:upto c (b::l)=b::upto c l:=by simp [upto,hb]
   rw [this]
   have:=ih (by simpa [Ne.symm hb] using h)
   simp
   omega
theorem qa8 (c:UInt8) (l:qd):(past c l).length=l.length - ((upto c l).length+1):=by simp [past]
theorem q0v (c:UInt8) (l:qd):Lib.cut l [c]=(upto c l,past c l,decide (c∈l)):=by
 unfold Lib.cut
 by_cases h:c∈l
 ·rw [if_pos ((qbm l c).2 h),qlg c l h]
  simp [qfq,past,h]
 ·rw [if_neg (fun h'=>h ((qbm l c).1 h'))]
  simp [qcs h,past,h]
theorem yz {c:UInt8} {l:qd} (h:l≠[]):(past c l).length<l.length:=by
 rw [qa8]
 have:=List.length_pos_iff.2 h
 omega
def kf (l:qd):List (qd×Bool):=
 if h:l=[] then [] else (upto 10 l,decide (10∈l))::kf (past 10 l)
 termination_by l.length
 decreasing_by exact yz h
theorem yj:kf []=[]:=by rw [kf];simp
theorem y0 {l:qd} (h:l≠[]):kf l=(upto 10 l,decide (10∈l))::kf (past 10 l):=by rw [kf];simp [h]
def qmm (b:Bool):qd:=if b then [10] else []
def qgr (by' l:qd):qd×Bool:=
 if ∀ x∈kf l,by' <+: x.1 then ((kf l).flatMap fun x=>x.1.drop by'.length++qmm x.2,true) else ([],false)
theorem qn7 (l m:qd):Lib.hasPrefix l m=true↔m <+: l:=by
 unfold Lib.hasPrefix
 exact List.isPrefixOf_iff_prefix
theorem qoe {l m:qd} (h:m <+: l):Lib.trimPrefix l m=l.drop m.length:=by
 unfold Lib.trimPrefix
 rw [if_pos ((qn7 l m).2 h)]
theorem qa3 {c:UInt8} {a:qd} (r:qd) (h:c∉a):upto c (a++c::r)=a:=by
 induction a with
 |nil=>simp [upto]
 |cons b a ih=>
  have hb:b≠c:=fun e=>h (by simp [e])
  have h2:c∉a:=fun e=>h (by simp [e])
  have e:upto c (b::(a++c::r))=b::upto c (a++c::r):=by simp [upto,hb]
  rw [List.cons_append,e,ih h2]
theorem qcp {c:UInt8} {a:qd} (r:qd) (h:c∉a):past c (a++c::r)=r:=by
 unfold past
 rw [qa3 r h,show a++c::r=(a++[c])++r by simp,show a.length+1=(a++[c]).length by simp,List.drop_left]
theorem qbq {c:UInt8} {l:qd} (h:c∈l):l=upto c l++c::past c l:=by
 induction l with
 |nil=>simp at h
 |cons b l ih=>
  by_cases hb:b=c
  ·subst hb;simp [upto,past]
  ·have h2:c∈l:=by simpa [Ne.symm hb] using h
   have e1:upto c (b::l)=b::upto c l:=by simp [upto,hb]
   have e2:past c (b::l)=past c l:=by simp [past,e1]
   rw [e1,e2,List.cons_append,← ih h2]
theorem qej (c:UInt8) (l:qd):c∉upto c l:=by
 induction l with
 |nil=>simp [upto]
 |cons b l ih=>
  by_cases hb:b=c
  ·simp [upto,hb]
  ·have e1:upto c (b::l)=b::upto c l:=by simp [upto,hb]
   rw [e1]
   simp [Ne.symm hb,ih]
def z8 (l:qd):qd:=l.takeWhile (·≠58)
theorem qr6 (l:qd) (h:58∈l):Lib.index l [58]=((z8 l).length:Int):=by
 induction l with
 |nil=>simp at h
 |cons b l ih=>
  unfold Lib.index z8
  by_cases hb:b=58
  ·subst hb;simp [List.isPrefixOf]
  ·have hp:([58]:qd).isPrefixOf (b::l)=false:=by simp [List.isPrefixOf,Ne.symm hb]
   have hl:58∈l:=by simpa [Ne.symm hb] using h
   have e:=ih hl
   rw [hp]
   have:(Lib.index l [58] == -1)=false:=by rw [e];simp
   simp only [this]
   rw [e]
   simp [hb,z8]
theorem qrf (l:qd):l.take (z8 l).length=z8 l:=by
 induction l with
 |nil=>simp [z8]
 |cons b l ih=>
  by_cases hb:b=58
  ·simp [z8,hb]
  ·have:z8 (b::l)=b::z8 l:=by simp [z8,hb]
   rw [this]
   simp [ih]
def vu (l:qd):qd:=l.drop ((z8 l).length+1)
theorem qnb (l:qd):Lib.cut l [58]=if 58∈l then (z8 l,vu l,true) else (l,[],false):=by
 unfold Lib.cut
 by_cases h:58∈l
 ·rw [if_pos ((qbm l 58).2 h),if_pos h,qr6 l h]
  simp [qrf,vu]
 ·rw [if_neg (fun h'=>h ((qbm l 58).1 h')),if_neg h]
theorem qlm {l:qd} {k:Nat} (h:58∉l.take k) (hk:k<l.length) (e:l.getD k 0=58):z8 l=l.take k∧58∈l:=by
 induction l generalizing k with
 |nil=>simp at hk
 |cons b l ih=>
  cases k with
  |zero=>simp at e;subst e;simp [z8]
  |succ k=>
   simp only [List.take_succ_cons,List.mem_cons,not_or] at h
   obtain⟨h1,h2⟩:=ih h.2 (by simpa using hk) (by simpa using e)
   have:z8 (b::l)=b::z8 l:=by simp [z8,Ne.symm h.1]
   exact⟨by rw [this,h1];rfl,by simp [h2]⟩
def qcd (l:qd):qd×qd×Bool:=if 10∉l∧58∈l∧yb (z8 l) then (z8 l,vu l,true) else ([],[],false)
def ql (l:qd):Int:=
 if 10∈l then 5 else if ∀ c∈l,xc c then 1 else if l.head? = some 35 then 2 else if qc4 l then 3
 else if 58∈l∧yb (z8 l) then 4 else 5
theorem qjq {l:qd} (h:10∉l) (hb:¬ ∀ c∈l,xc c):0<l.length∧ql l=if l.getD 0 0=35 then 2 else if xc (l.getD 0 0) then 3 else if 58∈l∧yb (z8 l) then 4 else 5:=by
 cases l with
 |nil=>simp at hb
 |cons c l=>
  have e:qc4 (c::l)↔xc c:=⟨fun ⟨d,h,hd⟩=>by simp at h;subst h;exact hd,fun h=>⟨c,rfl,h⟩⟩
  refine⟨by simp,?_⟩
  unfold ql
  rw [if_neg h,if_neg hb]
  simp [e]
theorem qhm {α : Type} (p : α→Bool) (l:List α):l.dropWhile p=[]↔∀ x∈l,p x=true:=by
 induction l with
 |nil=>simp
 |cons a l ih=>
  by_cases h:p a=true
  ·simp [h,ih]
  ·simp [h]
theorem qyu {α : Type} (p : α→Bool) (l:List α):(l.reverse.dropWhile p).reverse.dropWhile p=[]↔∀ x∈l,p x=true:=by
 rw [qhm]
 constructor
 ·intro h x hx
  by_cases hq:∀ y∈l,p y=true
  ·exact hq x hx
  ·have hr:¬ ∀ y∈l.reverse,p y=true:=fun h'=>hq fun y hy=>h' y (by simpa using hy)
   rw [← qhm] at hr
   obtain⟨a,r,hd⟩:=List.exists_cons_of_ne_nil hr
   have h1:=List.head?_dropWhile_not p l.reverse
   rw [hd] at h1
   have h2:=h a (by simp [hd])
   simp [h2] at h1
 ·intro h x hx
  exact h x (by
   have:=(List.dropWhile_sublist (l:=l.reverse) p).subset (by simpa using hx)
   simpa using this)
theorem qx6 (l m:qd):Lib.trimS l m=[]↔∀ c∈l,c∈m:=by
 unfold Lib.trimS Lib.trimLeftS Lib.trimRightS
 rw [qyu]
 simp
theorem quc (l m:qd):(Lib.cut l m).1.length≤l.length:=by
 unfold Lib.cut
 split
 ·simp;omega
 ·simp
def qdp (l:qd):Prop:=2≤l.length∧l.length≤50000∧l.getLast? = some 10∧(qgr [32] l).2=true
instance (l:qd):Decidable (qdp l):=inferInstanceAs (Decidable (_∧_∧_∧_))
def qok (n:Nat) (fig:qd):qd:=[37,97,109,101,110,100,32]++Lib.itoa n++[32]++fig++[10]
def qem (n:Nat):qd:=[37,101,110,100,32]++Lib.itoa n++[10]
theorem qei:∀ (k u:Nat),u<10 ^ (k+1)→Lib.nDigits u≤k+1
 | 0,u,h=>by rw [Lib.nDigits_small (by simpa using h)];omega
 |k+1,u,h=>by
  by_cases h':u<10
  ·rw [Lib.nDigits_small h'];omega
  ·rw [Lib.nDigits_big h']
   have:=qei k (u / 10) (by rw [Nat.pow_succ] at h;omega)
   omega
theorem qf1 {l:qd} {v:Int} (h:Lib.atoiAll l = .ok v) : -9223372036854775808≤v∧v≤9223372036854775807:=by
 unfold Lib.atoiAll at h
 cases l with
 |nil=>simp at h
 |cons c r=>
  simp only at h
  split at h
  ·simp at h
  ·simp at h
  ·split at h
   ·simp at h
   ·split at h
    ·simp at h
    ·rename_i h1 h2
     simp only [Lib.NumEnd.ok.injEq] at h
     subst h
     by_cases hn:c.toNat=45
     ·simp only [hn,true_and,not_true,if_true] at *
      omega
     ·simp only [hn,not_false_iff,true_and,if_false] at *
      omega
def yf (l:qd):Nat:=
 match Lib.atoiAll l with
 | .ok v=>if Lib.itoa v=l∧1≤v∧v≤50000 then v.toNat else 0
 | _=>0
def xd:qd:=[37,97,109,101,110,100,32]
def hexL:qd:=[48,49,50,51,52,53,54,55,56,57,97,98,99,100,101,102]
def qao (l:qd):Prop:=∀ c∈l,c∈hexL
instance (l:qd):Decidable (qao l):=inferInstanceAs (Decidable (∀ c∈l,c∈hexL))
def xu (l:qd):Nat×qd×Bool:=
 (yf (upto 32 (Lib.trimPrefix l xd)),past 32 (Lib.trimPrefix l xd),
  decide (xd <+: l∧32∈Lib.trimPrefix l xd∧2≤yf (upto 32 (Lib.trimPrefix l xd))∧(past 32 (Lib.trimPrefix l xd)).length=8∧qao (past 32 (Lib.trimPrefix l xd))))
def qez (l:qd):Bool:=
 if xd <+: l then decide (¬ (32∈l.drop 7∧yf (upto 32 (l.drop 7))<2)∧¬ (upto 32 (l.drop 7)≠[]∧yf (upto 32 (l.drop 7))=0)∧(past 32 (l.drop 7)).length≤8∧qao (past 32 (l.drop 7)))
 else decide (l <+: xd)
theorem qu4 {l:qd} {v:Int} (h:Lib.atoiAll l = .ok v):(yf l:Int)=if Lib.itoa v=l∧1≤v∧v≤50000 then v else 0:=by
 unfold yf
 rw [h]
 simp only
 split
 ·omega
 ·rfl
theorem qc9 (l:qd):yf l≤50000:=by
 unfold yf
 split
 ·split
  ·omega
  ·omega
 ·omega
def q1a (n:Int):Int:=if n<2∨50000<n then 0 else (qok n.toNat [48,48,48,48,48,48,48,48]).length+n+(qem n.toNat).length
def qi6 (body:qd) (lack:Int):Int:=
 if (qgr [32] body).2=true∧¬ ((body=[]∨body.getLast? = some 10)∧lack<2) then 2 else 3
theorem qrd (n:Nat):(qem n).length=(Lib.itoa n).length+6:=by simp [qem] <;> omega
theorem qrz {u:Nat} (h:u<10):(([48,49,50,51,52,53,54,55,56,57]:qd).take (u+1)).drop u=Lib.decDigits u:=by
 rw [Lib.decDigits_one h]
 have:u=0∨u=1∨u=2∨u=3∨u=4∨u=5∨u=6∨u=7∨u=8∨u=9:=by omega
 rcases this with rfl|rfl|rfl|rfl|rfl|rfl|rfl|rfl|rfl|rfl <;> rfl
theorem yo {u:Nat} (h:¬ u<10):Lib.decDigits u=Lib.decDigits (u / 10)++Lib.decDigits (u % 10):=by
 rw [Lib.decDigits,dif_neg h,Lib.decDigits_one (Nat.mod_lt u (by omega))]
theorem qcm {u:Nat} (h:u<18446744073709551616):(Lib.decDigits u).length≤20:=by
 rw [Lib.decDigits_length]
 exact qei 19 u (by omega)
end Go.Pl
namespace Go.Proofs.YtmjmdjbdoiddeaaGreatDoor
open Go Go.Av Go.RowKit Go.Proofs Go.Pl
theorem qjl (l:List UInt8) (c:UInt8) (st:List AObj) (hl:l.length<4294967281):qp E 48 [Sv l,Sv [c]] st fun r st'=>r=Bv (decide (c∈l))∧st'=st:=by
 rw [← qh0];exact qk5 l [c] st hl
theorem qh5 (l:List UInt8) (c:UInt8) (st:List AObj):qp E 47 [Sv l,Sv [c]] st fun r st'=>r=Bv (decide (l.head? = some c))∧st'=st:=by
 rw [← qho];exact qr3 l [c] st
theorem qsv (l:List UInt8) (st:List AObj):qp E 46 [Sv l] st fun r st'=>r=Bv (decide (qc4 l))∧st'=st:=by
 refine zl (q7 _) (qw Tryz.func46 rfl (Nat.le_of_ble_eq_true rfl) ?_)
 cases l with
 |nil=>
  repeat' (first|apply q4|apply qn|apply qs|apply qu|apply qo|(apply z4;(iterate 3 exact rfl))|(apply qr;(iterate 4 exact rfl))|(apply ju;exact cRa)|(apply qe;exact rfl;apply pk_f;exact cRa)|apply ze)
  refine qm rfl (zv rfl) ⟨congrArg Bv (?_:_=_),_,rfl⟩
  simp [qc4]
 |cons c l=>
  have hne:¬ (c::l)=[]:=by simp
  repeat' (first|apply q4|apply qn|apply qs|apply qu|apply qo|(apply z4;(iterate 3 exact rfl))|(apply qr;(iterate 4 exact rfl))|(apply kl;exact cAo)|(apply qe;exact rfl;apply we;exact cAo)|apply ze|refine qb5 rfl rfl rfl ⟨_,rfl⟩ (by omega) (by omega) (by simp;omega) ?_|(apply qx;exact Tryz.call48;exact qk5 _ _ _ (by simp)))
  refine qm rfl (zv rfl) ⟨congrArg Bv (?_:_=_),_,rfl⟩
  exact qmg c l
theorem quu (l:List UInt8) (st:List AObj) (hl:l.length<4294967281):qp E 28 [Sv l] st fun r st'=>r=Bv (decide (yb l))∧st'=st:=by
 refine zl (q7 _) (qw Tryz.func28 rfl (Nat.le_of_ble_eq_true rfl) ?_)
 repeat' (first|apply q4|apply qn|apply qs|apply qu|apply qo|(apply qz;(iterate 3 exact rfl))|(apply z4;(iterate 3 exact rfl))|(apply jf;exact rfl)|(apply qr;(iterate 4 exact rfl))|(apply jo;exact cAo)|(apply jh;exact cAo)|(apply ki;exact cRa)|(apply jr;exact cRa)|(apply js <;> intro h)|(apply ke;exact cRa)|(apply z3 <;> intro h)|(apply qe;exact rfl;apply we;exact cAo)|(apply qe;exact rfl;apply wi;exact cAo)|(apply qe;exact rfl;apply xy;exact cRa)|(apply qe;exact rfl;apply xx;exact cRa)|(apply qe;exact rfl;apply pk_t;exact cRa)|(apply qc;exact rfl;apply cd_t;exact cRa)|(apply qc;exact rfl;apply cd_d <;> intro h)|(apply zm;(iterate 3 exact rfl))|apply zb|apply ze|(apply qx;exact Tryz.call48;exact qjl _ _ _ hl)|(apply qx;exact Tryz.call47;exact qh5 _ _ _)|(apply qx;exact Tryz.call46;exact qsv _ _))
 all_goals refine qm rfl (zv rfl) ⟨congrArg Bv (?_:_=_),_,rfl⟩
 all_goals simp [yb, *]
 all_goals omega
theorem qg9 (c:UInt8) (st:List AObj):qp E 57 [Uv c] st fun r st'=>r=Bv (decide (xc c))∧st'=st:=by
 refine zl (q7 _) (qw Tryz.func57 rfl (Nat.le_of_ble_eq_true rfl) ?_)
 repeat' (first|apply q4|apply qn|apply qs|apply qu|apply qo|(apply qz;(iterate 3 exact rfl))|(apply qr;(iterate 4 exact rfl))|(apply jo;exact cAo)|(apply jh;exact cAo)|(apply z3 <;> intro h)|(apply qe;exact rfl;apply we;exact cAo)|(apply qe;exact rfl;apply wi;exact cAo)|apply ze)
 all_goals refine qm rfl (zv rfl) ⟨congrArg Bv (?_:_=_),_,rfl⟩
 all_goals simp_all [xc,qvo,u8_9]
theorem qqu (l:List UInt8) (st:List AObj) (hl:l.length<4294967281):qp E 38 [Sv l] st fun r st'=>r=Bv (decide (yb l))∧st'=st:=by
 refine zl (q7 _) (qw Tryz.func38 rfl (Nat.le_of_ble_eq_true rfl) ?_)
 repeat' (first|apply q4|apply za|apply qn|apply qs|apply qu|apply qo|(apply qz;(iterate 3 exact rfl))|(apply qr;(iterate 4 exact rfl))|(apply jo;exact cAo)|(apply jh;exact cAo)|(apply ke;exact cRa)|(apply z3 <;> intro h)|(apply qe;exact rfl;apply we;exact cAo)|(apply qe;exact rfl;apply wi;exact cAo)|(apply qe;exact rfl;apply pk_t;exact cRa)|(apply qc;exact rfl;apply cd_t;exact cRa)|(apply qc;exact rfl;apply cd_d <;> intro h)|(apply zm;(iterate 3 exact rfl))|(apply jd;(iterate 3 exact rfl);exact cAs)|apply zb|apply ze|(apply qx;exact Tryz.call57;exact qg9 _ _))
 rotate_left 4
 ·refine xk (fun (k:Nat) s=>k≤l.length∧58∉l.take k∧10∉l.take k∧StA [(0,Sv l),(3,Iv k)] (st++[]) [] s) (fun k=>l.length - k) 0 ⟨by omega,by simp,by simp,wr ⟨rfl,rfl,trivial⟩⟩ ?_
  rintro k _ ⟨hk,h1,h2,t,rfl⟩
  repeat' (first|apply q4|apply za|apply qn|apply qs|apply qu|apply qo|(apply qz;(iterate 3 exact rfl))|(apply qr;(iterate 4 exact rfl))|(apply jo;exact cAo)|(apply jh;exact cAo)|(apply z3 <;> intro h)|(apply qe;exact rfl;apply we;exact cAo)|(apply qe;exact rfl;apply wi;exact cAo)|(apply qc;exact rfl;apply cd_t;exact cRa)|(apply qc;exact rfl;apply cd_d <;> intro h)|(apply zm;(iterate 3 exact rfl))|(apply z6;exact rfl;exact rfl;exact qj (by omega) (by omega))|(apply jd;(iterate 3 exact rfl);exact cAs)|apply zb|apply jg|apply ze)
  rotate_left 2
  ·exact⟨k+1,⟨by omega,qbz (by omega) h1 (by simp_all [qma]),qbz (by omega) h2 (by simp_all [qcj]),wr ⟨rfl,rfl,trivial⟩⟩,by omega⟩
  all_goals refine qm rfl (zv rfl) ⟨congrArg Bv (?_:_=_),_,rfl⟩
  ·have e:k=l.length:=by omega
   subst e
   simp_all [qfi,qjb]
   omega
  ·have:=qf8 (l:=l) (k:=k) (by omega)
   simp_all [qfi,qma]
  ·have:=qf8 (l:=l) (k:=k) (by omega)
   simp_all [qfi,qcj]
 all_goals refine qm rfl (zv rfl) ⟨congrArg Bv (?_:_=_),_,rfl⟩
 all_goals simp_all [qfi,qjb]
 all_goals omega
theorem qqr (l:List UInt8) (st:List AObj) (hl:l.length<4294967281):qp E 58 [Sv l] st fun r st'=>r = .tu [Sv (qcd l).1,Sv (qcd l).2.1,Bv (qcd l).2.2]∧st'=st:=by
 refine zl (qii _ _ _) (qw Tryz.func58 rfl (Nat.le_of_ble_eq_true rfl) ?_)
 repeat' (first|apply q4|apply za|apply qn|apply qs|apply qo)
 refine xk (fun (k:Nat) s=>k≤l.length∧10∉l.take k∧StA [(0,Sv l),(2,Sv []),(3,Sv []),(4,Bv false),(5,Iv k)] (st++[]) [] s) (fun k=>l.length - k) 0 ⟨by omega,by simp,wr ⟨rfl,rfl,rfl,rfl,rfl,trivial⟩⟩ ?_
 rintro k _ ⟨hk,h1,t,rfl⟩
 repeat' (first|apply q4|apply za|apply qn|apply qs|apply qu|apply qo|(apply qz;(iterate 3 exact rfl))|(apply qc;exact rfl;apply cd_d <;> intro h)|(apply zm;(iterate 3 exact rfl))|(apply z6;exact rfl;exact rfl;exact qj (by omega) (by omega))|(apply jd;(iterate 3 exact rfl);exact cAs)|apply zb|apply jg|apply ze)
 rotate_left 1
 ·exact⟨k+1,⟨by omega,qbz (by omega) h1 (by simp_all [qcj]),wr ⟨rfl,rfl,rfl,rfl,rfl,trivial⟩⟩,by omega⟩
 ·have e:k=l.length:=by omega
  subst e
  rw [List.take_length] at h1
  refine xk (fun (k:Nat) s=>k≤l.length∧58∉l.take k∧StA [(0,Sv l),(2,Sv []),(3,Sv []),(4,Bv false),(6,Iv k)] (st++[]) [] s) (fun k=>l.length - k) 0 ⟨by omega,by simp,wr ⟨rfl,rfl,rfl,rfl,rfl,trivial⟩⟩ ?_
  rintro k _ ⟨hk,h2,t,rfl⟩
  repeat' (first|apply q4|apply za|apply qn|apply qs|apply qu|apply qo|(apply qz;(iterate 3 exact rfl))|(apply jf;exact rfl)|(apply qc;exact rfl;apply cd_n <;> intro h)|(apply qc;exact rfl;apply cd_d <;> intro h)|(apply zm;(iterate 3 exact rfl))|(apply z6;exact rfl;exact rfl;exact qj (by omega) (by omega))|(apply jd;(iterate 3 exact rfl);exact cAs)|(apply kc;(iterate 3 exact rfl);exact cAs)|(apply vk;exact rfl;kernel_rfl)|apply wx|apply v5|apply kh|(apply ww;exact rfl;exact rfl;exact qj (by omega) (by omega))|(apply v6;(iterate 3 exact rfl);exact cAs)|(apply vz;(iterate 3 exact rfl);exact cAs)|apply zb|apply jg|apply ze|(apply qx;exact Tryz.call38;exact qqu _ _ (by simp;omega)))
  rotate_left 2
  ·exact⟨k+1,⟨by omega,qbz (by omega) h2 (by simp_all [qma]),wr ⟨rfl,rfl,rfl,rfl,rfl,trivial⟩⟩,by omega⟩
  all_goals refine qm rfl (qec rfl) ⟨qri (?_:_=_),_,rfl⟩
  ·have e:k=l.length:=by omega
   subst e
   rw [List.take_length] at h2
   simp [qcd,h2]
  ·obtain⟨e1,e2⟩:=qlm h2 (by omega) (by simp_all [qma])
   simp_all [qcd]
  ·obtain⟨e1,e2⟩:=qlm h2 (by omega) (by simp_all [qma])
   have hk':k<l.length:=by omega
   have hk2:(l.take k).length=k:=by simp;omega
   have hkey:yb (l.take k):=by simp_all
   simp only [qcd,vu,e1,e2,h1,hkey,hk2]
   simp
 ·refine qm rfl (qec rfl) ⟨qri (?_:_=_),_,rfl⟩
  have:=qf8 (l:=l) (k:=k) (by omega)
  simp_all [qcd,qcj]
theorem qik (l:List UInt8) (st:List AObj) (hl:l.length<4294967281):qp E 33 [Sv l] st fun r st'=>r=Iv (ql l)∧st'=st:=by
 refine zl (q7 _) (qw Tryz.func33 rfl (Nat.le_of_ble_eq_true rfl) ?_)
 repeat' (first|apply q4|apply za|apply qn|apply qs|apply qo)
 refine xk (fun (k:Nat) s=>k≤l.length∧10∉l.take k∧∃ b,(b=true↔∀ c∈l.take k,xc c)∧StA [(0,Sv l),(3,Bv b),(4,Iv k)] (st++[]) [] s) (fun k=>l.length - k) 0 ⟨by omega,by simp,true,by simp,wr ⟨rfl,rfl,rfl,trivial⟩⟩ ?_
 rintro k _ ⟨hk,h1,b,hb,t,rfl⟩
 repeat' (first|apply q4|apply za|apply qn|apply qs|apply qu|apply qo|(apply qz;(iterate 3 exact rfl))|(apply qr;(iterate 4 exact rfl))|(apply vc;exact cRa)|(apply ju;exact cRa)|(apply vd <;> intro h)|(apply qe;exact rfl;apply pk_t;exact cRa)|(apply qe;exact rfl;apply pk_f;exact cRa)|(apply qc;exact rfl;apply cd_d <;> intro h)|(apply qc;exact rfl;apply cd_s <;> intro h)|(apply zm;(iterate 3 exact rfl))|(apply z6;exact rfl;exact rfl;exact qj (by omega) (by omega))|(apply jd;(iterate 3 exact rfl);exact cAs)|apply zb|apply jg|apply ze|(apply qx;exact Tryz.call57;exact qg9 _ _))
 ·refine qm rfl (zv rfl) ⟨congrArg Iv (?_:_=_),_,rfl⟩
  have:=qf8 (l:=l) (k:=k) (by omega)
  simp_all [ql,qcj]
 ·exact⟨k+1,⟨by omega,qbz (by omega) h1 (by simp_all [qcj]),_,by rw [qou (by omega),decide_eq_true_iff,← hb];simp [*],wr ⟨rfl,rfl,rfl,trivial⟩⟩,by omega⟩
 ·exact⟨k+1,⟨by omega,qbz (by omega) h1 (by simp_all [qcj]),_,by rw [qou (by omega),← hb];simp [*],wr ⟨rfl,rfl,rfl,trivial⟩⟩,by omega⟩
 ·refine qm rfl (zv rfl) ⟨congrArg Iv (?_:_=_),_,rfl⟩
  have e:k=l.length:=by omega
  subst e
  simp_all [ql]
 ·have e:k=l.length:=by omega
  subst e
  rw [List.take_length] at h1 hb
  obtain⟨h0,hk⟩:=qjq h1 (fun h=>by simp_all)
  repeat' (first|apply q4|apply qn|apply qs|apply qu|apply qo|(apply zi;exact rfl;exact rfl)|(apply qz;(iterate 3 exact rfl))|(apply qc;exact rfl;apply cd_d <;> intro h)|(apply qc;exact rfl;apply cd_s <;> intro h)|(apply jd;(iterate 3 exact rfl);exact cAs)|apply zb|apply ze|(apply qx;exact Tryz.call57;exact qg9 _ _)|(apply qx;exact Tryz.call58;exact qqr _ _ hl))
  all_goals refine qm rfl (zv rfl) ⟨congrArg Iv (?_:_=_),_,rfl⟩
  ·simp_all [qjb]
  ·simp_all [qjb]
  ·have hc:58∈l∧yb (z8 l):=by
    apply Classical.byContradiction
    intro hn
    have:qcd l=([],[],false):=by unfold qcd;rw [if_neg (fun h=>hn h.2)]
    simp_all
   simp_all [qjb]
  ·have hc:¬ (58∈l∧yb (z8 l)):=fun hn=>by
    have:qcd l=(z8 l,vu l,true):=by unfold qcd;rw [if_pos ⟨h1,hn⟩]
    simp_all
   simp_all [qjb]
theorem qh8 (l:List UInt8) (st:List AObj) (hl:l.length<4294967281):qp E 51 [Sv l] st fun r st'=>r=Iv (ql l)∧st'=st:=by
 refine zl (q7 _) (qw Tryz.func51 rfl (Nat.le_of_ble_eq_true rfl) ?_)
 repeat' (first|apply q4|apply za|apply qn|apply qs|apply qu|apply qo|(apply zi;exact rfl;exact rfl)|(apply z4;(iterate 3 exact rfl))|(apply qr;(iterate 4 exact rfl))|(apply vc;exact cRa)|(apply ju;exact cRa)|(apply vd <;> intro h)|(apply qe;exact rfl;apply pk_t;exact cRa)|(apply qe;exact rfl;apply pk_f;exact cRa)|(apply qc;exact rfl;apply cd_f;exact cRa)|(apply qc;exact rfl;apply cd_d <;> intro h)|apply zb|apply ze|(apply qx;exact Tryz.call48;exact qjl _ _ _ hl)|(apply qx;exact Tryz.call70;exact q3h _ _ _ (by omega) (by simp) (by intro j b h;match j with | 0=>simp at h;subst h;decide | 1=>simp at h;subst h;decide|j+2=>simp at h))|(apply qx;exact Tryz.call47;exact qh5 _ _ _)|(apply qx;exact Tryz.call46;exact qsv _ _)|(apply qx;exact Tryz.call50;exact qub _ _ _ hl)|(apply qx;exact Tryz.call28;exact quu _ _ (Nat.lt_of_le_of_lt (quc _ _) hl)))
 all_goals refine qm rfl (zv rfl) ⟨congrArg Iv (?_:_=_),_,rfl⟩
 all_goals have hb:Lib.trimS l [32,9]=[]↔∀ c∈l,xc c:=by rw [qx6];simp [xc]
 all_goals by_cases hA:∀ c∈l,xc c <;> by_cases hC:58∈l <;> by_cases hK:yb (z8 l) <;> simp_all [ql,qnb]
theorem q2n (l:List UInt8) (c:UInt8) (st:List AObj) (hl:l.length<4294967281):qp E 50 [Sv l,Sv [c]] st fun r st'=>r = .tu [Sv (upto c l),Sv (past c l),Bv (decide (c∈l))]∧st'=st:=by
 have:=qub l [c] st hl
 rw [q0v] at this
 exact this
@[reducible] def qom (k : Nat) (text rest : List UInt8) : AV := .ag [Iv k, Iv ((text.length : Int) - rest.length), Sv (upto 10 rest), Bv (decide (10 ∈ rest))]
theorem q1y (text:List UInt8) (st st':List AObj) (n:Nat) (hn:st.length=n) (hst:st++[.cells 0 9 [Sv text]]=st'):qp E 29 [Sv text] st fun r st1=>r = .fn (.func 49) [] [.bx n 0 0]∧st1=st':=by
 subst hn
 subst hst
 refine qw Tryz.func29 rfl (Nat.le_of_ble_eq_true rfl) ?_
 repeat' (first|apply q4|apply qn|apply qs|apply qo|apply zn|(apply kz;(iterate 4 exact rfl))|apply ze)
 exact qm rfl (zv rfl) ⟨rfl,rfl⟩
def q2l (x:BitVec 32):BitVec 32:=if x &&& 2147483648#32≠0#32 then (x <<< 1) ^^^ 79764919#32 else x <<< 1
def qsy:Nat→BitVec 32→BitVec 32
 | 0,x=>x
 |n+1,x=>q2l (qsy n x)
def rowT (i:Nat):BitVec 32:=qsy 4 (BitVec.ofNat 32 i <<< 28)
def crcN (x:BitVec 32) (n:Nat):BitVec 32:=(x <<< 4) ^^^ rowT ((x >>> 28) ^^^ BitVec.ofNat 32 n).toNat
def crcP (x:BitVec 32) (c:UInt8):BitVec 32:=crcN (crcN x (c.toNat / 16)) (c.toNat % 16)
def addP (s:BitVec 32) (l:List UInt8):BitVec 32:= ~~~ (l.foldl crcP (~~~ s))
def figP (s:BitVec 32) (j:Nat):UInt8:=[48,49,50,51,52,53,54,55,56,57,97,98,99,100,101,102].getD ((s >>> (4 * (7 - j))) &&& BitVec.ofInt 32 15).toNat 0
def qui (s:BitVec 32) (n:Nat):List UInt8:=(List.range n).map (figP s)
def sumF (l:List UInt8):List UInt8:=qui (addP 0 l) 8
def qsx (rest body sums:List UInt8) (size:Int):Int×List UInt8×Int:=
 if rest.length<(qem body.length).length∧rest <+: qem body.length then (2,[],0)
 else if qem body.length <+: rest∧sums=sumF body then (1,body,size) else (3,[],0)
def qdb (l:List UInt8):Int×List UInt8×Int:=
 if 10∈l then
  if (xu (upto 10 l)).2.2=true then
   if (past 10 l).length<(xu (upto 10 l)).1 then (qi6 (past 10 l) ((xu (upto 10 l)).1 - (past 10 l).length),[],0)
   else if qdp ((past 10 l).take (xu (upto 10 l)).1) then qsx ((past 10 l).drop (xu (upto 10 l)).1) ((past 10 l).take (xu (upto 10 l)).1) (xu (upto 10 l)).2.1 (q1a (xu (upto 10 l)).1)
   else (3,[],0)
  else (3,[],0)
 else if qez l=true then (2,[],0) else (3,[],0)
def recF (l:List UInt8):List UInt8:=qok l.length (sumF l)++l++qem l.length
theorem qen:∀ (n u:Nat),u<n→u<18446744073709551616→∀ st,qp E 76 [.v (.int .u64 (u:Int))] st fun r st'=>r=Sv (Lib.decDigits u)∧st'=st
 | 0,_,h,_,_=>absurd h (Nat.not_lt_zero _)
 |n+1,u,hu,h64,st=>by
  refine zl (q7 _) (qw Tryz.func76 rfl (Nat.le_of_ble_eq_true rfl) ?_)
  have hl1:=qcm (u:=u / 10) (by omega)
  have hl2:=qcm (u:=u % 10) (by omega)
  by_cases h10:u<10
  ·skip
   repeat' (first|apply q4|apply qn|apply qs|apply qu|apply qo|(apply qz;(iterate 3 exact rfl))|(apply qc;exact rfl;apply wo;exact cAo)|(apply jt;(iterate 4 exact rfl);exact cAs;exact cAs)|apply ze|(apply qvz (n:=1);exact rfl;exact rfl;exact qgj (by omega)))
   exact qm rfl (zv rfl) ⟨congrArg Sv (qrz h10),_,rfl⟩
  ·have ih1:=qen n (u / 10) (by omega) (by omega)
   have ih2:=qen n (u % 10) (by omega) (by omega)
   repeat' (first|apply q4|apply qn|apply qs|apply qu|apply qo|(apply qz;(iterate 3 exact rfl))|(apply qc;exact rfl;apply wv;exact cAo)|(apply z7;exact rfl;exact rfl;exact cOs)|apply zb|apply ze|(apply qv2 (n:=10);exact rfl;exact rfl;omega;exact qgj (by omega))|(apply qv3 (n:=10);exact rfl;exact rfl;omega)|(apply qx;exact Tryz.call76;exact ih1 _)|(apply qx;exact Tryz.call76;exact ih2 _))
   exact qm rfl (zv rfl) ⟨congrArg Sv (yo h10).symm,_,rfl⟩
theorem qqs (k:Nat) (st:List AObj) (hk:k≤9223372036854775807):qp E 62 [Iv k] st fun r st'=>r=Sv (Lib.itoa k)∧st'=st:=by
 refine zl (q7 _) (qw Tryz.func62 rfl (Nat.le_of_ble_eq_true rfl) ?_)
 have hneg:¬ (k:Int)<0:=by omega
 repeat' (first|apply q4|apply qn|apply qs|apply qu|apply qo|(apply qz;(iterate 3 exact rfl))|(apply qc;exact rfl;apply wv;exact cAo)|apply zb|apply ze|(apply qc2;(iterate 3 exact rfl);exact qgj (by omega))|(apply qx;exact Tryz.call76;exact qen (k+1) k (by omega) (by omega) _))
 exact qm rfl (zv rfl) ⟨congrArg Sv (by unfold Lib.itoa;rw [if_neg hneg];simp),_,rfl⟩
def qli (c:UInt8):Bool:=decide (48≤c.toNat∧c.toNat≤57)
end Go.Proofs.YtmjmdjbdoiddeaaGreatDoor
namespace Go.Pl
open Go
def decV (l:qd):Nat:=l.foldl (fun a c=>10 * a+(c.toNat - 48)) 0
theorem qh1 (l:qd) (c:UInt8):decV (l++[c])=10 * decV l+(c.toNat - 48):=by simp [decV]
theorem xb:∀ (n u:Nat),u≤n→∀ c∈Lib.decDigits u,48≤c.toNat∧c.toNat≤57
 |n,u,hn,c,hc=>by
  by_cases h:u<10
  ·rw [Lib.decDigits_one h] at hc
   simp only [List.mem_singleton] at hc
   subst hc
   rw [UInt8.toNat_ofNat']
   omega
  ·rw [yo h,List.mem_append] at hc
   cases n with
   |zero=>omega
   |succ n=>
    rcases hc with hc|hc
    ·exact xb n (u / 10) (by omega) c hc
    ·exact xb n (u % 10) (by omega) c hc
theorem qj3:∀ (n u:Nat),u≤n→decV (Lib.decDigits u)=u
 |n,u,hn=>by
  have key:∀ d,d<10→Lib.decDigits d=[UInt8.ofNat (48+d)]∧(UInt8.ofNat (48+d)).toNat - 48=d:=fun d hd=>by
   refine⟨Lib.decDigits_one hd,?_⟩
   rw [UInt8.toNat_ofNat']
   omega
  by_cases h:u<10
  ·obtain⟨e1,e2⟩:=key u h
   rw [e1]
   exact (Nat.zero_add _).trans e2
  ·cases n with
   |zero=>omega
   |succ n=>
    obtain⟨e1,e2⟩:=key (u % 10) (by omega)
    rw [yo h,e1,qh1,qj3 n (u / 10) (by omega),e2]
    omega
theorem qcf (u:Nat):1≤(Lib.decDigits u).length:=by
 rw [Lib.decDigits_length]
 exact Lib.nDigits_pos u
theorem qcn {v:Int} (h:v<0):Lib.itoa v=45::Lib.decDigits v.natAbs:=by
 unfold Lib.itoa
 rw [if_pos h]
theorem qdj {v:Int} (h:0≤v):Lib.itoa v=Lib.decDigits v.toNat:=by
 unfold Lib.itoa
 rw [if_neg (by omega)]
theorem q04 (v:Int):1≤(Lib.itoa v).length:=by
 by_cases h:v<0
 ·rw [qcn h];simp
 ·rw [qdj (by omega)];exact qcf _
theorem qww {v:Int} (h1 : -9223372036854775808≤v) (h2:v≤9223372036854775807):(Lib.itoa v).length≤20:=by
 by_cases h:v<0
 ·rw [qcn h,List.length_cons,Lib.decDigits_length]
  have:=qei 18 v.natAbs (by omega)
  omega
 ·rw [qdj (by omega),Lib.decDigits_length]
  have:=qei 18 v.toNat (by omega)
  omega
theorem qnw:∀ (a:Nat) (l m:qd) (b:Nat),Lib.parseUint10 a l = .ok b→Lib.parseUint10 a (l++m)=Lib.parseUint10 b m
 |a,[],m,b,h=>by
  simp only [Lib.parseUint10,Lib.NumEnd.ok.injEq] at h
  subst h;rfl
 |a,c::l,m,b,h=>by
  simp only [List.cons_append,Lib.parseUint10] at h ⊢
  split at h
  ·rename_i hd
   rw [if_pos hd]
   split at h
   ·cases h
   ·rename_i h1
    rw [if_neg h1]
    split at h
    ·cases h
    ·rename_i h2
     rw [if_neg h2]
     exact qnw _ l m b h
  ·cases h
theorem qg4:∀ (n u:Nat),u≤n→u≤9223372036854775808→Lib.parseUint10 0 (Lib.decDigits u) = .ok u
 |n,u,hn,hu=>by
  have key:∀ (a d:Nat),a≤922337203685477580→d<10→Lib.parseUint10 a (Lib.decDigits d) = .ok (a * 10+d):=by
   intro a d ha hd
   have e:(UInt8.ofNat (48+d)).toNat=48+d:=by rw [UInt8.toNat_ofNat'];omega
   rw [Lib.decDigits_one hd]
   simp only [Lib.parseUint10,e]
   rw [if_pos (by omega),if_neg (by omega),if_neg (by omega)]
   congr 1
   omega
  by_cases h:u<10
  ·have:=key 0 u (by omega) h
   simpa using this
  ·cases n with
   |zero=>omega
   |succ n=>
    rw [yo h,qnw 0 _ _ (u / 10) (qg4 n (u / 10) (by omega) (by omega)),key _ _ (by omega) (by omega)]
    congr 1
    omega
theorem qt0 {v:Int} (h1 : -9223372036854775808≤v) (h2:v≤9223372036854775807):Lib.atoiAll (Lib.itoa v) = .ok v:=by
 by_cases h:v<0
 ·have hp:=qg4 v.natAbs v.natAbs (Nat.le_refl _) (by omega)
  rw [qcn h]
  have hm:Lib.parseMag (Lib.decDigits v.natAbs) = .ok v.natAbs:=by
   unfold Lib.parseMag
   rw [if_neg (fun e=>by have:=qcf v.natAbs;rw [e] at this;simp at this)]
   exact hp
  have e45:(45:UInt8).toNat=45:=rfl
  simp only [Lib.atoiAll,e45]
  rw [if_pos (Or.inr trivial),hm]
  simp only [not_true,false_and,if_false,true_and]
  rw [if_neg (by omega)]
  simp only [if_true]
  congr 1
  omega
 ·have hp:=qg4 v.toNat v.toNat (Nat.le_refl _) (by omega)
  have hd:=xb v.toNat v.toNat (Nat.le_refl _)
  rw [qdj (by omega)]
  cases hl:Lib.decDigits v.toNat with
  |nil=>have:=qcf v.toNat;rw [hl] at this;simp at this
  |cons c r=>
   rw [hl] at hp hd
   have hc:=hd c (by simp)
   simp only [Lib.atoiAll]
   have g1:¬ (c.toNat=43∨c.toNat=45):=by omega
   rw [if_neg g1]
   have hm:Lib.parseMag (c::r) = .ok v.toNat:=by unfold Lib.parseMag;rw [if_neg (by simp)];exact hp
   rw [hm]
   have g2:¬ c.toNat=45:=by omega
   simp only [g2,not_false_iff,true_and,false_and,if_false]
   rw [if_neg (by omega)]
   congr 1
   omega
def numZ (l:qd):Option Int:=
 match Lib.atoiAll l with
 | .ok v=>if Lib.itoa v=l then some v else none
 | _=>none
theorem qnq {v:Int} (h1 : -9223372036854775808≤v) (h2:v≤9223372036854775807):numZ (Lib.itoa v)=some v:=by
 unfold numZ
 rw [qt0 h1 h2]
 simp
theorem qnr {l:qd} {v:Int} (h:numZ l=some v):l=Lib.itoa v∧-9223372036854775808≤v∧v≤9223372036854775807:=by
 unfold numZ at h
 split at h
 ·rename_i u hu
  split at h
  ·rename_i he
   simp only [Option.some.injEq] at h
   subst h
   exact⟨he.symm,qf1 hu⟩
  ·simp at h
 ·simp at h
theorem qie {l:qd} (h:∀ v,-9223372036854775808≤v→v≤9223372036854775807→l≠Lib.itoa v):numZ l=none:=by
 cases hn:numZ l with
 |none=>rfl
 |some v=>
  obtain⟨h1,h2,h3⟩:=qnr hn
  exact absurd h1 (h v h2 h3)
end Go.Pl
namespace Go.Proofs.YtmjmdjbdoiddeaaGreatDoor
open Go Go.Av Go.RowKit Go.Proofs Go.Pl
theorem qhq (v:Int) (st:List AObj) (h1 : -9223372036854775808≤v) (h2:v≤9223372036854775807):qp E 62 [Iv v] st fun r st'=>r=Sv (Lib.itoa v)∧st'=st:=by
 by_cases hneg:v<0
 ·refine zl (q7 _) (qw Tryz.func62 rfl (Nat.le_of_ble_eq_true rfl) ?_)
  have hl:=qcm (u:=v.natAbs) (by omega)
  have hk:IntKind.u64.wrap (-(v+1))=((v.natAbs - 1:Nat):Int):=by
   rw [show -(v+1)=((v.natAbs - 1:Nat):Int) by omega]
   exact qgj (by omega)
  have hk2:IntKind.u64.wrap (((v.natAbs - 1:Nat):Int)+1)=((v.natAbs:Nat):Int):=by
   rw [show ((v.natAbs - 1:Nat):Int)+1=((v.natAbs:Nat):Int) by omega]
   exact qgj (by omega)
  repeat' (first|apply q4|apply qn|apply qs|apply qu|apply qo|(apply qz;(iterate 3 exact rfl))|(apply qc;exact rfl;apply wo;exact cAo)|(apply z7;exact rfl;exact rfl;exact cOs)|(apply z6;exact rfl;exact rfl;exact qj (by omega) (by omega))|apply ze|(apply qo1;exact rfl;exact (show IntKind.i64.wrap (0 - (v+1)) = -(v+1) from by rw [qj (by omega) (by omega)];omega))|(apply qc2;(iterate 3 exact rfl);exact hk)|(apply z6;exact rfl;exact rfl;exact hk2)|(apply qx;exact Tryz.call76;exact qen (v.natAbs+1) v.natAbs (by omega) (by omega) _))
  exact qm rfl (zv rfl) ⟨congrArg Sv (qcn hneg).symm,_,rfl⟩
 ·obtain⟨k,rfl⟩:=Int.eq_ofNat_of_zero_le (by omega:0≤v)
  exact qqs k st (by omega)
theorem qis (x:Int):IntKind.i64.wrap x=(x+9223372036854775808) % 18446744073709551616 - 9223372036854775808:=by
 simp [IntKind.wrap,IntKind.bits,IntKind.signed]
 split <;> omega
theorem qqh (V d:Nat) (n:Int) (hn:n=IntKind.i64.wrap (-(V:Int))):IntKind.i64.wrap (IntKind.i64.wrap (10 * n) - (d:Int))=IntKind.i64.wrap (-((10 * V+d:Nat):Int)):=by
 rw [hn]
 simp only [qis]
 omega
theorem qtd (V:Nat):IntKind.i64.wrap (0 - IntKind.i64.wrap (-(V:Int)))=IntKind.i64.wrap (V:Int):=by
 simp only [qis]
 omega
theorem qbs (x:Int) : -9223372036854775808≤IntKind.i64.wrap x∧IntKind.i64.wrap x≤9223372036854775807:=by
 rw [qis]
 omega
theorem sub8 {c:Nat} (h:48≤c) (h2:c<256):IntKind.u8.wrap ((c:Int) - 48)=((c - 48:Nat):Int):=by
 simp [IntKind.wrap,IntKind.bits,IntKind.signed]
 omega
def numA (l:qd):AV:=match numZ l with|some v=>.tu [Iv v,Bv true]|none=>.tu [Iv 0,Bv false]
theorem qw8 (l:qd):Pure (numA l):=by
 unfold numA
 split <;> exact qxm _ _
theorem qat {l:qd} (h:numZ l=none):numA l = .tu [Iv 0,Bv false]:=by unfold numA;rw [h]
theorem qid {l:qd} {v:Int} (h:numZ l=some v):numA l = .tu [Iv v,Bv true]:=by unfold numA;rw [h]
theorem qnn {l:qd} {v:Int} (h:l=Lib.itoa v):(v<0→(l.getD 0 0).toNat=45∧l.drop 1=Lib.decDigits v.natAbs)∧(0≤v→(l.getD 0 0).toNat≠45∧l=Lib.decDigits v.toNat):=by
 subst h
 refine⟨fun h=>?_,fun h=>?_⟩
 ·rw [qcn h];exact⟨rfl,rfl⟩
 ·rw [qdj h]
  refine⟨?_,rfl⟩
  have hp:=qcf v.toNat
  have hd:=xb v.toNat v.toNat (Nat.le_refl _)
  cases hl:Lib.decDigits v.toNat with
  |nil=>rw [hl] at hp;simp at hp
  |cons c r=>
   rw [hl] at hd
   have:=hd c (by simp)
   simp
   omega
def sgn (l:qd):Nat:=if (l.getD 0 0).toNat=45 then 1 else 0
theorem qfw {l:qd} {v:Int} (h:l=Lib.itoa v):l.drop (sgn l)=Lib.decDigits v.natAbs:=by
 obtain⟨h1,h2⟩:=qnn h
 unfold sgn
 by_cases hv:v<0
 ·obtain⟨a,b⟩:=h1 hv
  rw [if_pos a,b]
 ·obtain⟨a,b⟩:=h2 (by omega)
  rw [if_neg a,List.drop_zero,show v.natAbs=v.toNat by omega]
  exact b
theorem qi5 {l:qd} {k:Nat} (hk:k<l.length) (hs:sgn l≤k) (hd:¬ (48≤(l.getD k 0).toNat∧(l.getD k 0).toNat≤57)):numZ l=none:=by
 refine qie fun v h1 h2 h=>?_
 have e:=qfw h
 have hm:l.getD k 0∈l.drop (sgn l):=by
  rw [show l.getD k 0=l[k] by simp [List.getD,hk]]
  rw [List.mem_drop_iff_getElem]
  exact⟨k - sgn l,by omega,by congr 1;omega⟩
 rw [e] at hm
 exact hd (xb _ _ (Nat.le_refl _) _ hm)
def numW (l:qd):Int:=if (l.getD 0 0).toNat=45 then IntKind.i64.wrap (-(decV (l.drop 1):Int)) else IntKind.i64.wrap (decV l:Int)
theorem q1k {l:qd} {v:Int} (h:l=Lib.itoa v) (h1 : -9223372036854775808≤v) (h2:v≤9223372036854775807):numW l=v:=by
 obtain⟨g1,g2⟩:=qnn h
 unfold numW
 by_cases hv:v<0
 ·obtain⟨a,b⟩:=g1 hv
  rw [if_pos a,b,qj3 _ _ (Nat.le_refl _),qj (by omega) (by omega)]
  omega
 ·obtain⟨a,b⟩:=g2 (by omega)
  rw [if_neg a,b,qj3 _ _ (Nat.le_refl _),qj (by omega) (by omega)]
  omega
theorem qtc {l:qd} {n:Int} (h:n=numW l) (he:Lib.itoa n=l):numZ l=some n:=by
 have hr : -9223372036854775808≤n∧n≤9223372036854775807:=by
  rw [h];unfold numW;split <;> exact qbs _
 rw [← he,qnq hr.1 hr.2]
theorem qtb {l:qd} {n:Int} (h:n=numW l) (he:¬ Lib.itoa n=l):numZ l=none:=
 qie fun v h1 h2 hv=>he (by rw [h,q1k hv h1 h2];exact hv.symm)
theorem qgh {l:qd} {k a:Nat} (h:k<l.length) (ha:a≤k):(l.take (k+1)).drop a=(l.take k).drop a++[l.getD k 0]:=by
 rw [qd4 h,List.drop_append_of_le_length (by simp;omega)]
theorem qjs (l:List UInt8) (st:List AObj) (hl:l.length<4294967281):qp E 40 [Sv l] st fun r st'=>r=numA l∧st'=st:=by
 refine zl (qw8 l) (qw Tryz.func40 rfl (Nat.le_of_ble_eq_true rfl) ?_)
 by_cases hbad:l.length<1∨20<l.length
 ·have hz:numZ l=none:=qie fun v h1 h2 h=>by
   have g1:=q04 v
   have g2:=qww h1 h2
   rw [← h] at g1 g2
   omega
  repeat' (first|apply q4|apply qn|apply qs|apply qu|apply qo|(apply qz;(iterate 3 exact rfl))|(apply qr;(iterate 4 exact rfl))|(apply jo;exact cAo)|(apply jh;exact cAo)|(apply z3 <;> intro h)|(apply qe;exact rfl;apply we;exact cAo)|(apply qe;exact rfl;apply wi;exact cAo)|(apply qc;exact rfl;apply wo;exact cAo)|(apply qc;exact rfl;apply cd_t;exact cRa)|(apply zm;(iterate 3 exact rfl))|apply ze)
  all_goals first
   |(exfalso;omega)
   |exact qm rfl (qav rfl) ⟨(qat hz).symm,_,rfl⟩
 have hb1:1≤l.length:=by omega
 have hb2:l.length≤20:=by omega
 repeat' (first|apply q4|apply za|apply qn|apply qs|apply qu|apply qo|(apply qz;(iterate 3 exact rfl))|(apply qr;(iterate 4 exact rfl))|(apply jo;exact cAo)|(apply qe;exact rfl;apply wi;exact cAo)|(apply qc;exact rfl;apply wv;exact cAo)|(apply qc;exact rfl;apply cd_d <;> intro h)|(apply zm;(iterate 3 exact rfl))|(apply jd;(iterate 3 exact rfl);exact cAs)|apply zb)
 ·have h45:((l.getD 0 0).toNat:Int)=45:=by assumption
  have hs:sgn l=1:=if_pos (by omega)
  refine xk (fun (k:Nat) s=>1≤k∧k≤l.length∧StA [(0,Sv l),(4,Iv 1),(5,Iv (IntKind.i64.wrap (-(decV ((l.take k).drop 1):Int)))),(6,Iv k)] (st++[]) [] s) (fun k=>l.length - k) 1 ⟨by omega,by omega,wr ⟨rfl,rfl,by simp [List.drop_eq_nil_of_le,decV,IntKind.wrap];rfl,rfl,trivial⟩⟩ ?_
  rintro k _ ⟨hk1,hk,t,rfl⟩
  generalize hn:IntKind.i64.wrap (-(decV ((l.take k).drop 1):Int))=n
  have hc:=UInt8.toNat_lt (l.getD k 0)
  have hr : -9223372036854775808≤n∧n≤9223372036854775807:=hn▸qbs _
  have hr2:=qbs (0 - n)
  repeat' (first|apply q4|apply za|apply qn|apply qs|apply qu|apply qo|(apply qz;(iterate 3 exact rfl))|(apply z4;(iterate 3 exact rfl))|(apply qr;(iterate 4 exact rfl))|(apply jo;exact cAo)|(apply jh;exact cAo)|(apply z3 <;> intro h)|(apply qe;exact rfl;apply we;exact cAo)|(apply qe;exact rfl;apply wi;exact cAo)|(apply qc;exact rfl;apply wv;exact cAo)|(apply qc;exact rfl;apply cd_t;exact cRa)|(apply qc;exact rfl;apply cd_d <;> intro h)|(apply zm;(iterate 3 exact rfl))|(apply z6;exact rfl;exact rfl;exact qj (by omega) (by omega))|(apply jd;(iterate 3 exact rfl);exact cAs)|apply zb|apply jg|apply ze|(apply qjz;(iterate 3 exact rfl))|(apply j9;exact rfl;exact rfl;exact sub8 (by omega) (by omega))|(apply j9;exact rfl;exact rfl;exact qqh _ _ _ hn.symm)|(apply qc2;(iterate 3 exact rfl);exact qj (by omega) (by omega))|(apply qx;exact Tryz.call62;exact qhq _ _ (by omega) (by omega)))
  ·exact qm rfl (qav rfl) ⟨(qat (qi5 (k:=k) (by omega) (by omega) (by omega))).symm,_,rfl⟩
  ·exact qm rfl (qav rfl) ⟨(qat (qi5 (k:=k) (by omega) (by omega) (by omega))).symm,_,rfl⟩
  ·refine⟨k+1,⟨by omega,by omega,wr ⟨rfl,rfl,congrArg Iv ?_,rfl,trivial⟩⟩,by omega⟩
   rw [qgh (by omega) hk1,qh1]
  ·have e:k=l.length:=by omega
   subst e
   rw [List.take_length] at hn
   have hw:n=numW l:=by unfold numW;rw [if_pos (by omega)];rw [← hn]
   exact qm rfl (qav rfl) ⟨(qat (qtb hw (by assumption))).symm,_,rfl⟩
  ·have e:k=l.length:=by omega
   subst e
   rw [List.take_length] at hn
   have hw:n=numW l:=by unfold numW;rw [if_pos (by omega)];rw [← hn]
   exact qm rfl (qav rfl) ⟨(qid (qtc hw (Classical.not_not.1 (by assumption)))).symm,_,rfl⟩
 ·have h45:¬ ((l.getD 0 0).toNat:Int)=45:=by assumption
  have hs:sgn l=0:=if_neg (by omega)
  refine xk (fun (k:Nat) s=>0≤k∧k≤l.length∧StA [(0,Sv l),(4,Iv 0),(5,Iv (IntKind.i64.wrap (-(decV ((l.take k).drop 0):Int)))),(6,Iv k)] (st++[]) [] s) (fun k=>l.length - k) 0 ⟨by omega,by omega,wr ⟨rfl,rfl,by simp [List.drop_eq_nil_of_le,decV,IntKind.wrap];rfl,rfl,trivial⟩⟩ ?_
  rintro k _ ⟨hk1,hk,t,rfl⟩
  generalize hn:IntKind.i64.wrap (-(decV ((l.take k).drop 0):Int))=n
  have hc:=UInt8.toNat_lt (l.getD k 0)
  have hr : -9223372036854775808≤n∧n≤9223372036854775807:=hn▸qbs _
  have hr2:=qbs (0 - n)
  repeat' (first|apply q4|apply za|apply qn|apply qs|apply qu|apply qo|(apply qz;(iterate 3 exact rfl))|(apply z4;(iterate 3 exact rfl))|(apply qr;(iterate 4 exact rfl))|(apply jo;exact cAo)|(apply jh;exact cAo)|(apply z3 <;> intro h)|(apply qe;exact rfl;apply we;exact cAo)|(apply qe;exact rfl;apply wi;exact cAo)|(apply qc;exact rfl;apply wo;exact cAo)|(apply qc;exact rfl;apply cd_t;exact cRa)|(apply qc;exact rfl;apply cd_d <;> intro h)|(apply zm;(iterate 3 exact rfl))|(apply z6;exact rfl;exact rfl;exact qj (by omega) (by omega))|(apply jd;(iterate 3 exact rfl);exact cAs)|apply zb|apply jg|apply ze|(apply qjz;(iterate 3 exact rfl))|(apply j9;exact rfl;exact rfl;exact sub8 (by omega) (by omega))|(apply j9;exact rfl;exact rfl;exact qqh _ _ _ hn.symm)|(apply qc2;(iterate 3 exact rfl);exact qj (by omega) (by omega))|(apply qo1;exact rfl;exact rfl)|(apply qx;exact Tryz.call62;exact qhq _ _ (by omega) (by omega)))
  ·exact qm rfl (qav rfl) ⟨(qat (qi5 (k:=k) (by omega) (by omega) (by omega))).symm,_,rfl⟩
  ·exact qm rfl (qav rfl) ⟨(qat (qi5 (k:=k) (by omega) (by omega) (by omega))).symm,_,rfl⟩
  ·refine⟨k+1,⟨by omega,by omega,wr ⟨rfl,rfl,congrArg Iv ?_,rfl,trivial⟩⟩,by omega⟩
   rw [qgh (by omega) hk1,qh1]
  ·have e:k=l.length:=by omega
   subst e
   rw [List.take_length] at hn
   have hw:IntKind.i64.wrap (0 - n)=numW l:=by unfold numW;rw [if_neg (by omega)];rw [← hn,List.drop_zero,qtd]
   exact qm rfl (qav rfl) ⟨(qat (qtb hw (by assumption))).symm,_,rfl⟩
  ·have e:k=l.length:=by omega
   subst e
   rw [List.take_length] at hn
   have hw:IntKind.i64.wrap (0 - n)=numW l:=by unfold numW;rw [if_neg (by omega)];rw [← hn,List.drop_zero,qtd]
   exact qm rfl (qav rfl) ⟨(qid (qtc hw (Classical.not_not.1 (by assumption)))).symm,_,rfl⟩
theorem qqw (l:List UInt8) (v:Int) (st:List AObj) (hl:l.length<4294967281) (h:numZ l=some v):qp E 40 [Sv l] st fun r st'=>r = .tu [Iv v,Bv true]∧st'=st:=by
 have:=qjs l st hl
 rw [qid h] at this
 exact this
theorem qqv (l:List UInt8) (st:List AObj) (hl:l.length<4294967281) (h:numZ l=none):qp E 40 [Sv l] st fun r st'=>r = .tu [Iv 0,Bv false]∧st'=st:=by
 have:=qjs l st hl
 rw [qat h] at this
 exact this
end Go.Proofs.YtmjmdjbdoiddeaaGreatDoor
namespace Go.Pl
open Go
def sp:Bool→qd→Bool
 | _,[]=>true
 |f,c::l=>(!f ||decide (c=32)) && sp (decide (c=10)) l
theorem qhs:∀ l,sp false l=sp true (past 10 l)
 | []=>rfl
 |c::l=>by
  by_cases h:c=10
  ·subst h;simp [sp,past,upto]
  ·have e:past 10 (c::l)=past 10 l:=by simp [past,upto,h]
   rw [e,← qhs l]
   simp [sp,h]
theorem qq8 {l:qd} (h:l≠[]):sp true l=(decide ([32] <+: upto 10 l) && sp true (past 10 l)):=by
 cases l with
 |nil=>exact absurd rfl h
 |cons c r=>
  by_cases hc:c=10
  ·subst hc;simp [sp,upto]
  ·have e:past 10 (c::r)=past 10 r:=by simp [past,upto,hc]
   have e2:upto 10 (c::r)=c::upto 10 r:=by simp [upto,hc]
   rw [e,e2,← qhs]
   simp [sp,hc,eq_comm]
theorem qg0:∀ (n:Nat) (l:qd),l.length≤n→((∀ x∈kf l,[32] <+: x.1)↔sp true l=true)
 | 0,l,h=>by
  have:l=[]:=List.length_eq_zero_iff.1 (by omega)
  subst this
  simp [yj,sp]
 |n+1,l,h=>by
  by_cases hl:l=[]
  ·subst hl;simp [yj,sp]
  ·rw [y0 hl,qq8 hl,Bool.and_eq_true,← qg0 n (past 10 l) (by have:=yz (c:=10) hl;omega)]
   simp only [List.mem_cons,forall_eq_or_imp,decide_eq_true_eq]
theorem qfb (l:qd):(qgr [32] l).2=sp true l:=by
 unfold qgr
 by_cases h:sp true l=true
 ·rw [if_pos ((qg0 _ l (Nat.le_refl _)).2 h),h]
 ·rw [if_neg (fun h'=>h ((qg0 _ l (Nat.le_refl _)).1 h'))]
  simp only [Bool.not_eq_true] at h
  rw [h]
def qfc (f:Bool) (l:qd):Bool:=match l.getLast? with|none=>f|some c=>decide (c=10)
theorem que (f:Bool) (c:UInt8) (l:qd):qfc f (c::l)=qfc (decide (c=10)) l:=by
 cases l with
 |nil=>simp [qfc]
 |cons b l=>
  unfold qfc
  rw [List.getLast?_cons_cons]
  cases hb:(b::l).getLast? with
  |none=>simp at hb
  |some x=>rfl
theorem qq7:∀ (f:Bool) (l m:qd),sp f (l++m)=(sp f l && sp (qfc f l) m)
 |f,[],m=>by simp [sp,qfc]
 |f,c::l,m=>by
  simp only [List.cons_append,sp]
  rw [qq7 _ l m,que,Bool.and_assoc]
theorem qnl (l:qd):qdp l↔2≤l.length∧l.length≤50000∧l.getLast? = some 10∧sp true l=true:=by
 unfold qdp
 rw [qfb]
theorem qce:∀ (n u:Nat),u≤n→∀ c∈Lib.decDigits u,48≤c.toNat∧c.toNat≤57
 |n,u,hn,c,hc=>by
  by_cases h:u<10
  ·rw [Lib.decDigits_one h] at hc
   simp only [List.mem_singleton] at hc
   subst hc
   rw [UInt8.toNat_ofNat']
   omega
  ·rw [yo h,List.mem_append] at hc
   cases n with
   |zero=>omega
   |succ n=>
    rcases hc with hc|hc
    ·exact qce n (u / 10) (by omega) c hc
    ·exact qce n (u % 10) (by omega) c hc
theorem qgz (n:Nat):Lib.itoa (n:Int)=Lib.decDigits n:=by
 unfold Lib.itoa
 rw [if_neg (by omega)]
 simp
theorem qy6 (n:Nat):∀ c∈Lib.itoa (n:Int),48≤c.toNat∧c.toNat≤57:=by
 rw [qgz]
 exact qce n n (Nat.le_refl _)
theorem qpg (u:Nat):Lib.decDigits u≠[]:=by
 intro h
 have:=congrArg List.length h
 rw [Lib.decDigits_length] at this
 have:=Lib.nDigits_pos u
 simp at *
 omega
theorem qnv:∀ (a:Nat) (l m:qd) (b:Nat),Lib.parseUint10 a l = .ok b→Lib.parseUint10 a (l++m)=Lib.parseUint10 b m
 |a,[],m,b,h=>by
  simp only [Lib.parseUint10,Lib.NumEnd.ok.injEq] at h
  subst h;rfl
 |a,c::l,m,b,h=>by
  simp only [List.cons_append,Lib.parseUint10] at h ⊢
  split at h
  ·rename_i hd
   rw [if_pos hd]
   split at h
   ·cases h
   ·rename_i h1
    rw [if_neg h1]
    split at h
    ·cases h
    ·rename_i h2
     rw [if_neg h2]
     exact qnv _ l m b h
  ·cases h
theorem qnx:∀ (n u:Nat),u≤n→u<1000000000000000000→Lib.parseUint10 0 (Lib.decDigits u) = .ok u
 |n,u,hn,hu=>by
  have key:∀ (a d:Nat),a<100000000000000000→d<10→Lib.parseUint10 a (Lib.decDigits d) = .ok (a * 10+d):=by
   intro a d ha hd
   have e:(UInt8.ofNat (48+d)).toNat=48+d:=by rw [UInt8.toNat_ofNat'];omega
   rw [Lib.decDigits_one hd]
   simp only [Lib.parseUint10,e]
   rw [if_pos (by omega),if_neg (by omega),if_neg (by omega)]
   congr 1
   omega
  by_cases h:u<10
  ·have:=key 0 u (by omega) h
   simpa using this
  ·cases n with
   |zero=>omega
   |succ n=>
    rw [yo h,qnv 0 _ _ (u / 10) (qnx n (u / 10) (by omega) (by omega)),key _ _ (by omega) (by omega)]
    congr 1
    omega
theorem qv7 {n:Nat} (h:n<1000000000000000000):Lib.atoiAll (Lib.itoa (n:Int)) = .ok (n:Int):=by
 have hp:=qnx n n (Nat.le_refl _) h
 have hd:=qce n n (Nat.le_refl _)
 rw [qgz]
 cases hl:Lib.decDigits n with
 |nil=>exact absurd hl (qpg n)
 |cons c r=>
  rw [hl] at hp hd
  have hc:=hd c (by simp)
  simp only [Lib.atoiAll]
  have h1:¬ (c.toNat=43∨c.toNat=45):=by omega
  rw [if_neg h1]
  have hm:Lib.parseMag (c::r) = .ok n:=by unfold Lib.parseMag;rw [if_neg (by simp)];exact hp
  rw [hm]
  have h2:¬ c.toNat=45:=by omega
  simp only [h2,not_false_iff,true_and,false_and,if_false]
  rw [if_neg (by omega)]
theorem qqi {n:Nat} (h1:1≤n) (h2:n≤50000):yf (Lib.itoa (n:Int))=n:=by
 have:=qu4 (qv7 (n:=n) (by omega))
 rw [if_pos ⟨rfl,by omega,by omega⟩] at this
 omega
theorem qfx {l:qd} {n:Nat} (h:yf l=n) (hn:1≤n):l=Lib.itoa (n:Int):=by
 unfold yf at h
 split at h
 ·split at h
  ·rename_i v _ hv
   have:v=(n:Int):=by omega
   rw [← this,hv.1]
  ·omega
 ·omega
end Go.Pl
namespace Go.Proofs.YtmjmdjbdoiddeaaGreatDoor
open Go Go.Pl
def ym (n:Nat) (fig:qd):qd:=xd++(Lib.itoa n++32::fig)
theorem qy2 (n:Nat) (fig:qd):qok n fig=ym n fig++[10]:=by simp [qok,ym,xd]
theorem qlt (n:Nat) {c:UInt8} (h:¬ (48≤c.toNat∧c.toNat≤57)):c∉Lib.itoa (n:Int):=fun hc=>h (qy6 n c hc)
theorem qh6 {f:qd} (h:qao f) {c:UInt8} (hc:c∉hexL):c∉f:=fun h'=>hc (h c h')
theorem qc7 (n:Nat) {fig:qd} (h:qao fig):10∉ym n fig:=by
 unfold ym
 simp only [List.mem_append,List.mem_cons,not_or]
 exact⟨by decide,qlt n (by decide),by decide,qh6 h (by decide)⟩
theorem qvn (l:qd):Lib.trimPrefix (xd++l) xd=l:=by
 rw [qoe (List.prefix_append _ _),List.drop_left]
structure q0j (n:Nat) (fig body:qd):Prop where
 two:2≤n
 most:n≤50000
 len:body.length=n
 good:qdp body
 figs:fig.length=8
 hex:qao fig
def recL (n:Nat) (fig body:qd):qd:=ym n fig++10::(body++qem n)
theorem q1p (l:qd):recF l=recL l.length (sumF l) l:=by
 unfold recF recL
 rw [qy2]
 simp
theorem qny {l a b:qd} (h:l <+: a++b):l <+: a∨∃ r,l=a++r∧r <+: b:=by
 rcases Nat.le_total l.length a.length with hl|hl
 ·exact .inl (List.prefix_of_prefix_length_le h (List.prefix_append _ _) hl)
 ·obtain⟨r,hr⟩:=List.prefix_of_prefix_length_le (List.prefix_append a b) h hl
  exact .inr ⟨r,hr.symm,by rw [← hr] at h;exact (List.prefix_append_right_inj a).1 h⟩
theorem qmr {a b:qd} {c:UInt8} (h:a <+: b) (hc:c∉b):c∉a:=fun h'=>hc (h.subset h')
theorem qva (f:qd) (hl:f.length≤8) (hx:qao f):∃ g:qd,g.length=8∧qao g∧f <+: g:=
 ⟨f++List.replicate (8 - f.length) 48,by simp;omega,fun c hc=>by
  rw [List.mem_append,List.mem_replicate] at hc
  rcases hc with hc | ⟨_,rfl⟩
  ·exact hx c hc
  ·decide,List.prefix_append _ _⟩
theorem qmy:∀ (k:Nat),sp false (List.replicate k 97++[10])=true
 | 0=>by simp [sp]
 |k+1=>by rw [List.replicate_succ,List.cons_append];simp only [sp];exact by simpa using qmy k
theorem qo8 {n:Nat} {r:qd} (hn:n≤50000) (hlt:r.length<n) (h2:2≤n) (hp:qi6 r ((n:Int) - r.length)=2):∃ body:qd,body.length=n∧qdp body∧r <+: body:=by
 unfold qi6 at hp
 split at hp
 ·rename_i h
  obtain⟨hs,hfr⟩:=h
  rw [qfb] at hs
  by_cases hf:r=[]∨r.getLast? = some 10
  ·have hk:r.length+2≤n:=by
    rcases Nat.lt_or_ge (r.length+1) n with h|h
    ·omega
    ·exact absurd ⟨hf,by omega⟩ hfr
   refine⟨r++(32::(List.replicate (n - r.length - 2) 97++[10])),by simp;omega,?_,List.prefix_append _ _⟩
   rw [qnl]
   refine⟨by simp;omega,by simp;omega,by simp [List.getLast?_append,List.getLast?_cons],?_⟩
   rw [qq7,hs]
   simp only [sp,Bool.true_and]
   have:=qmy (n - r.length - 2)
   simpa using this
  ·refine⟨r++(List.replicate (n - r.length - 1) 97++[10]),by simp;omega,?_,List.prefix_append _ _⟩
   rw [qnl]
   refine⟨by simp;omega,by simp;omega,by simp [List.getLast?_append],?_⟩
   rw [qq7,hs]
   have e:qfc true r=false:=by
    unfold qfc
    cases hq:r.getLast? with
    |none=>exact absurd (.inl (List.getLast?_eq_none_iff.1 hq)) hf
    |some c=>
     refine decide_eq_false fun h=>hf (.inr ?_)
     rw [hq,h]
   rw [e,qmy]
   rfl
 ·simp at hp
theorem qd3 {n:Nat} (h2:2≤n) (hn:n≤50000):∃ body:qd,body.length=n∧qdp body:=by
 obtain⟨b,h1,h3,_⟩:=qo8 (n:=n) (r:=[]) hn (by simp;omega) h2 (by
  unfold qi6
  rw [qfb]
  rw [if_pos ⟨rfl,by rintro⟨_,h⟩;simp at h;omega⟩])
 exact⟨b,h1,h3⟩
theorem qd7 {a b c:qd} (h:a <+: b):a <+: b++c:=h.trans (List.prefix_append _ _)
theorem qd0 {n:Nat} {fig body l:qd} (h:l <+: ym n fig):l <+: recL n fig body∧l.length<(recL n fig body).length:=by
 refine⟨qd7 h,?_⟩
 have:=h.length_le
 unfold recL
 simp
 omega
theorem q1l {l:qd} (h:(qdb l).1=2):∃ n fig body,q0j n fig body∧l <+: recL n fig body∧l.length<(recL n fig body).length:=by
 unfold qdb at h
 split at h
 ·rename_i h10
  split at h
  ·rename_i ho
   generalize hr:past 10 l=r at *
   have hl:=qbq h10
   rw [hr] at hl
   generalize hu:upto 10 l=u at *
   -- the first line
   have hop:u=ym (xu u).1 (xu u).2.1∧2≤(xu u).1∧(xu u).1≤50000∧(xu u).2.1.length=8∧qao (xu u).2.1:=by
    simp only [xu,decide_eq_true_eq] at ho ⊢
    obtain⟨o1,o2,o3,o4,o5⟩:=ho
    refine⟨?_,o3,qc9 _,o4,o5⟩
    obtain⟨t,rfl⟩:=o1
    rw [qvn] at *
    have:=qfx rfl (Nat.le_trans (by decide) o3)
    unfold ym
    rw [← this,← qbq o2]
   generalize (xu u).1=n at *
   generalize (xu u).2.1=fig at *
   obtain⟨rfl,h2,hn,hf,hx⟩:=hop
   split at h
   ·rename_i hlt
    obtain⟨body,b1,b2,b3⟩:=qo8 hn hlt h2 h
    refine⟨n,fig,body,⟨h2,hn,b1,b2,hf,hx⟩,?_,?_⟩
    ·rw [hl]
     unfold recL
     rw [List.prefix_append_right_inj,List.cons_prefix_cons]
     exact⟨rfl,qd7 b3⟩
    ·rw [hl]
     unfold recL
     have:=b3.length_le
     have:=qrd n
     simp
     omega
   ·rename_i hge
    split at h
    ·rename_i hg
     have hlen:(r.take n).length=n:=by simp;omega
     refine⟨n,fig,r.take n,⟨h2,hn,hlen,hg,hf,hx⟩,?_⟩
     unfold qsx at h
     rw [hlen] at h
     split at h
     ·rename_i hc
      rw [hl]
      unfold recL
      constructor
      ·rw [List.prefix_append_right_inj,List.cons_prefix_cons]
       refine⟨rfl,?_⟩
       conv=>lhs;rw [← List.take_append_drop n r]
       rw [List.prefix_append_right_inj]
       exact hc.2
      ·have:=hc.1
       simp at this ⊢
       omega
     ·split at h <;> simp at h
    ·simp at h
  ·simp at h
 ·rename_i h10
  split at h
  ·rename_i ho
   unfold qez at ho
   split at ho
   ·rename_i hb
    obtain⟨t,rfl⟩:=hb
    have ed:(xd++t).drop 7=t:=by rw [show (7:Nat)=xd.length by rfl,List.drop_left]
    rw [ed] at ho
    obtain⟨o1,o2,o3,o4⟩:=of_decide_eq_true ho
    by_cases h32:32∈t
    ·have hn2:2≤yf (upto 32 t):=by
      rcases Nat.lt_or_ge (yf (upto 32 t)) 2 with h|h
      ·exact absurd ⟨h32,h⟩ o1
      ·exact h
     obtain⟨fig,f1,f2,f3⟩:=qva _ o3 o4
     obtain⟨body,b1,b2⟩:=qd3 hn2 (qc9 _)
     refine⟨_,fig,body,⟨hn2,qc9 _,b1,b2,f1,f2⟩,qd0 ?_⟩
     unfold ym
     rw [List.prefix_append_right_inj]
     conv=>lhs;rw [qbq h32]
     rw [qfx (l:=upto 32 t) rfl (by omega)]
     rw [qqi (by omega) (qc9 _),List.prefix_append_right_inj,List.cons_prefix_cons]
     exact⟨rfl,f3⟩
    ·rw [qcs h32] at o2
     by_cases ht:t=[]
     ·subst ht
      obtain⟨body,b1,b2⟩:=qd3 (n:=2) (by omega) (by omega)
      refine⟨2,List.replicate 8 48,body,⟨by omega,by omega,b1,b2,by simp,by decide⟩,qd0 ?_⟩
      unfold ym
      simp
     ·have hpos:1≤yf t:=by
       rcases Nat.eq_zero_or_pos (yf t) with h|h
       ·exact absurd ⟨ht,h⟩ o2
       ·exact h
      have hle:=qc9 t
      have ht2:=qfx (l:=t) rfl hpos
      generalize yf t=m at *
      subst ht2
      by_cases hm:m=1
      ·subst hm
       obtain⟨body,b1,b2⟩:=qd3 (n:=10) (by omega) (by omega)
       refine⟨10,List.replicate 8 48,body,⟨by omega,by omega,b1,b2,by simp,by decide⟩,qd0 ?_⟩
       unfold ym
       rw [List.prefix_append_right_inj]
       have e1:Lib.itoa ((1:Nat):Int)=[49]:=by rw [qgz,Lib.decDigits_one (by decide)];rfl
       have e2:Lib.itoa ((10:Nat):Int)=[49,48]:=by rw [qgz,yo (by decide),Lib.decDigits_one (by decide),Lib.decDigits_one (by decide)];rfl
       rw [e1,e2]
       exact⟨_,rfl⟩
      ·obtain⟨body,b1,b2⟩:=qd3 (n:=m) (by omega) (by omega)
       refine⟨m,List.replicate 8 48,body,⟨by omega,by omega,b1,b2,by simp,by decide⟩,qd0 ?_⟩
       unfold ym
       rw [List.prefix_append_right_inj]
       exact List.prefix_append _ _
   ·rename_i hb
    have hp:=of_decide_eq_true ho
    obtain⟨body,b1,b2⟩:=qd3 (n:=2) (by omega) (by omega)
    refine⟨2,List.replicate 8 48,body,⟨by omega,by omega,b1,b2,by simp,by decide⟩,qd0 ?_⟩
    unfold ym
    exact qd7 hp
  ·simp at h
theorem qr4 (s:BitVec 32):qao (qui s 8):=by
 intro c hc
 simp only [qui,List.mem_map] at hc
 obtain⟨j,_,rfl⟩:=hc
 unfold figP
 have h:=Go.Av.and15_lt (s >>> (4 * (7 - j)))
 generalize ((s >>> (4 * (7 - j))) &&& BitVec.ofInt 32 15).toNat=k at h
 have key:∀ i:Fin 16,([48,49,50,51,52,53,54,55,56,57,97,98,99,100,101,102]:qd).getD i.val 0∈hexL:=by decide
 exact key ⟨k,h⟩
theorem q24 {l:qd} (h1:10∈l→(xu (upto 10 l)).2.2=false) (h2:10∉l→qez l=false):qdb l=(3,[],0):=by
 unfold qdb
 by_cases h:10∈l
 ·rw [if_pos h,if_neg (by rw [h1 h];simp)]
 ·rw [if_neg h,if_neg (by rw [h2 h];simp)]
theorem R2 {l:qd} (hl:l.length≤7) (h:¬ l <+: xd):qdb l=(3,[],0):=by
 refine q24 (fun h10=>decide_eq_false fun h'=>?_) (fun h10=>?_)
 ·have:=h'.1.length_le
  have:=qm4 h10
  have e:xd.length=7:=rfl
  omega
 ·unfold qez
  by_cases hb:xd <+: l
  ·have:=hb.eq_of_length_le hl
   exact absurd (this▸List.prefix_refl _) h
  ·rw [if_neg hb];exact decide_eq_false h
theorem q1z {p:UInt8→Bool} (s:qd):s.take (s.takeWhile p).length=s.takeWhile p:=by
 induction s with
 |nil=>rfl
 |cons b s ih=>
  by_cases h:p b=true
  ·rw [List.takeWhile_cons_of_pos h];simp [ih]
  ·rw [List.takeWhile_cons_of_neg h];rfl
theorem q3i {p:UInt8→Bool} {l m:qd} (hm:m <+: l) (h:∀ c∈m,p c=true):m.length≤(l.takeWhile p).length:=by
 obtain⟨r,rfl⟩:=hm
 rw [List.takeWhile_append_of_pos h]
 simp
end Go.Proofs.YtmjmdjbdoiddeaaGreatDoor
namespace Go.Proofs.YtmjmdjbdoiddeaaGreatDoor
open Go Go.Av Go.RowKit Go.Proofs Go.Pl
structure qz8 (l S:qd) (K n:Nat):Prop where
 hl:l=xd++S
 hK:(S.takeWhile qli).length=K
 hD:S.take K=Lib.itoa (n:Int)
 h1:1≤n
 h2:n≤50000
theorem qz8.split {l S:qd} {K n:Nat} (A:qz8 l S K n) (h:K<S.length):S=Lib.itoa (n:Int)++S.getD K 0::S.drop (K+1)∧qli (S.getD K 0)=false:=by
 have e:S=S.take K++S.getD K 0::S.drop (K+1):=by
  conv=>lhs;rw [← List.take_append_drop K S]
  rw [List.drop_eq_getElem_cons h]
  congr 2
  simp [List.getD,h]
 refine⟨by rw [← A.hD];exact e,?_⟩
 cases hc:qli (S.getD K 0) with
 |false=>rfl
 |true=>
  have hp:S.take (K+1) <+: S:=List.take_prefix _ _
  have:=q3i (p:=qli) hp (fun c hc'=>by
   rw [qd4 h,List.mem_append,List.mem_singleton] at hc'
   rcases hc' with hc'|rfl
   ·rw [← A.hK,q1z] at hc'
    have ha:=List.all_takeWhile (p:=qli) (l:=S)
    rw [List.all_eq_true] at ha
    exact ha c hc'
   ·exact hc)
  rw [A.hK] at this
  simp at this
  omega
end Go.Proofs.YtmjmdjbdoiddeaaGreatDoor
namespace Go.Av
open Go Go.RowKit
def StE (L:List (Nat×AV)) (st loc:List AObj) (s:AS):Prop:=∃ t ext,s=⟨puts t L,((st++loc)++ext)++[],[]⟩
theorem ql7 {t:Nat→AV} {L:List (Nat×AV)} {st loc loc' ext new:List AObj} (h:HasL t L) (e:loc'=loc):StE L st loc ⟨t,((st++loc')++ext)++new,[]⟩:=
 ⟨t,ext++new,by rw [qi7 h,e];simp⟩
theorem qtn {t:Nat→AV} {L:List (Nat×AV)} {st loc st':List AObj} (h:HasL t L) (e:st'=st++loc):StE L st loc ⟨t,st',[]⟩:=
 ⟨t,[],by rw [qi7 h,e];simp⟩
theorem qmi (st loc ext new:List AObj):∃ x,((st++loc)++ext)++new=st++x:=⟨loc++ext++new,by simp⟩
theorem qiz {st loc ext new:List AObj} {k:Nat} {x:AObj} (h:loc[k]? = some x):(((st++loc)++ext)++new)[st.length+k]? = some x:=by
 have hk:=lt_of_getElem? h
 rw [List.append_assoc,List.append_assoc,List.getElem?_append_right (Nat.le_add_right _ _),Nat.add_sub_cancel_left,List.getElem?_append_left hk]
 exact h
theorem qtl {st loc ext new:List AObj} {k:Nat} (x:AObj) (hk:k<loc.length):(((st++loc)++ext)++new).set (st.length+k) x=((st++loc.set k x)++ext)++new:=by
 rw [List.append_assoc,List.append_assoc,List.set_append_right _ _ (Nat.le_add_right _ _),Nat.add_sub_cancel_left,List.set_append_left _ _ hk]
 simp
theorem qfo {G:Gh} {sz:Nat} {xs:List AV} {tip:Option Nat} {v:Value} (h:Rel G (.sl sz xs tip) v):Rel G (.sl sz xs none) v:=by
 cases h with
 |sl0 _ _ base cap ht=>exact .sl0 sz none base cap (by simp)
 |sl _ _ _ b off cap pub hp hw hlen hr ht hcap=>exact .sl sz xs none b off cap pub hp hw hlen hr (fun t ht=>by simp at ht) hcap
theorem qau {G:Gh} {sz:Nat} {v:Value} (h:Rel G kg v):Rel G (.sl sz [] none) v:=by
 cases h
 exact .sl0 sz none none 0 (by simp)
section
variable {E : Env} {rd : Option Nat} {N : Nat} {ops : Array Oper} {K : AS → Prop} {s : AS} {rest : List Oper} {d : Option Tmp} {T : TypeId} {p : String} {af : Array Edge}
theorem qas {fn:Func} {r r':AV} (h:ARes E fn s r) (hw:∀ (G:Gh) (v:Value),Rel G r v→Rel G r' v):ARes E fn s r':=
 ⟨fun B0 w0 G a w hL hI=>let ⟨v,h1,h2⟩:=h.run B0 w0 G a w hL hI;⟨v,h1,hw G v h2⟩⟩
theorem qgm {fn:Func} {t:Tmp} {sz:Nat} {xs:List AV} {tip:Option Nat} (hr:fn.results = #[.tmp t]) (hx:qh fn.ntmps s (.tmp t) = .sl sz xs tip):ARes E fn s (.sl sz xs none):=
 qas (zv hr) fun G v h=>by rw [hx] at h;exact qfo h
theorem qtz {fn:Func} {t:Tmp} {sz:Nat} (hr:fn.results = #[.tmp t]) (hx:qh fn.ntmps s (.tmp t)=kg):ARes E fn s (.sl sz [] none):=
 qas (zv hr) fun G v h=>by rw [hx] at h;exact qau h
theorem qc1 {x y:Operand} {t u T':TypeId} {sz bytes k n m:Nat} {xs ys zs:List AV} {tip:Option Nat} {st loc ext new:List AObj} (hs:s.st=((st++loc)++ext)++new) (hx:qh N s x = .sl sz xs (some (st.length+k))) (hy:qh N s y = .sl sz ys tip) (ho:loc[k]? = some (.tip n sz T')) (hn:xs.length=n)
  (ht:E.P.underlying t=some (.slice T')) (hu:E.P.underlying u=some (.slice T')) (hT:qdw E.P T' sz bytes) (hone:xv (flat ys)=true) (hm:ys.length=m) (h63:n+m≤maxLen) (hb:(n+m) * bytes≤140737488355328) (hz:xs++ys=zs)
  (h:AOps E rd N ops rest K (AS.put ⟨s.t,((st++loc.set k (.tip (n+m) sz T'))++ext)++new,s.df⟩ d (.sl sz zs (some (st.length+k))))):AOps E rd N ops (⟨d,.call ⟨.builtin .append,#[x,y],#[t,u]⟩,T,p,af,none⟩::rest) K s:=by
 subst hz
 have hk:=lt_of_getElem? ho
 exact qro hx hy (by rw [hs];exact qiz ho) hn ht hu hT hone hm h63 hb (by rw [hs,qtl _ hk];exact h)
theorem z2 {x:Operand} {t:TypeId} {sz:Nat} {agg:Bool} {st loc ext new:List AObj} {k ver off:Nat} {T':TypeId} {cs:List AV} {r:AV} (hs:s.st=((st++loc)++ext)++new) (hx:qh N s x = .bx (st.length+k) ver off) (ho:loc[k]? = some (.cells ver T' cs)) (ht:tyOf E.P t=some (sz,agg)) (hr:wq sz agg off cs=some r)
  (h:AOps E rd N ops rest K (s.put d r)):AOps E rd N ops (⟨d,.load t x,T,p,af,none⟩::rest) K s:=
 yl hx (by rw [hs];exact qiz ho) ht hr h
end
end Go.Av
namespace Go.Pl
open Go
def vl (l:qd):List qd:=
 if h:10∈l then upto 10 l::vl (past 10 l) else [l]
 termination_by l.length
 decreasing_by exact yz (fun e=>by rw [e] at h;simp at h)
theorem qca {l:qd} (h:10∈l):vl l=upto 10 l::vl (past 10 l):=by rw [vl,dif_pos h]
theorem qcb {l:qd} (h:10∉l):vl l=[l]:=by rw [vl,dif_neg h]
theorem qtm:∀ (n:Nat) (l:qd),l.length≤n→Lib.splitK [10] 0 (Lib.count l [10]) l=vl l
 |n,l,hn=>by
  by_cases h:10∈l
  ·have hi:=qlg 10 l h
   have hne:l≠[]:=fun e=>by rw [e] at h;simp at h
   have hlt:=yz (c:=10) hne
   rw [qca h,Lib.count_hit (i:=(upto 10 l).length) (by simp) hi,Nat.add_comm,Lib.splitK]
   rw [if_neg (by rw [hi];simp),hi]
   cases n with
   |zero=>exact absurd (List.length_eq_zero_iff.1 (by omega)) hne
   |succ n=>
    have:=qtm n (past 10 l) (by omega)
    simp only [Int.toNat_natCast,Nat.add_zero,List.length_cons,List.length_nil,Nat.zero_add,qfq]
    rw [show List.drop ((upto 10 l).length+1) l=past 10 l from rfl,this]
  ·have hi:Lib.index l [10] = -1:=by
    have:=Lib.index_ge l [10]
    have h2:¬ 0≤Lib.index l [10]:=fun h'=>h ((qbm l 10).1 h')
    omega
   rw [qcb h,Lib.count_miss hi]
   rfl
theorem qd8:∀ (n:Nat) (l:qd),l.length≤n→(vl l).length≤l.length+1
 |n,l,hn=>by
  by_cases h:10∈l
  ·have hne:l≠[]:=fun e=>by rw [e] at h;simp at h
   have hlt:=yz (c:=10) hne
   rw [qca h]
   cases n with
   |zero=>exact absurd (List.length_eq_zero_iff.1 (by omega)) hne
   |succ n=>
    have:=qd8 n (past 10 l) (by omega)
    simp only [List.length_cons]
    omega
  ·rw [qcb h];simp
theorem qhp:∀ (n:Nat) (l:qd),l.length≤n→∀ x∈vl l,x.length≤l.length∧10∉x
 |n,l,hn,x,hx=>by
  by_cases h:10∈l
  ·have hne:l≠[]:=fun e=>by rw [e] at h;simp at h
   have hlt:=yz (c:=10) hne
   rw [qca h,List.mem_cons] at hx
   rcases hx with rfl|hx
   ·exact⟨qb4 10 l,qej 10 l⟩
   ·cases n with
    |zero=>exact absurd (List.length_eq_zero_iff.1 (by omega)) hne
    |succ n=>
     have:=qhp n (past 10 l) (by omega) x hx
     exact⟨by omega,this.2⟩
  ·rw [qcb h,List.mem_singleton] at hx
   subst hx
   exact⟨Nat.le_refl _,h⟩
end Go.Pl
namespace Go.Proofs.YtmjmdjbdoiddeaaGreatDoor
open Go Go.Av Go.RowKit Go.Proofs Go.Pl
theorem qht {f:FuncId} {st:List AObj} {args:List AV} {vals:Array Value} {xs:List qd} {T:TypeId} (ha:args=vals.toList.map .v) (hne:xs≠[])
  (h:∀ B0 w0 w,E.L B0 w0→Below B0 w0 w→Calls E.P f vals w fun e w'=>e = .returned (.slice (some ⟨w.heap.size,0,none⟩) xs.length xs.length)∧w'=w.alloc (.cells (xs.map fun l=>Value.string ⟨l.toArray⟩).toArray T)) :
  qp E f args st fun r st'=>r = .sl 1 (xs.map fun l=>Sv l) none∧st'=st:=by
 subst ha
 refine⟨fun B0 w0 G vs w hL hA hR=>?_⟩
 have hv:vs=vals:=by
  have hs:vs.size=vals.size:=by have:=hR.1;simpa using this.symm
  apply Array.ext hs
  intro i h1 h2
  have:=hR.2 i (.v vals[i]) vs[i] (by simp [h2]) (by simp [h1])
  generalize vs[i]=y at this
  cases this
  rfl
 subst hv
 refine (h B0 w0 w hL hA.below).mono ?_
 rintro e w' ⟨rfl,rfl⟩
 obtain⟨hle,hA'⟩:=hA.newPub T (xs.map fun l=>Value.string ⟨l.toArray⟩).toArray (0,0) (xs.map fun l=>Value.string ⟨l.toArray⟩) (fun i y hy=>by simpa using hy)
 refine⟨_,_,_,st,rfl,hle,hA',?_,rfl,rfl⟩
 have hfl:flat (xs.map fun l=>Sv l)=xs.map fun l=>Sv l:=by
  clear hne h hle hA'
  induction xs with
  |nil=>rfl
  |cons a xs ih=>rw [List.map_cons,qdz,ih];rfl
 have:=Rel.sl (G:=G.publish w.heap.size (xs.map fun l=>Value.string ⟨l.toArray⟩)) 1 (xs.map fun l=>Sv l) none w.heap.size 0 xs.length (xs.map fun l=>Value.string ⟨l.toArray⟩) (by simp [Gh.publish]) (fun x hx=>by
  simp only [List.mem_map] at hx
  obtain⟨l,_,rfl⟩:=hx
  rfl) (by rw [hfl];simp) (fun i x y h1 h2=>by
  rw [hfl,List.getElem?_map] at h1
  rw [Nat.zero_add,List.getElem?_map] at h2
  cases hx:xs[i]? with
  |none=>rw [hx] at h1;simp at h1
  |some l=>
   rw [hx] at h1 h2
   simp at h1 h2
   subst h1;subst h2
   exact .v _) (fun t ht=>by simp at ht) (by simp)
 simpa using this
theorem qxz (l:List UInt8) (st:List AObj) (hl:l.length<4294967281):qp E 81 [Sv l,Sv [10]] st fun r st'=>r = .sl 1 ((vl l).map fun x=>Sv x) none∧st'=st:=by
 have hd:=Lib.splitB_data ⟨#[10]⟩ 0 (Lib.countB ⟨l.toArray⟩ ⟨#[10]⟩) ⟨l.toArray⟩
 have hs:Lib.splitK [10] 0 (Lib.count l [10]) l=vl l:=qtm _ l (Nat.le_refl _)
 have hn:=Lib.splitB_all ⟨#[10]⟩ (by simp [ByteArray.size]) 0 _ ⟨l.toArray⟩ rfl
 have hd2:(Lib.splitB ⟨#[10]⟩ 0 (Lib.countB ⟨l.toArray⟩ ⟨#[10]⟩) ⟨l.toArray⟩).map (·.data.toList)=vl l:=hd.trans hs
 have hlen:(vl l).length=Lib.countB ⟨l.toArray⟩ ⟨#[10]⟩+1:=by rw [← hd2,List.length_map,hn]
 refine qht (T:=9) (vals:= #[.string ⟨l.toArray⟩,.string ⟨#[10]⟩]) rfl (fun e=>by rw [e] at hlen;simp at hlen) fun _ _ w hL hb=>(Tryz.strings_Split_shaped ⟨l.toArray⟩ ⟨#[10]⟩ w (hL w hb).shaped (by simpa [ByteArray.size] using hl) (by simp [ByteArray.size])).mono fun e w' ⟨h1,h2⟩=>?_
 refine⟨by rw [h1,hlen],?_⟩
 rw [h2,← hd2,List.map_map]
 rfl
end Go.Proofs.YtmjmdjbdoiddeaaGreatDoor
namespace Go.Av
open Go Go.RowKit
section
variable {E : Env} {N : Nat} {ops : Array Oper} {K : AS → Prop} {s : AS} {rest : List Oper} {d : Option Tmp} {T : TypeId} {p : String} {af : Array Edge}
theorem qk0 {x:Operand} {t:TypeId} {sz:Nat} {agg:Bool} {o ver off:Nat} {T':TypeId} {cs:List AV} {r:AV} (hx:qh N s x = .bx o ver off) (ho:s.st[o]? = some (.cells ver T' cs)) (ht:tyOf E.P t=some (sz,agg)) (hr:wq sz agg off cs=some r)
  (h:AQ E N ops rest K (s.put d r)):AQ E N ops (⟨d,.load t x,T,p,af,none⟩::rest) K s:=by
 refine qdn rfl nofun fun B0 w0 G a w _ hI=>?_
 have he:=hI.eval_of hx
 generalize hv:a.eval x=v at he
 cases he with
 |bx _ _ _ b hn hv' hb=>
  obtain⟨_,h1,h2,h3,c,h4,h5,h6⟩:=hI.agree.ob o _ ho
  have hb:=hb h1
  subst hb
  have hlt:(G.ob o).blk<w.heap.size:=by
   rcases Nat.lt_or_ge (G.ob o).blk w.heap.size with h'|h'
   ·exact h'
   ·rw [Array.getElem?_eq_none h'] at h4;simp at h4
  -- the value is read out of the cells, whatever is drawn behind them
  have key:∀ w',Below w.heap.size w w'→∃ v,(loadVar t ⟨(G.ob o).blk,off,none⟩).run E.P w' = .ok v w'∧Rel G r v:=fun w' hw'=>by
   have h4':w'.heap[(G.ob o).blk]? = some (.cells c T' (0,0)):=by rw [hw'.block _ hlt];exact h4
   exact qaq (w:=w') (G:=G) (b:=(G.ob o).blk) (off:=off) (off':=off) ht (fun i x hx hi=>by
    obtain⟨y,hy⟩:=wy hx (Nat.le_of_eq h5)
    refine⟨y,?_,h6 i x y hx hy⟩
    simp [World.cell?,h4',show off+(i - off)=i by omega,hy]) hr
  have hsame:∀ w',Below w.heap.size w w'→∀ v,(loadVar t ⟨(G.ob o).blk,off,none⟩).run E.P w = .ok v w→(loadVar t ⟨(G.ob o).blk,off,none⟩).run E.P w' = .ok v w':=fun w' hw' v hr1=>by
   obtain⟨i1,i2⟩:=xg ht w
   obtain⟨j1,j2⟩:=xg ht w'
   have hc:∀ k,w'.cell? ⟨(G.ob o).blk,k,none⟩=w.cell? ⟨(G.ob o).blk,k,none⟩:=fun k=>by simp [World.cell?,hw'.block _ hlt]
   obtain⟨v',h1',_⟩:=key w' hw'
   rw [h1']
   congr 1
   cases agg with
   |false=>
    simp only [wq,cond_false] at hr
    obtain⟨y,hy⟩:=wy hr (Nat.le_of_eq h5)
    have e1:w.cell? ⟨(G.ob o).blk,off,none⟩=some y:=by simp [World.cell?,h4,hy]
    have e2:w'.cell? ⟨(G.ob o).blk,off,none⟩=some y:=by rw [hc,e1]
    simp [loadVar,i2,run_load,e1] at hr1
    simp [loadVar,j2,run_load,e2] at h1'
    rw [← h1',hr1]
   |true=>
    simp only [wq,cond_true] at hr
    cases hb2:Nat.ble (off+sz) cs.length with
    |false=>rw [hb2] at hr;simp at hr
    |true=>
     have hle:off+sz≤cs.length:=Nat.le_of_ble_eq_true hb2
     have e1:∀ j,j<sz→w.cell? ⟨(G.ob o).blk,off+j,none⟩=some (c.getD (off+j) undef):=fun j hj=>by
      have:off+j<c.size:=by omega
      simp [World.cell?,h4,this]
     have e2:∀ j,j<sz→w'.cell? ⟨(G.ob o).blk,off+j,none⟩=some (c.getD (off+j) undef):=fun j hj=>by rw [hc,e1 j hj]
     have l1:=run_loadCells (P:=E.P) (w:=w) ⟨(G.ob o).blk,off,none⟩ sz (fun j=>c.getD (off+j) undef) (fun j hj=>by rw [Addr.add_lit];exact e1 j hj)
     have l2:=run_loadCells (P:=E.P) (w:=w') ⟨(G.ob o).blk,off,none⟩ sz (fun j=>c.getD (off+j) undef) (fun j hj=>by rw [Addr.add_lit];exact e2 j hj)
     simp [loadVar,i1,i2,l1] at hr1
     simp [loadVar,j1,j2,l2] at h1'
     rw [← h1',hr1]
  obtain⟨v,hrun,hR⟩:=key w (Below.refl _ _)
  exact⟨v,r,fun w' hw'=>by simp only [execOp,hv,Instr.loadAt,Instr.sureAddr];simp [hsame w' hw' v hrun],hR,h⟩
end
end Go.Av
namespace Go.Av
open Go Go.RowKit
section
variable {E : Env} {rd : Option Nat} {N : Nat} {ops : Array Oper} {K : AS → Prop} {s : AS} {rest : List Oper} {d : Option Tmp} {T : TypeId} {p : String} {af : Array Edge}
theorem jl {x:Operand} {t:TypeId} {sz:Nat} {agg:Bool} {st loc:List AObj} {k ver off:Nat} {T':TypeId} {cs:List AV} {r:AV} (hs:s.st=st++loc) (hx:qh N s x = .bx (st.length+k) ver off) (ho:loc[k]? = some (.cells ver T' cs)) (ht:tyOf E.P t=some (sz,agg)) (hr:wq sz agg off cs=some r)
  (h:AQ E N ops rest K (s.put d r)):AQ E N ops (⟨d,.load t x,T,p,af,none⟩::rest) K s:=
 qk0 hx (by rw [hs];exact qa6 ho) ht hr h
end
end Go.Av
namespace Go.Proofs.YtmjmdjbdoiddeaaGreatDoor
open Go Go.Av Go.RowKit Go.Proofs Go.Pl
structure zp where
 kind:Int
 key:qd
 text:qd
 lo:Int
 hi:Int
@[reducible] def qhc (r : zp) : List AV := [Iv r.kind, Sv r.key, Sv r.text, Iv r.lo, Iv r.hi]
@[reducible] def wj (r : zp) : AV := .ag (qhc r)
abbrev FldV:=qd×qd
@[reducible] def fldA (f : FldV) : AV := .ag [Sv f.1, Sv f.2]
@[reducible] def y6 (l : List FldV) : AV := .sl 2 (l.map fldA) none
def ya (r:zp):Prop:=1≤r.kind∧r.kind≤7∧(r.kind=6∨yb r.key)
instance (r:zp):Decidable (ya r):=inferInstanceAs (Decidable (_∧_∧_))
theorem qmk (r:zp) (st:List AObj) (hl:r.key.length<4294967281):qp E 15 [wj r] st fun x st'=>x=Bv (decide (ya r))∧st'=st:=by
 refine zl (q7 _) (qw Tryz.func15 rfl (Nat.le_of_ble_eq_true rfl) ?_)
 repeat' (first|(apply vo;first|apply q4|apply za|apply qn|(apply qc;exact rfl;apply wo;exact cAo)|(apply qc;exact rfl;apply wv;exact cAo)|(apply qc;exact rfl;apply xm;exact cRa)|(apply qc;exact rfl;apply xl;exact cRa)|(apply qc;exact rfl;apply cd_n <;> intro h)|(apply qc;exact rfl;apply cd_t;exact cRa)|(apply qc;exact rfl;apply cd_f;exact cRa)|(apply qc;exact rfl;apply cd_d <;> intro h)|(apply qc;exact rfl;apply cd_s <;> intro h)|(apply vk;exact rfl;kernel_rfl)|apply zb|apply jg|apply ze)|(apply j5;first|(apply qr;(iterate 4 exact rfl))|(apply q8;(iterate 4 exact rfl)))|(apply wd;first|(apply kl;exact cAo)|(apply jo;exact cAo)|(apply jh;exact cAo)|(apply kj;exact cAo)|(apply ki;exact cRa)|(apply kw;exact cRa)|(apply j8;exact cRa)|(apply jr;exact cRa)|(apply js <;> intro h)|(apply vc;exact cRa)|(apply vq;exact cRa)|(apply ke;exact cRa)|(apply ju;exact cRa)|(apply z3 <;> intro h)|(apply vd <;> intro h))|(apply wc;first|apply wx|(apply v8;(iterate 4 exact rfl))|(apply w9;exact rfl;exact rfl;exact qj (by omega) (by omega))|(apply wb;(iterate 4 exact rfl);exact cAs;exact cAs)|(apply jm;(iterate 5 exact rfl))|(apply kp;exact rfl;exact rfl;exact cOs)|(apply j3;(iterate 3 exact rfl))|(apply jl;(iterate 5 exact rfl))|(apply zh;(iterate 4 exact rfl))|(apply zg;(iterate 3 exact rfl))|(apply w8;(iterate 3 exact rfl);exact cAs)|(apply wa;exact rfl;exact rfl)|(apply vm;exact rfl;exact rfl)|(apply vn;(iterate 3 exact rfl);omega)|(apply ko;(iterate 3 exact rfl))|apply v5|apply kh|(apply ww;exact rfl;exact rfl;exact qj (by omega) (by omega))|(apply v9;(iterate 3 exact rfl))|(apply v6;(iterate 3 exact rfl);exact cAs)|(apply vz;(iterate 3 exact rfl);exact cAs)|(apply jz;exact rfl;exact rfl))|(apply j4;first|(apply qz;(iterate 3 exact rfl))|(apply z4;(iterate 3 exact rfl))|(apply z7;exact rfl;exact rfl;exact cOs)|(apply z6;exact rfl;exact rfl;exact qj (by omega) (by omega))|(apply j9;exact rfl;exact rfl;exact qj (by omega) (by omega))|(apply zx;exact rfl;exact rfl)|(apply zz;exact rfl;exact rfl)|(apply zw;exact rfl;exact rfl)|(apply zy;exact rfl;exact rfl)|(apply zo;(iterate 3 exact rfl))|(apply z0;(iterate 3 exact rfl))|(apply jy;exact rfl;exact rfl;(first|exact qf _|exact rfl);first|exact qf _|exact rfl)|(apply jv;exact rfl;exact rfl;(first|exact qf _|exact rfl);first|exact qf _|exact rfl)|(apply kn;exact rfl;exact rfl;(first|exact qf _|exact rfl);first|exact qf _|exact rfl)|(apply jw;(iterate 3 exact rfl))|(apply jx;(iterate 3 exact rfl)))|(apply kr;first|(apply zu;(iterate 3 exact rfl))|(apply z2;(iterate 5 exact rfl))|(apply zj;(iterate 5 exact rfl)))|(apply ku;first|(apply jq;exact rfl)|(apply jf;exact rfl)|(apply ja;exact rfl))|(apply j6;first|(apply kc;(iterate 3 exact rfl);exact cAs)|(apply ka;(iterate 3 exact rfl);exact cAs)|(apply jt;(iterate 4 exact rfl);exact cAs;exact cAs)|(apply zq;(iterate 4 exact rfl);(first|assumption|omega|exact Nat.succ_le_succ (Nat.zero_le _)|(simp;omega));exact rfl))|(apply kq;first|(apply zm;(iterate 3 exact rfl))|(apply je;(iterate 4 exact rfl)))|(apply zt;first|(apply qt;(iterate 3 exact rfl))|(apply qy;(iterate 4 exact rfl)))|(apply j7;first|(apply zr;(iterate 11 exact rfl))|(apply zc;(iterate 11 exact rfl)))|(apply vp;first|apply qs|apply qu|apply qo|(apply zi;exact rfl;exact rfl)|(apply qe;exact rfl;apply we;exact cAo)|(apply qe;exact rfl;apply wi;exact cAo)|(apply qe;exact rfl;apply xy;exact cRa)|(apply qe;exact rfl;apply xx;exact cRa)|(apply qe;exact rfl;apply pk_t;exact cRa)|(apply qe;exact rfl;apply pk_f;exact cRa)|(apply qv;exact rfl;exact rfl)|apply zn|(apply jc;exact rfl;exact rfl)|(apply kz;(iterate 4 exact rfl))|(apply jn;(iterate 3 exact rfl))|(apply jd;(iterate 3 exact rfl);exact cAs)|(apply z9;(iterate 3 exact rfl))|(apply q9;(iterate 9 exact rfl))|(apply zk;exact rfl;exact rfl)|(apply jk;(iterate 4 exact rfl);(first|assumption|omega|decide);exact rfl)|(apply zf;(iterate 4 exact rfl);first|assumption|omega|decide))|(apply qx;exact Tryz.call28;exact quu _ _ hl))
 all_goals refine qm rfl (zv rfl) ⟨congrArg Bv (?_:_=decide (ya r)),_,rfl⟩
 ·exact (decide_eq_false (fun h=>by have:=h.1;omega)).symm
 ·exact (decide_eq_false (fun h=>by have:=h.2.1;omega)).symm
 ·exact (decide_eq_true (⟨by omega,by omega,.inl (by assumption)⟩:ya r)).symm
 ·have e:ya r↔yb r.key:=⟨fun h=>h.2.2.resolve_left (by assumption),fun h=>⟨by omega,by omega,.inr h⟩⟩
  simp [e]
def wu (l:qd):List qd:=if l=[] then [] else vl l
theorem qih (xs:List qd):Pure (.sl 1 (xs.map fun x=>Sv x) none):=qa9 fun x hx=>by
 simp only [List.mem_map] at hx
 obtain⟨l,_,rfl⟩:=hx
 intro y hy
 simp [AV.cells] at hy
 subst hy
 exact q7 _
theorem q14 (l:List UInt8) (st:List AObj) (hl:l.length<4294967281):qp E 66 [Sv l] st fun r st'=>r = .sl 1 ((wu l).map fun x=>Sv x) none∧st'=st:=by
 refine zl (qih _) (qw Tryz.func66 rfl (Nat.le_of_ble_eq_true rfl) ?_)
 repeat' (first|(apply vo;first|apply q4|apply za|apply qn|(apply qc;exact rfl;apply wo;exact cAo)|(apply qc;exact rfl;apply wv;exact cAo)|(apply qc;exact rfl;apply xm;exact cRa)|(apply qc;exact rfl;apply xl;exact cRa)|(apply qc;exact rfl;apply cd_n <;> intro h)|(apply qc;exact rfl;apply cd_t;exact cRa)|(apply qc;exact rfl;apply cd_f;exact cRa)|(apply qc;exact rfl;apply cd_d <;> intro h)|(apply qc;exact rfl;apply cd_s <;> intro h)|(apply vk;exact rfl;kernel_rfl)|apply zb|apply jg|apply ze)|(apply j5;first|(apply qr;(iterate 4 exact rfl))|(apply q8;(iterate 4 exact rfl)))|(apply wd;first|(apply kl;exact cAo)|(apply jo;exact cAo)|(apply jh;exact cAo)|(apply kj;exact cAo)|(apply ki;exact cRa)|(apply kw;exact cRa)|(apply j8;exact cRa)|(apply jr;exact cRa)|(apply js <;> intro h)|(apply vc;exact cRa)|(apply vq;exact cRa)|(apply ke;exact cRa)|(apply ju;exact cRa)|(apply z3 <;> intro h)|(apply vd <;> intro h))|(apply wc;first|apply wx|(apply v8;(iterate 4 exact rfl))|(apply w9;exact rfl;exact rfl;exact qj (by omega) (by omega))|(apply wb;(iterate 4 exact rfl);exact cAs;exact cAs)|(apply jm;(iterate 5 exact rfl))|(apply kp;exact rfl;exact rfl;exact cOs)|(apply j3;(iterate 3 exact rfl))|(apply jl;(iterate 5 exact rfl))|(apply zh;(iterate 4 exact rfl))|(apply zg;(iterate 3 exact rfl))|(apply w8;(iterate 3 exact rfl);exact cAs)|(apply wa;exact rfl;exact rfl)|(apply vm;exact rfl;exact rfl)|(apply vn;(iterate 3 exact rfl);omega)|(apply ko;(iterate 3 exact rfl))|apply v5|apply kh|(apply ww;exact rfl;exact rfl;exact qj (by omega) (by omega))|(apply v9;(iterate 3 exact rfl))|(apply v6;(iterate 3 exact rfl);exact cAs)|(apply vz;(iterate 3 exact rfl);exact cAs)|(apply jz;exact rfl;exact rfl))|(apply j4;first|(apply qz;(iterate 3 exact rfl))|(apply z4;(iterate 3 exact rfl))|(apply z7;exact rfl;exact rfl;exact cOs)|(apply z6;exact rfl;exact rfl;exact qj (by omega) (by omega))|(apply j9;exact rfl;exact rfl;exact qj (by omega) (by omega))|(apply zx;exact rfl;exact rfl)|(apply zz;exact rfl;exact rfl)|(apply zw;exact rfl;exact rfl)|(apply zy;exact rfl;exact rfl)|(apply zo;(iterate 3 exact rfl))|(apply z0;(iterate 3 exact rfl))|(apply jy;exact rfl;exact rfl;(first|exact qf _|exact rfl);first|exact qf _|exact rfl)|(apply jv;exact rfl;exact rfl;(first|exact qf _|exact rfl);first|exact qf _|exact rfl)|(apply kn;exact rfl;exact rfl;(first|exact qf _|exact rfl);first|exact qf _|exact rfl)|(apply jw;(iterate 3 exact rfl))|(apply jx;(iterate 3 exact rfl)))|(apply kr;first|(apply zu;(iterate 3 exact rfl))|(apply z2;(iterate 5 exact rfl))|(apply zj;(iterate 5 exact rfl)))|(apply ku;first|(apply jq;exact rfl)|(apply jf;exact rfl)|(apply ja;exact rfl))|(apply j6;first|(apply kc;(iterate 3 exact rfl);exact cAs)|(apply ka;(iterate 3 exact rfl);exact cAs)|(apply jt;(iterate 4 exact rfl);exact cAs;exact cAs)|(apply zq;(iterate 4 exact rfl);(first|assumption|omega|exact Nat.succ_le_succ (Nat.zero_le _)|(simp;omega));exact rfl))|(apply kq;first|(apply zm;(iterate 3 exact rfl))|(apply je;(iterate 4 exact rfl)))|(apply zt;first|(apply qt;(iterate 3 exact rfl))|(apply qy;(iterate 4 exact rfl)))|(apply j7;first|(apply zr;(iterate 11 exact rfl))|(apply zc;(iterate 11 exact rfl)))|(apply vp;first|apply qs|apply qu|apply qo|(apply zi;exact rfl;exact rfl)|(apply qe;exact rfl;apply we;exact cAo)|(apply qe;exact rfl;apply wi;exact cAo)|(apply qe;exact rfl;apply xy;exact cRa)|(apply qe;exact rfl;apply xx;exact cRa)|(apply qe;exact rfl;apply pk_t;exact cRa)|(apply qe;exact rfl;apply pk_f;exact cRa)|(apply qv;exact rfl;exact rfl)|apply zn|(apply jc;exact rfl;exact rfl)|(apply kz;(iterate 4 exact rfl))|(apply jn;(iterate 3 exact rfl))|(apply jd;(iterate 3 exact rfl);exact cAs)|(apply z9;(iterate 3 exact rfl))|(apply q9;(iterate 9 exact rfl))|(apply zk;exact rfl;exact rfl)|(apply jk;(iterate 4 exact rfl);(first|assumption|omega|decide);exact rfl)|(apply zf;(iterate 4 exact rfl);first|assumption|omega|decide))|(apply qx;exact Tryz.call81;exact qxz _ _ hl))
 ·refine qm rfl (qtz (sz:=1) rfl rfl) ⟨?_,_,rfl⟩
  unfold wu
  rw [if_pos (by assumption)]
  rfl
 ·refine qm rfl (zv rfl) ⟨?_,_,rfl⟩
  unfold wu
  rw [if_neg (by assumption)]
  rfl
def qgw (xs:List qd) (y:qd):Int:=match xs.findIdx? (· = y) with|some k=>k|none=> -1
theorem qy0 {xs:List qd} {y:qd} {k:Nat} (hk:k<xs.length) (h1:∀ x∈xs.take k,x≠y) (h2:xs.getD k []=y):qgw xs y=k:=by
 unfold qgw
 have:xs.findIdx? (· = y)=some k:=by
  rw [List.findIdx?_eq_some_iff_getElem]
  refine⟨hk,by simpa [List.getD,hk] using h2,fun j hj=>?_⟩
  have:=h1 xs[j] (by rw [List.mem_take_iff_getElem];exact⟨j,by omega,rfl⟩)
  simpa using this
 rw [this]
theorem quk {xs:List qd} {y:qd} (h:∀ x∈xs,x≠y):qgw xs y = -1:=by
 unfold qgw
 have:xs.findIdx? (· = y)=none:=by
  rw [List.findIdx?_eq_none_iff]
  intro x hx
  simpa using h x hx
 rw [this]
theorem qz2 {xs:List qd} {k:Nat} (hk:k<xs.length):(xs.map fun x=>Sv x)[k]? = some (Sv (xs.getD k [])):=by
 simp [List.getD,hk]
theorem qvm {xs:List qd} {k:Nat} {y:qd} (hk:k<xs.length) (h1:∀ x∈xs.take k,x≠y) (h2:xs.getD k []≠y):∀ x∈xs.take (k+1),x≠y:=by
 intro x hx
 rw [List.take_succ_eq_append_getElem hk,List.mem_append,List.mem_singleton] at hx
 rcases hx with hx|rfl
 ·exact h1 x hx
 ·simpa [List.getD,hk] using h2
theorem qut (xs:List qd) (y:qd) (st:List AObj) (hx:xs.length<9223372036854775807):qp E 80 [.sl 1 (xs.map fun x=>Sv x) none,Sv y] st fun r st'=>r=Iv (qgw xs y)∧st'=st:=by
 refine zl (q7 _) (qw Tryz.func80 rfl (Nat.le_of_ble_eq_true rfl) ?_)
 have hlen:(xs.map fun x=>Sv x).length=xs.length:=by simp
 repeat' (first|(apply vo;first|apply q4|apply za|apply qn|(apply qc;exact rfl;apply wo;exact cAo)|(apply qc;exact rfl;apply wv;exact cAo)|(apply qc;exact rfl;apply xm;exact cRa)|(apply qc;exact rfl;apply xl;exact cRa)|(apply qc;exact rfl;apply cd_n <;> intro h)|(apply qc;exact rfl;apply cd_t;exact cRa)|(apply qc;exact rfl;apply cd_f;exact cRa)|(apply qc;exact rfl;apply cd_d <;> intro h)|(apply qc;exact rfl;apply cd_s <;> intro h)|(apply vk;exact rfl;kernel_rfl)|apply zb|apply jg|apply ze)|(apply j5;first|(apply qr;(iterate 4 exact rfl))|(apply q8;(iterate 4 exact rfl)))|(apply wd;first|(apply kl;exact cAo)|(apply jo;exact cAo)|(apply jh;exact cAo)|(apply kj;exact cAo)|(apply ki;exact cRa)|(apply kw;exact cRa)|(apply j8;exact cRa)|(apply jr;exact cRa)|(apply js <;> intro h)|(apply vc;exact cRa)|(apply vq;exact cRa)|(apply ke;exact cRa)|(apply ju;exact cRa)|(apply z3 <;> intro h)|(apply vd <;> intro h))|(apply wc;first|apply wx|(apply v8;(iterate 4 exact rfl))|(apply w9;exact rfl;exact rfl;exact qj (by omega) (by omega))|(apply wb;(iterate 4 exact rfl);exact cAs;exact cAs)|(apply jm;(iterate 5 exact rfl))|(apply kp;exact rfl;exact rfl;exact cOs)|(apply j3;(iterate 3 exact rfl))|(apply jl;(iterate 5 exact rfl))|(apply zh;(iterate 4 exact rfl))|(apply zg;(iterate 3 exact rfl))|(apply w8;(iterate 3 exact rfl);exact cAs)|(apply wa;exact rfl;exact rfl)|(apply vm;exact rfl;exact rfl)|(apply vn;(iterate 3 exact rfl);omega)|(apply ko;(iterate 3 exact rfl))|apply v5|apply kh|(apply ww;exact rfl;exact rfl;exact qj (by omega) (by omega))|(apply v9;(iterate 3 exact rfl))|(apply v6;(iterate 3 exact rfl);exact cAs)|(apply vz;(iterate 3 exact rfl);exact cAs)|(apply jz;exact rfl;exact rfl))|(apply j4;first|(apply qz;(iterate 3 exact rfl))|(apply z4;(iterate 3 exact rfl))|(apply z7;exact rfl;exact rfl;exact cOs)|(apply z6;exact rfl;exact rfl;exact qj (by omega) (by omega))|(apply j9;exact rfl;exact rfl;exact qj (by omega) (by omega))|(apply zx;exact rfl;exact rfl)|(apply zz;exact rfl;exact rfl)|(apply zw;exact rfl;exact rfl)|(apply zy;exact rfl;exact rfl)|(apply zo;(iterate 3 exact rfl))|(apply z0;(iterate 3 exact rfl))|(apply jy;exact rfl;exact rfl;(first|exact qf _|exact rfl);first|exact qf _|exact rfl)|(apply jv;exact rfl;exact rfl;(first|exact qf _|exact rfl);first|exact qf _|exact rfl)|(apply kn;exact rfl;exact rfl;(first|exact qf _|exact rfl);first|exact qf _|exact rfl)|(apply jw;(iterate 3 exact rfl))|(apply jx;(iterate 3 exact rfl)))|(apply kr;first|(apply zu;(iterate 3 exact rfl))|(apply z2;(iterate 5 exact rfl))|(apply zj;(iterate 5 exact rfl)))|(apply ku;first|(apply jq;exact rfl)|(apply jf;exact rfl)|(apply ja;exact rfl))|(apply j6;first|(apply kc;(iterate 3 exact rfl);exact cAs)|(apply ka;(iterate 3 exact rfl);exact cAs)|(apply jt;(iterate 4 exact rfl);exact cAs;exact cAs)|(apply zq;(iterate 4 exact rfl);(first|assumption|omega|exact Nat.succ_le_succ (Nat.zero_le _)|(simp;omega));exact rfl))|(apply kq;first|(apply zm;(iterate 3 exact rfl))|(apply je;(iterate 4 exact rfl)))|(apply zt;first|(apply qt;(iterate 3 exact rfl))|(apply qy;(iterate 4 exact rfl)))|(apply j7;first|(apply zr;(iterate 11 exact rfl))|(apply zc;(iterate 11 exact rfl)))|(apply vp;first|apply qs|apply qu|apply qo|(apply zi;exact rfl;exact rfl)|(apply qe;exact rfl;apply we;exact cAo)|(apply qe;exact rfl;apply wi;exact cAo)|(apply qe;exact rfl;apply xy;exact cRa)|(apply qe;exact rfl;apply xx;exact cRa)|(apply qe;exact rfl;apply pk_t;exact cRa)|(apply qe;exact rfl;apply pk_f;exact cRa)|(apply qv;exact rfl;exact rfl)|apply zn|(apply jc;exact rfl;exact rfl)|(apply kz;(iterate 4 exact rfl))|(apply jn;(iterate 3 exact rfl))|(apply jd;(iterate 3 exact rfl);exact cAs)|(apply z9;(iterate 3 exact rfl))|(apply q9;(iterate 9 exact rfl))|(apply zk;exact rfl;exact rfl)|(apply jk;(iterate 4 exact rfl);(first|assumption|omega|decide);exact rfl)|(apply zf;(iterate 4 exact rfl);first|assumption|omega|decide)))
 refine xk (fun (k:Nat) s=>k≤xs.length∧(∀ x∈xs.take k,x≠y)∧StA [(0,.sl 1 (xs.map fun x=>Sv x) none),(1,Sv y),(7,Iv xs.length),(8,Iv k)] (st++[]) [] s) (fun k=>xs.length - k) 0 ⟨by omega,by simp,wr ⟨rfl,rfl,by simp;rfl,rfl,trivial⟩⟩ ?_
 rintro k _ ⟨hk,h1,t,rfl⟩
 repeat' (first|(apply vo;first|apply q4|apply za|apply qn|(apply qc;exact rfl;apply wo;exact cAo)|(apply qc;exact rfl;apply wv;exact cAo)|(apply qc;exact rfl;apply xm;exact cRa)|(apply qc;exact rfl;apply xl;exact cRa)|(apply qc;exact rfl;apply cd_n <;> intro h)|(apply qc;exact rfl;apply cd_t;exact cRa)|(apply qc;exact rfl;apply cd_f;exact cRa)|(apply qc;exact rfl;apply cd_d <;> intro h)|(apply qc;exact rfl;apply cd_s <;> intro h)|(apply vk;exact rfl;kernel_rfl)|apply zb|apply jg|apply ze)|(apply j5;first|(apply qr;(iterate 4 exact rfl))|(apply q8;(iterate 4 exact rfl)))|(apply wd;first|(apply kl;exact cAo)|(apply jo;exact cAo)|(apply jh;exact cAo)|(apply kj;exact cAo)|(apply ki;exact cRa)|(apply kw;exact cRa)|(apply j8;exact cRa)|(apply jr;exact cRa)|(apply js <;> intro h)|(apply vc;exact cRa)|(apply vq;exact cRa)|(apply ke;exact cRa)|(apply ju;exact cRa)|(apply z3 <;> intro h)|(apply vd <;> intro h))|(apply wc;first|apply wx|(apply v8;(iterate 4 exact rfl))|(apply w9;exact rfl;exact rfl;exact qj (by omega) (by omega))|(apply wb;(iterate 4 exact rfl);exact cAs;exact cAs)|(apply jm;(iterate 5 exact rfl))|(apply kp;exact rfl;exact rfl;exact cOs)|(apply j3;(iterate 3 exact rfl))|(apply jl;(iterate 5 exact rfl))|(apply zh;(iterate 4 exact rfl))|(apply zg;(iterate 3 exact rfl))|(apply w8;(iterate 3 exact rfl);exact cAs)|(apply wa;exact rfl;exact rfl)|(apply vm;exact rfl;exact rfl)|(apply vn;(iterate 3 exact rfl);omega)|(apply ko;(iterate 3 exact rfl))|apply v5|apply kh|(apply ww;exact rfl;exact rfl;exact qj (by omega) (by omega))|(apply v9;(iterate 3 exact rfl))|(apply v6;(iterate 3 exact rfl);exact cAs)|(apply vz;(iterate 3 exact rfl);exact cAs)|(apply jz;exact rfl;exact rfl))|(apply j4;first|(apply qz;(iterate 3 exact rfl))|(apply z4;(iterate 3 exact rfl))|(apply z7;exact rfl;exact rfl;exact cOs)|(apply z6;exact rfl;exact rfl;exact qj (by omega) (by omega))|(apply j9;exact rfl;exact rfl;exact qj (by omega) (by omega))|(apply zx;exact rfl;exact rfl)|(apply zz;exact rfl;exact rfl)|(apply zw;exact rfl;exact rfl)|(apply zy;exact rfl;exact rfl)|(apply zo;(iterate 3 exact rfl))|(apply z0;(iterate 3 exact rfl))|(apply jy;exact rfl;exact rfl;(first|exact qf _|exact rfl);first|exact qf _|exact rfl)|(apply jv;exact rfl;exact rfl;(first|exact qf _|exact rfl);first|exact qf _|exact rfl)|(apply kn;exact rfl;exact rfl;(first|exact qf _|exact rfl);first|exact qf _|exact rfl)|(apply jw;(iterate 3 exact rfl))|(apply jx;(iterate 3 exact rfl)))|(apply kr;first|(apply zu;(iterate 3 exact rfl))|(apply z2;(iterate 5 exact rfl))|(apply zj;(iterate 5 exact rfl)))|(apply ku;first|(apply jq;exact rfl)|(apply jf;exact rfl)|(apply ja;exact rfl))|(apply j6;first|(apply kc;(iterate 3 exact rfl);exact cAs)|(apply ka;(iterate 3 exact rfl);exact cAs)|(apply jt;(iterate 4 exact rfl);exact cAs;exact cAs)|(apply zq;(iterate 4 exact rfl);(first|assumption|omega|exact Nat.succ_le_succ (Nat.zero_le _)|(simp;omega));exact rfl))|(apply kq;first|(apply zm;(iterate 3 exact rfl))|(apply je;(iterate 4 exact rfl)))|(apply zt;first|(apply qt;(iterate 3 exact rfl))|(apply qy;(iterate 4 exact rfl)))|(apply j7;first|(apply zr;(iterate 11 exact rfl))|(apply zc;(iterate 11 exact rfl)))|(apply vp;first|apply qs|apply qu|apply qo|(apply zi;exact rfl;exact rfl)|(apply qe;exact rfl;apply we;exact cAo)|(apply qe;exact rfl;apply wi;exact cAo)|(apply qe;exact rfl;apply xy;exact cRa)|(apply qe;exact rfl;apply xx;exact cRa)|(apply qe;exact rfl;apply pk_t;exact cRa)|(apply qe;exact rfl;apply pk_f;exact cRa)|(apply qv;exact rfl;exact rfl)|apply zn|(apply jc;exact rfl;exact rfl)|(apply kz;(iterate 4 exact rfl))|(apply jn;(iterate 3 exact rfl))|(apply jd;(iterate 3 exact rfl);exact cAs)|(apply z9;(iterate 3 exact rfl))|(apply q9;(iterate 9 exact rfl))|(apply zk;exact rfl;exact rfl)|(apply jk;(iterate 4 exact rfl);(first|assumption|omega|decide);exact rfl)|(apply zf;(iterate 4 exact rfl);first|assumption|omega|decide))|(apply qal (n:=k);(iterate 5 exact rfl);exact qz2 (by omega)))
 ·refine qm rfl (zv rfl) ⟨congrArg Iv (?_:(k:Int)=_),_,rfl⟩
  exact (qy0 (by omega) h1 (Eq.symm (by assumption))).symm
 ·exact⟨k+1,⟨by omega,qvm (by omega) h1 (fun e=>absurd e.symm (by assumption)),wr ⟨rfl,rfl,rfl,rfl,trivial⟩⟩,by omega⟩
 ·have e:k=xs.length:=by omega
  subst e
  rw [List.take_length] at h1
  exact qm rfl (zv rfl) ⟨congrArg Iv (quk h1).symm,_,rfl⟩
theorem qwr (xs:List qd) (y:qd):0≤qgw xs y↔y∈xs:=by
 unfold qgw
 cases h:xs.findIdx? (· = y) with
 |none=>
  rw [List.findIdx?_eq_none_iff] at h
  constructor
  ·intro h';simp at h'
  ·intro h';have:=h y h';simp at this
 |some k=>
  rw [List.findIdx?_eq_some_iff_getElem] at h
  obtain⟨hk,h1,_⟩:=h
  constructor
  ·intro _
   have:xs[k]=y:=by simpa using h1
   exact this▸List.getElem_mem hk
  ·intro _;simp
theorem qn5 (xs:List qd) (y:qd) (st:List AObj) (hx:xs.length<9223372036854775807):qp E 65 [.sl 1 (xs.map fun x=>Sv x) none,Sv y] st fun r st'=>r=Bv (decide (y∈xs))∧st'=st:=by
 refine zl (q7 _) (qw Tryz.func65 rfl (Nat.le_of_ble_eq_true rfl) ?_)
 repeat' (first|(apply vo;first|apply q4|apply za|apply qn|(apply qc;exact rfl;apply wo;exact cAo)|(apply qc;exact rfl;apply wv;exact cAo)|(apply qc;exact rfl;apply xm;exact cRa)|(apply qc;exact rfl;apply xl;exact cRa)|(apply qc;exact rfl;apply cd_n <;> intro h)|(apply qc;exact rfl;apply cd_t;exact cRa)|(apply qc;exact rfl;apply cd_f;exact cRa)|(apply qc;exact rfl;apply cd_d <;> intro h)|(apply qc;exact rfl;apply cd_s <;> intro h)|(apply vk;exact rfl;kernel_rfl)|apply zb|apply jg|apply ze)|(apply j5;first|(apply qr;(iterate 4 exact rfl))|(apply q8;(iterate 4 exact rfl)))|(apply wd;first|(apply kl;exact cAo)|(apply jo;exact cAo)|(apply jh;exact cAo)|(apply kj;exact cAo)|(apply ki;exact cRa)|(apply kw;exact cRa)|(apply j8;exact cRa)|(apply jr;exact cRa)|(apply js <;> intro h)|(apply vc;exact cRa)|(apply vq;exact cRa)|(apply ke;exact cRa)|(apply ju;exact cRa)|(apply z3 <;> intro h)|(apply vd <;> intro h))|(apply wc;first|apply wx|(apply v8;(iterate 4 exact rfl))|(apply w9;exact rfl;exact rfl;exact qj (by omega) (by omega))|(apply wb;(iterate 4 exact rfl);exact cAs;exact cAs)|(apply jm;(iterate 5 exact rfl))|(apply kp;exact rfl;exact rfl;exact cOs)|(apply j3;(iterate 3 exact rfl))|(apply jl;(iterate 5 exact rfl))|(apply zh;(iterate 4 exact rfl))|(apply zg;(iterate 3 exact rfl))|(apply w8;(iterate 3 exact rfl);exact cAs)|(apply wa;exact rfl;exact rfl)|(apply vm;exact rfl;exact rfl)|(apply vn;(iterate 3 exact rfl);omega)|(apply ko;(iterate 3 exact rfl))|apply v5|apply kh|(apply ww;exact rfl;exact rfl;exact qj (by omega) (by omega))|(apply v9;(iterate 3 exact rfl))|(apply v6;(iterate 3 exact rfl);exact cAs)|(apply vz;(iterate 3 exact rfl);exact cAs)|(apply jz;exact rfl;exact rfl))|(apply j4;first|(apply qz;(iterate 3 exact rfl))|(apply z4;(iterate 3 exact rfl))|(apply z7;exact rfl;exact rfl;exact cOs)|(apply z6;exact rfl;exact rfl;exact qj (by omega) (by omega))|(apply j9;exact rfl;exact rfl;exact qj (by omega) (by omega))|(apply zx;exact rfl;exact rfl)|(apply zz;exact rfl;exact rfl)|(apply zw;exact rfl;exact rfl)|(apply zy;exact rfl;exact rfl)|(apply zo;(iterate 3 exact rfl))|(apply z0;(iterate 3 exact rfl))|(apply jy;exact rfl;exact rfl;(first|exact qf _|exact rfl);first|exact qf _|exact rfl)|(apply jv;exact rfl;exact rfl;(first|exact qf _|exact rfl);first|exact qf _|exact rfl)|(apply kn;exact rfl;exact rfl;(first|exact qf _|exact rfl);first|exact qf _|exact rfl)|(apply jw;(iterate 3 exact rfl))|(apply jx;(iterate 3 exact rfl)))|(apply kr;first|(apply zu;(iterate 3 exact rfl))|(apply z2;(iterate 5 exact rfl))|(apply zj;(iterate 5 exact rfl)))|(apply ku;first|(apply jq;exact rfl)|(apply jf;exact rfl)|(apply ja;exact rfl))|(apply j6;first|(apply kc;(iterate 3 exact rfl);exact cAs)|(apply ka;(iterate 3 exact rfl);exact cAs)|(apply jt;(iterate 4 exact rfl);exact cAs;exact cAs)|(apply zq;(iterate 4 exact rfl);(first|assumption|omega|exact Nat.succ_le_succ (Nat.zero_le _)|(simp;omega));exact rfl))|(apply kq;first|(apply zm;(iterate 3 exact rfl))|(apply je;(iterate 4 exact rfl)))|(apply zt;first|(apply qt;(iterate 3 exact rfl))|(apply qy;(iterate 4 exact rfl)))|(apply j7;first|(apply zr;(iterate 11 exact rfl))|(apply zc;(iterate 11 exact rfl)))|(apply vp;first|apply qs|apply qu|apply qo|(apply zi;exact rfl;exact rfl)|(apply qe;exact rfl;apply we;exact cAo)|(apply qe;exact rfl;apply wi;exact cAo)|(apply qe;exact rfl;apply xy;exact cRa)|(apply qe;exact rfl;apply xx;exact cRa)|(apply qe;exact rfl;apply pk_t;exact cRa)|(apply qe;exact rfl;apply pk_f;exact cRa)|(apply qv;exact rfl;exact rfl)|apply zn|(apply jc;exact rfl;exact rfl)|(apply kz;(iterate 4 exact rfl))|(apply jn;(iterate 3 exact rfl))|(apply jd;(iterate 3 exact rfl);exact cAs)|(apply z9;(iterate 3 exact rfl))|(apply q9;(iterate 9 exact rfl))|(apply zk;exact rfl;exact rfl)|(apply jk;(iterate 4 exact rfl);(first|assumption|omega|decide);exact rfl)|(apply zf;(iterate 4 exact rfl);first|assumption|omega|decide))|(apply qx;exact Tryz.call80;exact qut _ _ _ hx))
 refine qm rfl (zv rfl) ⟨congrArg Bv (?_:_=_),_,rfl⟩
 simp [qwr]
theorem qya (l:qd):(wu l).length≤l.length+1:=by
 unfold wu
 split
 ·simp
 ·exact qd8 _ l (Nat.le_refl _)
theorem q0m (l y:List UInt8) (st:List AObj) (hl:l.length<4294967281):qp E 44 [Sv l,Sv y] st fun r st'=>r=Bv (decide (y∈wu l))∧st'=st:=by
 refine zl (q7 _) (qw Tryz.func44 rfl (Nat.le_of_ble_eq_true rfl) ?_)
 have h1:=qya l
 repeat' (first|(apply vo;first|apply q4|apply za|apply qn|(apply qc;exact rfl;apply wo;exact cAo)|(apply qc;exact rfl;apply wv;exact cAo)|(apply qc;exact rfl;apply xm;exact cRa)|(apply qc;exact rfl;apply xl;exact cRa)|(apply qc;exact rfl;apply cd_n <;> intro h)|(apply qc;exact rfl;apply cd_t;exact cRa)|(apply qc;exact rfl;apply cd_f;exact cRa)|(apply qc;exact rfl;apply cd_d <;> intro h)|(apply qc;exact rfl;apply cd_s <;> intro h)|(apply vk;exact rfl;kernel_rfl)|apply zb|apply jg|apply ze)|(apply j5;first|(apply qr;(iterate 4 exact rfl))|(apply q8;(iterate 4 exact rfl)))|(apply wd;first|(apply kl;exact cAo)|(apply jo;exact cAo)|(apply jh;exact cAo)|(apply kj;exact cAo)|(apply ki;exact cRa)|(apply kw;exact cRa)|(apply j8;exact cRa)|(apply jr;exact cRa)|(apply js <;> intro h)|(apply vc;exact cRa)|(apply vq;exact cRa)|(apply ke;exact cRa)|(apply ju;exact cRa)|(apply z3 <;> intro h)|(apply vd <;> intro h))|(apply wc;first|apply wx|(apply v8;(iterate 4 exact rfl))|(apply w9;exact rfl;exact rfl;exact qj (by omega) (by omega))|(apply wb;(iterate 4 exact rfl);exact cAs;exact cAs)|(apply jm;(iterate 5 exact rfl))|(apply kp;exact rfl;exact rfl;exact cOs)|(apply j3;(iterate 3 exact rfl))|(apply jl;(iterate 5 exact rfl))|(apply zh;(iterate 4 exact rfl))|(apply zg;(iterate 3 exact rfl))|(apply w8;(iterate 3 exact rfl);exact cAs)|(apply wa;exact rfl;exact rfl)|(apply vm;exact rfl;exact rfl)|(apply vn;(iterate 3 exact rfl);omega)|(apply ko;(iterate 3 exact rfl))|apply v5|apply kh|(apply ww;exact rfl;exact rfl;exact qj (by omega) (by omega))|(apply v9;(iterate 3 exact rfl))|(apply v6;(iterate 3 exact rfl);exact cAs)|(apply vz;(iterate 3 exact rfl);exact cAs)|(apply jz;exact rfl;exact rfl))|(apply j4;first|(apply qz;(iterate 3 exact rfl))|(apply z4;(iterate 3 exact rfl))|(apply z7;exact rfl;exact rfl;exact cOs)|(apply z6;exact rfl;exact rfl;exact qj (by omega) (by omega))|(apply j9;exact rfl;exact rfl;exact qj (by omega) (by omega))|(apply zx;exact rfl;exact rfl)|(apply zz;exact rfl;exact rfl)|(apply zw;exact rfl;exact rfl)|(apply zy;exact rfl;exact rfl)|(apply zo;(iterate 3 exact rfl))|(apply z0;(iterate 3 exact rfl))|(apply jy;exact rfl;exact rfl;(first|exact qf _|exact rfl);first|exact qf _|exact rfl)|(apply jv;exact rfl;exact rfl;(first|exact qf _|exact rfl);first|exact qf _|exact rfl)|(apply kn;exact rfl;exact rfl;(first|exact qf _|exact rfl);first|exact qf _|exact rfl)|(apply jw;(iterate 3 exact rfl))|(apply jx;(iterate 3 exact rfl)))|(apply kr;first|(apply zu;(iterate 3 exact rfl))|(apply z2;(iterate 5 exact rfl))|(apply zj;(iterate 5 exact rfl)))|(apply ku;first|(apply jq;exact rfl)|(apply jf;exact rfl)|(apply ja;exact rfl))|(apply j6;first|(apply kc;(iterate 3 exact rfl);exact cAs)|(apply ka;(iterate 3 exact rfl);exact cAs)|(apply jt;(iterate 4 exact rfl);exact cAs;exact cAs)|(apply zq;(iterate 4 exact rfl);(first|assumption|omega|exact Nat.succ_le_succ (Nat.zero_le _)|(simp;omega));exact rfl))|(apply kq;first|(apply zm;(iterate 3 exact rfl))|(apply je;(iterate 4 exact rfl)))|(apply zt;first|(apply qt;(iterate 3 exact rfl))|(apply qy;(iterate 4 exact rfl)))|(apply j7;first|(apply zr;(iterate 11 exact rfl))|(apply zc;(iterate 11 exact rfl)))|(apply vp;first|apply qs|apply qu|apply qo|(apply zi;exact rfl;exact rfl)|(apply qe;exact rfl;apply we;exact cAo)|(apply qe;exact rfl;apply wi;exact cAo)|(apply qe;exact rfl;apply xy;exact cRa)|(apply qe;exact rfl;apply xx;exact cRa)|(apply qe;exact rfl;apply pk_t;exact cRa)|(apply qe;exact rfl;apply pk_f;exact cRa)|(apply qv;exact rfl;exact rfl)|apply zn|(apply jc;exact rfl;exact rfl)|(apply kz;(iterate 4 exact rfl))|(apply jn;(iterate 3 exact rfl))|(apply jd;(iterate 3 exact rfl);exact cAs)|(apply z9;(iterate 3 exact rfl))|(apply q9;(iterate 9 exact rfl))|(apply zk;exact rfl;exact rfl)|(apply jk;(iterate 4 exact rfl);(first|assumption|omega|decide);exact rfl)|(apply zf;(iterate 4 exact rfl);first|assumption|omega|decide))|(apply qx;exact Tryz.call66;exact q14 _ _ hl)|(apply qx;exact Tryz.call65;exact qn5 _ _ _ (by omega)))
 exact qm rfl (zv rfl) ⟨rfl,_,rfl⟩
def qba (r:zp) (n:Int):Prop:=r.lo≤n∧n≤r.hi
instance (r:zp) (n:Int):Decidable (qba r n):=inferInstanceAs (Decidable (_∧_))
theorem qrl (r:zp) (n:Int) (st:List AObj):qp E 45 [wj r,Iv n] st fun x st'=>x=Bv (decide (qba r n))∧st'=st:=by
 refine zl (q7 _) (qw Tryz.func45 rfl (Nat.le_of_ble_eq_true rfl) ?_)
 repeat' (first|(apply vo;first|apply q4|apply za|apply qn|(apply qc;exact rfl;apply wo;exact cAo)|(apply qc;exact rfl;apply wv;exact cAo)|(apply qc;exact rfl;apply xm;exact cRa)|(apply qc;exact rfl;apply xl;exact cRa)|(apply qc;exact rfl;apply cd_n <;> intro h)|(apply qc;exact rfl;apply cd_t;exact cRa)|(apply qc;exact rfl;apply cd_f;exact cRa)|(apply qc;exact rfl;apply cd_d <;> intro h)|(apply qc;exact rfl;apply cd_s <;> intro h)|(apply vk;exact rfl;kernel_rfl)|apply zb|apply jg|apply ze)|(apply j5;first|(apply qr;(iterate 4 exact rfl))|(apply q8;(iterate 4 exact rfl)))|(apply wd;first|(apply kl;exact cAo)|(apply jo;exact cAo)|(apply jh;exact cAo)|(apply kj;exact cAo)|(apply ki;exact cRa)|(apply kw;exact cRa)|(apply j8;exact cRa)|(apply jr;exact cRa)|(apply js <;> intro h)|(apply vc;exact cRa)|(apply vq;exact cRa)|(apply ke;exact cRa)|(apply ju;exact cRa)|(apply z3 <;> intro h)|(apply vd <;> intro h))|(apply wc;first|apply wx|(apply v8;(iterate 4 exact rfl))|(apply w9;exact rfl;exact rfl;exact qj (by omega) (by omega))|(apply wb;(iterate 4 exact rfl);exact cAs;exact cAs)|(apply jm;(iterate 5 exact rfl))|(apply kp;exact rfl;exact rfl;exact cOs)|(apply j3;(iterate 3 exact rfl))|(apply jl;(iterate 5 exact rfl))|(apply zh;(iterate 4 exact rfl))|(apply zg;(iterate 3 exact rfl))|(apply w8;(iterate 3 exact rfl);exact cAs)|(apply wa;exact rfl;exact rfl)|(apply vm;exact rfl;exact rfl)|(apply vn;(iterate 3 exact rfl);omega)|(apply ko;(iterate 3 exact rfl))|apply v5|apply kh|(apply ww;exact rfl;exact rfl;exact qj (by omega) (by omega))|(apply v9;(iterate 3 exact rfl))|(apply v6;(iterate 3 exact rfl);exact cAs)|(apply vz;(iterate 3 exact rfl);exact cAs)|(apply jz;exact rfl;exact rfl))|(apply j4;first|(apply qz;(iterate 3 exact rfl))|(apply z4;(iterate 3 exact rfl))|(apply z7;exact rfl;exact rfl;exact cOs)|(apply z6;exact rfl;exact rfl;exact qj (by omega) (by omega))|(apply j9;exact rfl;exact rfl;exact qj (by omega) (by omega))|(apply zx;exact rfl;exact rfl)|(apply zz;exact rfl;exact rfl)|(apply zw;exact rfl;exact rfl)|(apply zy;exact rfl;exact rfl)|(apply zo;(iterate 3 exact rfl))|(apply z0;(iterate 3 exact rfl))|(apply jy;exact rfl;exact rfl;(first|exact qf _|exact rfl);first|exact qf _|exact rfl)|(apply jv;exact rfl;exact rfl;(first|exact qf _|exact rfl);first|exact qf _|exact rfl)|(apply kn;exact rfl;exact rfl;(first|exact qf _|exact rfl);first|exact qf _|exact rfl)|(apply jw;(iterate 3 exact rfl))|(apply jx;(iterate 3 exact rfl)))|(apply kr;first|(apply zu;(iterate 3 exact rfl))|(apply z2;(iterate 5 exact rfl))|(apply zj;(iterate 5 exact rfl)))|(apply ku;first|(apply jq;exact rfl)|(apply jf;exact rfl)|(apply ja;exact rfl))|(apply j6;first|(apply kc;(iterate 3 exact rfl);exact cAs)|(apply ka;(iterate 3 exact rfl);exact cAs)|(apply jt;(iterate 4 exact rfl);exact cAs;exact cAs)|(apply zq;(iterate 4 exact rfl);(first|assumption|omega|exact Nat.succ_le_succ (Nat.zero_le _)|(simp;omega));exact rfl))|(apply kq;first|(apply zm;(iterate 3 exact rfl))|(apply je;(iterate 4 exact rfl)))|(apply zt;first|(apply qt;(iterate 3 exact rfl))|(apply qy;(iterate 4 exact rfl)))|(apply j7;first|(apply zr;(iterate 11 exact rfl))|(apply zc;(iterate 11 exact rfl)))|(apply vp;first|apply qs|apply qu|apply qo|(apply zi;exact rfl;exact rfl)|(apply qe;exact rfl;apply we;exact cAo)|(apply qe;exact rfl;apply wi;exact cAo)|(apply qe;exact rfl;apply xy;exact cRa)|(apply qe;exact rfl;apply xx;exact cRa)|(apply qe;exact rfl;apply pk_t;exact cRa)|(apply qe;exact rfl;apply pk_f;exact cRa)|(apply qv;exact rfl;exact rfl)|apply zn|(apply jc;exact rfl;exact rfl)|(apply kz;(iterate 4 exact rfl))|(apply jn;(iterate 3 exact rfl))|(apply jd;(iterate 3 exact rfl);exact cAs)|(apply z9;(iterate 3 exact rfl))|(apply q9;(iterate 9 exact rfl))|(apply zk;exact rfl;exact rfl)|(apply jk;(iterate 4 exact rfl);(first|assumption|omega|decide);exact rfl)|(apply zf;(iterate 4 exact rfl);first|assumption|omega|decide)))
 all_goals refine qm rfl (zv rfl) ⟨congrArg Bv (?_:_=_),_,rfl⟩
 all_goals first
  |exact (decide_eq_false fun h=>by have:=h.1;omega).symm
  |(have e:qba r n↔n≤r.hi:=⟨fun h=>h.2,fun h=>⟨by omega,h⟩⟩;simp [e])
def qcy (r:zp) (l:qd):Prop:=∃ n,numZ l=some n∧qba r n
instance (r:zp) (l:qd):Decidable (qcy r l):=
 match h:numZ l with
 |some n=>decidable_of_iff (qba r n) ⟨fun h'=>⟨n,h,h'⟩,fun ⟨m,h1,h2⟩=>by rw [h] at h1;cases h1;exact h2⟩
 |none=>.isFalse fun ⟨m,h1,_⟩=>by rw [h] at h1;cases h1
theorem qw9 (r:zp) (l:qd) (st:List AObj) (hl:l.length<4294967281):qp E 43 [wj r,Sv l] st fun x st'=>x=Bv (decide (qcy r l))∧st'=st:=by
 refine zl (q7 _) (qw Tryz.func43 rfl (Nat.le_of_ble_eq_true rfl) ?_)
 repeat' (first|(apply vo;first|apply q4|apply za|apply qn|(apply qc;exact rfl;apply wo;exact cAo)|(apply qc;exact rfl;apply wv;exact cAo)|(apply qc;exact rfl;apply xm;exact cRa)|(apply qc;exact rfl;apply xl;exact cRa)|(apply qc;exact rfl;apply cd_n <;> intro h)|(apply qc;exact rfl;apply cd_t;exact cRa)|(apply qc;exact rfl;apply cd_f;exact cRa)|(apply qc;exact rfl;apply cd_d <;> intro h)|(apply qc;exact rfl;apply cd_s <;> intro h)|(apply vk;exact rfl;kernel_rfl)|apply zb|apply jg|apply ze)|(apply j5;first|(apply qr;(iterate 4 exact rfl))|(apply q8;(iterate 4 exact rfl)))|(apply wd;first|(apply kl;exact cAo)|(apply jo;exact cAo)|(apply jh;exact cAo)|(apply kj;exact cAo)|(apply ki;exact cRa)|(apply kw;exact cRa)|(apply j8;exact cRa)|(apply jr;exact cRa)|(apply js <;> intro h)|(apply vc;exact cRa)|(apply vq;exact cRa)|(apply ke;exact cRa)|(apply ju;exact cRa)|(apply z3 <;> intro h)|(apply vd <;> intro h))|(apply wc;first|apply wx|(apply v8;(iterate 4 exact rfl))|(apply w9;exact rfl;exact rfl;exact qj (by omega) (by omega))|(apply wb;(iterate 4 exact rfl);exact cAs;exact cAs)|(apply jm;(iterate 5 exact rfl))|(apply kp;exact rfl;exact rfl;exact cOs)|(apply j3;(iterate 3 exact rfl))|(apply jl;(iterate 5 exact rfl))|(apply zh;(iterate 4 exact rfl))|(apply zg;(iterate 3 exact rfl))|(apply w8;(iterate 3 exact rfl);exact cAs)|(apply wa;exact rfl;exact rfl)|(apply vm;exact rfl;exact rfl)|(apply vn;(iterate 3 exact rfl);omega)|(apply ko;(iterate 3 exact rfl))|apply v5|apply kh|(apply ww;exact rfl;exact rfl;exact qj (by omega) (by omega))|(apply v9;(iterate 3 exact rfl))|(apply v6;(iterate 3 exact rfl);exact cAs)|(apply vz;(iterate 3 exact rfl);exact cAs)|(apply jz;exact rfl;exact rfl))|(apply j4;first|(apply qz;(iterate 3 exact rfl))|(apply z4;(iterate 3 exact rfl))|(apply z7;exact rfl;exact rfl;exact cOs)|(apply z6;exact rfl;exact rfl;exact qj (by omega) (by omega))|(apply j9;exact rfl;exact rfl;exact qj (by omega) (by omega))|(apply zx;exact rfl;exact rfl)|(apply zz;exact rfl;exact rfl)|(apply zw;exact rfl;exact rfl)|(apply zy;exact rfl;exact rfl)|(apply zo;(iterate 3 exact rfl))|(apply z0;(iterate 3 exact rfl))|(apply jy;exact rfl;exact rfl;(first|exact qf _|exact rfl);first|exact qf _|exact rfl)|(apply jv;exact rfl;exact rfl;(first|exact qf _|exact rfl);first|exact qf _|exact rfl)|(apply kn;exact rfl;exact rfl;(first|exact qf _|exact rfl);first|exact qf _|exact rfl)|(apply jw;(iterate 3 exact rfl))|(apply jx;(iterate 3 exact rfl)))|(apply kr;first|(apply zu;(iterate 3 exact rfl))|(apply z2;(iterate 5 exact rfl))|(apply zj;(iterate 5 exact rfl)))|(apply ku;first|(apply jq;exact rfl)|(apply jf;exact rfl)|(apply ja;exact rfl))|(apply j6;first|(apply kc;(iterate 3 exact rfl);exact cAs)|(apply ka;(iterate 3 exact rfl);exact cAs)|(apply jt;(iterate 4 exact rfl);exact cAs;exact cAs)|(apply zq;(iterate 4 exact rfl);(first|assumption|omega|exact Nat.succ_le_succ (Nat.zero_le _)|(simp;omega));exact rfl))|(apply kq;first|(apply zm;(iterate 3 exact rfl))|(apply je;(iterate 4 exact rfl)))|(apply zt;first|(apply qt;(iterate 3 exact rfl))|(apply qy;(iterate 4 exact rfl)))|(apply j7;first|(apply zr;(iterate 11 exact rfl))|(apply zc;(iterate 11 exact rfl)))|(apply vp;first|apply qs|apply qu|apply qo|(apply zi;exact rfl;exact rfl)|(apply qe;exact rfl;apply we;exact cAo)|(apply qe;exact rfl;apply wi;exact cAo)|(apply qe;exact rfl;apply xy;exact cRa)|(apply qe;exact rfl;apply xx;exact cRa)|(apply qe;exact rfl;apply pk_t;exact cRa)|(apply qe;exact rfl;apply pk_f;exact cRa)|(apply qv;exact rfl;exact rfl)|apply zn|(apply jc;exact rfl;exact rfl)|(apply kz;(iterate 4 exact rfl))|(apply jn;(iterate 3 exact rfl))|(apply jd;(iterate 3 exact rfl);exact cAs)|(apply z9;(iterate 3 exact rfl))|(apply q9;(iterate 9 exact rfl))|(apply zk;exact rfl;exact rfl)|(apply jk;(iterate 4 exact rfl);(first|assumption|omega|decide);exact rfl)|(apply zf;(iterate 4 exact rfl);first|assumption|omega|decide)))
 refine qm6 Tryz.call63 ((q2a l _ (by omega)).mono ?_)
 rintro _ _ ⟨rfl,n,x,rfl,hx⟩
 rcases x with _ | ⟨t',y⟩
 ·simp only at hx
  have hb:=qf1 hx
  have hz:numZ l=if Lib.itoa n=l then some n else none:=by unfold numZ;rw [hx]
  repeat' (first|(apply vo;first|apply q4|apply za|apply qn|(apply qc;exact rfl;apply wo;exact cAo)|(apply qc;exact rfl;apply wv;exact cAo)|(apply qc;exact rfl;apply xm;exact cRa)|(apply qc;exact rfl;apply xl;exact cRa)|(apply qc;exact rfl;apply cd_n <;> intro h)|(apply qc;exact rfl;apply cd_t;exact cRa)|(apply qc;exact rfl;apply cd_f;exact cRa)|(apply qc;exact rfl;apply cd_d <;> intro h)|(apply qc;exact rfl;apply cd_s <;> intro h)|(apply vk;exact rfl;kernel_rfl)|apply zb|apply jg|apply ze)|(apply j5;first|(apply qr;(iterate 4 exact rfl))|(apply q8;(iterate 4 exact rfl)))|(apply wd;first|(apply kl;exact cAo)|(apply jo;exact cAo)|(apply jh;exact cAo)|(apply kj;exact cAo)|(apply ki;exact cRa)|(apply kw;exact cRa)|(apply j8;exact cRa)|(apply jr;exact cRa)|(apply js <;> intro h)|(apply vc;exact cRa)|(apply vq;exact cRa)|(apply ke;exact cRa)|(apply ju;exact cRa)|(apply z3 <;> intro h)|(apply vd <;> intro h))|(apply wc;first|apply wx|(apply v8;(iterate 4 exact rfl))|(apply w9;exact rfl;exact rfl;exact qj (by omega) (by omega))|(apply wb;(iterate 4 exact rfl);exact cAs;exact cAs)|(apply jm;(iterate 5 exact rfl))|(apply kp;exact rfl;exact rfl;exact cOs)|(apply j3;(iterate 3 exact rfl))|(apply jl;(iterate 5 exact rfl))|(apply zh;(iterate 4 exact rfl))|(apply zg;(iterate 3 exact rfl))|(apply w8;(iterate 3 exact rfl);exact cAs)|(apply wa;exact rfl;exact rfl)|(apply vm;exact rfl;exact rfl)|(apply vn;(iterate 3 exact rfl);omega)|(apply ko;(iterate 3 exact rfl))|apply v5|apply kh|(apply ww;exact rfl;exact rfl;exact qj (by omega) (by omega))|(apply v9;(iterate 3 exact rfl))|(apply v6;(iterate 3 exact rfl);exact cAs)|(apply vz;(iterate 3 exact rfl);exact cAs)|(apply jz;exact rfl;exact rfl))|(apply j4;first|(apply qz;(iterate 3 exact rfl))|(apply z4;(iterate 3 exact rfl))|(apply z7;exact rfl;exact rfl;exact cOs)|(apply z6;exact rfl;exact rfl;exact qj (by omega) (by omega))|(apply j9;exact rfl;exact rfl;exact qj (by omega) (by omega))|(apply zx;exact rfl;exact rfl)|(apply zz;exact rfl;exact rfl)|(apply zw;exact rfl;exact rfl)|(apply zy;exact rfl;exact rfl)|(apply zo;(iterate 3 exact rfl))|(apply z0;(iterate 3 exact rfl))|(apply jy;exact rfl;exact rfl;(first|exact qf _|exact rfl);first|exact qf _|exact rfl)|(apply jv;exact rfl;exact rfl;(first|exact qf _|exact rfl);first|exact qf _|exact rfl)|(apply kn;exact rfl;exact rfl;(first|exact qf _|exact rfl);first|exact qf _|exact rfl)|(apply jw;(iterate 3 exact rfl))|(apply jx;(iterate 3 exact rfl)))|(apply kr;first|(apply zu;(iterate 3 exact rfl))|(apply z2;(iterate 5 exact rfl))|(apply zj;(iterate 5 exact rfl)))|(apply ku;first|(apply jq;exact rfl)|(apply jf;exact rfl)|(apply ja;exact rfl))|(apply j6;first|(apply kc;(iterate 3 exact rfl);exact cAs)|(apply ka;(iterate 3 exact rfl);exact cAs)|(apply jt;(iterate 4 exact rfl);exact cAs;exact cAs)|(apply zq;(iterate 4 exact rfl);(first|assumption|omega|exact Nat.succ_le_succ (Nat.zero_le _)|(simp;omega));exact rfl))|(apply kq;first|(apply zm;(iterate 3 exact rfl))|(apply je;(iterate 4 exact rfl)))|(apply zt;first|(apply qt;(iterate 3 exact rfl))|(apply qy;(iterate 4 exact rfl)))|(apply j7;first|(apply zr;(iterate 11 exact rfl))|(apply zc;(iterate 11 exact rfl)))|(apply vp;first|apply qs|apply qu|apply qo|(apply zi;exact rfl;exact rfl)|(apply qe;exact rfl;apply we;exact cAo)|(apply qe;exact rfl;apply wi;exact cAo)|(apply qe;exact rfl;apply xy;exact cRa)|(apply qe;exact rfl;apply xx;exact cRa)|(apply qe;exact rfl;apply pk_t;exact cRa)|(apply qe;exact rfl;apply pk_f;exact cRa)|(apply qv;exact rfl;exact rfl)|apply zn|(apply jc;exact rfl;exact rfl)|(apply kz;(iterate 4 exact rfl))|(apply jn;(iterate 3 exact rfl))|(apply jd;(iterate 3 exact rfl);exact cAs)|(apply z9;(iterate 3 exact rfl))|(apply q9;(iterate 9 exact rfl))|(apply zk;exact rfl;exact rfl)|(apply jk;(iterate 4 exact rfl);(first|assumption|omega|decide);exact rfl)|(apply zf;(iterate 4 exact rfl);first|assumption|omega|decide))|(apply qx;exact Tryz.call64;exact q2x _ _ (by omega) (by omega))|(apply qx;exact Tryz.call45;exact qrl _ _ _))
  all_goals refine qm rfl (zv rfl) ⟨congrArg Bv (?_:_=_),_,rfl⟩
  ·have e:qcy r l↔qba r n:=by unfold qcy;rw [hz,if_pos (by assumption)];simp
   simp [e]
  ·refine (decide_eq_false fun h'=>?_).symm
   unfold qcy at h'
   rw [hz,if_neg (by assumption)] at h'
   simp at h'
 ·simp only at hx
  repeat' (first|(apply vo;first|apply q4|apply za|apply qn|(apply qc;exact rfl;apply wo;exact cAo)|(apply qc;exact rfl;apply wv;exact cAo)|(apply qc;exact rfl;apply xm;exact cRa)|(apply qc;exact rfl;apply xl;exact cRa)|(apply qc;exact rfl;apply cd_n <;> intro h)|(apply qc;exact rfl;apply cd_t;exact cRa)|(apply qc;exact rfl;apply cd_f;exact cRa)|(apply qc;exact rfl;apply cd_d <;> intro h)|(apply qc;exact rfl;apply cd_s <;> intro h)|(apply vk;exact rfl;kernel_rfl)|apply zb|apply jg|apply ze)|(apply j5;first|(apply qr;(iterate 4 exact rfl))|(apply q8;(iterate 4 exact rfl)))|(apply wd;first|(apply kl;exact cAo)|(apply jo;exact cAo)|(apply jh;exact cAo)|(apply kj;exact cAo)|(apply ki;exact cRa)|(apply kw;exact cRa)|(apply j8;exact cRa)|(apply jr;exact cRa)|(apply js <;> intro h)|(apply vc;exact cRa)|(apply vq;exact cRa)|(apply ke;exact cRa)|(apply ju;exact cRa)|(apply z3 <;> intro h)|(apply vd <;> intro h))|(apply wc;first|apply wx|(apply v8;(iterate 4 exact rfl))|(apply w9;exact rfl;exact rfl;exact qj (by omega) (by omega))|(apply wb;(iterate 4 exact rfl);exact cAs;exact cAs)|(apply jm;(iterate 5 exact rfl))|(apply kp;exact rfl;exact rfl;exact cOs)|(apply j3;(iterate 3 exact rfl))|(apply jl;(iterate 5 exact rfl))|(apply zh;(iterate 4 exact rfl))|(apply zg;(iterate 3 exact rfl))|(apply w8;(iterate 3 exact rfl);exact cAs)|(apply wa;exact rfl;exact rfl)|(apply vm;exact rfl;exact rfl)|(apply vn;(iterate 3 exact rfl);omega)|(apply ko;(iterate 3 exact rfl))|apply v5|apply kh|(apply ww;exact rfl;exact rfl;exact qj (by omega) (by omega))|(apply v9;(iterate 3 exact rfl))|(apply v6;(iterate 3 exact rfl);exact cAs)|(apply vz;(iterate 3 exact rfl);exact cAs)|(apply jz;exact rfl;exact rfl))|(apply j4;first|(apply qz;(iterate 3 exact rfl))|(apply z4;(iterate 3 exact rfl))|(apply z7;exact rfl;exact rfl;exact cOs)|(apply z6;exact rfl;exact rfl;exact qj (by omega) (by omega))|(apply j9;exact rfl;exact rfl;exact qj (by omega) (by omega))|(apply zx;exact rfl;exact rfl)|(apply zz;exact rfl;exact rfl)|(apply zw;exact rfl;exact rfl)|(apply zy;exact rfl;exact rfl)|(apply zo;(iterate 3 exact rfl))|(apply z0;(iterate 3 exact rfl))|(apply jy;exact rfl;exact rfl;(first|exact qf _|exact rfl);first|exact qf _|exact rfl)|(apply jv;exact rfl;exact rfl;(first|exact qf _|exact rfl);first|exact qf _|exact rfl)|(apply kn;exact rfl;exact rfl;(first|exact qf _|exact rfl);first|exact qf _|exact rfl)|(apply jw;(iterate 3 exact rfl))|(apply jx;(iterate 3 exact rfl)))|(apply kr;first|(apply zu;(iterate 3 exact rfl))|(apply z2;(iterate 5 exact rfl))|(apply zj;(iterate 5 exact rfl)))|(apply ku;first|(apply jq;exact rfl)|(apply jf;exact rfl)|(apply ja;exact rfl))|(apply j6;first|(apply kc;(iterate 3 exact rfl);exact cAs)|(apply ka;(iterate 3 exact rfl);exact cAs)|(apply jt;(iterate 4 exact rfl);exact cAs;exact cAs)|(apply zq;(iterate 4 exact rfl);(first|assumption|omega|exact Nat.succ_le_succ (Nat.zero_le _)|(simp;omega));exact rfl))|(apply kq;first|(apply zm;(iterate 3 exact rfl))|(apply je;(iterate 4 exact rfl)))|(apply zt;first|(apply qt;(iterate 3 exact rfl))|(apply qy;(iterate 4 exact rfl)))|(apply j7;first|(apply zr;(iterate 11 exact rfl))|(apply zc;(iterate 11 exact rfl)))|(apply vp;first|apply qs|apply qu|apply qo|(apply zi;exact rfl;exact rfl)|(apply qe;exact rfl;apply we;exact cAo)|(apply qe;exact rfl;apply wi;exact cAo)|(apply qe;exact rfl;apply xy;exact cRa)|(apply qe;exact rfl;apply xx;exact cRa)|(apply qe;exact rfl;apply pk_t;exact cRa)|(apply qe;exact rfl;apply pk_f;exact cRa)|(apply qv;exact rfl;exact rfl)|apply zn|(apply jc;exact rfl;exact rfl)|(apply kz;(iterate 4 exact rfl))|(apply jn;(iterate 3 exact rfl))|(apply jd;(iterate 3 exact rfl);exact cAs)|(apply z9;(iterate 3 exact rfl))|(apply q9;(iterate 9 exact rfl))|(apply zk;exact rfl;exact rfl)|(apply jk;(iterate 4 exact rfl);(first|assumption|omega|decide);exact rfl)|(apply zf;(iterate 4 exact rfl);first|assumption|omega|decide)))
  refine qm rfl (zv rfl) ⟨congrArg Bv (?_:_=_),_,rfl⟩
  refine (decide_eq_false fun ⟨m,h1,_⟩=>?_).symm
  unfold numZ at h1
  split at h1
  ·rename_i v hv;exact hx v hv
  ·simp at h1
def xf (r:zp) (f:FldV):Prop:=
 (r.kind=3→f.1=r.key→qcy r f.2)∧(r.kind=4→f.1=r.key→f.2∈wu r.text)∧(r.kind=5→f.1=r.key→qba r f.2.length)∧(r.kind=6→f.1∈wu r.text)
instance (r:zp) (f:FldV):Decidable (xf r f):=inferInstanceAs (Decidable (_∧_∧_∧_))
theorem q10 (r:zp) (f:FldV) (st:List AObj) (h1:r.text.length<4294967281) (h2:f.2.length<4294967281):qp E 27 [wj r,fldA f] st fun x st'=>x=Bv (decide (xf r f))∧st'=st:=by
 refine zl (q7 _) (qw Tryz.func27 rfl (Nat.le_of_ble_eq_true rfl) ?_)
 repeat' (first|(apply vo;first|apply q4|apply za|apply qn|(apply qc;exact rfl;apply wo;exact cAo)|(apply qc;exact rfl;apply wv;exact cAo)|(apply qc;exact rfl;apply xm;exact cRa)|(apply qc;exact rfl;apply xl;exact cRa)|(apply qc;exact rfl;apply cd_n <;> intro h)|(apply qc;exact rfl;apply cd_t;exact cRa)|(apply qc;exact rfl;apply cd_f;exact cRa)|(apply qc;exact rfl;apply cd_d <;> intro h)|(apply qc;exact rfl;apply cd_s <;> intro h)|(apply vk;exact rfl;kernel_rfl)|apply zb|apply jg|apply ze)|(apply j5;first|(apply qr;(iterate 4 exact rfl))|(apply q8;(iterate 4 exact rfl)))|(apply wd;first|(apply kl;exact cAo)|(apply jo;exact cAo)|(apply jh;exact cAo)|(apply kj;exact cAo)|(apply ki;exact cRa)|(apply kw;exact cRa)|(apply j8;exact cRa)|(apply jr;exact cRa)|(apply js <;> intro h)|(apply vc;exact cRa)|(apply vq;exact cRa)|(apply ke;exact cRa)|(apply ju;exact cRa)|(apply z3 <;> intro h)|(apply vd <;> intro h))|(apply wc;first|apply wx|(apply v8;(iterate 4 exact rfl))|(apply w9;exact rfl;exact rfl;exact qj (by omega) (by omega))|(apply wb;(iterate 4 exact rfl);exact cAs;exact cAs)|(apply jm;(iterate 5 exact rfl))|(apply kp;exact rfl;exact rfl;exact cOs)|(apply j3;(iterate 3 exact rfl))|(apply jl;(iterate 5 exact rfl))|(apply zh;(iterate 4 exact rfl))|(apply zg;(iterate 3 exact rfl))|(apply w8;(iterate 3 exact rfl);exact cAs)|(apply wa;exact rfl;exact rfl)|(apply vm;exact rfl;exact rfl)|(apply vn;(iterate 3 exact rfl);omega)|(apply ko;(iterate 3 exact rfl))|apply v5|apply kh|(apply ww;exact rfl;exact rfl;exact qj (by omega) (by omega))|(apply v9;(iterate 3 exact rfl))|(apply v6;(iterate 3 exact rfl);exact cAs)|(apply vz;(iterate 3 exact rfl);exact cAs)|(apply jz;exact rfl;exact rfl))|(apply j4;first|(apply qz;(iterate 3 exact rfl))|(apply z4;(iterate 3 exact rfl))|(apply z7;exact rfl;exact rfl;exact cOs)|(apply z6;exact rfl;exact rfl;exact qj (by omega) (by omega))|(apply j9;exact rfl;exact rfl;exact qj (by omega) (by omega))|(apply zx;exact rfl;exact rfl)|(apply zz;exact rfl;exact rfl)|(apply zw;exact rfl;exact rfl)|(apply zy;exact rfl;exact rfl)|(apply zo;(iterate 3 exact rfl))|(apply z0;(iterate 3 exact rfl))|(apply jy;exact rfl;exact rfl;(first|exact qf _|exact rfl);first|exact qf _|exact rfl)|(apply jv;exact rfl;exact rfl;(first|exact qf _|exact rfl);first|exact qf _|exact rfl)|(apply kn;exact rfl;exact rfl;(first|exact qf _|exact rfl);first|exact qf _|exact rfl)|(apply jw;(iterate 3 exact rfl))|(apply jx;(iterate 3 exact rfl)))|(apply kr;first|(apply zu;(iterate 3 exact rfl))|(apply z2;(iterate 5 exact rfl))|(apply zj;(iterate 5 exact rfl)))|(apply ku;first|(apply jq;exact rfl)|(apply jf;exact rfl)|(apply ja;exact rfl))|(apply j6;first|(apply kc;(iterate 3 exact rfl);exact cAs)|(apply ka;(iterate 3 exact rfl);exact cAs)|(apply jt;(iterate 4 exact rfl);exact cAs;exact cAs)|(apply zq;(iterate 4 exact rfl);(first|assumption|omega|exact Nat.succ_le_succ (Nat.zero_le _)|(simp;omega));exact rfl))|(apply kq;first|(apply zm;(iterate 3 exact rfl))|(apply je;(iterate 4 exact rfl)))|(apply zt;first|(apply qt;(iterate 3 exact rfl))|(apply qy;(iterate 4 exact rfl)))|(apply j7;first|(apply zr;(iterate 11 exact rfl))|(apply zc;(iterate 11 exact rfl)))|(apply vp;first|apply qs|apply qu|apply qo|(apply zi;exact rfl;exact rfl)|(apply qe;exact rfl;apply we;exact cAo)|(apply qe;exact rfl;apply wi;exact cAo)|(apply qe;exact rfl;apply xy;exact cRa)|(apply qe;exact rfl;apply xx;exact cRa)|(apply qe;exact rfl;apply pk_t;exact cRa)|(apply qe;exact rfl;apply pk_f;exact cRa)|(apply qv;exact rfl;exact rfl)|apply zn|(apply jc;exact rfl;exact rfl)|(apply kz;(iterate 4 exact rfl))|(apply jn;(iterate 3 exact rfl))|(apply jd;(iterate 3 exact rfl);exact cAs)|(apply z9;(iterate 3 exact rfl))|(apply q9;(iterate 9 exact rfl))|(apply zk;exact rfl;exact rfl)|(apply jk;(iterate 4 exact rfl);(first|assumption|omega|decide);exact rfl)|(apply zf;(iterate 4 exact rfl);first|assumption|omega|decide))|(apply qx;exact Tryz.call44;exact q0m _ _ _ h1)|(apply qx;exact Tryz.call43;exact qw9 r _ _ h2)|(apply qx;exact Tryz.call45;exact qrl r _ _))
 all_goals refine qm rfl (zv rfl) ⟨congrArg Bv (?_:_=_),_,rfl⟩
 all_goals simp_all [xf]
end Go.Proofs.YtmjmdjbdoiddeaaGreatDoor
