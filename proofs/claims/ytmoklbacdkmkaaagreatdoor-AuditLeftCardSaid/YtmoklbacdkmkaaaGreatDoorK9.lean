/- Contracts and plain facts that the closing text leans on (part 9). No condition of their own beyond those that each states. -/
import Derived.Test.YtmoklbacdkmkaaaGreatDoorK8
import Derived.Test.YtmoklbacdkmkaaaGreatDoorRows
import Derived.LaidHandle
import Derived.ProofKit
import Derived.OpenShut
import Derived.ShutString
import Derived.Deep.DeepHandedRow
import Derived.Deep.DeepWitnessRowRef
import Derived.Lib.LaidU8
import Derived.Lib.SmallJoins
import Derived.ChangeSame
import Derived.ChangeAgain
import Derived.Lay
set_option maxRecDepth 100000
set_option linter.unusedVariables false
set_option linter.unusedSimpArgs false
namespace Go.Av
open Go Go.RowKit Go.WideShapes Go.ChangeShapes
def G0:Gh:=⟨fun _=>none,fun _=>⟨0,0,0,false⟩,0⟩
theorem agree_start (W:World):q8 W.heap.size W G0 [] W:=
 ⟨Below.refl _ _,Nat.le_refl _,rfl,fun b vs h=>by simp [G0] at h,fun o x h=>by simp at h,fun o o' x x' _ h=>by simp at h⟩
theorem relL_pure (G:Gh) (vals:Array Value):RelL G (vals.toList.map .v) vals:=by
 refine⟨by simp,fun i x y hx hy=>?_⟩
 rw [List.getElem?_map] at hx
 rw [Array.getElem?_toList,hy] at hx
 simp at hx
 subst hx
 exact .v y
theorem calls_of_acall {E:Env} {f:FuncId} {args:List AV} {vals:Array Value} {b:Bool} {W:World} (h:qn E f args [] fun r st'=>r=Bv b∧st'=[]) (hL:E.L W.heap.size W) (ha:args=vals.toList.map .v) :
  Calls E.P f vals W fun e w'=>e = .returned (.bool b)∧Below W.heap.size W w':=by
 subst ha
 refine (h.run W.heap.size W G0 vals W hL (agree_start W) (relL_pure _ _)).mono ?_
 rintro e w' ⟨v,G',r,st',rfl,_,hA,hr,rfl,_⟩
 cases hr
 exact⟨rfl,hA.below⟩
end Go.Av
namespace Go.Pl
open Go Go.Proofs Go.Proofs.YtmoklbacdkmkaaaGreatDoor
theorem base_other {text:Bytes} (hp:xx (wc text) = .no) {bs:List (List qp)} {t:Bytes} (hg:∀ x∈bs,qal x) (ht:(q9 t).1=2) (hlen:(j5 (vf text).1++(wc text++(zo bs++t))).length≤120000) :
  xm (j5 (vf text).1++(wc text++(zo bs++t))) ⟨(vf text).1,wc text,bs,yn ((j5 (vf text).1).length+(wc text).length) bs,t⟩:=by
 refine⟨rfl,?_,hp,hg,ht,rfl,hlen⟩
 have hs:=qp5 text
 rcases (qdr text).2 with h0|h0
 ·have e:j5 (vf text).1=[]:=by unfold j5;rw [if_neg (by rw [h0];decide)]
  have hr:vf text=(0,text):=by
   have:=(qdr text).1
   rw [e,List.nil_append] at this
   rw [← h0]
   exact Prod.ext rfl this.symm
  rw [e,List.nil_append] at hs ⊢
  simp only
  rw [h0]
  rw [hs] at hr
  exact qoy (fun p hp'=>((qhu hp).1 p hp').2) hr (qrw (qsg hg ht))
 ·have e:j5 (vf text).1=xg (vf text).1:=by unfold j5;rw [if_pos h0]
  simp only
  rw [e,qgw h0]
end Go.Pl
namespace Go.Proofs.YtmoklbacdkmkaaaGreatDoor
open Go Go.Av Go.Proofs Go.Pl
theorem state_ok {text:Bytes} {b:vr} (h:xm text b) (hp:okP b.batches (ofF (itsE b.base))):qay text=(.no,b,(y4 b.base b.batches).2.l)∧qcd text=(if b.tail=[] then 1 else 2,0):=by
 have hb:=qq3 h
 have hpl:=(q4q b.batches h.parse).2 hp
 have e:qay text=(.no,b,(y4 b.base b.batches).2.l):=by
  unfold qay
  rw [hb]
  simp only
  rw [if_pos trivial,if_pos hpl]
 refine⟨e,?_⟩
 unfold qcd
 rw [e]
theorem rtext_inv {text:Bytes} (h:(qay text).1 = .no):xm text (qay text).2.1∧okP (qay text).2.1.batches (ofF (itsE (qay text).2.1.base)):=by
 unfold qay at h ⊢
 split
 ·rename_i hb
  rw [if_pos hb] at h
  have hT:=qk1 (text:=text) (b:=(jt text).2) (by rw [← hb])
  split
  ·rename_i hp
   exact⟨hT,(q4q _ hT.parse).1 hp⟩
  ·rename_i hp
   rw [if_neg hp] at h
   exact absurd h hp
 ·rename_i hb
  rw [if_neg hb] at h
  exact absurd h hb
theorem bookT_base {text:Bytes} {b:vr} (h:xm text b):(vf text).1=b.gen∧wc text=b.base∧(kg text).drop (atH text)=zo b.batches++b.tail:=by
 have hr:kg text=b.base++(zo b.batches++b.tail):=by unfold kg;rw [h.gen]
 have ha:atH text=b.base.length:=by
  unfold atH
  rw [hr]
  exact qqd h.parse (qsg h.good h.tail)
 refine⟨by rw [h.gen],?_,by rw [ha,hr,List.drop_left]⟩
 unfold wc
 rw [ha,hr,List.take_left]
theorem left_ok {text:Bytes} {b:vr} (h:xm text b) (hp:okP b.batches (ofF (itsE b.base))):qpt text=zi b:=by
 obtain⟨e1,e2,e3⟩:=bookT_base h
 have hst:=(state_ok h hp).2
 have htk:qgx text=(zo b.batches).length:=by
  unfold qgx
  rw [e2,e3]
  refine qo6 _ _ _ _ h.good hp (by rw [h.tail];decide) ?_
  have:=qrk b.batches
  have:=congrArg List.length h.txt
  simp at this
  omega
 unfold qpt
 rw [if_neg,e2,if_pos h.parse,q8b e3 htk,e1,e2]
 ·rfl
 ·rw [hst]
  simp only
  split <;> decide
theorem left_spec (text:Bytes) (hl:text.length≤120000):qpt text <+: text∧qcd (qpt text)=(1,0)∧qpt (qpt text)=qpt text∧((qcd text).1=1→qpt text=text):=by
 have sound:(qcd text).1=1→qpt text=text:=fun h=>by
  have hno:(qay text).1 = .no:=by
   unfold qcd at h
   split at h
   ·assumption
   ·simp only at h;split at h <;> simp at h
   ·simp only at h;split at h <;> simp at h
  obtain⟨hT,hp⟩:=rtext_inv hno
  have hst:=(state_ok hT hp).2
  rw [hst] at h
  simp only at h
  split at h
  ·rename_i ht
   rw [left_ok hT hp]
   have:=hT.split
   rw [ht,List.append_nil] at this
   exact this.symm
  ·simp at h
 have nil:xm [] ⟨(vf []).1,wc [],[],yn ((j5 (vf []).1).length+(wc []).length) [],[]⟩:=by
  have h1:(vf []).1=0:=by
   rcases qm0 [] with⟨n,r,h,h2,_⟩ | ⟨_,h⟩
   ·simp [xg,genL] at h2
   ·rw [h]
  have h2:wc []=[]:=by
   have:=qp5 []
   rw [eq_comm,List.append_eq_nil_iff,List.append_eq_nil_iff] at this
   exact this.2.1
  have h3:j5 (vf []).1=[]:=by rw [h1];unfold j5;rw [if_neg (by decide)]
  have:=base_other (text:=[]) (bs:=[]) (t:=[]) (by rw [h2];decide +kernel) (by simp) (by rw [q48]) (by rw [h2,h3];simp [zo])
  rw [h3,h2] at this
  simpa [zo,h2,h3] using this
 have nilS:qcd []=(1,0)∧qpt []=[]:=by
  have h1:=state_ok nil trivial
  have h2:=left_ok nil trivial
  refine⟨by rw [h1.2];rfl,?_⟩
  rw [h2]
  have:=nil.split
  simpa using this.symm
 have key:qpt text=[]∨∃ bs,qpt text=j5 (vf text).1++(wc text++zo bs)∧qpt text <+: text∧qcd (qpt text)=(1,0)∧qpt (qpt text)=qpt text:=by
  by_cases h4:(qcd text).1=4
  ·exact .inl (by unfold qpt;rw [if_pos h4])
  ·by_cases hp:xx (wc text) = .no
   ·obtain⟨bs,r,e1,e2,e3,e4⟩:=qqh (text.length+1) (ofF (itsE (wc text))) ((kg text).drop (atH text))
    have hs:=qp5 text
    rw [e1] at hs
    have hsl:=congrArg List.length hs
    simp only [List.length_append] at hsl
    have hT:=base_other (bs:=bs) (t:=[]) hp e3 (by rw [q48]) (by simp;omega)
    have e5:qpt text=j5 (vf text).1++(wc text++zo bs):=by
     unfold qpt
     rw [if_neg h4,if_pos hp,q8b e1 e2]
    have e6:qpt text <+: text:=by
     unfold qpt
     rw [if_neg h4,if_pos hp]
     exact List.take_prefix _ _
    rw [List.append_nil] at hT
    rw [← e5] at hT
    refine .inr ⟨bs,e5,e6,?_,?_⟩
    ·have:=(state_ok hT e4).2
     simpa using this
    ·rw [left_ok hT e4,e5]
     rfl
   ·exact .inl (by unfold qpt;rw [if_neg h4,if_neg hp])
 rcases key with h | ⟨bs,h1,h2,h3,h4⟩
 ·rw [h]
  exact⟨List.nil_prefix,nilS.1,nilS.2,fun h'=>by rw [← h];exact sound h'⟩
 ·exact⟨h2,h3,h4,sound⟩
end Go.Proofs.YtmoklbacdkmkaaaGreatDoor
namespace Go.Proofs.YtmoklbacdkmkaaaGreatDoor
open Go Go.Av Go.RowKit Go.Proofs Go.Pl
set_option maxHeartbeats 4000000 in
theorem auditLeft_c (text:Bytes) (st:List AObj):qn E 7 [Sv text] st fun r st'=>r=Bv true∧st'=st:=by
 refine vc [.s text] (q6 _) Tryz.func7 rfl rfl (fun _=>rfl) rfl fun S0=>?_
 have hal:=q2y
 by_cases h4:4000<text.length
 ·apply qh []
  repeat' (first|apply And.intro|(intro h;try exact cDd)|exact⟨Tryz.call40⟩|refine cpe hal ?_|exact cSd|apply qb []|refine exr ?_|refine qm ?_)
 obtain⟨g1,g2,g3,g4⟩:=left_spec text (by omega)
 have hs:=fun st=>qn9 text st (by omega)
 have hlf:=fun st=>qyx text st (by omega)
 have hll:=g1.length_le
 have htk:text.take (qpt text).length=qpt text:=(List.prefix_iff_eq_take.1 g1).symm
 have hs2:=fun st=>qn9 (qpt text) st (by omega)
 have hlf2:=fun st=>qyx (qpt text) st (by omega)
 rw [g2] at hs2
 rw [g3] at hlf2
 have hk:(qcd text).1=1∨(qcd text).1=2∨(qcd text).1=3∨(qcd text).1=4:=by
  unfold qcd
  split
  ·simp only;split <;> simp
  ·simp only;split <;> simp
  ·simp only;split <;> simp
 generalize qpt text=s at *
 generalize (qcd text).2=at2 at *
 generalize (qcd text).1=kd at *
 rcases hk with rfl|rfl|rfl|rfl
 ·obtain rfl:=g4 rfl
  apply qh []
  repeat' (first|apply And.intro|(intro h;try exact cDd)|exact⟨Tryz.call40⟩|refine cpe hal ?_|exact⟨Tryz.call41⟩|refine cpe hs ?_|exact⟨Tryz.call42⟩|refine cpe hlf ?_|exact cSd|apply qb []|refine exr ?_|refine qm ?_)
  all_goals (simp at *;done)
 all_goals
  apply qh []
  repeat' (first|apply And.intro|(intro h;try exact cDd)|exact⟨Tryz.call40⟩|refine cpe hal ?_|exact⟨Tryz.call41⟩|refine cpe hs ?_|exact⟨Tryz.call42⟩|refine cpe hlf ?_|exact⟨Tryz.call41⟩|refine cpe hs2 ?_|exact⟨Tryz.call42⟩|refine cpe hlf2 ?_|exact absurd htk (by assumption)|exact cSd|apply qb []|refine exr ?_|refine qm ?_)
  all_goals (simp at *;done)
end Go.Proofs.YtmoklbacdkmkaaaGreatDoor
