/- Contracts and plain facts that the closing text leans on (part 10). No condition of their own beyond those that each states. -/
import Derived.Test.YtejoahlpbckbeaaGreatDoorK9
set_option maxRecDepth 100000
set_option linter.unusedVariables false
set_option linter.unusedSimpArgs false
namespace Go.Proofs.YtejoahlpbckbeaaGreatDoor
open Go Go.Av Go.RowKit Go.Proofs Go.Pl
def doneR (l:qp) (r:ErrV×qp):AV:=if r.1 = .no then .tu [rlistA r.2,Iv (-9),Iv 0] else .tu [rlistA l,Iv r.1.pos,Iv r.1.code]
theorem doneR_pure (l:qp) (r:ErrV×qp):Pure (doneR l r):=by
 unfold doneR
 split
 ·exact qu3 (rlistA_pure _) (q8 _) (q8 _)
 ·exact qu3 (rlistA_pure _) (q8 _) (q8 _)
theorem refDone31_c (text:qc) (b:List qr) (st:List AObj) (hb:qaq b):qn E 50 [rlistA (ofF (itsE text)),yr b] st fun r st'=>r=doneR (ofF (itsE text)) (jn (ofF (itsE text)) b)∧st'=st:=by
 have hl:=hb.len
 have hml:(b.map x2).length=b.length:=by simp
 have hd:=fun st=>refDo09_c 300000 (ofF (itsE text)) b st (yg text) (q2q _) (by omega) hb.ed (by omega)
 generalize ofF (itsE text)=l at *
 refine jc [.a (rlistA l),.a (yr b)] (doneR_pure _ _) Tryz.func50 rfl rfl (fun _=>rfl) rfl fun S0=>?_
 unfold jn
 unfold doR at hd
 by_cases h:b=[]
 ·subst h
  rw [if_pos rfl]
  unfold doneR
  rw [if_pos rfl]
  apply qe []
  repeat' (first|apply And.intro|(intro h;try exact cDd)|exact cSd|apply qd []|refine exr ?_|refine qg ?_)
 ·have h0:0<b.length:=List.length_pos_iff.2 h
  rw [if_neg h]
  unfold doneR
  generalize doF l b=q at *
  obtain⟨e,l2,ids⟩:=q
  dsimp only at hd ⊢
  by_cases he:e = .no
  ·rw [if_pos he] at hd ⊢
   apply qe []
   repeat' (first|apply And.intro|(intro h;try exact cDd)|exact⟨Tryz.call97⟩|refine cpe hd ?_|exact cSd|apply qd []|refine exr ?_|refine qg ?_)
  ·rw [if_neg he] at hd ⊢
   apply qe []
   repeat' (first|apply And.intro|(intro h;try exact cDd)|exact⟨Tryz.call97⟩|refine cpe hd ?_|exact cSd|apply qd []|refine exr ?_|refine qg ?_)
def patRR (r:ErrV×PatV):AV:=.tu [patA r.2,Iv r.1.pos,Iv r.1.code]
theorem patRR_pure (r:ErrV×PatV):Pure (patRR r):=qu3 (q24 _) (q8 _) (q8 _)
set_option maxHeartbeats 4000000 in
theorem refMake31_c (old now:qc) (st:List AObj) (h1:old.length<1000000) (h2:now.length<1000000):qn E 12 [Sv old,Sv now] st fun r st'=>r=patRR (qz old now)∧st'=st:=by
 refine jc [.s old,.s now] (patRR_pure _) Tryz.func12 rfl rfl (fun _=>rfl) rfl fun S0=>?_
 have ha:=fun st=>refOf07_c old st h1
 have hb:=fun st=>refOf07_c now st h2
 have hc1:=@qux old
 have hc2:=@qux now
 unfold ofR at ha hb
 unfold qz
 by_cases he:zx old = .no
 ·rw [if_pos he,he] at ha
  rw [if_pos he]
  by_cases he2:zx now = .no
  ·rw [if_pos he2,he2] at hb
   rw [if_pos he2]
   have hgn:=qu9 he2
   have hrl:(jt (ofF (itsE now))).length<1000000:=by
    have h1:=(yg now).len
    have h2:=qc8 (ofF (itsE now)).ents
    unfold jt
    rw [List.length_map]
    omega
   have hr:=fun st=>refRows22_c (ofF (itsE now)) st (by have:=(yg now).len;omega)
   have hE:=fun st=>refEdits22_c old (jt (ofF (itsE now))) st hrl
   have hsm:=@q1x old (jt (ofF (itsE now))) hgn hrl
   have hdn:=fun h st=>refDone31_c old (va (ofF (itsE old)) (jt (ofF (itsE now)))) st h
   have hs:=fun st=>q5t old st (by omega)
   have hok:=qqo old (va (ofF (itsE old)) (jt (ofF (itsE now))))
   have htx:=fun h=>@qi5 old (va (ofF (itsE old)) (jt (ofF (itsE now)))) he h
   have ht:=fun st=>refText07_c (jn (ofF (itsE old)) (va (ofF (itsE old)) (jt (ofF (itsE now))))).2 st (by have:=hok.lb.len;omega) hok.txt
   have hcd:=@qy7 (ofF (itsE old)) (va (ofF (itsE old)) (jt (ofF (itsE now))))
   unfold xu
   clear hok hc1 hc2
   generalize ofF (itsE old)=l at *
   generalize ofF (itsE now)=m at *
   generalize jt m=R at *
   generalize va l R=b at *
   have hml:(b.map x2).length=b.length:=by simp
   unfold patRR
   by_cases h40:40<b.length
   ·rw [if_pos h40]
    apply qe []
    repeat' (first|apply And.intro|(intro h;try exact cDd)|exact⟨Tryz.call47⟩|refine cpe ha ?_|exact⟨Tryz.call47⟩|refine cpe hb ?_|exact⟨Tryz.call49⟩|refine cpe hr ?_|exact⟨Tryz.call48⟩|refine cpe hE ?_|exact cSd|apply qd []|refine exr ?_|refine qg ?_)
   ·rw [if_neg h40]
    replace hsm:=hsm (by omega)
    replace hdn:=hdn hsm
    replace htx:=htx hsm
    have h2:=fun st=>q5t (wo (jn l b).2) st (by omega)
    unfold doneR at hdn
    generalize jn l b=q at *
    obtain⟨e,l2⟩:=q
    dsimp only at *
    generalize wo l2=s2 at *
    by_cases hee:e = .no
    ·subst hee
     rw [if_pos rfl] at hdn ⊢
     apply qe []
     repeat' (first|apply And.intro|(intro h;try exact cDd)|exact⟨Tryz.call47⟩|refine cpe ha ?_|exact⟨Tryz.call47⟩|refine cpe hb ?_|exact⟨Tryz.call49⟩|refine cpe hr ?_|exact⟨Tryz.call48⟩|refine cpe hE ?_|exact⟨Tryz.call50⟩|refine cpe hdn ?_|exact⟨Tryz.call45⟩|refine cpe hs ?_|exact⟨Tryz.call51⟩|refine cpe ht ?_|exact⟨Tryz.call45⟩|refine cpe h2 ?_|exact cSd|apply qd []|refine exr ?_|refine qg ?_)
    ·rw [if_neg hee] at hdn ⊢
     replace hcd:=hcd hee
     generalize e.code=c1 at *
     generalize e.pos=c2 at *
     apply qe []
     repeat' (first|apply And.intro|(intro h;try exact cDd)|exact⟨Tryz.call47⟩|refine cpe ha ?_|exact⟨Tryz.call47⟩|refine cpe hb ?_|exact⟨Tryz.call49⟩|refine cpe hr ?_|exact⟨Tryz.call48⟩|refine cpe hE ?_|exact⟨Tryz.call50⟩|refine cpe hdn ?_|exact cSd|apply qd []|refine exr ?_|refine qg ?_)
  ·rw [if_neg he2] at hb
   rw [if_neg he2]
   replace hc2:=hc2 he2
   unfold patRR
   dsimp only at hb ⊢
   generalize (zx now).code=c1 at *
   generalize (zx now).pos=c2 at *
   apply qe []
   repeat' (first|apply And.intro|(intro h;try exact cDd)|exact⟨Tryz.call47⟩|refine cpe ha ?_|exact⟨Tryz.call47⟩|refine cpe hb ?_|exact cSd|apply qd []|refine exr ?_|refine qg ?_)
 ·rw [if_neg he] at ha
  rw [if_neg he]
  replace hc1:=hc1 he
  unfold patRR
  dsimp only at ha ⊢
  generalize (zx old).code=c1 at *
  generalize (zx old).pos=c2 at *
  apply qe []
  repeat' (first|apply And.intro|(intro h;try exact cDd)|exact⟨Tryz.call47⟩|refine cpe ha ?_|exact cSd|apply qd []|refine exr ?_|refine qg ?_)
theorem same31_c (p:PatV) (st:List AObj) (hl:p.b.length<1000000) (hf:∀ x∈p.b,x.fields.length<1000000):qn E 13 [patA p,patA p] st fun r st'=>r=Bv true∧st'=st:=by
 refine jc [.a (patA p),.a (patA p)] (q8 _) Tryz.func13 rfl rfl (fun _=>rfl) rfl fun S0=>?_
 have ho:=fun st=>editsSame_c p.b st hl hf
 apply qe []
 repeat' (first|apply And.intro|(intro h;try exact cDd)|exact⟨Tryz.call34⟩|refine cpe ho ?_|exact cSd|apply qd []|refine exr ?_|refine qg ?_)
 all_goals first|rfl|(exfalso;exact (by assumption:¬ _) rfl)|(simp at *;done)
set_option maxHeartbeats 4000000 in
theorem patchMakes_c (old now:qc) (st:List AObj):qn E 3 [Sv old,Sv now] st fun r st'=>r=Bv true∧st'=st:=by
 refine jc [.s old,.s now] (q8 _) Tryz.func3 rfl rfl (fun _=>rfl) rfl fun S0=>?_
 have hal:=q0y
 by_cases h1:1500<old.length
 ·apply qe []
  repeat' (first|apply And.intro|(intro h;try exact cDd)|exact⟨Tryz.call10⟩|refine cpe hal ?_|exact cSd|apply qd []|refine exr ?_|refine qg ?_)
 by_cases h2:1500<now.length
 ·apply qe []
  repeat' (first|apply And.intro|(intro h;try exact cDd)|exact⟨Tryz.call10⟩|refine cpe hal ?_|exact cSd|apply qd []|refine exr ?_|refine qg ?_)
 have hm:=fun st=>qpk old now st (by omega) (by omega)
 have hr:=fun st=>refMake31_c old now st (by omega) (by omega)
 have hsm:=qgo old now
 have hlb:=hsm.len
 have hsa:=fun st=>same31_c (qz old now).2 st (by omega) hsm.fl
 have hok:=q5b old now
 have hnm:=fun st=>zav (qz old now).1 st hok
 have hat:=fun st=>atE_c (qz old now).1 st
 unfold qdi at hm
 unfold patRR at hr
 clear hsm hlb hok
 generalize qz old now=q at *
 obtain⟨e,p⟩:=q
 obtain⟨f,t,b⟩:=p
 dsimp only at *
 cases e
 all_goals
  apply qe []
  repeat' (first|apply And.intro|(intro h;try exact cDd)|exact⟨Tryz.call10⟩|refine cpe hal ?_|exact⟨Tryz.call11⟩|refine cpe hm ?_|exact⟨Tryz.call12⟩|refine cpe hr ?_|exact⟨Tryz.call13⟩|refine cpe hsa ?_|exact⟨Tryz.call14⟩|refine cpe hnm ?_|exact⟨Tryz.call15⟩|refine cpe hat ?_|exact cSd|apply qd []|refine exr ?_|refine qg ?_)
  all_goals first|rfl|(simp;done)
end Go.Proofs.YtejoahlpbckbeaaGreatDoor
namespace Go.Proofs.YtejoahlpbckbeaaGreatDoor
open Go Go.Av Go.RowKit Go.WideShapes Go.ChangeShapes Go.Deep Go.Proofs Go.Pl
theorem patchMakes_a (old now:qc) (st:List AObj):qn E 3 [Sv old,Sv now] st fun r st'=>r=Bv true∧st'=st:=patchMakes_c old now st
end Go.Proofs.YtejoahlpbckbeaaGreatDoor
