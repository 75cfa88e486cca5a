/- Contracts and plain facts that the closing text leans on (part 11). No condition of their own beyond those that each states. -/
import Derived.Test.YtihlchbgjdkmpaaGreatDoorK10
set_option maxRecDepth 100000
set_option linter.unusedVariables false
set_option linter.unusedSimpArgs false
open And renaming intro→Qb
open Exists renaming intro→Qa
open List renaming getElem?_eq_getElem→Qc,getElem?_map→Qd,getElem_mem→Qe,take_length→Qf,take_add_one→Qg
open List.cons renaming injEq→Qi
open Option.some renaming injEq→Qh
open Prod.mk renaming injEq→Qj
namespace Go.Pl
open Go Go.Proofs Go.Proofs.YtihlchbgjdkmpaaGreatDoor
theorem zny{b:j5}{r:RunV}{i:Nat}(hp:z8 b.base b.batches=(.no,r))(hi:i<b.batches.length):(gR b (i+1))[i]?=r.given[i]?∧(gR b (i+1)).length=i+1:=by
 have h:=hp;rw[<-List.take_append_drop (i+1) b.batches]at h;obtain⟨r1,h1,_⟩:=qrk h
 have e:gR b (i+1)=r1.given:=by
  unfold gR;rw[h1];exact if_pos rfl
 rw[e];refine⟨zcc hp h1,?_⟩;rw[(qez h1).1];simp;omega
end Go.Pl
namespace Go.Proofs.YtihlchbgjdkmpaaGreatDoor
open Go Go.Av Go.RowKit Go.Proofs Go.Pl
end Go.Proofs.YtihlchbgjdkmpaaGreatDoor
namespace Go.Pl
open Go Go.Proofs Go.Proofs.YtihlchbgjdkmpaaGreatDoor
def qhe:List qp:=[⟨2,1,[]⟩,⟨3,0,[([66],[50])]⟩,⟨3,0,[([66],[50])]⟩]
end Go.Pl
namespace Go.Proofs.YtihlchbgjdkmpaaGreatDoor
open Go Go.Av Go.RowKit Go.Proofs Go.Pl
theorem zdw(st:List AObj):qr E 8 [] st λr st'=>r=Bv true∧st'=st:=by
 have hap:=λst=>zd6 qhd qhe st (by decide) (by simp[qhe];exact⟨⟨by simp[KeyB],Sx,Sx,Sx⟩,by simp[KeyB],Sx,Sx,Sx⟩) (by decide);have h1:(Go.Pl.appF qhd qhe).1=.no:=by decide +kernel
 have h2:(Go.Pl.appF qhd qhe).2.length<1000000:=by decide +kernel
 have h3:(logH (Go.Pl.appF qhd qhe).2).1=.no:=by decide +kernel
 have h4:((logH (Go.Pl.appF qhd qhe).2).2.map λe=>(e.del,e.ins,e.first,e.last))=[(1,2,2,3)]:=by decide +kernel
 have h5:(qhb (Go.Pl.appF qhd qhe).2).1=.no:=by decide +kernel
 have h6:(qhb (Go.Pl.appF qhd qhe).2).2.length<1000000:=by decide +kernel
 have h7:(jx (qhb (Go.Pl.appF qhd qhe).2).2).1=.no:=by decide +kernel
 have h8:qsp (jx (qhb (Go.Pl.appF qhd qhe).2).2).2.2=qhd:=by decide +kernel
 rw[h1]at hap;generalize(Go.Pl.appF qhd qhe).2=s at *;have hlg:=λst=>ze8 s st h2;have u7:=λst=>zfa s st h2;rw[h3]at hlg;rw[h5]at u7;generalize(qhb s).2=t at *;have hrt:=λst=>zat t st h6;unfold qxv at hrt;simp only[h7]at hrt;obtain⟨hB,hI⟩:=zdb t;have ht:=λst=>zmh (jx t).2.2 st (q96 hB hI) (q7c hB hI);rw[h8]at ht;generalize(jx t).2.2=l at hrt ht;generalize(jx t).2.1=b at hrt;generalize(logH s).2=L at *
 obtain⟨e,rfl⟩:∃e,L=[e]:=by
  cases L with
  |nil=>simp at h4
  |cons e r=>cases r with
   |nil=>exact⟨e,rfl⟩
   |cons _ _=>simp at h4
 simp only[List.map_cons,List.map_nil,Qi,Qj,and_true]at h4;obtain⟨q1,q2,q3,q4⟩:=h4;obtain⟨rep,del,ins,first,last,bytes⟩:=e;dsimp only at q1 q2 q3 q4;subst q1 q2 q3 q4;have hi0:[qar ⟨rep,1,2,2,3,bytes⟩][0]?=some (qar ⟨rep,1,2,2,3,bytes⟩):=rfl;replace hlg:∀st,qr E 25 [Sv s] st λr st'=>r=.tu [.sl 6 [qar ⟨rep,1,2,2,3,bytes⟩] none,errA .no]∧st'=st:=hlg;refine zj [] (qt _) Tryz.func8 rfl rfl (λ_=>rfl) rfl λS0=>?_;apply qf [];repeat' (first|apply Qb|(intro h;try exact cDd)|exact⟨Tryz.call34⟩|refine cpe hap ?_|exact⟨Tryz.call25⟩|refine cpe hlg ?_|exact⟨Tryz.call11⟩|refine cpe u7 ?_|exact⟨Tryz.call9⟩|refine cpe hrt ?_|exact⟨Tryz.call23⟩|refine cpe ht ?_|(refine Qa (0) ⟨Om,_,hi0,?_⟩)|exact cSd|apply qd []|refine exr ?_|refine qg ?_)
 all_goals first|rfl|(simp;done)
end Go.Proofs.YtihlchbgjdkmpaaGreatDoor
