/- Contracts and plain facts that the closing text leans on (part 11). No condition of their own beyond those that each states. -/
import Derived.Test.YthnbabbhpeebbaaGreatDoorK10
import Derived.Test.YthnbabbhpeebbaaGreatDoorRows
import Derived.LaidHandle
import Derived.ProofKit
import Derived.OpenShut
import Derived.ShutString
import Derived.Deep.DeepHandedRow
import Derived.Deep.DeepWitnessRowRef
import Derived.Lib.LaidU8
import Derived.Lib.SmallJoins
import Derived.ChangeSame
import Derived.ChangeAgain
import Derived.Lay
set_option maxRecDepth 100000
set_option linter.unusedVariables false
set_option linter.unusedSimpArgs false
open And renaming intro→Qa
open Bool renaming false_and→Qd,true_and→Qe
open Exists renaming intro→Qb
open Nat renaming le_of_ble_eq_true→Qc
namespace Go.Av
open Go Go.RowKit
section
variable {E : Env} {rd : Option Nat} {N : Nat} {ops : Array Oper} {K : AS → Prop} {s : AS} {rest : List Oper} {d : Option Tmp} {T : TypeId} {p : String} {af : Array Edge}
def notIf:TypeDesc->Bool
 |.interface _=>false
 |_=>true
def zeroV(P:Program)(t:TypeId):Option Value:=match P.info? t with|some i=>i.zero|none=>none
theorem zeroV_run{P:Program}{t:TypeId}{z:Value}(h:zeroV P t=some z)(w:World):(zeroValue t).run P w=.ok z w:=by
 unfold zeroV at h;split at h
 .rename_i i hi
  simp[zeroValue,typeInfo,hi,h]
 .simp at h
theorem aops_assertHit{x:Operand}{xt t:TypeId}{D:TypeDesc}{y:AV}(hx:qg N s x=.ifc t y)(hu:E.P.underlying t=some D)(hn:notIf D=true)
  (h:AOps E rd N ops rest K (s.put d (.tu [y,Bv true]))):AOps E rd N ops (⟨d,.typeAssert x xt t true,T,p,af,none⟩::rest) K s:=by
 refine qv rfl (qu nofun λB0 w0 G a w _ hI=>?_);have he:=hI.eval_of hx;generalize hv:a.eval x=v at he
 cases he with
 |ifc _ _ z hz=>
  refine⟨.tuple #[z,.bool true],w,G,_,s.st,?_,.refl G,hI.agree,qgr hz (.v _),h⟩;generalize a.eval=ρ at hv
  cases D<;>first|(simp[notIf]at hn;done)|simp[execOp,Instr.typeAssert,hv,run_underlying hu]
theorem aops_assertMiss{x:Operand}{xt t u:TypeId}{D:TypeDesc}{y:AV}{z:Value}(hx:qg N s x=.ifc u y)(hu:E.P.underlying t=some D)(hn:notIf D=true)(d7:Nat.beq u t=false)(hz:zeroV E.P t=some z)
  (h:AOps E rd N ops rest K (s.put d (.tu [.v z,Bv false]))):AOps E rd N ops (⟨d,.typeAssert x xt t true,T,p,af,none⟩::rest) K s:=by
 refine qv rfl (qu nofun λB0 w0 G a w _ hI=>?_);have he:=hI.eval_of hx;generalize hv:a.eval x=v at he;have hne':u≠t:=λe=>by subst e;simp at d7
 have ml:=zeroV_run hz w
 cases he with
 |ifc _ _ q hq=>
  refine⟨.tuple #[z,.bool false],w,G,_,s.st,?_,.refl G,hI.agree,qgr (.v _) (.v _),h⟩;generalize a.eval=ρ at hv
  cases D<;>first|(simp[notIf]at hn;done)|simp[execOp,Instr.typeAssert,hv,run_underlying hu,hne',ml]
end
end Go.Av
namespace Go.Av
open Go Go.RowKit Go.WideShapes Go.ChangeShapes
def G0:Gh:=⟨λ_=>none,λ_=>⟨0,0,0,false⟩,0⟩
theorem agree_start(W:World):zb W.heap.size W G0 [] W:=
 ⟨Below.refl _ _,Nat.le_refl _,rfl,λb vs h=>by simp[G0]at h,λo x h=>by simp at h,λo o' x x' _ h=>by simp at h⟩
theorem relL_pure(G:Gh)(vals:Array Value):RelL G (vals.toList.map .v) vals:=by
 refine⟨Sx,λi x y hx hy=>?_⟩;rw[List.getElem?_map]at hx;rw[Array.getElem?_toList,hy]at hx;simp at hx;subst hx;exact .v y
theorem calls_of_acall{E:Env}{f:FuncId}{args:List AV}{vals:Array Value}{b:Bool}{W:World}(h:qm E f args [] λr st'=>r=Bv b∧st'=[])(hL:E.L W.heap.size W)(ha:args=vals.toList.map .v):
  Calls E.P f vals W λe w'=>e=.returned (.bool b)∧Below W.heap.size W w':=by
 subst ha;refine(h.run W.heap.size W G0 vals W hL (agree_start W) (relL_pure _ _)).mono ?_;rintro e w' ⟨v,G',r,st',rfl,_,hA,hr,rfl,_⟩
 cases hr
 exact⟨rfl,hA.below⟩
end Go.Av
namespace Go.Proofs.YthnbabbhpeebbaaGreatDoor
open Go Go.Av Go.RowKit Go.Proofs Go.Pl
def okE:ErrV->Prop
 |.no=>True
 |.num n=>n≠0
 |.at' _ n=>n≠0
theorem numE_c(e:ErrV)(st:List AObj)(he:okE e):qm E 35 [errA e] st λr st'=>r=Iv e.code∧st'=st:=by
 refine ze (qw _) (qq Tryz.func35 rfl (Qc rfl) ?_)
 cases e with
 |no=>
  repeat' (first|apply qp|apply zm|apply qi|apply qh|apply ql|apply qj)
  refine xy (λ(k:Unit)s=>StA [(0,.v .nilIface),(7,Iv 0)] (st++[]) [] s) (λk=>0) () (xp ⟨rfl,rfl,trivial⟩) ?_;rintro k _ ⟨t,rfl⟩;repeat' (first|apply qp|apply zm|apply qi|apply qh|apply ql|apply qj|(apply zh;(iterate 3 exact rfl))|(apply qe;exact rfl;apply y5;exact cAo)|(apply qe;exact rfl;apply cd_t;exact cRa)|(apply qew;exact rfl;exact rfl)|apply za|apply q7)
  exact qo rfl (zt rfl) ⟨rfl,_,rfl⟩
 |num n=>
  have hk:n≠0:=he;repeat' (first|apply qp|apply zm|apply qi|apply qh|apply ql|apply qj)
  refine xy (λ(k:Unit)s=>StA [(0,errA (.num n)),(7,Iv 0)] (st++[]) [] s) (λk=>0) () (xp ⟨rfl,rfl,trivial⟩) ?_;rintro k _ ⟨t,rfl⟩;repeat' (first|apply qp|apply zm|apply qi|apply qh|apply ql|apply qj|(apply zk;exact rfl;exact rfl)|(apply zh;(iterate 3 exact rfl))|(apply zn;(iterate 4 exact rfl))|(apply qdm;exact cRa)|(apply qn;exact rfl;apply pk_t;exact cRa)|(apply qe;exact rfl;apply y5;exact cAo)|(apply qe;exact rfl;apply cd_f;exact cRa)|(apply qeu;exact rfl;exact rfl)|apply za|apply q7|(apply aops_assertHit;(iterate 3 exact rfl)))
  exact qo rfl (zt rfl) ⟨rfl,_,rfl⟩
 |at' a n=>
  have hk:n≠0:=he;repeat' (first|apply qp|apply zm|apply qi|apply qh|apply ql|apply qj)
  refine xy (λ(j:Nat)s=>(j=0∧StA [(0,errA (.at' a n)),(7,Iv 0)] (st++[]) [] s)∨(j=1∧StA [(0,errA (.num n)),(7,Iv 1)] (st++[]) [] s)) (λj=>1-j) 0 (.inl ⟨rfl,xp ⟨rfl,rfl,trivial⟩⟩) ?_;rintro j _ (⟨rfl,t,rfl⟩|⟨rfl,t,rfl⟩)
  .skip
   repeat' (first|apply qp|apply zm|apply qi|apply qh|apply ql|apply qj|(apply zk;exact rfl;exact rfl)|(apply zh;(iterate 3 exact rfl))|(apply j6;exact rfl)|(apply zn;(iterate 4 exact rfl))|(apply qbk;exact cRa)|(apply qgm;exact cRa)|(apply qcf;exact cRa)|(apply qn;exact rfl;apply qg8;exact cRa)|(apply qn;exact rfl;apply pk_f;exact cRa)|(apply qe;exact rfl;apply y5;exact cAo)|(apply qe;exact rfl;apply cd_f;exact cRa)|(apply jw;exact rfl;exact rfl;exact zu Om Om)|(apply qeu;exact rfl;exact rfl)|(apply qb0;(iterate 4 exact rfl))|(apply vr;(iterate 3 exact rfl))|(apply xu;exact rfl;exact rfl)|(apply qcx;(iterate 3 exact rfl))|apply za|(apply aops_assertMiss;(iterate 5 exact rfl))|(apply aops_assertHit;(iterate 3 exact rfl)))
   exact⟨1,.inr ⟨rfl,xp ⟨rfl,rfl,trivial⟩⟩,Om⟩
  .skip
   repeat' (first|apply qp|apply zm|apply qi|apply qh|apply ql|apply qj|(apply zk;exact rfl;exact rfl)|(apply zh;(iterate 3 exact rfl))|(apply zn;(iterate 4 exact rfl))|(apply qdm;exact cRa)|(apply qn;exact rfl;apply pk_t;exact cRa)|(apply qe;exact rfl;apply y5;exact cAo)|(apply qe;exact rfl;apply cd_f;exact cRa)|(apply qeu;exact rfl;exact rfl)|apply za|apply q7|(apply aops_assertHit;(iterate 3 exact rfl)))
   exact qo rfl (zt rfl) ⟨rfl,_,rfl⟩
theorem isE_c(e:ErrV)(w:Int)(st:List AObj)(he:okE e):qm E 17 [errA e,Iv w] st λr st'=>r=Bv (decide (e.code=w))∧st'=st:=by
 refine ze (qw _) (qq Tryz.func17 rfl (Qc rfl) ?_);repeat' (first|apply qp|apply qi|apply qh|apply ql|apply qj|(apply zh;(iterate 3 exact rfl))|apply q7|(apply qk;exact Tryz.call35;exact numE_c _ _ he))
 exact qo rfl (zt rfl) ⟨rfl,_,rfl⟩
end Go.Proofs.YthnbabbhpeebbaaGreatDoor
namespace Go.Pl
open Go Go.Av Go.Proofs Go.Proofs.YthnbabbhpeebbaaGreatDoor
theorem rtext_nil:(zg []).1=.no∧(zg []).2.1.tail=[]:=by decide +kernel
theorem good_of{n:qa}(h:xf n=true):y8 n=true∧n≠[]:=by
 unfold xf at h;unfold y8;simp only[Bool.and_eq_true,decide_eq_true_eq]at h⊢;exact⟨⟨⟨h.1.1,Om⟩,h.2⟩,h.1.1⟩
theorem open_new{n:qa}{room:Int}(h:xf n=true):qd8 (newD room) n=(.no,[],⟨2,0,false,false,room,[⟨[],[]⟩],[(n,0)],[],[⟨1,n,[],[],0⟩,⟨7,[],[],[],0⟩]⟩):=by
 obtain⟨hg,hn⟩:=good_of h;have hd:(newD room).dir=[]:=rfl
 have hf:(newD room).file n=(.num 7,0):=by
  unfold qc.file qc.asked;rw[hd];simp[hg,hasM,newD]
 have ht:wp (newD room) n=(.no,newD room):=by
  unfold wp;rw[hd];rfl
 have hr:(newD room).read n=(.num 7,[]):=by
  unfold qc.read;rw[hf];rfl
 have hc:(newD room).create n=(.no,⟨1,0,false,false,room,[⟨[],[]⟩],[],[⟨n,[],0⟩],[⟨1,n,[],[],0⟩]⟩):=by
  unfold qc.create;rw[hf];simp[newD,qc.spend,qc.did]
 have hs:(⟨1,0,false,false,room,[⟨[],[]⟩],[],[⟨n,[],0⟩],[⟨1,n,[],[],0⟩]⟩:qc).syncDir=(.no,⟨2,0,false,false,room,[⟨[],[]⟩],[(n,0)],[],[⟨1,n,[],[],0⟩,⟨7,[],[],[],0⟩]⟩):=by
  unfold qc.syncDir qc.asked;simp only[qc.spend,qc.did,qc.dir,List.any_nil];simp[dirM,qcs,hn,delM,setM]
 have hp:vl (newD room) n=(.no,[],⟨2,0,false,false,room,[⟨[],[]⟩],[(n,0)],[],[⟨1,n,[],[],0⟩,⟨7,[],[],[],0⟩]⟩):=by
  unfold vl vw;rw[hr,if_pos rfl,hc,if_pos rfl,hs]
 obtain⟨r1,r2⟩:=rtext_nil;unfold qd8;rw[h,ht,hp];simp[r1,r2]
end Go.Pl
namespace Go.Proofs.YthnbabbhpeebbaaGreatDoor
open Go Go.Av Go.RowKit Go.Proofs Go.Pl
theorem fopenNil_c(n:qa)(st:List AObj):qm E 9 [nilP,Sv n] st λr st'=>r=.tu [nilP,errA (.num 1)]∧st'=st:=by
 refine ja [.a nilP,.s n] (vz (qw _) (vu _)) Tryz.func9 rfl rfl (λ_=>rfl) rfl λS0=>?_;apply qd [];repeat' (first|apply Qa|(intro h;try exact cDd)|exact cSd|apply qb []|refine exr ?_|refine qf ?_)
 all_goals first|assumption|rfl|omega|(simp;done)
theorem fname_c(o:Nat)(n t:qa):qz E 18 [.bx 0 0] 1 (hpF (hndH o n t)) ⟨.s n,q8 (hndH o n t),hndH o n t++q9 (hndH o n t),1⟩:=by
 refine je [.bx 0 0] (hndH o n t) 1 _ (hndH o n t) 1 Tryz.func18 rfl rfl rfl rfl λS F ρ=>?_;apply qd [];repeat' (first|apply Qa|(intro h;try exact cDd)|exact cSd|apply qb []|refine exr ?_|refine qf ?_)
 all_goals first|assumption|rfl|omega|(simp;done)
theorem ftextNil_c(st:List AObj):qm E 11 [nilP] st λr st'=>r=Sv []∧st'=st:=by
 refine ja [.a nilP] (qw _) Tryz.func11 rfl rfl (λ_=>rfl) rfl λS0=>?_;apply qd [];repeat' (first|apply Qa|(intro h;try exact cDd)|exact cSd|apply qb []|refine exr ?_|refine qf ?_)
theorem fnameNil_c(st:List AObj):qm E 18 [nilP] st λr st'=>r=Sv []∧st'=st:=by
 refine ja [.a nilP] (qw _) Tryz.func18 rfl rfl (λ_=>rfl) rfl λS0=>?_;apply qd [];repeat' (first|apply Qa|(intro h;try exact cDd)|exact cSd|apply qb []|refine exr ?_|refine qf ?_)
theorem fcheckNil_c(st:List AObj):qm E 12 [nilP] st λr st'=>r=errA (.num 3)∧st'=st:=by
 refine ja [.a nilP] (vu _) Tryz.func12 rfl rfl (λ_=>rfl) rfl λS0=>?_;apply qd [];repeat' (first|apply Qa|(intro h;try exact cDd)|exact cSd|apply qb []|refine exr ?_|refine qf ?_)
end Go.Proofs.YthnbabbhpeebbaaGreatDoor
namespace Go.Pl
open Go Go.Av Go.Proofs Go.Proofs.YthnbabbhpeebbaaGreatDoor
theorem let_all:∀n:Fin 256,qac.contains (UInt8.ofNat n.val)=decide (LetN n.val):=by decide +kernel
theorem let_is(c:UInt8):qac.contains c=decide (LetN c.toNat):=by
 have h:=let_all ⟨c.toNat,c.toNat_lt⟩
 simpa using h
theorem goodFile_eq(n:qa):xf n=(decide (n.length<=16)&&y8 n):=by
 unfold xf y8;by_cases h:n.length<=16
 .simp[h,show n.length<=20 by omega]
 .simp[h]
end Go.Pl
namespace Go.Proofs.YthnbabbhpeebbaaGreatDoor
open Go Go.Av Go.RowKit Go.Proofs Go.Pl
theorem ref03Good_c(n:qa)(st:List AObj)(hl:n.length<1000000):qm E 46 [Sv n] st λr st'=>r=Bv (y8 n)∧st'=st:=by
 refine ja [.s n] (qw _) Tryz.func46 rfl rfl (λ_=>rfl) rfl λS0=>?_;by_cases h0:n.length<1
 .have e:y8 n=false:=by unfold y8;rw[List.eq_nil_of_length_eq_zero (show n.length=0 by omega)];rfl
  rw[e];apply qd [];repeat' (first|apply Qa|(intro h;try exact cDd)|exact cSd|apply qb []|refine exr ?_|refine qf ?_)
  all_goals first|rfl|omega|assumption|(simp;done)
 by_cases h20:20<n.length
 .have e:y8 n=false:=by unfold y8;simp[show¬n.length<=20 by omega]
  rw[e];apply qd [];repeat' (first|apply Qa|(intro h;try exact cDd)|exact cSd|apply qb []|refine exr ?_|refine qf ?_)
  all_goals first|rfl|omega|assumption|(exfalso;omega)|(simp;done)
 have e:y8 n=n.all λc=>qac.contains c:=by
  unfold y8;have:n≠[]:=λh=>by rw[h]at h0;simp at h0
  simp[this,show n.length<=20 by omega]
 rw[e];apply qd [];repeat' (first|apply Qa|(intro h;try exact cDd)|(exfalso;omega)|exact cSd|apply qb []|refine exr ?_|refine qf ?_)
 all_goals try (exfalso;omega)
 refine xx (X:=Nat) (λk=>⟨[(0,.s n),(3,.i k)],[],0⟩) (λk=>k<=n.length∧((n.drop k).all λc=>qac.contains c)=n.all λc=>qac.contains c) (λk=>n.length-k) 0 ⟨Om,Sx⟩ ?_ ?_
 .skip
  repeat' (first|apply Qa|(intro h;try exact cDd)|exact cSd|apply qb []|refine exr ?_|refine qf ?_)
  all_goals first|assumption|rfl|(simp;done)
 .rintro k ⟨hk,a8⟩
  by_cases r8:k<n.length
  .have hg:n.getD k 0=n[k]:=by rw[List.getD_eq_getElem?_getD,List.getElem?_eq_getElem r8];rfl
   rw[List.drop_eq_getElem_cons r8,List.all_cons,let_is,<-hg]at a8;by_cases hc:LetN (n.getD k 0).toNat
   .rw[decide_eq_true hc,Qe]at a8
    unfold LetN at hc;apply qd [];repeat' (first|apply Qa|(intro h;try exact cDd)|(refine Qb k ⟨rfl,?_⟩)|(exfalso;omega)|(refine Qb (k+1) ⟨⟨Om,a8⟩,Om,?_⟩)|exact cSd|apply qb []|refine exr ?_|refine qf ?_)
    all_goals first|assumption|rfl|omega|(exfalso;omega)|(simp;done)
   .rw[decide_eq_false hc,Qd]at a8
    rw[<-a8];unfold LetN at hc;apply qd [];repeat' (first|apply Qa|(intro h;try exact cDd)|(refine Qb k ⟨rfl,?_⟩)|(exfalso;omega)|exact cSd|apply qb []|refine exr ?_|refine qf ?_)
    all_goals first|assumption|rfl|omega|(exfalso;omega)|(simp;done)
  .have r8:k=n.length:=by omega
   subst r8;rw[List.drop_length]at a8;rw[<-a8];apply qd [];repeat' (first|apply Qa|(intro h;try exact cDd)|exact cSd|apply qb []|refine exr ?_|refine qf ?_)
   all_goals first|assumption|rfl|omega|(simp;done)
theorem ref15Good_c(n:qa)(st:List AObj)(hl:n.length<1000000):qm E 14 [Sv n] st λr st'=>r=Bv (xf n)∧st'=st:=by
 have h3:=λst=>ref03Good_c n st hl;rw[goodFile_eq];refine ja [.s n] (qw _) Tryz.func14 rfl rfl (λ_=>rfl) rfl λS0=>?_;by_cases h:n.length<=16
 .rw[decide_eq_true h,Qe]
  cases hg:y8 n<;>rw[hg]at h3
  all_goals
   apply qd [];repeat' (first|apply Qa|(intro h;try exact cDd)|exact⟨Tryz.call46⟩|refine cpe h3 ?_|exact cSd|apply qb []|refine exr ?_|refine qf ?_)
   all_goals first|assumption|rfl|omega|(exfalso;omega)|(simp at h;done)|(simp;done)
 .rw[decide_eq_false h,Qd]
  apply qd [];repeat' (first|apply Qa|(intro h;try exact cDd)|exact⟨Tryz.call46⟩|refine cpe h3 ?_|exact cSd|apply qb []|refine exr ?_|refine qf ?_)
  all_goals first|assumption|rfl|omega|(exfalso;omega)|(simp at h;done)|(simp;done)
theorem firstNil_c(g:AV)(st:List AObj):qm E 49 [.sl 1 [.fn (.func 12) [nilP] [],g] none] st λr st'=>r=errA (.num 3)∧st'=st:=by
 have r7:=λst=>fcheckNil_c st;refine ja [.a (.sl 1 [.fn (.func 12) [nilP] [],g] none)] (vu _) Tryz.func49 rfl rfl (λ_=>rfl) rfl λS0=>?_;have hx:([.fn (.func 12) [nilP] [],g]:List AV)[0]?=some (.fn (.func 12) [nilP] []):=rfl;apply qd [];repeat' (first|apply Qa|(intro h;try exact cDd)|(refine qow (qee (qd [] ?_)))|(refine Qb (0) ⟨Om,_,hx,?_⟩)|exact⟨Tryz.call12⟩|refine cpe r7 ?_|exact cSd|apply qb []|refine exr ?_|refine qf ?_)
 all_goals first|assumption|rfl|omega|(exfalso;omega)|(simp at h;done)|(simp;done)
theorem fappendNil_c(st:List AObj):qm E 19 [nilP,jz []] st λr st'=>r=errA (.num 3)∧st'=st:=by
 have r7:=λst=>fcheckNil_c st;refine ja [.a nilP,.a (jz [])] (vu _) Tryz.func19 rfl rfl (λ_=>rfl) rfl λS0=>?_;apply qd [];repeat' (first|apply Qa|(intro h;try exact cDd)|exact⟨Tryz.call12⟩|refine cpe r7 ?_|exact cSd|apply qb []|refine exr ?_|refine qf ?_)
 all_goals first|assumption|rfl|omega|(exfalso;omega)|(simp at h;done)|(simp;done)
theorem fswapNil_c(t:qa)(st:List AObj):qm E 20 [nilP,Sv t] st λr st'=>r=errA (.num 3)∧st'=st:=by
 have gk:=λg st=>firstNil_c g st;refine ja [.a nilP,.s t] (vu _) Tryz.func20 rfl rfl (λ_=>rfl) rfl λS0=>?_;have gk:=gk (.fn (.func 52) [] [.pp [Sv t]]);apply qd [];repeat' (first|apply Qa|(intro h;try exact cDd)|exact⟨Tryz.call49⟩|refine cpe gk ?_|exact cSd|apply qb []|refine exr ?_|refine qf ?_)
 all_goals first|assumption|rfl|omega|(exfalso;omega)|(simp at h;done)|(simp;done)
theorem texts1_c(n:qa)(st:List AObj):qm E 21 [qao [n],qao [n]] st λr st'=>r=Bv true∧st'=st:=by
 refine ja [.a (qao [n]),.a (qao [n])] (qw _) Tryz.func21 rfl rfl (λ_=>rfl) rfl λS0=>?_;have hx:([n].map λx=>Sv x)[0]?=some (Sv n):=rfl;apply qd [];repeat' (first|apply Qa|(intro h;try exact cDd)|(refine qow (qee (qd [] ?_)))|(refine qee (qd [] ?_))|(refine Qb (0) ⟨Om,_,hx,?_⟩)|exact cSd|apply qb []|refine exr ?_|refine qf ?_)
 all_goals first|assumption|rfl|omega|(exfalso;omega)|(simp at h;done)|(simp;done)
set_option maxHeartbeats 20000000 in
theorem names_c(n text:qa)(st:List AObj):qm E 4 [Sv n,Sv text] st λr st'=>r=Bv true∧st'=st:=by
 refine ja [.s n,.s text] (qw _) Tryz.func4 rfl rfl (λ_=>rfl) rfl λS0=>?_;have hal:=q64;by_cases h4:200<n.length
 .apply qd []
  repeat' (first|apply Qa|(intro h;try exact cDd)|exact⟨Tryz.call7⟩|refine cpe hal ?_|exact cSd|apply qb []|refine exr ?_|refine qf ?_)
 by_cases h40:1000<text.length
 .apply qd []
  repeat' (first|apply Qa|(intro h;try exact cDd)|exact⟨Tryz.call7⟩|refine cpe hal ?_|exact cSd|apply qb []|refine exr ?_|refine qf ?_)
  all_goals first|assumption|rfl|omega|(exfalso;omega)|(simp;done)
 have hn:=λnx H=>zhg 1000 nx H Om;have hg:=λst=>ref15Good_c n st Om;have hfg:=λst=>qgk n st Om;have pm:=λst=>fopenNil_c n st;have htn:=λst=>ftextNil_c st;have hnn:=λst=>fnameNil_c st;have hcn:=λst=>fcheckNil_c st;have hapn:=λst=>fappendNil_c st;have hswn:=λst=>fswapNil_c text st;have i1:=λst=>isE_c (.num 1) 1 st (by simp[okE]);have i3:=λst=>isE_c (.num 3) 3 st (by simp[okE]);rw[show decide ((ErrV.num 1).code=1)=true from rfl]at i1;rw[show decide ((ErrV.num 3).code=3)=true from rfl]at i3;have bd:(newD 1000).Bd 100000:=zh1 (by decide) (by decide)
 cases hgd:xf n with
 |false=>
  rw[hgd]at hg hfg;have ho:=λo=>q5m (newD 1000) o n Om hgd;unfold qdh at ho;generalize newD 1000=d0 at *;apply jp;repeat' (first|apply Qa|(intro h;try exact cDd)|exact⟨Tryz.call7⟩|refine cpe hal ?_|exact⟨Tryz.call14⟩|refine cpe hg ?_|exact⟨Tryz.call16⟩|refine cpe hfg ?_|exact⟨Tryz.call9⟩|refine cpe pm ?_|exact⟨Tryz.call11⟩|refine cpe htn ?_|exact⟨Tryz.call18⟩|refine cpe hnn ?_|exact⟨Tryz.call12⟩|refine cpe hcn ?_|exact⟨Tryz.call19⟩|refine cpe hapn ?_|exact⟨Tryz.call20⟩|refine cpe hswn ?_|exact⟨Tryz.call17⟩|refine cpe i1 ?_|exact⟨Tryz.call17⟩|refine cpe i3 ?_|(refine qjv (id:=6) ?_)|(refine v6 [] ?_)|(refine ql6 rfl rfl rfl ⟨Tryz.call15⟩ _ (hn _ _) ?_;intro o)|(refine qol (locK ?_))|exact⟨Tryz.call9⟩|(refine qpd 0 [(0,0)] (ho o) rfl ?_)|exact cSd|apply qb []|refine exr ?_|refine qf ?_)
  all_goals first|assumption|rfl|omega|(simp;done)
 |true=>
  rw[hgd]at hg hfg;have e1:=open_new (room:=1000) hgd;have hfo:=λo=>(qu3 (newD 1000) o n (bd.mono Om) Om).1 (by rw[e1]);have b1:=q0m bd n Om;rw[e1]at hfo b1;simp only at hfo b1;have hnm:=λo=>zbl _ o (b1.mono (show 100000+12<=900000 by omega));have hac:=λo=>ze3 _ o (b1.mono (show 100000+12<=900000 by omega));have hnl:namesD (⟨2,0,false,false,1000,[⟨[],[]⟩],[(n,0)],[],[⟨1,n,[],[],0⟩,⟨7,[],[],[],0⟩]⟩:qc)=[n]:=List.perm_singleton.1 (qua [n]);have hal2:((⟨2,0,false,false,1000,[⟨[],[]⟩],[(n,0)],[],[⟨1,n,[],[],0⟩,⟨7,[],[],[],0⟩]⟩:qc).acts.map actA).length=2:=rfl;rw[hnl]at hnm;unfold qi5 at hfo;clear e1 b1 hnl bd;generalize newD 1000=d0 at *;generalize(⟨2,0,false,false,1000,[⟨[],[]⟩],[(n,0)],[],[⟨1,n,[],[],0⟩,⟨7,[],[],[],0⟩]⟩:qc)=d1 at *;have htx:=λo=>q3q o n [];have hfn:=λo=>fname_c o n [];have ht1:=λst=>texts1_c n st;apply jp;repeat' (first|apply Qa|(intro h;try exact cDd)|exact⟨Tryz.call7⟩|refine cpe hal ?_|exact⟨Tryz.call14⟩|refine cpe hg ?_|exact⟨Tryz.call16⟩|refine cpe hfg ?_|exact⟨Tryz.call9⟩|refine cpe pm ?_|exact⟨Tryz.call11⟩|refine cpe htn ?_|exact⟨Tryz.call18⟩|refine cpe hnn ?_|exact⟨Tryz.call12⟩|refine cpe hcn ?_|exact⟨Tryz.call19⟩|refine cpe hapn ?_|exact⟨Tryz.call20⟩|refine cpe hswn ?_|exact⟨Tryz.call17⟩|refine cpe i1 ?_|exact⟨Tryz.call17⟩|refine cpe i3 ?_|exact⟨Tryz.call21⟩|refine cpe ht1 ?_|(refine qjv (id:=6) ?_)|(refine v6 [] ?_)|(refine ql6 rfl rfl rfl ⟨Tryz.call15⟩ _ (hn _ _) ?_;intro o)|(refine qol (locK ?_))|exact⟨Tryz.call9⟩|(refine qpd 0 [(0,0)] (hfo o) rfl ?_)|exact⟨Tryz.call22⟩|(refine Qb _ ⟨jm (q:=1) (hnm o) rfl rfl rfl rfl,?_⟩)|exact⟨Tryz.call10⟩|(refine Qb _ ⟨jm (q:=3) (hac o) rfl rfl rfl rfl,?_⟩)|exact⟨Tryz.call11⟩|(refine Qb _ ⟨qy1 (htx o) rfl rfl rfl rfl,?_⟩)|exact⟨Tryz.call18⟩|(refine Qb _ ⟨qy1 (hfn o) rfl rfl rfl rfl,?_⟩)|exact cSd|apply qb []|refine exr ?_|refine qf ?_)
  all_goals first|assumption|rfl|omega|(simp;done)|(simp[hal2];done)
theorem names_a(n text:qa)(st:List AObj):qm E 4 [Sv n,Sv text] st λr st'=>r=Bv true∧st'=st:=names_c n text st
end Go.Proofs.YthnbabbhpeebbaaGreatDoor
