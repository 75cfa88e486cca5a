/- Contracts and plain facts that the closing text leans on (part 12). No condition of their own beyond those that each states. -/
import Derived.Test.YtihlchbgjdkmpaaGreatDoorK11
import Derived.Test.YtihlchbgjdkmpaaGreatDoorRows
import Derived.LaidHandle
import Derived.ProofKit
import Derived.OpenShut
import Derived.ShutString
import Derived.Deep.DeepHandedRow
import Derived.Deep.DeepWitnessRowRef
import Derived.Lib.LaidU8
import Derived.Lib.SmallJoins
import Derived.ChangeSame
import Derived.ChangeAgain
import Derived.Lay
set_option maxRecDepth 100000
set_option linter.unusedVariables false
set_option linter.unusedSimpArgs false
open And renaming intro→Qa
open Bool renaming true_and→Qt,false_or→Qu,or_false→Qv,true_or→Qw
open Exists renaming intro→Qb
open List renaming getElem?_eq_getElem→Qc,getElem?_map→Qd,take_length→Qe,take_succ_cons→Qf,dropLast_concat_getLast→Qg,getElem_mem→Qh,take_add_one→Qi,drop_eq_getElem_cons→Qj,append_nil→Qk,take_of_length_le→Ql,any_cons→Qm,any_nil→Qn,drop_length→Qp,any_append→Qq,mem_range→Qr,take_zero→Qs
open Nat renaming zero_add→Qx
open Option renaming toList_some→Qo
open Option.some renaming injEq→Qy
open Go in
theorem Go.Av.lit_i64{n:Int}(h:(Lit.int .i64 n).wf=true): -9223372036854775808<=n∧n<=9223372036854775807:=by
 simpa[Lit.wf,IntKind.min,IntKind.max,IntKind.signed,IntKind.bits]using h
namespace Go.Proofs.YtihlchbgjdkmpaaGreatDoor
open Go Go.Av Go.RowKit Go.Proofs Go.Pl
theorem ints_c(a b:List Int)(st:List AObj)(ha:a.length<1000000):qr E 33 [wn a,wn b] st λr st'=>r=Bv (decide (a=b))∧st'=st:=by
 refine zj [.a (wn a),.a (wn b)] (qt _) Tryz.func33 rfl rfl (λ_=>rfl) rfl λS0=>?_;have hma:(a.map λx=>Iv x).length=a.length:=Sx
 have hmb:(b.map λx=>Iv x).length=b.length:=Sx
 by_cases hl:a.length=b.length
 .apply qf []
  repeat' (first|apply Qa|(intro h;try exact cDd)|exact cSd|apply qd []|refine exr ?_|refine qg ?_)
  refine zx (X:=Nat) (λk=>⟨[(0,.a (wn a)),(1,.a (wn b)),(12,.i a.length),(13,.i k)],[],0⟩) (λk=>k<=a.length∧a.take k=b.take k) (λk=>a.length-k) 0 ⟨Om,Sx⟩ ?_ ?_
  .skip
   repeat' (first|apply Qa|(intro h;try exact cDd)|exact cSd|apply qd []|refine exr ?_|refine qg ?_)
   all_goals first|(simp;done)
  .rintro k ⟨hk,ht⟩
   by_cases hc:k<a.length
   .have hga:(a.map λx=>Iv x)[k]?=some (Iv a[k]):=by simp[hc]
    have hgb:(b.map λx=>Iv x)[k]?=some (Iv (b[k]'(by omega))):=by simp[show k<b.length by omega]
    apply qf [];repeat' (first|apply Qa|(intro h;try exact cDd)|(refine Qb (k) ⟨Om,_,hga,?_⟩)|(refine Qb (k) ⟨Om,_,hgb,?_⟩)|(refine Qb (k+1) ⟨⟨Om,?_⟩,Om,?_⟩)|exact cSd|apply qd []|refine exr ?_|refine qg ?_)
    .have hab:a≠b:=λe=>by subst e;simp at *
     simp[hab]
    .refine qbw (d:=0) hl hc ht ?_
     simp[List.getD,hc,show k<b.length by omega]
     try omega
   .apply qf []
    repeat' (first|apply Qa|(intro h;try exact cDd)|exact cSd|apply qd []|refine exr ?_|refine qg ?_)
    have hab:a=b:=by
     rw[Ql Om,Ql Om]at ht;exact ht
    simp[hab]
 .apply qf []
  repeat' (first|apply Qa|(intro h;try exact cDd)|exact cSd|apply qd []|refine exr ?_|refine qg ?_)
  all_goals
   have hab:a≠b:=λe=>hl (by rw[e]);simp[hab]
end Go.Proofs.YtihlchbgjdkmpaaGreatDoor
namespace Go.Pl
open Go Go.Proofs
theorem stzF_one(e:EntV):stzF [e]=if 0<e.id then [(e.id,e.x.fields)]else []:=by
 by_cases h:0<e.id<;>simp[stzF,h]
end Go.Pl
namespace Go.Proofs.YtihlchbgjdkmpaaGreatDoor
open Go Go.Av Go.RowKit Go.Proofs Go.Pl
theorem refStanzas07_c(l:qu)(st:List AObj)(hl:l.ents.length<1000000):qr E 82 [xb l] st λr st'=>r=zk0 (stzF l.ents)∧st'=st:=by
 refine zj [.a (xb l)] (zdk _) Tryz.func82 rfl rfl (λ_=>rfl) rfl λS0=>?_;obtain⟨es,nx,mn⟩:=l;dsimp only at hl⊢;have hmi:(es.map entA).length=es.length:=Sx
 apply qf [];repeat' (first|apply Qa|(intro h;try exact cDd)|exact cSd|apply qd []|refine exr ?_|refine qg ?_)
 refine zx (X:=Nat) (λk=>⟨[(1,.a (.pp [qhq es,Iv nx])),(3,.tp 0),(4,.i k)],[(0,some (.tip 2 93 ((stzF (es.take k)).map stzA)))],1⟩) (λk=>k<=es.length) (λk=>es.length-k) 0 Om ?_ ?_
 .skip
  repeat' (first|apply Qa|(intro h;try exact cDd)|exact cSd|apply qd []|refine exr ?_|refine qg ?_)
  all_goals first|rfl|(simp[stzF];done)|(simp[stzF];rfl)
 .rintro k hk
  by_cases e9:k<es.length
  .have hx:es[k]?=some es[k]:=Qc e9
   have i3:(es.map entA)[k]?=some (entA es[k]):=by rw[Qd,hx];rfl
   have i6:es.take (k+1)=es.take k++[es[k]]:=by rw[Qi,hx];rfl
   have gp:=zkk (es.take k);have hsl2:(es.take k).length<=k:=So
   generalize es[k]=e at hx i3 i6;by_cases h0:0<e.id
   .have e1:stzF (es.take (k+1))=stzF (es.take k)++[(e.id,e.x.fields)]:=by rw[i6,qln,stzF_one,if_pos h0]
    apply qf [];repeat' (first|apply Qa|(intro h;try exact cDd)|(refine Qb (k) ⟨Om,_,i3,?_⟩)|(refine Qb (k+1) ⟨Om,Om,?_⟩)|exact cSd|apply qd []|refine exr ?_|refine qg ?_)
    all_goals first|(rw[e1];simp;done)|(simp;omega)
   .have e1:stzF (es.take (k+1))=stzF (es.take k):=by rw[i6,qln,stzF_one,if_neg h0,Qk]
    apply qf [];repeat' (first|apply Qa|(intro h;try exact cDd)|(refine Qb (k) ⟨Om,_,i3,?_⟩)|(refine Qb (k+1) ⟨Om,Om,?_⟩)|exact cSd|apply qd []|refine exr ?_|refine qg ?_)
    all_goals first|(rw[e1];done)|(simp;omega)
  .have e9:k=es.length:=by omega
   subst e9;rw[Qe];apply qf [];repeat' (first|apply Qa|(intro h;try exact cDd)|exact cSd|apply qd []|refine exr ?_|refine qg ?_)
theorem refPlace07_c(l:qu)(id:Int)(st:List AObj)(hl:l.ents.length<1000000):qr E 59 [xb l,Iv id] st λr st'=>r=Iv (qlg l id)∧st'=st:=by
 refine zj [.a (xb l),.i id] (qt _) Tryz.func59 rfl rfl (λ_=>rfl) rfl λS0=>?_;have h1:=λst=>refStanzas07_c l st hl;have gp:=zkk l.ents;unfold qlg;generalize stzF l.ents=s at h1 gp;have hmi:(s.map stzA).length=s.length:=Sx
 apply qf [];repeat' (first|apply Qa|(intro h;try exact cDd)|exact⟨Tryz.call82⟩|refine cpe h1 ?_|exact cSd|apply qd []|refine exr ?_|refine qg ?_)
 refine zx (X:=Nat) (λk=>⟨[(1,.i id),(5,.a (zk0 s)),(6,.i k)],[],0⟩) (λk=>k<=s.length∧qi0 id k (s.drop k)=qi0 id 0 s) (λk=>s.length-k) 0 ⟨Om,rfl⟩ ?_ ?_
 .skip
  repeat' (first|apply Qa|(intro h;try exact cDd)|exact cSd|apply qd []|refine exr ?_|refine qg ?_)
  all_goals (simp;done)
 .rintro k ⟨hk,a8⟩
  by_cases e9:k<s.length
  .have hx:s[k]?=some s[k]:=Qc e9
   have i3:(s.map stzA)[k]?=some (stzA s[k]):=by rw[Qd,hx];rfl
   rw[Qj e9,qi0]at a8;generalize s[k]=x at hx i3 a8;by_cases hi:x.1=id
   .rw[if_pos hi]at a8
    rw[<-a8];apply qf [];repeat' (first|apply Qa|(intro h;try exact cDd)|(refine Qb (k) ⟨Om,_,i3,?_⟩)|exact cSd|apply qd []|refine exr ?_|refine qg ?_)
   .rw[if_neg hi]at a8
    apply qf [];repeat' (first|apply Qa|(intro h;try exact cDd)|(refine Qb (k) ⟨Om,_,i3,?_⟩)|(refine Qb (k+1) ⟨⟨Om,a8⟩,Om,?_⟩)|exact cSd|apply qd []|refine exr ?_|refine qg ?_)
  .have e9:k=s.length:=by omega
   subst e9;rw[Qp,qi0]at a8;rw[<-a8];apply qf [];repeat' (first|apply Qa|(intro h;try exact cDd)|exact cSd|apply qd []|refine exr ?_|refine qg ?_)
theorem behindF_zero{b:j5}(hp:jw b.base=.no):qec b 0=(.no,⟨ofF (itsE b.base),[],[]⟩):=by
 unfold qec;rw[if_neg Om];unfold z8;rw[if_pos hp]
 try rfl
end Go.Proofs.YtihlchbgjdkmpaaGreatDoor
namespace Go.Pl
open Go Go.Proofs Go.Proofs.YtihlchbgjdkmpaaGreatDoor
theorem runI_mem{a id:Int}{n:Nat}:id∈runI a n↔a<=id∧id<a+n:=by
 unfold runI;rw[List.mem_map];constructor
 .rintro⟨i,hi,rfl⟩
  have:=Qr.1 hi;omega
 .rintro⟨h1,h2⟩
  exact⟨(id-a).toNat,Qr.2 Om,Om⟩
def hitF(b:List qp)(g:List Int)(id:Int):Bool:=(g.any λn=>decide (n=id))||b.any λx=>decide (x.kind≠3)&&decide (x.id=id)
def touchB(b:List qp)(g:List Int)(id:Int):Bool:=(b.any λx=>decide (x.kind≠3)&&decide (x.id=id))||(decide (0<g.length)&&decide (g.headD 0<=id)&&decide (id<=g.getLastD 0))
theorem runI_ends(a:Int)(m:Nat):(runI a (m+1)).headD 0=a∧(runI a (m+1)).getLastD 0=a+m:=by
 refine⟨?_,?_⟩
 .simp[runI,List.range_succ_eq_map]
 .rw[zgk]
  simp
theorem touch_hit(b:List qp)(a:Int)(m:Nat)(id:Int):touchB b (runI a m) id=hitF b (runI a m) id:=by
 have key:(decide (0<(runI a m).length)&&decide ((runI a m).headD 0<=id)&&decide (id<=(runI a m).getLastD 0))=(runI a m).any λn=>decide (n=id):=by
  rw[Bool.eq_iff_iff,List.any_eq_true];simp only[Bool.and_eq_true,decide_eq_true_eq]
  cases m with
  |zero=>simp[runI]
  |succ m=>
   obtain⟨e1,e2⟩:=runI_ends a m;rw[e1,e2];have hl:(runI a (m+1)).length=m+1:=by simp[runI]
   rw[hl];constructor
   .rintro⟨⟨_,h1⟩,h2⟩
    exact⟨id,runI_mem.2 ⟨h1,Om⟩,rfl⟩
   .rintro⟨n,hn,rfl⟩
    have:=runI_mem.1 hn;omega
 unfold touchB hitF;rw[key,Bool.or_comm]
def trailFrom(id:Int):Nat->List (List qp)->List (List Int)->List Int
 |i,b::bs,g::gs=>if hitF b g id=true then(i:Int)::trailFrom id (i+1) bs gs else trailFrom id (i+1) bs gs
 |_,_,_=>[]
def trailH(text:qc)(id:Int):ErrV×List Int:=
 if(jx text).1=.no then(if trailFrom id 0 (jx text).2.1.batches (runT text).given=[]∧qlg (qec (jx text).2.1 0).2.l id<0 then(.num 7,[])else(.no,trailFrom id 0 (jx text).2.1.batches (runT text).given))else((jx text).1,[])
end Go.Pl
namespace Go.Proofs.YtihlchbgjdkmpaaGreatDoor
open Go Go.Av Go.RowKit Go.Proofs Go.Pl
def lastH(text:qc)(id:Int):Int:=if(trailH text id).1=.no then(trailH text id).2.getLastD (-1)else 0
theorem hlast_c(text:qc)(id:Int)(st:List AObj)(hl:text.length<1000000)(m8:(trailH text id).2.length<1000000)(ht:∀st,qr E 30 [Sv text,Iv id] st λr st'=>r=.tu [wn (trailH text id).2,errA (trailH text id).1]∧st'=st):qr E 32 [Sv text,Iv id] st λr st'=>r=.tu [Iv (lastH text id),errA (trailH text id).1]∧st'=st:=by
 refine zj [.s text,.i id] (kc (qt _) (ku _)) Tryz.func32 rfl rfl (λ_=>rfl) rfl λS0=>?_;unfold lastH;generalize trailH text id=q at ht m8;obtain⟨e,l⟩:=q;dsimp only at ht m8⊢
 cases e with
 |no=>
  rw[if_pos rfl];by_cases hz:l=[]
  .subst hz
   apply qf [];repeat' (first|apply Qa|(intro h;try exact cDd)|exact⟨Tryz.call30⟩|refine cpe ht ?_|exact cSd|apply qd []|refine exr ?_|refine qg ?_)
  .have nv:l=l.dropLast++[l.getLast hz]:=(Qg hz).symm
   generalize l.dropLast=a at nv;generalize l.getLast hz=z at nv;have o0:(l.map λx=>Iv x).length=a.length+1:=by rw[nv];simp
   have hmn:(l.map λx=>Iv x).length=l.length:=Sx
   have hix:(l.map λx=>Iv x)[a.length]?=some (Iv z):=by rw[nv];simp
   have hz2:l.getLastD (-1)=z:=by rw[nv];simp
   rw[hz2];apply qf []
   repeat' (first|apply Qa|(intro h;try exact cDd)|exact⟨Tryz.call30⟩|refine cpe ht ?_|(refine Qb (a.length) ⟨Om,_,hix,?_⟩)|exact cSd|apply qd []|refine exr ?_|refine qg ?_)
 |num m=>
  rw[if_neg Sx];apply qf []
  repeat' (first|apply Qa|(intro h;try exact cDd)|exact⟨Tryz.call30⟩|refine cpe ht ?_|exact cSd|apply qd []|refine exr ?_|refine qg ?_)
 |at' a m=>
  rw[if_neg Sx];apply qf [];repeat' (first|apply Qa|(intro h;try exact cDd)|exact⟨Tryz.call30⟩|refine cpe ht ?_|exact cSd|apply qd []|refine exr ?_|refine qg ?_)
end Go.Proofs.YtihlchbgjdkmpaaGreatDoor
namespace Go.Pl
open Go Go.Proofs Go.Av Go.Proofs.YtihlchbgjdkmpaaGreatDoor
theorem trail_snoc(id:Int):∀(bs:List (List qp))(gs:List (List Int))(i k:Nat)(x:List qp)(g:List Int),bs[k]?=some x->gs[k]?=some g->trailFrom id i (bs.take (k+1)) (gs.take (k+1))=trailFrom id i (bs.take k) (gs.take k)++if hitF x g id=true then [((i+k:Nat):Int)]else []
 | [],_,i,k,x,g,h,_=>by simp at h
 |y::bs,[],i,k,x,g,_,h=>by simp at h
 |y::bs,z::gs,i,0,x,g,h1,h2=>by
  simp only[List.getElem?_cons_zero,Qy]at h1 h2;subst h1;subst h2;simp only[Qf,Qs,trailFrom]
  split <;>simp
 |y::bs,z::gs,i,k+1,x,g,h1,h2=>by
  simp only[List.getElem?_cons_succ]at h1 h2;have ih:=trail_snoc id bs gs (i+1) k x g h1 h2;rw[show i+1+k=i+(k+1)by omega]at ih;rw[Qf,Qf,Qf,Qf,trailFrom,trailFrom,ih];split <;>rfl
theorem trail_len(id:Int):∀(bs:List (List qp))(gs:List (List Int))(i:Nat),(trailFrom id i bs gs).length<=bs.length
 | [],gs,i=>by cases gs<;>simp[trailFrom]
 |y::bs,[],i=>by simp[trailFrom]
 |y::bs,z::gs,i=>by
  have:=trail_len id bs gs (i+1);unfold trailFrom;split
  .simp;omega
  .simp;omega
end Go.Pl
namespace Go.Proofs.YtihlchbgjdkmpaaGreatDoor
open Go Go.Av Go.RowKit Go.Proofs Go.Pl
theorem htouch_c(b:List qp)(g:List Int)(id:Int)(st:List AObj)(hl:b.length<1000000)(hg:g.length<1000000):qr E 57 [zr b,wn g,Iv id] st λr st'=>r=Bv (touchB b g id)∧st'=st:=by
 refine zj [.a (zr b),.a (wn g),.i id] (qt _) Tryz.func57 rfl rfl (λ_=>rfl) rfl λS0=>?_;have o0:(b.map zz).length=b.length:=Sx
 have hmg:(g.map λx=>Iv x).length=g.length:=Sx
 unfold touchB;apply qf [];repeat' (first|apply Qa|(intro h;try exact cDd)|exact cSd|apply qd []|refine exr ?_|refine qg ?_)
 refine zx (X:=Nat) (λk=>⟨[(1,.a (wn g)),(2,.i id),(9,.a (zr b)),(10,.i b.length),(11,.i k)],[],0⟩) (λk=>k<=b.length∧((b.drop k).any λx=>decide (x.kind≠3)&&decide (x.id=id))=b.any λx=>decide (x.kind≠3)&&decide (x.id=id)) (λk=>b.length-k) 0 ⟨Om,Sx⟩ ?_ ?_
 .skip
  repeat' (first|apply Qa|(intro h;try exact cDd)|exact cSd|apply qd []|refine exr ?_|refine qg ?_)
  all_goals first|rfl|(simp;done)
 .rintro k ⟨hk,a8⟩
  by_cases e9:k<b.length
  .have hx:b[k]?=some b[k]:=Qc e9
   have i3:(b.map zz)[k]?=some (zz b[k]):=by rw[Qd,hx];rfl
   rw[Qj e9,Qm]at a8;generalize b[k]=x at hx i3 a8;by_cases hh:x.kind≠3∧x.id=id
   .obtain⟨g1,g2⟩:=hh
    rw[decide_eq_true g1,decide_eq_true g2,Qt,Qw]at a8;rw[<-a8,Qw];apply qf [];repeat' (first|apply Qa|(intro h;try exact cDd)|(refine Qb (k) ⟨Om,_,i3,?_⟩)|exact cSd|apply qd []|refine exr ?_|refine qg ?_)
    all_goals first|rfl|exact absurd (by assumption) g1|exact absurd g2 (by assumption)
   .have hf:(decide (x.kind≠3)&&decide (x.id=id))=false:=by
     rw[Bool.and_eq_false_iff,decide_eq_false_iff_not,decide_eq_false_iff_not];by_cases g1:x.kind≠3
     .exact .inr λg2=>hh ⟨g1,g2⟩
     .exact .inl g1
    rw[hf,Qu]at a8;apply qf [];repeat' (first|apply Qa|(intro h;try exact cDd)|(refine Qb (k) ⟨Om,_,i3,?_⟩)|(refine Qb (k+1) ⟨⟨Om,a8⟩,Om,?_⟩)|exact cSd|apply qd []|refine exr ?_|refine qg ?_)
    all_goals first|rfl|exact absurd ⟨by assumption,by assumption⟩ hh
  .have e9:k=b.length:=by omega
   subst e9;rw[Qp]at a8;rw[<-a8,Qn,Qu];by_cases h0:g=[]
   .subst h0
    apply qf [];repeat' (first|apply Qa|(intro h;try exact cDd)|exact cSd|apply qd []|refine exr ?_|refine qg ?_)
   .have nv:g=g.dropLast++[g.getLast h0]:=(Qg h0).symm
    generalize g.dropLast=a at nv;generalize g.getLast h0=z at nv;have mf:g.length=a.length+1:=by rw[nv];simp
    have hix:(g.map λx=>Iv x)[a.length]?=some (Iv z):=by rw[nv];simp
    have hz2:g.getLastD 0=z:=by rw[nv];simp
    have hi0:(g.map λx=>Iv x)[0]?=some (Iv (g.headD 0)):=by
     cases g with
     |nil=>exact absurd rfl h0
     |cons y r=>rfl
    rw[hz2,decide_eq_true (by omega:0<g.length),Qt];generalize g.headD 0=y at hi0;apply qf [];repeat' (first|apply Qa|(intro h;try exact cDd)|(refine Qb (0) ⟨Om,_,hi0,?_⟩)|(refine Qb (a.length) ⟨Om,_,hix,?_⟩)|exact cSd|apply qd []|refine exr ?_|refine qg ?_)
    all_goals first|rfl|(simp;omega)|(simp[*];done)
theorem htrail_c(text:qc)(id:Int)(st:List AObj)(hl:text.length<1000000):qr E 30 [Sv text,Iv id] st λr st'=>r=.tu [wn (trailH text id).2,errA (trailH text id).1]∧st'=st:=by
 refine zj [.s text,.i id] (kc (qcr _) (ku _)) Tryz.func30 rfl rfl (λ_=>rfl) rfl λS0=>?_;have p7:=λst=>q90 text st hl;by_cases hr:(jx text).1=.no
 .obtain⟨b,r,hT,hp,he⟩:=qfm hr
  have hB:=qen hT;rw[qum hT hp]at p7;dsimp only at p7;obtain⟨mf,hgr⟩:=qez hp;have hbh:=λst=>q1i b 0 st hB;have hbz:=behindF_zero hT.parse;rw[hbz]at hbh;replace hbh:∀st,qr E 10 [qbd b,Iv 0] st λr st'=>r=.tu [v4 (ofF (itsE b.base)),errA .no]∧st'=st:=hbh;have hl0:=(q5w b.base).len;have fj:=λst=>zi8 (ofF (itsE b.base)) id st Om
  have hu:trailH text id=if trailFrom id 0 b.batches r.given=[]∧qlg (ofF (itsE b.base)) id<0 then(.num 7,[])else(.no,trailFrom id 0 b.batches r.given):=by
   unfold trailH;rw[qsm hT hp,he];dsimp only;rw[if_pos rfl,hbz]
  rw[hu];generalize ofF (itsE b.base)=l0 at *;generalize qlg l0 id=pl at *;clear hu;have o0:(b.batches.map zr).length=b.batches.length:=Sx
  have dn:=hB.len;apply qf [];repeat' (first|apply Qa|(intro h;try exact cDd)|exact⟨Tryz.call41⟩|refine cpe p7 ?_|exact⟨Tryz.call10⟩|refine cpe hbh ?_|exact cSd|apply qd []|refine exr ?_|refine qg ?_)
  refine zx (X:=Nat) (λk=>⟨[(1,.i id),(7,.a (qla r.given)),(9,.a (v4 l0)),(10,.tp 0),(31,.a (qbj b.batches)),(32,.i b.batches.length),(33,.i k)],[(0,some (.tip 1 3 ((trailFrom id 0 (b.batches.take k) (r.given.take k)).map λx=>Iv x)))],1⟩) (λk=>k<=b.batches.length) (λk=>b.batches.length-k) 0 Om ?_ ?_
  .skip
   repeat' (first|apply Qa|(intro h;try exact cDd)|exact cSd|apply qd []|refine exr ?_|refine qg ?_)
   all_goals first|rfl|(simp[trailFrom];done)
  .rintro k hk
   by_cases e9:k<b.batches.length
   .have hx:b.batches[k]?=some b.batches[k]:=Qc e9
    have i3:(b.batches.map zr)[k]?=some (zr b.batches[k]):=by rw[Qd,hx];rfl
    have hy:r.given[k]?=some (r.given[k]'(by omega)):=Qc Om;have hym:(r.given.map wn)[k]?=some (wn (r.given[k]'(by omega))):=by rw[Qd,hy];rfl
    have hBx:=(hB.bat _ (Qh e9)).1;have hgk:(r.given[k]'(by omega)).length<1000000:=q0w hp hB (Qh _);obtain⟨a,m,ham⟩:=hgr _ (Qh (show k<r.given.length by omega));have bw:=trail_snoc id b.batches r.given 0 k _ _ hx hy;rw[Qx]at bw;have htl:=trail_len id (b.batches.take k) (r.given.take k) 0;have htl2:(b.batches.take k).length<=k:=So
    generalize r.given[k]'(by omega)=g at hy hym hgk bw ham;generalize b.batches[k]=x at hx i3 hBx bw;have tn:=λst=>htouch_c x g id st hBx.1 hgk;rw[ham,touch_hit,<-ham]at tn
    cases hh:hitF x g id with
    |true=>
     rw[hh]at tn bw;rw[if_pos rfl]at bw;apply qf [];repeat' (first|apply Qa|(intro h;try exact cDd)|(refine Qb (k) ⟨Om,_,i3,?_⟩)|(refine Qb (k) ⟨Om,_,hym,?_⟩)|exact⟨Tryz.call57⟩|refine cpe tn ?_|(refine Qb (k+1) ⟨Om,Om,?_⟩)|exact cSd|apply qd []|refine exr ?_|refine qg ?_)
     all_goals first|(rw[bw];simp;done)|(simp;omega)
    |false=>
     rw[hh]at tn bw;rw[if_neg Sx,Qk]at bw;apply qf [];repeat' (first|apply Qa|(intro h;try exact cDd)|(refine Qb (k) ⟨Om,_,i3,?_⟩)|(refine Qb (k) ⟨Om,_,hym,?_⟩)|exact⟨Tryz.call57⟩|refine cpe tn ?_|(refine Qb (k+1) ⟨Om,Om,?_⟩)|exact cSd|apply qd []|refine exr ?_|refine qg ?_)
     all_goals first|(rw[bw];done)|(simp;omega)
   .have e9:k=b.batches.length:=by omega
    subst e9;rw[Qe,<-mf,Qe];rw[mf];have htl:=trail_len id b.batches r.given 0;generalize trailFrom id 0 b.batches r.given=tr at *;by_cases h0:tr=[]
    .subst h0
     by_cases s8:pl<0
     .rw[if_pos ⟨rfl,s8⟩]
      apply qf [];repeat' (first|apply Qa|(intro h;try exact cDd)|exact⟨Tryz.call58⟩|refine cpe fj ?_|exact cSd|apply qd []|refine exr ?_|refine qg ?_)
     .rw[if_neg λh=>s8 h.2]
      apply qf [];repeat' (first|apply Qa|(intro h;try exact cDd)|exact⟨Tryz.call58⟩|refine cpe fj ?_|exact cSd|apply qd []|refine exr ?_|refine qg ?_)
    .rw[if_neg λh=>h0 h.1]
     have b9:0<tr.length:=List.length_pos_iff.2 h0;have hmt:(tr.map λx=>Iv x).length=tr.length:=Sx
     apply qf [];repeat' (first|apply Qa|(intro h;try exact cDd)|exact⟨Tryz.call58⟩|refine cpe fj ?_|exact cSd|apply qd []|refine exr ?_|refine qg ?_)
 .have hu:trailH text id=((jx text).1,[]):=by unfold trailH;exact if_neg hr
  rw[hu];unfold qjl at p7;rw[if_neg hr]at p7;generalize(jx text).1=e at p7 hr
  cases e with
  |no=>exact absurd rfl hr
  |num m=>
   apply qf []
   repeat' (first|apply Qa|(intro h;try exact cDd)|exact⟨Tryz.call41⟩|refine cpe p7 ?_|exact cSd|apply qd []|refine exr ?_|refine qg ?_)
  |at' a m=>
   apply qf [];repeat' (first|apply Qa|(intro h;try exact cDd)|exact⟨Tryz.call41⟩|refine cpe p7 ?_|exact cSd|apply qd []|refine exr ?_|refine qg ?_)
theorem lR_no{b:j5}{n:Nat}{r:RunV}(h:z8 b.base (b.batches.take n)=(.no,r)):lR b n=r.l:=by
 unfold lR;rw[if_pos (qto h),h]
set_option maxHeartbeats 4000000 in
theorem refTrail26_c(text:qc)(id:Int)(st:List AObj)(hl:text.length<1000000):qr E 31 [Sv text,Iv id] st λr st'=>r=.tu [wn (trailH text id).2,Iv (trailH text id).1.pos,Iv (trailH text id).1.code]∧st'=st:=by
 refine zj [.s text,.i id] (qad (qcr _) (qt _) (qt _)) Tryz.func31 rfl rfl (λ_=>rfl) rfl λS0=>?_;have p7:=λst=>q80 text st hl;unfold q6y at p7;by_cases hr:(jx text).1=.no
 .obtain⟨b,r,hT,hp,he⟩:=qfm hr
  have hB:=qen hT;rw[he]at p7;dsimp only at p7;rw[if_pos rfl]at p7;obtain⟨mf,hgr⟩:=qez hp;have hbz:=behindF_zero hT.parse;have hbh:=λst=>qp4 b 0 st hB Om
  have hz0:z8 b.base (b.batches.take 0)=(.no,⟨ofF (itsE b.base),[],[]⟩):=by
   rw[Qs];unfold z8;rw[if_pos hT.parse]
   try rfl
  have hlr:lR b 0=ofF (itsE b.base):=lR_no hz0;rw[hlr,hz0]at hbh;have hl0:=(q5w b.base).len;have fj:=λst=>refPlace07_c (ofF (itsE b.base)) id st Om
  have hu:trailH text id=if trailFrom id 0 b.batches r.given=[]∧qlg (ofF (itsE b.base)) id<0 then(.num 7,[])else(.no,trailFrom id 0 b.batches r.given):=by
   unfold trailH;rw[qsm hT hp,he];dsimp only;rw[if_pos rfl,hbz]
  rw[hu];generalize ofF (itsE b.base)=l0 at *;generalize qlg l0 id=pl at *;clear hu hbz hz0 hlr;generalize gR b 0=g0 at *;have o0:(b.batches.map zr).length=b.batches.length:=Sx
  have dn:=hB.len;generalize r.l=q2 at p7;apply qf [];repeat' (first|apply Qa|(intro h;try exact cDd)|exact⟨Tryz.call43⟩|refine cpe p7 ?_|exact⟨Tryz.call44⟩|refine cpe hbh ?_|exact⟨Tryz.call59⟩|refine cpe fj ?_|exact cSd|apply qd []|refine exr ?_|refine qg ?_)
  refine zx (X:=Nat) (λk=>⟨[(1,.i id),(7,.bx 0 0),(11,.tp 1),(16,.b (decide (0<=pl)||decide (trailFrom id 0 (b.batches.take k) (r.given.take k)≠[]))),(17,.i k)],[(0,some (.cells 105 [.i b.gen,.s b.base,.a (qbj b.batches),.a (wn b.ends),.s b.tail])),(1,some (.tip 1 3 ((trailFrom id 0 (b.batches.take k) (r.given.take k)).map λx=>Iv x)))],2⟩) (λk=>k<=b.batches.length) (λk=>b.batches.length-k) 0 Om ?_ ?_
  .skip
   repeat' (first|apply Qa|(intro h;try exact cDd)|exact cSd|apply qd []|refine exr ?_|refine qg ?_)
   all_goals first|rfl|(simp[trailFrom];done)
  .rintro k hk
   by_cases e9:k<b.batches.length
   .have hx:b.batches[k]?=some b.batches[k]:=Qc e9
    have i3:(b.batches.map zr)[k]?=some (zr b.batches[k]):=by rw[Qd,hx];rfl
    have hy:r.given[k]?=some (r.given[k]'(by omega)):=Qc Om;obtain⟨hg1,hg2⟩:=zny hp e9;rw[hy]at hg1;have hym:((gR b (k+1)).map wn)[k]?=some (wn (r.given[k]'(by omega))):=by rw[Qd,hg1];rfl
    have hgm:((gR b (k+1)).map wn).length=k+1:=by rw[List.length_map,hg2]
    have hBx:=(hB.bat _ (Qh e9)).1;have hgk:(r.given[k]'(by omega)).length<1000000:=q0w hp hB (Qh _);have bd:=λst=>qp4 b (k+1) st hB Om;rw[show((k+1:Nat):Int)=(k:Int)+1 by omega]at bd;have bw:=trail_snoc id b.batches r.given 0 k _ _ hx hy;rw[Qx]at bw;have htl:=trail_len id (b.batches.take k) (r.given.take k) 0;have htl2:(b.batches.take k).length<=k:=So
    generalize r.given[k]'(by omega)=g at hy hym hgk bw;generalize b.batches[k]=x at hx i3 hBx bw;have hmx:(x.map zz).length=x.length:=Sx
    have hmg:(g.map λx=>Iv x).length=g.length:=Sx
    have hxl:=hBx.1;generalize gR b (k+1)=gs at *;generalize lR b (k+1)=ll at *;generalize(z8 b.base (b.batches.take (k+1))).1.pos=pp at *;generalize(z8 b.base (b.batches.take (k+1))).1.code=pc at *;generalize trailFrom id 0 (b.batches.take k) (r.given.take k)=tr at *;generalize hkn2:(decide (0<=pl)||decide (tr≠[]))=kb at *;apply qf [];repeat' (first|apply Qa|(intro h;try exact cDd)|exact⟨Tryz.call44⟩|refine cpe bd ?_|exact cSd|apply qd []|refine exr ?_|refine qg ?_)
    refine zx (X:=Nat) (λj=>⟨[(1,.i id),(7,.bx 0 0),(11,.tp 1),(16,.b kb),(17,.i k),(19,.a (qla gs)),(22,.b ((g.take j).any λn=>decide (n=id))),(23,.i j)],[(0,some (.cells 105 [.i b.gen,.s b.base,.a (qbj b.batches),.a (wn b.ends),.s b.tail])),(1,some (.tip 1 3 (tr.map λx=>Iv x)))],2⟩) (λj=>j<=g.length) (λj=>g.length-j) 0 Om ?_ ?_
    .skip
     repeat' (first|apply Qa|(intro h;try exact cDd)|exact cSd|apply qd []|refine exr ?_|refine qg ?_)
     all_goals first|rfl|(simp;done)
    .rintro j hj
     by_cases hjn:j<g.length
     .have hz:g[j]?=some g[j]:=Qc hjn
      have hzm:(g.map λx=>Iv x)[j]?=some (Iv g[j]):=by rw[Qd,hz];rfl
      have i6:(g.take (j+1)).any (λn=>decide (n=id))=((g.take j).any (λn=>decide (n=id))||decide (g[j]=id)):=by rw[Qi,hz];simp only[Qo,Qq,Qm,Qn,Qv]
      generalize g[j]=y at hz hzm i6;generalize(g.take j).any (λn=>decide (n=id))=c at *
      cases c
      all_goals
       apply qf [];repeat' (first|apply Qa|(intro h;try exact cDd)|(refine Qb (k) ⟨Om,_,hym,?_⟩)|(refine Qb (j) ⟨Om,_,hzm,?_⟩)|(refine Qb (j+1) ⟨Om,Om,?_⟩)|exact cSd|apply qd []|refine exr ?_|refine qg ?_)
       all_goals first|rfl|(rw[i6];simp;done)|(simp_all;done)
     .have hjn:j=g.length:=by omega
      subst hjn;rw[Qe];generalize hc0:g.any (λn=>decide (n=id))=c0;have hhit:hitF x g id=(c0||x.any λx=>decide (x.kind≠3)&&decide (x.id=id)):=by unfold hitF;rw[hc0]
      apply qf [];repeat' (first|apply Qa|(intro h;try exact cDd)|(refine Qb (k) ⟨Om,_,hym,?_⟩)|exact cSd|apply qd []|refine exr ?_|refine qg ?_)
      refine zx (X:=Nat) (λj=>⟨[(1,.i id),(7,.bx 0 0),(11,.tp 1),(16,.b kb),(17,.i k),(22,.b (c0||(x.take j).any λx=>decide (x.kind≠3)&&decide (x.id=id))),(24,.i j)],[(0,some (.cells 105 [.i b.gen,.s b.base,.a (qbj b.batches),.a (wn b.ends),.s b.tail])),(1,some (.tip 1 3 (tr.map λx=>Iv x)))],2⟩) (λj=>j<=x.length) (λj=>x.length-j) 0 Om ?_ ?_
      .skip
       repeat' (first|apply Qa|(intro h;try exact cDd)|exact cSd|apply qd []|refine exr ?_|refine qg ?_)
       all_goals first|rfl|(simp;done)
      .rintro j hj
       by_cases hjn:j<x.length
       .have hz:x[j]?=some x[j]:=Qc hjn
        have hzm:(x.map zz)[j]?=some (zz x[j]):=by rw[Qd,hz];rfl
        have i6:(x.take (j+1)).any (λx=>decide (x.kind≠3)&&decide (x.id=id))=((x.take j).any (λx=>decide (x.kind≠3)&&decide (x.id=id))||(decide (x[j].kind≠3)&&decide (x[j].id=id))):=by rw[Qi,hz];simp only[Qo,Qq,Qm,Qn,Qv]
        generalize x[j]=y at hz hzm i6;have htk2:(c0||(x.take (j+1)).any λx=>decide (x.kind≠3)&&decide (x.id=id))=((c0||(x.take j).any λx=>decide (x.kind≠3)&&decide (x.id=id))||(decide (y.kind≠3)&&decide (y.id=id))):=by rw[i6,Bool.or_assoc]
        generalize(c0||(x.take j).any λx=>decide (x.kind≠3)&&decide (x.id=id))=c1 at *
        cases c1
        all_goals
         apply qf [];repeat' (first|apply Qa|(intro h;try exact cDd)|(refine Qb (k) ⟨Om,_,i3,?_⟩)|(refine Qb (j) ⟨Om,_,hzm,?_⟩)|(refine Qb (j+1) ⟨Om,Om,?_⟩)|exact cSd|apply qd []|refine exr ?_|refine qg ?_)
         all_goals first|rfl|(rw[htk2];simp[*];done)|(simp_all;done)
       .have hjn:j=x.length:=by omega
        subst hjn;rw[Qe,<-hhit]
        cases hh:hitF x g id with
        |true=>
         rw[hh]at bw;rw[if_pos rfl]at bw;apply qf [];repeat' (first|apply Qa|(intro h;try exact cDd)|(refine Qb (k) ⟨Om,_,i3,?_⟩)|(refine Qb (k+1) ⟨Om,Om,?_⟩)|exact cSd|apply qd []|refine exr ?_|refine qg ?_)
         all_goals first|(rw[bw];simp;done)|(simp;omega)
        |false=>
         rw[hh]at bw;rw[if_neg Sx,Qk]at bw;apply qf [];repeat' (first|apply Qa|(intro h;try exact cDd)|(refine Qb (k) ⟨Om,_,i3,?_⟩)|(refine Qb (k+1) ⟨Om,Om,?_⟩)|exact cSd|apply qd []|refine exr ?_|refine qg ?_)
         all_goals first|(rw[bw];done)|(rw[bw,hkn2];done)|(simp;omega)
   .have e9:k=b.batches.length:=by omega
    subst e9;rw[Qe,<-mf,Qe];rw[mf];generalize trailFrom id 0 b.batches r.given=tr at *;by_cases h0:tr=[]∧pl<0
    .rw[if_pos h0]
     have hf:(decide (0<=pl)||decide (tr≠[]))=false:=by simp[h0.1];omega
     rw[hf];apply qf [];repeat' (first|apply Qa|(intro h;try exact cDd)|exact cSd|apply qd []|refine exr ?_|refine qg ?_)
    .rw[if_neg h0]
     have hf:(decide (0<=pl)||decide (tr≠[]))=true:=by
      by_cases h1:tr=[]
      .have:0<=pl:=by
        by_cases h2:pl<0
        .exact absurd ⟨h1,h2⟩ h0
        .omega
       simp[this]
      .simp[h1]
     rw[hf];apply qf [];repeat' (first|apply Qa|(intro h;try exact cDd)|exact cSd|apply qd []|refine exr ?_|refine qg ?_)
 .have hu:trailH text id=((jx text).1,[]):=by unfold trailH;exact if_neg hr
  have gq:=qtw hr;rw[hu];generalize jx text=q at p7 gq hr;obtain⟨e,b,l⟩:=q;dsimp only at p7 gq hr⊢;rw[if_neg hr]at p7;generalize e.code=c at p7 gq;generalize e.pos=c2 at p7;apply qf [];repeat' (first|apply Qa|(intro h;try exact cDd)|exact⟨Tryz.call43⟩|refine cpe p7 ?_|exact cSd|apply qd []|refine exr ?_|refine qg ?_)
end Go.Proofs.YtihlchbgjdkmpaaGreatDoor
namespace Go.Pl
open Go Go.Proofs Go.Proofs.YtihlchbgjdkmpaaGreatDoor
theorem trailH_code{text:qc}{id:Int}(h:(trailH text id).1≠.no):(trailH text id).1.code≠0:=by
 unfold trailH at h⊢;split
 .rename_i hr
  rw[if_pos hr]at h;split
  .exact(by decide:(7:Int)≠0)
  .rename_i hn
   rw[if_neg hn]at h;exact absurd rfl h
 .rename_i hr
  exact qtw hr
theorem trailH_small(text:qc)(id:Int):(trailH text id).2.length<1000000:=by
 unfold trailH;split
 .rename_i hr
  obtain⟨b,r,hT,hp,he⟩:=qfm hr;have hB:=(qen hT).len;rw[he];split
  .simp
  .have:=trail_len id b.batches (runT text).given 0
   dsimp only;omega
 .simp
end Go.Pl
namespace Go.Proofs.YtihlchbgjdkmpaaGreatDoor
open Go Go.Av Go.RowKit Go.Proofs Go.Pl
set_option maxHeartbeats 4000000 in
theorem trails_c(text:qc)(id:Int)(st:List AObj):qr E 7 [Sv text,Iv id] st λr st'=>r=Bv true∧st'=st:=by
 refine zj [.s text,.i id] (qt _) Tryz.func7 rfl rfl (λ_=>rfl) rfl λS0=>?_;have hal:=zdw;by_cases h4:4000<text.length
 .apply qf []
  repeat' (first|apply Qa|(intro h;try exact cDd)|exact⟨Tryz.call8⟩|refine cpe hal ?_|exact cSd|apply qd []|refine exr ?_|refine qg ?_)
 have ht:=λst=>htrail_c text id st Om;have ht2:=λst=>refTrail26_c text id st Om;have hsm:=trailH_small text id;have hla:=λst=>hlast_c text id st Om hsm ht;have k1:=zog (@trailH_code text id);have hin:=λst=>ints_c (trailH text id).2 (trailH text id).2 st Om;rw[decide_eq_true rfl]at hin;unfold lastH at hla;generalize trailH text id=q at *;obtain⟨e,l⟩:=q;dsimp only at *;have n1:=λst=>zod e st k1;have a1:=λst=>zo3 e st
 cases e with
 |no=>
  rw[if_pos rfl]at hla;by_cases hz:l=[]
  .subst hz
   apply qf [];repeat' (first|apply Qa|(intro h;try exact cDd)|exact⟨Tryz.call8⟩|refine cpe hal ?_|exact⟨Tryz.call30⟩|refine cpe ht ?_|exact⟨Tryz.call31⟩|refine cpe ht2 ?_|exact⟨Tryz.call32⟩|refine cpe hla ?_|exact⟨Tryz.call33⟩|refine cpe hin ?_|exact⟨Tryz.call18⟩|refine cpe n1 ?_|exact⟨Tryz.call19⟩|refine cpe a1 ?_|exact cSd|apply qd []|refine exr ?_|refine qg ?_)
  .have nv:l=l.dropLast++[l.getLast hz]:=(Qg hz).symm
   generalize l.dropLast=a at nv;generalize l.getLast hz=z at nv;have o0:(l.map λx=>Iv x).length=a.length+1:=by rw[nv];simp
   have hix:(l.map λx=>Iv x)[a.length]?=some (Iv z):=by rw[nv];simp
   have hz2:l.getLastD (-1)=z:=by rw[nv];simp
   rw[hz2]at hla;apply qf [];repeat' (first|apply Qa|(intro h;try exact cDd)|exact⟨Tryz.call8⟩|refine cpe hal ?_|exact⟨Tryz.call30⟩|refine cpe ht ?_|exact⟨Tryz.call31⟩|refine cpe ht2 ?_|exact⟨Tryz.call32⟩|refine cpe hla ?_|exact⟨Tryz.call33⟩|refine cpe hin ?_|exact⟨Tryz.call18⟩|refine cpe n1 ?_|exact⟨Tryz.call19⟩|refine cpe a1 ?_|(refine Qb (a.length) ⟨Om,_,hix,?_⟩)|exact cSd|apply qd []|refine exr ?_|refine qg ?_)
   all_goals first|rfl|(simp;done)
 |num m=>
  rw[if_neg Sx]at hla;have gv:m≠0:=k1;apply qf [];repeat' (first|apply Qa|(intro h;try exact cDd)|exact⟨Tryz.call8⟩|refine cpe hal ?_|exact⟨Tryz.call30⟩|refine cpe ht ?_|exact⟨Tryz.call31⟩|refine cpe ht2 ?_|exact⟨Tryz.call32⟩|refine cpe hla ?_|exact⟨Tryz.call33⟩|refine cpe hin ?_|exact⟨Tryz.call18⟩|refine cpe n1 ?_|exact⟨Tryz.call19⟩|refine cpe a1 ?_|exact absurd (Classical.not_not.1 (by assumption:¬¬(ErrV.num m).code=0)) gv|exact cSd|apply qd []|refine exr ?_|refine qg ?_)
  all_goals first|rfl|(simp;done)|exact absurd (by assumption:(ErrV.num m).code=0) gv
 |at' a m=>
  rw[if_neg Sx]at hla;have gv:m≠0:=k1;apply qf [];repeat' (first|apply Qa|(intro h;try exact cDd)|exact⟨Tryz.call8⟩|refine cpe hal ?_|exact⟨Tryz.call30⟩|refine cpe ht ?_|exact⟨Tryz.call31⟩|refine cpe ht2 ?_|exact⟨Tryz.call32⟩|refine cpe hla ?_|exact⟨Tryz.call33⟩|refine cpe hin ?_|exact⟨Tryz.call18⟩|refine cpe n1 ?_|exact⟨Tryz.call19⟩|refine cpe a1 ?_|exact absurd (Classical.not_not.1 (by assumption:¬¬(ErrV.at' a m).code=0)) gv|exact cSd|apply qd []|refine exr ?_|refine qg ?_)
  all_goals first|rfl|(simp;done)|exact absurd (by assumption:(ErrV.at' a m).code=0) gv
theorem trails_a(text:qc)(id:Int)(hc: -9223372036854775808<=id∧id<=9223372036854775807)(st:List AObj):qr E 7 [Sv text,Iv id] st λr st'=>r=Bv true∧st'=st:=trails_c text id st
end Go.Proofs.YtihlchbgjdkmpaaGreatDoor
