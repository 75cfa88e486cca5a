/- Contracts and plain facts that the closing text leans on (part 11). No condition of their own beyond those that each states. -/
import Derived.Test.YtihlchbgjdkmpaaGreatDoorK10
set_option maxRecDepth 100000
set_option linter.unusedVariables false
set_option linter.unusedSimpArgs false
open And renaming intro→Qb
open Exists renaming intro→Qa
open List renaming getElem?_eq_getElem→Qc,getElem?_map→Qd,getElem_mem→Qe,take_length→Qf,take_add_one→Qg
open List.cons renaming injEq→Qi
open Option.some renaming injEq→Qh
open Prod.mk renaming injEq→Qj
namespace Go.Pl
open Go Go.Proofs Go.Proofs.YtihlchbgjdkmpaaGreatDoor
theorem zny{b:j5}{r:RunV}{i:Nat}(hp:z8 b.base b.batches=(.no,r))(hi:i<b.batches.length):(gR b (i+1))[i]?=r.given[i]?∧(gR b (i+1)).length=i+1:=by
 have h:=hp;rw[<-List.take_append_drop (i+1) b.batches]at h;obtain⟨r1,h1,_⟩:=qrk h
 have e:gR b (i+1)=r1.given:=by
  unfold gR;rw[h1];exact if_pos rfl
 rw[e];refine⟨zcc hp h1,?_⟩;rw[(qez h1).1];simp;omega
end Go.Pl
namespace Go.Proofs.YtihlchbgjdkmpaaGreatDoor
open Go Go.Av Go.RowKit Go.Proofs Go.Pl
theorem zom{x:List qp}(h:qe3 x):(∀st,qr E 49 [zr x] st λr st'=>r=Sv (encF x)∧st'=st)∧∀st,qr E 48 [Sv (encF x)] st λr st'=>r=Sv (recE x)∧st'=st:=
 ⟨λst=>qp5 x st h.B h.ok,λst=>q8x (encF x) st h.len⟩
set_option maxHeartbeats 4000000 in
theorem zc4(text:qc)(st:List AObj)(hl:text.length<1000000):qr E 26 [Sv text] st λr st'=>r=.tu [logA (logH text).2,Iv (logH text).1.pos,Iv (logH text).1.code]∧st'=st:=by
 refine zj [.s text] (qad (q05 _) (qt _) (qt _)) Tryz.func26 rfl rfl (λ_=>rfl) rfl λS0=>?_;have p7:=λst=>q80 text st hl;unfold q6y at p7;by_cases hr:(jx text).1=.no
 .obtain⟨b,r,hT,hp,he⟩:=qfm hr
  have hB:=qen hT;rw[he]at p7;dsimp only at p7;rw[if_pos rfl]at p7
  have hu:logH text=(.no,logL b.batches r.given):=by
   unfold logH;rw[qsm hT hp,he];exact if_pos rfl
  rw[hu];obtain⟨mf,hgr⟩:=qez hp;have o0:(b.batches.map zr).length=b.batches.length:=Sx
  have dn:=hB.len;generalize r.l=q2 at p7;apply qf [];repeat' (first|apply Qb|(intro h;try exact cDd)|exact⟨Tryz.call43⟩|refine cpe p7 ?_|exact cSd|apply qd []|refine exr ?_|refine qg ?_)
  refine zx (X:=Nat) (λk=>⟨[(5,.bx 0 0),(9,.tp 1),(10,.i k)],[(0,some (.cells 105 [.i b.gen,.s b.base,.a (qbj b.batches),.a (wn b.ends),.s b.tail])),(1,some (.tip 6 64 ((logL (b.batches.take k) (r.given.take k)).map qar)))],2⟩) (λk=>k<=b.batches.length) (λk=>b.batches.length-k) 0 Om ?_ ?_
  .skip
   repeat' (first|apply Qb|(intro h;try exact cDd)|exact cSd|apply qd []|refine exr ?_|refine qg ?_)
   all_goals first|rfl|(simp[logL];done)
  .rintro k hk
   by_cases e9:k<b.batches.length
   .have hx:b.batches[k]?=some b.batches[k]:=Qc e9
    have i3:(b.batches.map zr)[k]?=some (zr b.batches[k]):=by rw[Qd,hx];rfl
    have hy:r.given[k]?=some (r.given[k]'(by omega)):=Qc Om;obtain⟨hg1,hg2⟩:=zny hp e9;rw[hy]at hg1;have hym:((gR b (k+1)).map wn)[k]?=some (wn (r.given[k]'(by omega))):=by rw[Qd,hg1];rfl
    have hgm:((gR b (k+1)).map wn).length=k+1:=by rw[List.length_map,hg2]
    have hBx:=(hB.bat _ (Qe e9)).1;have hgd:=hT.good _ (Qe e9);have hgk:(r.given[k]'(by omega)).length<1000000:=q0w hp hB (Qe _);have bd:=λst=>qp4 b (k+1) st hB Om;rw[show((k+1:Nat):Int)=(k:Int)+1 by omega]at bd;have bw:=qq8 b.batches r.given k _ _ hx hy;have lj:(logL (b.batches.take k) (r.given.take k)).length=k:=by rw[qld _ _ So];simp;omega
    generalize r.given[k]'(by omega)=g at hy hym hgk bw;generalize b.batches[k]=x at hx i3 hBx bw hgd;obtain⟨bg,hrc⟩:=zom hgd;have hmx:(x.map zz).length=x.length:=Sx
    have hxl:=hBx.1;generalize gR b (k+1)=gs at *;generalize lR b (k+1)=ll at *;generalize(z8 b.base (b.batches.take (k+1))).1.pos=pp at *;generalize(z8 b.base (b.batches.take (k+1))).1.code=pc at *;apply qf [];repeat' (first|apply Qb|(intro h;try exact cDd)|(refine Qa (k) ⟨Om,_,i3,?_⟩)|exact⟨Tryz.call44⟩|refine cpe bd ?_|exact⟨Tryz.call49⟩|refine cpe bg ?_|exact⟨Tryz.call48⟩|refine cpe hrc ?_|exact cSd|apply qd []|refine exr ?_|refine qg ?_)
    refine zx (X:=Nat) (λj=>⟨[(5,.bx 0 0),(9,.tp 1),(10,.i k),(12,.a (qla gs)),(15,.bx 2 0),(16,.i j)],[(0,some (.cells 105 [.i b.gen,.s b.base,.a (qbj b.batches),.a (wn b.ends),.s b.tail])),(1,some (.tip 6 64 ((logL (b.batches.take k) (r.given.take k)).map qar))),(2,some (.cells 64 [.i (cnt1 (x.take j)),.i (cnt2 (x.take j)),.i (cnt3 (x.take j)),.i 0,.i 0,.i (recE x).length]))],3⟩) (λj=>j<=x.length) (λj=>x.length-j) 0 Om ?_ ?_
    .skip
     repeat' (first|apply Qb|(intro h;try exact cDd)|exact cSd|apply qd []|refine exr ?_|refine qg ?_)
     all_goals first|rfl|(simp[cnt1,cnt2,cnt3];done)
    .rintro j hj
     by_cases hjn:j<x.length
     .have hz:x[j]?=some x[j]:=Qc hjn
      have hzm:(x.map zz)[j]?=some (zz x[j]):=by rw[Qd,hz];rfl
      have i6:x.take (j+1)=x.take j++[x[j]]:=by rw[Qg,hz];rfl
      have d7:=q32 (x.take j);have sw:(x.take j).length=j:=So
      have m8:=q33 (x.take j) x[j];rw[<-i6]at m8;generalize x[j]=y at hz hzm m8;generalize cnt1 (x.take j)=a1 at *;generalize cnt2 (x.take j)=a2 at *;generalize cnt3 (x.take j)=a3 at *;obtain⟨q1,q2,q3⟩:=m8;apply qf [];repeat' (first|apply Qb|(intro h;try exact cDd)|(refine Qa (k) ⟨Om,_,i3,?_⟩)|(refine Qa (j) ⟨Om,_,hzm,?_⟩)|(refine Qa (j+1) ⟨Om,Om,?_⟩)|exact cSd|apply qd []|refine exr ?_|refine qg ?_)
      all_goals first|rfl|(simp_all[SV.evs,SV.rens,SV.ren,SV.ev];done)
     .have hjn:j=x.length:=by omega
      subst hjn;rw[Qf];have hmg:(g.map λx=>Iv x).length=g.length:=Sx
      rw[qyu]at bw;by_cases h0:g=[]
      .subst h0
       apply qf [];repeat' (first|apply Qb|(intro h;try exact cDd)|(refine Qa (k) ⟨Om,_,i3,?_⟩)|(refine Qa (k) ⟨Om,_,hym,?_⟩)|(refine Qa (k+1) ⟨Om,Om,?_⟩)|exact cSd|apply qd []|refine exr ?_|refine qg ?_)
       all_goals first|(rw[bw];simp;done)|(simp;omega)
      .have nv:g=g.dropLast++[g.getLast h0]:=(List.dropLast_concat_getLast h0).symm
       generalize g.dropLast=a at nv;generalize g.getLast h0=z at nv;have hgl2:g.length=a.length+1:=by rw[nv];simp
       have hix:(g.map λx=>Iv x)[a.length]?=some (Iv z):=by rw[nv];simp
       have hz2:g.getLastD 0=z:=by rw[nv];simp
       have hi0:(g.map λx=>Iv x)[0]?=some (Iv (g.headD 0)):=by
        cases g with
        |nil=>exact absurd rfl h0
        |cons y r=>rfl
       rw[hz2]at bw;generalize g.headD 0=y at hi0 bw;apply qf [];repeat' (first|apply Qb|(intro h;try exact cDd)|(refine Qa (k) ⟨Om,_,i3,?_⟩)|(refine Qa (k) ⟨Om,_,hym,?_⟩)|(refine Qa (0) ⟨Om,_,hi0,?_⟩)|(refine Qa (a.length) ⟨Om,_,hix,?_⟩)|(refine Qa (k+1) ⟨Om,Om,?_⟩)|exact cSd|apply qd []|refine exr ?_|refine qg ?_)
       all_goals first|(rw[bw];simp;done)|(simp;omega)
   .have e9:k=b.batches.length:=by omega
    subst e9;rw[Qf,<-mf,Qf];rw[mf];apply qf [];repeat' (first|apply Qb|(intro h;try exact cDd)|exact cSd|apply qd []|refine exr ?_|refine qg ?_)
 .have hu:logH text=((jx text).1,[]):=by unfold logH;exact if_neg hr
  have gq:=qtw hr;rw[hu];generalize jx text=q at p7 gq hr;obtain⟨e,b,l⟩:=q;dsimp only at p7 gq hr⊢;rw[if_neg hr]at p7;generalize e.code=c at p7 gq;generalize e.pos=c2 at p7;apply qf [];repeat' (first|apply Qb|(intro h;try exact cDd)|exact⟨Tryz.call43⟩|refine cpe p7 ?_|exact cSd|apply qd []|refine exr ?_|refine qg ?_)
theorem q6p(L:List qbn)(st:List AObj)(hl:L.length<1000000)(hB:∀e∈L,EntB e):qr E 29 [logA L] st λr st'=>r=qh2 (yz 0 L)∧st'=st:=by
 refine zj [.a (logA L)] (qt0 _) Tryz.func29 rfl rfl (λ_=>rfl) rfl λS0=>?_;have o0:(L.map qar).length=L.length:=Sx
 apply qf [];repeat' (first|apply Qb|(intro h;try exact cDd)|exact cSd|apply qd []|refine exr ?_|refine qg ?_)
 refine zx (X:=Nat) (λk=>⟨[(0,.a (logA L)),(3,.tp 0),(4,.i k)],[(0,some (.tip 1 9 ((yz 0 (L.take k)).map λx=>Sv x)))],1⟩) (λk=>k<=L.length) (λk=>L.length-k) 0 Om ?_ ?_
 .skip
  repeat' (first|apply Qb|(intro h;try exact cDd)|exact cSd|apply qd []|refine exr ?_|refine qg ?_)
  all_goals first|rfl|(simp[yz];done)
 .rintro k hk
  by_cases e9:k<L.length
  .have hx:L[k]?=some L[k]:=Qc e9
   have i3:(L.map qar)[k]?=some (qar L[k]):=by rw[Qd,hx];rfl
   have bc:=hB _ (Qe e9);have i6:L.take (k+1)=L.take k++[L[k]]:=by rw[Qg,hx];rfl
   have sw:(L.take k).length=k:=So
   have bw:=qk2 (L.take k) 0 L[k];rw[<-i6,sw,Nat.zero_add]at bw;have lj:=qiv (L.take k) 0;generalize L[k]=e at hx i3 bc bw;have q0:=qbl k Om;have q1:=qcs bc.ins;have q2:=qcs bc.rep;have q3:=qcs bc.del;have q4:=qcs bc.bytes;have f0:=λst=>qrp k st Om;have f1:=λst=>qal e.ins st bc.ins.1 bc.ins.2;have f2:=λst=>qal e.rep st bc.rep.1 bc.rep.2;have f3:=λst=>qal e.del st bc.del.1 bc.del.2;have f4:=λst=>qal e.bytes st bc.bytes.1 bc.bytes.2;unfold qqs at bw;apply qf [];repeat' (first|apply Qb|(intro h;try exact cDd)|(refine Qa (k) ⟨Om,_,i3,?_⟩)|exact⟨Tryz.call56⟩|refine cpe f0 ?_|exact⟨Tryz.call56⟩|refine cpe f1 ?_|exact⟨Tryz.call56⟩|refine cpe f2 ?_|exact⟨Tryz.call56⟩|refine cpe f3 ?_|exact⟨Tryz.call56⟩|refine cpe f4 ?_|(refine Qa (k+1) ⟨Om,Om,?_⟩)|exact cSd|apply qd []|refine exr ?_|refine qg ?_)
   all_goals first|(rw[bw];simp;done)|(simp;omega)
  .have e9:k=L.length:=by omega
   subst e9;rw[Qf];apply qf [];repeat' (first|apply Qb|(intro h;try exact cDd)|exact cSd|apply qd []|refine exr ?_|refine qg ?_)
end Go.Proofs.YtihlchbgjdkmpaaGreatDoor
namespace Go.Pl
open Go Go.Proofs Go.Proofs.YtihlchbgjdkmpaaGreatDoor
def qhe:List qp:=[⟨2,1,[]⟩,⟨3,0,[([66],[50])]⟩,⟨3,0,[([66],[50])]⟩]
end Go.Pl
namespace Go.Proofs.YtihlchbgjdkmpaaGreatDoor
open Go Go.Av Go.RowKit Go.Proofs Go.Pl
theorem zdw(st:List AObj):qr E 8 [] st λr st'=>r=Bv true∧st'=st:=by
 have hap:=λst=>zd6 qhd qhe st (by decide) (by simp[qhe];exact⟨⟨by simp[KeyB],Sx,Sx,Sx⟩,by simp[KeyB],Sx,Sx,Sx⟩) (by decide);have h1:(Go.Pl.appF qhd qhe).1=.no:=by decide +kernel
 have h2:(Go.Pl.appF qhd qhe).2.length<1000000:=by decide +kernel
 have h3:(logH (Go.Pl.appF qhd qhe).2).1=.no:=by decide +kernel
 have h4:((logH (Go.Pl.appF qhd qhe).2).2.map λe=>(e.del,e.ins,e.first,e.last))=[(1,2,2,3)]:=by decide +kernel
 have h5:(qhb (Go.Pl.appF qhd qhe).2).1=.no:=by decide +kernel
 have h6:(qhb (Go.Pl.appF qhd qhe).2).2.length<1000000:=by decide +kernel
 have h7:(jx (qhb (Go.Pl.appF qhd qhe).2).2).1=.no:=by decide +kernel
 have h8:qsp (jx (qhb (Go.Pl.appF qhd qhe).2).2).2.2=qhd:=by decide +kernel
 rw[h1]at hap;generalize(Go.Pl.appF qhd qhe).2=s at *;have hlg:=λst=>ze8 s st h2;have u7:=λst=>zfa s st h2;rw[h3]at hlg;rw[h5]at u7;generalize(qhb s).2=t at *;have hrt:=λst=>zat t st h6;unfold qxv at hrt;simp only[h7]at hrt;obtain⟨hB,hI⟩:=zdb t;have ht:=λst=>zmh (jx t).2.2 st (q96 hB hI) (q7c hB hI);rw[h8]at ht;generalize(jx t).2.2=l at hrt ht;generalize(jx t).2.1=b at hrt;generalize(logH s).2=L at *
 obtain⟨e,rfl⟩:∃e,L=[e]:=by
  cases L with
  |nil=>simp at h4
  |cons e r=>cases r with
   |nil=>exact⟨e,rfl⟩
   |cons _ _=>simp at h4
 simp only[List.map_cons,List.map_nil,Qi,Qj,and_true]at h4;obtain⟨q1,q2,q3,q4⟩:=h4;obtain⟨rep,del,ins,first,last,bytes⟩:=e;dsimp only at q1 q2 q3 q4;subst q1 q2 q3 q4;have hi0:[qar ⟨rep,1,2,2,3,bytes⟩][0]?=some (qar ⟨rep,1,2,2,3,bytes⟩):=rfl;replace hlg:∀st,qr E 25 [Sv s] st λr st'=>r=.tu [.sl 6 [qar ⟨rep,1,2,2,3,bytes⟩] none,errA .no]∧st'=st:=hlg;refine zj [] (qt _) Tryz.func8 rfl rfl (λ_=>rfl) rfl λS0=>?_;apply qf [];repeat' (first|apply Qb|(intro h;try exact cDd)|exact⟨Tryz.call34⟩|refine cpe hap ?_|exact⟨Tryz.call25⟩|refine cpe hlg ?_|exact⟨Tryz.call11⟩|refine cpe u7 ?_|exact⟨Tryz.call9⟩|refine cpe hrt ?_|exact⟨Tryz.call23⟩|refine cpe ht ?_|(refine Qa (0) ⟨Om,_,hi0,?_⟩)|exact cSd|apply qd []|refine exr ?_|refine qg ?_)
 all_goals first|rfl|(simp;done)
theorem zn7(text:qc):(logH text).2.length<1000000∧∀e∈(logH text).2,EntB e:=by
 unfold logH;split
 .rename_i hr
  obtain⟨b,r,hT,hp,he⟩:=qfm hr;have hB:=qen hT;have lz:=hB.len;obtain⟨mf,hgr⟩:=qez hp;rw[qsm hT hp,he];dsimp only;refine⟨by rw[qld _ _ mf];omega,λe hm=>?_⟩;obtain⟨i,hi⟩:=List.getElem?_of_mem hm;have dg:=(List.getElem?_eq_some_iff.1 hi).1;rw[qld _ _ mf]at dg;have hx:b.batches[i]?=some b.batches[i]:=Qc dg;have hy:r.given[i]?=some (r.given[i]'(by omega)):=Qc Om;rw[q5c _ _ i _ _ hx hy]at hi;simp only[Qh]at hi;subst hi;have hbt:=(hB.bat _ (Qe dg)).2;have hc:=q32 b.batches[i];have dj:=qxl hT hx;rw[qyu];constructor <;>(unfold i64;dsimp only;omega)
 .exact⟨Sx,Sx⟩
theorem zff{text:qc}(h:(logH text).1≠.no):(logH text).1.code≠0:=by
 unfold logH at h⊢;split
 .rename_i hr
  rw[if_pos hr]at h;exact absurd rfl h
 .rename_i hr
  exact qtw hr
theorem zo5:EqT E.P 64:=⟨Kr,Kr,Kr⟩
set_option maxHeartbeats 4000000 in
theorem zn8(text:qc)(st:List AObj):qr E 6 [Sv text] st λr st'=>r=Bv true∧st'=st:=by
 refine zj [.s text] (qt _) Tryz.func6 rfl rfl (λ_=>rfl) rfl λS0=>?_;have hal:=zdw;by_cases h4:4000<text.length
 .apply qf []
  repeat' (first|apply Qb|(intro h;try exact cDd)|exact⟨Tryz.call8⟩|refine cpe hal ?_|exact cSd|apply qd []|refine exr ?_|refine qg ?_)
 have hl:=λst=>ze8 text st Om;have mt:=λst=>zc4 text st Om;have k1:=zog (@zff text);obtain⟨z1,z2⟩:=zn7 text;generalize logH text=q at *;obtain⟨e,L⟩:=q;dsimp only at *;have n1:=λst=>zod e st k1;have a1:=λst=>zo3 e st;have hli:=λst=>zit L st z1 z2;have hlr:=λst=>q6p L st z1 z2;have lj:=qiv L 0;have htx:=λst=>zko (yz 0 L) (yz 0 L) st Om;rw[decide_eq_true rfl]at htx;generalize yz 0 L=T at *;have o0:(L.map qar).length=L.length:=Sx
 cases e
 all_goals
  apply qf [];repeat' (first|apply Qb|(intro h;try exact cDd)|exact⟨Tryz.call8⟩|refine cpe hal ?_|exact⟨Tryz.call25⟩|refine cpe hl ?_|exact⟨Tryz.call26⟩|refine cpe mt ?_|exact⟨Tryz.call18⟩|refine cpe n1 ?_|exact⟨Tryz.call19⟩|refine cpe a1 ?_|exact cSd|apply qd []|refine exr ?_|refine qg ?_)
  refine zx (X:=Nat) (λk=>⟨[(3,.a (logA L)),(5,.a (logA L)),(43,.a (logA L)),(44,.i L.length),(45,.i k)],[],0⟩) (λk=>k<=L.length) (λk=>L.length-k) 0 Om ?_ ?_
  .skip
   repeat' (first|apply Qb|(intro h;try exact cDd)|exact cSd|apply qd []|refine exr ?_|refine qg ?_)
   all_goals first|rfl|(simp;done)
  .rintro k hk
   by_cases e9:k<L.length
   .have hx:L[k]?=some L[k]:=Qc e9
    have i3:(L.map qar)[k]?=some (qar L[k]):=by rw[Qd,hx];rfl
    generalize L[k]=x at hx i3;apply qf [];repeat' (first|apply Qb|(intro h;try exact cDd)|(refine Qa (k) ⟨Om,_,i3,?_⟩)|(refine zpc zo5 rfl rfl rfl rfl rfl ?_)|(refine Qa (k+1) ⟨Om,Om,?_⟩)|exact cSd|apply qd []|refine exr ?_|refine qg ?_)
    all_goals first|rfl|(simp_all;done)
   .have e9:k=L.length:=by omega
    subst e9;apply qf [];repeat' (first|apply Qb|(intro h;try exact cDd)|exact⟨Tryz.call28⟩|refine cpe hli ?_|exact⟨Tryz.call29⟩|refine cpe hlr ?_|exact⟨Tryz.call27⟩|refine cpe htx ?_|exact cSd|apply qd []|refine exr ?_|refine qg ?_)
end Go.Proofs.YtihlchbgjdkmpaaGreatDoor
