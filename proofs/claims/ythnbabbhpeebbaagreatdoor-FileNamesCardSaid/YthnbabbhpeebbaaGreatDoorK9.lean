/- Contracts and plain facts that the closing text leans on (part 9). No condition of their own beyond those that each states. -/
import Derived.Test.YthnbabbhpeebbaaGreatDoorK8
import Derived.LaidEql
set_option maxRecDepth 100000
set_option linter.unusedVariables false
set_option linter.unusedSimpArgs false
open And renaming intro→Qb
open Bool renaming and_eq_true→Qm
open Exists renaming intro→Qa
open Int renaming eq_ofNat_of_zero_le→Qz
open List renaming getD_eq_getElem?_getD→Qc,getElem?_map→Qe,getElem?_eq_getElem→Qf,set_append_right→Qg,append_nil→Qj,getElem?_mapIdx→Ql,ext_getElem?→Qp,all_eq_true→Qq,getElem?_eq_none→Qr,length_set→Qs,length_map→Qt,mem_singleton→Qu,sum_cons→Qv,perm_ext_iff_of_nodup→Qw,range→Qx,drop_eq_getElem_cons→Qy,length_pos_iff→Zc,length_append→Zd,mem_map→Ze,nodup_range→Zg,getElem_mem→Zh,drop_length→Zi,mem_range→Zk,nodup_nil→Zl,map_cons→Zm,any_nil→Zn
open List.cons renaming injEq→Zp
open Nat renaming le_of_ble_eq_true→Qd,le_refl→Qh,sub_self→Qk,blt→Qn,ble→Qo,zero_le→Za,beq→Zo
open Option.some renaming inj→Qi,injEq→Zf
open Prod renaming fst→Zb,snd→Zj
namespace Go.Proofs.YthnbabbhpeebbaaGreatDoor
open Go Go.Av Go.RowKit Go.Proofs Go.Pl
@[reducible] def z7 (d : qc) : List Nat → Prop := fun os => os.length = d.files.length
def qcn(d:qc)(o:Nat):Clu:=qal (z7 d) (zy d) o
@[reducible] def dH (d : qc) (o : Nat) : List (Nat × Option SR) := [(0, some (.clu (qcn d o) []))]
@[reducible] def dH1 (d : qc) (o : Nat) : List (Nat × Option SR) := [(1, some (.clu (qcn d o) []))]
theorem yf{d:qc}{os:List Nat}{n:qa}(hd:d.Bd 1000000)(ho:os.length=d.files.length)(hf:(d.file n).1=.no):∃o,os[(d.file n).2.toNat]?=some o:=by
 have h5:0<=(d.file n).2∧(d.file n).2<d.files.length:=hd.ok.file hf;exact⟨os[(d.file n).2.toNat]'(by omega),Qf _⟩
theorem qgl{d:qc}{n:qa}(h:(d.file n).1≠.no):∃k,(d.file n).1=.num k:=by
 rcases qii d n with⟨e,_⟩|⟨_,_,e⟩|⟨k,_,_,e⟩
 .exact absurd e h
 .exact⟨_,e⟩
 .exact⟨_,e⟩
theorem qgv(d:qc)(n:Int):∃m u l g,d.spend n=(m,⟨u,l,d.armed,g,d.room,d.files,d.sure,d.waits,d.acts⟩):=⟨_,_,_,_,rfl⟩
theorem kw{T Tw:TypeId}{sz:Nat}{ms ms':List PM}(h:ms=ms'):∀S c l,(pool T Tw sz ms').ok S c l->(pool T Tw sz ms).ok S c l:=by
 subst h;exactλ_ _ _ h=>h
theorem qhy{f:zj}{sn:qa}{os:List Nat}{fs:List zj}{a b:List PM}{oj q nx:Nat}{H:Nat->Option SR}(h:qz E 72 [.bx 0 0] 2 (hpF (qbi f.sure f.waits)) ⟨.s sn,q8 (qbi f.sure f.waits),qbi f.sure f.waits++q9 (qbi f.sure f.waits),2⟩)(np:pmsD os fs=a++⟨oj,[Sv f.sure],f.waits.map vm⟩::b)(hH:H q=some (.clu (qzk os fs) [])):
  qz E 72 [.a (.bx oj 0 0)] nx H ⟨.s sn,[q],[],nx⟩:=
 zez (m:=⟨oj,[Sv f.sure],f.waits.map vm⟩) (a:=a) (b:=b) (vs:=[]) (svs:=[.s f.sure]) h (hH.trans (congrArg (λx=>some (SR.clu (pool 98 114 3 x) [])) np)) (λ_=>rfl) rfl rfl
set_option maxHeartbeats 4000000 in
theorem q73(d:qc)(o:Nat)(n:qa)(hd:d.Bd 900000)(hn:n.length<1000000):qz E 79 [.a (.bx o 0 0),.s n] 1 (hpF (dH d o)) ⟨.a (errA (d.remove n).1),q8 (dH d o),dH1 (d.remove n).2 o++q9 (dH d o),2⟩:=by
 have o0:=hd.mono (show 900000<=1000000 by omega);by_cases hf:(d.file n).1=.no
 .have d9:=λos=>qo0 d os o0
  obtain⟨m,u2,l2,g2,s6⟩:=qgv d 1;rw[s6]at d9;simp only at d9;by_cases hm:m<1
  .have e:d.remove n=(.num 3,⟨u2,l2,d.armed,g2,d.room,d.files,d.sure,d.waits,d.acts⟩):=by
    unfold qc.remove;rw[if_neg (by simp[hf])];rw[s6];simp[hm]
   rw[if_pos hm]at d9;rw[e];refine j7 (o:=o) (hp:=zy d) (hp':=zy (⟨u2,l2,d.armed,g2,d.room,d.files,d.sure,d.waits,d.acts⟩:qc)) (Pr:=z7 d) (Pr':=z7 (⟨u2,l2,d.armed,g2,d.room,d.files,d.sure,d.waits,d.acts⟩:qc)) [.bx o 0 0,Sv n] [.bx 0 0,.s n] 6 6 (.a (errA (.num 3))) (errA (.num 3)) Tryz.func79 rfl rfl rfl (λρ h=>by simp[SV.evs,SV.ev,h,bxAt]) rfl (λ_=>rfl) (λ_=>rfl) (λ_=>rfl) λos S F ρ o8=>?_;obtain⟨oo,bj⟩:=yf o0 o8 hf;have h1:=xl d os n oo o0 hn hf bj;have h2:=d9 os;apply qd [];repeat' (first|apply Qb|(intro h;try exact cDd)|exact⟨Tryz.call68⟩|(refine qx h1 ?_)|exact⟨Tryz.call69⟩|(refine qx h2 ?_)|(refine Qa os ⟨?_,fin0 (entP [(0,0),(5,5)] ?_)⟩)|exact cSd|apply qb []|refine exr ?_|refine qf ?_)
   all_goals first|assumption|rfl|omega|exact kw o6 _ _ _ h|exact b9|(simp;done)
  .have e:d.remove n=(.no,⟨u2,l2,d.armed,g2,d.room,d.files,d.sure,d.waits++[(⟨[],n,0⟩:xi)],d.acts++[(⟨6,n,[],[],0⟩:ActV)]⟩):=by
    unfold qc.remove;rw[if_neg (by simp[hf])];rw[s6];simp[hm,qc.did]
   rw[if_neg hm]at d9;rw[e];have tv:=λos=>qpf ⟨u2,l2,d.armed,g2,d.room,d.files,d.sure,d.waits++[⟨[],n,0⟩],d.acts⟩ os ⟨6,n,[],[],0⟩ (by have:=hd.al;simp only;omega);have hwl:=hd.wl;have hwm:(d.waits.map qaa).length=d.waits.length:=Sx
   refine j7 (o:=o) (hp:=zy d) (hp':=zy (⟨u2,l2,d.armed,g2,d.room,d.files,d.sure,d.waits++[(⟨[],n,0⟩:xi)],d.acts++[(⟨6,n,[],[],0⟩:ActV)]⟩:qc)) (Pr:=z7 d) (Pr':=z7 (⟨u2,l2,d.armed,g2,d.room,d.files,d.sure,d.waits++[(⟨[],n,0⟩:xi)],d.acts++[(⟨6,n,[],[],0⟩:ActV)]⟩:qc)) [.bx o 0 0,Sv n] [.bx 0 0,.s n] 6 6 (.a (errA .no)) (errA .no) Tryz.func79 rfl rfl rfl (λρ h=>by simp[SV.evs,SV.ev,h,bxAt]) rfl (λ_=>rfl) (λ_=>rfl) (λ_=>rfl) λos S F ρ o8=>?_;obtain⟨oo,bj⟩:=yf o0 o8 hf;have h1:=xl d os n oo o0 hn hf bj;have h2:=d9 os;have h3:=tv os;apply qd [];repeat' (first|apply Qb|(intro h;try exact cDd)|exact⟨Tryz.call68⟩|(refine qx h1 ?_)|exact⟨Tryz.call69⟩|(refine qx h2 ?_)|exact⟨Tryz.call70⟩|(refine qx h3 ?_)|(refine Qa os ⟨?_,fin0 (entP [(0,0),(5,5)] ?_)⟩)|exact cSd|apply qb []|refine exr ?_|refine qf ?_)
   all_goals first|assumption|rfl|omega|exact kw o6 _ _ _ h|exact b9|(simp;done)
 .obtain⟨k,hk⟩:=qgl hf
  have e:d.remove n=(.num k,d):=by
   unfold qc.remove;rw[if_pos hf,hk]
  have h0:=λos=>qe6 d os n o0 hn hf;rw[hk]at h0;rw[e];refine j7 (o:=o) (hp:=zy d) (hp':=zy (d:qc)) (Pr:=z7 d) (Pr':=z7 (d:qc)) [.bx o 0 0,Sv n] [.bx 0 0,.s n] 6 6 (.a (errA (.num k))) (errA (.num k)) Tryz.func79 rfl rfl rfl (λρ h=>by simp[SV.evs,SV.ev,h,bxAt]) rfl (λ_=>rfl) (λ_=>rfl) (λ_=>rfl) λos S F ρ o8=>?_;have h1:=h0 os;apply qd [];repeat' (first|apply Qb|(intro h;try exact cDd)|exact⟨Tryz.call68⟩|(refine qx h1 ?_)|(refine Qa os ⟨?_,fin0 (entP [(0,0),(5,5)] ?_)⟩)|exact cSd|apply qb []|refine exr ?_|refine qf ?_)
  all_goals first|assumption|rfl|omega|exact kw o6 _ _ _ h|exact b9|(simp;done)
set_option maxHeartbeats 4000000 in
theorem q3i(d:qc)(o:Nat)(n:qa)(hd:d.Bd 900000)(hn:n.length<1000000):qz E 30 [.a (.bx o 0 0),.s n] 1 (hpF (dH d o)) ⟨.a (errA (d.sync n).1),q8 (dH d o),dH1 (d.sync n).2 o++q9 (dH d o),2⟩:=by
 have o0:=hd.mono (show 900000<=1000000 by omega);by_cases hf:(d.file n).1=.no
 .have d9:=λos=>qo0 d os o0
  obtain⟨m,u2,l2,g2,s6⟩:=qgv d 1;rw[s6]at d9;simp only at d9;by_cases hm:m<1
  .have e:d.sync n=(.num 3,⟨u2,l2,d.armed,g2,d.room,d.files,d.sure,d.waits,d.acts⟩):=by
    unfold qc.sync;rw[if_neg (by simp[hf])];rw[s6];simp[hm]
   rw[if_pos hm]at d9;rw[e];refine j7 (o:=o) (hp:=zy d) (hp':=zy (⟨u2,l2,d.armed,g2,d.room,d.files,d.sure,d.waits,d.acts⟩:qc)) (Pr:=z7 d) (Pr':=z7 (⟨u2,l2,d.armed,g2,d.room,d.files,d.sure,d.waits,d.acts⟩:qc)) [.bx o 0 0,Sv n] [.bx 0 0,.s n] 6 6 (.a (errA (.num 3))) (errA (.num 3)) Tryz.func30 rfl rfl rfl (λρ h=>by simp[SV.evs,SV.ev,h,bxAt]) rfl (λ_=>rfl) (λ_=>rfl) (λ_=>rfl) λos S F ρ o8=>?_;obtain⟨oo,bj⟩:=yf o0 o8 hf;have h1:=xl d os n oo o0 hn hf bj;have h2:=d9 os;apply qd [];repeat' (first|apply Qb|(intro h;try exact cDd)|exact⟨Tryz.call68⟩|(refine qx h1 ?_)|exact⟨Tryz.call69⟩|(refine qx h2 ?_)|(refine Qa os ⟨?_,fin0 (entP [(0,0),(5,5)] ?_)⟩)|exact cSd|apply qb []|refine exr ?_|refine qf ?_)
   all_goals first|assumption|rfl|omega|exact kw o6 _ _ _ h|exact b9|(simp;done)
  .have e:d.sync n=(.no,⟨u2,l2,d.armed,g2,d.room,d.files.set (d.file n).2.toNat (⟨(d.at (d.file n).2).seen,[]⟩:zj),d.sure,d.waits,d.acts++[(⟨4,n,[],[],0⟩:ActV)]⟩):=by
    unfold qc.sync;rw[if_neg (by simp[hf])];rw[s6];simp[hm,qc.did,qc.with,qc.at]
   rw[if_neg hm]at d9;rw[e];have tv:=λos=>qpf ⟨u2,l2,d.armed,g2,d.room,d.files,d.sure,d.waits,d.acts⟩ os ⟨4,n,[],[],0⟩ (by have:=hd.al;simp only;omega);refine j7 (o:=o) (hp:=zy d) (hp':=zy (⟨u2,l2,d.armed,g2,d.room,d.files.set (d.file n).2.toNat (⟨(d.at (d.file n).2).seen,[]⟩:zj),d.sure,d.waits,d.acts++[(⟨4,n,[],[],0⟩:ActV)]⟩:qc)) (Pr:=z7 d) (Pr':=z7 (⟨u2,l2,d.armed,g2,d.room,d.files.set (d.file n).2.toNat (⟨(d.at (d.file n).2).seen,[]⟩:zj),d.sure,d.waits,d.acts++[(⟨4,n,[],[],0⟩:ActV)]⟩:qc)) [.bx o 0 0,Sv n] [.bx 0 0,.s n] 6 6 (.a (errA .no)) (errA .no) Tryz.func30 rfl rfl rfl (λρ h=>by simp[SV.evs,SV.ev,h,bxAt]) rfl (λ_=>rfl) (λ_=>rfl) (λ_=>rfl) λos S F ρ o8=>?_;obtain⟨oo,bj⟩:=yf o0 o8 hf;have h1:=xl d os n oo o0 hn hf bj;obtain⟨_,_,_⟩:=hd.dir1;have gk:0<=(d.file n).2∧(d.file n).2<d.files.length:=o0.ok.file hf;obtain⟨oj,f,oa,ob,fa,fb,q1,q2,q3,q4,q5,q6⟩:=qam o8 (i:=(d.file n).2.toNat) Om;obtain rfl:oj=oo:=by rw[q5]at bj;exact Qi bj
   have np:pmsD os d.files=pmsD oa fa++⟨oj,[Sv f.sure],f.waits.map vm⟩::pmsD ob fb:=by
    rw[q1,q2];exact w7 Om
   have gc:d.at (d.file n).2=f:=by
    unfold qc.at;rw[Qc,q6];rfl
   have dt:=hd.at (d.file n).2;rw[gc]at dt
   have o6:∀g:zj,pmsD os (d.files.set (d.file n).2.toNat g)=pmsD oa fa++⟨oj,[Sv g.sure],g.waits.map vm⟩::pmsD ob fb:=λg=>by
    have:d.files.set (d.file n).2.toNat g=fa++g::fb:=by
     rw[q2,<-q4,Qg _ _ (Qh _),Qk];rfl
    rw[this,q1];exact w7 Om
   have h4:=qpi f.sure f.waits (dt.mono Om);have o6:=o6 ⟨(d.at (d.file n).2).seen,[]⟩;have b9:os.length=(d.files.set (d.file n).2.toNat (⟨(d.at (d.file n).2).seen,[]⟩:zj)).length:=by rw[Qs];exact o8
   have rl:(d.at (d.file n).2).seen=km f.sure f.waits (-1):=by rw[gc];rfl
   rw[rl]at o6 b9⊢;generalize km f.sure f.waits (-1)=sn at *;have h2:=d9 os;have h3:=tv os;apply jp;repeat' (first|apply Qb|(intro h;try exact cDd)|(refine qt9 7 5 5 [.s f.sure] (congrArg (λx=>some (SR.clu (pool _ _ _ x) [])) np) rfl (λ_=>rfl) rfl [] ?_)|(refine v6 [] ?_)|exact⟨Tryz.call72⟩|(refine qx h4 ?_)|exact⟨Tryz.call68⟩|(refine qx h1 ?_)|exact⟨Tryz.call69⟩|(refine qx h2 ?_)|exact⟨Tryz.call70⟩|(refine qx h3 ?_)|(refine Qa os ⟨?_,zi1 (f:=[Sv sn]) 6 8 [.s sn] rfl rfl rfl (λ_=>rfl) (entP [(0,0),(5,10)] ?_)⟩)|exact cSd|apply qb []|refine exr ?_|refine qf ?_)
   all_goals first|assumption|rfl|omega|exact kw o6 _ _ _ h|exact b9|(simp;done)
 .obtain⟨k,hk⟩:=qgl hf
  have e:d.sync n=(.num k,d):=by
   unfold qc.sync;rw[if_pos hf,hk]
  have h0:=λos=>qe6 d os n o0 hn hf;rw[hk]at h0;rw[e];refine j7 (o:=o) (hp:=zy d) (hp':=zy (d:qc)) (Pr:=z7 d) (Pr':=z7 (d:qc)) [.bx o 0 0,Sv n] [.bx 0 0,.s n] 6 6 (.a (errA (.num k))) (errA (.num k)) Tryz.func30 rfl rfl rfl (λρ h=>by simp[SV.evs,SV.ev,h,bxAt]) rfl (λ_=>rfl) (λ_=>rfl) (λ_=>rfl) λos S F ρ o8=>?_;have h1:=h0 os;apply qd [];repeat' (first|apply Qb|(intro h;try exact cDd)|exact⟨Tryz.call68⟩|(refine qx h1 ?_)|(refine Qa os ⟨?_,fin0 (entP [(0,0),(5,5)] ?_)⟩)|exact cSd|apply qb []|refine exr ?_|refine qf ?_)
  all_goals first|assumption|rfl|omega|exact kw o6 _ _ _ h|exact b9|(simp;done)
set_option maxHeartbeats 4000000 in
theorem zhe(d:qc)(o:Nat)(n:qa)(k:Int)(hd:d.Bd 900000)(hn:n.length<1000000)(hk:k<9223372036854775808):qz E 84 [.a (.bx o 0 0),.s n,.i k] 1 (hpF (dH d o)) ⟨.a (errA (d.cutF n k).1),q8 (dH d o),dH1 (d.cutF n k).2 o++q9 (dH d o),2⟩:=by
 have o0:=hd.mono (show 900000<=1000000 by omega);have hseen:=λ(f:zj)(hb:zj.Bd 1000000 f)=>qpi f.sure f.waits hb;by_cases hf:(d.file n).1=.no
 .by_cases hr:k<0∨((d.at (d.file n).2).seen.length:Int)<k
  .have e:d.cutF n k=(.num 1,d):=by
    unfold qc.cutF;rw[if_neg (by simp[hf]),if_pos hr]
   rw[e];refine j7 (o:=o) (hp:=zy d) (hp':=zy (d:qc)) (Pr:=z7 d) (Pr':=z7 (d:qc)) [.bx o 0 0,Sv n,Iv k] [.bx 0 0,.s n,.i k] 6 6 (.a (errA (.num 1))) (errA (.num 1)) Tryz.func84 rfl rfl rfl (λρ h=>by simp[SV.evs,SV.ev,h,bxAt]) rfl (λ_=>rfl) (λ_=>rfl) (λ_=>rfl) λos S F ρ o8=>?_;obtain⟨oo,bj⟩:=yf o0 o8 hf;have h1:=xl d os n oo o0 hn hf bj;obtain⟨_,_,_⟩:=hd.dir1;have gk:0<=(d.file n).2∧(d.file n).2<d.files.length:=o0.ok.file hf;obtain⟨oj,f,oa,ob,fa,fb,q1,q2,q3,q4,q5,q6⟩:=qam o8 (i:=(d.file n).2.toNat) Om;obtain rfl:oj=oo:=by rw[q5]at bj;exact Qi bj
   have np:pmsD os d.files=pmsD oa fa++⟨oj,[Sv f.sure],f.waits.map vm⟩::pmsD ob fb:=by
    rw[q1,q2];exact w7 Om
   have gc:d.at (d.file n).2=f:=by
    unfold qc.at;rw[Qc,q6];rfl
   have dt:=hd.at (d.file n).2;rw[gc]at dt
   have o6:∀g:zj,pmsD os (d.files.set (d.file n).2.toNat g)=pmsD oa fa++⟨oj,[Sv g.sure],g.waits.map vm⟩::pmsD ob fb:=λg=>by
    have:d.files.set (d.file n).2.toNat g=fa++g::fb:=by
     rw[q2,<-q4,Qg _ _ (Qh _),Qk];rfl
    rw[this,q1];exact w7 Om
   rw[gc]at hr;have rl:f.seen=km f.sure f.waits (-1):=rfl;have h4:=hseen f (dt.mono Om);rw[rl]at hr;generalize km f.sure f.waits (-1)=sn at *;by_cases hk0:k<0
   .apply qd []
    repeat' (first|apply Qb|(intro h;try exact cDd)|exact⟨Tryz.call68⟩|(refine qx h1 ?_)|(refine Qa os ⟨?_,fin0 (entP [(0,0),(5,5)] ?_)⟩)|exact cSd|apply qb []|refine exr ?_|refine qf ?_)
    all_goals first|assumption|rfl|omega|exact kw o6 _ _ _ h|exact b9|(simp;done)
   .apply qd []
    repeat' (first|apply Qb|(intro h;try exact cDd)|exact⟨Tryz.call72⟩|(refine Qa _ ⟨qhy (q:=5) h4 np rfl,?_⟩)|exact⟨Tryz.call68⟩|(refine qx h1 ?_)|(refine Qa os ⟨?_,fin0 (entP [(0,0),(5,5)] ?_)⟩)|exact cSd|apply qb []|refine exr ?_|refine qf ?_)
    all_goals first|assumption|rfl|omega|exact kw o6 _ _ _ h|exact b9|(simp;done)
  .have d9:=λos=>qo0 d os o0
   obtain⟨m,u2,l2,g2,s6⟩:=qgv d 1;rw[s6]at d9;simp only at d9;by_cases hm:m<1
   .have e:d.cutF n k=(.num 3,⟨u2,l2,d.armed,g2,d.room,d.files,d.sure,d.waits,d.acts⟩):=by
     unfold qc.cutF;rw[if_neg (by simp[hf]),if_neg hr];rw[s6];simp[hm]
    rw[if_pos hm]at d9;rw[e];refine j7 (o:=o) (hp:=zy d) (hp':=zy (⟨u2,l2,d.armed,g2,d.room,d.files,d.sure,d.waits,d.acts⟩:qc)) (Pr:=z7 d) (Pr':=z7 (⟨u2,l2,d.armed,g2,d.room,d.files,d.sure,d.waits,d.acts⟩:qc)) [.bx o 0 0,Sv n,Iv k] [.bx 0 0,.s n,.i k] 6 6 (.a (errA (.num 3))) (errA (.num 3)) Tryz.func84 rfl rfl rfl (λρ h=>by simp[SV.evs,SV.ev,h,bxAt]) rfl (λ_=>rfl) (λ_=>rfl) (λ_=>rfl) λos S F ρ o8=>?_;obtain⟨oo,bj⟩:=yf o0 o8 hf;have h1:=xl d os n oo o0 hn hf bj;obtain⟨_,_,_⟩:=hd.dir1;have gk:0<=(d.file n).2∧(d.file n).2<d.files.length:=o0.ok.file hf;obtain⟨oj,f,oa,ob,fa,fb,q1,q2,q3,q4,q5,q6⟩:=qam o8 (i:=(d.file n).2.toNat) Om;obtain rfl:oj=oo:=by rw[q5]at bj;exact Qi bj
    have np:pmsD os d.files=pmsD oa fa++⟨oj,[Sv f.sure],f.waits.map vm⟩::pmsD ob fb:=by
     rw[q1,q2];exact w7 Om
    have gc:d.at (d.file n).2=f:=by
     unfold qc.at;rw[Qc,q6];rfl
    have dt:=hd.at (d.file n).2;rw[gc]at dt
    have o6:∀g:zj,pmsD os (d.files.set (d.file n).2.toNat g)=pmsD oa fa++⟨oj,[Sv g.sure],g.waits.map vm⟩::pmsD ob fb:=λg=>by
     have:d.files.set (d.file n).2.toNat g=fa++g::fb:=by
      rw[q2,<-q4,Qg _ _ (Qh _),Qk];rfl
     rw[this,q1];exact w7 Om
    rw[gc]at hr;have rl:f.seen=km f.sure f.waits (-1):=rfl;have h4:=hseen f (dt.mono Om);rw[rl]at hr;generalize km f.sure f.waits (-1)=sn at *;have h2:=d9 os;apply qd [];repeat' (first|apply Qb|(intro h;try exact cDd)|exact⟨Tryz.call72⟩|(refine Qa _ ⟨qhy (q:=5) h4 np rfl,?_⟩)|exact⟨Tryz.call68⟩|(refine qx h1 ?_)|exact⟨Tryz.call69⟩|(refine qx h2 ?_)|(refine Qa os ⟨?_,fin0 (entP [(0,0),(5,5)] ?_)⟩)|exact cSd|apply qb []|refine exr ?_|refine qf ?_)
    all_goals first|assumption|rfl|omega|exact kw o6 _ _ _ h|exact b9|(simp;done)
   .have e:d.cutF n k=(.no,⟨u2,l2,d.armed,g2,d.room,d.files.set (d.file n).2.toNat (⟨(d.at (d.file n).2).sure,(d.at (d.file n).2).waits++[(⟨[],k,true⟩:kz)]⟩:zj),d.sure,d.waits,d.acts++[(⟨3,n,[],[],k⟩:ActV)]⟩):=by
     unfold qc.cutF;rw[if_neg (by simp[hf]),if_neg hr];rw[s6];simp[hm,qc.did,qc.with,qc.at]
    rw[if_neg hm]at d9;rw[e];have tv:=λos=>qpf ⟨u2,l2,d.armed,g2,d.room,d.files,d.sure,d.waits,d.acts⟩ os ⟨3,n,[],[],k⟩ (by have:=hd.al;simp only;omega);refine j7 (o:=o) (hp:=zy d) (hp':=zy (⟨u2,l2,d.armed,g2,d.room,d.files.set (d.file n).2.toNat (⟨(d.at (d.file n).2).sure,(d.at (d.file n).2).waits++[(⟨[],k,true⟩:kz)]⟩:zj),d.sure,d.waits,d.acts++[(⟨3,n,[],[],k⟩:ActV)]⟩:qc)) (Pr:=z7 d) (Pr':=z7 (⟨u2,l2,d.armed,g2,d.room,d.files.set (d.file n).2.toNat (⟨(d.at (d.file n).2).sure,(d.at (d.file n).2).waits++[(⟨[],k,true⟩:kz)]⟩:zj),d.sure,d.waits,d.acts++[(⟨3,n,[],[],k⟩:ActV)]⟩:qc)) [.bx o 0 0,Sv n,Iv k] [.bx 0 0,.s n,.i k] 6 6 (.a (errA .no)) (errA .no) Tryz.func84 rfl rfl rfl (λρ h=>by simp[SV.evs,SV.ev,h,bxAt]) rfl (λ_=>rfl) (λ_=>rfl) (λ_=>rfl) λos S F ρ o8=>?_;obtain⟨oo,bj⟩:=yf o0 o8 hf;have h1:=xl d os n oo o0 hn hf bj;obtain⟨_,_,_⟩:=hd.dir1;have gk:0<=(d.file n).2∧(d.file n).2<d.files.length:=o0.ok.file hf;obtain⟨oj,f,oa,ob,fa,fb,q1,q2,q3,q4,q5,q6⟩:=qam o8 (i:=(d.file n).2.toNat) Om;obtain rfl:oj=oo:=by rw[q5]at bj;exact Qi bj
    have np:pmsD os d.files=pmsD oa fa++⟨oj,[Sv f.sure],f.waits.map vm⟩::pmsD ob fb:=by
     rw[q1,q2];exact w7 Om
    have gc:d.at (d.file n).2=f:=by
     unfold qc.at;rw[Qc,q6];rfl
    have dt:=hd.at (d.file n).2;rw[gc]at dt
    have o6:∀g:zj,pmsD os (d.files.set (d.file n).2.toNat g)=pmsD oa fa++⟨oj,[Sv g.sure],g.waits.map vm⟩::pmsD ob fb:=λg=>by
     have:d.files.set (d.file n).2.toNat g=fa++g::fb:=by
      rw[q2,<-q4,Qg _ _ (Qh _),Qk];rfl
     rw[this,q1];exact w7 Om
    have o6:=o6 ⟨(d.at (d.file n).2).sure,(d.at (d.file n).2).waits++[(⟨[],k,true⟩:kz)]⟩;have b9:os.length=(d.files.set (d.file n).2.toNat (⟨(d.at (d.file n).2).sure,(d.at (d.file n).2).waits++[(⟨[],k,true⟩:kz)]⟩:zj)).length:=by rw[Qs];exact o8
    have hfw:=dt.wl;rw[gc]at hr o6 b9⊢;have rl:f.seen=km f.sure f.waits (-1):=rfl;have h4:=hseen f (dt.mono Om);rw[rl]at hr;generalize km f.sure f.waits (-1)=sn at *;have h2:=d9 os;have h3:=tv os;have o6:pmsD os (d.files.set (d.file n).2.toNat (⟨f.sure,f.waits++[(⟨[],k,true⟩:kz)]⟩:zj))=pmsD oa fa++⟨oj,[Sv f.sure],f.waits.map vm++[vm ⟨[],k,true⟩]⟩::pmsD ob fb:=by rw[o6];simp
    have hwl:(f.waits.map vm).length=f.waits.length:=Sx
    apply jp;repeat' (first|apply Qb|(intro h;try exact cDd)|(refine qt9 9 5 7 [.s f.sure] (congrArg (λx=>some (SR.clu (pool _ _ _ x) [])) np) rfl (λ_=>rfl) rfl [] ?_)|(refine v6 [] ?_)|exact⟨Tryz.call72⟩|(refine Qa _ ⟨qhy (q:=5) h4 np rfl,?_⟩)|exact⟨Tryz.call68⟩|(refine qx h1 ?_)|exact⟨Tryz.call69⟩|(refine qx h2 ?_)|exact⟨Tryz.call70⟩|(refine qx h3 ?_)|(refine Qa os ⟨?_,finU (f:=[Sv f.sure]) 6 9 8 [.s f.sure] rfl rfl rfl rfl (λ_=>rfl) (entP [(0,0),(5,11)] ?_)⟩)|exact cSd|apply qb []|refine exr ?_|refine qf ?_)
    all_goals first|assumption|rfl|omega|exact kw o6 _ _ _ h|exact b9|(simp;done)
 .obtain⟨kk,hkk⟩:=qgl hf
  have e:d.cutF n k=(.num kk,d):=by
   unfold qc.cutF;rw[if_pos hf,hkk]
  have h0:=λos=>qe6 d os n o0 hn hf;rw[hkk]at h0;rw[e];refine j7 (o:=o) (hp:=zy d) (hp':=zy (d:qc)) (Pr:=z7 d) (Pr':=z7 (d:qc)) [.bx o 0 0,Sv n,Iv k] [.bx 0 0,.s n,.i k] 6 6 (.a (errA (.num kk))) (errA (.num kk)) Tryz.func84 rfl rfl rfl (λρ h=>by simp[SV.evs,SV.ev,h,bxAt]) rfl (λ_=>rfl) (λ_=>rfl) (λ_=>rfl) λos S F ρ o8=>?_;have h1:=h0 os;apply qd [];repeat' (first|apply Qb|(intro h;try exact cDd)|exact⟨Tryz.call68⟩|(refine qx h1 ?_)|(refine Qa os ⟨?_,fin0 (entP [(0,0),(5,5)] ?_)⟩)|exact cSd|apply qb []|refine exr ?_|refine qf ?_)
  all_goals first|assumption|rfl|omega|exact kw o6 _ _ _ h|exact b9|(simp;done)
theorem zhj(d:qc)(os:List Nat):qz E 76 [.bx 0 0] 5 (hpF (pwrH d os)) ⟨.b d.gone,q8 (pwrH d os),pwrH d os++q9 (pwrH d os),5⟩:=by
 refine je [.bx 0 0] (pwrH d os) 5 _ (pwrH d os) 5 Tryz.func76 rfl rfl rfl rfl λS F ρ=>?_;apply qd [];repeat' (first|apply Qb|(intro h;try exact cDd)|exact cSd|apply qb []|refine exr ?_|refine qf ?_)
 all_goals first|assumption|rfl|(simp;done)
theorem q1e(d:qc):∀L:List (qa×Int),qgw d L=(L.map λq=>((d.at q.2).seen.length:Int)).sum
 | []=>rfl
 |q::r=>by rw[qgw,q1e d r];rfl
theorem zdl{l l':List Int}(h:l.Perm l'):l.sum=l'.sum:=by
 induction h with
 |nil=>rfl
 |cons a _ ih=>rw[Qv,Qv,ih]
 |swap a b l=>
  simp only[Qv]
  omega
 |trans _ _ h1 h2=>exact h1.trans h2
theorem q2y{g:Nat->Int}{vis:List Nat}{n:Nat}(hn:vis.Nodup)(hl:∀i∈vis,i<n)(ha:∀i,i<n->i∈vis):(vis.map g).sum=((Qx n).map g).sum:=by
 have:vis.Perm (Qx n):=(Qw hn Zg).2 λi=>by
  rw[Zk];exact⟨hl i,ha i⟩
 exact zdl (this.map g)
theorem q4c{vis:List Nat}{n:Nat}(hn:vis.Nodup)(hl:∀i∈vis,i<n):vis.length<=n:=by
 have:vis.Perm ((Qx n).filter λi=>decide (i∈vis)):=(Qw hn (Zg.filter _)).2 λi=>by
  rw[List.mem_filter,Zk];exact⟨λh=>⟨hl i h,by simpa using h⟩,λh=>by simpa using h.2⟩
 rw[this.length_eq];have:=List.length_filter_le (λi=>decide (i∈vis)) (Qx n)
 simpa using this
def qer(d:qc)(i:Nat):Int:=match d.dir[i]?with
 |some q=>((d.at q.2).seen.length:Int)
 |none=>0
theorem q6u(d:qc):((Qx d.dir.length).map (qer d)).sum=qgw d d.dir:=by
 rw[q1e];congr 1;apply Qp;intro i;rw[Qe,Qe];by_cases h:i<d.dir.length
 .rw[List.getElem?_range h,Qf h]
  simp[qer,h]
 .rw[Qr So,Qr Om]
  rfl
theorem q93{d:qc}{N:Nat}(h:d.Bd N)(i:Nat):0<=qer d i∧qer d i<=N:=by
 unfold qer;split
 .rename_i q hq
  have:=(h.at q.2).behind (-1);unfold zj.seen;omega
 .omega
theorem zaf{d:qc}{N:Nat}(h:d.Bd N):∀vis:List Nat,0<=(vis.map (qer d)).sum∧(vis.map (qer d)).sum<=(vis.length:Int)*N
 | []=>by simp
 |i::r=>by
  obtain⟨h1,h2⟩:=zaf h r;obtain⟨h3,h4⟩:=q93 h i;simp only[Zm,Qv,List.length_cons]
  have:(((r.length+1:Nat):Int))*N=(r.length:Int)*N+N:=by
   push_cast
   rw[Int.add_mul,Int.one_mul]
  omega
set_option maxHeartbeats 1000000 in
theorem zho(d:qc)(os:List Nat)(o8:os.length=d.files.length)(hd:d.Bd 1000000):qz E 33 [.bx 0 0] 6 (hpF (zy d os)) ⟨.i d.free,q8 (zy d os),zy d os++q9 (zy d os),6⟩:=by
 have hdir:=qsz d os hd;obtain⟨dl,_,dr⟩:=hd.dir1;have hsum:=q6u d;have d8:=λvis=>zaf hd vis;have gc:=λi=>hd.at i;have r6:=hd.fl;have r0:=hd.r0;have r1:=hd.r1;have hfree:d.free=max 0 (d.room-qgw d d.dir):=rfl;rw[hfree];refine je [.bx 0 0] (zy d os) 6 _ (zy d os) 6 Tryz.func33 rfl rfl rfl rfl λS F ρ=>?_;have hdef:∀i q,d.dir[i]?=some q->qer d i=((d.at q.2).seen.length:Int):=λi q h=>by unfold qer;rw[h]
 generalize qer d=sa at *;unfold dirH at hdir;generalize d.dir=L at *;apply jp;repeat' (first|apply Qb|(intro h;try exact cDd)|exact⟨Tryz.call62⟩|(refine qx hdir ?_)|(refine qae (id:=4) ?_)|(refine v6 [] ?_)|(refine locX (q8z rfl rfl rfl rfl ?_))|(refine locK ?_)|exact cSd|apply qb []|refine exr ?_|refine qf ?_)
 refine qox (X:=List Nat×Int) (λ(vis,left)=>⟨[(0,.bx 0 0),(3,.i left),(14,.bx 6 0)],zy d os++[(7,some (.clu (qdu (L.map (kvM keyS)) vis) [.bx 6 0,.tp 8]))],9⟩) (λ(vis,left)=>vis.Nodup∧(∀i∈vis,i<L.length)∧left=d.room-(vis.map sa).sum) (λ(vis,_)=>L.length-vis.length) ([],d.room) ⟨Zl,Sx,Sx⟩ ?_ ?_
 .refine entE [(0,0),(1,1),(2,2),(3,3),(4,4),(5,5),(6,7),(7,8),(8,6)] ?_
  repeat' (first|apply Qb|(intro h;try exact cDd)|exact cSd|apply qb []|refine exr ?_|refine qf ?_)
  all_goals first|assumption|rfl|(simp;done)
 .rintro⟨vis,left⟩ ⟨hv1,hv2,hv3⟩
  have hvl:=q4c hv1 hv2;refine jp ?_;refine q94 (kvs:=L.map (kvM keyS)) (vis:=vis) (n:=6) (q:=7) (v:=.tp 8) rfl rfl rfl (λi6=>?_) (λi kv hi hiv=>?_)
  .have hs:=q2y (g:=sa) hv1 hv2 (λi hi=>i6 i (by simpa using hi))
   rw[hsum]at hs;rw[hs]at hv3;subst hv3;repeat' (first|apply Qb|(intro h;try exact cDd)|(refine v6 [] ?_)|(refine locK ?_)|exact cSd|apply qb []|refine exr ?_|refine qf ?_)
   all_goals first|assumption|rfl|(simp;done)
  .obtain⟨q,hq,rfl⟩:∃q,L[i]?=some q∧kv=kvM keyS q:=by
    rw[Qe]at hi
    cases hq:L[i]?with
    |none=>rw[hq]at hi;simp at hi
    |some q=>rw[hq]at hi;simp at hi;exact⟨q,rfl,hi.symm⟩
   have hil:=lt_of_getElem? hq;obtain⟨q0,q1⟩:=dr q (List.mem_of_getElem? hq);obtain⟨nm,ix⟩:=q;simp only at q0 q1;obtain⟨j,rfl⟩:∃j:Nat,ix=(j:Int):=⟨ix.toNat,Om⟩;obtain⟨o,f,oa,ob,fa,fb,e1,e2,e3,e4,e5,e6⟩:=qam o8 (i:=j) Om
   have np:pmsD os d.files=pmsD oa fa++⟨o,[Sv f.sure],f.waits.map vm⟩::pmsD ob fb:=by
    rw[e1,e2];exact w7 Om
   have hfa:d.at (j:Int)=f:=by
    unfold qc.at;rw[Int.toNat_natCast,Qc,e6];rfl
   have dt:=gc (j:Int);rw[hfa]at dt;have hsa:=hdef i _ hq;simp only[hfa]at hsa;have hsn:=qpi f.sure f.waits dt;have tg:=dt.behind (-1);have hptr:(qde os)[j]?=some (.bx o 0 0):=by rw[Qe,e5];rfl
   have gm:(qde os).length=os.length:=Sx
   have hsb:=d8 vis
   have hvb:(vis.length:Int)*(1000000:Nat)<=1000000000000:=by
    have:(vis.length:Int)<=1000000:=Om
    omega
   have rl:f.seen=km f.sure f.waits (-1):=rfl;rw[rl]at hsa;generalize km f.sure f.waits (-1)=sn at *
   have n1:(vis++[i]).Nodup:=by
    rw[List.nodup_append];exact⟨hv1,Sx,λa ha b hb e=>by rw[Qu]at hb;subst hb;subst e;exact hiv ha⟩
   have n2:∀x∈vis++[i],x<L.length:=λx hx=>by
    rcases List.mem_append.1 hx with hx|hx
    .exact hv2 x hx
    .rw[Qu.1 hx];exact hil
   have n3:left-sn.length=d.room-((vis++[i]).map sa).sum:=by
    rw[List.map_append,List.sum_append,hv3];simp[hsa];omega
   have n4:=q4c n1 n2;rw[Zd,List.length_singleton]at n4;have n5:L.length-(vis++[i]).length<L.length-vis.length:=So
   repeat' (first|apply Qb|(intro h;try exact cDd)|(refine qae (id:=6) ?_)|(refine v6 [] ?_)|(refine locX (q8y (n:=6) (q:=7) (v1:=.a (.v (keyS nm))) (v2:=.i j) rfl rfl hi (λ_=>rfl) (λ_=>rfl) ?_))|(refine locK ?_)|(refine Qa (j) ⟨Om,_,hptr,?_⟩)|exact⟨Tryz.call72⟩|(refine Qa _ ⟨qhy (q:=5) hsn np rfl,?_⟩)|(refine Qa (vis++[i],left-sn.length) ⟨⟨n1,n2,n3⟩,n5,entE [(0,0),(1,1),(2,2),(3,3),(4,4),(5,5),(6,6),(7,7),(8,8)] ?_⟩)|exact cSd|apply qb []|refine exr ?_|refine qf ?_)
   all_goals first|assumption|rfl|omega|exact n2 _ (by assumption)|(simp;done)
@[reducible] def pwrN (u l : Int) (a g : Bool) (room : Int) (os : List Nat) (sure : List (qa × Int)) (acts : List ActV) : List (Nat × Option SR) :=
  [(0,some (.cells 91 [.i u,.i l,.b a,.b g,.i room,.tp 1,.tp 2,.a zf,.tp 3])),
   (1,some (.tip 1 94 (qde os))),
   (2,some (.obj (mapP (sure.map (kvM keyS))))),
   (3,some (.tip 5 67 (acts.map actA)))]
@[reducible] def didN (u l : Int) (a g : Bool) (room : Int) (os : List Nat) (sure : List (qa × Int)) (acts : List ActV) (x : ActV) : List (Nat × Option SR) :=
  [(0,some (.cells 91 [.i u,.i l,.b a,.b g,.i room,.tp 1,.tp 2,.a zf,.tp 4])),
   (1,some (.tip 1 94 (qde os))),
   (2,some (.obj (mapP (sure.map (kvM keyS))))),
   (4,some (.tip 5 67 ((acts++[x]).map actA)))]
theorem zbk(u l:Int)(a g:Bool)(room:Int)(os:List Nat)(sure:List (qa×Int))(acts:List ActV)(x:ActV)(hd:acts.length<=1000000):qz E 70 [.bx 0 0,.ag [.i x.kind,.s x.name,.s x.other,.s x.bytes,.i x.pos]] 4 (hpF (pwrN u l a g room os sure acts)) ⟨.a (.tu []),q8 (pwrN u l a g room os sure acts),didN u l a g room os sure acts x++q9 (pwrN u l a g room os sure acts),5⟩:=by
 refine je [.bx 0 0,.ag [.i x.kind,.s x.name,.s x.other,.s x.bytes,.i x.pos]] (pwrN u l a g room os sure acts) 4 _ (didN u l a g room os sure acts x) 5 Tryz.func70 rfl rfl rfl rfl λS F ρ=>?_;have bf:(acts.map actA).length=acts.length:=Sx
 have hms:(acts++[x]).map actA=acts.map actA++[actA x]:=Sx
 apply qd [];repeat' (first|apply Qb|(intro h;try exact cDd)|exact cSd|apply qb []|refine exr ?_|refine qf ?_)
 all_goals first|rfl|(rw[hms];done)|omega|assumption|(simp;done)
set_option maxHeartbeats 4000000 in
theorem qmb(d:qc)(o:Nat)(hd:d.Bd 900000):qz E 31 [.a (.bx o 0 0)] 1 (hpF (dH d o)) ⟨.a (errA d.syncDir.1),q8 (dH d o),dH1 d.syncDir.2 o++q9 (dH d o),2⟩:=by
 have o0:=hd.mono (show 900000<=1000000 by omega);have ha:=λos=>q29 d os [] Sx (λx hx=>by simp at hx);by_cases hf:d.asked []=.no
 .rw[hf]at ha
  have d9:=λos=>qo0 d os o0;obtain⟨m,u2,l2,g2,s6⟩:=qgv d 1;rw[s6]at d9;simp only at d9;by_cases hm:m<1
  .have e:d.syncDir=(.num 3,⟨u2,l2,d.armed,g2,d.room,d.files,d.sure,d.waits,d.acts⟩):=by
    unfold qc.syncDir;rw[if_neg (by simp[hf])];rw[s6];simp[hm]
   rw[if_pos hm]at d9;rw[e];refine j7 (o:=o) (hp:=zy d) (hp':=zy (⟨u2,l2,d.armed,g2,d.room,d.files,d.sure,d.waits,d.acts⟩:qc)) (Pr:=z7 d) (Pr':=z7 (⟨u2,l2,d.armed,g2,d.room,d.files,d.sure,d.waits,d.acts⟩:qc)) [.bx o 0 0] [.bx 0 0] 6 6 (.a (errA (.num 3))) (errA (.num 3)) Tryz.func31 rfl rfl rfl (λρ h=>by simp[SV.evs,SV.ev,h,bxAt]) rfl (λ_=>rfl) (λ_=>rfl) (λ_=>rfl) λos S F ρ o8=>?_;have h1:=ha os;have h2:=d9 os;apply qd [];repeat' (first|apply Qb|(intro h;try exact cDd)|exact⟨Tryz.call73⟩|(refine qx h1 ?_)|exact⟨Tryz.call69⟩|(refine qx h2 ?_)|(refine Qa os ⟨?_,fin0 (entP [(0,0),(5,5)] ?_)⟩)|exact cSd|apply qb []|refine exr ?_|refine qf ?_)
   all_goals first|assumption|rfl|omega|exact kw o6 _ _ _ h|exact b9|(simp;done)
  .have e:d.syncDir=(.no,⟨u2,l2,d.armed,g2,d.room,d.files,d.dir,([]:List xi),d.acts++[(⟨7,[],[],[],0⟩:ActV)]⟩):=by
    unfold qc.syncDir;rw[if_neg (by simp[hf])];rw[s6];simp[hm,qc.did];rfl
   rw[if_neg hm]at d9;rw[e];have hdr:=λos=>qsz ⟨u2,l2,d.armed,g2,d.room,d.files,d.sure,d.waits,d.acts⟩ os (by have:=hd.spend (n:=1) (k:=1) Om Om;rw[s6]at this;exact this.mono Om);have tv:=λos=>zbk u2 l2 d.armed g2 d.room os d.dir d.acts ⟨7,[],[],[],0⟩ (by have:=hd.al;omega);refine j7 (o:=o) (hp:=zy d) (hp':=zy (⟨u2,l2,d.armed,g2,d.room,d.files,d.dir,([]:List xi),d.acts++[(⟨7,[],[],[],0⟩:ActV)]⟩:qc)) (Pr:=z7 d) (Pr':=z7 (⟨u2,l2,d.armed,g2,d.room,d.files,d.dir,([]:List xi),d.acts++[(⟨7,[],[],[],0⟩:ActV)]⟩:qc)) [.bx o 0 0] [.bx 0 0] 6 6 (.a (errA .no)) (errA .no) Tryz.func31 rfl rfl rfl (λρ h=>by simp[SV.evs,SV.ev,h,bxAt]) rfl (λ_=>rfl) (λ_=>rfl) (λ_=>rfl) λos S F ρ o8=>?_;have h1:=ha os;have h2:=d9 os;have h3:=hdr os;have h4:=tv os;apply qd [];repeat' (first|apply Qb|(intro h;try exact cDd)|exact⟨Tryz.call73⟩|(refine qx h1 ?_)|exact⟨Tryz.call69⟩|(refine qx h2 ?_)|exact⟨Tryz.call62⟩|(refine qx h3 ?_)|exact⟨Tryz.call70⟩|(refine qx h4 ?_)|(refine Qa os ⟨?_,fin0 (entP [(0,0),(5,5)] ?_)⟩)|exact cSd|apply qb []|refine exr ?_|refine qf ?_)
   all_goals first|assumption|rfl|omega|exact kw o6 _ _ _ h|exact b9|(simp;done)
 .have hg:d.asked []=.num 3:=by
   unfold qc.asked at hf⊢;simp at hf⊢;exact hf
  have e:d.syncDir=(.num 3,d):=by
   unfold qc.syncDir;rw[if_pos hf,hg]
  rw[hg]at ha;rw[e];refine j7 (o:=o) (hp:=zy d) (hp':=zy (d:qc)) (Pr:=z7 d) (Pr':=z7 (d:qc)) [.bx o 0 0] [.bx 0 0] 6 6 (.a (errA (.num 3))) (errA (.num 3)) Tryz.func31 rfl rfl rfl (λρ h=>by simp[SV.evs,SV.ev,h,bxAt]) rfl (λ_=>rfl) (λ_=>rfl) (λ_=>rfl) λos S F ρ o8=>?_;have h1:=ha os;apply qd [];repeat' (first|apply Qb|(intro h;try exact cDd)|exact⟨Tryz.call73⟩|(refine qx h1 ?_)|(refine Qa os ⟨?_,fin0 (entP [(0,0),(5,5)] ?_)⟩)|exact cSd|apply qb []|refine exr ?_|refine qf ?_)
  all_goals first|assumption|rfl|omega|exact kw o6 _ _ _ h|exact b9|(simp;done)
set_option maxHeartbeats 4000000 in
theorem qv3(d:qc)(o:Nat)(n:qa)(hd:d.Bd 900000)(hn:n.length<1000000):qz E 28 [.a (.bx o 0 0),.s n] 1 (hpF (dH d o)) ⟨.a (errA (d.create n).1),q8 (dH d o),dH1 (d.create n).2 o++q9 (dH d o),2⟩:=by
 have o0:=hd.mono (show 900000<=1000000 by omega);rcases qii d n with⟨hf,e1,e2,e3⟩|⟨e1,e2,e3⟩|⟨k,k7,e2,e3⟩
 .have e:d.create n=(.num 12,d):=by unfold qc.create;rw[if_pos hf]
  rw[e];refine j7 (o:=o) (hp:=zy d) (hp':=zy (d:qc)) (Pr:=z7 d) (Pr':=z7 (d:qc)) [.bx o 0 0,Sv n] [.bx 0 0,.s n] 6 6 (.a (errA (.num 12))) (errA (.num 12)) Tryz.func28 rfl rfl rfl (λρ h=>by simp[SV.evs,SV.ev,h,bxAt]) rfl (λ_=>rfl) (λ_=>rfl) (λ_=>rfl) λos S F ρ o8=>?_;obtain⟨oo,bj⟩:=yf o0 o8 hf;have h1:=xl d os n oo o0 hn hf bj;apply qd [];repeat' (first|apply Qb|(intro h;try exact cDd)|exact⟨Tryz.call68⟩|(refine qx h1 ?_)|(refine Qa os ⟨?_,fin0 (entP [(0,0),(5,5)] ?_)⟩)|exact cSd|apply qb []|refine exr ?_|refine qf ?_)
  all_goals first|assumption|rfl|omega|exact kw o6 _ _ _ h|exact b9|(simp;done)
 .have h0:=λos=>qe6 d os n o0 hn (by rw[e3];simp)
  rw[e3]at h0;have d9:=λos=>qo0 d os o0;obtain⟨m,u2,l2,g2,s6⟩:=qgv d 1;rw[s6]at d9;simp only at d9;by_cases hm:m<1
  .have e:d.create n=(.num 3,⟨u2,l2,d.armed,g2,d.room,d.files,d.sure,d.waits,d.acts⟩):=by
    unfold qc.create;rw[e3,s6];simp[hm]
   rw[if_pos hm]at d9;rw[e];refine j7 (o:=o) (hp:=zy d) (hp':=zy (⟨u2,l2,d.armed,g2,d.room,d.files,d.sure,d.waits,d.acts⟩:qc)) (Pr:=z7 d) (Pr':=z7 (⟨u2,l2,d.armed,g2,d.room,d.files,d.sure,d.waits,d.acts⟩:qc)) [.bx o 0 0,Sv n] [.bx 0 0,.s n] 6 6 (.a (errA (.num 3))) (errA (.num 3)) Tryz.func28 rfl rfl rfl (λρ h=>by simp[SV.evs,SV.ev,h,bxAt]) rfl (λ_=>rfl) (λ_=>rfl) (λ_=>rfl) λos S F ρ o8=>?_;have h1:=h0 os;have h2:=d9 os;apply qd [];repeat' (first|apply Qb|(intro h;try exact cDd)|(refine q5s rfl (λ_=>rfl) rfl (λ_=>rfl) rfl rfl rfl ?_)|exact⟨Tryz.call68⟩|(refine qx h1 ?_)|exact⟨Tryz.call69⟩|(refine qx h2 ?_)|(refine Qa os ⟨?_,fin0 (entP [(0,0),(5,5)] ?_)⟩)|exact cSd|apply qb []|refine exr ?_|refine qf ?_)
   all_goals first|assumption|rfl|omega|exact kw o6 _ _ _ h|exact b9|(simp;done)
  .have e:d.create n=(.no,⟨u2,l2,d.armed,g2,d.room,d.files++[(⟨[],[]⟩:zj)],d.sure,d.waits++[(⟨n,[],(d.files.length:Int)⟩:xi)],d.acts++[(⟨1,n,[],[],0⟩:ActV)]⟩):=by
    unfold qc.create;rw[e3,s6];simp[hm,qc.did]
   rw[if_neg hm]at d9;rw[e];have hwl:=hd.wl;have r6:=hd.fl;have hwm:(d.waits.map qaa).length=d.waits.length:=Sx
   refine j7 (o:=o) (hp:=zy d) (hp':=zy (⟨u2,l2,d.armed,g2,d.room,d.files++[(⟨[],[]⟩:zj)],d.sure,d.waits++[(⟨n,[],(d.files.length:Int)⟩:xi)],d.acts++[(⟨1,n,[],[],0⟩:ActV)]⟩:qc)) (Pr:=z7 d) (Pr':=z7 (⟨u2,l2,d.armed,g2,d.room,d.files++[(⟨[],[]⟩:zj)],d.sure,d.waits++[(⟨n,[],(d.files.length:Int)⟩:xi)],d.acts++[(⟨1,n,[],[],0⟩:ActV)]⟩:qc)) [.bx o 0 0,Sv n] [.bx 0 0,.s n] 6 6 (.a (errA .no)) (errA .no) Tryz.func28 rfl rfl rfl (λρ h=>by simp[SV.evs,SV.ev,h,bxAt]) rfl (λ_=>rfl) (λ_=>rfl) (λ_=>rfl) λos S F ρ o8=>?_;have h1:=h0 os;have h2:=d9 os;have tv:=λoo=>qpf ⟨u2,l2,d.armed,g2,d.room,d.files,d.sure,d.waits++[(⟨n,[],(d.files.length:Int)⟩:xi)],d.acts⟩ (os++[oo]) ⟨1,n,[],[],0⟩ (by have:=hd.al;simp only;omega);have gm:(qde os).length=d.files.length:=by simp[o8]
   have hpq:=λoo=>q9p oo o8;have hos2:os.length=d.files.length:=o8;have lk:∀oo:Nat,(os++[oo]).length=(d.files++[(⟨[],[]⟩:zj)]).length:=λoo=>by simp[hos2]
   apply jp;repeat' (first|apply Qb|(intro h;try exact cDd)|(refine qjv (id:=10) ?_)|(refine q5s rfl (λ_=>rfl) rfl (λ_=>rfl) rfl rfl rfl ?_)|(refine v6 [] ?_)|(refine zcx (f:=[Sv []]) 5 [] rfl (λ_=>rfl) rfl rfl rfl ?_;intro oo)|(refine qol (locK ?_))|exact⟨Tryz.call68⟩|(refine qx h1 ?_)|exact⟨Tryz.call69⟩|(refine qx h2 ?_)|exact⟨Tryz.call70⟩|(refine qx (tv oo) ?_)|(refine Qa (os++[oo]) ⟨?_,fin0 (entP [(0,0),(5,7)] ?_)⟩)|exact cSd|apply qb []|refine exr ?_|refine qf ?_)
   all_goals first|assumption|rfl|omega|exact kw (hpq _) _ _ _ h|exact lk _|(simp;omega)|(simp;done)
 .have hf:(d.file n).1≠.no:=by rw[e3];simp
  have e:d.create n=(.num k,d):=by
   unfold qc.create;rw[if_neg hf,e3,if_pos (by simp[k7])]
  have h0:=λos=>qe6 d os n o0 hn hf;rw[e3]at h0;rw[e];refine j7 (o:=o) (hp:=zy d) (hp':=zy (d:qc)) (Pr:=z7 d) (Pr':=z7 (d:qc)) [.bx o 0 0,Sv n] [.bx 0 0,.s n] 6 6 (.a (errA (.num k))) (errA (.num k)) Tryz.func28 rfl rfl rfl (λρ h=>by simp[SV.evs,SV.ev,h,bxAt]) rfl (λ_=>rfl) (λ_=>rfl) (λ_=>rfl) λos S F ρ o8=>?_;have h1:=h0 os;apply qd [];repeat' (first|apply Qb|(intro h;try exact cDd)|(refine q5s rfl (λ_=>rfl) rfl (λ_=>rfl) rfl rfl rfl ?_)|exact⟨Tryz.call68⟩|(refine qx h1 ?_)|(refine Qa os ⟨?_,fin0 (entP [(0,0),(5,5)] ?_)⟩)|exact cSd|apply qb []|refine exr ?_|refine qf ?_)
  all_goals first|assumption|rfl|omega|exact absurd (by assumption) k7|exact absurd h k7|(simp;done)
set_option maxHeartbeats 4000000 in
theorem quz(d:qc)(o:Nat)(n:qa)(hd:d.Bd 900000)(hn:n.length<1000000):qz E 36 [.a (.bx o 0 0),.s n] 1 (hpF (dH d o)) ⟨.tu [.s (d.read n).2,.a (errA (d.read n).1)],q8 (dH d o),dH1 d o++q9 (dH d o),2⟩:=by
 have o0:=hd.mono (show 900000<=1000000 by omega);have hdn:=λos=>zhj d os
 cases hg:d.gone with
 |true=>
  have e:d.read n=(.num 3,[]):=by unfold qc.read;rw[if_pos hg]
  rw[hg]at hdn;rw[e];refine j7 (o:=o) (hp:=zy d) (hp':=zy (d:qc)) (Pr:=z7 d) (Pr':=z7 (d:qc)) [.bx o 0 0,Sv n] [.bx 0 0,.s n] 6 6 (.tu [.s [],.a (errA (.num 3))]) (.tu [Sv [],errA (.num 3)]) Tryz.func36 rfl rfl rfl (λρ h=>by simp[SV.evs,SV.ev,h,bxAt]) rfl (λ_=>rfl) (λ_=>rfl) (λ_=>rfl) λos S F ρ o8=>?_;have h1:=hdn os;apply qd [];repeat' (first|apply Qb|(intro h;try exact cDd)|exact⟨Tryz.call76⟩|(refine qx h1 ?_)|(refine Qa os ⟨?_,fin0 (entP [(0,0),(5,5)] ?_)⟩)|exact cSd|apply qb []|refine exr ?_|refine qf ?_)
  all_goals first|assumption|rfl|omega|exact kw o6 _ _ _ h|exact b9|(simp;done)
 |false=>
  rw[hg]at hdn;by_cases hf:(d.file n).1=.no
  .have e:d.read n=(.no,(d.at (d.file n).2).seen):=by unfold qc.read;rw[if_neg (by simp[hg]),if_neg (by simp[hf])]
   rw[e];refine j7 (o:=o) (hp:=zy d) (hp':=zy (d:qc)) (Pr:=z7 d) (Pr':=z7 (d:qc)) [.bx o 0 0,Sv n] [.bx 0 0,.s n] 6 6 (.tu [.s (d.at (d.file n).2).seen,.a (errA .no)]) (.tu [Sv (d.at (d.file n).2).seen,errA .no]) Tryz.func36 rfl rfl rfl (λρ h=>by simp[SV.evs,SV.ev,h,bxAt]) rfl (λ_=>rfl) (λ_=>rfl) (λ_=>rfl) λos S F ρ o8=>?_;obtain⟨oo,bj⟩:=yf o0 o8 hf;have h1:=xl d os n oo o0 hn hf bj;obtain⟨_,_,_⟩:=hd.dir1;have gk:0<=(d.file n).2∧(d.file n).2<d.files.length:=o0.ok.file hf;obtain⟨oj,f,oa,ob,fa,fb,q1,q2,q3,q4,q5,q6⟩:=qam o8 (i:=(d.file n).2.toNat) Om;obtain rfl:oj=oo:=by rw[q5]at bj;exact Qi bj
   have np:pmsD os d.files=pmsD oa fa++⟨oj,[Sv f.sure],f.waits.map vm⟩::pmsD ob fb:=by
    rw[q1,q2];exact w7 Om
   have gc:d.at (d.file n).2=f:=by
    unfold qc.at;rw[Qc,q6];rfl
   have dt:=hd.at (d.file n).2;rw[gc]at dt
   have o6:∀g:zj,pmsD os (d.files.set (d.file n).2.toNat g)=pmsD oa fa++⟨oj,[Sv g.sure],g.waits.map vm⟩::pmsD ob fb:=λg=>by
    have:d.files.set (d.file n).2.toNat g=fa++g::fb:=by
     rw[q2,<-q4,Qg _ _ (Qh _),Qk];rfl
    rw[this,q1];exact w7 Om
   have h2:=hdn os;have h4:=qpi f.sure f.waits (dt.mono Om);have rl:f.seen=km f.sure f.waits (-1):=rfl;rw[gc,rl];generalize km f.sure f.waits (-1)=sn at *;apply qd [];repeat' (first|apply Qb|(intro h;try exact cDd)|exact⟨Tryz.call76⟩|(refine qx h2 ?_)|exact⟨Tryz.call68⟩|(refine qx h1 ?_)|exact⟨Tryz.call72⟩|(refine Qa _ ⟨qhy (q:=5) h4 np rfl,?_⟩)|(refine Qa os ⟨?_,fin0 (entP [(0,0),(5,5)] ?_)⟩)|exact cSd|apply qb []|refine exr ?_|refine qf ?_)
   all_goals first|assumption|rfl|omega|exact kw o6 _ _ _ h|exact b9|(simp;done)
  .obtain⟨k,hk⟩:=qgl hf
   have e:d.read n=(.num k,[]):=by unfold qc.read;rw[if_neg (by simp[hg]),if_pos hf,hk]
   have h0:=λos=>qe6 d os n o0 hn hf;rw[hk]at h0;rw[e];refine j7 (o:=o) (hp:=zy d) (hp':=zy (d:qc)) (Pr:=z7 d) (Pr':=z7 (d:qc)) [.bx o 0 0,Sv n] [.bx 0 0,.s n] 6 6 (.tu [.s [],.a (errA (.num k))]) (.tu [Sv [],errA (.num k)]) Tryz.func36 rfl rfl rfl (λρ h=>by simp[SV.evs,SV.ev,h,bxAt]) rfl (λ_=>rfl) (λ_=>rfl) (λ_=>rfl) λos S F ρ o8=>?_;have h1:=h0 os;have h2:=hdn os;apply qd [];repeat' (first|apply Qb|(intro h;try exact cDd)|exact⟨Tryz.call76⟩|(refine qx h2 ?_)|exact⟨Tryz.call68⟩|(refine qx h1 ?_)|(refine Qa os ⟨?_,fin0 (entP [(0,0),(5,5)] ?_)⟩)|exact cSd|apply qb []|refine exr ?_|refine qf ?_)
   all_goals first|assumption|rfl|omega|exact kw o6 _ _ _ h|exact b9|(simp;done)
set_option maxHeartbeats 4000000 in
theorem qza(d:qc)(o:Nat)(n t:qa)(hd:d.Bd 900000)(hn:n.length<1000000)(ht:t.length<1000000):qz E 29 [.a (.bx o 0 0),.s n,.s t] 1 (hpF (dH d o)) ⟨.a (errA (d.write n t).1),q8 (dH d o),dH1 (d.write n t).2 o++q9 (dH d o),2⟩:=by
 have o0:=hd.mono (show 900000<=1000000 by omega);by_cases hf:(d.file n).1=.no
 .have t6:=λos o8=>zho d os o8 o0
  by_cases hw:d.free<t.length
  .have e:d.write n t=(.num 4,d):=by
    unfold qc.write;rw[if_neg (by simp[hf]),if_pos hw]
   rw[e];refine j7 (o:=o) (hp:=zy d) (hp':=zy (d:qc)) (Pr:=z7 d) (Pr':=z7 (d:qc)) [.bx o 0 0,Sv n,Sv t] [.bx 0 0,.s n,.s t] 6 6 (.a (errA (.num 4))) (errA (.num 4)) Tryz.func29 rfl rfl rfl (λρ h=>by simp[SV.evs,SV.ev,h,bxAt]) rfl (λ_=>rfl) (λ_=>rfl) (λ_=>rfl) λos S F ρ o8=>?_;obtain⟨oo,bj⟩:=yf o0 o8 hf;have h1:=xl d os n oo o0 hn hf bj;have h2:=t6 os o8;generalize d.free=fr at *;apply qd [];repeat' (first|apply Qb|(intro h;try exact cDd)|exact⟨Tryz.call68⟩|(refine qx h1 ?_)|exact⟨Tryz.call33⟩|(refine Qa _ ⟨qlc h2 ⟨rfl,rfl,rfl,rfl,rfl,rfl,trivial⟩,?_⟩)|(refine Qa os ⟨?_,fin0 (entP [(0,0),(5,5)] ?_)⟩)|exact cSd|apply qb []|refine exr ?_|refine qf ?_)
   all_goals first|assumption|rfl|omega|exact kw o6 _ _ _ h|exact b9|(simp;done)
  .have hsp0:=λos=>q36 d os t.length Om Om o0
   obtain⟨s0,s1⟩:=qrw (d:=d) (n:=(t.length:Int)) Om hd.l0;obtain⟨m,u2,l2,g2,s6⟩:=qgv d t.length;rw[s6]at hsp0 s0 s1;simp only at hsp0 s0 s1;by_cases hp:0<m
   .by_cases hl:m<t.length
    .skip
     have e:d.write n t=(.num 3,⟨u2,l2,d.armed,g2,d.room,d.files.set (d.file n).2.toNat (⟨(d.at (d.file n).2).sure,(d.at (d.file n).2).waits++[(⟨t.take m.toNat,0,false⟩:kz)]⟩:zj),d.sure,d.waits,d.acts++[(⟨2,n,[],t.take m.toNat,0⟩:ActV)]⟩):=by
      unfold qc.write;rw[if_neg (by simp[hf]),if_neg hw,s6];simp[hp,hl,qc.did,qc.with,qc.at]
     rw[e];have tv:=λos=>qpf ⟨u2,l2,d.armed,g2,d.room,d.files,d.sure,d.waits,d.acts⟩ os ⟨2,n,[],t.take m.toNat,0⟩ (by have:=hd.al;simp only;omega);refine j7 (o:=o) (hp:=zy d) (hp':=zy (⟨u2,l2,d.armed,g2,d.room,d.files.set (d.file n).2.toNat (⟨(d.at (d.file n).2).sure,(d.at (d.file n).2).waits++[(⟨t.take m.toNat,0,false⟩:kz)]⟩:zj),d.sure,d.waits,d.acts++[(⟨2,n,[],t.take m.toNat,0⟩:ActV)]⟩:qc)) (Pr:=z7 d) (Pr':=z7 (⟨u2,l2,d.armed,g2,d.room,d.files.set (d.file n).2.toNat (⟨(d.at (d.file n).2).sure,(d.at (d.file n).2).waits++[(⟨t.take m.toNat,0,false⟩:kz)]⟩:zj),d.sure,d.waits,d.acts++[(⟨2,n,[],t.take m.toNat,0⟩:ActV)]⟩:qc)) [.bx o 0 0,Sv n,Sv t] [.bx 0 0,.s n,.s t] 6 6 (.a (errA (.num 3))) (errA (.num 3)) Tryz.func29 rfl rfl rfl (λρ h=>by simp[SV.evs,SV.ev,h,bxAt]) rfl (λ_=>rfl) (λ_=>rfl) (λ_=>rfl) λos S F ρ o8=>?_;obtain⟨oo,bj⟩:=yf o0 o8 hf;have h1:=xl d os n oo o0 hn hf bj;obtain⟨_,_,_⟩:=hd.dir1;have gk:0<=(d.file n).2∧(d.file n).2<d.files.length:=o0.ok.file hf;obtain⟨oj,f,oa,ob,fa,fb,q1,q2,q3,q4,q5,q6⟩:=qam o8 (i:=(d.file n).2.toNat) Om;obtain rfl:oj=oo:=by rw[q5]at bj;exact Qi bj
     have np:pmsD os d.files=pmsD oa fa++⟨oj,[Sv f.sure],f.waits.map vm⟩::pmsD ob fb:=by
      rw[q1,q2];exact w7 Om
     have gc:d.at (d.file n).2=f:=by
      unfold qc.at;rw[Qc,q6];rfl
     have dt:=hd.at (d.file n).2;rw[gc]at dt
     have o6:∀g:zj,pmsD os (d.files.set (d.file n).2.toNat g)=pmsD oa fa++⟨oj,[Sv g.sure],g.waits.map vm⟩::pmsD ob fb:=λg=>by
      have:d.files.set (d.file n).2.toNat g=fa++g::fb:=by
       rw[q2,<-q4,Qg _ _ (Qh _),Qk];rfl
      rw[this,q1];exact w7 Om
     have o6:=o6 ⟨(d.at (d.file n).2).sure,(d.at (d.file n).2).waits++[(⟨t.take m.toNat,0,false⟩:kz)]⟩;have b9:os.length=(d.files.set (d.file n).2.toNat (⟨(d.at (d.file n).2).sure,(d.at (d.file n).2).waits++[(⟨t.take m.toNat,0,false⟩:kz)]⟩:zj)).length:=by rw[Qs];exact o8
     have hfw:=dt.wl;rw[gc]at o6 b9⊢;have o6:pmsD os (d.files.set (d.file n).2.toNat (⟨f.sure,f.waits++[(⟨t.take m.toNat,0,false⟩:kz)]⟩:zj))=pmsD oa fa++⟨oj,[Sv f.sure],f.waits.map vm++[vm ⟨t.take m.toNat,0,false⟩]⟩::pmsD ob fb:=by rw[o6];simp
     have hwl:(f.waits.map vm).length=f.waits.length:=Sx
     have h2:=t6 os o8;have h3:=hsp0 os;have h4:=tv os;generalize d.free=fr at *;apply jp;repeat' (first|apply Qb|(intro h;try exact cDd)|(refine qix 8 5 7 [.s f.sure] (congrArg (λx=>some (SR.clu (pool _ _ _ x) [])) np) rfl (λ_=>rfl) rfl ?_)|(refine v6 [] ?_)|(refine Qa m.toNat ⟨Om,Om,?_⟩)|exact⟨Tryz.call68⟩|(refine qx h1 ?_)|exact⟨Tryz.call71⟩|(refine qx h3 ?_)|exact⟨Tryz.call70⟩|(refine qx h4 ?_)|exact⟨Tryz.call33⟩|(refine Qa _ ⟨qlc h2 ⟨rfl,rfl,rfl,rfl,rfl,rfl,trivial⟩,?_⟩)|(refine Qa os ⟨?_,finU (f:=[Sv f.sure]) 6 9 8 [.s f.sure] rfl rfl rfl rfl (λ_=>rfl) (entP [(0,0),(5,11)] ?_)⟩)|exact cSd|apply qb []|refine exr ?_|refine qf ?_)
     all_goals first|assumption|rfl|omega|exact kw o6 _ _ _ h|exact b9|(simp;done)
    .skip
     have e:d.write n t=(.no,⟨u2,l2,d.armed,g2,d.room,d.files.set (d.file n).2.toNat (⟨(d.at (d.file n).2).sure,(d.at (d.file n).2).waits++[(⟨t.take m.toNat,0,false⟩:kz)]⟩:zj),d.sure,d.waits,d.acts++[(⟨2,n,[],t.take m.toNat,0⟩:ActV)]⟩):=by
      unfold qc.write;rw[if_neg (by simp[hf]),if_neg hw,s6];simp[hp,hl,qc.did,qc.with,qc.at]
     rw[e];have tv:=λos=>qpf ⟨u2,l2,d.armed,g2,d.room,d.files,d.sure,d.waits,d.acts⟩ os ⟨2,n,[],t.take m.toNat,0⟩ (by have:=hd.al;simp only;omega);refine j7 (o:=o) (hp:=zy d) (hp':=zy (⟨u2,l2,d.armed,g2,d.room,d.files.set (d.file n).2.toNat (⟨(d.at (d.file n).2).sure,(d.at (d.file n).2).waits++[(⟨t.take m.toNat,0,false⟩:kz)]⟩:zj),d.sure,d.waits,d.acts++[(⟨2,n,[],t.take m.toNat,0⟩:ActV)]⟩:qc)) (Pr:=z7 d) (Pr':=z7 (⟨u2,l2,d.armed,g2,d.room,d.files.set (d.file n).2.toNat (⟨(d.at (d.file n).2).sure,(d.at (d.file n).2).waits++[(⟨t.take m.toNat,0,false⟩:kz)]⟩:zj),d.sure,d.waits,d.acts++[(⟨2,n,[],t.take m.toNat,0⟩:ActV)]⟩:qc)) [.bx o 0 0,Sv n,Sv t] [.bx 0 0,.s n,.s t] 6 6 (.a (errA .no)) (errA .no) Tryz.func29 rfl rfl rfl (λρ h=>by simp[SV.evs,SV.ev,h,bxAt]) rfl (λ_=>rfl) (λ_=>rfl) (λ_=>rfl) λos S F ρ o8=>?_;obtain⟨oo,bj⟩:=yf o0 o8 hf;have h1:=xl d os n oo o0 hn hf bj;obtain⟨_,_,_⟩:=hd.dir1;have gk:0<=(d.file n).2∧(d.file n).2<d.files.length:=o0.ok.file hf;obtain⟨oj,f,oa,ob,fa,fb,q1,q2,q3,q4,q5,q6⟩:=qam o8 (i:=(d.file n).2.toNat) Om;obtain rfl:oj=oo:=by rw[q5]at bj;exact Qi bj
     have np:pmsD os d.files=pmsD oa fa++⟨oj,[Sv f.sure],f.waits.map vm⟩::pmsD ob fb:=by
      rw[q1,q2];exact w7 Om
     have gc:d.at (d.file n).2=f:=by
      unfold qc.at;rw[Qc,q6];rfl
     have dt:=hd.at (d.file n).2;rw[gc]at dt
     have o6:∀g:zj,pmsD os (d.files.set (d.file n).2.toNat g)=pmsD oa fa++⟨oj,[Sv g.sure],g.waits.map vm⟩::pmsD ob fb:=λg=>by
      have:d.files.set (d.file n).2.toNat g=fa++g::fb:=by
       rw[q2,<-q4,Qg _ _ (Qh _),Qk];rfl
      rw[this,q1];exact w7 Om
     have o6:=o6 ⟨(d.at (d.file n).2).sure,(d.at (d.file n).2).waits++[(⟨t.take m.toNat,0,false⟩:kz)]⟩;have b9:os.length=(d.files.set (d.file n).2.toNat (⟨(d.at (d.file n).2).sure,(d.at (d.file n).2).waits++[(⟨t.take m.toNat,0,false⟩:kz)]⟩:zj)).length:=by rw[Qs];exact o8
     have hfw:=dt.wl;rw[gc]at o6 b9⊢;have o6:pmsD os (d.files.set (d.file n).2.toNat (⟨f.sure,f.waits++[(⟨t.take m.toNat,0,false⟩:kz)]⟩:zj))=pmsD oa fa++⟨oj,[Sv f.sure],f.waits.map vm++[vm ⟨t.take m.toNat,0,false⟩]⟩::pmsD ob fb:=by rw[o6];simp
     have hwl:(f.waits.map vm).length=f.waits.length:=Sx
     have h2:=t6 os o8;have h3:=hsp0 os;have h4:=tv os;generalize d.free=fr at *;apply jp;repeat' (first|apply Qb|(intro h;try exact cDd)|(refine qix 8 5 7 [.s f.sure] (congrArg (λx=>some (SR.clu (pool _ _ _ x) [])) np) rfl (λ_=>rfl) rfl ?_)|(refine v6 [] ?_)|(refine Qa m.toNat ⟨Om,Om,?_⟩)|exact⟨Tryz.call68⟩|(refine qx h1 ?_)|exact⟨Tryz.call71⟩|(refine qx h3 ?_)|exact⟨Tryz.call70⟩|(refine qx h4 ?_)|exact⟨Tryz.call33⟩|(refine Qa _ ⟨qlc h2 ⟨rfl,rfl,rfl,rfl,rfl,rfl,trivial⟩,?_⟩)|(refine Qa os ⟨?_,finU (f:=[Sv f.sure]) 6 9 8 [.s f.sure] rfl rfl rfl rfl (λ_=>rfl) (entP [(0,0),(5,11)] ?_)⟩)|exact cSd|apply qb []|refine exr ?_|refine qf ?_)
     all_goals first|assumption|rfl|omega|exact kw o6 _ _ _ h|exact b9|(simp;done)
   .by_cases hl:m<t.length
    .skip
     have e:d.write n t=(.num 3,⟨u2,l2,d.armed,g2,d.room,d.files,d.sure,d.waits,d.acts⟩):=by
      unfold qc.write;rw[if_neg (by simp[hf]),if_neg hw,s6];simp[hp,hl]
     rw[e];refine j7 (o:=o) (hp:=zy d) (hp':=zy (⟨u2,l2,d.armed,g2,d.room,d.files,d.sure,d.waits,d.acts⟩:qc)) (Pr:=z7 d) (Pr':=z7 (⟨u2,l2,d.armed,g2,d.room,d.files,d.sure,d.waits,d.acts⟩:qc)) [.bx o 0 0,Sv n,Sv t] [.bx 0 0,.s n,.s t] 6 6 (.a (errA (.num 3))) (errA (.num 3)) Tryz.func29 rfl rfl rfl (λρ h=>by simp[SV.evs,SV.ev,h,bxAt]) rfl (λ_=>rfl) (λ_=>rfl) (λ_=>rfl) λos S F ρ o8=>?_;obtain⟨oo,bj⟩:=yf o0 o8 hf;have h1:=xl d os n oo o0 hn hf bj;have h2:=t6 os o8;have h3:=hsp0 os;generalize d.free=fr at *;apply qd [];repeat' (first|apply Qb|(intro h;try exact cDd)|exact⟨Tryz.call68⟩|(refine qx h1 ?_)|exact⟨Tryz.call71⟩|(refine qx h3 ?_)|exact⟨Tryz.call33⟩|(refine Qa _ ⟨qlc h2 ⟨rfl,rfl,rfl,rfl,rfl,rfl,trivial⟩,?_⟩)|(refine Qa os ⟨?_,fin0 (entP [(0,0),(5,5)] ?_)⟩)|exact cSd|apply qb []|refine exr ?_|refine qf ?_)
     all_goals first|assumption|rfl|omega|exact kw o6 _ _ _ h|exact b9|(simp;done)
    .skip
     have e:d.write n t=(.no,⟨u2,l2,d.armed,g2,d.room,d.files,d.sure,d.waits,d.acts⟩):=by
      unfold qc.write;rw[if_neg (by simp[hf]),if_neg hw,s6];simp[hp,hl]
     rw[e];refine j7 (o:=o) (hp:=zy d) (hp':=zy (⟨u2,l2,d.armed,g2,d.room,d.files,d.sure,d.waits,d.acts⟩:qc)) (Pr:=z7 d) (Pr':=z7 (⟨u2,l2,d.armed,g2,d.room,d.files,d.sure,d.waits,d.acts⟩:qc)) [.bx o 0 0,Sv n,Sv t] [.bx 0 0,.s n,.s t] 6 6 (.a (errA .no)) (errA .no) Tryz.func29 rfl rfl rfl (λρ h=>by simp[SV.evs,SV.ev,h,bxAt]) rfl (λ_=>rfl) (λ_=>rfl) (λ_=>rfl) λos S F ρ o8=>?_;obtain⟨oo,bj⟩:=yf o0 o8 hf;have h1:=xl d os n oo o0 hn hf bj;have h2:=t6 os o8;have h3:=hsp0 os;generalize d.free=fr at *;apply qd [];repeat' (first|apply Qb|(intro h;try exact cDd)|exact⟨Tryz.call68⟩|(refine qx h1 ?_)|exact⟨Tryz.call71⟩|(refine qx h3 ?_)|exact⟨Tryz.call33⟩|(refine Qa _ ⟨qlc h2 ⟨rfl,rfl,rfl,rfl,rfl,rfl,trivial⟩,?_⟩)|(refine Qa os ⟨?_,fin0 (entP [(0,0),(5,5)] ?_)⟩)|exact cSd|apply qb []|refine exr ?_|refine qf ?_)
     all_goals first|assumption|rfl|omega|exact kw o6 _ _ _ h|exact b9|(simp;done)
 .obtain⟨k,hk⟩:=qgl hf
  have e:d.write n t=(.num k,d):=by
   unfold qc.write;rw[if_pos hf,hk]
  have h0:=λos=>qe6 d os n o0 hn hf;rw[hk]at h0;rw[e];refine j7 (o:=o) (hp:=zy d) (hp':=zy (d:qc)) (Pr:=z7 d) (Pr':=z7 (d:qc)) [.bx o 0 0,Sv n,Sv t] [.bx 0 0,.s n,.s t] 6 6 (.a (errA (.num k))) (errA (.num k)) Tryz.func29 rfl rfl rfl (λρ h=>by simp[SV.evs,SV.ev,h,bxAt]) rfl (λ_=>rfl) (λ_=>rfl) (λ_=>rfl) λos S F ρ o8=>?_;have h1:=h0 os;apply qd [];repeat' (first|apply Qb|(intro h;try exact cDd)|exact⟨Tryz.call68⟩|(refine qx h1 ?_)|(refine Qa os ⟨?_,fin0 (entP [(0,0),(5,5)] ?_)⟩)|exact cSd|apply qb []|refine exr ?_|refine qf ?_)
  all_goals first|assumption|rfl|omega|exact kw o6 _ _ _ h|exact b9|(simp;done)
def namesD(d:qc):List qa:=qeg (d.dir.map Zb)
theorem q09(st:List AObj){kb om clock:Nat}{es:List MapEntry}{L:List (qa×Int)}(he:es.map kvE=L.map (kvM keyS))(hf:qb4 es clock)(hn:(L.map Zb).Nodup)(hl:L.length<=1000000)(hs:∀q∈L,q.1.length<1000000)
    (hkb:st[kb]?=some (.cells 0 88 [.mp om])) (hom:st[om]?=some (.map es clock)):
    qm E 60 [.fn (.func 100) [] [.bx kb 0 0]] st λr st'=>r=qao (qeg (L.map Zb))∧st'=st:=by
  have hmx:(1000000:Nat)<=maxLen:=by decide
  refine q4k (k:=9) rfl he hf hn hl (λq hq=>Nat.le_trans (Nat.le_of_lt (hs q hq)) hmx) hkb hom λw Bm b nn D h1 h2 h3 h4 h5=>?_;refine(callsIn_wide (n:=5)).1 ?_
  have hseq:SeqGives Fence.wide 2 Tryz.prog 100 #[.pointer (some ⟨Bm,0,none⟩)] encStr (λss=>ss.Perm (strKeys D)) (Maps.size D) w:=
    AnyZ.keys_gives (ρ:=Tryz.keys61_ren) {Tryz.keys61 with} Fence.wide _ trivial rfl Om Bm b nn D _ h1 h2 h3
  have hsort:∀m,AnyZ.SortsIn Tryz.prog Tryz.sorted60_ren Fence.wide m:=λm=>
    ⟨λblk off cap ss W hH hblk o9=>callsIn_wide.2 (AnyM.slices_Sort_string Tryz.sort99 blk off cap ss W hH hblk o9),
     λp cap W=>callsIn_wide.2 (AnyM.slices_Sort_string_none Tryz.sort99 p cap W)⟩
  exact AnyZ.sorted_in Tryz.sorted60 Fence.wide 5 trivial trivial trivial trivial rfl Om (hsort _) (enters_of Tryz.func99 Kr rfl) 100 #[.pointer (some ⟨Bm,0,none⟩)] trivial (enters_of Tryz.func100 Kr rfl) _ _ h4 h5 _ hseq
theorem zey{L:List (qa×Int)}{k0 k1 nx:Nat}{H:Nat->Option SR}(hn:(L.map Zb).Nodup)(hl:L.length<=1000000)(hs:∀q∈L,q.1.length<1000000)(h0:H k0=some (.cells 88 [.tp k1]))(h1:H k1=some (.obj (mapP (L.map (kvM keyS)))))(d7:Zo k0 k1=false):
  qz E 60 [.fn (.func 100) [] [.bx k0 0]] nx H ⟨.a (qao (qeg (L.map Zb))),[k0,k1],[],nx⟩:=λρ S hS=>by
 have g0:resF [k0,k1] H k0=some (.cells 88 [.tp k1]):=by unfold resF;simp[memN,h0]
 have g1:resF [k0,k1] H k1=some (.obj (mapP (L.map (kvM keyS)))):=by unfold resF;simp[memN,h1]
 obtain⟨o,v,e1,e2,rfl⟩:=hS.ok k0 _ g0;obtain⟨om',x,q1,q2,_,⟨es,clock,rfl,q4,t6⟩,om,q3⟩:=hS.ok k1 _ g1;rw[q3]at q1;simp only[qr,Zp,and_true]at q1;subst q1
 have hc:S[o]?=some (.cells 0 88 [.mp om]):=by
  rw[e2];simp[SV.evs,SV.ev,q3,tpAt,AV.one]
 have ev:SV.evs ρ [.fn (.func 100) [] [.bx k0 0]]=[.fn (.func 100) [] [.bx o 0 0]]:=by simp only[SV.evs,SV.ev,e1,bxAt]
 rw[ev];refine(q09 S q4 t6 hn hl hs hc q2).mono ?_;rintro r S' ⟨rfl,rfl⟩;exact⟨ρ,rfl,λ_ _=>rfl,⟨λk r hk=>hS.ok k r hk,λk k' r r' d7 g1 g2=>hS.sep k k' r r' d7 g1 g2⟩,Qh _,λ_ _ _=>rfl,λk r hk o ho=>.inr ⟨k,r,hk,ho⟩⟩
@[reducible] def kysH (L : List (qa × Int)) : List (Nat × Option SR) := [(0, some (.obj (mapP (L.map (kvM keyS)))))]
@[reducible] def zd5 (L : List (qa × Int)) : List (Nat × Option SR) := [(0, some (.obj (mapP (L.map (kvM keyS))))), (1, some (.cells 88 [.tp 0]))]
theorem zfv(L:List (qa×Int)):qz E 61 [.tp 0] 1 (hpF (kysH L)) ⟨.fn (.func 100) [] [.bx 1 0],q8 (kysH L),zd5 L++q9 (kysH L),2⟩:=by
 refine je [.tp 0] (kysH L) 1 (.fn (.func 100) [] [.bx 1 0]) (zd5 L) 2 Tryz.func61 rfl rfl rfl rfl λS F ρ=>?_;apply qd [1];repeat' (first|apply Qb|(intro h;try exact cDd)|exact cSd|apply qb [1]|refine exr ?_|refine qf ?_)
 all_goals first|assumption|rfl|(simp;done)
set_option maxHeartbeats 4000000 in
theorem zbl(d:qc)(o:Nat)(hd:d.Bd 900000):qz E 22 [.a (.bx o 0 0)] 1 (hpF (dH d o)) ⟨.a (qao (namesD d)),q8 (dH d o),dH1 d o++q9 (dH d o),2⟩:=by
 have o0:=hd.mono (show 900000<=1000000 by omega);obtain⟨l1,l2,_⟩:=o0.dir1;have hnm:∀q∈d.dir,q.1.length<1000000:=qpg hd.nm.1 hd.nm.2;refine j7 (o:=o) (hp:=zy d) (hp':=zy d) (Pr:=z7 d) (Pr':=z7 d) [.bx o 0 0] [.bx 0 0] 6 6 (.a (qao (namesD d))) (qao (namesD d)) Tryz.func22 rfl rfl rfl (λρ h=>by simp[SV.evs,SV.ev,h,bxAt]) rfl (λ_=>rfl) (λ_=>rfl) (λ_=>rfl) λos S F ρ o8=>?_;have h1:=qsz d os o0;have h2:=zfv d.dir;apply qd [];repeat' (first|apply Qb|(intro h;try exact cDd)|exact⟨Tryz.call62⟩|(refine qx h1 ?_)|exact⟨Tryz.call61⟩|(refine qx h2 ?_)|exact⟨Tryz.call60⟩|(refine Qa _ ⟨zey (k0:=7) (k1:=6) l2 l1 hnm rfl rfl rfl,?_⟩)|(refine Qa os ⟨?_,fin0 (entP [(0,0),(5,5)] ?_)⟩)|exact cSd|apply qb []|refine exr ?_|refine qf ?_)
 all_goals first|assumption|rfl|omega|(simp;done)
@[reducible] def qlw (l : List ActV) : AV := .sl 5 (l.map actA) none
theorem q4m(l:List ActV):Pure (qlw l):=qc9 λx hx=>by
 obtain⟨a,_,rfl⟩:=Ze.1 hx;intro y hy;simp only[AV.cells,List.mem_cons,List.not_mem_nil,or_false]at hy;rcases hy with rfl|rfl|rfl|rfl|rfl <;>exact qw _
theorem q44(l:List ActV)(st:List AObj)(hl:l.length<1000000):qm E 42 [qlw l] st λr st'=>r=qlw l∧st'=st:=by
 refine ze (q4m _) (qq Tryz.func42 rfl (Qd rfl) ?_);have bf:(l.map actA).length=l.length:=Sx
 rw[Qj];repeat' (first|(apply qax (st:=st);(iterate 6 exact rfl))|(apply qg2;exact rfl;exact rfl;intro h0)|(apply qy8;first|apply qp|apply zm|apply qi|(apply qe;exact rfl;apply y5;exact cAo)|(apply qe;exact rfl;apply yw;exact cAo)|(apply qe;exact rfl;apply qpc;exact cRa)|(apply qe;exact rfl;apply qsu;exact cRa)|(apply qe;exact rfl;apply cd_n<;>intro h)|(apply qe;exact rfl;apply cd_t;exact cRa)|(apply qe;exact rfl;apply cd_f;exact cRa)|(apply qe;exact rfl;apply cd_d<;>intro h)|(apply qe;exact rfl;apply cd_s<;>intro h)|(apply qqx;exact rfl;kernel_rfl)|apply za|apply wd|apply q7)|(apply qs1;first|(apply zn;(iterate 4 exact rfl))|(apply qci;(iterate 4 exact rfl)))|(apply q3h;first|(apply qe7;exact cAo)|(apply qcq;exact cAo)|(apply qce;exact cAo)|(apply qfi;exact cAo)|(apply qoc;exact cRa)|(apply qbk;exact cRa)|(apply qcr;exact cRa)|(apply qmh;exact cRa)|(apply qim<;>intro h)|(apply qdm;exact cRa)|(apply qgm;exact cRa)|(apply qbl;exact cRa)|(apply qcf;exact cRa)|(apply xv<;>intro h)|(apply qgn<;>intro h))|(apply q3g;first|apply qnv|(apply q25;(iterate 4 exact rfl))|(apply q69;exact rfl;exact rfl;exact zu Om Om)|(apply q27;(iterate 4 exact rfl);exact cAs;exact cAs)|(apply qpy;(iterate 5 exact rfl))|(apply qnu;exact rfl;exact rfl;exact cOs)|(apply ql0;(iterate 3 exact rfl))|(apply qkw;(iterate 5 exact rfl))|(apply qj7;(iterate 4 exact rfl))|(apply qj6;(iterate 3 exact rfl))|(apply qyk;(iterate 3 exact rfl);exact cAs)|(apply quq;exact rfl;exact rfl)|(apply qqt;exact rfl;exact rfl)|(apply qqu;(iterate 3 exact rfl);omega)|(apply qnt;(iterate 3 exact rfl))|apply qk8|apply qns|(apply q68;exact rfl;exact rfl;exact zu Om Om)|(apply q26;(iterate 3 exact rfl))|(apply qur;(iterate 3 exact rfl);exact cAs)|(apply qup;(iterate 3 exact rfl);exact cAs)|(apply qlz;exact rfl;exact rfl))|(apply qs0;first|(apply zh;(iterate 3 exact rfl))|(apply j5;(iterate 3 exact rfl))|(apply vb;exact rfl;exact rfl;exact cOs)|(apply jw;exact rfl;exact rfl;exact zu Om Om)|(apply qcj;exact rfl;exact rfl;exact zu Om Om)|(apply wq;exact rfl;exact rfl)|(apply vp;exact rfl;exact rfl)|(apply qeu;exact rfl;exact rfl)|(apply qew;exact rfl;exact rfl)|(apply qcx;(iterate 3 exact rfl))|(apply qh2;(iterate 3 exact rfl))|(apply qfv;exact rfl;exact rfl;(first|exact jo _|exact rfl);first|exact jo _|exact rfl)|(apply qid;exact rfl;exact rfl;(first|exact jo _|exact rfl);first|exact jo _|exact rfl)|(apply qvs;exact rfl;exact rfl;(first|exact jo _|exact rfl);first|exact jo _|exact rfl)|(apply qdw;(iterate 3 exact rfl))|(apply qft;(iterate 3 exact rfl)))|(apply qv9;first|(apply vr;(iterate 3 exact rfl))|(apply qh1;(iterate 5 exact rfl))|(apply ve;(iterate 5 exact rfl)))|(apply qwa;first|(apply qly;exact rfl)|(apply j6;exact rfl)|(apply qfs;exact rfl))|(apply qs2;first|(apply qj5;(iterate 3 exact rfl);exact cAs)|(apply qnq;(iterate 3 exact rfl);exact cAs)|(apply qnr;(iterate 4 exact rfl);exact cAs;exact cAs)|(apply qgc;(iterate 4 exact rfl);(first|assumption|omega|exact Nat.succ_le_succ (Za _)|(simp;omega));exact rfl))|(apply qv8;first|(apply wm;(iterate 3 exact rfl))|(apply kc;(iterate 4 exact rfl)))|(apply qlh;first|(apply zr;(iterate 3 exact rfl))|(apply qb0;(iterate 4 exact rfl)))|(apply qs3;first|(apply qdx;(iterate 11 exact rfl))|(apply jt;(iterate 11 exact rfl)))|(apply qy9;first|apply qh|apply ql|apply qj|(apply zk;exact rfl;exact rfl)|(apply qn;exact rfl;apply qeb;exact cAo)|(apply qn;exact rfl;apply qea;exact cAo)|(apply qn;exact rfl;apply qko;exact cRa)|(apply qn;exact rfl;apply qg8;exact cRa)|(apply qn;exact rfl;apply pk_t;exact cRa)|(apply qn;exact rfl;apply pk_f;exact cRa)|(apply vc;exact rfl;exact rfl)|apply qev|(apply kj;exact rfl;exact rfl)|(apply qch;(iterate 4 exact rfl))|(apply qie;(iterate 3 exact rfl))|(apply qlx;(iterate 3 exact rfl);exact cAs)|(apply yc;(iterate 3 exact rfl))|(apply xj;(iterate 9 exact rfl))|(apply xu;exact rfl;exact rfl)|(apply qg3;(iterate 4 exact rfl);(first|assumption|omega|decide);exact rfl)|(apply qbb;(iterate 4 exact rfl);first|assumption|omega|decide))|(apply qfr (b:=st.length) (xs:=[]) (ys:=l.map actA) (bytes:=64);(iterate 5 exact rfl);exact⟨⟨_,_,rfl,rfl,rfl,rfl,rfl⟩⟩;(focus (repeat' (first|assumption|exact qgx _ _ _ _|exact qvm _ _ _ _ _ _ _|apply qnb|apply qo3|(refine y0 (T:=_) (ver:=_) (cs:=_) ?_)|exact we|exact jl rfl|apply ke|apply kq|omega|apply qay)));(exact qd4);(first|exact rfl|exact qba λ_=>rfl);((simp[maxLen];omega));((simp;omega));intro c' S' t1 g1 g2 g3 g4))
 .exact qo rfl (vh (zt rfl) (λG v h=>by
   rw[qlw,h0]
   exact qbo h)) ⟨rfl,_,(Qj st).symm⟩
 .exact qo rfl (vh (zt rfl) (qjs g1)) ⟨rfl,qph λj hj=>(g2.same j Om (Nat.lt_of_lt_of_le hj qd4)).trans (List.getElem?_append_left hj)⟩
set_option maxHeartbeats 4000000 in
theorem ze3(d:qc)(o:Nat)(hd:d.Bd 900000):qz E 10 [.a (.bx o 0 0)] 1 (hpF (dH d o)) ⟨.a (qlw d.acts),q8 (dH d o),dH1 d o++q9 (dH d o),2⟩:=by
 have hc:=λst=>q44 d.acts st (by have:=hd.al;omega);refine j7 (o:=o) (hp:=zy d) (hp':=zy d) (Pr:=z7 d) (Pr':=z7 d) [.bx o 0 0] [.bx 0 0] 6 6 (.a (qlw d.acts)) (qlw d.acts) Tryz.func10 rfl rfl rfl (λρ h=>by simp[SV.evs,SV.ev,h,bxAt]) rfl (λ_=>rfl) (λ_=>rfl) (λ_=>rfl) λos S F ρ o8=>?_;apply qd [];repeat' (first|apply Qb|(intro h;try exact cDd)|exact⟨Tryz.call42⟩|refine cpe hc ?_|(refine Qa os ⟨?_,fin0 (entP [(0,0),(5,5)] ?_)⟩)|exact cSd|apply qb []|refine exr ?_|refine qf ?_)
 all_goals first|assumption|rfl|omega|(simp;done)
set_option maxHeartbeats 4000000 in
theorem zhg(room:Int)(nx:Nat)(H:Nat->Option SR)(h0:0<=room):qk6 E 15 [.i room] nx H λo:Nat=>⟨.tu [.a (.bx o 0 0),.a (errA .no)],[],[(nx,some (.clu (qcn (newD room) o) []))],nx+1⟩:=by
 refine zbe (Pr:=z7 (newD room)) (hp':=zy (newD room)) [.i room] nx 6 H [.a (errA .no)] Tryz.func15 rfl rfl rfl rfl (λy=>⟨_,_,rfl⟩) (λ_=>rfl) λS F ρ=>?_;apply qd [10];repeat' (first|apply Qb|(intro h;try exact cDd)|(refine zfy ?_)|(refine Qa [] ⟨rfl,finN (T:=98) (Tw:=114) (sz:=3) (entP [(0,1),(5,2)] ?_)⟩)|exact cSd|apply qb [10]|refine exr ?_|refine qf ?_)
 all_goals first|assumption|rfl|omega|(simp;done)
@[reducible] def nfH (L : List (qa × Int)) : List (Nat × Option SR) := [(0, some (.obj (mapP (L.map (kvM keyS)))))]
@[reducible] def nfH2 (L : List (qa × Int)) (ms : List xi) : List (Nat × Option SR) :=
 [(0,some (.obj (mapP (L.map (kvM keyS))))),(1,some (.obj (mapP ((dirM L ms).map (kvM keyS)))))]
theorem q5z(L:List (qa×Int))(ms:List xi)(hl:ms.length<1000000000):qz E 44 [.tp 0,.a (.sl 3 (ms.map qaa) none)] 1 (hpF (nfH L)) ⟨.tp 1,q8 (nfH L),nfH2 L ms++q9 (nfH L),2⟩:=by
 refine je [.tp 0,.a (.sl 3 (ms.map qaa) none)] (nfH L) 1 (.tp 1) (nfH2 L ms) 2 Tryz.func44 rfl rfl rfl rfl λS F ρ=>?_;have bf:(ms.map qaa).length=ms.length:=Sx
 apply qd [];repeat' (first|apply Qb|(intro h;try exact cDd)|exact⟨Tryz.call64⟩|(refine Qa _ ⟨qss rfl rfl λst o clock es ho=>q3e st o clock es ho,?_⟩)|exact cSd|apply qb []|refine exr ?_|refine qf ?_)
 refine xx (X:=Nat) (λk=>⟨[(5,.tp 1),(10,.a (.sl 3 (ms.map qaa) none)),(11,.i ms.length),(12,.i k)],nfH L++[(1,some (.obj (mapP ((dirM L (ms.take k)).map (kvM keyS)))))],2⟩) (λk=>k<=ms.length) (λk=>ms.length-k) 0 Om ?_ ?_
 .skip
  repeat' (first|apply Qb|(intro h;try exact cDd)|exact cSd|apply qb []|refine exr ?_|refine qf ?_)
  all_goals first|assumption|rfl|(simp[dirM];done)
 .rintro k hk
  by_cases r8:k<ms.length
  .have hx:ms[k]?=some ms[k]:=Qf r8
   have s7:(ms.map qaa)[k]?=some (qaa ms[k]):=by rw[Qe,hx];rfl
   have d9:dirM L (ms.take (k+1))=qcs (dirM L (ms.take k)) ms[k]:=by
    unfold dirM;rw[List.take_add_one,hx,List.foldl_append];rfl
   generalize dirM L (ms.take k)=D at *;generalize ms[k]=m at hx s7 d9;unfold qcs at d9;by_cases hp:m.put=[]
   .rw[if_pos hp]at d9
    apply qd [];repeat' (first|apply Qb|(intro h;try exact cDd)|(refine Qa (k) ⟨Om,_,s7,?_⟩)|(refine qmr qhx rfl rfl rfl (λ_=>rfl) rfl rfl rfl ?_)|exact absurd hp (by assumption)|exact absurd (by assumption) hp|(refine Qa (k+1) ⟨Om,Om,?_⟩)|exact cSd|apply qb []|refine exr ?_|refine qf ?_)
    all_goals first|assumption|rfl|(rw[d9];assumption)|(simp;done)
   .rw[if_neg hp]at d9
    apply qd [];repeat' (first|apply Qb|(intro h;try exact cDd)|(refine Qa (k) ⟨Om,_,s7,?_⟩)|(refine qmr qhx rfl rfl rfl (λ_=>rfl) rfl rfl rfl ?_)|(refine qz5 qhx rfl rfl rfl (λ_=>rfl) rfl (λ_=>rfl) rfl rfl rfl ?_)|exact absurd hp (by assumption)|exact absurd (by assumption) hp|(refine Qa (k+1) ⟨Om,Om,?_⟩)|exact cSd|apply qb []|refine exr ?_|refine qf ?_)
    all_goals first|assumption|rfl|(rw[d9];assumption)|(simp;done)
  .have r8:k=ms.length:=by omega
   subst r8;rw[List.take_length];apply qd [];repeat' (first|apply Qb|(intro h;try exact cDd)|exact cSd|apply qb []|refine exr ?_|refine qf ?_)
   all_goals first|assumption|rfl|(simp;done)
def x5(data:List Int)(k:Nat)(fs:List zj):List zj:=fs.mapIdx λi f=>if i<k then f.crash (max 0 (data.getD i 0))else f
theorem qy3(data:List Int)(fs:List zj):x5 data 0 fs=fs:=by
 apply Qp;intro i;simp[x5,Ql]
theorem qp5(data:List Int)(k:Nat)(fs:List zj):(x5 data k fs).length=fs.length:=by simp[x5]
theorem q19(data:List Int)(fs:List zj):x5 data fs.length fs=fs.mapIdx λi f=>f.crash (max 0 (data.getD i 0)):=by
 apply Qp;intro i;simp only[x5,Ql]
 cases h:fs[i]?with
 |none=>rfl
 |some f=>
  have:=lt_of_getElem? h;simp[this]
theorem q2a(data:List Int)(k:Nat)(fs:List zj){f:zj}(h:fs[k]?=some f):(x5 data k fs)[k]?=some f:=by
 simp[x5,Ql,h]
theorem qy2(data:List Int)(k:Nat)(fs:List zj){f:zj}(h:fs[k]?=some f):x5 data (k+1) fs=(x5 data k fs).set k (f.crash (max 0 (data.getD k 0))):=by
 have hk:=lt_of_getElem? h;apply Qp;intro i;rw[List.getElem?_set];simp only[x5,Ql,List.length_mapIdx];by_cases e:k=i
 .subst e
  obtain⟨_,rfl⟩:=List.getElem?_eq_some_iff.1 h;simp[hk]
 .rw[if_neg e]
  cases hi:fs[i]?with
  |none=>rfl
  |some g=>
   have:(i<k+1)=(i<k):=by
    apply propext;omega
   simp[this]
@[reducible] def crsH (d : qc) (os : List Nat) (sure : List (qa × Int)) (fs : List zj) : List (Nat × Option SR) :=
  [(0,some (.cells 91 [.i d.units,.i d.left,.b d.armed,.b d.gone,.i d.room,.tp 1,.tp 6,.a zf,.tp 4])),
   (1,some (.tip 1 94 (qde os))),
   (6,some (.obj (mapP (sure.map (kvM keyS))))),
   (4,some (.tip 5 67 (d.acts.map actA))),
   (7,some (.clu (qzk os fs) []))]
set_option maxHeartbeats 4000000 in
theorem zbh(d:qc)(o:Nat)(k:Int)(data:List Int)(hd:d.Bd 900000)(hl:data.length<1000000)(hdt:∀x∈data,x<9223372036854775808):qz E 13 [.a (.bx o 0 0),.i k,.a (qa2 data)] 1 (hpF (dH d o)) ⟨.a (.tu []),q8 (dH d o),dH1 (d.crash k data) o++q9 (dH d o),2⟩:=by
 have o0:=hd.mono (show 900000<=1000000 by omega);have r6:=hd.fl;have hwl:=hd.wl;have hft:=hd.ft
 have hcr:d.crash k data={d with sure:=dirM d.sure (d.waits.take (max 0 (min k d.waits.length)).toNat),waits:=[],files:=x5 data d.files.length d.files,armed:=false,gone:=false}:=by
  unfold qc.crash;rw[q19]
 rw[hcr];have hnb:=q5z d.sure (d.waits.take (max 0 (min k d.waits.length)).toNat) So;have hmt:(d.waits.take (max 0 (min k d.waits.length)).toNat).map qaa=(d.waits.map qaa).take (max 0 (min k d.waits.length)).toNat:=List.map_take ..;rw[hmt]at hnb;unfold nfH2 at hnb;generalize dirM d.sure (d.waits.take (max 0 (min k d.waits.length)).toNat)=sure at *;have hwm:(d.waits.map qaa).length=d.waits.length:=Sx
 refine j7 (o:=o) (hp:=zy d) (hp':=zy ({d with sure:=sure,waits:=[],files:=x5 data d.files.length d.files,armed:=false,gone:=false}:qc)) (Pr:=z7 d) (Pr':=z7 ({d with sure:=sure,waits:=[],files:=x5 data d.files.length d.files,armed:=false,gone:=false}:qc)) [.bx o 0 0,Iv k,qa2 data] [.bx 0 0,.i k,.a (qa2 data)] 6 6 (.a (.tu [])) (.tu []) Tryz.func13 rfl rfl rfl (λρ h=>by simp[SV.evs,SV.ev,h,bxAt]) rfl (λ_=>rfl) (λ_=>rfl) (λ_=>rfl) λos S F ρ o8=>?_;have hos2:os.length=d.files.length:=o8;have gm:(qde os).length=os.length:=Sx
 have hdl:(data.map λx=>Iv x).length=data.length:=Sx
 apply jp;repeat' (first|apply Qb|(intro h;try exact cDd)|exact⟨Tryz.call44⟩|(refine qx hnb ?_)|(refine v6 [] ?_)|(refine Qa (max 0 (min k (d.waits.length:Int))).toNat ⟨Om,Om,?_⟩)|exact cSd|apply qb []|refine exr ?_|refine qf ?_)
 refine qox (X:=Nat) (λi=>⟨[(0,.bx 0 0),(2,.a (qa2 data)),(38,.tp 1),(39,.i d.files.length),(40,.i i)],crsH d os sure (x5 data i d.files),8⟩) (λi=>i<=d.files.length) (λi=>d.files.length-i) 0 Om ?_ ?_
 .rw[qy3]
  refine entE [(0,0),(1,1),(2,2),(3,3),(4,4),(5,5),(6,6),(7,5)] ?_;repeat' (first|apply Qb|(intro h;try exact cDd)|exact cSd|apply qb []|refine exr ?_|refine qf ?_)
  all_goals first|assumption|rfl|omega|(simp[hos2];done)|(simp;done)
 .rintro i hi
  by_cases lg:i<d.files.length
  .have hgf:d.files[i]?=some d.files[i]:=Qf lg
   have dt:=hft d.files[i] (Zh lg);have hg1:=q2a data i d.files hgf;have hg2:=qy2 data i d.files hgf;have pg:=qp5 data i d.files;generalize d.files[i]=f at *;generalize x5 data i d.files=fs at *;obtain⟨oj,f2,oa,ob,fa,fb,q1,q2,q3,q4,q5,q6⟩:=qam (os:=os) (fs:=fs) Om (i:=i) Om;obtain rfl:f2=f:=by rw[q6]at hg1;exact Qi hg1
   have np:pmsD os fs=pmsD oa fa++⟨oj,[Sv f2.sure],f2.waits.map vm⟩::pmsD ob fb:=by
    rw[q1,q2];exact w7 Om
   have o6:∀g:zj,pmsD os (fs.set i g)=pmsD oa fa++⟨oj,[Sv g.sure],g.waits.map vm⟩::pmsD ob fb:=λg=>by
    have:fs.set i g=fa++g::fb:=by
     rw[q2,<-q4,Qg _ _ (Qh _),Qk];rfl
    rw[this,q1];exact w7 Om
   have hptr:(qde os)[i]?=some (.bx oj 0 0):=by rw[Qe,q5];rfl
   by_cases tv:i<data.length
   .have hx:data[i]?=some data[i]:=Qf tv
    have s7:(data.map λx=>Iv x)[i]?=some (Iv data[i]):=by rw[Qe,hx];rfl
    have hxb:=hdt data[i] (Zh tv);have hgd:data.getD i 0=data[i]:=by rw[Qc,hx];rfl
    rw[hgd]at hg2;generalize data[i]=x at *;have hbh:=qn8 f2.sure f2.waits (max 0 x) Om Om (dt.mono Om);have o6:=o6 (f2.crash (max 0 x));rw[<-hg2]at o6;unfold zj.crash at o6;generalize km f2.sure f2.waits (max 0 x)=sn at *;apply jp;repeat' (first|apply Qb|(intro h;try exact cDd)|(refine Qa (i) ⟨Om,_,s7,?_⟩)|(refine qix 8 7 7 [.s f2.sure] (congrArg (λx=>some (SR.clu (pool _ _ _ x) [])) np) rfl (λ_=>rfl) rfl ?_)|(refine qw5 (f:=[Sv sn]) 9 8 10 [.s sn] rfl rfl rfl (λ_=>rfl) ?_)|(refine v6 [] ?_)|(refine Qa (i) ⟨Om,_,hptr,?_⟩)|exact⟨Tryz.call45⟩|(refine qx hbh ?_)|(refine Qa (i+1) ⟨Om,Om,entE [(0,0),(1,1),(2,2),(3,3),(4,4),(5,5),(6,6),(7,11)] ?_⟩)|exact cSd|apply qb []|refine exr ?_|refine qf ?_)
    all_goals first|assumption|rfl|omega|exact kw o6 _ _ _ h|(simp;done)
   .have hgd:data.getD i 0=0:=by rw[Qc,Qr Om];rfl
    rw[hgd,show max (0:Int) 0=0 from rfl]at hg2;have hbh:=qn8 f2.sure f2.waits 0 Om Om (dt.mono Om);have o6:=o6 (f2.crash 0);rw[<-hg2]at o6;unfold zj.crash at o6;generalize km f2.sure f2.waits 0=sn at *;apply jp;repeat' (first|apply Qb|(intro h;try exact cDd)|(refine qix 8 7 7 [.s f2.sure] (congrArg (λx=>some (SR.clu (pool _ _ _ x) [])) np) rfl (λ_=>rfl) rfl ?_)|(refine qw5 (f:=[Sv sn]) 9 8 10 [.s sn] rfl rfl rfl (λ_=>rfl) ?_)|(refine v6 [] ?_)|(refine Qa (i) ⟨Om,_,hptr,?_⟩)|exact⟨Tryz.call45⟩|(refine qx hbh ?_)|(refine Qa (i+1) ⟨Om,Om,entE [(0,0),(1,1),(2,2),(3,3),(4,4),(5,5),(6,6),(7,11)] ?_⟩)|exact cSd|apply qb []|refine exr ?_|refine qf ?_)
    all_goals first|assumption|rfl|omega|exact kw o6 _ _ _ h|(simp;done)
  .have lg:i=d.files.length:=by omega
   subst lg;have pg:=qp5 data d.files.length d.files;generalize x5 data d.files.length d.files=fs at *;have b9:os.length=fs.length:=Om
   apply qd [];repeat' (first|apply Qb|(intro h;try exact cDd)|(refine v6 [] ?_)|(refine Qa os ⟨?_,fin0 (entP [(0,0),(5,7)] ?_)⟩)|exact cSd|apply qb []|refine exr ?_|refine qf ?_)
   all_goals first|assumption|rfl|omega|exact b9|(simp;done)
end Go.Proofs.YthnbabbhpeebbaaGreatDoor
namespace Go.Av
open Go Go.RowKit
def retE(P:Program)(fn:Func)(nx0:Nat)(r:SV)(p8:List (Nat×Option SR))(nx1:Nat)(e:Exit)(C:Conf):Prop:=
 match e with
 |.normal=>(match resV P fn.ntmps C fn.results.toList with
  |some v=>v.all (λk=>Qn k C.nx)=true∧EntE nx0 ⟨[(0,v)],C.hp,C.nx⟩ ⟨[(0,r)],p8,nx1⟩
  |none=>False)
 |.ret=>(match resV P fn.ntmps C fn.results.toList with
  |some v=>v.all (λk=>Qn k C.nx)=true∧EntE nx0 ⟨[(0,v)],C.hp,C.nx⟩ ⟨[(0,r)],p8,nx1⟩
  |none=>False)
 |_=>False
theorem jx{E:Env}{f:FuncId}{fn:Func}{c:Code}(vs:List SV)(i7:List (Nat×Option SR))(nx0:Nat)(r:SV)(p8:List (Nat×Option SR))(nx1:Nat)(hf:E.P.funcs[f]?=some fn)(hb:fn.body=some c)(hn:Qo vs.length fn.ntmps=true)
  (hc:okC ⟨zl 0 vs,i7,nx0⟩=true) (mt:okC ⟨[(0,r)],p8,nx1⟩=true)
  (h:∀S F ρ,numK 0 vs λsl=>Sm E none fn.ntmps ⟨S,F,ρ,nx0,False⟩ c (retE E.P fn nx0 r p8 nx1) ⟨sl,i7,nx0⟩):qz E f vs nx0 (hpF i7) ⟨r,q8 i7,p8++q9 i7,nx1⟩:=λρ S hS=>by
 simp only[qfk]at h;simp only[jb]at hS;have b9:(SV.evs ρ vs).length=vs.length:=by rw[zw,Qt]
 refine qq hf hb (by rw[b9];exact Qd hn) ?_;rw[Qj];simp only[okC,Qm]at hc mt
 have hwhp:∀k r,hpF i7 k=some r->k<nx0∧r.all (λk=>Qn k nx0)=true:=λk r hk=>by
  have:=Qq.1 hc.2 _ (ji (vo hk));simp only[Qm]at this;exact⟨jj this.1,this.2⟩
 have d9:SatC ⟨S,yh i7 ρ,ρ,nx0,False⟩ ⟨zl 0 vs,i7,nx0⟩ ⟨argT (SV.evs ρ vs),S,[]⟩:=by
  refine⟨ρ,⟨nofun,Zl,λ_ _=>rfl,Qh _,nofun⟩,⟨λd v hd=>?_,hS,λk r hk o ho=>.inr ⟨k,r,hk,ho⟩,λ_ _ _=>rfl,Qh _,λd v hd=>?_,hwhp⟩⟩
  .obtain⟨j,h1,h2⟩:=xo hd
   have:(SV.evs ρ vs)[j]?=some (v.ev ρ):=by rw[zw,Qe,h2];rfl
   rw[h1,Nat.zero_add];simp only[argT,List.getD,this,Option.getD_some]
  .exact Qq.1 hc.1 _ (ji hd)
 refine((h S (yh i7 ρ) ρ).run _ d9).mono λe s' ⟨C',hq,bz⟩=>?_;obtain⟨t,S',df⟩:=s';obtain⟨ρ2,i5,hR⟩:=bz;simp only at i5 hR
 have fin:(match resV E.P fn.ntmps C' fn.results.toList with
  |some v=>v.all (λk=>Qn k C'.nx)=true∧EntE nx0 ⟨[(0,v)],C'.hp,C'.nx⟩ ⟨[(0,r)],p8,nx1⟩
  |none=>False)->ARet E fn (λr' S'=>∃ρ',r'=r.ev ρ'∧qa9 ρ S nx0 (hpF i7) ⟨r,q8 i7,p8++q9 i7,nx1⟩ ρ' S') ⟨t,S',df⟩:=λh=>by
  split at h
  .rename_i v hv
   obtain⟨hva,he⟩:=h;obtain⟨σ,mg,he⟩:=he.ent;refine qbf hR i5.dm i5.nd λS2 s8=>?_
   have lv:SatR S (yh i7 ρ) ⟨[(0,v)],C'.hp,C'.nx⟩ ρ2 (λ_=>v.ev ρ2) S2:=
    ⟨λd u hd=>by
     simp only[lkS]at hd
     cases hb:Zo 0 d with
     |true=>rw[hb]at hd;simp only[cond_true,Zf]at hd;rw[hd]
     |false=>rw[hb]at hd;simp[lkS]at hd,s8.hp,s8.own,s8.low,s8.len,λd u hd=>by
     simp only[lkS]at hd
     cases hb:Zo 0 d with
     |true=>rw[hb]at hd;simp only[cond_true,Zf]at hd;rw[<-hd];exact hva
     |false=>rw[hb]at hd;simp[lkS]at hd,s8.whp⟩
   obtain⟨t',hw,u7⟩:=he.sat lv
   have nq:∀k,k<nx0->renR σ ρ2 k=ρ k:=λk hk=>by
    simp only[Qm]at mg;unfold renR;rw[qgs mg.1 k hk];exact i5.rig k hk
   have hrn:nx0<=nx1:=by
    simp only[Qm]at mg;exact Qd mg.2
   generalize renR σ ρ2=ρ3 at u7 nq;have h0:t' 0=r.ev ρ3:=u7.sl 0 r rfl;have hwk:=hw 0;rw[h0]at hwk
   let ρ':Nat->AV:=λk=>bif Qo nx1 k then ρ k else ρ3 k
   have hρ':∀k,Qn k nx1=true->ρ' k=ρ3 k:=λk hk=>by
    show(bif Qo nx1 k then ρ k else ρ3 k)=_
    have:Qo nx1 k=false:=by
     cases hb:Qo nx1 k with
     |false=>rfl
     |true=>have:=Qd hb;have:=jj hk;omega
    rw[this];rfl
   have hra:r.all (λk=>Qn k nx1)=true:=Qq.1 mt.1 (0,r) Sx;have fx:r.ev ρ'=r.ev ρ3:=xe hρ' r hra;refine qo rfl (vh (qlp s8 hv) hwk) ⟨ρ',fx.symm,?_⟩
   have lq:∀k r,hpF p8 k=some r->ρ' k=ρ3 k∧r.all (λk=>Qn k nx1)=true:=λk r hk=>by
    obtain⟨g1,g2⟩:=u7.whp k r hk;exact⟨hρ' k (xd g1),g2⟩
   refine⟨λk hk=>?_,?_,u7.len,λj hj hn=>?_,λk r hk o ho=>?_⟩
   .show(bif Qo nx1 k then ρ k else ρ3 k)=_
    cases hb:Qo nx1 k with
    |true=>rfl
    |false=>
     rcases hk with hk|hk
     .exact nq k hk
     .have:=Nat.ble_eq_true_of_le hk
      simp only at this;rw[this]at hb;simp at hb
   .simp only[jb,x3]
    refine⟨λk r hk=>?_,λk k' r r' d7 h1 h2 o ho=>?_⟩
    .obtain⟨g1,g2⟩:=lq k r hk
     rw[g1];exact SR.ok_of g2 hρ' (u7.hp.ok k r hk) λ_ _=>rfl
    .rw[(lq k r h1).1]at ho
     rw[(lq k' r' h2).1];exact u7.hp.sep k k' r r' d7 h1 h2 o ho
   .simp only[jb]at hn
    exact u7.low j hj λ⟨k,r,hk,hl⟩=>hn k r hk hl
   .simp only[jb,x3]at hk⊢
    rw[(lq k r hk).1]at ho;exact u7.own k r hk o ho
  .exact h.elim
 cases e with
 |normal=>exact fin hq
 |ret=>exact fin hq
 |_=>exact hq.elim
theorem jm{E:Env}{f:FuncId}{vs:List SV}{r:SV}{A B:Clu}(h:qz E f vs 1 (hpF [(0,some (.clu A []))]) ⟨r,q8 [(0,some (SR.clu A []))],[(1,some (.clu B []))]++q9 [(0,some (SR.clu A []))],2⟩)(hv:SV.alls (λ_=>false) vs=true)(hr:r.all (λ_=>false)=true){q nx:Nat}{H:Nat->Option SR}(hq:H q=some (.clu A []))(hqn:Qn q nx=true):
  qz E f vs nx H ⟨r,[q],[(q,none),(nx,some (.clu B []))],nx+1⟩:=λρ S hS=>by
 have hqn:=jj hqn
 let ρ0:Nat->AV:=λ_=>ρ q
 have key:∀k x,hpF [(0,some (SR.clu A []))] k=some x->k=0∧x=.clu A []:=λk x hk=>by
  unfold hpF at hk;simp only[lkS]at hk;by_cases e:0=k
  .subst e
   simp at hk;exact⟨rfl,hk.symm⟩
  .rw[zq e]at hk
   simp at hk
 have hA:=hS.ok q _ ((z8 q).trans hq)
 have hS0:SatF S ρ0 (resF (q8 [(0,some (SR.clu A []))]) (hpF [(0,some (SR.clu A []))])):=by
  rw[jb];exact⟨λk x hk=>by obtain⟨rfl,rfl⟩:=key k x hk;exact hA,λk k' x x' d7 g1 g2=>absurd ((key k x g1).1.trans (key k' x' g2).1.symm) d7⟩
 have fx:SV.evs ρ vs=SV.evs ρ0 vs:=wy (λk hk=>by simp at hk) vs hv;rw[fx];refine(h ρ0 S hS0).mono ?_;rintro y S' ⟨ρ',rfl,hp⟩
 have key2:∀k x,hpF [(1,some (SR.clu B []))] k=some x->k=1∧x=.clu B []:=λk x hk=>by
  unfold hpF at hk;simp only[lkS]at hk;by_cases e:1=k
  .subst e
   simp at hk;exact⟨rfl,hk.symm⟩
  .rw[zq e]at hk
   simp at hk
 have cd:=hp.sat;have t6:=hp.fr;have hloc:=hp.loc;simp only[jb,x3]at cd t6 hloc
 have key3:∀k x,chF [(q,none),(nx,some (SR.clu B []))] (resF [q] H) k=some x->k=nx∧x=.clu B []:=λk x hk=>by
  simp only[chF,lkS]at hk;by_cases e:q=k
  .subst e
   simp at hk
  .rw[zq e]at hk
   simp only[cond_false]at hk;by_cases e2:nx=k
   .subst e2
    simp at hk;exact⟨rfl,hk.symm⟩
   .rw[zq e2]at hk
    have:=(jv hk).1;simp only[memN,List.any_cons,Zn,Bool.or_false]at this;exact absurd (Nat.eq_of_beq_eq_true this).symm e
 refine⟨upd ρ nx (ρ' 1),xe (λk hk=>by simp at hk) r hr,λk hk=>jq _ _ (by simp only at hk;omega),⟨λk x hk=>?_,λk k' x x' d7 g1 g2=>absurd ((key3 k x g1).1.trans (key3 k' x' g2).1.symm) d7⟩,hp.len,λj hj hn=>t6 j hj λk x hk=>?_,λk x hk o ho=>?_⟩
 .obtain⟨rfl,rfl⟩:=key3 k x hk
  rw[zi];exact cd.ok 1 _ rfl
 .obtain⟨rfl,rfl⟩:=key k x hk
  exact hn q _ ((z8 q).trans hq)
 .obtain⟨rfl,rfl⟩:=key3 k x hk
  rw[zi]at ho;rcases hloc 1 _ rfl o ho with g|⟨k',x',g1,g2⟩
  .exact .inl g
  .obtain⟨rfl,rfl⟩:=key k' x' g1
   exact .inr ⟨q,_,(z8 q).trans hq,g2⟩
theorem zh4{E:Env}{N:Nat}{ops:Array Oper}{nx:Nat}{sl:List (Nat×SV)}{H:Nat->Option SR}{k:Ef->Prop}{d:Option Tmp}{T:TypeId}{p:String}{af:Array Edge}{t tx t':TypeId}{x y:Operand}{vx vy:SV}{b:AV}{ms:Array (String×TypeId)}(hx:sval N sl x=some vx)(h1:∀ρ,vx.ev ρ=.v .nilIface)(hy:sval N sl y=some vy)(h2:∀ρ,vy.ev ρ=.ifc tx b)
  (ht:E.P.underlying t=some (.interface ms)) (h:k ⟨.ff,[],[],nx⟩):∃e,Loc E N ops ⟨d,.binOp .eql t x y t',T,p,af,none⟩ nx sl H e∧k e:=by
 refine⟨_,jd (v:=.ff) λdf rd K rest ρ t1 S hs hk=>qv rfl (qu nofun λB0 w0 G ac w _ hI=>?_),h⟩;have e1:=hI.evalv ((qs hs hx).trans (h1 ρ));have e2:=hI.eval_of ((qs hs hy).trans (h2 ρ));generalize hv2:ac.eval y=v2 at e2
 cases e2 with
 |ifc _ _ z2 r2=>
  have hq:=run_eql_iface_nil_left (P:=E.P) (w:=w) tx z2 ht;have hg:(eqGuard .eql t x y .nilIface (.iface tx z2)).run E.P w=.ok () w:=by simp[eqGuard]
  refine⟨.bool false,w,G,Bv false,S,?_,.refl G,hI.agree,.v _,hk⟩;generalize ac.eval=ρv at e1 hv2;simp[execOp,e1,hv2,hg,hq]
end Go.Av
namespace Go.Proofs.YthnbabbhpeebbaaGreatDoor
open Go Go.Av Go.RowKit Go.Proofs Go.Pl
abbrev xb(f:FuncId)(vs:List SV)(o:Nat)(d:qc)(e:ErrV)(d':qc):Prop:=qz E f vs 1 (hpF (dH d o)) ⟨.a (errA e),q8 (dH d o),dH1 d' o++q9 (dH d o),2⟩
inductive qej (o:Nat):qc->List (FuncId×List AV×List AV)->ErrV->qc->Prop
 |nil (d:qc):qej o d [] .no d
 |stop {d d1:qc} {f:FuncId} {a b:List AV} {r:List (FuncId×List AV×List AV)} {e:ErrV} (hE:qpa E f) (h:xb f (nfs a++nfs b) o d e d1) (hv:SV.alls (λ_=>false) (nfs a++nfs b)=true) (he:e≠.no):qej o d ((f,a,b)::r) e d1
 |go {d d1 d2:qc} {f:FuncId} {a b:List AV} {r:List (FuncId×List AV×List AV)} {e:ErrV} (hE:qpa E f) (h:xb f (nfs a++nfs b) o d .no d1) (hv:SV.alls (λ_=>false) (nfs a++nfs b)=true) (hr:qej o d1 r e d2):qej o d ((f,a,b)::r) e d2
@[reducible] def fnA (x : FuncId × List AV × List AV) : AV := .fn (.func x.1) x.2.1 x.2.2
set_option maxHeartbeats 1000000 in
theorem qu2{o:Nat}{d d2:qc}{acts:List (FuncId×List AV×List AV)}{e:ErrV}(h:qej o d acts e d2)(hl:acts.length<1000000):qz E 49 [.a (.sl 1 (acts.map fnA) none)] 1 (hpF (dH d o)) ⟨.a (errA e),q8 (dH d o),dH1 d2 o++q9 (dH d o),2⟩:=by
 refine jx [.a (.sl 1 (acts.map fnA) none)] (dH d o) 1 (.a (errA e)) (dH1 d2 o) 2 Tryz.func49 rfl rfl rfl rfl λS F ρ=>?_;have bf:(acts.map fnA).length=acts.length:=Sx
 apply qd [];repeat' (first|apply Qb|(intro h;try exact cDd)|exact cSd|apply qb []|refine exr ?_|refine qf ?_)
 refine qox (X:=Nat×qc) (λ(i,d1)=>⟨[(6,.a (.sl 1 (acts.map fnA) none)),(7,.i acts.length),(8,.i i)],dH1 d1 o,2⟩) (λ(i,d1)=>i<=acts.length∧qej o d1 (acts.drop i) e d2) (λ(i,_)=>acts.length-i) (0,d) ⟨Om,h⟩ ?_ ?_
 .refine entE [(0,0),(1,0)] ?_
  repeat' (first|apply Qb|(intro h;try exact cDd)|exact cSd|apply qb []|refine exr ?_|refine qf ?_)
  all_goals first|assumption|rfl|(simp;done)
 .rintro⟨i,d1⟩ ⟨hi,hok⟩
  by_cases lg:i<acts.length
  .have hx:acts[i]?=some acts[i]:=Qf lg
   have s7:(acts.map fnA)[i]?=some (fnA acts[i]):=by rw[Qe,hx];rfl
   rw[Qy lg]at hok;generalize acts[i]=x at *;obtain⟨f,a,b⟩:=x
   cases hok with
   |stop hE hc hv he=>
    have hca:=λnx H=>jm (q:=1) (nx:=nx) (H:=H) hc hv rfl
    cases e with
    |no=>exact absurd rfl he
    |num k=>
     apply qd [];repeat' (first|apply Qb|(intro h;try exact cDd)|(refine Qa (i) ⟨Om,_,s7,?_⟩)|exact hE|(refine Qa _ ⟨hca _ _ rfl rfl,?_⟩)|(refine entE [(0,0),(1,2)] ?_)|exact cSd|apply qb []|refine exr ?_|refine qf ?_)
     all_goals first|assumption|rfl|omega|(simp;done)
    |at' k n=>
     apply qd [];repeat' (first|apply Qb|(intro h;try exact cDd)|(refine Qa (i) ⟨Om,_,s7,?_⟩)|exact hE|(refine Qa _ ⟨hca _ _ rfl rfl,?_⟩)|(refine entE [(0,0),(1,2)] ?_)|exact cSd|apply qb []|refine exr ?_|refine qf ?_)
     all_goals first|assumption|rfl|omega|(simp;done)
   |go hE hc hv hr=>
    have hca:=λnx H=>jm (q:=1) (nx:=nx) (H:=H) hc hv rfl;rename_i dn;apply qd [];repeat' (first|apply Qb|(intro h;try exact cDd)|(refine Qa (i) ⟨Om,_,s7,?_⟩)|exact hE|(refine Qa _ ⟨hca _ _ rfl rfl,?_⟩)|(refine Qa (i+1,dn) ⟨⟨Om,hr⟩,by simp only;omega,entE [(0,0),(1,2)] ?_⟩)|exact cSd|apply qb []|refine exr ?_|refine qf ?_)
    all_goals first|assumption|rfl|omega|(simp;done)
  .have lg:i=acts.length:=by omega
   subst lg;rw[Zi]at hok
   cases hok with
   |nil=>
    apply qd [];repeat' (first|apply Qb|(intro h;try exact cDd)|(refine entE [(0,0),(1,1)] ?_)|exact cSd|apply qb []|refine exr ?_|refine qf ?_)
    all_goals first|assumption|rfl|omega|(simp;done)
end Go.Proofs.YthnbabbhpeebbaaGreatDoor
namespace Go.Pl
open Go Go.Av Go.Proofs Go.Proofs.YthnbabbhpeebbaaGreatDoor
def newB:qa:=[46,110,101,119]
def fB:qa:=[102]
def qag(n:qa):qa:=n++newB
def xf(n:qa):Bool:=decide (n≠[])&&decide (n.length<=16)&&n.all λc=>qac.contains c
def vw(p:ErrV×qc)(f:qc->ErrV×qc):ErrV×qc:=if p.1=.no then f p.2 else p
def wp(d:qc)(n:qa):ErrV×qc:=if hasM (qag n) d.dir then vw (d.remove (qag n)) qc.syncDir else(.no,d)
def vl(d:qc)(n:qa):ErrV×qa×qc:=
 if(d.read n).1=.num 7 then((vw (d.create n) qc.syncDir).1,[],(vw (d.create n) qc.syncDir).2)else((d.read n).1,(d.read n).2,d)
def cutP(d:qc)(n:qa)(k:Int):ErrV×qc:=vw (d.cutF n k) λd=>d.sync n
def qd8(d:qc)(n:qa):ErrV×qa×qc:=
 if xf n=false then(.num 1,[],d)else
 if(wp d n).1≠.no then((wp d n).1,[],(wp d n).2)else
 if(vl (wp d n).2 n).1≠.no then((vl (wp d n).2 n).1,[],(vl (wp d n).2 n).2.2)else
 if(zg (vl (wp d n).2 n).2.1).1≠.no then((zg (vl (wp d n).2 n).2.1).1,[],(vl (wp d n).2 n).2.2)else
 if(zg (vl (wp d n).2 n).2.1).2.1.tail=[]then(.no,(vl (wp d n).2 n).2.1.take (ka (zg (vl (wp d n).2 n).2.1).2.1).toNat,(vl (wp d n).2 n).2.2)else
 if(cutP (vl (wp d n).2 n).2.2 n (ka (zg (vl (wp d n).2 n).2.1).2.1)).1≠.no then((cutP (vl (wp d n).2 n).2.2 n (ka (zg (vl (wp d n).2 n).2.1).2.1)).1,[],(cutP (vl (wp d n).2 n).2.2 n (ka (zg (vl (wp d n).2 n).2.1).2.1)).2)else
 (.no,(vl (wp d n).2 n).2.1.take (ka (zg (vl (wp d n).2 n).2.1).2.1).toNat,(cutP (vl (wp d n).2 n).2.2 n (ka (zg (vl (wp d n).2 n).2.1).2.1)).2)
def qfy(d:qc)(n text:qa):ErrV:=if(d.read n).1=.num 3 then .num 3 else if(d.read n).1≠.no∨(d.read n).2≠text then .num 8 else .no
def xa(text:qa)(b:List qt):ErrV×qa:=
 if(zg text).1≠.no then((zg text).1,[])else if(doF (zg text).2.2 b).1≠.no then((doF (zg text).2.2 b).1,[])else appF text b
def qdy(d:qc)(n text:qa)(b:List qt):ErrV×qa×qc:=
 if qfy d n text≠.no then(qfy d n text,text,d)else if(xa text b).1≠.no then((xa text b).1,text,d)else
 let p:=vw (d.write n ((xa text b).2.drop text.length)) λd=>d.sync n
 if p.1≠.no then(p.1,text,p.2)else(.no,(xa text b).2,p.2)
def qys(room:Int)(text:qa):ErrV×qc:=vw (vw (vw ((newD room).create fB) λd=>d.write fB text) λd=>d.sync fB) qc.syncDir
@[reducible] def oneD (u : Int) (room : Int) (text : qa) (acts : List ActV) : qc := ⟨u, 0, false, false, room, [⟨text, []⟩], [(fB, 0)], [], acts⟩
theorem qlj:y8 fB=true:=by decide
theorem q5p:xf fB=true:=by decide
theorem qva(u room:Int)(t:qa)(a:List ActV):(oneD u room t a).dir=[(fB,0)]:=rfl
theorem qrj(u room:Int)(t:qa)(a:List ActV):(oneD u room t a).file fB=(.no,0):=by
 unfold qc.file qc.asked;rw[qva];simp[qlj,hasM,getM]
theorem q0k(t:qa):(⟨t,[]⟩:zj).seen=t:=rfl
theorem qrk(u room:Int)(t:qa)(a:List ActV):(oneD u room t a).read fB=(.no,t):=by
 unfold qc.read;rw[qrj];rfl
theorem zcr(u room:Int)(t:qa)(a:List ActV):wp (oneD u room t a) fB=(.no,oneD u room t a):=by
 unfold wp;rw[qva];rfl
theorem q9e(u room:Int)(t:qa)(a:List ActV):vl (oneD u room t a) fB=(.no,t,oneD u room t a):=by
 unfold vl;rw[qrk];rfl
theorem zcp{u room k:Int}{t:qa}{a:List ActV}(h0:0<=k)(h1:k<=t.length):cutP (oneD u room t a) fB k=(.no,oneD (u+1+1) room (t.take k.toNat) (a++[⟨3,fB,[],[],k⟩]++[⟨4,fB,[],[],0⟩])):=by
 have e1:(oneD u room t a).cutF fB k=(.no,⟨u+1,0,false,false,room,[⟨t,[⟨[],k,true⟩]⟩],[(fB,0)],[],a++[⟨3,fB,[],[],k⟩]⟩):=by
  unfold qc.cutF;rw[qrj]
  have:¬(k<0∨((((oneD u room t a).at (0:Int)).seen.length:Nat):Int)<k):=by
   show¬(k<0∨((t.length:Nat):Int)<k)
   omega
  simp only[this,if_false];rfl
 unfold cutP vw;rw[e1];simp only[if_true];unfold qc.sync
 have e2:(⟨u+1,0,false,false,room,[⟨t,[⟨[],k,true⟩]⟩],[(fB,0)],[],a++[⟨3,fB,[],[],k⟩]⟩:qc).file fB=(.no,0):=by
  unfold qc.file qc.asked;have:(⟨u+1,0,false,false,room,[⟨t,[⟨[],k,true⟩]⟩],[(fB,0)],[],a++[⟨3,fB,[],[],k⟩]⟩:qc).dir=[(fB,0)]:=rfl;rw[this];simp[qlj,hasM,getM]
 rw[e2]
 have e3:(⟨t,[⟨[],k,true⟩]⟩:zj).seen=t.take k.toNat:=by
  show(if 0<(1:Int)then t.take (min k (t.length:Int)).toNat else t)=_
  rw[if_pos Om,Int.min_eq_left h1]
 have e4:((⟨u+1,0,false,false,room,[⟨t,[⟨[],k,true⟩]⟩],[(fB,0)],[],a++[⟨3,fB,[],[],k⟩]⟩:qc).at 0)=⟨t,[⟨[],k,true⟩]⟩:=rfl;simp only[qc.spend,qc.with,qc.did,qc.at]at e4⊢;simp[e3]
theorem q9c(u room:Int)(t:qa)(a:List ActV)(k:Int)(data:List Int):(oneD u room t a).crash k data=oneD u room t a:=by
 unfold qc.crash;simp[dirM,zj.crash,km]
theorem qmv(u room:Int)(t:qa)(a:List ActV):qd8 (oneD u room t a) fB=if(zg t).1≠.no then((zg t).1,[],oneD u room t a)else
  if(zg t).2.1.tail=[]then(.no,t,oneD u room t a)else(.no,js (zg t).2.1,oneD (u+1+1) room (js (zg t).2.1) (a++[⟨3,fB,[],[],ka (zg t).2.1⟩]++[⟨4,fB,[],[],0⟩])):=by
 unfold qd8;rw[q5p,zcr,q9e];simp only[Bool.true_eq_false,if_false,ne_eq,not_true_eq_false];by_cases h:(zg t).1=.no
 .obtain⟨b,r,hT,hp,he⟩:=qed h
  have hw:=hT.whole;have ht:=hT.take;have hs:=hT.split;rw[he];simp only[not_true_eq_false,if_false]
  have hl:ka b<=t.length:=by
   rw[hw]
   have:t.length=(js b).length+b.tail.length:=by
    conv=>lhs;rw[hs]
    simp
   omega
  by_cases h0:b.tail=[]
  .rw[if_pos h0,if_pos h0,ht]
   rw[h0,Qj]at hs;rw[<-hs]
  .rw[if_neg h0,if_neg h0,zcp (by rw[hw];omega) hl,ht]
   rfl
 .simp only[h,not_false_eq_true,if_true]
theorem q54{t:qa}(h:(zg t).1=.no):(zg (js (zg t).2.1)).1=.no∧(zg (js (zg t).2.1)).2.1.tail=[]:=by
 obtain⟨b,r,hT,hp,he⟩:=qed h;have h2:=qw2 hT.noTail (r:=r) hp;rw[he];simp only;rw[h2];exact⟨rfl,rfl⟩
theorem q9a{t:qa}(h:(zg t).1=.no)(u room:Int)(a:List ActV):qd8 (oneD u room (js (zg t).2.1) a) fB=(.no,js (zg t).2.1,oneD u room (js (zg t).2.1) a):=by
 obtain⟨h1,h2⟩:=q54 h;rw[qmv,if_neg (by simpa using h1),if_pos h2]
theorem q6z{t:qa}(h:(zg t).1=.no)(h0:(zg t).2.1.tail=[]):js (zg t).2.1=t:=by
 obtain⟨b,r,hT,hp,he⟩:=qed h;have hs:=hT.split;rw[he]at h0⊢;simp only at h0⊢;rw[h0,Qj]at hs;exact hs.symm
def xz(t:qa):List ActV:=[⟨1,fB,[],[],0⟩]++(if t=[]then []else [⟨2,fB,[],t,0⟩])++[⟨4,fB,[],[],0⟩]++[⟨7,[],[],[],0⟩]
theorem za9{room:Int}{t:qa}(h:(t.length:Int)<=room):qys room t=(.no,oneD (3+t.length) room t (xz t)):=by
 have e1:(newD room).create fB=(.no,⟨1,0,false,false,room,[⟨[],[]⟩],[],[⟨fB,[],0⟩],[⟨1,fB,[],[],0⟩]⟩):=by
  unfold qc.create qc.file qc.asked;have:(newD room).dir=[]:=rfl;rw[this];simp[qlj,hasM,newD,qc.spend,qc.did]
 have e2:(⟨1,0,false,false,room,[⟨[],[]⟩],[],[⟨fB,[],0⟩],[⟨1,fB,[],[],0⟩]⟩:qc).write fB t=(.no,⟨1+t.length,0,false,false,room,[⟨[],if t=[]then []else [⟨t,0,false⟩]⟩],[],[⟨fB,[],0⟩],[⟨1,fB,[],[],0⟩]++(if t=[]then []else [⟨2,fB,[],t,0⟩])⟩):=by
  have hd:(⟨1,0,false,false,room,[⟨[],[]⟩],[],[⟨fB,[],0⟩],[⟨1,fB,[],[],0⟩]⟩:qc).dir=[(fB,0)]:=rfl
  have hf:(⟨1,0,false,false,room,[⟨[],[]⟩],[],[⟨fB,[],0⟩],[⟨1,fB,[],[],0⟩]⟩:qc).file fB=(.no,0):=by
   unfold qc.file qc.asked;rw[hd];simp[qlj,hasM,getM]
  have t6:(⟨1,0,false,false,room,[⟨[],[]⟩],[],[⟨fB,[],0⟩],[⟨1,fB,[],[],0⟩]⟩:qc).free=max 0 (room-0):=by
   unfold qc.free;rw[hd];rfl
  unfold qc.write;rw[hf,t6];have h1:¬max 0 (room-0)<(t.length:Int):=Om
  simp only[ne_eq,not_true_eq_false,if_false,h1];by_cases h0:t=[]
  .subst h0
   simp[qc.spend]
  .have hp:0<t.length:=Zc.2 h0
   simp[qc.spend,qc.at,qc.with,qc.did,h0,hp]
 have e3:(⟨1+t.length,0,false,false,room,[⟨[],if t=[]then []else [⟨t,0,false⟩]⟩],[],[⟨fB,[],0⟩],[⟨1,fB,[],[],0⟩]++(if t=[]then []else [⟨2,fB,[],t,0⟩])⟩:qc).sync fB=(.no,⟨2+t.length,0,false,false,room,[⟨t,[]⟩],[],[⟨fB,[],0⟩],[⟨1,fB,[],[],0⟩]++(if t=[]then []else [⟨2,fB,[],t,0⟩])++[⟨4,fB,[],[],0⟩]⟩):=by
  have hf:(⟨1+t.length,0,false,false,room,[⟨[],if t=[]then []else [⟨t,0,false⟩]⟩],[],[⟨fB,[],0⟩],[⟨1,fB,[],[],0⟩]++(if t=[]then []else [⟨2,fB,[],t,0⟩])⟩:qc).file fB=(.no,0):=by
   have hd:(⟨1+t.length,0,false,false,room,[⟨[],if t=[]then []else [⟨t,0,false⟩]⟩],[],[⟨fB,[],0⟩],[⟨1,fB,[],[],0⟩]++(if t=[]then []else [⟨2,fB,[],t,0⟩])⟩:qc).dir=[(fB,0)]:=rfl;unfold qc.file qc.asked;rw[hd];simp[qlj,hasM,getM]
  have hs:(⟨[],if t=[]then []else [⟨t,0,false⟩]⟩:zj).seen=t:=by
   by_cases h0:t=[]
   .subst h0;rfl
   .rw[if_neg h0]
    show(if 0<(t.length:Int)then []++t.take (t.length:Int).toNat else [])=t
    have hp:0<t.length:=Zc.2 h0;rw[if_pos Om];simp
  unfold qc.sync;rw[hf];simp only[qc.spend,qc.at,qc.with,qc.did];simp[hs];omega
 have e4:(⟨2+t.length,0,false,false,room,[⟨t,[]⟩],[],[⟨fB,[],0⟩],[⟨1,fB,[],[],0⟩]++(if t=[]then []else [⟨2,fB,[],t,0⟩])++[⟨4,fB,[],[],0⟩]⟩:qc).syncDir=(.no,oneD (3+t.length) room t (xz t)):=by
  unfold qc.syncDir qc.asked;simp only[qc.spend,qc.did,qc.dir,Zn];simp[xz,dirM,qcs,fB,delM,setM];omega
 unfold qys vw;rw[e1];simp only[if_true];rw[e2];simp only[if_true];rw[e3];simp only[if_true];exact e4
theorem q9d{t:qa}(h:(zg t).1=.no)(u room:Int)(a:List ActV):∃u' a',qd8 (oneD u room t a) fB=(.no,js (zg t).2.1,oneD u' room (js (zg t).2.1) a')∧u'<=u+2∧u<=u'∧a'.length<=a.length+2:=by
 rw[qmv,if_neg (by simpa using h)];by_cases h0:(zg t).2.1.tail=[]
 .rw[if_pos h0,q6z h h0]
  exact⟨u,a,rfl,Om,Om,Om⟩
 .rw[if_neg h0]
  exact⟨_,_,rfl,Om,Om,Sx⟩
end Go.Pl
namespace Go.Pl
open Go Go.Av
theorem q80(x:qa)(d:qc):x∈Go.Proofs.YthnbabbhpeebbaaGreatDoor.namesD d↔hasM x d.dir=true:=by
 unfold Go.Proofs.YthnbabbhpeebbaaGreatDoor.namesD hasM;rw[(qua _).mem_iff,Ze,List.any_eq_true];constructor
 .rintro⟨q,h1,rfl⟩
  exact⟨q,h1,Sx⟩
 .rintro⟨q,h1,h2⟩
  exact⟨q,h1,by simpa using h2⟩
def idxB(x:qa):Nat->List qa->Int
 |_,[]=> -1
 |k,y::r=>if x=y then(k:Int)else idxB x (k+1) r
theorem qzs(x:qa):∀(l:List qa)(k:Nat),0<=idxB x k l↔x∈l
 | [],k=>by simp[idxB]
 |y::r,k=>by
  unfold idxB;by_cases h:x=y
  .rw[if_pos h]
   simp[h]
  .rw[if_neg h,qzs x r (k+1)]
   simp[h]
end Go.Pl
namespace Go.Proofs.YthnbabbhpeebbaaGreatDoor
open Go Go.Av Go.RowKit Go.Proofs Go.Pl
@[reducible] def q9o (o : Nat) (n : qa) : AV := .ag [.bx o 0 0, Sv n]
@[reducible] def v8 (o : Nat) (n : qa) : SV := .ag [.a (.bx o 0 0), .s n]
@[reducible] def qf4 (o : Nat) (n : qa) : AV := .pp [.bx o 0 0, Sv n]
theorem q28(o:Nat)(n:qa)(st:List AObj)(hn:n.length<1000000):qm E 54 [q9o o n] st λr st'=>r=Sv (qag n)∧st'=st:=by
 unfold qag newB;refine ja [v8 o n] (qw _) Tryz.func54 rfl rfl (λ_=>rfl) rfl λS0=>?_;apply qd [];repeat' (first|apply Qb|(intro h;try exact cDd)|exact cSd|apply qb []|refine exr ?_|refine qf ?_)
 all_goals first|assumption|rfl|omega|(simp;omega)|(simp;done)
theorem q76(m:Int)(st:List AObj):qm E 43 [.v .nilIface,.ifc 43 (Iv m)] st λr st'=>r=Bv false∧st'=st:=by
 refine ja [.a (.v .nilIface),.a (.ifc 43 (Iv m))] (qw _) Tryz.func43 rfl rfl (λ_=>rfl) rfl λS0=>?_;apply qd [];repeat' (first|apply Qb|(intro h;try exact cDd)|(refine zh4 rfl (λ_=>rfl) rfl (λ_=>rfl) rfl ?_)|exact cSd|apply qb []|refine exr ?_|refine qf ?_)
 all_goals first|assumption|rfl|omega|(simp;done)
theorem zfh(xs:List qa)(x:qa)(st:List AObj)(hl:xs.length<1000000000):qm E 112 [qao xs,Sv x] st λr st'=>r=Iv (idxB x 0 xs)∧st'=st:=by
 refine ja [.a (qao xs),.s x] (qw _) Tryz.func112 rfl rfl (λ_=>rfl) rfl λS0=>?_;have bf:(xs.map λx=>Sv x).length=xs.length:=Sx
 apply qd [];repeat' (first|apply Qb|(intro h;try exact cDd)|exact cSd|apply qb []|refine exr ?_|refine qf ?_)
 refine xx (X:=Nat) (λk=>⟨[(0,.a (qao xs)),(1,.s x),(7,.i xs.length),(8,.i k)],[],0⟩) (λk=>k<=xs.length∧idxB x k (xs.drop k)=idxB x 0 xs) (λk=>xs.length-k) 0 ⟨Om,Sx⟩ ?_ ?_
 .skip
  repeat' (first|apply Qb|(intro h;try exact cDd)|exact cSd|apply qb []|refine exr ?_|refine qf ?_)
  all_goals first|assumption|rfl|(simp;done)
 .rintro k ⟨hk,a8⟩
  by_cases r8:k<xs.length
  .have hx2:xs[k]?=some xs[k]:=Qf r8
   have s7:(xs.map λx=>Sv x)[k]?=some (Sv xs[k]):=by rw[Qe,hx2];rfl
   rw[Qy r8,idxB]at a8;generalize xs[k]=s at hx2 s7 a8;by_cases hd:x=s
   .rw[if_pos hd]at a8
    rw[<-a8];apply qd [];repeat' (first|apply Qb|(intro h;try exact cDd)|(refine Qa (k) ⟨Om,_,s7,?_⟩)|exact absurd hd (by assumption)|exact cSd|apply qb []|refine exr ?_|refine qf ?_)
    all_goals first|assumption|rfl|exact absurd hd h|(simp;done)
   .rw[if_neg hd]at a8
    apply qd [];repeat' (first|apply Qb|(intro h;try exact cDd)|(refine Qa (k) ⟨Om,_,s7,?_⟩)|exact absurd (by assumption) hd|(refine Qa (k+1) ⟨⟨Om,a8⟩,Om,?_⟩)|exact cSd|apply qb []|refine exr ?_|refine qf ?_)
    all_goals first|assumption|rfl|exact absurd h hd|(simp;done)
  .have r8:k=xs.length:=by omega
   subst r8;rw[Zi,idxB]at a8;rw[<-a8];apply qd [];repeat' (first|apply Qb|(intro h;try exact cDd)|exact cSd|apply qb []|refine exr ?_|refine qf ?_)
   all_goals first|assumption|rfl|(simp;done)
theorem zew(xs:List qa)(x:qa)(st:List AObj)(hl:xs.length<1000000000):qm E 77 [qao xs,Sv x] st λr st'=>r=Bv (decide (x∈xs))∧st'=st:=by
 have h1:=λst=>zfh xs x st hl;have h2:=qzs x xs 0;refine ja [.a (qao xs),.s x] (qw _) Tryz.func77 rfl rfl (λ_=>rfl) rfl λS0=>?_;have h3:decide (x∈xs)=decide (0<=idxB x 0 xs):=decide_eq_decide.2 h2.symm;rw[h3];generalize idxB x 0 xs=n at *;apply qd [];repeat' (first|apply Qb|(intro h;try exact cDd)|exact⟨Tryz.call112⟩|refine cpe h1 ?_|exact cSd|apply qb []|refine exr ?_|refine qf ?_)
 all_goals first|assumption|rfl|(simp;done)
theorem q4l{o:Nat}{d:qc}{p:ErrV×qc}{Fn:qc->ErrV×qc}{f1 f2:FuncId}{a1 b1 a2 b2:List AV}(e1:qpa E f1)(e2:qpa E f2)(h1:xb f1 (nfs a1++nfs b1) o d p.1 p.2)(h2:p.1=.no->xb f2 (nfs a2++nfs b2) o p.2 (Fn p.2).1 (Fn p.2).2)
  (v1:SV.alls (λ_=>false) (nfs a1++nfs b1)=true) (v2:SV.alls (λ_=>false) (nfs a2++nfs b2)=true):qej o d [(f1,a1,b1),(f2,a2,b2)] (vw p Fn).1 (vw p Fn).2:=by
 unfold vw;by_cases h:p.1=.no
 .rw[if_pos h]
  rw[h]at h1;refine .go e1 h1 v1 ?_;have h2:=h2 h;by_cases h3:(Fn p.2).1=.no
  .rw[h3]at h2⊢
   exact .go e2 h2 v2 (.nil _)
  .exact .stop e2 h2 v2 h3
 .rw[if_neg h]
  exact .stop e1 h1 v1 h
theorem q32(d:qc)(o:Nat)(n:qa)(hd:d.Bd 900000)(hn:n.length<1000000):xb 51 [v8 o n] o d (d.sync n).1 (d.sync n).2:=by
 have h1:=q3i d o n hd hn;refine jx [v8 o n] (dH d o) 1 (.a (errA (d.sync n).1)) (dH1 (d.sync n).2 o) 2 Tryz.func51 rfl rfl rfl rfl λS F ρ=>?_;apply qd [];repeat' (first|apply Qb|(intro h;try exact cDd)|exact⟨Tryz.call30⟩|(refine Qa _ ⟨jm (q:=0) h1 rfl rfl rfl rfl,?_⟩)|(refine entE [(0,0),(1,1)] ?_)|exact cSd|apply qb []|refine exr ?_|refine qf ?_)
 all_goals first|assumption|rfl|omega|(simp;done)
theorem zgs(d:qc)(o:Nat)(n:qa)(hd:d.Bd 900000)(hn:n.length<900000):xb 78 [.a (qf4 o n)] o d (d.remove (qag n)).1 (d.remove (qag n)).2:=by
 have h1:=q73 d o (qag n) hd (by simp[qag,newB];omega);have h2:=λst=>q28 o n st Om;refine jx [.a (qf4 o n)] (dH d o) 1 (.a (errA (d.remove (qag n)).1)) (dH1 (d.remove (qag n)).2 o) 2 Tryz.func78 rfl rfl rfl rfl λS F ρ=>?_;generalize qag n=an at *;apply qd [];repeat' (first|apply Qb|(intro h;try exact cDd)|exact⟨Tryz.call54⟩|refine cpe h2 ?_|exact⟨Tryz.call79⟩|(refine Qa _ ⟨jm (q:=0) h1 rfl rfl rfl rfl,?_⟩)|(refine entE [(0,0),(1,1)] ?_)|exact cSd|apply qb []|refine exr ?_|refine qf ?_)
 all_goals first|assumption|rfl|omega|(simp;done)
theorem qab{e:ErrV}(h:e≠.no):∃T y,errA e=.ifc T y:=by
 cases e with
 |no=>exact absurd rfl h
 |num n=>exact⟨_,_,rfl⟩
 |at' a n=>exact⟨_,_,rfl⟩
theorem q5y{d:qc}(hd:d.Bd 900000):(namesD d).length<1000000000:=by
 obtain⟨h1,_⟩:=hd.dir1;unfold namesD;rw[(qua _).length_eq,Qt];omega
theorem zin(d:qc)(o:Nat)(n:qa)(hd:d.Bd 800000)(hn:n.length<900000):xb 37 [v8 o n] o d (wp d n).1 (wp d n).2:=by
 have hd9:=hd.mono (show 800000<=900000 by omega);have hnm:=zbl d o hd9;have has:=λst=>q28 o n st Om;have hcon:=λst=>zew (namesD d) (qag n) st (q5y hd9);have h1:=zgs d o n hd9 hn;have h2:=qmb (d.remove (qag n)).2 o ((hd.remove (qag n)).mono Om);have lg:=q80 (qag n) d;unfold wp;generalize qag n=an at *
 cases hh:hasM an d.dir with
 |true=>
  rw[decide_eq_true (lg.2 hh)]at hcon;rw[if_pos rfl]
  have rx:qej o d [(78,[],[qf4 o n]),(31,[.bx o 0 0],[])] (vw (d.remove an) qc.syncDir).1 (vw (d.remove an) qc.syncDir).2:=
   q4l ⟨Tryz.call78⟩ ⟨Tryz.call31⟩ h1 (λ_=>h2) rfl rfl
  have gk:=qu2 rx Sx;generalize vw (d.remove an) qc.syncDir=p at *;generalize namesD d=ns at *;refine jx [v8 o n] (dH d o) 1 (.a (errA p.1)) (dH1 p.2 o) 2 Tryz.func37 rfl rfl rfl rfl λS F ρ=>?_;apply qd [];repeat' (first|apply Qb|(intro h;try exact cDd)|exact⟨Tryz.call54⟩|refine cpe has ?_|exact⟨Tryz.call77⟩|refine cpe hcon ?_|exact⟨Tryz.call22⟩|(refine Qa _ ⟨jm (q:=0) hnm rfl rfl rfl rfl,?_⟩)|exact⟨Tryz.call49⟩|(refine Qa _ ⟨jm (q:=1) gk rfl rfl rfl rfl,?_⟩)|(refine entE [(0,0),(1,2)] ?_)|exact cSd|apply qb []|refine exr ?_|refine qf ?_)
  all_goals first|assumption|rfl|omega|(simp;done)
 |false=>
  rw[decide_eq_false (λh=>by rw[lg.1 h]at hh;cases hh)]at hcon;rw[if_neg Sx];generalize namesD d=ns at *;refine jx [v8 o n] (dH d o) 1 (.a (errA .no)) (dH1 d o) 2 Tryz.func37 rfl rfl rfl rfl λS F ρ=>?_;apply qd [];repeat' (first|apply Qb|(intro h;try exact cDd)|exact⟨Tryz.call54⟩|refine cpe has ?_|exact⟨Tryz.call77⟩|refine cpe hcon ?_|exact⟨Tryz.call22⟩|(refine Qa _ ⟨jm (q:=0) hnm rfl rfl rfl rfl,?_⟩)|(refine entE [(0,0),(1,1)] ?_)|exact cSd|apply qb []|refine exr ?_|refine qf ?_)
  all_goals first|assumption|rfl|omega|(simp;done)
theorem zgb(d:qc)(o:Nat)(n:qa)(hd:d.Bd 900000)(hn:n.length<900000):xb 80 [.a (qf4 o n)] o d (d.create n).1 (d.create n).2:=by
 have h1:=qv3 d o n hd Om;refine jx [.a (qf4 o n)] (dH d o) 1 (.a (errA (d.create n).1)) (dH1 (d.create n).2 o) 2 Tryz.func80 rfl rfl rfl rfl λS F ρ=>?_;apply qd [];repeat' (first|apply Qb|(intro h;try exact cDd)|exact⟨Tryz.call28⟩|(refine Qa _ ⟨jm (q:=0) h1 rfl rfl rfl rfl,?_⟩)|(refine entE [(0,0),(1,1)] ?_)|exact cSd|apply qb []|refine exr ?_|refine qf ?_)
 all_goals first|assumption|rfl|omega|(simp;done)
theorem qt0(d:qc)(n:qa):(d.read n).1=.no∨∃k,(d.read n).1=.num k:=by
 unfold qc.read;split
 .exact .inr ⟨_,rfl⟩
 .split
  .rename_i h
   exact .inr (qgl h)
  .exact .inl rfl
theorem zf9(d:qc)(o:Nat)(n:qa)(hd:d.Bd 800000)(hn:n.length<900000):qz E 38 [v8 o n] 1 (hpF (dH d o)) ⟨.tu [.s (vl d n).2.1,.a (errA (vl d n).1)],q8 (dH d o),dH1 (vl d n).2.2 o++q9 (dH d o),2⟩:=by
 have hd9:=hd.mono (show 800000<=900000 by omega);have gn:=quz d o n hd9 Om;rcases qt0 d n with h0|⟨k,h0⟩
 .have e:vl d n=(.no,(d.read n).2,d):=by unfold vl;rw[if_neg (by simp[h0]),h0]
  have fc:=λst=>q76 7 st;rw[h0]at gn;rw[e];generalize(d.read n).2=s at *;refine jx [v8 o n] (dH d o) 1 (.tu [.s s,.a (errA .no)]) (dH1 d o) 2 Tryz.func38 rfl rfl rfl rfl λS F ρ=>?_;apply qd [];repeat' (first|apply Qb|(intro h;try exact cDd)|exact⟨Tryz.call43⟩|refine cpe fc ?_|exact⟨Tryz.call36⟩|(refine Qa _ ⟨jm (q:=0) gn rfl rfl rfl rfl,?_⟩)|(refine entE [(0,0),(1,1)] ?_)|exact cSd|apply qb []|refine exr ?_|refine qf ?_)
  all_goals first|assumption|rfl|omega|(simp;done)
 .have fc:=λst=>q77 k 7 st
  rw[h0]at gn;by_cases hk:k=7
  .subst hk
   have e:vl d n=((vw (d.create n) qc.syncDir).1,[],(vw (d.create n) qc.syncDir).2):=by unfold vl;rw[if_pos h0]
   have h1:=zgb d o n hd9 hn;have h2:=qmb (d.create n).2 o ((hd.create n Om).mono Om)
   have rx:qej o d [(80,[],[qf4 o n]),(31,[.bx o 0 0],[])] (vw (d.create n) qc.syncDir).1 (vw (d.create n) qc.syncDir).2:=
    q4l ⟨Tryz.call80⟩ ⟨Tryz.call31⟩ h1 (λ_=>h2) rfl rfl
   have gk:=qu2 rx Sx;rw[e];generalize vw (d.create n) qc.syncDir=p at *;generalize(d.read n).2=s at *;rw[decide_eq_true rfl]at fc;refine jx [v8 o n] (dH d o) 1 (.tu [.s [],.a (errA p.1)]) (dH1 p.2 o) 2 Tryz.func38 rfl rfl rfl rfl λS F ρ=>?_;apply qd [];repeat' (first|apply Qb|(intro h;try exact cDd)|exact⟨Tryz.call43⟩|refine cpe fc ?_|exact⟨Tryz.call36⟩|(refine Qa _ ⟨jm (q:=0) gn rfl rfl rfl rfl,?_⟩)|exact⟨Tryz.call49⟩|(refine Qa _ ⟨jm (q:=1) gk rfl rfl rfl rfl,?_⟩)|(refine entE [(0,0),(1,2)] ?_)|exact cSd|apply qb []|refine exr ?_|refine qf ?_)
   all_goals first|assumption|rfl|omega|(simp;done)
  .have e:vl d n=(.num k,(d.read n).2,d):=by unfold vl;rw[if_neg (by simp[h0,hk]),h0]
   rw[decide_eq_false hk]at fc;rw[e];generalize(d.read n).2=s at *;refine jx [v8 o n] (dH d o) 1 (.tu [.s s,.a (errA (.num k))]) (dH1 d o) 2 Tryz.func38 rfl rfl rfl rfl λS F ρ=>?_;apply qd [];repeat' (first|apply Qb|(intro h;try exact cDd)|exact⟨Tryz.call43⟩|refine cpe fc ?_|exact⟨Tryz.call36⟩|(refine Qa _ ⟨jm (q:=0) gn rfl rfl rfl rfl,?_⟩)|(refine entE [(0,0),(1,1)] ?_)|exact cSd|apply qb []|refine exr ?_|refine qf ?_)
   all_goals first|assumption|rfl|omega|(simp;done)
theorem zf7(d:qc)(o:Nat)(n:qa)(k:Int)(hd:d.Bd 900000)(hn:n.length<900000)(hk:k<9223372036854775808):xb 83 [.a (qf4 o n),.a (.pp [Iv k])] o d (d.cutF n k).1 (d.cutF n k).2:=by
 have h1:=zhe d o n k hd Om hk;refine jx [.a (qf4 o n),.a (.pp [Iv k])] (dH d o) 1 (.a (errA (d.cutF n k).1)) (dH1 (d.cutF n k).2 o) 2 Tryz.func83 rfl rfl rfl rfl λS F ρ=>?_;apply qd [];repeat' (first|apply Qb|(intro h;try exact cDd)|exact⟨Tryz.call84⟩|(refine Qa _ ⟨jm (q:=0) h1 rfl rfl rfl rfl,?_⟩)|(refine entE [(0,0),(1,1)] ?_)|exact cSd|apply qb []|refine exr ?_|refine qf ?_)
 all_goals first|assumption|rfl|omega|(simp;done)
theorem zid(d:qc)(o:Nat)(n:qa)(k:Int)(hd:d.Bd 800000)(hn:n.length<900000)(hk:k<9223372036854775808):xb 40 [v8 o n,.i k] o d (cutP d n k).1 (cutP d n k).2:=by
 have h1:=zf7 d o n k (hd.mono Om) hn hk;have h2:=q32 (d.cutF n k).2 o n ((hd.cutF n k).mono Om) Om;unfold cutP
 have rx:qej o d [(83,[],[qf4 o n,.pp [Iv k]]),(51,[q9o o n],[])] (vw (d.cutF n k) λd=>d.sync n).1 (vw (d.cutF n k) λd=>d.sync n).2:=
  q4l ⟨Tryz.call83⟩ ⟨Tryz.call51⟩ h1 (λ_=>h2) rfl rfl
 have gk:=qu2 rx Sx;generalize(vw (d.cutF n k) λd=>d.sync n)=p at *;refine jx [v8 o n,.i k] (dH d o) 1 (.a (errA p.1)) (dH1 p.2 o) 2 Tryz.func40 rfl rfl rfl rfl λS F ρ=>?_;apply qd [];repeat' (first|apply Qb|(intro h;try exact cDd)|exact⟨Tryz.call49⟩|(refine Qa _ ⟨jm (q:=0) gk rfl rfl rfl rfl,?_⟩)|(refine entE [(0,0),(1,1)] ?_)|exact cSd|apply qb []|refine exr ?_|refine qf ?_)
 all_goals first|assumption|rfl|omega|(simp;done)
end Go.Proofs.YthnbabbhpeebbaaGreatDoor
namespace Go.Av
open Go Go.RowKit
theorem qcy{E:Env}{f:FuncId}{vs0:List SV}{i7:List (Nat×Option SR)}{nx0:Nat}{r:SV}{p8:List (Nat×Option SR)}{nx1:Nat}(σ:List (Nat×Nat))(h:qz E f vs0 nx0 (hpF i7) ⟨r,q8 i7,p8++q9 i7,nx1⟩){ln:List (Nat×Option SR)}{vs:List SV}{nx:Nat}{k:Ef->Prop}
  (hw:vs.length=vs0.length∧okC ⟨zl 0 vs,fltH (σ.map Zj) ln,nx⟩=true∧EntC σ ⟨zl 0 vs,fltH (σ.map Zj) ln,nx⟩ ⟨zl 0 vs0,i7,nx0⟩∧okC ⟨[(0,r)],p8,nx1⟩=true∧
   (qma (q8 p8)&&p8.all (λq=>(lkS (newN nx0 nx (nx1-nx0)++σ) q.1).isSome)&&σ.all (λq=>Qn q.1 nx0&&Qn q.2 nx)&&Qo nx0 nx1)=true∧
   k ⟨r.ren (newN nx0 nx (nx1-nx0)++σ),σ.map Zj,renH (newN nx0 nx (nx1-nx0)++σ) p8++outH (σ.map Zj),nx+(nx1-nx0)⟩):∃e,qz E f vs nx (hpF ln) e∧k e:=by
 obtain⟨h1,h2,h3,h4,h5,h6⟩:=hw;exact⟨_,q7x h _ h1 h2 h3 h4 h5,h6⟩
end Go.Av
namespace Go.Pl
open Go Go.Av
theorem q1k{N:Nat}{d:qc}(h:d.Bd N)(n:qa):(wp d n).2.Bd (N+5):=by
 unfold wp vw;split
 .split
  .exact(h.remove _).syncDir
  .exact(h.remove _).mono Om
 .exact h.mono Om
theorem q0v{N:Nat}{d:qc}(h:d.Bd N)(n:qa)(hn:n.length<1000000):(vl d n).2.2.Bd (N+3):=by
 unfold vl vw;split
 .simp only
  split
  .exact(h.create _ hn).syncDir
  .exact(h.create _ hn).mono Om
 .exact h.mono Om
theorem zc3{N:Nat}{d:qc}(h:d.Bd N)(n:qa):(d.read n).2.length<=N:=by
 unfold qc.read;split
 .exact Za _
 .split
  .exact Za _
  .exact(h.at _).behind _
theorem q9u{N:Nat}{d:qc}(h:d.Bd N)(n:qa):(vl d n).2.1.length<=N:=by
 unfold vl;split
 .exact Za _
 .exact zc3 h n
theorem ze1{N:Nat}{d:qc}(h:d.Bd N)(n:qa)(k:Int):(cutP d n k).2.Bd (N+4):=by
 unfold cutP vw;split
 .exact(h.cutF _ _).sync _
 .exact(h.cutF _ _).mono Om
end Go.Pl
namespace Go.Proofs.YthnbabbhpeebbaaGreatDoor
open Go Go.Av Go.RowKit Go.Proofs Go.Pl
theorem qgk(n:qa)(st:List AObj)(hl:n.length<1000000):qm E 16 [Sv n] st λr st'=>r=Bv (xf n)∧st'=st:=by
 have ht:=λst=>qls n qac st Om rfl rfl;have h1:=q1l n qac;by_cases h0:n=[]
 .subst h0
  refine ja [.s []] (qw _) Tryz.func16 rfl rfl (λ_=>rfl) rfl λS0=>?_;apply qd [];repeat' (first|apply Qb|(intro h;try exact cDd)|exact⟨Tryz.call47⟩|refine cpe ht ?_|exact cSd|apply qb []|refine exr ?_|refine qf ?_)
  all_goals first|rfl|(simp;done)
 .by_cases h20:n.length<=16
  .cases i6:(n.all λc=>qac.contains c)with
   |true=>
    have e:xf n=true:=by unfold xf;rw[i6];simp[h0,h20]
    rw[h1.2 i6]at ht;rw[e];refine ja [.s n] (qw _) Tryz.func16 rfl rfl (λ_=>rfl) rfl λS0=>?_;apply qd [];repeat' (first|apply Qb|(intro h;try exact cDd)|exact⟨Tryz.call47⟩|refine cpe ht ?_|exact cSd|apply qb []|refine exr ?_|refine qf ?_)
    all_goals first|rfl|omega|assumption|exact absurd h0 h|(simp;done)|(simp;exact d7)
   |false=>
    have e:xf n=false:=by unfold xf;rw[i6];simp
    have d7:Lib.trimS n qac≠[]:=λh=>by rw[h1.1 h]at i6;cases i6
    rw[e];generalize Lib.trimS n qac=t at *;refine ja [.s n] (qw _) Tryz.func16 rfl rfl (λ_=>rfl) rfl λS0=>?_;apply qd [];repeat' (first|apply Qb|(intro h;try exact cDd)|exact⟨Tryz.call47⟩|refine cpe ht ?_|exact cSd|apply qb []|refine exr ?_|refine qf ?_)
    all_goals first|rfl|omega|assumption|exact absurd h0 h|(simp;done)|(simp;exact d7)
  .have e:xf n=false:=by unfold xf;simp[h20]
   rw[e];refine ja [.s n] (qw _) Tryz.func16 rfl rfl (λ_=>rfl) rfl λS0=>?_;apply qd [];repeat' (first|apply Qb|(intro h;try exact cDd)|exact⟨Tryz.call47⟩|refine cpe ht ?_|exact cSd|apply qb []|refine exr ?_|refine qf ?_)
   all_goals first|rfl|omega|assumption|exact absurd h0 h|(simp;done)|(simp;exact d7)
@[reducible] def nilP : AV := .v (.pointer none)
@[reducible] def hndC (o : Nat) (n t : qa) : SR := .cells 82 [.a (.bx o 0 0), .s n, .s t]
abbrev qi5(o:Nat)(d:qc)(n t:qa)(d':qc):Prop:=qz E 9 [.a (.bx o 0 0),.s n] 1 (hpF (dH d o)) ⟨.tu [.bx 2 0,.a (errA .no)],q8 (dH d o),[(1,some (.clu (qcn d' o) [])),(2,some (hndC o n t))]++q9 (dH d o),3⟩
abbrev qdh(o:Nat)(d:qc)(n:qa)(e:ErrV)(d':qc):Prop:=qz E 9 [.a (.bx o 0 0),.s n] 1 (hpF (dH d o)) ⟨.tu [.a nilP,.a (errA e)],q8 (dH d o),dH1 d' o++q9 (dH d o),2⟩
theorem q5m(d:qc)(o:Nat)(n:qa)(hn:n.length<800000)(hg:xf n=false):qdh o d n (.num 1) d:=by
 have h1:=λst=>qgk n st Om;rw[hg]at h1;refine jx [.a (.bx o 0 0),.s n] (dH d o) 1 (.tu [.a nilP,.a (errA (.num 1))]) (dH1 d o) 2 Tryz.func9 rfl rfl rfl rfl λS F ρ=>?_;apply qd [];repeat' (first|apply Qb|(intro h;try exact cDd)|exact⟨Tryz.call16⟩|refine cpe h1 ?_|(refine entE [(0,0),(1,0)] ?_)|exact cSd|apply qb []|refine exr ?_|refine qf ?_)
 all_goals first|assumption|rfl|omega|(simp;done)
abbrev qdj(o:Nat)(d:qc)(n:qa)(e:ErrV)(s:qa)(d':qc):Prop:=qz E 38 [v8 o n] 1 (hpF (dH d o)) ⟨.tu [.s s,.a (errA e)],q8 (dH d o),dH1 d' o++q9 (dH d o),2⟩
theorem zby(d d1:qc)(o:Nat)(n:qa)(e:ErrV)(hn:n.length<800000)(hg:xf n=true)(ht:xb 37 [v8 o n] o d e d1)(he:e≠.no):qdh o d n e d1:=by
 have h1:=λst=>qgk n st Om;rw[hg]at h1;obtain⟨T,y,hy⟩:=qab he;unfold xb at ht;unfold qdh;rw[hy]at ht⊢;refine jx [.a (.bx o 0 0),.s n] (dH d o) 1 (.tu [.a nilP,.a (.ifc T y)]) (dH1 d1 o) 2 Tryz.func9 rfl rfl rfl rfl λS F ρ=>?_;apply qd [];repeat' (first|apply Qb|(intro h;try exact cDd)|exact⟨Tryz.call16⟩|refine cpe h1 ?_|exact⟨Tryz.call37⟩|(refine Qa _ ⟨jm (q:=0) ht rfl rfl rfl rfl,?_⟩)|(refine entE [(0,0),(1,2)] ?_)|exact cSd|apply qb []|refine exr ?_|refine qf ?_)
 all_goals first|assumption|rfl|omega|(simp;done)
theorem zbz(d d1 d2:qc)(o:Nat)(n s:qa)(e:ErrV)(hn:n.length<800000)(hg:xf n=true)(ht:xb 37 [v8 o n] o d .no d1)(hr:qdj o d1 n e s d2)(he:e≠.no):qdh o d n e d2:=by
 have h1:=λst=>qgk n st Om;rw[hg]at h1;obtain⟨T,y,hy⟩:=qab he;unfold xb at ht;unfold qdj at hr;unfold qdh;rw[hy]at hr⊢;refine jx [.a (.bx o 0 0),.s n] (dH d o) 1 (.tu [.a nilP,.a (.ifc T y)]) (dH1 d2 o) 2 Tryz.func9 rfl rfl rfl rfl λS F ρ=>?_;apply qd [];repeat' (first|apply Qb|(intro h;try exact cDd)|exact⟨Tryz.call16⟩|refine cpe h1 ?_|exact⟨Tryz.call37⟩|(refine Qa _ ⟨jm (q:=0) ht rfl rfl rfl rfl,?_⟩)|exact⟨Tryz.call38⟩|(refine Qa _ ⟨jm (q:=2) hr rfl rfl rfl rfl,?_⟩)|(refine entE [(0,0),(1,3)] ?_)|exact cSd|apply qb []|refine exr ?_|refine qf ?_)
 all_goals first|assumption|rfl|omega|(simp;done)
theorem zb0(d d1 d2:qc)(o:Nat)(n s:qa)(hn:n.length<800000)(hg:xf n=true)(ht:xb 37 [v8 o n] o d .no d1)(hr:qdj o d1 n .no s d2)(hs:s.length<1000000)(he:(zg s).1≠.no):qdh o d n (zg s).1 d2:=by
 have h1:=λst=>qgk n st Om;rw[hg]at h1;have pb:=λst=>qvf s st hs;obtain⟨T,y,hy⟩:=qab he
 have hrt2:qf7 (zg s)=.tu [qcm (zg s).2.1,.v (.pointer none),.ifc T y]:=by
  rw[<-hy];unfold qf7;split
  .exact absurd (by assumption) he
  .rfl
 rw[hrt2]at pb;unfold xb at ht;unfold qdj at hr;unfold qdh;rw[hy];generalize(zg s).2.1=bk at *;refine jx [.a (.bx o 0 0),.s n] (dH d o) 1 (.tu [.a nilP,.a (.ifc T y)]) (dH1 d2 o) 2 Tryz.func9 rfl rfl rfl rfl λS F ρ=>?_;apply qd [];repeat' (first|apply Qb|(intro h;try exact cDd)|exact⟨Tryz.call16⟩|refine cpe h1 ?_|exact⟨Tryz.call39⟩|refine cpe pb ?_|exact⟨Tryz.call37⟩|(refine Qa _ ⟨jm (q:=0) ht rfl rfl rfl rfl,?_⟩)|exact⟨Tryz.call38⟩|(refine Qa _ ⟨jm (q:=2) hr rfl rfl rfl rfl,?_⟩)|(refine entE [(0,0),(1,3)] ?_)|exact cSd|apply qb []|refine exr ?_|refine qf ?_)
 all_goals first|assumption|rfl|omega|(simp;done)
structure qr6 (s:qa) (b:v4) (l:zo):Prop where
 rt:∀st,qm E 39 [Sv s] st λr st'=>r=.tu [qcm b,qb1 l,errA .no]∧st'=st
 wh:∀st,qm E 41 [qcm b] st λr st'=>r=Iv (ka b)∧st'=st
 w0:0<=ka b
 w1:ka b<=s.length
 sl:s.length<=120000
theorem zim(s:qa)(hs:s.length<1000000)(he:(zg s).1=.no):qr6 s (zg s).2.1 (zg s).2.2:=by
 have pb:=λst=>qvf s st hs
 have hrt2:qf7 (zg s)=.tu [qcm (zg s).2.1,qb1 (zg s).2.2,errA .no]:=by
  unfold qf7;split
  .rfl
  .rename_i h
   exact absurd he h
 rw[hrt2]at pb;obtain⟨b,r,hT,hp,e⟩:=qed he;have hw:=hT.whole;have s6:=hT.split
 have hl:s.length=(js b).length+b.tail.length:=by
  conv=>lhs;rw[s6]
  simp
 have mb:=hT.ends;have hbb:=(qqz hT);rw[e]at pb⊢
 have mw:b.ends.length<1000000:=by
  rw[mb,qja];have:=hbb.len;omega
 exact⟨pb,λst=>qyw b st hbb.base mw,by simp only;omega,by simp only;omega,hT.len⟩
theorem zb1(d d1 d2:qc)(o:Nat)(n s:qa)(b:v4)(l:zo)(hn:n.length<800000)(hg:xf n=true)(ht:xb 37 [v8 o n] o d .no d1)(hr:qdj o d1 n .no s d2)(hb:qr6 s b l)(h0:b.tail=[]):qi5 o d n (s.take (ka b).toNat) d2:=by
 have h1:=λst=>qgk n st Om;rw[hg]at h1;obtain⟨pb,lq,w0,w1,sl⟩:=hb;obtain⟨bg,bb,bt,be,btl⟩:=b;simp only at h0;subst h0;unfold xb at ht;unfold qdj at hr;unfold qi5;generalize ka _=w at *;obtain⟨w,rfl⟩:=Qz w0;rw[show((w:Int)).toNat=w from rfl];refine jx [.a (.bx o 0 0),.s n] (dH d o) 1 (.tu [.bx 2 0,.a (errA .no)]) [(1,some (.clu (qcn d2 o) [])),(2,some (hndC o n (s.take w)))] 3 Tryz.func9 rfl rfl rfl rfl λS F ρ=>?_;apply qd [62];repeat' (first|apply Qb|(intro h;try exact cDd)|exact⟨Tryz.call16⟩|refine cpe h1 ?_|exact⟨Tryz.call39⟩|refine cpe pb ?_|exact⟨Tryz.call41⟩|refine cpe lq ?_|exact⟨Tryz.call37⟩|(refine Qa _ ⟨jm (q:=0) ht rfl rfl rfl rfl,?_⟩)|exact⟨Tryz.call38⟩|(refine Qa _ ⟨jm (q:=2) hr rfl rfl rfl rfl,?_⟩)|(refine entE [(0,0),(1,3),(2,5)] ?_)|exact cSd|apply qb [62]|refine exr ?_|refine qf ?_)
 all_goals first|assumption|rfl|omega|(simp;done)
theorem zb2(d d1 d2 d3:qc)(o:Nat)(n s:qa)(b:v4)(l:zo)(e:ErrV)(hn:n.length<800000)(hg:xf n=true)(ht:xb 37 [v8 o n] o d .no d1)(hr:qdj o d1 n .no s d2)(hb:qr6 s b l)(h0:b.tail≠[])(hc:xb 40 [v8 o n,.i (ka b)] o d2 e d3)(he:e≠.no):qdh o d n e d3:=by
 have h1:=λst=>qgk n st Om;rw[hg]at h1;obtain⟨pb,lq,w0,w1,sl⟩:=hb;obtain⟨T,y,hy⟩:=qab he;obtain⟨bg,bb,bt,be,btl⟩:=b;simp only at h0;unfold xb at ht hc;unfold qdj at hr;unfold qdh;rw[hy]at hc⊢;generalize ka _=w at *;refine jx [.a (.bx o 0 0),.s n] (dH d o) 1 (.tu [.a nilP,.a (.ifc T y)]) (dH1 d3 o) 2 Tryz.func9 rfl rfl rfl rfl λS F ρ=>?_;apply qd [62];repeat' (first|apply Qb|(intro h;try exact cDd)|exact⟨Tryz.call16⟩|refine cpe h1 ?_|exact⟨Tryz.call39⟩|refine cpe pb ?_|exact⟨Tryz.call41⟩|refine cpe lq ?_|exact absurd h0 (by assumption)|exact⟨Tryz.call37⟩|(refine Qa _ ⟨jm (q:=0) ht rfl rfl rfl rfl,?_⟩)|exact⟨Tryz.call38⟩|(refine Qa _ ⟨jm (q:=2) hr rfl rfl rfl rfl,?_⟩)|exact⟨Tryz.call40⟩|(refine Qa _ ⟨jm (q:=3) hc rfl rfl rfl rfl,?_⟩)|(refine entE [(0,0),(1,5)] ?_)|exact cSd|apply qb [62]|refine exr ?_|refine qf ?_)
 all_goals first|assumption|rfl|omega|exact absurd h h0|(simp;done)
theorem zb3(d d1 d2 d3:qc)(o:Nat)(n s:qa)(b:v4)(l:zo)(hn:n.length<800000)(hg:xf n=true)(ht:xb 37 [v8 o n] o d .no d1)(hr:qdj o d1 n .no s d2)(hb:qr6 s b l)(h0:b.tail≠[])(hc:xb 40 [v8 o n,.i (ka b)] o d2 .no d3):qi5 o d n (s.take (ka b).toNat) d3:=by
 have h1:=λst=>qgk n st Om;rw[hg]at h1;obtain⟨pb,lq,w0,w1,sl⟩:=hb;obtain⟨bg,bb,bt,be,btl⟩:=b;simp only at h0;unfold xb at ht hc;unfold qdj at hr;unfold qi5;generalize ka _=w at *;obtain⟨w,rfl⟩:=Qz w0;rw[show((w:Int)).toNat=w from rfl];refine jx [.a (.bx o 0 0),.s n] (dH d o) 1 (.tu [.bx 2 0,.a (errA .no)]) [(1,some (.clu (qcn d3 o) [])),(2,some (hndC o n (s.take w)))] 3 Tryz.func9 rfl rfl rfl rfl λS F ρ=>?_;apply qd [62];repeat' (first|apply Qb|(intro h;try exact cDd)|exact⟨Tryz.call16⟩|refine cpe h1 ?_|exact⟨Tryz.call39⟩|refine cpe pb ?_|exact⟨Tryz.call41⟩|refine cpe lq ?_|exact absurd h0 (by assumption)|exact⟨Tryz.call37⟩|(refine Qa _ ⟨jm (q:=0) ht rfl rfl rfl rfl,?_⟩)|exact⟨Tryz.call38⟩|(refine Qa _ ⟨jm (q:=2) hr rfl rfl rfl rfl,?_⟩)|exact⟨Tryz.call40⟩|(refine Qa _ ⟨jm (q:=3) hc rfl rfl rfl rfl,?_⟩)|(refine entE [(0,0),(1,5),(2,6)] ?_)|exact cSd|apply qb [62]|refine exr ?_|refine qf ?_)
 all_goals first|assumption|rfl|omega|exact absurd h h0|(simp;done)
theorem qu3(d:qc)(o:Nat)(n:qa)(hd:d.Bd 700000)(hn:n.length<800000):((qd8 d n).1=.no->qi5 o d n (qd8 d n).2.1 (qd8 d n).2.2)∧((qd8 d n).1≠.no->qdh o d n (qd8 d n).1 (qd8 d n).2.2):=by
 unfold qd8
 cases hg:xf n with
 |false=>
  rw[if_pos rfl]
  exact⟨λh=>by simp at h,λ_=>q5m d o n hn hg⟩
 |true=>
  rw[if_neg Sx];have ht:=zin d o n (hd.mono Om) Om;have o0:=q1k hd n;generalize wp d n=p1 at *;obtain⟨e1,d1⟩:=p1;simp only at ht o0⊢;by_cases h1:e1=.no
  .subst h1
   rw[if_neg Sx];have hr:qdj o d1 n _ _ _:=zf9 d1 o n (o0.mono Om) Om;have hd2:=q0v o0 n Om;have px:=q9u o0 n;generalize vl d1 n=p2 at *;obtain⟨e2,s,d2⟩:=p2;simp only at hr hd2 px⊢;by_cases h2:e2=.no
   .subst h2
    rw[if_neg Sx];by_cases h3:(zg s).1=.no
    .rw[if_neg (by simpa using h3)]
     have hb:=zim s Om h3;generalize(zg s).2.1=b at *;generalize(zg s).2.2=l at *;by_cases h4:b.tail=[]
     .rw[if_pos h4]
      exact⟨λ_=>zb1 d d1 d2 o n s b l hn hg ht hr hb h4,λh=>by simp at h⟩
     .rw[if_neg h4]
      have hc:=zid d2 o n (ka b) (hd2.mono Om) Om (by have:=hb.w1;have:=hb.sl;omega);generalize cutP d2 n (ka b)=p3 at *;obtain⟨e3,d3⟩:=p3;simp only at hc⊢;by_cases h5:e3=.no
      .subst h5
       rw[if_neg Sx];exact⟨λ_=>zb3 d d1 d2 d3 o n s b l hn hg ht hr hb h4 hc,λh=>by simp at h⟩
      .rw[if_pos h5]
       exact⟨λh=>absurd h h5,λ_=>zb2 d d1 d2 d3 o n s b l e3 hn hg ht hr hb h4 hc h5⟩
    .rw[if_pos h3]
     exact⟨λh=>absurd h h3,λ_=>zb0 d d1 d2 o n s hn hg ht hr Om h3⟩
   .rw[if_pos h2]
    exact⟨λh=>absurd h h2,λ_=>zbz d d1 d2 o n s e2 hn hg ht hr h2⟩
  .rw[if_pos h1]
   exact⟨λh=>absurd h h1,λ_=>zby d d1 o n e1 hn hg ht h1⟩
theorem q0m{N:Nat}{d:qc}(h:d.Bd N)(n:qa)(hn:n.length<1000000):(qd8 d n).2.2.Bd (N+12):=by
 have h1:=q1k h n;have h2:=q0v h1 n hn;have h3:=λk=>ze1 h2 n k;unfold qd8;repeat' split
 all_goals first|exact h.mono Om|exact h1.mono Om|exact h2.mono Om|exact h3 _
@[reducible] def hndH (o : Nat) (n t : qa) : List (Nat × Option SR) := [(0, some (hndC o n t))]
@[reducible] def dhH (o : Nat) (n t : qa) (d : qc) : List (Nat × Option SR) := [(0, some (hndC o n t)), (1, some (.clu (qcn d o) []))]
@[reducible] def dhH2 (o : Nat) (n t : qa) (d : qc) : List (Nat × Option SR) := [(0, some (hndC o n t)), (2, some (.clu (qcn d o) []))]
theorem q3q(o:Nat)(n t:qa):qz E 11 [.bx 0 0] 1 (hpF (hndH o n t)) ⟨.s t,q8 (hndH o n t),hndH o n t++q9 (hndH o n t),1⟩:=by
 refine je [.bx 0 0] (hndH o n t) 1 _ (hndH o n t) 1 Tryz.func11 rfl rfl rfl rfl λS F ρ=>?_;apply qd [];repeat' (first|apply Qb|(intro h;try exact cDd)|exact cSd|apply qb []|refine exr ?_|refine qf ?_)
 all_goals first|assumption|rfl|omega|(simp;done)
theorem qzh(o:Nat)(n t:qa)(d:qc)(hd:d.Bd 900000)(hn:n.length<1000000):qz E 12 [.bx 0 0] 2 (hpF (dhH o n t d)) ⟨.a (errA (qfy d n t)),q8 (dhH o n t d),dhH2 o n t d++q9 (dhH o n t d),3⟩:=by
 have hr:=quz d o n hd hn;unfold qfy;generalize(d.read n).2=s at *;rcases qt0 d n with h0|⟨k,h0⟩
 .have fc:=λst=>q76 3 st
  rw[h0]at hr⊢;rw[if_neg Sx];by_cases hs:s=t
  .rw[if_neg (by simp[hs])]
   refine jx [.bx 0 0] (dhH o n t d) 2 (.a (errA .no)) (dhH2 o n t d) 3 Tryz.func12 rfl rfl rfl rfl λS F ρ=>?_;apply qd [];repeat' (first|apply Qb|(intro h;try exact cDd)|exact⟨Tryz.call43⟩|refine cpe fc ?_|exact absurd hs (by assumption)|exact⟨Tryz.call36⟩|(refine Qa _ ⟨jm (q:=1) hr rfl rfl rfl rfl,?_⟩)|(refine entE [(0,0),(1,1),(2,2)] ?_)|exact cSd|apply qb []|refine exr ?_|refine qf ?_)
   all_goals first|assumption|rfl|omega|(simp;done)
  .rw[if_pos (.inr hs)]
   refine jx [.bx 0 0] (dhH o n t d) 2 (.a (errA (.num 8))) (dhH2 o n t d) 3 Tryz.func12 rfl rfl rfl rfl λS F ρ=>?_;apply qd [];repeat' (first|apply Qb|(intro h;try exact cDd)|exact⟨Tryz.call43⟩|refine cpe fc ?_|exact absurd hs (by assumption)|exact⟨Tryz.call36⟩|(refine Qa _ ⟨jm (q:=1) hr rfl rfl rfl rfl,?_⟩)|(refine entE [(0,0),(1,1),(2,2)] ?_)|exact cSd|apply qb []|refine exr ?_|refine qf ?_)
   all_goals first|assumption|rfl|omega|(simp;done)
 .have fc:=λst=>q77 k 3 st
  rw[h0]at hr⊢;by_cases hk:k=3
  .subst hk
   rw[decide_eq_true rfl]at fc;rw[if_pos rfl];refine jx [.bx 0 0] (dhH o n t d) 2 (.a (errA (.num 3))) (dhH2 o n t d) 3 Tryz.func12 rfl rfl rfl rfl λS F ρ=>?_;apply qd [];repeat' (first|apply Qb|(intro h;try exact cDd)|exact⟨Tryz.call43⟩|refine cpe fc ?_|exact⟨Tryz.call36⟩|(refine Qa _ ⟨jm (q:=1) hr rfl rfl rfl rfl,?_⟩)|(refine entE [(0,0),(1,1),(2,2)] ?_)|exact cSd|apply qb []|refine exr ?_|refine qf ?_)
   all_goals first|assumption|rfl|omega|(simp;done)
  .rw[decide_eq_false hk]at fc
   rw[if_neg (by simp[hk]),if_pos (.inl Sx)];refine jx [.bx 0 0] (dhH o n t d) 2 (.a (errA (.num 8))) (dhH2 o n t d) 3 Tryz.func12 rfl rfl rfl rfl λS F ρ=>?_;apply qd [];repeat' (first|apply Qb|(intro h;try exact cDd)|exact⟨Tryz.call43⟩|refine cpe fc ?_|exact⟨Tryz.call36⟩|(refine Qa _ ⟨jm (q:=1) hr rfl rfl rfl rfl,?_⟩)|(refine entE [(0,0),(1,1),(2,2)] ?_)|exact cSd|apply qb []|refine exr ?_|refine qf ?_)
   all_goals first|assumption|rfl|omega|(simp;done)
end Go.Proofs.YthnbabbhpeebbaaGreatDoor
namespace Go.Av
open Go Go.RowKit
section
variable {E : Env} {N : Nat} {ops : Array Oper} {nx : Nat} {sl : List (Nat × SV)} {H : Nat → Option SR} {k : Ef → Prop} {d : Option Tmp} {T : TypeId} {p : String} {af : Array Edge}
theorem q0f{α β:Type}(f:α->β):∀(l:List α)(k:Nat),(zl k l).map (λq=>(q.1,f q.2))=zl k (l.map f)
 | [],_=>rfl
 |x::r,k=>by simp only[zl,Zm,q0f f r]
theorem qg9{t e:TypeId}{n:Nat}{parts:Array (Nat×Operand)}(vs:List SV){agg:Bool}{zs:List AV}(hp:qm6 N sl parts.toList=some (zl 0 vs))(hv:(vs.all λv=>v.one&&v.okc&&v.all (λk=> !Nat.beq k nx))=true)(he:elT (E.P.underlying t)=some e)(ht:tyOf E.P e=some (1,agg))(hz:qes E.P e n=some zs)(hzl:zs.length=n)(hn:vs.length=n)(h0:Qo 1 n=true)(h9:Qo (n*1) 16777216=true)
  (h:k ⟨.tp nx,[],[(nx,some (.rows e [] vs))],nx+1⟩):∃e,Loc E N ops ⟨d,.buildSlice t n parts,T,p,af,none⟩ nx sl H e∧k e:=by
 have hv:∀v∈vs,v.one=true∧v.okc=true∧v.all (λk=> !Nat.beq k nx)=true:=λv hm=>by
  have:=Qq.1 hv v hm;simp only[Qm]at this;exact⟨this.1.1,this.1.2,this.2⟩
 have h0:=Qd h0;refine⟨_,qi1 (λk r hk=>by rw[qdv]at hk;simp at hk) λdf rd K rest ρ t' S hs _ hk=>?_,h⟩;have b9:(SV.evs ρ vs).length=n:=by rw[zw,Qt,hn]
 have pq:vk N ⟨t',S,df⟩ parts=zl 0 (SV.evs ρ vs):=by
  unfold vk;rw[qgu hs hp,q0f,zw]
 have hme:∀y∈SV.evs ρ vs,y.okc=true∧y.cells=[y]:=λy hy=>by
  rw[zw]at hy;obtain⟨v,hv1,rfl⟩:=Ze.1 hy;obtain⟨g1,g2,g3⟩:=hv v hv1;exact⟨qtt ρ v g2,qor (qvg ρ v g1)⟩
 have nw:=qmg (sz:=1) (SV.evs ρ vs) 0 [] zs (λy hy=>⟨(hme y hy).1,by rw[(hme y hy).2];rfl⟩) Sx (by rw[hzl,b9,Nat.mul_one])
 have r6:flat (SV.evs ρ vs)=SV.evs ρ vs:=by
  have:∀l:List AV,(∀y∈l,y.cells=[y])->flat l=l:=λl=>by
   induction l with
   |nil=>intro _;rfl
   |cons y r ih=>
    intro h;have h1:=ih λz hz=>h z (by simp[hz]);unfold flat at h1⊢;rw[List.flatMap_cons,h y Sx,h1];rfl
  exact this _ λy hy=>(hme y hy).2
 rw[r6]at nw;refine qaw (loc:=[]) (st:=S) Sx (qbg he) ht hz (by rw[pq];simpa using nw) h9 ?_
 have fx:∀c,SV.evs (upd ρ nx c) vs=SV.evs ρ vs:=λc=>by
  rw[zw,zw];exact List.map_congr_left λv hm=>(xe (f:=λk=> !Nat.beq k nx) (ρ:=ρ) (ρ':=upd ρ nx c) (λk hk=>jq _ _ (λe=>by subst e;simp at hk)) v (hv v hm).2.2)
 have:=hk (.os S.length 0 0 n n) [.cells 0 e (SV.evs ρ vs)]
  (by
   show OwnS _ 1 e (SV.evs (upd ρ nx (.os S.length 0 0 n n)) vs) _
   rw[fx];refine .inr ⟨S.length,0,n-1,[],by rw[b9,Nat.sub_add_cancel h0],by rw[r6,Qj];exact we,by rw[r6,Qj,b9];omega,λx hx=>by rw[(hme x hx).2];rfl,by rw[b9];omega,?_⟩;have:=Qd h9;unfold maxLen
   omega)
  (λo ho=>by
   have dw:o∈[S.length]:=by
    cases n with
    |zero=>cases ho
    |succ m=>exact ho
   simp only[Qu]at dw
   exact Nat.le_of_eq dw.symm)
 simpa[SV.ev,zi,tpAt,AV.one]using this
theorem qrr{x:Operand}{ts:Array TypeId}{b:Nat}{e e' t0:TypeId}{zs:List AV}{cs:List SV}(n:Int)(hx:sval N sl x=some (.tp b))(hH:H b=some (.rows e zs cs))(hn:((zs.length+cs.length:Nat):Int)=n)(ht:ts[0]?=some t0)(he:elT (E.P.underlying t0)=some e')
  (h:k ⟨.i n,[b],[],nx⟩):∃e,Loc E N ops ⟨d,.call ⟨.builtin .len,#[x],ts⟩,T,p,af,none⟩ nx sl H e∧k e:=by
 refine⟨_,w6 (v:=.i n) λdf rd K rest ρ t' S hs hS hk=>?_,h⟩;have b9:(zs++SV.evs ρ cs).length=zs.length+cs.length:=by rw[Zd,zw,Qt]
 have ho:OwnS S 1 e (zs++SV.evs ρ cs) (ρ b):=hS.ok b _ ((z8 b).trans hH);refine kc (v:=ρ b) ((qs hs hx).trans (qnc ho)) (q0r ho) ht (qbg he) ?_;rw[b9,hn];exact hk
end
end Go.Av
namespace Go.Proofs.YthnbabbhpeebbaaGreatDoor
open Go Go.Av Go.RowKit Go.Proofs Go.Pl
abbrev qj2(o:Nat)(n t:qa)(b:List qt)(e:ErrV)(s:qa):Prop:=qz E 48 [.bx 0 0,.a (jz b)] 1 (hpF (hndH o n t)) ⟨.tu [.s s,.a (errA e)],q8 (hndH o n t),hndH o n t++q9 (hndH o n t),1⟩
theorem q8i(o:Nat)(n t:qa)(b:List qt)(ht:t.length<1000000)(hB:∀x∈b,EdB x)(hl:b.length<1000000):qj2 o n t b (xa t b).1 (xa t b).2:=by
 have pb:=λst=>qvf t st ht;have hap:=λst=>zg6 t b st ht hB hl;unfold xa qj2;by_cases h1:(zg t).1=.no
 .rw[if_neg (by simpa using h1)]
  obtain⟨bk,r,hT,hp,he⟩:=qed h1;have hBk:=qqz hT;have hpk:=zcw bk.base bk.batches hBk.len;rw[hp]at hpk;obtain⟨hlb,_,hli⟩:=hpk;dsimp only at hlb hli;have hdo:=λst=>q5c 860000 r.l b st hlb Om hB hl;rw[he]at pb⊢;replace pb:∀st,qm E 39 [Sv t] st λq st'=>q=.tu [.ag [Iv bk.gen,Sv bk.base,qe3 bk.batches,qa2 bk.ends,Sv bk.tail],qb1 r.l,errA .no]∧st'=st:=pb;simp only;unfold doA at hdo;generalize doF r.l b=dd at *;obtain⟨e2,w,ids⟩:=dd;simp only at hdo⊢;by_cases h2:e2=.no
  .subst h2
   rw[if_neg Sx];simp only at hdo;generalize Go.Pl.appF t b=q at *;obtain⟨e3,s⟩:=q;simp only at hap⊢
   cases e3
   all_goals
    refine je [.bx 0 0,.a (jz b)] (hndH o n t) 1 _ (hndH o n t) 1 Tryz.func48 rfl rfl rfl rfl λS F ρ=>?_;apply qd [];repeat' (first|apply Qb|(intro h;try exact cDd)|exact⟨Tryz.call39⟩|refine cpe pb ?_|exact⟨Tryz.call97⟩|refine cpe hdo ?_|exact⟨Tryz.call67⟩|refine cpe hap ?_|exact cSd|apply qb []|refine exr ?_|refine qf ?_)
    all_goals first|assumption|rfl|omega|(simp;done)
  .rw[if_pos h2]
   obtain⟨T,y,hy⟩:=qab h2
   have hdo2:∀st,qm E 97 [qb1 r.l,jz b] st λq st'=>q=.tu [.v (.pointer none),qa2 [],.ifc T y]∧st'=st:=by
    rw[<-hy]
    cases e2 with
    |no=>exact absurd rfl h2
    |num k=>exact hdo
    |at' k m=>exact hdo
   rw[hy];refine je [.bx 0 0,.a (jz b)] (hndH o n t) 1 (.tu [.s [],.a (.ifc T y)]) (hndH o n t) 1 Tryz.func48 rfl rfl rfl rfl λS F ρ=>?_;apply qd [];repeat' (first|apply Qb|(intro h;try exact cDd)|exact⟨Tryz.call39⟩|refine cpe pb ?_|exact⟨Tryz.call97⟩|refine cpe hdo2 ?_|exact cSd|apply qb []|refine exr ?_|refine qf ?_)
   all_goals first|assumption|rfl|omega|(simp;done)
 .rw[if_pos h1]
  obtain⟨T,y,hy⟩:=qab h1
  have hrt2:qf7 (zg t)=.tu [qcm (zg t).2.1,.v (.pointer none),.ifc T y]:=by
   rw[<-hy];unfold qf7;split
   .exact absurd (by assumption) h1
   .rfl
  rw[hrt2]at pb;rw[hy];generalize(zg t).2.1=bk at *;obtain⟨bg,bb,bt,be,btl⟩:=bk;refine je [.bx 0 0,.a (jz b)] (hndH o n t) 1 (.tu [.s [],.a (.ifc T y)]) (hndH o n t) 1 Tryz.func48 rfl rfl rfl rfl λS F ρ=>?_;apply qd [];repeat' (first|apply Qb|(intro h;try exact cDd)|exact⟨Tryz.call39⟩|refine cpe pb ?_|exact cSd|apply qb []|refine exr ?_|refine qf ?_)
  all_goals first|assumption|rfl|omega|(simp;done)
@[reducible] def actH (o : Nat) (n t : qa) (d : qc) (m : qa) : List (Nat × Option SR) := [(0, some (hndC o n t)), (1, some (.clu (qcn d o) [])), (2, some (.cells 28 [.bx 0 0])), (3, some (.cells 9 [.s m]))]
@[reducible] def qr8 (o : Nat) (n t : qa) (d : qc) (m : qa) : List (Nat × Option SR) := [(0, some (hndC o n t)), (4, some (.clu (qcn d o) [])), (2, some (.cells 28 [.bx 0 0])), (3, some (.cells 9 [.s m]))]
theorem q67(o:Nat)(n t m:qa)(d:qc)(hd:d.Bd 900000)(hn:n.length<1000000)(hm:m.length<1000000):qz E 50 [.bx 2 0,.bx 3 0] 4 (hpF (actH o n t d m)) ⟨.a (errA (d.write n m).1),q8 (actH o n t d m),qr8 o n t (d.write n m).2 m++q9 (actH o n t d m),5⟩:=by
 have hw:=qza d o n m hd hn hm;generalize d.write n m=p at *;obtain⟨e,d1⟩:=p;simp only at hw⊢;refine jx [.bx 2 0,.bx 3 0] (actH o n t d m) 4 (.a (errA e)) (qr8 o n t d1 m) 5 Tryz.func50 rfl rfl rfl rfl λS F ρ=>?_;apply qd [];repeat' (first|apply Qb|(intro h;try exact cDd)|exact⟨Tryz.call29⟩|(refine Qa _ ⟨jm (q:=1) hw rfl rfl rfl rfl,?_⟩)|(refine entE [(0,0),(1,1),(2,2),(3,3),(4,4)] ?_)|exact cSd|apply qb []|refine exr ?_|refine qf ?_)
 all_goals first|assumption|rfl|omega|(simp;done)
@[reducible] def actR (o : Nat) (n t : qa) (d : qc) (m : qa) : List (Nat × Option SR) := [(0, some (hndC o n t)), (1, some (.clu (qcn d o) [])), (2, some (.cells 28 [.bx 0 0])), (3, some (.cells 9 [.s m])), (4, some (.rows 36 [] [.fn (.func 50) [] [.bx 2 0, .bx 3 0], .fn (.func 51) [v8 o n] []]))]
@[reducible] def qxx (o : Nat) (n t : qa) (d : qc) (m : qa) : List (Nat × Option SR) := [(0, some (hndC o n t)), (5, some (.clu (qcn d o) [])), (2, some (.cells 28 [.bx 0 0])), (3, some (.cells 9 [.s m]))]
abbrev qdi(o:Nat)(n t:qa)(d:qc)(m:qa)(e:ErrV)(d':qc):Prop:=qz E 49 [.tp 4] 5 (hpF (actR o n t d m)) ⟨.a (errA e),q8 (actR o n t d m),qxx o n t d' m++q9 (actR o n t d m),6⟩
theorem q8d(o:Nat)(n t m:qa)(d d1:qc)(e:ErrV)(hw:qz E 50 [.bx 2 0,.bx 3 0] 4 (hpF (actH o n t d m)) ⟨.a (errA e),q8 (actH o n t d m),qr8 o n t d1 m++q9 (actH o n t d m),5⟩)(he:e≠.no):qdi o n t d m e d1:=by
 obtain⟨T,y,hy⟩:=qab he;unfold qdi;rw[hy]at hw⊢;refine jx [.tp 4] (actR o n t d m) 5 (.a (.ifc T y)) (qxx o n t d1 m) 6 Tryz.func49 rfl rfl rfl rfl λS F ρ=>?_;apply jp;repeat' (first|apply Qb|(intro h;try exact cDd)|(refine qae (id:=1) ?_)|(refine qae (id:=3) ?_)|(refine v6 [] ?_)|(refine qow (qee (jp ?_)))|(refine qee (jp ?_))|(refine locX (qhu (i:=0) rfl rfl rfl rfl rfl rfl (Qd rfl) ?_))|(refine locX (qhv (i:=0) rfl rfl rfl rfl rfl rfl ?_))|(refine locX (qrr 2 rfl rfl rfl rfl rfl ?_))|(refine locK ?_)|exact⟨Tryz.call50⟩|(refine qcy [(0,0),(1,1),(2,2),(3,3)] hw ?_)|(refine entE [(0,0),(1,1),(2,2),(3,3),(4,4),(5,5)] ?_)|exact cSd|apply qb []|refine exr ?_|refine qf ?_)
 all_goals first|assumption|rfl|omega|(simp;done)
theorem q8e(o:Nat)(n t m:qa)(d d1 d2:qc)(e:ErrV)(hw:qz E 50 [.bx 2 0,.bx 3 0] 4 (hpF (actH o n t d m)) ⟨.a (errA .no),q8 (actH o n t d m),qr8 o n t d1 m++q9 (actH o n t d m),5⟩)(hs:xb 51 [v8 o n] o d1 e d2)(he:e≠.no):qdi o n t d m e d2:=by
 obtain⟨T,y,hy⟩:=qab he;unfold xb at hs;unfold qdi;rw[hy]at hs⊢;refine jx [.tp 4] (actR o n t d m) 5 (.a (.ifc T y)) (qxx o n t d2 m) 6 Tryz.func49 rfl rfl rfl rfl λS F ρ=>?_;apply jp;repeat' (first|apply Qb|(intro h;try exact cDd)|(refine qae (id:=1) ?_)|(refine qae (id:=3) ?_)|(refine v6 [] ?_)|(refine qow (qee (jp ?_)))|(refine qee (jp ?_))|(refine locX (qhu (i:=0) rfl rfl rfl rfl rfl rfl (Qd rfl) ?_))|(refine locX (qhv (i:=0) rfl rfl rfl rfl rfl rfl ?_))|(refine locX (qhu (i:=1) rfl rfl rfl rfl rfl rfl (Qd rfl) ?_))|(refine locX (qhv (i:=1) rfl rfl rfl rfl rfl rfl ?_))|(refine locX (qrr 2 rfl rfl rfl rfl rfl ?_))|(refine locK ?_)|exact⟨Tryz.call50⟩|exact⟨Tryz.call51⟩|(refine qcy [(0,0),(1,1),(2,2),(3,3)] hw ?_)|(refine Qa _ ⟨jm (q:=5) hs rfl rfl rfl rfl,?_⟩)|(refine entE [(0,0),(1,1),(2,2),(3,3),(4,4),(5,6)] ?_)|exact cSd|apply qb []|refine exr ?_|refine qf ?_)
 all_goals first|assumption|rfl|omega|(simp;done)
theorem q8f(o:Nat)(n t m:qa)(d d1 d2:qc)(hw:qz E 50 [.bx 2 0,.bx 3 0] 4 (hpF (actH o n t d m)) ⟨.a (errA .no),q8 (actH o n t d m),qr8 o n t d1 m++q9 (actH o n t d m),5⟩)(hs:xb 51 [v8 o n] o d1 .no d2):qdi o n t d m .no d2:=by
 unfold xb at hs;unfold qdi;refine jx [.tp 4] (actR o n t d m) 5 (.a (errA .no)) (qxx o n t d2 m) 6 Tryz.func49 rfl rfl rfl rfl λS F ρ=>?_;apply jp;repeat' (first|apply Qb|(intro h;try exact cDd)|(refine qae (id:=1) ?_)|(refine qae (id:=3) ?_)|(refine v6 [] ?_)|(refine qow (qee (jp ?_)))|(refine qee (jp ?_))|(refine locX (qhu (i:=0) rfl rfl rfl rfl rfl rfl (Qd rfl) ?_))|(refine locX (qhv (i:=0) rfl rfl rfl rfl rfl rfl ?_))|(refine locX (qhu (i:=1) rfl rfl rfl rfl rfl rfl (Qd rfl) ?_))|(refine locX (qhv (i:=1) rfl rfl rfl rfl rfl rfl ?_))|(refine locX (qrr 2 rfl rfl rfl rfl rfl ?_))|(refine locK ?_)|exact⟨Tryz.call50⟩|exact⟨Tryz.call51⟩|(refine qcy [(0,0),(1,1),(2,2),(3,3)] hw ?_)|(refine Qa _ ⟨jm (q:=5) hs rfl rfl rfl rfl,?_⟩)|(refine entE [(0,0),(1,1),(2,2),(3,3),(4,4),(5,6)] ?_)|exact cSd|apply qb []|refine exr ?_|refine qf ?_)
 all_goals first|assumption|rfl|omega|(simp;done)
theorem zbw(o:Nat)(n t m:qa)(d:qc)(hd:d.Bd 700000)(hn:n.length<1000000)(hm:m.length<190000):qdi o n t d m (vw (d.write n m) λd=>d.sync n).1 (vw (d.write n m) λd=>d.sync n).2:=by
 have hw:=q67 o n t m d (hd.mono Om) hn Om;have hs:=q32 (d.write n m).2 o n ((hd.write n m).mono Om) hn;unfold vw;generalize d.write n m=p at *;obtain⟨e1,d1⟩:=p;simp only at hw hs⊢;by_cases h1:e1=.no
 .subst h1
  rw[if_pos rfl];generalize d1.sync n=p at *;obtain⟨e2,d2⟩:=p;simp only at hs⊢;by_cases h2:e2=.no
  .subst h2
   exact q8f o n t m d d1 d2 hw hs
  .exact q8e o n t m d d1 d2 e2 hw hs h2
 .rw[if_neg h1]
  exact q8d o n t m d d1 e1 hw h1
end Go.Proofs.YthnbabbhpeebbaaGreatDoor
