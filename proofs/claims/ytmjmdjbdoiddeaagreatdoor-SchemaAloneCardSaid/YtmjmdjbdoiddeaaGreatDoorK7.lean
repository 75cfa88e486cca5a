/- Contracts and plain facts that the closing text leans on (part 7). No condition of their own beyond those that each states. -/
import Derived.Test.YtmjmdjbdoiddeaaGreatDoorK6
set_option maxRecDepth 100000
set_option linter.unusedVariables false
set_option linter.unusedSimpArgs false
namespace Go.Pl
open Go Go.Proofs
def fstB (p:qd→Bool):Nat→List qd→Int
 | _,[]=> -1
 |k,x::r=>if p x=true then (k:Int) else fstB p (k+1) r
theorem qpv (p:qd→Bool):∀ (xs:List qd) (k:Nat),0≤fstB p k xs↔xs.any p=true
 | [],k=>by simp [fstB]
 |x::r,k=>by
  unfold fstB
  by_cases h:p x=true
  ·rw [if_pos h]
   simp [h]
  ·rw [if_neg h,qpv p r (k+1)]
   simp [h]
end Go.Pl
namespace Go.Proofs.YtmjmdjbdoiddeaaGreatDoor
open Go Go.Av Go.RowKit Go.Proofs Go.Pl
@[reducible] def bytA (xs : List qd) : AV := .sl 1 (xs.map fun x => Sv x) none
@[reducible] def qfe (x : Int × Int) : AV := .ag [Iv x.1, Iv x.2]
@[reducible] def qbl (fs : List (Int × Int)) : AV := .sl 2 (fs.map qfe) none
@[reducible] def x8 (rs : List zp) : AV := .sl 5 (rs.map wj) none
theorem qjo (fs:List (Int×Int)):Pure (qbl fs):=qa9 fun x hx=>by
 obtain⟨f,_,rfl⟩:=List.mem_map.1 hx
 intro y hy
 simp only [AV.cells,List.mem_cons,List.not_mem_nil,or_false] at hy
 rcases hy with rfl|rfl <;> exact q7 _
theorem qsl (rs:List zp):Pure (x8 rs):=qa9 fun x hx=>by
 obtain⟨f,_,rfl⟩:=List.mem_map.1 hx
 exact qvc f
@[reducible] def yu (L : List (qd × Int)) : List (Nat × Option SR) := [(0, some (.cells 123 [.tp 1])), (1, some (.obj (mapP (L.map (kvM keyS)))))]
@[reducible] def qk6 : SV := .fn (.func 61) [] [.bx 0 0]
theorem q2o (s:qd) (L:List (qd×Int)):x4 E 61 [.s s,.bx 0 0] 2 (hpF (yu L)) ⟨.b (decide (0<getM s L)),xj (yu L),yu L++yc (yu L),2⟩:=by
 refine qam [.s s,.bx 0 0] (yu L) 2 (.b (decide (0<getM s L))) (yu L) 2 Tryz.func61 rfl rfl rfl rfl fun S F ρ=>?_
 apply qi []
 repeat' (first|apply And.intro|(intro h;try exact cDd)|(refine qza qxt rfl rfl rfl (fun _=>rfl) rfl rfl rfl rfl ?_)|exact cSd|apply qg []|refine exr ?_|refine qk ?_)
 all_goals first|assumption|rfl|(simp;done)
theorem q2v (xs:List qd) (L:List (qd×Int)) (hl:xs.length<1000000):x4 E 75 [.a (bytA xs),qk6] 2 (hpF (yu L)) ⟨.i (fstB (fun s=>decide (0<getM s L)) 0 xs),xj (yu L),yu L++yc (yu L),2⟩:=by
 refine qam [.a (bytA xs),qk6] (yu L) 2 (.i (fstB (fun s=>decide (0<getM s L)) 0 xs)) (yu L) 2 Tryz.func75 rfl rfl rfl rfl fun S F ρ=>?_
 have hml:(xs.map fun x=>Sv x).length=xs.length:=by simp
 apply qi []
 repeat' (first|apply And.intro|(intro h;try exact cDd)|exact cSd|apply qg []|refine exr ?_|refine qk ?_)
 refine vv (X:=Nat) (fun k=>⟨[(0,.a (bytA xs)),(1,qk6),(7,.i xs.length),(8,.i k)],yu L,2⟩) (fun k=>k≤xs.length∧fstB (fun s=>decide (0<getM s L)) k (xs.drop k)=fstB (fun s=>decide (0<getM s L)) 0 xs) (fun k=>xs.length - k) 0 ⟨by omega,by simp⟩ ?_ ?_
 ·skip
  repeat' (first|apply And.intro|(intro h;try exact cDd)|exact cSd|apply qg []|refine exr ?_|refine qk ?_)
  all_goals first|assumption|rfl|(simp;done)
 ·rintro k ⟨hk,hrun⟩
  by_cases hkn:k<xs.length
  ·have hx:xs[k]? = some xs[k]:=List.getElem?_eq_getElem hkn
   have hxm:(xs.map fun x=>Sv x)[k]? = some (Sv xs[k]):=by rw [List.getElem?_map,hx];rfl
   rw [List.drop_eq_getElem_cons hkn,fstB] at hrun
   have h1:=q2o xs[k] L
   generalize xs[k]=s at hx hxm hrun h1
   cases hd:decide (0<getM s L) with
   |true=>
    rw [hd] at h1
    rw [hd,if_pos rfl] at hrun
    rw [← hrun]
    apply qi []
    repeat' (first|apply And.intro|(intro h;try exact cDd)|(refine Exists.intro (k) ⟨by omega,_,hxm,?_⟩)|exact⟨Tryz.call61⟩|(refine xo h1 ?_)|exact cSd|apply qg []|refine exr ?_|refine qk ?_)
    all_goals first|assumption|rfl
   |false=>
    rw [hd] at h1
    rw [hd,if_neg (by simp)] at hrun
    apply qi []
    repeat' (first|apply And.intro|(intro h;try exact cDd)|(refine Exists.intro (k) ⟨by omega,_,hxm,?_⟩)|exact⟨Tryz.call61⟩|(refine xo h1 ?_)|(refine Exists.intro (k+1) ⟨⟨by omega,hrun⟩,by omega,?_⟩)|exact cSd|apply qg []|refine exr ?_|refine qk ?_)
    all_goals first|assumption|rfl
  ·have hkn:k=xs.length:=by omega
   subst hkn
   rw [List.drop_length,fstB] at hrun
   rw [← hrun]
   apply qi []
   repeat' (first|apply And.intro|(intro h;try exact cDd)|exact cSd|apply qg []|refine exr ?_|refine qk ?_)
   all_goals first|assumption|rfl
theorem q2j (xs:List qd) (L:List (qd×Int)) (hl:xs.length<1000000):x4 E 60 [.a (bytA xs),qk6] 2 (hpF (yu L)) ⟨.b (xs.any fun s=>decide (0<getM s L)),xj (yu L),yu L++yc (yu L),2⟩:=by
 refine qam [.a (bytA xs),qk6] (yu L) 2 (.b (xs.any fun s=>decide (0<getM s L))) (yu L) 2 Tryz.func60 rfl rfl rfl rfl fun S F ρ=>?_
 have h1:=q2v xs L hl
 have h2:=qpv (fun s=>decide (0<getM s L)) xs 0
 generalize fstB (fun s=>decide (0<getM s L)) 0 xs=n at *
 cases hb:(xs.any fun s=>decide (0<getM s L)) with
 |true=>
  have h3:=h2.2 hb
  apply qi []
  repeat' (first|apply And.intro|(intro h;try exact cDd)|exact⟨Tryz.call75⟩|(refine xo h1 ?_)|exact cSd|apply qg []|refine exr ?_|refine qk ?_)
  all_goals first|assumption|rfl|(simp;omega)|omega
 |false=>
  have h3:¬ 0≤n:=fun h=>by rw [h2.1 h] at hb;cases hb
  apply qi []
  repeat' (first|apply And.intro|(intro h;try exact cDd)|exact⟨Tryz.call75⟩|(refine xo h1 ?_)|exact cSd|apply qg []|refine exr ?_|refine qk ?_)
  all_goals first|assumption|rfl|(simp;omega)|omega
theorem qwl (key:qd) (all:List (Int×List Fld)) (st:List AObj) (hl:all.length<1000000) (hf:∀ x∈all,x.2.length<1000000):qp E 37 [Sv key,x9 all] st fun r st'=>r=qol (qad key [] all)∧st'=st:=by
 refine wz [.s key,.a (x9 all)] (qlh _) Tryz.func37 rfl rfl (fun _=>rfl) rfl fun S0=>?_
 have hml:(all.map stzA).length=all.length:=by simp
 apply qi []
 repeat' (first|apply And.intro|(intro h;try exact cDd)|(refine q1i ?_)|exact cSd|apply qg []|refine exr ?_|refine qk ?_)
 refine vv (X:=Nat×List (qd×Int)) (fun (k,L)=>⟨[(0,.s key),(5,.tp 2),(6,.bx 0 0),(13,.a (x9 all)),(14,.i all.length),(15,.i k)],[(0,some (.cells 123 [.tp 1])),(1,some (.obj (mapP (L.map (kvM keyS))))),(2,some (.tip 1 3 ((qad key [] (all.take k)).map fun n=>Iv n)))],3⟩)
  (fun (k,L)=>k≤all.length∧qhu key L (all.take k)) (fun (k,_)=>all.length - k) (0,[]) ⟨by omega,qzv key⟩ ?_ ?_
 ·skip
  repeat' (first|apply And.intro|(intro h;try exact cDd)|exact cSd|apply qg []|refine exr ?_|refine qk ?_)
  all_goals first|assumption|rfl|(simp [qad];done)
 ·rintro⟨k,L⟩ ⟨hk,hs⟩
  by_cases hkn:k<all.length
  ·have hx:all[k]? = some all[k]:=List.getElem?_eq_getElem hkn
   have hxm:(all.map stzA)[k]? = some (stzA all[k]):=by rw [List.getElem?_map,hx];rfl
   have hxf:=hf _ (List.getElem_mem hkn)
   have htk:all.take (k+1)=all.take k++[all[k]]:=by rw [List.take_add_one,hx];rfl
   generalize all[k]=x at hx hxm hxf htk
   have hst:=qxu x (n:=(k:Int)+1) (by omega) hs
   rw [← htk] at hst
   have hdp:=qzu hs x
   have hsn:=qnd key (all.take k) [] x
   rw [← htk,List.nil_append] at hsn
   have hdl:=qj4 key (all.take k) []
   have hdl2:(all.take k).length≤all.length:=by simp;omega
   have hv:=fun st=>qrk key x.2 st (by omega)
   have hvl:=qhl key x.2
   have hc:=q2j (vf key x.2) L (by omega)
   rw [hdp] at hc
   have hvm:((vf key x.2).map fun x=>Sv x).length=(vf key x.2).length:=by simp
   have hol:((qad key [] (all.take k)).map fun n=>Iv n).length≤1000000:=by rw [List.length_map];omega
   have hone:([Iv x.1]:List AV).length=1:=rfl
   generalize vf key x.2=v at *
   cases hd:dupS key (all.take k) x
   case' false=>
    rw [hd] at hc
    rw [if_neg (by rw [hd];simp),List.append_nil] at hsn
    apply qi []
    repeat' (first|apply And.intro|(intro h;try exact cDd)|(refine Exists.intro (k) ⟨by omega,_,hxm,?_⟩)|exact⟨Tryz.call24⟩|refine cpe hv ?_|exact⟨Tryz.call60⟩|(refine xo hc ?_)|exact cSd|apply qg []|refine exr ?_|refine qk ?_)
   case' true=>
    rw [hd] at hc
    rw [if_pos hd] at hsn
    apply qi []
    repeat' (first|apply And.intro|(intro h;try exact cDd)|(refine Exists.intro (k) ⟨by omega,_,hxm,?_⟩)|exact⟨Tryz.call24⟩|refine cpe hv ?_|exact⟨Tryz.call60⟩|(refine xo hc ?_)|exact cSd|apply qg []|refine exr ?_|refine qk ?_)
   all_goals
    refine vv (X:=Nat) (fun j=>⟨[(0,.s key),(5,.tp 2),(6,.bx 0 0),(7,.i k),(13,.a (x9 all)),(14,.i all.length),(15,.i k),(32,.a (bytA v)),(33,.i v.length),(34,.i j)],[(0,some (.cells 123 [.tp 1])),(1,some (.obj (mapP (((v.take j).foldl (fun L s=>setM s ((k:Int)+1) L) L).map (kvM keyS))))),(2,some (.tip 1 3 ((qad key [] (all.take (k+1))).map fun n=>Iv n)))],3⟩)
     (fun j=>j≤v.length) (fun j=>v.length - j) 0 (by omega) ?_ ?_
    ·skip
     repeat' (first|apply And.intro|(intro h;try exact cDd)|exact cSd|apply qg []|refine exr ?_|refine qk ?_)
     all_goals first|assumption|rfl|(rw [hsn];simp;done)|(rw [hsn];done)|(simp;done)
    ·rintro j hj
     by_cases hjn:j<v.length
     ·have hy:v[j]? = some v[j]:=List.getElem?_eq_getElem hjn
      have hym:(v.map fun x=>Sv x)[j]? = some (Sv v[j]):=by rw [List.getElem?_map,hy];rfl
      have hfo:(v.take (j+1)).foldl (fun L s=>setM s ((k:Int)+1) L) L=setM v[j] ((k:Int)+1) ((v.take j).foldl (fun L s=>setM s ((k:Int)+1) L) L):=by rw [List.take_add_one,hy,List.foldl_append];rfl
      generalize v[j]=s at hy hym hfo
      apply qi []
      repeat' (first|apply And.intro|(intro h;try exact cDd)|(refine Exists.intro (j) ⟨by omega,_,hym,?_⟩)|(refine qzb qxt rfl rfl rfl (fun _=>rfl) rfl (fun _=>rfl) rfl rfl rfl ?_)|(refine Exists.intro (j+1) ⟨by omega,by omega,?_⟩)|exact cSd|apply qg []|refine exr ?_|refine qk ?_)
      all_goals first|assumption|rfl|(rw [hfo];assumption)|(rw [hfo];done)|(simp;done)
     ·have hjn:j=v.length:=by omega
      subst hjn
      rw [List.take_length]
      apply qi []
      repeat' (first|apply And.intro|(intro h;try exact cDd)|(refine Exists.intro (k+1,v.foldl (fun L s=>setM s ((k:Int)+1) L) L) ⟨⟨by omega,hst⟩,by simp only;omega,?_⟩)|exact cSd|apply qg []|refine exr ?_|refine qk ?_)
      all_goals first|assumption|rfl|(simp;done)
  ·have hkn:k=all.length:=by omega
   subst hkn
   have htl:all.take all.length=all:=List.take_length
   apply qi []
   repeat' (first|apply And.intro|(intro h;try exact cDd)|exact cSd|apply qg []|refine exr ?_|refine qk ?_)
   all_goals first|rfl|(rw [htl];done)|(simp;done)
theorem qyp (r:zp) (all:List (Int×List Fld)) (st:List AObj) (hr:qgk r) (hl:all.length<1000000) (hf:∀ x∈all,qe7 x.2):qp E 18 [wj r,x9 all] st fun x st'=>x=qol (qa5 r all)∧st'=st:=by
 refine wz [.a (wj r),.a (x9 all)] (qlh _) Tryz.func18 rfl rfl (fun _=>rfl) rfl fun S0=>?_
 have hg:=fun st=>qmk r st hr.key
 have hd:=fun st=>qwl r.key all st hl fun x hx=>(hf x hx).len
 have hb:=fun x (hx:x∈all) st=>qgn r x.2 st hr (hf x hx)
 have hml:(all.map stzA).length=all.length:=by simp
 unfold qa5
 by_cases hgood:ya r
 ·rw [if_pos hgood]
  rw [decide_eq_true hgood] at hg
  by_cases h7:r.kind=7
  ·rw [if_pos h7]
   apply qi []
   repeat' (first|apply And.intro|(intro h;try exact cDd)|exact⟨Tryz.call15⟩|refine cpe hg ?_|exact⟨Tryz.call37⟩|refine cpe hd ?_|exact cSd|apply qg []|refine exr ?_|refine qk ?_)
  ·rw [if_neg h7]
   apply qi []
   repeat' (first|apply And.intro|(intro h;try exact cDd)|exact⟨Tryz.call15⟩|refine cpe hg ?_|exact cSd|apply qg []|refine exr ?_|refine qk ?_)
   refine vv (X:=Nat) (fun k=>⟨[(2,.a (.pp (qhc r))),(5,.tp 0),(20,.a (x9 all)),(21,.i all.length),(22,.i k)],[(0,some (.tip 1 3 ((((all.take k).filter fun x=>decide (wl r x.2)).map Prod.fst).map fun n=>Iv n)))],1⟩)
    (fun k=>k≤all.length) (fun k=>all.length - k) 0 (by omega) ?_ ?_
   ·skip
    repeat' (first|apply And.intro|(intro h;try exact cDd)|exact cSd|apply qg []|refine exr ?_|refine qk ?_)
    all_goals first|rfl|(simp;done)
   ·rintro k hk
    by_cases hkn:k<all.length
    ·have hx:all[k]? = some all[k]:=List.getElem?_eq_getElem hkn
     have hxm:(all.map stzA)[k]? = some (stzA all[k]):=by rw [List.getElem?_map,hx];rfl
     have htk:all.take (k+1)=all.take k++[all[k]]:=by rw [List.take_add_one,hx];rfl
     have hb1:=hb _ (List.getElem_mem hkn)
     have hfl:((all.take k).filter fun x=>decide (wl r x.2)).length≤all.length:=by
      have:=List.length_filter_le (fun x:Int×List Fld=>decide (wl r x.2)) (all.take k)
      simp at this
      omega
     generalize all[k]=x at hx hxm hb1 htk
     by_cases hbr:wl r x.2
     ·have e1:((all.take (k+1)).filter fun x=>decide (wl r x.2)).map Prod.fst=((all.take k).filter fun x=>decide (wl r x.2)).map Prod.fst++[x.1]:=by rw [htk];simp [hbr]
      rw [decide_eq_true hbr] at hb1
      apply qi []
      repeat' (first|apply And.intro|(intro h;try exact cDd)|(refine Exists.intro (k) ⟨by omega,_,hxm,?_⟩)|exact⟨Tryz.call14⟩|refine cpe hb1 ?_|(refine Exists.intro (k+1) ⟨by omega,by omega,?_⟩)|exact cSd|apply qg []|refine exr ?_|refine qk ?_)
      all_goals first|(rw [e1];simp;done)|(simp;omega)
     ·have e1:((all.take (k+1)).filter fun x=>decide (wl r x.2)).map Prod.fst=((all.take k).filter fun x=>decide (wl r x.2)).map Prod.fst:=by rw [htk];simp [hbr]
      rw [decide_eq_false hbr] at hb1
      apply qi []
      repeat' (first|apply And.intro|(intro h;try exact cDd)|(refine Exists.intro (k) ⟨by omega,_,hxm,?_⟩)|exact⟨Tryz.call14⟩|refine cpe hb1 ?_|(refine Exists.intro (k+1) ⟨by omega,by omega,?_⟩)|exact cSd|apply qg []|refine exr ?_|refine qk ?_)
      all_goals first|(rw [e1];done)|(simp;omega)
    ·have hkn:k=all.length:=by omega
     subst hkn
     rw [List.take_length]
     apply qi []
     repeat' (first|apply And.intro|(intro h;try exact cDd)|exact cSd|apply qg []|refine exr ?_|refine qk ?_)
 ·rw [if_neg hgood]
  rw [decide_eq_false hgood] at hg
  apply qi []
  repeat' (first|apply And.intro|(intro h;try exact cDd)|exact⟨Tryz.call15⟩|refine cpe hg ?_|exact cSd|apply qg []|refine exr ?_|refine qk ?_)
end Go.Proofs.YtmjmdjbdoiddeaaGreatDoor
namespace Go.Pl
open Go Go.Proofs Go.Av Go.Proofs.YtmjmdjbdoiddeaaGreatDoor
theorem qnh:∀ (rs:List zp) (i:Nat),vw i rs []=[]
 | [],_=>rfl
 |r::rs,i=>by
  rw [vw,qnh rs]
  unfold qa5
  split
  ·split <;> rfl
  ·rfl
def bigR (r:zp):Bool:=decide (100<r.key.length) ||decide (500<r.text.length)
def qh9 (l:qd) (rs:List zp):Bool:=decide (2500<l.length) ||(decide (12<rs.length) ||rs.any bigR)
theorem qw1 {l:qd} {rs:List zp} (h:qh9 l rs=false):l.length≤2500∧rs.length≤12∧∀ r∈rs,qgk r:=by
 unfold qh9 at h
 simp only [Bool.or_eq_false_iff,decide_eq_false_iff_not,List.any_eq_false] at h
 refine⟨by omega,by omega,fun r hr=>?_⟩
 have:=h.2.2 r hr
 unfold bigR at this
 simp only [Bool.or_eq_true,decide_eq_true_eq,not_or] at this
 exact⟨by omega,by omega⟩
end Go.Pl
namespace Go.Proofs.YtmjmdjbdoiddeaaGreatDoor
open Go Go.Av Go.RowKit Go.Proofs Go.Pl
theorem q0l:ItC 41 25 [.v (.pointer none)] (evY fun _:Unit=>none) ():=⟨fun o kb n m I D S hm hn h0 hI hst hY=>by
 refine qw Tryz.func41 rfl (Nat.le_of_ble_eq_true rfl) ?_
 have hb:=hI _ S h0
 repeat' (first|(apply vo;first|apply q4|apply za|apply qn|(apply qc;exact rfl;apply wo;exact cAo)|(apply qc;exact rfl;apply wv;exact cAo)|(apply qc;exact rfl;apply xm;exact cRa)|(apply qc;exact rfl;apply xl;exact cRa)|(apply qc;exact rfl;apply cd_n <;> intro h)|(apply qc;exact rfl;apply cd_t;exact cRa)|(apply qc;exact rfl;apply cd_f;exact cRa)|(apply qc;exact rfl;apply cd_d <;> intro h)|(apply qc;exact rfl;apply cd_s <;> intro h)|(apply vk;exact rfl;kernel_rfl)|apply zb|apply jg|apply ze)|(apply j5;first|(apply qr;(iterate 4 exact rfl))|(apply q8;(iterate 4 exact rfl)))|(apply wd;first|(apply kl;exact cAo)|(apply jo;exact cAo)|(apply jh;exact cAo)|(apply kj;exact cAo)|(apply ki;exact cRa)|(apply kw;exact cRa)|(apply j8;exact cRa)|(apply jr;exact cRa)|(apply js <;> intro h)|(apply vc;exact cRa)|(apply vq;exact cRa)|(apply ke;exact cRa)|(apply ju;exact cRa)|(apply z3 <;> intro h)|(apply vd <;> intro h))|(apply wc;first|apply wx|(apply v8;(iterate 4 exact rfl))|(apply w9;exact rfl;exact rfl;exact qj (by omega) (by omega))|(apply wb;(iterate 4 exact rfl);exact cAs;exact cAs)|(apply jm;(iterate 5 exact rfl))|(apply kp;exact rfl;exact rfl;exact cOs)|(apply j3;(iterate 3 exact rfl))|(apply jl;(iterate 5 exact rfl))|(apply zh;(iterate 4 exact rfl))|(apply zg;(iterate 3 exact rfl))|(apply w8;(iterate 3 exact rfl);exact cAs)|(apply wa;exact rfl;exact rfl)|(apply vm;exact rfl;exact rfl)|(apply vn;(iterate 3 exact rfl);omega)|(apply ko;(iterate 3 exact rfl))|apply v5|apply kh|(apply ww;exact rfl;exact rfl;exact qj (by omega) (by omega))|(apply v9;(iterate 3 exact rfl))|(apply v6;(iterate 3 exact rfl);exact cAs)|(apply vz;(iterate 3 exact rfl);exact cAs)|(apply jz;exact rfl;exact rfl))|(apply j4;first|(apply qz;(iterate 3 exact rfl))|(apply z4;(iterate 3 exact rfl))|(apply z7;exact rfl;exact rfl;exact cOs)|(apply z6;exact rfl;exact rfl;exact qj (by omega) (by omega))|(apply j9;exact rfl;exact rfl;exact qj (by omega) (by omega))|(apply zx;exact rfl;exact rfl)|(apply zz;exact rfl;exact rfl)|(apply zw;exact rfl;exact rfl)|(apply zy;exact rfl;exact rfl)|(apply zo;(iterate 3 exact rfl))|(apply z0;(iterate 3 exact rfl))|(apply jy;exact rfl;exact rfl;(first|exact qf _|exact rfl);first|exact qf _|exact rfl)|(apply jv;exact rfl;exact rfl;(first|exact qf _|exact rfl);first|exact qf _|exact rfl)|(apply kn;exact rfl;exact rfl;(first|exact qf _|exact rfl);first|exact qf _|exact rfl)|(apply jw;(iterate 3 exact rfl))|(apply jx;(iterate 3 exact rfl)))|(apply kr;first|(apply zu;(iterate 3 exact rfl))|(apply z2;(iterate 5 exact rfl))|(apply zj;(iterate 5 exact rfl)))|(apply ku;first|(apply jq;exact rfl)|(apply jf;exact rfl)|(apply ja;exact rfl))|(apply j6;first|(apply kc;(iterate 3 exact rfl);exact cAs)|(apply ka;(iterate 3 exact rfl);exact cAs)|(apply jt;(iterate 4 exact rfl);exact cAs;exact cAs)|(apply zq;(iterate 4 exact rfl);(first|assumption|omega|exact Nat.succ_le_succ (Nat.zero_le _)|(simp;omega));exact rfl))|(apply kq;first|(apply zm;(iterate 3 exact rfl))|(apply je;(iterate 4 exact rfl)))|(apply zt;first|(apply qt;(iterate 3 exact rfl))|(apply qy;(iterate 4 exact rfl)))|(apply j7;first|(apply zr;(iterate 11 exact rfl))|(apply zc;(iterate 11 exact rfl)))|(apply vp;first|apply qs|apply qu|apply qo|(apply zi;exact rfl;exact rfl)|(apply qe;exact rfl;apply we;exact cAo)|(apply qe;exact rfl;apply wi;exact cAo)|(apply qe;exact rfl;apply xy;exact cRa)|(apply qe;exact rfl;apply xx;exact cRa)|(apply qe;exact rfl;apply pk_t;exact cRa)|(apply qe;exact rfl;apply pk_f;exact cRa)|(apply qv;exact rfl;exact rfl)|apply zn|(apply jc;exact rfl;exact rfl)|(apply kz;(iterate 4 exact rfl))|(apply jn;(iterate 3 exact rfl))|(apply jd;(iterate 3 exact rfl);exact cAs)|(apply z9;(iterate 3 exact rfl))|(apply q9;(iterate 9 exact rfl))|(apply zk;exact rfl;exact rfl)|(apply jk;(iterate 4 exact rfl);(first|assumption|omega|decide);exact rfl)|(apply zf;(iterate 4 exact rfl);first|assumption|omega|decide))|(apply qd5;exact rfl;exact rfl;exact hb;exact rfl;exact rfl))
 exact qm rfl (qcu rfl) (.inl ⟨(),rfl,hst _ _ _ (qdh (by omega)) h0⟩)⟩
theorem q08:x4 E 22 [.a (.v (.pointer none))] 0 (hpF []) ⟨.fn (.func 41) [] [.bx 0 0],xj [],[(0,some (.cells 25 [.a (.v (.pointer none))]))]++yc [],1⟩:=by
 refine qam [.a (.v (.pointer none))] [] 0 (.fn (.func 41) [] [.bx 0 0]) [(0,some (.cells 25 [.a (.v (.pointer none))]))] 1 Tryz.func22 rfl rfl rfl rfl fun S F ρ=>?_
 apply qi [1]
 repeat' (first|apply And.intro|(intro h;try exact cDd)|exact cSd|apply qg [1]|refine exr ?_|refine qk ?_)
theorem qsc (st:List AObj):qp E 13 [.v (.pointer none)] st fun r st'=>r=x9 []∧st'=st:=by
 refine wz [.a (.v (.pointer none))] (qhf _) Tryz.func13 rfl rfl (fun _=>rfl) rfl fun S0=>?_
 apply qi []
 repeat' (first|apply And.intro|(intro h;try exact cDd)|exact⟨Tryz.call22⟩|(refine xo q08 ?_)|exact cSd|apply qg []|refine exr ?_|refine qk ?_)
 refine qfy (X:=Unit) q0l Tryz.call41 (fun _ _ _ h=>by simp at h) 1 2 [.a (.v (.pointer none))] (fun _=>rfl) [0,1] (fun _=>⟨[(3,.bx 0 0),(6,.fn (.func 41) [] [.bx 1 0])],[(0,some (.cells 46 [.tp 2])),(1,some (.cells 25 [.a (.v (.pointer none))])),(2,some (.tip 2 50 []))],3⟩) _
  (fun _ _=>True) (fun _ _=>False) () trivial ?_ id (fun _=>rfl) rfl (fun _=>rfl) (fun _=>rfl) rfl (fun _ _ _ _ _ h=>by simp at h) ?_ (fun _ _ h=>h.elim)
 ·skip
  repeat' (first|apply And.intro|(intro h;try exact cDd)|exact cSd|apply qg []|refine exr ?_|refine qk ?_)
 ·rintro i x _ _
  repeat' (first|apply And.intro|(intro h;try exact cDd)|exact cSd|apply qg []|refine exr ?_|refine qk ?_)
@[reducible] def lsA : Option wn → AV
 |some l=>qaj l
 |none=>.v (.pointer none)
@[reducible] def stzO : Option wn → List (Int × List Fld)
 |some l=>stzF l.ents
 |none=>[]
theorem qs1 (o:Option wn) (rs:List zp) (st:List AObj) (hz:∀ st,qp E 13 [lsA o] st fun r st'=>r=x9 (stzO o)∧st'=st) (hl:(stzO o).length<1000000) (hf:∀ x∈stzO o,qe7 x.2) (hr:∀ r∈rs,qgk r) (hrl:rs.length≤12) :
  qp E 11 [lsA o,x8 rs] st fun r st'=>r=qbl (qb7 rs (stzO o))∧st'=st:=by
 refine wz [.a (lsA o),.a (x8 rs)] (qjo _) Tryz.func11 rfl rfl (fun _=>rfl) rfl fun S0=>?_
 have hfl:∀ k,(vw 0 (rs.take k) (stzO o)).length≤12000000:=fun k=>by
  have h1:=qff (stzO o) (rs.take k) 0
  have h2:(rs.take k).length≤12:=by simp;omega
  have h3:(rs.take k).length * (stzO o).length≤12 * (stzO o).length:=Nat.mul_le_mul_right _ h2
  omega
 have hb:=fun r (h:r∈rs) st=>qyp r (stzO o) st (hr r h) hl hf
 have hbl:=fun r=>qgo r (stzO o)
 have hsn:=qgx (stzO o)
 have hmr:(rs.map wj).length=rs.length:=by simp
 have hz1:∀ (l:wn),o=some l→∀ st,qp E 13 [qaj l] st fun r st'=>r=x9 (stzO o)∧st'=st:=fun l h=>by subst h;exact hz
 have hz2:o=none→∀ st,qp E 13 [.v (.pointer none)] st fun r st'=>r=x9 (stzO o)∧st'=st:=fun h=>by subst h;exact hz
 unfold qb7
 clear hz hf
 generalize stzO o=all at hl hfl hb hbl hsn hz1 hz2 ⊢
 cases o
 case' none=>
  replace hz2:=hz2 rfl
  apply qi []
  repeat' (first|apply And.intro|(intro h;try exact cDd)|exact⟨Tryz.call13⟩|refine cpe hz2 ?_|exact cSd|apply qg []|refine exr ?_|refine qk ?_)
 case' some l=>
  replace hz1:=hz1 l rfl
  apply qi []
  repeat' (first|apply And.intro|(intro h;try exact cDd)|exact⟨Tryz.call13⟩|refine cpe hz1 ?_|exact cSd|apply qg []|refine exr ?_|refine qk ?_)
 all_goals
  refine vv (X:=Nat) (fun k=>⟨[(5,.tp 0),(6,.a (x9 all)),(13,.a (x8 rs)),(14,.i rs.length),(15,.i k)],[(0,some (.tip 2 45 ((vw 0 (rs.take k) all).map qfe)))],1⟩)
   (fun k=>k≤rs.length) (fun k=>rs.length - k) 0 (by omega) ?_ ?_
  ·skip
   repeat' (first|apply And.intro|(intro h;try exact cDd)|exact cSd|apply qg []|refine exr ?_|refine qk ?_)
   all_goals first|rfl|(simp;done)|(simp [vw];done)
  ·rintro k hk
   by_cases hkn:k<rs.length
   ·have hx:rs[k]? = some rs[k]:=List.getElem?_eq_getElem hkn
    have hxm:(rs.map wj)[k]? = some (wj rs[k]):=by rw [List.getElem?_map,hx];rfl
    have htk:rs.take (k+1)=rs.take k++[rs[k]]:=by rw [List.take_add_one,hx];rfl
    have hb1:=hb _ (List.getElem_mem hkn)
    have hbl1:=hbl rs[k]
    have hfl1:=hfl k
    have hs1:=hsn rs[k] (rs.take k) 0
    have hlk:(rs.take k).length=k:=by simp;omega
    rw [← htk,hlk,Nat.zero_add] at hs1
    generalize rs[k]=r at hx hxm hb1 hbl1 hs1
    generalize qa5 r all=ids at *
    generalize vw 0 (rs.take k) all=o1 at *
    have hmi:(ids.map fun n=>Iv n).length=ids.length:=by simp
    apply qi []
    repeat' (first|apply And.intro|(intro h;try exact cDd)|(refine Exists.intro (k) ⟨by omega,_,hxm,?_⟩)|exact⟨Tryz.call18⟩|refine cpe hb1 ?_|exact cSd|apply qg []|refine exr ?_|refine qk ?_)
    refine vv (X:=Nat) (fun j=>⟨[(5,.tp 0),(6,.a (x9 all)),(7,.i k),(13,.a (x8 rs)),(14,.i rs.length),(15,.i k),(22,.a (qol ids)),(23,.i ids.length),(24,.i j)],[(0,some (.tip 2 45 ((o1++(ids.take j).map fun id=>((k:Int),id)).map qfe)))],1⟩)
     (fun j=>j≤ids.length) (fun j=>ids.length - j) 0 (by omega) ?_ ?_
    ·skip
     repeat' (first|apply And.intro|(intro h;try exact cDd)|exact cSd|apply qg []|refine exr ?_|refine qk ?_)
     all_goals first|rfl|(simp;done)
    ·rintro j hj
     by_cases hjn:j<ids.length
     ·have hy:ids[j]? = some ids[j]:=List.getElem?_eq_getElem hjn
      have hym:(ids.map fun n=>Iv n)[j]? = some (Iv ids[j]):=by rw [List.getElem?_map,hy];rfl
      have htj:ids.take (j+1)=ids.take j++[ids[j]]:=by rw [List.take_add_one,hy];rfl
      generalize ids[j]=n at hy hym htj
      apply qi []
      repeat' (first|apply And.intro|(intro h;try exact cDd)|(refine Exists.intro (j) ⟨by omega,_,hym,?_⟩)|(refine Exists.intro (j+1) ⟨by omega,by omega,?_⟩)|exact cSd|apply qg []|refine exr ?_|refine qk ?_)
      all_goals first|rfl|(rw [htj];simp;done)|(simp;omega)
     ·have hjn:j=ids.length:=by omega
      subst hjn
      rw [List.take_length]
      apply qi []
      repeat' (first|apply And.intro|(intro h;try exact cDd)|(refine Exists.intro (k+1) ⟨by omega,by omega,?_⟩)|exact cSd|apply qg []|refine exr ?_|refine qk ?_)
      all_goals first|rfl|(rw [hs1];done)|(rw [hs1];simp;done)|(simp;done)
   ·have hkn:k=rs.length:=by omega
    subst hkn
    rw [List.take_length]
    apply qi []
    repeat' (first|apply And.intro|(intro h;try exact cDd)|exact cSd|apply qg []|refine exr ?_|refine qk ?_)
theorem qw0 (l:qd) (rs:List zp) (st:List AObj):qp E 6 [Sv l,x8 rs] st fun r st'=>r=Bv (qh9 l rs)∧st'=st:=by
 refine wz [.s l,.a (x8 rs)] (q7 _) Tryz.func6 rfl rfl (fun _=>rfl) rfl fun S0=>?_
 have hmr:(rs.map wj).length=rs.length:=by simp
 unfold qh9
 by_cases h1:2500<l.length
 ·rw [decide_eq_true h1,Bool.true_or]
  apply qi []
  repeat' (first|apply And.intro|(intro h;try exact cDd)|exact cSd|apply qg []|refine exr ?_|refine qk ?_)
 rw [decide_eq_false h1,Bool.false_or]
 by_cases h2:12<rs.length
 ·rw [decide_eq_true h2,Bool.true_or]
  apply qi []
  repeat' (first|apply And.intro|(intro h;try exact cDd)|exact cSd|apply qg []|refine exr ?_|refine qk ?_)
 rw [decide_eq_false h2,Bool.false_or]
 apply qi []
 repeat' (first|apply And.intro|(intro h;try exact cDd)|exact cSd|apply qg []|refine exr ?_|refine qk ?_)
 refine vv (X:=Nat) (fun k=>⟨[(15,.a (x8 rs)),(16,.i rs.length),(17,.i k)],[],0⟩) (fun k=>k≤rs.length∧(rs.drop k).any bigR=rs.any bigR) (fun k=>rs.length - k) 0 ⟨by omega,by simp⟩ ?_ ?_
 ·skip
  repeat' (first|apply And.intro|(intro h;try exact cDd)|exact cSd|apply qg []|refine exr ?_|refine qk ?_)
  all_goals first|rfl|(simp;done)
 ·rintro k ⟨hk,hrun⟩
  by_cases hkn:k<rs.length
  ·have hx:rs[k]? = some rs[k]:=List.getElem?_eq_getElem hkn
   have hxm:(rs.map wj)[k]? = some (wj rs[k]):=by rw [List.getElem?_map,hx];rfl
   rw [List.drop_eq_getElem_cons hkn,List.any_cons] at hrun
   generalize rs[k]=r at hx hxm hrun
   rw [show bigR r=(decide (100<r.key.length) ||decide (500<r.text.length)) from rfl] at hrun
   by_cases g1:100<r.key.length
   ·rw [decide_eq_true g1,Bool.true_or,Bool.true_or] at hrun
    rw [← hrun]
    apply qi []
    repeat' (first|apply And.intro|(intro h;try exact cDd)|(refine Exists.intro (k) ⟨by omega,_,hxm,?_⟩)|exact cSd|apply qg []|refine exr ?_|refine qk ?_)
   ·rw [decide_eq_false g1,Bool.false_or] at hrun
    by_cases g2:500<r.text.length
    ·rw [decide_eq_true g2,Bool.true_or] at hrun
     rw [← hrun]
     apply qi []
     repeat' (first|apply And.intro|(intro h;try exact cDd)|(refine Exists.intro (k) ⟨by omega,_,hxm,?_⟩)|exact cSd|apply qg []|refine exr ?_|refine qk ?_)
    ·rw [decide_eq_false g2,Bool.false_or] at hrun
     apply qi []
     repeat' (first|apply And.intro|(intro h;try exact cDd)|(refine Exists.intro (k) ⟨by omega,_,hxm,?_⟩)|(refine Exists.intro (k+1) ⟨⟨by omega,hrun⟩,by omega,?_⟩)|exact cSd|apply qg []|refine exr ?_|refine qk ?_)
  ·have hkn:k=rs.length:=by omega
   subst hkn
   rw [List.drop_length,List.any_nil] at hrun
   rw [← hrun]
   apply qi []
   repeat' (first|apply And.intro|(intro h;try exact cDd)|exact cSd|apply qg []|refine exr ?_|refine qk ?_)
theorem qsh (rs:List zp) (st:List AObj) (hx:rs.length≤12):qp E 9 [x8 rs] st fun r st'=>r=x8 rs∧st'=st:=by
 refine wz [.a (x8 rs)] (qsl _) Tryz.func9 rfl rfl (fun _=>rfl) rfl fun S0=>?_
 have hmr:(rs.map wj).length=rs.length:=by simp
 apply qi []
 repeat' (first|apply And.intro|(intro h;try exact cDd)|exact cSd|apply qg []|refine exr ?_|refine qk ?_)
 refine vv (X:=Nat) (fun k=>⟨[(3,.tp 0),(7,.a (x8 rs)),(8,.i rs.length),(9,.i k)],[(0,some (.tip 5 43 ((rs.take k).map wj)))],1⟩) (fun k=>k≤rs.length) (fun k=>rs.length - k) 0 (by omega) ?_ ?_
 ·skip
  repeat' (first|apply And.intro|(intro h;try exact cDd)|exact cSd|apply qg []|refine exr ?_|refine qk ?_)
  all_goals first|rfl|(simp;done)
 ·rintro k hk
  by_cases hkn:k<rs.length
  ·have hx:rs[k]? = some rs[k]:=List.getElem?_eq_getElem hkn
   have hxm:(rs.map wj)[k]? = some (wj rs[k]):=by rw [List.getElem?_map,hx];rfl
   have htk:rs.take (k+1)=rs.take k++[rs[k]]:=by rw [List.take_add_one,hx];rfl
   generalize rs[k]=r at hx hxm htk
   apply qi []
   repeat' (first|apply And.intro|(intro h;try exact cDd)|(refine Exists.intro (k) ⟨by omega,_,hxm,?_⟩)|(refine Exists.intro (k+1) ⟨by omega,by omega,?_⟩)|exact cSd|apply qg []|refine exr ?_|refine qk ?_)
   all_goals first|rfl|(rw [htk];simp;done)|(simp;omega)
  ·have hkn:k=rs.length:=by omega
   subst hkn
   rw [List.take_length]
   apply qi []
   repeat' (first|apply And.intro|(intro h;try exact cDd)|exact cSd|apply qg []|refine exr ?_|refine qk ?_)
theorem q2p:EqT Tryz.prog 70:=⟨by kernel_rfl,by kernel_rfl,by kernel_rfl⟩
theorem qws (a:List (Int×Int)) (st:List AObj) (ha:a.length≤12000000):qp E 10 [qbl a,qbl a] st fun r st'=>r=Bv true∧st'=st:=by
 refine wz [.a (qbl a),.a (qbl a)] (q7 _) Tryz.func10 rfl rfl (fun _=>rfl) rfl fun S0=>?_
 have hma:(a.map qfe).length=a.length:=by simp
 apply qi []
 repeat' (first|apply And.intro|(intro h;try exact cDd)|exact cSd|apply qg []|refine exr ?_|refine qk ?_)
 refine vv (X:=Nat) (fun k=>⟨[(0,.a (qbl a)),(1,.a (qbl a)),(12,.i a.length),(13,.i k)],[],0⟩) (fun k=>k≤a.length) (fun k=>a.length - k) 0 (by omega) ?_ ?_
 ·skip
  repeat' (first|apply And.intro|(intro h;try exact cDd)|exact cSd|apply qg []|refine exr ?_|refine qk ?_)
  all_goals first|rfl|(simp;done)
 ·rintro k hk
  by_cases hkn:k<a.length
  ·have hx:a[k]? = some a[k]:=List.getElem?_eq_getElem hkn
   have hxm:(a.map qfe)[k]? = some (qfe a[k]):=by rw [List.getElem?_map,hx];rfl
   generalize a[k]=x at hx hxm
   have hq:x.1=x.1∧x.2=x.2∧True:=⟨rfl,rfl,trivial⟩
   apply qi []
   repeat' (first|apply And.intro|(intro h;try exact cDd)|(refine Exists.intro (k) ⟨by omega,_,hxm,?_⟩)|(refine q3r q2p rfl rfl rfl rfl rfl ?_)|exact absurd hq (by assumption)|(refine Exists.intro (k+1) ⟨by omega,by omega,?_⟩)|exact cSd|apply qg []|refine exr ?_|refine qk ?_)
   all_goals first|rfl|(simp;done)
  ·have hkn:k=a.length:=by omega
   subst hkn
   apply qi []
   repeat' (first|apply And.intro|(intro h;try exact cDd)|exact cSd|apply qg []|refine exr ?_|refine qk ?_)
end Go.Proofs.YtmjmdjbdoiddeaaGreatDoor
namespace Go.Pl
open Go Go.Proofs Go.Av Go.Proofs.YtmjmdjbdoiddeaaGreatDoor
def qfp (key:qd) (pre:List (Int×List Fld)) (f:Fld):Bool:=pre.any fun y=>decide (f.2∈vf key y.2)
def badX (r:zp) (pre:List (Int×List Fld)) (f:Fld):Bool:=if r.kind=7 then decide (f.1=r.key) && qfp r.key pre f else badR r f
theorem qjw {α : Type} {xs:List α} {k:Nat} {x : α} (p : α→Bool) (hx:xs[k]? = some x):(xs.take (k+1)).any p=((xs.take k).any p ||p x):=by
 rw [List.take_add_one,hx,List.any_append]
 simp
theorem qyt {r:zp} {xs:List Fld} {k:Nat} {f:Fld} (hx:xs[k]? = some f):cntR r (xs.take (k+1))=cntR r (xs.take k)+if r.kind≠6∧f.1=r.key then 1 else 0:=by
 obtain⟨hlt,rfl⟩:=List.getElem?_eq_some_iff.1 hx
 have:=qys (r:=r) hlt
 simpa [List.getD,hlt] using this
theorem qo9 (r:zp) (pre:List (Int×List Fld)) (x:Int×List Fld):yh r pre x↔x.2.any (badX r pre)=true∨(r.kind=1∧cntR r x.2=0)∨(r.kind=2∧1<cntR r x.2):=by
 unfold yh
 by_cases h7:r.kind=7
 ·have e:x.2.any (badX r pre)=dupS r.key pre x:=by
   unfold dupS vf
   rw [List.any_map,List.any_filter]
   congr 1
   funext f
   show (if r.kind=7 then _ else _)=_
   rw [if_pos h7]
   rfl
  rw [e,qm8 h7]
  simp [h7]
 ·have e:badX r pre=badR r:=by
   funext f
   simp [badX,h7]
  rw [e]
  simp [h7]
end Go.Pl
namespace Go.Proofs.YtmjmdjbdoiddeaaGreatDoor
open Go Go.Av Go.RowKit Go.Proofs Go.Pl
theorem q3m:EqT Tryz.prog 53:=⟨by kernel_rfl,by kernel_rfl,by kernel_rfl⟩
set_option maxHeartbeats 4000000 in
theorem qve (r:zp) (all:List (Int×List Fld)) (i:Nat) (x:Int×List Fld) (st:List AObj) (hx:all[i]? = some x) (hr:qgk r) (hl:all.length<1000000) (hf:∀ y∈all,qe7 y.2) :
  qp E 21 [wj r,x9 all,Iv i] st fun z st'=>z=Bv (decide (yh r (all.take i) x))∧st'=st:=by
 refine wz [.a (wj r),.a (x9 all),.i i] (q7 _) Tryz.func21 rfl rfl (fun _=>rfl) rfl fun S0=>?_
 have hxm:(all.map stzA)[i]? = some (stzA x):=by rw [List.getElem?_map,hx];rfl
 have hil:=(List.getElem?_eq_some_iff.1 hx).1
 have hma:(all.map stzA).length=all.length:=by simp
 obtain⟨hfl,hfv⟩:=hf x (List.mem_of_getElem? hx)
 have hB:decide (yh r (all.take i) x)=true↔_:=decide_eq_true_iff.trans (qo9 r (all.take i) x)
 obtain⟨id,xs⟩:=x
 dsimp only at hfl hfv hB
 replace hxm:(all.map stzA)[i]? = some (.ag [Iv id,y6 xs]):=hxm
 have hmx:(xs.map fldA).length=xs.length:=by simp
 have hcl:∀ k,cntR r (xs.take k)≤xs.length:=fun k=>by
  unfold cntR
  split
  ·omega
  ·exact qfr _ _ _
 generalize decide (yh r (all.take i) (id,xs))=b at *
 apply qi []
 repeat' (first|apply And.intro|(intro h;try exact cDd)|exact cSd|apply qg []|refine exr ?_|refine qk ?_)
 refine vv (X:=Nat×Nat×Bool) (fun (k,n,w)=>⟨[(1,.a (x9 all)),(2,.i i),(3,.a (.pp (qhc r))),(7,.i n),(8,.b w),(9,.i k)],[],0⟩)
  (fun (k,n,w)=>k≤xs.length∧n=cntR r (xs.take k)∧w=(xs.take k).any (badX r (all.take i))) (fun (k,_,_)=>xs.length - k) (0,0,false) ⟨by omega,by unfold cntR;split <;> rfl,rfl⟩ ?_ ?_
 ·skip
  repeat' (first|apply And.intro|(intro h;try exact cDd)|exact cSd|apply qg []|refine exr ?_|refine qk ?_)
  all_goals first|rfl|(simp;done)
 ·rintro⟨k,n,w⟩ ⟨hk,hn,hw⟩
  by_cases hkn:k<xs.length
  ·have hy:xs[k]? = some xs[k]:=List.getElem?_eq_getElem hkn
   have hym:(xs.map fldA)[k]? = some (fldA xs[k]):=by rw [List.getElem?_map,hy];rfl
   have hyv:=hfv _ (List.getElem_mem hkn)
   have hn1:=qyt (r:=r) hy
   have hw1:=qjw (badX r (all.take i)) hy
   have hnb:=hcl k
   rw [← hn] at hn1 hnb
   rw [← hw] at hw1
   clear hn hw hB
   generalize xs[k]=f at hy hym hyv hn1 hw1
   have hwd:=fun st=>qju r.text f.1 st hr.text
   have hwv:=fun st=>qju r.text f.2 st hr.text
   by_cases h6:r.kind=6
   ·have e1:badX r (all.take i) f = !decide (f.1∈wu r.text):=by
     unfold badX
     rw [if_neg (by omega)]
     exact bad6 h6
    rw [e1] at hw1
    rw [if_neg (by omega),Nat.add_zero] at hn1
    cases w <;> cases hd:decide (f.1∈wu r.text)
    all_goals
     rw [hd] at hwd hw1
     apply qi []
     repeat' (first|apply And.intro|(intro h;try exact cDd)|(refine Exists.intro (i) ⟨by omega,_,hxm,?_⟩)|(refine Exists.intro (k) ⟨by omega,_,hym,?_⟩)|exact⟨Tryz.call39⟩|refine cpe hwd ?_|(refine Exists.intro (k+1,n,_) ⟨⟨by omega,hn1.symm,hw1.symm⟩,by simp only;omega,?_⟩)|exact cSd|apply qg []|refine exr ?_|refine qk ?_)
     all_goals first|rfl|(simp;done)
   by_cases hkey:f.1=r.key
   ·rw [if_pos ⟨h6,hkey⟩] at hn1
    by_cases h7:r.kind=7
    ·have e1:badX r (all.take i) f=qfp r.key (all.take i) f:=by
      unfold badX
      rw [if_pos h7]
      simp [hkey]
     rw [e1] at hw1
     have hsp:∀ j y,all[j]? = some y→j<i→((w ||qfp r.key ((all.take i).take (j+1)) f)=((w ||qfp r.key ((all.take i).take j) f) ||decide (f.2∈vf r.key y.2))):=fun j y hj hji=>by
      have:(all.take i)[j]? = some y:=by rw [List.getElem?_take,if_pos hji];exact hj
      unfold qfp
      rw [qjw _ this,Bool.or_assoc]
     have hva:∀ ys:List Fld,(ys.any fun g=>decide (g.1=f.1∧g.2=f.2∧True))=decide (f.2∈vf r.key ys):=fun ys=>by
      rw [Bool.eq_iff_iff,List.any_eq_true,decide_eq_true_iff]
      unfold vf
      rw [List.mem_map]
      constructor
      ·rintro⟨g,hg,h⟩
       obtain⟨g1,g2,_⟩:=of_decide_eq_true h
       exact⟨g,List.mem_filter.2 ⟨hg,by simp [g1,hkey]⟩,g2⟩
      ·rintro⟨g,hg,h⟩
       obtain⟨g1,g2⟩:=List.mem_filter.1 hg
       exact⟨g,g1,decide_eq_true ⟨(of_decide_eq_true g2).trans hkey.symm,h,trivial⟩⟩
     have hti:(all.take i).take i=all.take i:=List.take_of_length_le (by simp;omega)
     generalize hP:(fun j:Nat=>(w ||qfp r.key ((all.take i).take j) f))=P
     have hP0:P 0=w:=by rw [← hP];simp [qfp]
     have hPi:(xs.take (k+1)).any (badX r (all.take i))=P i:=by
      rw [← hP]
      show _=(w ||qfp r.key ((all.take i).take i) f)
      rw [hti]
      exact hw1
     have hPn:∀ j y,all[j]? = some y→j<i→P (j+1)=(P j ||decide (f.2∈vf r.key y.2)):=fun j y hj hji=>by rw [← hP];exact hsp j y hj hji
     clear hsp hw1 hP hti e1
     apply qi []
     repeat' (first|apply And.intro|(intro h;try exact cDd)|(refine Exists.intro (i) ⟨by omega,_,hxm,?_⟩)|(refine Exists.intro (k) ⟨by omega,_,hym,?_⟩)|exact absurd hkey (by assumption)|exact cSd|apply qg []|refine exr ?_|refine qk ?_)
     refine vv (X:=Nat) (fun j=>⟨[(1,.a (x9 all)),(2,.i i),(3,.a (.pp (qhc r))),(7,.i ((n:Int)+1)),(8,.b (P j)),(9,.i k),(10,.bx 0 0),(13,.i j)],[(0,some (.cells 53 [.s f.1,.s f.2]))],1⟩) (fun j=>j≤i) (fun j=>i - j) 0 (by omega) ?_ ?_
     ·skip
      repeat' (first|apply And.intro|(intro h;try exact cDd)|exact cSd|apply qg []|refine exr ?_|refine qk ?_)
      all_goals first|rfl|(rw [hP0];done)|(simp [hP0];done)
     ·rintro j hj
      by_cases hji:j<i
      ·have hz:all[j]? = some all[j]:=List.getElem?_eq_getElem (by omega)
       have hzm:(all.map stzA)[j]? = some (stzA all[j]):=by rw [List.getElem?_map,hz];rfl
       have hpj:=hPn j _ hz hji
       have hzl:=(hf _ (List.getElem_mem (by omega:j<all.length))).len
       generalize all[j]=z at hz hzm hpj hzl
       obtain⟨zid,ys⟩:=z
       replace hzm:(all.map stzA)[j]? = some (.ag [Iv zid,y6 ys]):=hzm
       have hmy:(ys.map fldA).length=ys.length:=by simp
       have hyn:=hva ys
       dsimp only at hpj hzl
       rw [← hyn] at hpj
       clear hyn hPn hva
       apply qi []
       repeat' (first|apply And.intro|(intro h;try exact cDd)|exact cSd|apply qg []|refine exr ?_|refine qk ?_)
       refine vv (X:=Nat×Bool) (fun (m,w)=>⟨[(1,.a (x9 all)),(2,.i i),(3,.a (.pp (qhc r))),(7,.i ((n:Int)+1)),(8,.b w),(9,.i k),(10,.bx 0 0),(13,.i j),(14,.i m)],[(0,some (.cells 53 [.s f.1,.s f.2]))],1⟩) (fun (m,w)=>m≤ys.length∧w=(P j ||(ys.take m).any fun g=>decide (g.1=f.1∧g.2=f.2∧True))) (fun (m,_)=>ys.length - m) (0,P j) ⟨by omega,by simp⟩ ?_ ?_
       ·skip
        repeat' (first|apply And.intro|(intro h;try exact cDd)|exact cSd|apply qg []|refine exr ?_|refine qk ?_)
        all_goals first|rfl|(simp;done)
       ·rintro⟨m,w⟩ ⟨hm,hw⟩
        by_cases hmn:m<ys.length
        ·have hg:ys[m]? = some ys[m]:=List.getElem?_eq_getElem hmn
         have hgm:(ys.map fldA)[m]? = some (fldA ys[m]):=by rw [List.getElem?_map,hg];rfl
         have hwn:(P j ||(ys.take (m+1)).any fun g=>decide (g.1=f.1∧g.2=f.2∧True))=(w ||decide (ys[m].1=f.1∧ys[m].2=f.2∧True)):=by
          rw [qjw _ hg,hw,Bool.or_assoc]
         generalize ys[m]=g at hg hgm hwn
         cases w
         all_goals
          apply qi []
          repeat' (first|apply And.intro|(intro h;try exact cDd)|(refine Exists.intro (j) ⟨by omega,_,hzm,?_⟩)|(refine Exists.intro (m) ⟨by omega,_,hgm,?_⟩)|(refine q3q q3m rfl rfl rfl rfl rfl ?_)|(refine Exists.intro (m+1,_) ⟨⟨by omega,hwn.symm⟩,by simp only;omega,?_⟩)|exact cSd|apply qg []|refine exr ?_|refine qk ?_)
          all_goals first|rfl|(simp;done)
        ·have hmn:m=ys.length:=by omega
         subst hmn
         rw [List.take_length,← hpj] at hw
         subst hw
         apply qi []
         repeat' (first|apply And.intro|(intro h;try exact cDd)|(refine Exists.intro (j) ⟨by omega,_,hzm,?_⟩)|(refine Exists.intro (j+1) ⟨by omega,by omega,?_⟩)|exact cSd|apply qg []|refine exr ?_|refine qk ?_)
         all_goals first|rfl|(simp;done)
      ·have hji:j=i:=by omega
       subst hji
       apply qi []
       repeat' (first|apply And.intro|(intro h;try exact cDd)|(refine Exists.intro (k+1,n+1,P j) ⟨⟨by omega,hn1.symm,hPi.symm⟩,by simp only;omega,?_⟩)|exact cSd|apply qg []|refine exr ?_|refine qk ?_)
       all_goals first|rfl|(simp;done)
    ·have e1:badX r (all.take i) f=badR r f:=if_neg h7
     rw [e1] at hw1
     rcases hz:numZ f.2 with _|v
     case' none=>have hnm:=fun st=>qqv f.2 st hyv.2 hz
     case' some=>have hnm:=fun st=>qqw f.2 v st hyv.2 hz
     all_goals
      cases w
      all_goals
       apply qi []
       repeat' (first|apply And.intro|(intro h;try exact cDd)|(refine Exists.intro (i) ⟨by omega,_,hxm,?_⟩)|(refine Exists.intro (k) ⟨by omega,_,hym,?_⟩)|exact⟨Tryz.call40⟩|refine cpe hnm ?_|exact⟨Tryz.call39⟩|refine cpe hwv ?_|exact absurd hkey (by assumption)|exact cSd|apply qg []|refine exr ?_|refine qk ?_)
       all_goals
        refine vv (X:=Unit) (fun _=>⟨[(1,.a (x9 all)),(2,.i i),(3,.a (.pp (qhc r))),(7,.i ((n:Int)+1)),(8,.b ((xs.take (k+1)).any (badX r (all.take i)))),(9,.i k),(10,.bx 0 0),(13,.i 0)],[(0,some (.cells 53 [.s f.1,.s f.2]))],1⟩) (fun _=>True) (fun _=>0) () trivial ?_ ?_
        ·skip
         repeat' (first|apply And.intro|(intro h;try exact cDd)|exact cSd|apply qg []|refine exr ?_|refine qk ?_)
         all_goals first
          |rfl
          |(rw [hw1];rfl)
          |(rw [hw1];simp_all [badR,xf,qcy,qba];done)
          |(rw [hw1,bad4 (by assumption) hkey];rfl)
          |(rw [hw1,bad5 (by assumption) hkey (by assumption)];rfl)
          |(rw [hw1,bad3 (by assumption) hkey hz (by assumption)];rfl)
        ·rintro _ _
         apply qi []
         repeat' (first|apply And.intro|(intro h;try exact cDd)|(refine Exists.intro (k+1,n+1,_) ⟨⟨by omega,hn1.symm,rfl⟩,by simp only;omega,?_⟩)|exact cSd|apply qg []|refine exr ?_|refine qk ?_)
         all_goals first|rfl|(simp;done)
   ·have e1:badX r (all.take i) f=false:=by
     unfold badX
     split
     ·simp [hkey]
     ·simp [badR,xf,hkey,h6]
    rw [e1,Bool.or_false] at hw1
    rw [if_neg (fun h=>hkey h.2),Nat.add_zero] at hn1
    apply qi []
    repeat' (first|apply And.intro|(intro h;try exact cDd)|(refine Exists.intro (i) ⟨by omega,_,hxm,?_⟩)|(refine Exists.intro (k) ⟨by omega,_,hym,?_⟩)|exact absurd hkey (by assumption)|(refine Exists.intro (k+1,n,w) ⟨⟨by omega,hn1.symm,hw1.symm⟩,by simp only;omega,?_⟩)|exact cSd|apply qg []|refine exr ?_|refine qk ?_)
    all_goals first|rfl|(simp;done)
  ·have hkn:k=xs.length:=by omega
   subst hkn
   rw [List.take_length] at hn hw
   rw [← hn,← hw] at hB
   cases w
   all_goals
    apply qi []
    repeat' (first|apply And.intro|(intro h;try exact cDd)|(refine Exists.intro (i) ⟨by omega,_,hxm,?_⟩)|exact cSd|apply qg []|refine exr ?_|refine qk ?_)
    all_goals refine congrArg Bv ?_
    all_goals rw [Bool.eq_iff_iff,hB]
    all_goals first|(simp;done)|(simp;omega)|(simp [*];done)|(simp [*];omega)
theorem qqt (l:wn) (rs:List zp) (st:List AObj) (hl:l.ents.length<1000000) (hf:∀ x∈stzF l.ents,qe7 x.2) (hr:∀ r∈rs,qgk r) (hrl:rs.length≤12) :
  qp E 12 [qge l,x8 rs] st fun r st'=>r=qbl (qb7 rs (stzF l.ents))∧st'=st:=by
 refine wz [.a (qge l),.a (x8 rs)] (qjo _) Tryz.func12 rfl rfl (fun _=>rfl) rfl fun S0=>?_
 have hz:=fun st=>qmu l st hl
 have hsl:=qkl l.ents
 have hbk:=fun (r:zp) (h:r∈rs) i x st (hx:(stzF l.ents)[i]? = some x)=>qve r (stzF l.ents) i x st hx (hr r h) (by omega) hf
 generalize stzF l.ents=all at *
 have hfl:∀ k,(vw 0 (rs.take k) all).length≤12000000:=fun k=>by
  have h1:=qff all (rs.take k) 0
  have h2:(rs.take k).length≤12:=by simp;omega
  have h3:(rs.take k).length * all.length≤12 * all.length:=Nat.mul_le_mul_right _ h2
  omega
 have hsn:=qgx all
 have hbq:=fun r=>qm9 r all
 have hbs:=qhw
 have hmr:(rs.map wj).length=rs.length:=by simp
 have hma:(all.map stzA).length=all.length:=by simp
 unfold qb7
 apply qi []
 repeat' (first|apply And.intro|(intro h;try exact cDd)|exact⟨Tryz.call19⟩|refine cpe hz ?_|exact cSd|apply qg []|refine exr ?_|refine qk ?_)
 refine vv (X:=Nat) (fun k=>⟨[(1,.a (x8 rs)),(5,.tp 0),(6,.a (x9 all)),(7,.i k)],[(0,some (.tip 2 70 ((vw 0 (rs.take k) all).map qfe)))],1⟩) (fun k=>k≤rs.length) (fun k=>rs.length - k) 0 (by omega) ?_ ?_
 ·skip
  repeat' (first|apply And.intro|(intro h;try exact cDd)|exact cSd|apply qg []|refine exr ?_|refine qk ?_)
  all_goals first|rfl|(simp [vw];done)
 ·rintro k hk
  by_cases hkn:k<rs.length
  ·have hx:rs[k]? = some rs[k]:=List.getElem?_eq_getElem hkn
   have hxm:(rs.map wj)[k]? = some (wj rs[k]):=by rw [List.getElem?_map,hx];rfl
   have htk:rs.take (k+1)=rs.take k++[rs[k]]:=by rw [List.take_add_one,hx];rfl
   have hb1:=hbk _ (List.getElem_mem hkn)
   have hg:=fun st=>qsi rs[k] st (hr _ (List.getElem_mem hkn)).key
   have hfl1:=hfl k
   have hs1:=hsn rs[k] (rs.take k) 0
   have hlk:(rs.take k).length=k:=by simp;omega
   rw [← htk,hlk,Nat.zero_add,hbq] at hs1
   generalize rs[k]=r at hx hxm hb1 hg hs1
   generalize vw 0 (rs.take k) all=o1 at *
   have hbl:∀ j,(x5 r [] (all.take j)).length≤1000000:=fun j=>by
    have:=qgo r (all.take j)
    rw [qm9] at this
    have h2:(all.take j).length≤all.length:=by simp;omega
    omega
   apply qi []
   repeat' (first|apply And.intro|(intro h;try exact cDd)|exact cSd|apply qg []|refine exr ?_|refine qk ?_)
   refine vv (X:=Nat) (fun j=>⟨[(1,.a (x8 rs)),(5,.tp 0),(6,.a (x9 all)),(7,.i k),(8,.i j)],[(0,some (.tip 2 70 ((o1++(x5 r [] (all.take j)).map fun id=>((k:Int),id)).map qfe)))],1⟩) (fun j=>j≤all.length) (fun j=>all.length - j) 0 (by omega) ?_ ?_
   ·skip
    repeat' (first|apply And.intro|(intro h;try exact cDd)|exact cSd|apply qg []|refine exr ?_|refine qk ?_)
    all_goals first|rfl|(simp [x5];done)
   ·rintro j hj
    by_cases hjn:j<all.length
    ·have hy:all[j]? = some all[j]:=List.getElem?_eq_getElem hjn
     have hym:(all.map stzA)[j]? = some (stzA all[j]):=by rw [List.getElem?_map,hy];rfl
     have htj:all.take (j+1)=all.take j++[all[j]]:=by rw [List.take_add_one,hy];rfl
     have hb2:=fun st=>hb1 j _ st hy
     have hblj:=hbl j
     have hsj:=hbs r all[j] (all.take j) []
     rw [← htj,List.nil_append] at hsj
     generalize all[j]=y at hy hym htj hb2 hsj
     generalize x5 r [] (all.take j)=c1 at *
     by_cases hgd:ya r
     ·rw [decide_eq_true hgd] at hg
      by_cases hat:yh r (all.take j) y
      ·rw [decide_eq_true hat] at hb2
       rw [if_pos ⟨hgd,hat⟩] at hsj
       apply qi []
       repeat' (first|apply And.intro|(intro h;try exact cDd)|(refine Exists.intro (k) ⟨by omega,_,hxm,?_⟩)|(refine Exists.intro (j) ⟨by omega,_,hym,?_⟩)|exact⟨Tryz.call20⟩|refine cpe hg ?_|exact⟨Tryz.call21⟩|refine cpe hb2 ?_|(refine Exists.intro (j+1) ⟨by omega,by omega,?_⟩)|exact cSd|apply qg []|refine exr ?_|refine qk ?_)
       all_goals first|rfl|(rw [hsj];done)|(rw [hsj];simp;done)|(simp;done)|(simp;omega)
      ·rw [decide_eq_false hat] at hb2
       rw [if_neg (fun h=>hat h.2),List.append_nil] at hsj
       apply qi []
       repeat' (first|apply And.intro|(intro h;try exact cDd)|(refine Exists.intro (k) ⟨by omega,_,hxm,?_⟩)|(refine Exists.intro (j) ⟨by omega,_,hym,?_⟩)|exact⟨Tryz.call20⟩|refine cpe hg ?_|exact⟨Tryz.call21⟩|refine cpe hb2 ?_|(refine Exists.intro (j+1) ⟨by omega,by omega,?_⟩)|exact cSd|apply qg []|refine exr ?_|refine qk ?_)
       all_goals first|rfl|(rw [hsj];done)|(rw [hsj];simp;done)|(simp;done)|(simp;omega)
     ·rw [decide_eq_false hgd] at hg
      rw [if_neg (fun h=>hgd h.1),List.append_nil] at hsj
      apply qi []
      repeat' (first|apply And.intro|(intro h;try exact cDd)|(refine Exists.intro (k) ⟨by omega,_,hxm,?_⟩)|(refine Exists.intro (j) ⟨by omega,_,hym,?_⟩)|exact⟨Tryz.call20⟩|refine cpe hg ?_|(refine Exists.intro (j+1) ⟨by omega,by omega,?_⟩)|exact cSd|apply qg []|refine exr ?_|refine qk ?_)
      all_goals first|rfl|(rw [hsj];done)|(simp;done)|(simp;omega)
    ·have hjn:j=all.length:=by omega
     subst hjn
     rw [List.take_length]
     apply qi []
     repeat' (first|apply And.intro|(intro h;try exact cDd)|(refine Exists.intro (k+1) ⟨by omega,by omega,?_⟩)|exact cSd|apply qg []|refine exr ?_|refine qk ?_)
     all_goals first|rfl|(rw [hs1];done)|(simp;done)
  ·have hkn:k=rs.length:=by omega
   subst hkn
   rw [List.take_length]
   apply qi []
   repeat' (first|apply And.intro|(intro h;try exact cDd)|exact cSd|apply qg []|refine exr ?_|refine qk ?_)
theorem q3o {text:qd} (h:vj text = .no):GL (ofF (itsE text)):=by
 obtain⟨h1,_,h3⟩:=qsf h
 refine q25 ?_ ?_
 ·rw [h3];exact qqo h1
 ·rw [h3];exact qxk h1
theorem q1m {text:qd} (h:vj text≠.no):(vj text).code≠0:=qzi h
theorem qod (text:qd) (rs:List zp) (st:List AObj):qp E 3 [Sv text,x8 rs] st fun r st'=>r=Bv true∧st'=st:=by
 refine wz [.s text,.a (x8 rs)] (q7 _) Tryz.func3 rfl rfl (fun _=>rfl) rfl fun S0=>?_
 have hal:=qvy
 have hlg:=fun st=>qw0 text rs st
 cases hb:qh9 text rs with
 |true=>
  rw [hb] at hlg
  apply qi []
  repeat' (first|apply And.intro|(intro h;try exact cDd)|exact⟨Tryz.call5⟩|refine cpe hal ?_|exact⟨Tryz.call6⟩|refine cpe hlg ?_|exact cSd|apply qg []|refine exr ?_|refine qk ?_)
 |false=>
  rw [hb] at hlg
  obtain⟨hl1,hl2,hl3⟩:=qw1 hb
  have hof:=fun st=>qy8 text st (by omega)
  have hrf:=fun st=>qxp text st (by omega)
  have hcd:=@q1m text
  have hlb:=(q26 text).len
  have hgl:vj text = .no→GL (ofF (itsE text)):=q3o
  unfold ofR at hrf
  generalize ofF (itsE text)=l at *
  cases he:vj text with
  |num n=>
   have hn:=hcd (by rw [he];simp)
   rw [he] at hof hrf hn
   rw [if_neg (by simp)] at hrf
   apply qi []
   repeat' (first|apply And.intro|(intro h;try exact cDd)|exact⟨Tryz.call5⟩|refine cpe hal ?_|exact⟨Tryz.call6⟩|refine cpe hlg ?_|exact⟨Tryz.call7⟩|refine cpe hof ?_|exact⟨Tryz.call8⟩|refine cpe hrf ?_|exact cSd|apply qg []|refine exr ?_|refine qk ?_)
   all_goals first|exact congrArg Bv (decide_eq_true hn)|(simp [hn];done)|(simpa [ErrV.code] using hn)|exact absurd (by assumption:(ErrV.num n).code=0) hn
  |at' a n=>
   have hn:=hcd (by rw [he];simp)
   rw [he] at hof hrf hn
   rw [if_neg (by simp)] at hrf
   apply qi []
   repeat' (first|apply And.intro|(intro h;try exact cDd)|exact⟨Tryz.call5⟩|refine cpe hal ?_|exact⟨Tryz.call6⟩|refine cpe hlg ?_|exact⟨Tryz.call7⟩|refine cpe hof ?_|exact⟨Tryz.call8⟩|refine cpe hrf ?_|exact cSd|apply qg []|refine exr ?_|refine qk ?_)
   all_goals first|exact congrArg Bv (decide_eq_true hn)|(simp [hn];done)|(simpa [ErrV.code] using hn)|exact absurd (by assumption:(ErrV.at' a n).code=0) hn
  |no=>
   have hG:=hgl he
   have hfb:∀ x∈stzF l.ents,qe7 x.2:=fun x hx=>qy1 (q3s hG x hx)
   have hsl:=qkl l.ents
   rw [he] at hof hrf
   rw [if_pos rfl] at hrf
   have hpr:=fun st=>qsh rs st hl2
   have hf1:=fun st=>qs1 (some l) rs st (fun st=>quy l st (by omega) fun e he=>by have:=(qp3 (hG.ok e he).1).1;omega) (by show (stzF l.ents).length<_;omega) hfb hl3 hl2
   have hf0:=fun st=>qs1 none rs st qsc (by simp) (by simp) hl3 hl2
   have hfr:=fun st=>qqt l rs st (by omega) hfb hl3 hl2
   have hlen:(qb7 rs (stzF l.ents)).length≤12000000:=by
    have h1:=qff (stzF l.ents) rs 0
    have h3:rs.length * (stzF l.ents).length≤12 * (stzF l.ents).length:=Nat.mul_le_mul_right _ hl2
    unfold qb7
    omega
   have heq:=fun st=>qws (qb7 rs (stzF l.ents)) st hlen
   have hn0:qb7 rs (stzO none)=[]:=qnh rs 0
   rw [hn0] at hf0
   replace hf1:∀ st,qp E 11 [qaj l,x8 rs] st fun r st'=>r=qbl (qb7 rs (stzF l.ents))∧st'=st:=hf1
   replace hf0:∀ st,qp E 11 [.v (.pointer none),x8 rs] st fun r st'=>r=qbl []∧st'=st:=hf0
   generalize qb7 rs (stzF l.ents)=fs at *
   apply qi []
   repeat' (first|apply And.intro|(intro h;try exact cDd)|exact⟨Tryz.call5⟩|refine cpe hal ?_|exact⟨Tryz.call6⟩|refine cpe hlg ?_|exact⟨Tryz.call7⟩|refine cpe hof ?_|exact⟨Tryz.call8⟩|refine cpe hrf ?_|exact⟨Tryz.call9⟩|refine cpe hpr ?_|exact⟨Tryz.call11⟩|refine cpe hf1 ?_|exact⟨Tryz.call11⟩|refine cpe hf0 ?_|exact⟨Tryz.call12⟩|refine cpe hfr ?_|exact⟨Tryz.call10⟩|refine cpe heq ?_|exact cSd|apply qg []|refine exr ?_|refine qk ?_)
   all_goals (simp;done)
theorem qoc (text:qd) (rs:List zp) (hr:rs.length≤maxLen) (st:List AObj):qp E 3 [Sv text,.sl 5 (rs.map wj) none] st fun r st'=>r=Bv true∧st'=st:=qod text rs st
end Go.Proofs.YtmjmdjbdoiddeaaGreatDoor
