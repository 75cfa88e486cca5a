/- Contracts and plain facts that the closing text leans on (part 9). No condition of their own beyond those that each states. -/
import Derived.Test.YtneejjefekdgjaaGreatDoorK8
set_option maxRecDepth 100000
set_option linter.unusedVariables false
set_option linter.unusedSimpArgs false
namespace Go.Pl
open Go Go.Proofs Go.Av Go.Proofs.YtneejjefekdgjaaGreatDoor
def bigR (r:zz):Bool:=decide (100<r.key.length) ||decide (500<r.text.length)
def qlr (l:qe) (rs:List zz):Bool:=decide (2500<l.length) ||(decide (12<rs.length) ||rs.any bigR)
theorem q4i {l:qe} {rs:List zz} (h:qlr l rs=false):l.length≤2500∧rs.length≤12∧∀ r∈rs,qem r:=by
 unfold qlr at h
 simp only [Bool.or_eq_false_iff,decide_eq_false_iff_not,List.any_eq_false] at h
 refine⟨by omega,by omega,fun r hr=>?_⟩
 have:=h.2.2 r hr
 unfold bigR at this
 simp only [Bool.or_eq_true,decide_eq_true_eq,not_or] at this
 exact⟨by omega,by omega⟩
end Go.Pl
namespace Go.Proofs.YtneejjefekdgjaaGreatDoor
open Go Go.Av Go.RowKit Go.Proofs Go.Pl
@[reducible] def lsA : Option za → AV
 |some l=>y3 l
 |none=>.v (.pointer none)
@[reducible] def stzO : Option za → List (Int × List Fld)
 |some l=>stzF l.ents
 |none=>[]
theorem q9v (o:Option za) (rs:List zz) (st:List AObj) (hz:∀ st,qp E 25 [lsA o] st fun r st'=>r=qay (stzO o)∧st'=st) (hl:(stzO o).length<1000000) (hf:∀ x∈stzO o,qgs x.2) (hr:∀ r∈rs,qem r) (hrl:rs.length≤12) :
  qp E 39 [lsA o,xu rs] st fun r st'=>r=xb (yg rs (stzO o))∧st'=st:=by
 refine z0 [.a (lsA o),.a (xu rs)] (qf6 _) Tryz.func39 rfl rfl (fun _=>rfl) rfl fun S0=>?_
 have hfl:∀ k,(x7 0 (rs.take k) (stzO o)).length≤12000000:=fun k=>by
  have h1:=qij (stzO o) (rs.take k) 0
  have h2:(rs.take k).length≤12:=by simp;omega
  have h3:(rs.take k).length * (stzO o).length≤12 * (stzO o).length:=Nat.mul_le_mul_right _ h2
  omega
 have hb:=fun r (h:r∈rs) st=>q6n r (stzO o) st (hr r h) hl hf
 have hbl:=fun r=>qjt r (stzO o)
 have hsn:=qj3 (stzO o)
 have hmr:(rs.map wu).length=rs.length:=by simp
 have hz1:∀ (l:za),o=some l→∀ st,qp E 25 [y3 l] st fun r st'=>r=qay (stzO o)∧st'=st:=fun l h=>by subst h;exact hz
 have hz2:o=none→∀ st,qp E 25 [.v (.pointer none)] st fun r st'=>r=qay (stzO o)∧st'=st:=fun h=>by subst h;exact hz
 unfold yg
 clear hz hf
 generalize stzO o=all at hl hfl hb hbl hsn hz1 hz2 ⊢
 cases o
 case' none=>
  replace hz2:=hz2 rfl
  apply qg []
  repeat' (first|apply And.intro|(intro h;try exact cDd)|exact⟨Tryz.call25⟩|refine cpe hz2 ?_|exact cSd|apply qd []|refine exr ?_|refine qh ?_)
 case' some l=>
  replace hz1:=hz1 l rfl
  apply qg []
  repeat' (first|apply And.intro|(intro h;try exact cDd)|exact⟨Tryz.call25⟩|refine cpe hz1 ?_|exact cSd|apply qd []|refine exr ?_|refine qh ?_)
 all_goals
  refine zw (X:=Nat) (fun k=>⟨[(5,.tp 0),(6,.a (qay all)),(13,.a (xu rs)),(14,.i rs.length),(15,.i k)],[(0,some (.tip 2 88 ((x7 0 (rs.take k) all).map x8)))],1⟩)
   (fun k=>k≤rs.length) (fun k=>rs.length - k) 0 (by omega) ?_ ?_
  ·skip
   repeat' (first|apply And.intro|(intro h;try exact cDd)|exact cSd|apply qd []|refine exr ?_|refine qh ?_)
   all_goals first|rfl|(simp;done)|(simp [x7];done)
  ·rintro k hk
   by_cases hkn:k<rs.length
   ·have hx:rs[k]? = some rs[k]:=List.getElem?_eq_getElem hkn
    have hxm:(rs.map wu)[k]? = some (wu rs[k]):=by rw [List.getElem?_map,hx];rfl
    have htk:rs.take (k+1)=rs.take k++[rs[k]]:=by rw [List.take_add_one,hx];rfl
    have hb1:=hb _ (List.getElem_mem hkn)
    have hbl1:=hbl rs[k]
    have hfl1:=hfl k
    have hs1:=hsn rs[k] (rs.take k) 0
    have hlk:(rs.take k).length=k:=by simp;omega
    rw [← htk,hlk,Nat.zero_add] at hs1
    generalize rs[k]=r at hx hxm hb1 hbl1 hs1
    generalize qdz r all=ids at *
    generalize x7 0 (rs.take k) all=o1 at *
    have hmi:(ids.map fun n=>Iv n).length=ids.length:=by simp
    apply qg []
    repeat' (first|apply And.intro|(intro h;try exact cDd)|(refine Exists.intro (k) ⟨by omega,_,hxm,?_⟩)|exact⟨Tryz.call79⟩|refine cpe hb1 ?_|exact cSd|apply qd []|refine exr ?_|refine qh ?_)
    refine zw (X:=Nat) (fun j=>⟨[(5,.tp 0),(6,.a (qay all)),(7,.i k),(13,.a (xu rs)),(14,.i rs.length),(15,.i k),(22,.a (qg1 ids)),(23,.i ids.length),(24,.i j)],[(0,some (.tip 2 88 ((o1++(ids.take j).map fun id=>((k:Int),id)).map x8)))],1⟩)
     (fun j=>j≤ids.length) (fun j=>ids.length - j) 0 (by omega) ?_ ?_
    ·skip
     repeat' (first|apply And.intro|(intro h;try exact cDd)|exact cSd|apply qd []|refine exr ?_|refine qh ?_)
     all_goals first|rfl|(simp;done)
    ·rintro j hj
     by_cases hjn:j<ids.length
     ·have hy:ids[j]? = some ids[j]:=List.getElem?_eq_getElem hjn
      have hym:(ids.map fun n=>Iv n)[j]? = some (Iv ids[j]):=by rw [List.getElem?_map,hy];rfl
      have htj:ids.take (j+1)=ids.take j++[ids[j]]:=by rw [List.take_add_one,hy];rfl
      generalize ids[j]=n at hy hym htj
      apply qg []
      repeat' (first|apply And.intro|(intro h;try exact cDd)|(refine Exists.intro (j) ⟨by omega,_,hym,?_⟩)|(refine Exists.intro (j+1) ⟨by omega,by omega,?_⟩)|exact cSd|apply qd []|refine exr ?_|refine qh ?_)
      all_goals first|rfl|(rw [htj];simp;done)|(simp;omega)
     ·have hjn:j=ids.length:=by omega
      subst hjn
      rw [List.take_length]
      apply qg []
      repeat' (first|apply And.intro|(intro h;try exact cDd)|(refine Exists.intro (k+1) ⟨by omega,by omega,?_⟩)|exact cSd|apply qd []|refine exr ?_|refine qh ?_)
      all_goals first|rfl|(rw [hs1];done)|(rw [hs1];simp;done)|(simp;done)
   ·have hkn:k=rs.length:=by omega
    subst hkn
    rw [List.take_length]
    apply qg []
    repeat' (first|apply And.intro|(intro h;try exact cDd)|exact cSd|apply qd []|refine exr ?_|refine qh ?_)
theorem q4h (l:qe) (rs:List zz) (st:List AObj):qp E 34 [Sv l,xu rs] st fun r st'=>r=Bv (qlr l rs)∧st'=st:=by
 refine z0 [.s l,.a (xu rs)] (qy _) Tryz.func34 rfl rfl (fun _=>rfl) rfl fun S0=>?_
 have hmr:(rs.map wu).length=rs.length:=by simp
 unfold qlr
 by_cases h1:2500<l.length
 ·rw [decide_eq_true h1,Bool.true_or]
  apply qg []
  repeat' (first|apply And.intro|(intro h;try exact cDd)|exact cSd|apply qd []|refine exr ?_|refine qh ?_)
 rw [decide_eq_false h1,Bool.false_or]
 by_cases h2:12<rs.length
 ·rw [decide_eq_true h2,Bool.true_or]
  apply qg []
  repeat' (first|apply And.intro|(intro h;try exact cDd)|exact cSd|apply qd []|refine exr ?_|refine qh ?_)
 rw [decide_eq_false h2,Bool.false_or]
 apply qg []
 repeat' (first|apply And.intro|(intro h;try exact cDd)|exact cSd|apply qd []|refine exr ?_|refine qh ?_)
 refine zw (X:=Nat) (fun k=>⟨[(15,.a (xu rs)),(16,.i rs.length),(17,.i k)],[],0⟩) (fun k=>k≤rs.length∧(rs.drop k).any bigR=rs.any bigR) (fun k=>rs.length - k) 0 ⟨by omega,by simp⟩ ?_ ?_
 ·skip
  repeat' (first|apply And.intro|(intro h;try exact cDd)|exact cSd|apply qd []|refine exr ?_|refine qh ?_)
  all_goals first|rfl|(simp;done)
 ·rintro k ⟨hk,hrun⟩
  by_cases hkn:k<rs.length
  ·have hx:rs[k]? = some rs[k]:=List.getElem?_eq_getElem hkn
   have hxm:(rs.map wu)[k]? = some (wu rs[k]):=by rw [List.getElem?_map,hx];rfl
   rw [List.drop_eq_getElem_cons hkn,List.any_cons] at hrun
   generalize rs[k]=r at hx hxm hrun
   rw [show bigR r=(decide (100<r.key.length) ||decide (500<r.text.length)) from rfl] at hrun
   by_cases g1:100<r.key.length
   ·rw [decide_eq_true g1,Bool.true_or,Bool.true_or] at hrun
    rw [← hrun]
    apply qg []
    repeat' (first|apply And.intro|(intro h;try exact cDd)|(refine Exists.intro (k) ⟨by omega,_,hxm,?_⟩)|exact cSd|apply qd []|refine exr ?_|refine qh ?_)
   ·rw [decide_eq_false g1,Bool.false_or] at hrun
    by_cases g2:500<r.text.length
    ·rw [decide_eq_true g2,Bool.true_or] at hrun
     rw [← hrun]
     apply qg []
     repeat' (first|apply And.intro|(intro h;try exact cDd)|(refine Exists.intro (k) ⟨by omega,_,hxm,?_⟩)|exact cSd|apply qd []|refine exr ?_|refine qh ?_)
    ·rw [decide_eq_false g2,Bool.false_or] at hrun
     apply qg []
     repeat' (first|apply And.intro|(intro h;try exact cDd)|(refine Exists.intro (k) ⟨by omega,_,hxm,?_⟩)|(refine Exists.intro (k+1) ⟨⟨by omega,hrun⟩,by omega,?_⟩)|exact cSd|apply qd []|refine exr ?_|refine qh ?_)
  ·have hkn:k=rs.length:=by omega
   subst hkn
   rw [List.drop_length,List.any_nil] at hrun
   rw [← hrun]
   apply qg []
   repeat' (first|apply And.intro|(intro h;try exact cDd)|exact cSd|apply qd []|refine exr ?_|refine qh ?_)
theorem qzd (rs:List zz) (st:List AObj) (hx:rs.length≤12):qp E 37 [xu rs] st fun r st'=>r=xu rs∧st'=st:=by
 refine z0 [.a (xu rs)] (qzh _) Tryz.func37 rfl rfl (fun _=>rfl) rfl fun S0=>?_
 have hmr:(rs.map wu).length=rs.length:=by simp
 apply qg []
 repeat' (first|apply And.intro|(intro h;try exact cDd)|exact cSd|apply qd []|refine exr ?_|refine qh ?_)
 refine zw (X:=Nat) (fun k=>⟨[(3,.tp 0),(7,.a (xu rs)),(8,.i rs.length),(9,.i k)],[(0,some (.tip 5 86 ((rs.take k).map wu)))],1⟩) (fun k=>k≤rs.length) (fun k=>rs.length - k) 0 (by omega) ?_ ?_
 ·skip
  repeat' (first|apply And.intro|(intro h;try exact cDd)|exact cSd|apply qd []|refine exr ?_|refine qh ?_)
  all_goals first|rfl|(simp;done)
 ·rintro k hk
  by_cases hkn:k<rs.length
  ·have hx:rs[k]? = some rs[k]:=List.getElem?_eq_getElem hkn
   have hxm:(rs.map wu)[k]? = some (wu rs[k]):=by rw [List.getElem?_map,hx];rfl
   have htk:rs.take (k+1)=rs.take k++[rs[k]]:=by rw [List.take_add_one,hx];rfl
   generalize rs[k]=r at hx hxm htk
   apply qg []
   repeat' (first|apply And.intro|(intro h;try exact cDd)|(refine Exists.intro (k) ⟨by omega,_,hxm,?_⟩)|(refine Exists.intro (k+1) ⟨by omega,by omega,?_⟩)|exact cSd|apply qd []|refine exr ?_|refine qh ?_)
   all_goals first|rfl|(rw [htk];simp;done)|(simp;omega)
  ·have hkn:k=rs.length:=by omega
   subst hkn
   rw [List.take_length]
   apply qg []
   repeat' (first|apply And.intro|(intro h;try exact cDd)|exact cSd|apply qd []|refine exr ?_|refine qh ?_)
theorem q3z:EqT Tryz.prog 172:=⟨by kernel_rfl,by kernel_rfl,by kernel_rfl⟩
theorem q36 (a:List (Int×Int)) (st:List AObj) (ha:a.length≤12000000):qp E 38 [xb a,xb a] st fun r st'=>r=Bv true∧st'=st:=by
 refine z0 [.a (xb a),.a (xb a)] (qy _) Tryz.func38 rfl rfl (fun _=>rfl) rfl fun S0=>?_
 have hma:(a.map x8).length=a.length:=by simp
 apply qg []
 repeat' (first|apply And.intro|(intro h;try exact cDd)|exact cSd|apply qd []|refine exr ?_|refine qh ?_)
 refine zw (X:=Nat) (fun k=>⟨[(0,.a (xb a)),(1,.a (xb a)),(12,.i a.length),(13,.i k)],[],0⟩) (fun k=>k≤a.length) (fun k=>a.length - k) 0 (by omega) ?_ ?_
 ·skip
  repeat' (first|apply And.intro|(intro h;try exact cDd)|exact cSd|apply qd []|refine exr ?_|refine qh ?_)
  all_goals first|rfl|(simp;done)
 ·rintro k hk
  by_cases hkn:k<a.length
  ·have hx:a[k]? = some a[k]:=List.getElem?_eq_getElem hkn
   have hxm:(a.map x8)[k]? = some (x8 a[k]):=by rw [List.getElem?_map,hx];rfl
   generalize a[k]=x at hx hxm
   have hq:x.1=x.1∧x.2=x.2∧True:=⟨rfl,rfl,trivial⟩
   apply qg []
   repeat' (first|apply And.intro|(intro h;try exact cDd)|(refine Exists.intro (k) ⟨by omega,_,hxm,?_⟩)|(refine zdi q3z rfl rfl rfl rfl rfl ?_)|exact absurd hq (by assumption)|(refine Exists.intro (k+1) ⟨by omega,by omega,?_⟩)|exact cSd|apply qd []|refine exr ?_|refine qh ?_)
   all_goals first|rfl|(simp;done)
  ·have hkn:k=a.length:=by omega
   subst hkn
   apply qg []
   repeat' (first|apply And.intro|(intro h;try exact cDd)|exact cSd|apply qd []|refine exr ?_|refine qh ?_)
end Go.Proofs.YtneejjefekdgjaaGreatDoor
namespace Go.Pl
open Go Go.Proofs Go.Av Go.Proofs.YtneejjefekdgjaaGreatDoor
def qiu (key:qe) (pre:List (Int×List Fld)) (f:Fld):Bool:=pre.any fun y=>decide (f.2∈wo key y.2)
def badX (r:zz) (pre:List (Int×List Fld)) (f:Fld):Bool:=if r.kind=7 then decide (f.1=r.key) && qiu r.key pre f else badR r f
theorem qnv {α : Type} {xs:List α} {k:Nat} {x : α} (p : α→Bool) (hx:xs[k]? = some x):(xs.take (k+1)).any p=((xs.take k).any p ||p x):=by
 rw [List.take_add_one,hx,List.any_append]
 simp
theorem q6t {r:zz} {xs:List Fld} {k:Nat} {f:Fld} (hx:xs[k]? = some f):cntR r (xs.take (k+1))=cntR r (xs.take k)+if r.kind≠6∧f.1=r.key then 1 else 0:=by
 obtain⟨hlt,rfl⟩:=List.getElem?_eq_some_iff.1 hx
 have:=q6s (r:=r) hlt
 simpa [List.getD,hlt] using this
theorem qvo (r:zz) (pre:List (Int×List Fld)) (x:Int×List Fld):qa6 r pre x↔x.2.any (badX r pre)=true∨(r.kind=1∧cntR r x.2=0)∨(r.kind=2∧1<cntR r x.2):=by
 unfold qa6
 by_cases h7:r.kind=7
 ·have e:x.2.any (badX r pre)=dupS r.key pre x:=by
   unfold dupS wo
   rw [List.any_map,List.any_filter]
   congr 1
   funext f
   show (if r.kind=7 then _ else _)=_
   rw [if_pos h7]
   rfl
  rw [e,qsn h7]
  simp [h7]
 ·have e:badX r pre=badR r:=by
   funext f
   simp [badX,h7]
  rw [e]
  simp [h7]
end Go.Pl
namespace Go.Proofs.YtneejjefekdgjaaGreatDoor
open Go Go.Av Go.RowKit Go.Proofs Go.Pl
theorem zda:EqT Tryz.prog 111:=⟨by kernel_rfl,by kernel_rfl,by kernel_rfl⟩
set_option maxHeartbeats 4000000 in
theorem q2a (r:zz) (all:List (Int×List Fld)) (i:Nat) (x:Int×List Fld) (st:List AObj) (hx:all[i]? = some x) (hr:qem r) (hl:all.length<1000000) (hf:∀ y∈all,qgs y.2) :
  qp E 82 [wu r,qay all,Iv i] st fun z st'=>z=Bv (decide (qa6 r (all.take i) x))∧st'=st:=by
 refine z0 [.a (wu r),.a (qay all),.i i] (qy _) Tryz.func82 rfl rfl (fun _=>rfl) rfl fun S0=>?_
 have hxm:(all.map stzA)[i]? = some (stzA x):=by rw [List.getElem?_map,hx];rfl
 have hil:=(List.getElem?_eq_some_iff.1 hx).1
 have hma:(all.map stzA).length=all.length:=by simp
 obtain⟨hfl,hfv⟩:=hf x (List.mem_of_getElem? hx)
 have hB:decide (qa6 r (all.take i) x)=true↔_:=decide_eq_true_iff.trans (qvo r (all.take i) x)
 obtain⟨id,xs⟩:=x
 dsimp only at hfl hfv hB
 replace hxm:(all.map stzA)[i]? = some (.ag [Iv id,kc xs]):=hxm
 have hmx:(xs.map fldA).length=xs.length:=by simp
 have hcl:∀ k,cntR r (xs.take k)≤xs.length:=fun k=>by
  unfold cntR
  split
  ·omega
  ·exact qiw _ _ _
 generalize decide (qa6 r (all.take i) (id,xs))=b at *
 apply qg []
 repeat' (first|apply And.intro|(intro h;try exact cDd)|exact cSd|apply qd []|refine exr ?_|refine qh ?_)
 refine zw (X:=Nat×Nat×Bool) (fun (k,n,w)=>⟨[(1,.a (qay all)),(2,.i i),(3,.a (.pp (qkm r))),(7,.i n),(8,.b w),(9,.i k)],[],0⟩)
  (fun (k,n,w)=>k≤xs.length∧n=cntR r (xs.take k)∧w=(xs.take k).any (badX r (all.take i))) (fun (k,_,_)=>xs.length - k) (0,0,false) ⟨by omega,by unfold cntR;split <;> rfl,rfl⟩ ?_ ?_
 ·skip
  repeat' (first|apply And.intro|(intro h;try exact cDd)|exact cSd|apply qd []|refine exr ?_|refine qh ?_)
  all_goals first|rfl|(simp;done)
 ·rintro⟨k,n,w⟩ ⟨hk,hn,hw⟩
  by_cases hkn:k<xs.length
  ·have hy:xs[k]? = some xs[k]:=List.getElem?_eq_getElem hkn
   have hym:(xs.map fldA)[k]? = some (fldA xs[k]):=by rw [List.getElem?_map,hy];rfl
   have hyv:=hfv _ (List.getElem_mem hkn)
   have hn1:=q6t (r:=r) hy
   have hw1:=qnv (badX r (all.take i)) hy
   have hnb:=hcl k
   rw [← hn] at hn1 hnb
   rw [← hw] at hw1
   clear hn hw hB
   generalize xs[k]=f at hy hym hyv hn1 hw1
   have hwd:=fun st=>qns r.text f.1 st hr.text
   have hwv:=fun st=>qns r.text f.2 st hr.text
   by_cases h6:r.kind=6
   ·have e1:badX r (all.take i) f = !decide (f.1∈yp r.text):=by
     unfold badX
     rw [if_neg (by omega)]
     exact bad6 h6
    rw [e1] at hw1
    rw [if_neg (by omega),Nat.add_zero] at hn1
    cases w <;> cases hd:decide (f.1∈yp r.text)
    all_goals
     rw [hd] at hwd hw1
     apply qg []
     repeat' (first|apply And.intro|(intro h;try exact cDd)|(refine Exists.intro (i) ⟨by omega,_,hxm,?_⟩)|(refine Exists.intro (k) ⟨by omega,_,hym,?_⟩)|exact⟨Tryz.call144⟩|refine cpe hwd ?_|(refine Exists.intro (k+1,n,_) ⟨⟨by omega,hn1.symm,hw1.symm⟩,by simp only;omega,?_⟩)|exact cSd|apply qd []|refine exr ?_|refine qh ?_)
     all_goals first|rfl|(simp;done)
   by_cases hkey:f.1=r.key
   ·rw [if_pos ⟨h6,hkey⟩] at hn1
    by_cases h7:r.kind=7
    ·have e1:badX r (all.take i) f=qiu r.key (all.take i) f:=by
      unfold badX
      rw [if_pos h7]
      simp [hkey]
     rw [e1] at hw1
     have hsp:∀ j y,all[j]? = some y→j<i→((w ||qiu r.key ((all.take i).take (j+1)) f)=((w ||qiu r.key ((all.take i).take j) f) ||decide (f.2∈wo r.key y.2))):=fun j y hj hji=>by
      have:(all.take i)[j]? = some y:=by rw [List.getElem?_take,if_pos hji];exact hj
      unfold qiu
      rw [qnv _ this,Bool.or_assoc]
     have hva:∀ ys:List Fld,(ys.any fun g=>decide (g.1=f.1∧g.2=f.2∧True))=decide (f.2∈wo r.key ys):=fun ys=>by
      rw [Bool.eq_iff_iff,List.any_eq_true,decide_eq_true_iff]
      unfold wo
      rw [List.mem_map]
      constructor
      ·rintro⟨g,hg,h⟩
       obtain⟨g1,g2,_⟩:=of_decide_eq_true h
       exact⟨g,List.mem_filter.2 ⟨hg,by simp [g1,hkey]⟩,g2⟩
      ·rintro⟨g,hg,h⟩
       obtain⟨g1,g2⟩:=List.mem_filter.1 hg
       exact⟨g,g1,decide_eq_true ⟨(of_decide_eq_true g2).trans hkey.symm,h,trivial⟩⟩
     have hti:(all.take i).take i=all.take i:=List.take_of_length_le (by simp;omega)
     generalize hP:(fun j:Nat=>(w ||qiu r.key ((all.take i).take j) f))=P
     have hP0:P 0=w:=by rw [← hP];simp [qiu]
     have hPi:(xs.take (k+1)).any (badX r (all.take i))=P i:=by
      rw [← hP]
      show _=(w ||qiu r.key ((all.take i).take i) f)
      rw [hti]
      exact hw1
     have hPn:∀ j y,all[j]? = some y→j<i→P (j+1)=(P j ||decide (f.2∈wo r.key y.2)):=fun j y hj hji=>by rw [← hP];exact hsp j y hj hji
     clear hsp hw1 hP hti e1
     apply qg []
     repeat' (first|apply And.intro|(intro h;try exact cDd)|(refine Exists.intro (i) ⟨by omega,_,hxm,?_⟩)|(refine Exists.intro (k) ⟨by omega,_,hym,?_⟩)|exact absurd hkey (by assumption)|exact cSd|apply qd []|refine exr ?_|refine qh ?_)
     refine zw (X:=Nat) (fun j=>⟨[(1,.a (qay all)),(2,.i i),(3,.a (.pp (qkm r))),(7,.i ((n:Int)+1)),(8,.b (P j)),(9,.i k),(10,.bx 0 0),(13,.i j)],[(0,some (.cells 111 [.s f.1,.s f.2]))],1⟩) (fun j=>j≤i) (fun j=>i - j) 0 (by omega) ?_ ?_
     ·skip
      repeat' (first|apply And.intro|(intro h;try exact cDd)|exact cSd|apply qd []|refine exr ?_|refine qh ?_)
      all_goals first|rfl|(rw [hP0];done)|(simp [hP0];done)
     ·rintro j hj
      by_cases hji:j<i
      ·have hz:all[j]? = some all[j]:=List.getElem?_eq_getElem (by omega)
       have hzm:(all.map stzA)[j]? = some (stzA all[j]):=by rw [List.getElem?_map,hz];rfl
       have hpj:=hPn j _ hz hji
       have hzl:=(hf _ (List.getElem_mem (by omega:j<all.length))).len
       generalize all[j]=z at hz hzm hpj hzl
       obtain⟨zid,ys⟩:=z
       replace hzm:(all.map stzA)[j]? = some (.ag [Iv zid,kc ys]):=hzm
       have hmy:(ys.map fldA).length=ys.length:=by simp
       have hyn:=hva ys
       dsimp only at hpj hzl
       rw [← hyn] at hpj
       clear hyn hPn hva
       apply qg []
       repeat' (first|apply And.intro|(intro h;try exact cDd)|exact cSd|apply qd []|refine exr ?_|refine qh ?_)
       refine zw (X:=Nat×Bool) (fun (m,w)=>⟨[(1,.a (qay all)),(2,.i i),(3,.a (.pp (qkm r))),(7,.i ((n:Int)+1)),(8,.b w),(9,.i k),(10,.bx 0 0),(13,.i j),(14,.i m)],[(0,some (.cells 111 [.s f.1,.s f.2]))],1⟩) (fun (m,w)=>m≤ys.length∧w=(P j ||(ys.take m).any fun g=>decide (g.1=f.1∧g.2=f.2∧True))) (fun (m,_)=>ys.length - m) (0,P j) ⟨by omega,by simp⟩ ?_ ?_
       ·skip
        repeat' (first|apply And.intro|(intro h;try exact cDd)|exact cSd|apply qd []|refine exr ?_|refine qh ?_)
        all_goals first|rfl|(simp;done)
       ·rintro⟨m,w⟩ ⟨hm,hw⟩
        by_cases hmn:m<ys.length
        ·have hg:ys[m]? = some ys[m]:=List.getElem?_eq_getElem hmn
         have hgm:(ys.map fldA)[m]? = some (fldA ys[m]):=by rw [List.getElem?_map,hg];rfl
         have hwn:(P j ||(ys.take (m+1)).any fun g=>decide (g.1=f.1∧g.2=f.2∧True))=(w ||decide (ys[m].1=f.1∧ys[m].2=f.2∧True)):=by
          rw [qnv _ hg,hw,Bool.or_assoc]
         generalize ys[m]=g at hg hgm hwn
         cases w
         all_goals
          apply qg []
          repeat' (first|apply And.intro|(intro h;try exact cDd)|(refine Exists.intro (j) ⟨by omega,_,hzm,?_⟩)|(refine Exists.intro (m) ⟨by omega,_,hgm,?_⟩)|(refine qus zda rfl rfl rfl rfl rfl ?_)|(refine Exists.intro (m+1,_) ⟨⟨by omega,hwn.symm⟩,by simp only;omega,?_⟩)|exact cSd|apply qd []|refine exr ?_|refine qh ?_)
          all_goals first|rfl|(simp;done)
        ·have hmn:m=ys.length:=by omega
         subst hmn
         rw [List.take_length,← hpj] at hw
         subst hw
         apply qg []
         repeat' (first|apply And.intro|(intro h;try exact cDd)|(refine Exists.intro (j) ⟨by omega,_,hzm,?_⟩)|(refine Exists.intro (j+1) ⟨by omega,by omega,?_⟩)|exact cSd|apply qd []|refine exr ?_|refine qh ?_)
         all_goals first|rfl|(simp;done)
      ·have hji:j=i:=by omega
       subst hji
       apply qg []
       repeat' (first|apply And.intro|(intro h;try exact cDd)|(refine Exists.intro (k+1,n+1,P j) ⟨⟨by omega,hn1.symm,hPi.symm⟩,by simp only;omega,?_⟩)|exact cSd|apply qd []|refine exr ?_|refine qh ?_)
       all_goals first|rfl|(simp;done)
    ·have e1:badX r (all.take i) f=badR r f:=if_neg h7
     rw [e1] at hw1
     rcases hz:numZ f.2 with _|v
     case' none=>have hnm:=fun st=>qxo f.2 st hyv.2 hz
     case' some=>have hnm:=fun st=>qxp f.2 v st hyv.2 hz
     all_goals
      cases w
      all_goals
       apply qg []
       repeat' (first|apply And.intro|(intro h;try exact cDd)|(refine Exists.intro (i) ⟨by omega,_,hxm,?_⟩)|(refine Exists.intro (k) ⟨by omega,_,hym,?_⟩)|exact⟨Tryz.call145⟩|refine cpe hnm ?_|exact⟨Tryz.call144⟩|refine cpe hwv ?_|exact absurd hkey (by assumption)|exact cSd|apply qd []|refine exr ?_|refine qh ?_)
       all_goals
        refine zw (X:=Unit) (fun _=>⟨[(1,.a (qay all)),(2,.i i),(3,.a (.pp (qkm r))),(7,.i ((n:Int)+1)),(8,.b ((xs.take (k+1)).any (badX r (all.take i)))),(9,.i k),(10,.bx 0 0),(13,.i 0)],[(0,some (.cells 111 [.s f.1,.s f.2]))],1⟩) (fun _=>True) (fun _=>0) () trivial ?_ ?_
        ·skip
         repeat' (first|apply And.intro|(intro h;try exact cDd)|exact cSd|apply qd []|refine exr ?_|refine qh ?_)
         all_goals first
          |rfl
          |(rw [hw1];rfl)
          |(rw [hw1];simp_all [badR,y5,qe8,qda];done)
          |(rw [hw1,bad4 (by assumption) hkey];rfl)
          |(rw [hw1,bad5 (by assumption) hkey (by assumption)];rfl)
          |(rw [hw1,bad3 (by assumption) hkey hz (by assumption)];rfl)
        ·rintro _ _
         apply qg []
         repeat' (first|apply And.intro|(intro h;try exact cDd)|(refine Exists.intro (k+1,n+1,_) ⟨⟨by omega,hn1.symm,rfl⟩,by simp only;omega,?_⟩)|exact cSd|apply qd []|refine exr ?_|refine qh ?_)
         all_goals first|rfl|(simp;done)
   ·have e1:badX r (all.take i) f=false:=by
     unfold badX
     split
     ·simp [hkey]
     ·simp [badR,y5,hkey,h6]
    rw [e1,Bool.or_false] at hw1
    rw [if_neg (fun h=>hkey h.2),Nat.add_zero] at hn1
    apply qg []
    repeat' (first|apply And.intro|(intro h;try exact cDd)|(refine Exists.intro (i) ⟨by omega,_,hxm,?_⟩)|(refine Exists.intro (k) ⟨by omega,_,hym,?_⟩)|exact absurd hkey (by assumption)|(refine Exists.intro (k+1,n,w) ⟨⟨by omega,hn1.symm,hw1.symm⟩,by simp only;omega,?_⟩)|exact cSd|apply qd []|refine exr ?_|refine qh ?_)
    all_goals first|rfl|(simp;done)
  ·have hkn:k=xs.length:=by omega
   subst hkn
   rw [List.take_length] at hn hw
   rw [← hn,← hw] at hB
   cases w
   all_goals
    apply qg []
    repeat' (first|apply And.intro|(intro h;try exact cDd)|(refine Exists.intro (i) ⟨by omega,_,hxm,?_⟩)|exact cSd|apply qd []|refine exr ?_|refine qh ?_)
    all_goals refine congrArg Bv ?_
    all_goals rw [Bool.eq_iff_iff,hB]
    all_goals first|(simp;done)|(simp;omega)|(simp [*];done)|(simp [*];omega)
theorem qft (l:za) (rs:List zz) (st:List AObj) (hl:l.ents.length<1000000) (hf:∀ x∈stzF l.ents,qgs x.2) (hr:∀ r∈rs,qem r) (hrl:rs.length≤12) :
  qp E 40 [xk l,xu rs] st fun r st'=>r=xb (yg rs (stzF l.ents))∧st'=st:=by
 refine z0 [.a (xk l),.a (xu rs)] (qf6 _) Tryz.func40 rfl rfl (fun _=>rfl) rfl fun S0=>?_
 have hz:=fun st=>qr1 l st hl
 have hsl:=qkp l.ents
 have hbk:=fun (r:zz) (h:r∈rs) i x st (hx:(stzF l.ents)[i]? = some x)=>q2a r (stzF l.ents) i x st hx (hr r h) (by omega) hf
 generalize stzF l.ents=all at *
 have hfl:∀ k,(x7 0 (rs.take k) all).length≤12000000:=fun k=>by
  have h1:=qij all (rs.take k) 0
  have h2:(rs.take k).length≤12:=by simp;omega
  have h3:(rs.take k).length * all.length≤12 * all.length:=Nat.mul_le_mul_right _ h2
  omega
 have hsn:=qj3 all
 have hbq:=fun r=>qso r all
 have hbs:=qla
 have hmr:(rs.map wu).length=rs.length:=by simp
 have hma:(all.map stzA).length=all.length:=by simp
 unfold yg
 apply qg []
 repeat' (first|apply And.intro|(intro h;try exact cDd)|exact⟨Tryz.call80⟩|refine cpe hz ?_|exact cSd|apply qd []|refine exr ?_|refine qh ?_)
 refine zw (X:=Nat) (fun k=>⟨[(1,.a (xu rs)),(5,.tp 0),(6,.a (qay all)),(7,.i k)],[(0,some (.tip 2 172 ((x7 0 (rs.take k) all).map x8)))],1⟩) (fun k=>k≤rs.length) (fun k=>rs.length - k) 0 (by omega) ?_ ?_
 ·skip
  repeat' (first|apply And.intro|(intro h;try exact cDd)|exact cSd|apply qd []|refine exr ?_|refine qh ?_)
  all_goals first|rfl|(simp [x7];done)
 ·rintro k hk
  by_cases hkn:k<rs.length
  ·have hx:rs[k]? = some rs[k]:=List.getElem?_eq_getElem hkn
   have hxm:(rs.map wu)[k]? = some (wu rs[k]):=by rw [List.getElem?_map,hx];rfl
   have htk:rs.take (k+1)=rs.take k++[rs[k]]:=by rw [List.take_add_one,hx];rfl
   have hb1:=hbk _ (List.getElem_mem hkn)
   have hg:=fun st=>qno rs[k] st (hr _ (List.getElem_mem hkn)).key
   have hfl1:=hfl k
   have hs1:=hsn rs[k] (rs.take k) 0
   have hlk:(rs.take k).length=k:=by simp;omega
   rw [← htk,hlk,Nat.zero_add,hbq] at hs1
   generalize rs[k]=r at hx hxm hb1 hg hs1
   generalize x7 0 (rs.take k) all=o1 at *
   have hbl:∀ j,(qao r [] (all.take j)).length≤1000000:=fun j=>by
    have:=qjt r (all.take j)
    rw [qso] at this
    have h2:(all.take j).length≤all.length:=by simp;omega
    omega
   apply qg []
   repeat' (first|apply And.intro|(intro h;try exact cDd)|exact cSd|apply qd []|refine exr ?_|refine qh ?_)
   refine zw (X:=Nat) (fun j=>⟨[(1,.a (xu rs)),(5,.tp 0),(6,.a (qay all)),(7,.i k),(8,.i j)],[(0,some (.tip 2 172 ((o1++(qao r [] (all.take j)).map fun id=>((k:Int),id)).map x8)))],1⟩) (fun j=>j≤all.length) (fun j=>all.length - j) 0 (by omega) ?_ ?_
   ·skip
    repeat' (first|apply And.intro|(intro h;try exact cDd)|exact cSd|apply qd []|refine exr ?_|refine qh ?_)
    all_goals first|rfl|(simp [qao];done)
   ·rintro j hj
    by_cases hjn:j<all.length
    ·have hy:all[j]? = some all[j]:=List.getElem?_eq_getElem hjn
     have hym:(all.map stzA)[j]? = some (stzA all[j]):=by rw [List.getElem?_map,hy];rfl
     have htj:all.take (j+1)=all.take j++[all[j]]:=by rw [List.take_add_one,hy];rfl
     have hb2:=fun st=>hb1 j _ st hy
     have hblj:=hbl j
     have hsj:=hbs r all[j] (all.take j) []
     rw [← htj,List.nil_append] at hsj
     generalize all[j]=y at hy hym htj hb2 hsj
     generalize qao r [] (all.take j)=c1 at *
     by_cases hgd:y0 r
     ·rw [decide_eq_true hgd] at hg
      by_cases hat:qa6 r (all.take j) y
      ·rw [decide_eq_true hat] at hb2
       rw [if_pos ⟨hgd,hat⟩] at hsj
       apply qg []
       repeat' (first|apply And.intro|(intro h;try exact cDd)|(refine Exists.intro (k) ⟨by omega,_,hxm,?_⟩)|(refine Exists.intro (j) ⟨by omega,_,hym,?_⟩)|exact⟨Tryz.call81⟩|refine cpe hg ?_|exact⟨Tryz.call82⟩|refine cpe hb2 ?_|(refine Exists.intro (j+1) ⟨by omega,by omega,?_⟩)|exact cSd|apply qd []|refine exr ?_|refine qh ?_)
       all_goals first|rfl|(rw [hsj];done)|(rw [hsj];simp;done)|(simp;done)|(simp;omega)
      ·rw [decide_eq_false hat] at hb2
       rw [if_neg (fun h=>hat h.2),List.append_nil] at hsj
       apply qg []
       repeat' (first|apply And.intro|(intro h;try exact cDd)|(refine Exists.intro (k) ⟨by omega,_,hxm,?_⟩)|(refine Exists.intro (j) ⟨by omega,_,hym,?_⟩)|exact⟨Tryz.call81⟩|refine cpe hg ?_|exact⟨Tryz.call82⟩|refine cpe hb2 ?_|(refine Exists.intro (j+1) ⟨by omega,by omega,?_⟩)|exact cSd|apply qd []|refine exr ?_|refine qh ?_)
       all_goals first|rfl|(rw [hsj];done)|(rw [hsj];simp;done)|(simp;done)|(simp;omega)
     ·rw [decide_eq_false hgd] at hg
      rw [if_neg (fun h=>hgd h.1),List.append_nil] at hsj
      apply qg []
      repeat' (first|apply And.intro|(intro h;try exact cDd)|(refine Exists.intro (k) ⟨by omega,_,hxm,?_⟩)|(refine Exists.intro (j) ⟨by omega,_,hym,?_⟩)|exact⟨Tryz.call81⟩|refine cpe hg ?_|(refine Exists.intro (j+1) ⟨by omega,by omega,?_⟩)|exact cSd|apply qd []|refine exr ?_|refine qh ?_)
      all_goals first|rfl|(rw [hsj];done)|(simp;done)|(simp;omega)
    ·have hjn:j=all.length:=by omega
     subst hjn
     rw [List.take_length]
     apply qg []
     repeat' (first|apply And.intro|(intro h;try exact cDd)|(refine Exists.intro (k+1) ⟨by omega,by omega,?_⟩)|exact cSd|apply qd []|refine exr ?_|refine qh ?_)
     all_goals first|rfl|(rw [hs1];done)|(simp;done)
  ·have hkn:k=rs.length:=by omega
   subst hkn
   rw [List.take_length]
   apply qg []
   repeat' (first|apply And.intro|(intro h;try exact cDd)|exact cSd|apply qd []|refine exr ?_|refine qh ?_)
theorem zde {text:qe} (h:wc text = .no):GL (ofF (itsE text)):=by
 obtain⟨h1,_,h3⟩:=qza h
 refine zcl ?_ ?_
 ·rw [h3];exact ql2 h1
 ·rw [h3];exact q48 h1
theorem zat {text:qe} (h:wc text≠.no):(wc text).code≠0:=q7v h
theorem qzx:EqT Tryz.prog 88:=⟨by kernel_rfl,by kernel_rfl,by kernel_rfl⟩
end Go.Proofs.YtneejjefekdgjaaGreatDoor
namespace Go.Pl
open Go Go.Proofs Go.Av Go.Proofs.YtneejjefekdgjaaGreatDoor
def qgy (f:Int×Int):Nat→List (Int×Int)→Int
 | _,[]=> -1
 |k,x::r=>if f=x then (k:Int) else qgy f (k+1) r
theorem qs1 (f:Int×Int):∀ (xs:List (Int×Int)) (k:Nat),0≤qgy f k xs↔f∈xs
 | [],k=>by simp [qgy]
 |x::r,k=>by
  unfold qgy
  by_cases h:f=x
  ·rw [if_pos h]
   simp [h]
  ·rw [if_neg h,qs1 f r (k+1)]
   simp [h]
def qcq:Nat→List zz→Int
 | _,[]=> -1
 |k,r::t=>if y0 r then qcq (k+1) t else (k:Int)
def qef (l:za) (b:List zh) (rs:List zz):ErrV:=
 if 0≤qcq 0 rs then .at' (qcq 0 rs) 2 else if (doF l b).1 = .no then (match qei (yg rs (stzF l.ents)) (yg rs (stzF (doF l b).2.1.ents)) with
  | []=>.no
  |f::_=>.at' f.1 6) else (doF l b).1
end Go.Pl
namespace Go.Proofs.YtneejjefekdgjaaGreatDoor
open Go Go.Av Go.RowKit Go.Proofs Go.Pl
theorem q34 (xs:List (Int×Int)) (f:Int×Int) (st:List AObj) (hl:xs.length≤12000000):qp E 162 [xb xs,x8 f] st fun r st'=>r=Iv (qgy f 0 xs)∧st'=st:=by
 refine z0 [.a (xb xs),.a (x8 f)] (qy _) Tryz.func162 rfl rfl (fun _=>rfl) rfl fun S0=>?_
 have hma:(xs.map x8).length=xs.length:=by simp
 apply qg []
 repeat' (first|apply And.intro|(intro h;try exact cDd)|exact cSd|apply qd []|refine exr ?_|refine qh ?_)
 refine zw (X:=Nat) (fun k=>⟨[(0,.a (xb xs)),(3,.a (.pp [Iv f.1,Iv f.2])),(7,.i xs.length),(8,.i k)],[],0⟩) (fun k=>k≤xs.length∧qgy f k (xs.drop k)=qgy f 0 xs) (fun k=>xs.length - k) 0 ⟨by omega,by simp⟩ ?_ ?_
 ·skip
  repeat' (first|apply And.intro|(intro h;try exact cDd)|exact cSd|apply qd []|refine exr ?_|refine qh ?_)
  all_goals first|rfl|(simp;done)
 ·rintro k ⟨hk,hrun⟩
  by_cases hkn:k<xs.length
  ·have hx:xs[k]? = some xs[k]:=List.getElem?_eq_getElem hkn
   have hxm:(xs.map x8)[k]? = some (x8 xs[k]):=by rw [List.getElem?_map,hx];rfl
   rw [List.drop_eq_getElem_cons hkn,qgy] at hrun
   generalize xs[k]=x at hx hxm hrun
   by_cases he:f=x
   ·rw [if_pos he] at hrun
    have hq:f.1=x.1∧f.2=x.2∧True:=by rw [he];exact⟨rfl,rfl,trivial⟩
    rw [← hrun]
    apply qg []
    repeat' (first|apply And.intro|(intro h;try exact cDd)|(refine Exists.intro (k) ⟨by omega,_,hxm,?_⟩)|(refine qus qzx rfl rfl rfl rfl rfl ?_)|exact absurd hq (by assumption)|exact cSd|apply qd []|refine exr ?_|refine qh ?_)
   ·rw [if_neg he] at hrun
    have hq:¬ (f.1=x.1∧f.2=x.2∧True):=fun h=>he (Prod.ext h.1 h.2.1)
    apply qg []
    repeat' (first|apply And.intro|(intro h;try exact cDd)|(refine Exists.intro (k) ⟨by omega,_,hxm,?_⟩)|(refine qus qzx rfl rfl rfl rfl rfl ?_)|exact absurd (by assumption) hq|(refine Exists.intro (k+1) ⟨⟨by omega,hrun⟩,by omega,?_⟩)|exact cSd|apply qd []|refine exr ?_|refine qh ?_)
  ·have hkn:k=xs.length:=by omega
   subst hkn
   rw [List.drop_length,qgy] at hrun
   rw [← hrun]
   apply qg []
   repeat' (first|apply And.intro|(intro h;try exact cDd)|exact cSd|apply qd []|refine exr ?_|refine qh ?_)
theorem qv7 (xs:List (Int×Int)) (f:Int×Int) (st:List AObj) (hl:xs.length≤12000000):qp E 98 [xb xs,x8 f] st fun r st'=>r=Bv (decide (f∈xs))∧st'=st:=by
 refine z0 [.a (xb xs),.a (x8 f)] (qy _) Tryz.func98 rfl rfl (fun _=>rfl) rfl fun S0=>?_
 have h1:=fun st=>q34 xs f st hl
 rw [decide_eq_decide.2 (qs1 f xs 0).symm]
 apply qg []
 repeat' (first|apply And.intro|(intro h;try exact cDd)|exact⟨Tryz.call162⟩|refine cpe h1 ?_|exact cSd|apply qd []|refine exr ?_|refine qh ?_)
theorem qxz (old now:List (Int×Int)) (st:List AObj) (h1:old.length≤12000000) (h2:now.length≤12000000):qp E 48 [xb old,xb now] st fun r st'=>r=xb (qei old now)∧st'=st:=by
 refine z0 [.a (xb old),.a (xb now)] (qf6 _) Tryz.func48 rfl rfl (fun _=>rfl) rfl fun S0=>?_
 have hma:(now.map x8).length=now.length:=by simp
 unfold qei
 apply qg []
 repeat' (first|apply And.intro|(intro h;try exact cDd)|exact cSd|apply qd []|refine exr ?_|refine qh ?_)
 refine zw (X:=Nat) (fun k=>⟨[(0,.a (xb old)),(5,.tp 0),(8,.a (xb now)),(9,.i now.length),(10,.i k)],[(0,some (.tip 2 88 (((now.take k).filter fun f=> !decide (f∈old)).map x8)))],1⟩) (fun k=>k≤now.length) (fun k=>now.length - k) 0 (by omega) ?_ ?_
 ·skip
  repeat' (first|apply And.intro|(intro h;try exact cDd)|exact cSd|apply qd []|refine exr ?_|refine qh ?_)
  all_goals first|rfl|(simp;done)
 ·rintro k hk
  by_cases hkn:k<now.length
  ·have hx:now[k]? = some now[k]:=List.getElem?_eq_getElem hkn
   have hxm:(now.map x8)[k]? = some (x8 now[k]):=by rw [List.getElem?_map,hx];rfl
   have htk:now.take (k+1)=now.take k++[now[k]]:=by rw [List.take_add_one,hx];rfl
   have hfl:((now.take k).filter fun f=> !decide (f∈old)).length≤now.length:=by
    have:=List.length_filter_le (fun f:Int×Int=> !decide (f∈old)) (now.take k)
    simp at this
    simp
    omega
   have hc:=fun st=>qv7 old now[k] st h1
   generalize now[k]=x at hx hxm htk hc
   by_cases hm:x∈old
   ·have e1:(now.take (k+1)).filter (fun f=> !decide (f∈old))=(now.take k).filter fun f=> !decide (f∈old):=by rw [htk];simp [hm]
    rw [decide_eq_true hm] at hc
    apply qg []
    repeat' (first|apply And.intro|(intro h;try exact cDd)|(refine Exists.intro (k) ⟨by omega,_,hxm,?_⟩)|exact⟨Tryz.call98⟩|refine cpe hc ?_|(refine Exists.intro (k+1) ⟨by omega,by omega,?_⟩)|exact cSd|apply qd []|refine exr ?_|refine qh ?_)
    all_goals first|(rw [e1];done)|(simp;omega)
   ·have e1:(now.take (k+1)).filter (fun f=> !decide (f∈old))=(now.take k).filter (fun f=> !decide (f∈old))++[x]:=by rw [htk];simp [hm]
    rw [decide_eq_false hm] at hc
    apply qg []
    repeat' (first|apply And.intro|(intro h;try exact cDd)|(refine Exists.intro (k) ⟨by omega,_,hxm,?_⟩)|exact⟨Tryz.call98⟩|refine cpe hc ?_|(refine Exists.intro (k+1) ⟨by omega,by omega,?_⟩)|exact cSd|apply qd []|refine exr ?_|refine qh ?_)
    all_goals first|(rw [e1];simp;done)|(simp;omega)|omega
  ·have hkn:k=now.length:=by omega
   subst hkn
   rw [List.take_length]
   apply qg []
   repeat' (first|apply And.intro|(intro h;try exact cDd)|exact cSd|apply qd []|refine exr ?_|refine qh ?_)
theorem q59 (r:zz) (st:List AObj) (hr:qem r):qp E 91 [wu r] st fun x st'=>x=Bv (!decide (y0 r))∧st'=st:=by
 refine z0 [.a (wu r)] (qy _) Tryz.func91 rfl rfl (fun _=>rfl) rfl fun S0=>?_
 have hg:=fun st=>qmn r st hr.key
 cases hd:decide (y0 r)
 all_goals
  rw [hd] at hg
  apply qg []
  repeat' (first|apply And.intro|(intro h;try exact cDd)|exact⟨Tryz.call50⟩|refine cpe hg ?_|exact cSd|apply qd []|refine exr ?_|refine qh ?_)
@[reducible] def qrc : AV := .fn (.func 91) [] []
theorem q4c (rs:List zz) (st:List AObj) (hr:∀ r∈rs,qem r) (hl:rs.length≤12):qp E 90 [xu rs,qrc] st fun r st'=>r=Iv (qcq 0 rs)∧st'=st:=by
 refine z0 [.a (xu rs),.a qrc] (qy _) Tryz.func90 rfl rfl (fun _=>rfl) rfl fun S0=>?_
 have hmr:(rs.map wu).length=rs.length:=by simp
 have hal:=fun r (h:r∈rs) st=>q59 r st (hr r h)
 apply qg []
 repeat' (first|apply And.intro|(intro h;try exact cDd)|exact cSd|apply qd []|refine exr ?_|refine qh ?_)
 refine zw (X:=Nat) (fun k=>⟨[(0,.a (xu rs)),(1,.a qrc),(7,.i rs.length),(8,.i k)],[],0⟩) (fun k=>k≤rs.length∧qcq k (rs.drop k)=qcq 0 rs) (fun k=>rs.length - k) 0 ⟨by omega,by simp⟩ ?_ ?_
 ·skip
  repeat' (first|apply And.intro|(intro h;try exact cDd)|exact cSd|apply qd []|refine exr ?_|refine qh ?_)
  all_goals first|rfl|(simp;done)
 ·rintro k ⟨hk,hrun⟩
  by_cases hkn:k<rs.length
  ·have hx:rs[k]? = some rs[k]:=List.getElem?_eq_getElem hkn
   have hxm:(rs.map wu)[k]? = some (wu rs[k]):=by rw [List.getElem?_map,hx];rfl
   rw [List.drop_eq_getElem_cons hkn,qcq] at hrun
   have h1:=hal _ (List.getElem_mem hkn)
   generalize rs[k]=r at hx hxm hrun h1
   by_cases hg:y0 r
   ·rw [if_pos hg] at hrun
    rw [decide_eq_true hg] at h1
    apply qg []
    repeat' (first|apply And.intro|(intro h;try exact cDd)|(refine Exists.intro (k) ⟨by omega,_,hxm,?_⟩)|exact⟨Tryz.call91⟩|refine cpe h1 ?_|(refine Exists.intro (k+1) ⟨⟨by omega,hrun⟩,by omega,?_⟩)|exact cSd|apply qd []|refine exr ?_|refine qh ?_)
   ·rw [if_neg hg] at hrun
    rw [decide_eq_false hg] at h1
    rw [← hrun]
    apply qg []
    repeat' (first|apply And.intro|(intro h;try exact cDd)|(refine Exists.intro (k) ⟨by omega,_,hxm,?_⟩)|exact⟨Tryz.call91⟩|refine cpe h1 ?_|exact cSd|apply qd []|refine exr ?_|refine qh ?_)
  ·have hkn:k=rs.length:=by omega
   subst hkn
   rw [List.drop_length,qcq] at hrun
   rw [← hrun]
   apply qg []
   repeat' (first|apply And.intro|(intro h;try exact cDd)|exact cSd|apply qd []|refine exr ?_|refine qh ?_)
theorem qj2 (l:za) (rs:List zz) (st:List AObj) (hG:GL l) (hl:l.ents.length<1000000) (hr:∀ r∈rs,qem r) (hrl:rs.length≤12) :
  qp E 39 [y3 l,xu rs] st fun r st'=>r=xb (yg rs (stzF l.ents))∧st'=st:=
 q9v (some l) rs st (fun st=>q1w l st hl fun e he=>by have:=(qwn (hG.ok e he).1).1;omega) (by have:=qkp l.ents;show (stzF l.ents).length<_;omega) (fun x hx=>qhv (qq4 hG x hx)) hr hrl
theorem qd1 {l:za} {rs:List zz} (hl:l.ents.length<1000000) (hrl:rs.length≤12):(yg rs (stzF l.ents)).length≤12000000:=by
 have h1:=qij (stzF l.ents) rs 0
 have h2:=qkp l.ents
 have h3:rs.length * (stzF l.ents).length≤12 * (stzF l.ents).length:=Nat.mul_le_mul_right _ hrl
 unfold yg
 omega
theorem q6a (n:Nat) (l:za) (b:List zh) (rs:List zz) (st:List AObj) (hG:GL l) (hB:LB n l) (hn:n+40<900000) (hE:∀ x∈b,EdB x) (hl:b.length<1000000) (hr:∀ r∈rs,qem r) (hrl:rs.length≤12) :
  qp E 44 [y3 l,ye b,xu rs] st fun r st'=>r=errA (qef l b rs)∧st'=st:=by
 refine z0 [.a (y3 l),.a (ye b),.a (xu rs)] (qab _) Tryz.func44 rfl rfl (fun _=>rfl) rfl fun S0=>?_
 have hix:=fun st=>q4c rs st hr hrl
 have hdo:=fun st=>q8z n l b st hB hn hE hl
 have hLm:=qvw hB hn b
 have hGm:=qvv hG b
 have hl1:=hB.len
 have hl2:=hLm.len
 have hf1:=fun st=>qj2 l rs st hG (by omega) hr hrl
 have hf2:=fun st=>qj2 (doF l b).2.1 rs st hGm (by omega) hr hrl
 have hfr:=fun st=>qxz (yg rs (stzF l.ents)) (yg rs (stzF (doF l b).2.1.ents)) st (qd1 (by omega) hrl) (qd1 (by omega) hrl)
 unfold qef
 generalize qcq 0 rs=i at *
 clear hLm hGm hl1 hl2 hB hG
 generalize doF l b=d at *
 obtain⟨e,m,ids⟩:=d
 dsimp only at hf2 hfr ⊢
 unfold doA at hdo
 dsimp only at hdo
 generalize yg rs (stzF l.ents)=f1 at *
 generalize yg rs (stzF m.ents)=f2 at *
 generalize qei f1 f2=fr at *
 by_cases hi:0≤i
 ·rw [if_pos hi]
  apply qg []
  repeat' (first|apply And.intro|(intro h;try exact cDd)|exact⟨Tryz.call90⟩|refine cpe hix ?_|exact cSd|apply qd []|refine exr ?_|refine qh ?_)
 ·rw [if_neg hi]
  cases e with
  |no=>
   rw [if_pos rfl]
   cases fr with
   |nil=>
    apply qg []
    repeat' (first|apply And.intro|(intro h;try exact cDd)|exact⟨Tryz.call90⟩|refine cpe hix ?_|exact⟨Tryz.call46⟩|refine cpe hdo ?_|exact⟨Tryz.call39⟩|refine cpe hf1 ?_|exact⟨Tryz.call39⟩|refine cpe hf2 ?_|exact⟨Tryz.call48⟩|refine cpe hfr ?_|exact cSd|apply qd []|refine exr ?_|refine qh ?_)
   |cons f fr=>
    have hf0:((f::fr).map x8)[0]? = some (x8 f):=rfl
    have hfl:0<(((f::fr).map x8).length:Int):=by simp
    apply qg []
    repeat' (first|apply And.intro|(intro h;try exact cDd)|(refine Exists.intro (0) ⟨by omega,_,hf0,?_⟩)|exact⟨Tryz.call90⟩|refine cpe hix ?_|exact⟨Tryz.call46⟩|refine cpe hdo ?_|exact⟨Tryz.call39⟩|refine cpe hf1 ?_|exact⟨Tryz.call39⟩|refine cpe hf2 ?_|exact⟨Tryz.call48⟩|refine cpe hfr ?_|exact cSd|apply qd []|refine exr ?_|refine qh ?_)
    all_goals first|rfl|(simp;done)|(simp;omega)|omega|trace_state
  |num n=>
   rw [if_neg (by simp)]
   apply qg []
   repeat' (first|apply And.intro|(intro h;try exact cDd)|exact⟨Tryz.call90⟩|refine cpe hix ?_|exact⟨Tryz.call46⟩|refine cpe hdo ?_|exact cSd|apply qd []|refine exr ?_|refine qh ?_)
  |at' a n=>
   rw [if_neg (by simp)]
   apply qg []
   repeat' (first|apply And.intro|(intro h;try exact cDd)|exact⟨Tryz.call90⟩|refine cpe hix ?_|exact⟨Tryz.call46⟩|refine cpe hdo ?_|exact cSd|apply qd []|refine exr ?_|refine qh ?_)
theorem ql6 (old now:List (Int×Int)) (st:List AObj) (h1:old.length≤12000000) (h2:now.length≤12000000):qp E 49 [xb old,xb now] st fun r st'=>r=xb (qei old now)∧st'=st:=by
 refine z0 [.a (xb old),.a (xb now)] (qf6 _) Tryz.func49 rfl rfl (fun _=>rfl) rfl fun S0=>?_
 have hma:(now.map x8).length=now.length:=by simp
 have hmo:(old.map x8).length=old.length:=by simp
 unfold qei
 apply qg []
 repeat' (first|apply And.intro|(intro h;try exact cDd)|exact cSd|apply qd []|refine exr ?_|refine qh ?_)
 refine zw (X:=Nat) (fun k=>⟨[(0,.a (xb old)),(1,.a (xb now)),(5,.tp 0),(6,.i k)],[(0,some (.tip 2 172 (((now.take k).filter fun f=> !decide (f∈old)).map x8)))],1⟩) (fun k=>k≤now.length) (fun k=>now.length - k) 0 (by omega) ?_ ?_
 ·skip
  repeat' (first|apply And.intro|(intro h;try exact cDd)|exact cSd|apply qd []|refine exr ?_|refine qh ?_)
  all_goals first|rfl|(simp;done)
 ·rintro k hk
  by_cases hkn:k<now.length
  ·have hx:now[k]? = some now[k]:=List.getElem?_eq_getElem hkn
   have hxm:(now.map x8)[k]? = some (x8 now[k]):=by rw [List.getElem?_map,hx];rfl
   have htk:now.take (k+1)=now.take k++[now[k]]:=by rw [List.take_add_one,hx];rfl
   have hfl:((now.take k).filter fun f=> !decide (f∈old)).length≤now.length:=by
    have:=List.length_filter_le (fun f:Int×Int=> !decide (f∈old)) (now.take k)
    simp at this
    simp
    omega
   generalize now[k]=x at hx hxm htk
   have e1:(now.take (k+1)).filter (fun f=> !decide (f∈old))=(now.take k).filter (fun f=> !decide (f∈old))++if x∈old then [] else [x]:=by
    rw [htk]
    by_cases hm:x∈old <;> simp [hm]
   generalize (now.take k).filter (fun f=> !decide (f∈old))=o1 at *
   apply qg []
   repeat' (first|apply And.intro|(intro h;try exact cDd)|exact cSd|apply qd []|refine exr ?_|refine qh ?_)
   refine zw (X:=Nat×Bool) (fun (j,w)=>⟨[(0,.a (xb old)),(1,.a (xb now)),(5,.tp 0),(6,.i k),(7,.b w),(8,.i j)],[(0,some (.tip 2 172 (o1.map x8)))],1⟩) (fun (j,w)=>j≤old.length∧w=decide (x∈old.take j)) (fun (j,_)=>old.length - j) (0,false) ⟨by omega,by simp⟩ ?_ ?_
   ·skip
    repeat' (first|apply And.intro|(intro h;try exact cDd)|exact cSd|apply qd []|refine exr ?_|refine qh ?_)
    all_goals first|rfl|(simp;done)
   ·rintro⟨j,w⟩ ⟨hj,hw⟩
    by_cases hjn:j<old.length
    ·have hy:old[j]? = some old[j]:=List.getElem?_eq_getElem hjn
     have hym:(old.map x8)[j]? = some (x8 old[j]):=by rw [List.getElem?_map,hy];rfl
     have hwj:decide (x∈old.take (j+1))=(w ||decide (old[j].1=x.1∧old[j].2=x.2∧True)):=by
      have e:old.take (j+1)=old.take j++[old[j]]:=by rw [List.take_add_one,hy];rfl
      have:(x=old[j])↔(old[j].1=x.1∧old[j].2=x.2∧True):=⟨fun h=>by rw [h];exact⟨rfl,rfl,trivial⟩,fun h=>Prod.ext h.1.symm h.2.1.symm⟩
      rw [e,hw]
      simp only [List.mem_append,List.mem_singleton,Bool.decide_or]
      congr 1
      exact decide_eq_decide.2 this
     generalize old[j]=y at hy hym hwj
     cases w
     all_goals
      apply qg []
      repeat' (first|apply And.intro|(intro h;try exact cDd)|(refine Exists.intro (k) ⟨by omega,_,hxm,?_⟩)|(refine Exists.intro (j) ⟨by omega,_,hym,?_⟩)|(refine qus q3z rfl rfl rfl rfl rfl ?_)|(refine Exists.intro (j+1,_) ⟨⟨by omega,hwj.symm⟩,by simp only;omega,?_⟩)|exact cSd|apply qd []|refine exr ?_|refine qh ?_)
      all_goals first|rfl|(simp;done)
    ·have hjn:j=old.length:=by omega
     subst hjn
     rw [List.take_length] at hw
     by_cases hm:x∈old
     ·rw [decide_eq_true hm] at hw
      subst hw
      rw [if_pos hm,List.append_nil] at e1
      apply qg []
      repeat' (first|apply And.intro|(intro h;try exact cDd)|(refine Exists.intro (k) ⟨by omega,_,hxm,?_⟩)|(refine Exists.intro (k+1) ⟨by omega,by omega,?_⟩)|exact cSd|apply qd []|refine exr ?_|refine qh ?_)
      all_goals first|rfl|(rw [e1];done)|(simp;done)
     ·rw [decide_eq_false hm] at hw
      subst hw
      rw [if_neg hm] at e1
      apply qg []
      repeat' (first|apply And.intro|(intro h;try exact cDd)|(refine Exists.intro (k) ⟨by omega,_,hxm,?_⟩)|(refine Exists.intro (k+1) ⟨by omega,by omega,?_⟩)|exact cSd|apply qd []|refine exr ?_|refine qh ?_)
      all_goals first|rfl|(rw [e1];simp;done)|(simp;done)|(simp;omega)|omega
  ·have hkn:k=now.length:=by omega
   subst hkn
   rw [List.take_length]
   apply qg []
   repeat' (first|apply And.intro|(intro h;try exact cDd)|exact cSd|apply qd []|refine exr ?_|refine qh ?_)
theorem qua (n:Nat) (l:za) (b:List zh) (rs:List zz) (st:List AObj) (hG:GL l) (hB:LB n l) (hM:LM l) (hn:n+40<900000) (hE:∀ x∈b,EdB x) (hl:b.length<1000000) (hr:∀ r∈rs,qem r) (hrl:rs.length≤12) :
  qp E 45 [xk l,ye b,xu rs] st fun r st'=>r = .tu [Iv (qef l b rs).pos,Iv (qef l b rs).code]∧st'=st:=by
 refine z0 [.a (xk l),.a (ye b),.a (xu rs)] (qcg (qy _) (qy _)) Tryz.func45 rfl rfl (fun _=>rfl) rfl fun S0=>?_
 have hmr:(rs.map wu).length=rs.length:=by simp
 have hgd:=fun r (h:r∈rs) st=>qno r st (hr r h).key
 have hdo:=fun st=>qtn n l b st hB hM hn hE hl
 have hLm:=qvw hB hn b
 have hGm:=qvv hG b
 have hl1:=hB.len
 have hl2:=hLm.len
 have hf1:=fun st=>qft l rs st (by omega) (fun x hx=>qhv (qq4 hG x hx)) hr hrl
 have hf2:=fun st=>qft (doF l b).2.1 rs st (by omega) (fun x hx=>qhv (qq4 hGm x hx)) hr hrl
 have hfr:=fun st=>ql6 (yg rs (stzF l.ents)) (yg rs (stzF (doF l b).2.1.ents)) st (qd1 (by omega) hrl) (qd1 (by omega) hrl)
 have hcd:=@qn4 l b
 unfold qef
 clear hLm hGm hl1 hl2 hB hG hM
 unfold doR at hdo
 generalize doF l b=d at *
 obtain⟨e,m,ids⟩:=d
 dsimp only at hf2 hfr hdo hcd ⊢
 generalize yg rs (stzF l.ents)=f1 at *
 generalize yg rs (stzF m.ents)=f2 at *
 generalize qei f1 f2=fr at *
 apply qg []
 repeat' (first|apply And.intro|(intro h;try exact cDd)|exact cSd|apply qd []|refine exr ?_|refine qh ?_)
 refine zw (X:=Nat) (fun k=>⟨[(1,.a (ye b)),(2,.a (xu rs)),(3,.a (.pp [qes l.ents,Iv l.next])),(8,.i k)],[],0⟩) (fun k=>k≤rs.length∧qcq k (rs.drop k)=qcq 0 rs) (fun k=>rs.length - k) 0 ⟨by omega,by simp⟩ ?_ ?_
 ·skip
  repeat' (first|apply And.intro|(intro h;try exact cDd)|exact cSd|apply qd []|refine exr ?_|refine qh ?_)
  all_goals first|rfl|(simp;done)
 ·rintro k ⟨hk,hrun⟩
  by_cases hkn:k<rs.length
  ·have hx:rs[k]? = some rs[k]:=List.getElem?_eq_getElem hkn
   have hxm:(rs.map wu)[k]? = some (wu rs[k]):=by rw [List.getElem?_map,hx];rfl
   rw [List.drop_eq_getElem_cons hkn,qcq] at hrun
   have h1:=hgd _ (List.getElem_mem hkn)
   generalize rs[k]=r at hx hxm hrun h1
   by_cases hg:y0 r
   ·rw [if_pos hg] at hrun
    rw [decide_eq_true hg] at h1
    apply qg []
    repeat' (first|apply And.intro|(intro h;try exact cDd)|(refine Exists.intro (k) ⟨by omega,_,hxm,?_⟩)|exact⟨Tryz.call81⟩|refine cpe h1 ?_|(refine Exists.intro (k+1) ⟨⟨by omega,hrun⟩,by omega,?_⟩)|exact cSd|apply qd []|refine exr ?_|refine qh ?_)
   ·rw [if_neg hg] at hrun
    rw [decide_eq_false hg] at h1
    rw [← hrun,if_pos (by omega)]
    apply qg []
    repeat' (first|apply And.intro|(intro h;try exact cDd)|(refine Exists.intro (k) ⟨by omega,_,hxm,?_⟩)|exact⟨Tryz.call81⟩|refine cpe h1 ?_|exact cSd|apply qd []|refine exr ?_|refine qh ?_)
  ·have hkn:k=rs.length:=by omega
   subst hkn
   rw [List.drop_length,qcq] at hrun
   rw [← hrun,if_neg (by omega)]
   cases e with
   |no=>
    rw [if_pos rfl] at hdo ⊢
    cases fr with
    |nil=>
     apply qg []
     repeat' (first|apply And.intro|(intro h;try exact cDd)|exact⟨Tryz.call47⟩|refine cpe hdo ?_|exact⟨Tryz.call40⟩|refine cpe hf1 ?_|exact⟨Tryz.call40⟩|refine cpe hf2 ?_|exact⟨Tryz.call49⟩|refine cpe hfr ?_|exact cSd|apply qd []|refine exr ?_|refine qh ?_)
    |cons f fr=>
     have hf0:((f::fr).map x8)[0]? = some (x8 f):=rfl
     have hfl:0<(((f::fr).map x8).length:Int):=by simp
     apply qg []
     repeat' (first|apply And.intro|(intro h;try exact cDd)|(refine Exists.intro (0) ⟨by omega,_,hf0,?_⟩)|exact⟨Tryz.call47⟩|refine cpe hdo ?_|exact⟨Tryz.call40⟩|refine cpe hf1 ?_|exact⟨Tryz.call40⟩|refine cpe hf2 ?_|exact⟨Tryz.call49⟩|refine cpe hfr ?_|exact cSd|apply qd []|refine exr ?_|refine qh ?_)
     all_goals first|rfl|(simp [ErrV.pos,ErrV.code];done)|(simp;omega)|omega
   |num n=>
    have hc:=hcd (by simp)
    rw [if_neg (by simp)] at hdo ⊢
    apply qg []
    repeat' (first|apply And.intro|(intro h;try exact cDd)|exact⟨Tryz.call47⟩|refine cpe hdo ?_|exact cSd|apply qd []|refine exr ?_|refine qh ?_)
    all_goals exact absurd (by assumption:(ErrV.num n).code=0) hc
   |at' a n=>
    have hc:=hcd (by simp)
    rw [if_neg (by simp)] at hdo ⊢
    apply qg []
    repeat' (first|apply And.intro|(intro h;try exact cDd)|exact⟨Tryz.call47⟩|refine cpe hdo ?_|exact cSd|apply qd []|refine exr ?_|refine qh ?_)
    all_goals exact absurd (by assumption:(ErrV.at' a n).code=0) hc
theorem q26 (b:List zh) (rs:List zz) (st:List AObj):qp E 44 [.v (.pointer none),ye b,xu rs] st fun r st'=>r=errA (.num 7)∧st'=st:=by
 refine z0 [.a (.v (.pointer none)),.a (ye b),.a (xu rs)] (qab _) Tryz.func44 rfl rfl (fun _=>rfl) rfl fun S0=>?_
 apply qg []
 repeat' (first|apply And.intro|(intro h;try exact cDd)|exact cSd|apply qd []|refine exr ?_|refine qh ?_)
theorem q25 (l:za) (b:List zh) (rs:List zz):okE (qef l b rs):=by
 unfold qef
 split
 ·simp [okE]
 ·split
  ·split
   ·simp [okE]
   ·simp [okE]
  ·exact zcp (@qn4 l b)
set_option maxHeartbeats 4000000 in
theorem qr4 (text:qe) (b:List zh) (rs:List zz) (st:List AObj) (hA:ArgE b):qp E 8 [Sv text,ye b,xu rs] st fun r st'=>r=Bv true∧st'=st:=by
 refine z0 [.s text,.a (ye b),.a (xu rs)] (qy _) Tryz.func8 rfl rfl (fun _=>rfl) rfl fun S0=>?_
 have hal:=q24
 have hlg:=fun st=>q4h text rs st
 have hhv:=fun st=>q68 b st hA.1 fun y hy=>(hA.2 y hy).1
 cases hb:qlr text rs with
 |true=>
  rw [hb] at hlg
  apply qg []
  repeat' (first|apply And.intro|(intro h;try exact cDd)|exact⟨Tryz.call33⟩|refine cpe hal ?_|exact⟨Tryz.call34⟩|refine cpe hlg ?_|exact cSd|apply qd []|refine exr ?_|refine qh ?_)
 |false=>
 rw [hb] at hlg
 cases hh:qej b 0 with
 |true=>
  rw [hh] at hhv
  apply qg []
  repeat' (first|apply And.intro|(intro h;try exact cDd)|exact⟨Tryz.call33⟩|refine cpe hal ?_|exact⟨Tryz.call34⟩|refine cpe hlg ?_|exact⟨Tryz.call42⟩|refine cpe hhv ?_|exact cSd|apply qd []|refine exr ?_|refine qh ?_)
 |false=>
 rw [hh] at hhv
 have hL:=qwh hh
 have hE:=zab hA hL
 have hbl:=hL.1
 obtain⟨hl1,hl2,hl3⟩:=q4i hb
 have hof:=fun st=>q7f text st (by omega)
 have hrf:=fun st=>q5e text st (by omega)
 have hcd:=@zat text
 have hlb:=zcm text
 have hlm:=zco (itsE text)
 have hli:=zcn text
 have hgl:wc text = .no→GL (ofF (itsE text)):=zde
 unfold ofR at hrf
 generalize ofF (itsE text)=l at *
 cases he:wc text with
 |num n=>
  have hn:=hcd (by rw [he];simp)
  rw [he] at hof hrf hn
  rw [if_neg (by simp)] at hrf
  apply qg []
  repeat' (first|apply And.intro|(intro h;try exact cDd)|exact⟨Tryz.call33⟩|refine cpe hal ?_|exact⟨Tryz.call34⟩|refine cpe hlg ?_|exact⟨Tryz.call42⟩|refine cpe hhv ?_|exact⟨Tryz.call35⟩|refine cpe hof ?_|exact⟨Tryz.call36⟩|refine cpe hrf ?_|exact cSd|apply qd []|refine exr ?_|refine qh ?_)
  all_goals first|exact congrArg Bv (decide_eq_true hn)|(simp [hn];done)|(simpa [ErrV.code] using hn)|exact absurd (by assumption:(ErrV.num n).code=0) hn
 |at' a n=>
  have hn:=hcd (by rw [he];simp)
  rw [he] at hof hrf hn
  rw [if_neg (by simp)] at hrf
  apply qg []
  repeat' (first|apply And.intro|(intro h;try exact cDd)|exact⟨Tryz.call33⟩|refine cpe hal ?_|exact⟨Tryz.call34⟩|refine cpe hlg ?_|exact⟨Tryz.call42⟩|refine cpe hhv ?_|exact⟨Tryz.call35⟩|refine cpe hof ?_|exact⟨Tryz.call36⟩|refine cpe hrf ?_|exact cSd|apply qd []|refine exr ?_|refine qh ?_)
  all_goals first|exact congrArg Bv (decide_eq_true hn)|(simp [hn];done)|(simpa [ErrV.code] using hn)|exact absurd (by assumption:(ErrV.at' a n).code=0) hn
 |no=>
 have hG:=hgl he
 have hln:=hlb.len
 rw [he] at hof hrf
 rw [if_pos rfl] at hrf
 replace hof:∀ st,qp E 35 [Sv text] st fun r st'=>r = .tu [y3 l,errA .no]∧st'=st:=hof
 replace hrf:∀ st,qp E 36 [Sv text] st fun r st'=>r = .tu [xk l,Iv (-9),Iv 0]∧st'=st:=hrf
 have hpr:=fun st=>qzd rs st hl2
 have htx:=fun st=>zah l st (q94 hlb hli) (q8p hlb hli)
 have haw:=fun st=>q6a 300000 l b rs st hG hlb (by omega) hE (by omega) hl3 hl2
 have hrw:=fun st=>qua 300000 l b rs st hG hlb hlm (by omega) hE (by omega) hl3 hl2
 have hao:=q25 l b rs
 have hnm:=fun st=>q4r (qef l b rs) st hao
 have hat:=fun st=>zc8 (qef l b rs) st
 have han:=fun st=>q26 b rs st
 have his:=fun st=>zdc (.num 7) 7 st (by simp [okE])
 have hdo:=fun st=>q8z 300000 l b st hlb (by omega) hE (by omega)
 have hrd:=fun st=>qtn 300000 l b st hlb hlm (by omega) hE (by omega)
 have hdc:=@qn4 l b
 have hLm:=qvw hlb (by omega) b
 have hGm:=qvv hG b
 have hl4:=hLm.len
 have hf1:=fun st=>qj2 l rs st hG (by omega) hl3 hl2
 have hf2:=fun st=>qj2 (doF l b).2.1 rs st hGm (by omega) hl3 hl2
 have hr1:=fun st=>qft l rs st (by omega) (fun x hx=>qhv (qq4 hG x hx)) hl3 hl2
 have hr2:=fun st=>qft (doF l b).2.1 rs st (by omega) (fun x hx=>qhv (qq4 hGm x hx)) hl3 hl2
 have hx1:=@qd1 l rs (by omega) hl2
 have hx2:=@qd1 (doF l b).2.1 rs (by omega) hl2
 have hs1:=fun st=>qxz (yg rs (stzF l.ents)) (yg rs (stzF (doF l b).2.1.ents)) st hx1 hx2
 have hs2:=fun st=>ql6 (yg rs (stzF l.ents)) (yg rs (stzF (doF l b).2.1.ents)) st hx1 hx2
 have hfl:(qei (yg rs (stzF l.ents)) (yg rs (stzF (doF l b).2.1.ents))).length≤12000000:=Nat.le_trans (List.length_filter_le _ _) hx2
 have hfq:=fun st=>q36 (qei (yg rs (stzF l.ents)) (yg rs (stzF (doF l b).2.1.ents))) st hfl
 clear hx1 hx2 hfl hLm hGm hl4 hlb hlm hli hG
 generalize qef l b rs=w at *
 unfold doR at hrd
 unfold doA at hdo
 generalize doF l b=d at *
 obtain⟨e,m,ids⟩:=d
 dsimp only at hf2 hr2 hs1 hs2 hfq hdo hrd hdc
 generalize yg rs (stzF l.ents)=f1 at *
 generalize yg rs (stzF m.ents)=f2 at *
 generalize qei f1 f2=fr at *
 rw [decide_eq_true (show (ErrV.num 7).code=7 from rfl)] at his
 cases e with
 |no=>
  rw [if_pos rfl] at hrd
  cases w
  all_goals
   apply qg []
   repeat' (first|apply And.intro|(intro h;try exact cDd)|exact⟨Tryz.call33⟩|refine cpe hal ?_|exact⟨Tryz.call34⟩|refine cpe hlg ?_|exact⟨Tryz.call42⟩|refine cpe hhv ?_|exact⟨Tryz.call35⟩|refine cpe hof ?_|exact⟨Tryz.call36⟩|refine cpe hrf ?_|exact⟨Tryz.call37⟩|refine cpe hpr ?_|exact⟨Tryz.call43⟩|refine cpe htx ?_|exact⟨Tryz.call44⟩|refine cpe haw ?_|exact⟨Tryz.call44⟩|refine cpe han ?_|exact⟨Tryz.call45⟩|refine cpe hrw ?_|exact⟨Tryz.call16⟩|refine cpe hnm ?_|exact⟨Tryz.call17⟩|refine cpe hat ?_|exact⟨Tryz.call28⟩|refine cpe his ?_|exact⟨Tryz.call46⟩|refine cpe hdo ?_|exact⟨Tryz.call47⟩|refine cpe hrd ?_|exact⟨Tryz.call39⟩|refine cpe hf1 ?_|exact⟨Tryz.call39⟩|refine cpe hf2 ?_|exact⟨Tryz.call40⟩|refine cpe hr1 ?_|exact⟨Tryz.call40⟩|refine cpe hr2 ?_|exact⟨Tryz.call48⟩|refine cpe hs1 ?_|exact⟨Tryz.call49⟩|refine cpe hs2 ?_|exact⟨Tryz.call38⟩|refine cpe hfq ?_|exact cSd|apply qd []|refine exr ?_|refine qh ?_)
   all_goals (simp;done)
 |num n=>
  have hn:=hdc (by simp)
  rw [if_neg (by simp)] at hrd
  cases w
  all_goals
   apply qg []
   repeat' (first|apply And.intro|(intro h;try exact cDd)|exact⟨Tryz.call33⟩|refine cpe hal ?_|exact⟨Tryz.call34⟩|refine cpe hlg ?_|exact⟨Tryz.call42⟩|refine cpe hhv ?_|exact⟨Tryz.call35⟩|refine cpe hof ?_|exact⟨Tryz.call36⟩|refine cpe hrf ?_|exact⟨Tryz.call37⟩|refine cpe hpr ?_|exact⟨Tryz.call43⟩|refine cpe htx ?_|exact⟨Tryz.call44⟩|refine cpe haw ?_|exact⟨Tryz.call44⟩|refine cpe han ?_|exact⟨Tryz.call45⟩|refine cpe hrw ?_|exact⟨Tryz.call16⟩|refine cpe hnm ?_|exact⟨Tryz.call17⟩|refine cpe hat ?_|exact⟨Tryz.call28⟩|refine cpe his ?_|exact⟨Tryz.call46⟩|refine cpe hdo ?_|exact⟨Tryz.call47⟩|refine cpe hrd ?_|exact cSd|apply qd []|refine exr ?_|refine qh ?_)
   all_goals first|exact congrArg Bv (decide_eq_true hn)|(simp [hn];done)|(simpa [ErrV.code] using hn)|(simp;done)|exact absurd (by assumption:(ErrV.num n).code=0) hn
 |at' a n=>
  have hn:=hdc (by simp)
  rw [if_neg (by simp)] at hrd
  cases w
  all_goals
   apply qg []
   repeat' (first|apply And.intro|(intro h;try exact cDd)|exact⟨Tryz.call33⟩|refine cpe hal ?_|exact⟨Tryz.call34⟩|refine cpe hlg ?_|exact⟨Tryz.call42⟩|refine cpe hhv ?_|exact⟨Tryz.call35⟩|refine cpe hof ?_|exact⟨Tryz.call36⟩|refine cpe hrf ?_|exact⟨Tryz.call37⟩|refine cpe hpr ?_|exact⟨Tryz.call43⟩|refine cpe htx ?_|exact⟨Tryz.call44⟩|refine cpe haw ?_|exact⟨Tryz.call44⟩|refine cpe han ?_|exact⟨Tryz.call45⟩|refine cpe hrw ?_|exact⟨Tryz.call16⟩|refine cpe hnm ?_|exact⟨Tryz.call17⟩|refine cpe hat ?_|exact⟨Tryz.call28⟩|refine cpe his ?_|exact⟨Tryz.call46⟩|refine cpe hdo ?_|exact⟨Tryz.call47⟩|refine cpe hrd ?_|exact cSd|apply qd []|refine exr ?_|refine qh ?_)
   all_goals first|exact congrArg Bv (decide_eq_true hn)|(simp [hn];done)|(simpa [ErrV.code] using hn)|(simp;done)|exact absurd (by assumption:(ErrV.at' a n).code=0) hn
theorem qr3 (text:qe) (b:List zh) (hb:ArgE b) (rs:List zz) (hr:rs.length≤maxLen) (st:List AObj):qp E 8 [Sv text,ye b,.sl 5 (rs.map wu) none] st fun r st'=>r=Bv true∧st'=st:=qr4 text b rs st hb
end Go.Proofs.YtneejjefekdgjaaGreatDoor
