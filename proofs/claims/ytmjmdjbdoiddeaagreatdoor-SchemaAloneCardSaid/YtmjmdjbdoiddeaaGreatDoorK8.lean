/- Contracts and plain facts that the closing text leans on (part 8). No condition of their own beyond those that each states. -/
import Derived.Test.YtmjmdjbdoiddeaaGreatDoorK7
set_option maxRecDepth 100000
set_option linter.unusedVariables false
set_option linter.unusedSimpArgs false
namespace Go.Pl
open Go Go.Proofs Go.Av Go.Proofs.YtmjmdjbdoiddeaaGreatDoor
theorem flaws_app (all:List (Int×List Fld)) (b:List zp):∀ (a:List zp) (i:Nat),vw i (a++b) all=vw i a all++vw (i+a.length) b all
 | [],i=>by simp [vw]
 |q::a,i=>by
  have e:i+1+a.length=i+(a.length+1):=by omega
  rw [List.cons_append,vw,vw,flaws_app all b a (i+1),List.append_assoc,List.length_cons,e]
theorem flaws_range (all:List (Int×List Fld)):∀ (rs:List zp) (i:Nat),∀ x∈vw i rs all,(i:Int)≤x.1∧x.1<(i+rs.length:Nat)
 | [],i,x,h=>by simp [vw] at h
 |r::rs,i,x,h=>by
  rw [vw] at h
  rw [List.length_cons]
  rcases List.mem_append.1 h with h|h
  ·obtain⟨id,_,rfl⟩:=List.mem_map.1 h
   simp only
   omega
  ·have:=flaws_range all rs (i+1) x h
   omega
theorem broken_kind {r:zp} (h7:r.kind≠7) (all:List (Int×List Fld)):qa5 r all=(all.filter fun x=>decide (wl r x.2)).map Prod.fst:=by
 unfold qa5
 split
 ·first|rfl|rw [if_neg h7]
 ·rename_i hg
  rw [List.filter_eq_nil_iff.2 fun x _=>by simpa using fun h:wl r x.2=>hg h.1]
  rfl
theorem flaws_cut {rs:List zp} {k:Nat} {r:zp} (hr:rs[k]? = some r) (all:List (Int×List Fld)):qb7 rs all=vw 0 (rs.take k) all++((qa5 r all).map (fun id=>((k:Int),id))++vw (k+1) (rs.drop (k+1)) all):=by
 obtain⟨hlt,rfl⟩:=List.getElem?_eq_some_iff.1 hr
 have h1:=List.take_append_drop k rs
 rw [List.drop_eq_getElem_cons hlt] at h1
 have h2:(rs.take k).length=k:=by simp;omega
 unfold qb7
 conv=>lhs;rw [← h1]
 rw [flaws_app,vw,h2,Nat.zero_add]
theorem flaw_cnt {rs:List zp} {k:Nat} {r:zp} (hr:rs[k]? = some r) (all:List (Int×List Fld)):((qb7 rs all).filter fun x=>decide (x.1=(k:Int))).length=(qa5 r all).length:=by
 have hlt:=(List.getElem?_eq_some_iff.1 hr).1
 have h1:=flaws_range all (rs.take k) 0
 have h2:=flaws_range all (rs.drop (k+1)) (k+1)
 have h3:(rs.take k).length=k:=by simp;omega
 have e1:(vw 0 (rs.take k) all).filter (fun x=>decide (x.1=(k:Int)))=[]:=List.filter_eq_nil_iff.2 fun x hx=>by have:=h1 x hx;simp;omega
 have e2:(vw (k+1) (rs.drop (k+1)) all).filter (fun x=>decide (x.1=(k:Int)))=[]:=List.filter_eq_nil_iff.2 fun x hx=>by have:=h2 x hx;simp;omega
 have e3:((qa5 r all).map fun id=>((k:Int),id)).filter (fun x=>decide (x.1=(k:Int)))=(qa5 r all).map fun id=>((k:Int),id):=List.filter_eq_self.2 fun x hx=>by obtain⟨id,_,rfl⟩:=List.mem_map.1 hx;simp
 rw [flaws_cut hr,List.filter_append,List.filter_append,e1,e2,e3]
 simp
def hitR (r:zp) (all:List (Int×List Fld)):Nat:=(all.filter fun x=>decide (wl r x.2)).length
theorem hit_next {r:zp} {all:List (Int×List Fld)} {j:Nat} {x:Int×List Fld} (hx:all[j]? = some x):hitR r (all.take (j+1))=hitR r (all.take j)+if wl r x.2 then 1 else 0:=by
 unfold hitR
 rw [List.take_add_one,hx,List.filter_append,List.length_append]
 congr 1
 by_cases h:wl r x.2 <;> simp [h]
theorem flaw_at {rs:List zp} {k j:Nat} {r:zp} {all:List (Int×List Fld)} {x:Int×List Fld} (hr:rs[k]? = some r) (h7:r.kind≠7) (hx:all[j]? = some x) (hb:wl r x.2) :
  (qb7 rs all)[(vw 0 (rs.take k) all).length+hitR r (all.take j)]? = some ((k:Int),x.1):=by
 obtain⟨hlt,rfl⟩:=List.getElem?_eq_some_iff.1 hx
 rw [flaws_cut hr,List.getElem?_append_right (by omega),Nat.add_sub_cancel_left,broken_kind h7]
 have h1:=List.take_append_drop j all
 rw [List.drop_eq_getElem_cons hlt] at h1
 conv=>lhs;arg 1;rw [← h1]
 rw [List.filter_append,List.filter_cons_of_pos (by simpa using hb),List.map_append,List.map_append,List.append_assoc,List.getElem?_append_right (by simp [hitR])]
 simp [hitR]
theorem flaws_part {rs:List zp} {k:Nat} {r:zp} (hr:rs[k]? = some r) (all:List (Int×List Fld)):(vw 0 (rs.take (k+1)) all).length=(vw 0 (rs.take k) all).length+(qa5 r all).length:=by
 rw [List.take_add_one,hr]
 have:(some r).toList=[r]:=rfl
 rw [this,qgx,List.length_append,List.length_map]
end Go.Pl
namespace Go.Proofs.YtmjmdjbdoiddeaaGreatDoor
open Go Go.Av Go.RowKit Go.Proofs Go.Pl
theorem eqFlawS:EqT Tryz.prog 45:=⟨by kernel_rfl,by kernel_rfl,by kernel_rfl⟩
set_option maxHeartbeats 4000000 in
theorem schemaAlone_c (text:qd) (rs:List zp) (st:List AObj):qp E 4 [Sv text,x8 rs] st fun r st'=>r=Bv true∧st'=st:=by
 refine wz [.s text,.a (x8 rs)] (q7 _) Tryz.func4 rfl rfl (fun _=>rfl) rfl fun S0=>?_
 have hal:=qvy
 have hlg:=fun st=>qw0 text rs st
 cases hb:qh9 text rs with
 |true=>
  rw [hb] at hlg
  apply qi []
  repeat' (first|apply And.intro|(intro h;try exact cDd)|exact⟨Tryz.call5⟩|refine cpe hal ?_|exact⟨Tryz.call6⟩|refine cpe hlg ?_|exact cSd|apply qg []|refine exr ?_|refine qk ?_)
 |false=>
  rw [hb] at hlg
  obtain⟨hl1,hl2,hl3⟩:=qw1 hb
  have hof:=fun st=>qy8 text st (by omega)
  have hlb:=(q26 text).len
  have hgl:vj text = .no→GL (ofF (itsE text)):=q3o
  generalize ofF (itsE text)=l at *
  cases he:vj text with
  |num n=>
   rw [he] at hof
   apply qi []
   repeat' (first|apply And.intro|(intro h;try exact cDd)|exact⟨Tryz.call5⟩|refine cpe hal ?_|exact⟨Tryz.call6⟩|refine cpe hlg ?_|exact⟨Tryz.call7⟩|refine cpe hof ?_|exact cSd|apply qg []|refine exr ?_|refine qk ?_)
  |at' a n=>
   rw [he] at hof
   apply qi []
   repeat' (first|apply And.intro|(intro h;try exact cDd)|exact⟨Tryz.call5⟩|refine cpe hal ?_|exact⟨Tryz.call6⟩|refine cpe hlg ?_|exact⟨Tryz.call7⟩|refine cpe hof ?_|exact cSd|apply qg []|refine exr ?_|refine qk ?_)
  |no=>
   have hG:=hgl he
   have hfb:∀ x∈stzF l.ents,qe7 x.2:=fun x hx=>qy1 (q3s hG x hx)
   have hsl:=qkl l.ents
   rw [he] at hof
   have hpr:=fun st=>qsh rs st hl2
   have hst:=fun st=>quy l st (by omega) fun e he=>by have:=(qp3 (hG.ok e he).1).1;omega
   have hf1:∀ st,qp E 11 [qaj l,x8 rs] st fun r st'=>r=qbl (qb7 rs (stzF l.ents))∧st'=st:=fun st=>qs1 (some l) rs st hst (by show (stzF l.ents).length<_;omega) hfb hl3 hl2
   replace hof:∀ st,qp E 7 [Sv text] st fun r st'=>r = .tu [qaj l,errA .no]∧st'=st:=hof
   generalize stzF l.ents=all at *
   have hlen:(qb7 rs all).length≤12000000:=by
    have h1:=qff all rs 0
    have h3:rs.length * all.length≤12 * all.length:=Nat.mul_le_mul_right _ hl2
    unfold qb7
    omega
   have hcut:=fun k r (h:rs[k]? = some r)=>flaws_part h all
   have hcnt:=fun k r (h:rs[k]? = some r)=>flaw_cnt h all
   have hat:=fun k j r x (h:rs[k]? = some r) (h7:r.kind≠7) (hx:all[j]? = some x) (hb:wl r x.2)=>flaw_at h h7 hx hb
   have hbd:=fun r (h:r∈rs) x (hx:x∈all) st=>qgn r x.2 st (hl3 r h) (hfb x hx)
   have hbk:=fun (r:zp) (h7:r.kind≠7)=>congrArg List.length (broken_kind h7 all)
   have hpl:∀ k,(vw 0 (rs.take k) all).length≤12000000:=fun k=>by
    have h1:=qff all (rs.take k) 0
    have h2:(rs.take k).length≤12:=by simp;omega
    have h3:(rs.take k).length * all.length≤12 * all.length:=Nat.mul_le_mul_right _ h2
    omega
   have hall:qb7 rs all=vw 0 (rs.take rs.length) all:=by rw [List.take_length];rfl
   have hend:=congrArg List.length hall
   clear hall
   generalize qb7 rs all=F at *
   have hmF:(F.map qfe).length=F.length:=by simp
   have hmr:(rs.map wj).length=rs.length:=by simp
   have hma:(all.map stzA).length=all.length:=by simp
   apply qi []
   repeat' (first|apply And.intro|(intro h;try exact cDd)|exact⟨Tryz.call5⟩|refine cpe hal ?_|exact⟨Tryz.call6⟩|refine cpe hlg ?_|exact⟨Tryz.call7⟩|refine cpe hof ?_|exact⟨Tryz.call9⟩|refine cpe hpr ?_|exact⟨Tryz.call11⟩|refine cpe hf1 ?_|exact cSd|apply qg []|refine exr ?_|refine qk ?_)
   refine vv (X:=Nat×Nat) (fun (k,n)=>⟨[(5,.a (qaj l)),(8,.a (qbl F)),(9,.i n),(33,.a (x8 rs)),(34,.i rs.length),(35,.i k)],[],0⟩) (fun (k,n)=>k≤rs.length∧n=(vw 0 (rs.take k) all).length) (fun (k,_)=>rs.length - k) (0,0) ⟨by omega,by simp [vw]⟩ ?_ ?_
   ·skip
    repeat' (first|apply And.intro|(intro h;try exact cDd)|exact cSd|apply qg []|refine exr ?_|refine qk ?_)
    all_goals first|rfl|(simp;done)
   ·rintro⟨k,n⟩ ⟨hk,hn⟩
    by_cases hkn:k<rs.length
    ·have hx:rs[k]? = some rs[k]:=List.getElem?_eq_getElem hkn
     have hxm:(rs.map wj)[k]? = some (wj rs[k]):=by rw [List.getElem?_map,hx];rfl
     have hcut1:=hcut k _ hx
     have hcnt1:=hcnt k _ hx
     have hat1:∀ j x,rs[k].kind≠7→all[j]? = some x→wl rs[k] x.2→F[n+hitR rs[k] (all.take j)]? = some ((k:Int),x.1):=fun j x h7 hx' hb=>by rw [hn];exact hat k j _ x hx h7 hx' hb
     have hbd1:=hbd _ (List.getElem_mem hkn)
     have hbk1:=hbk rs[k]
     have hnl:=hpl k
     rw [← hn] at hcut1 hnl
     clear hcut hcnt hat hbd hbk hpl hn
     generalize rs[k]=r at hx hxm hcut1 hcnt1 hat1 hbd1 hbk1
     generalize hn2:(vw 0 (rs.take (k+1)) all).length=n2 at *
     by_cases h7:r.kind=7
     ·clear hat1 hbd1 hbk1
      apply qi []
      repeat' (first|apply And.intro|(intro h;try exact cDd)|(refine Exists.intro (k) ⟨by omega,_,hxm,?_⟩)|exact cSd|apply qg []|refine exr ?_|refine qk ?_)
      refine vv (X:=Nat) (fun j=>⟨[(5,.a (qaj l)),(8,.a (qbl F)),(9,.i (n+((F.take j).filter fun x=>decide (x.1=(k:Int))).length:Nat)),(10,.i k),(33,.a (x8 rs)),(34,.i rs.length),(35,.i k),(43,.a (qbl F)),(44,.i F.length),(45,.i j)],[],0⟩) (fun j=>j≤F.length) (fun j=>F.length - j) 0 (by omega) ?_ ?_
      ·skip
       repeat' (first|apply And.intro|(intro h;try exact cDd)|exact cSd|apply qg []|refine exr ?_|refine qk ?_)
       all_goals first|rfl|(simp;done)
      ·rintro j hj
       by_cases hjn:j<F.length
       ·have hy:F[j]? = some F[j]:=List.getElem?_eq_getElem hjn
        have hym:(F.map qfe)[j]? = some (qfe F[j]):=by rw [List.getElem?_map,hy];rfl
        have hfl:((F.take j).filter fun x=>decide (x.1=(k:Int))).length≤F.length:=by
         have:=List.length_filter_le (fun x:Int×Int=>decide (x.1=(k:Int))) (F.take j)
         simp at this
         omega
        have htj:((F.take (j+1)).filter fun x=>decide (x.1=(k:Int))).length=((F.take j).filter fun x=>decide (x.1=(k:Int))).length+if F[j].1=(k:Int) then 1 else 0:=by
         rw [List.take_add_one,hy,List.filter_append,List.length_append]
         congr 1
         by_cases h:F[j].1=(k:Int) <;> simp [h]
        generalize F[j]=y at hy hym htj
        generalize ((F.take j).filter fun x=>decide (x.1=(k:Int))).length=c1 at *
        by_cases hyk:y.1=(k:Int)
        ·rw [if_pos hyk] at htj
         apply qi []
         repeat' (first|apply And.intro|(intro h;try exact cDd)|(refine Exists.intro (j) ⟨by omega,_,hym,?_⟩)|(refine Exists.intro (j+1) ⟨by omega,by omega,?_⟩)|exact cSd|apply qg []|refine exr ?_|refine qk ?_)
         all_goals first|rfl|(simp;omega)|omega
        ·rw [if_neg hyk] at htj
         apply qi []
         repeat' (first|apply And.intro|(intro h;try exact cDd)|(refine Exists.intro (j) ⟨by omega,_,hym,?_⟩)|(refine Exists.intro (j+1) ⟨by omega,by omega,?_⟩)|exact cSd|apply qg []|refine exr ?_|refine qk ?_)
         all_goals first|rfl|(simp;omega)|omega
       ·have hjn:j=F.length:=by omega
        subst hjn
        rw [List.take_length,hcnt1,← hcut1]
        apply qi []
        repeat' (first|apply And.intro|(intro h;try exact cDd)|(refine Exists.intro (k+1,n2) ⟨⟨by omega,hn2.symm⟩,by simp only;omega,?_⟩)|exact cSd|apply qg []|refine exr ?_|refine qk ?_)
     ·replace hat1:=fun j x=>hat1 j x h7
      replace hbk1:=hbk1 h7
      clear hcnt1
      apply qi []
      repeat' (first|apply And.intro|(intro h;try exact cDd)|(refine Exists.intro (k) ⟨by omega,_,hxm,?_⟩)|exact⟨Tryz.call13⟩|refine cpe hst ?_|exact cSd|apply qg []|refine exr ?_|refine qk ?_)
      refine vv (X:=Nat) (fun j=>⟨[(5,.a (qaj l)),(8,.a (qbl F)),(9,.i (n+hitR r (all.take j):Nat)),(10,.i k),(11,.bx 0 0),(33,.a (x8 rs)),(34,.i rs.length),(35,.i k),(57,.a (x9 all)),(58,.i all.length),(59,.i j)],[(0,some (.cells 43 [.i r.kind,.s r.key,.s r.text,.i r.lo,.i r.hi]))],1⟩) (fun j=>j≤all.length) (fun j=>all.length - j) 0 (by omega) ?_ ?_
      ·skip
       repeat' (first|apply And.intro|(intro h;try exact cDd)|exact cSd|apply qg []|refine exr ?_|refine qk ?_)
       all_goals first|rfl|(simp [hitR];done)
      ·rintro j hj
       by_cases hjn:j<all.length
       ·have hy:all[j]? = some all[j]:=List.getElem?_eq_getElem hjn
        have hym:(all.map stzA)[j]? = some (stzA all[j]):=by rw [List.getElem?_map,hy];rfl
        have hb1:=hbd1 _ (List.getElem_mem hjn)
        have hat2:=hat1 j _ hy
        have hnx:=hit_next (r:=r) hy
        have hhl:hitR r (all.take j)≤all.length:=by
         unfold hitR
         have:=List.length_filter_le (fun x:Int×List Fld=>decide (wl r x.2)) (all.take j)
         simp at this
         omega
        generalize all[j]=y at hy hym hb1 hat2 hnx
        generalize hitR r (all.take j)=c1 at *
        by_cases hbr:wl r y.2
        ·rw [decide_eq_true hbr] at hb1
         rw [if_pos hbr] at hnx
         have hat3:=hat2 hbr
         have hlt:=(List.getElem?_eq_some_iff.1 hat3).1
         have hfm:(F.map qfe)[n+c1]? = some (qfe ((k:Int),y.1)):=by rw [List.getElem?_map,hat3];rfl
         have hq:(k:Int)=(k:Int)∧y.1=y.1∧True:=⟨rfl,rfl,trivial⟩
         apply qi []
         repeat' (first|apply And.intro|(intro h;try exact cDd)|(refine Exists.intro (j) ⟨by omega,_,hym,?_⟩)|(refine Exists.intro ((n+c1)) ⟨by omega,_,hfm,?_⟩)|exact⟨Tryz.call14⟩|refine cpe hb1 ?_|(refine q3r eqFlawS rfl rfl rfl rfl rfl ?_)|exact absurd hq (by assumption)|(refine Exists.intro (j+1) ⟨by omega,by omega,?_⟩)|exact cSd|apply qg []|refine exr ?_|refine qk ?_)
         all_goals first|rfl|(simp;omega)|omega
        ·rw [decide_eq_false hbr] at hb1
         rw [if_neg hbr] at hnx
         apply qi []
         repeat' (first|apply And.intro|(intro h;try exact cDd)|(refine Exists.intro (j) ⟨by omega,_,hym,?_⟩)|exact⟨Tryz.call14⟩|refine cpe hb1 ?_|(refine Exists.intro (j+1) ⟨by omega,by omega,?_⟩)|exact cSd|apply qg []|refine exr ?_|refine qk ?_)
         all_goals first|rfl|(simp;omega)|omega
       ·have hjn:j=all.length:=by omega
        subst hjn
        have e1:n+hitR r (all.take all.length)=n2:=by
         rw [List.take_length]
         unfold hitR
         rw [List.length_map] at hbk1
         omega
        rw [e1]
        apply qi []
        repeat' (first|apply And.intro|(intro h;try exact cDd)|(refine Exists.intro (k+1,n2) ⟨⟨by omega,hn2.symm⟩,by simp only;omega,?_⟩)|exact cSd|apply qg []|refine exr ?_|refine qk ?_)
    ·have hkn:k=rs.length:=by omega
     subst hkn
     rw [← hend] at hn
     subst hn
     apply qi []
     repeat' (first|apply And.intro|(intro h;try exact cDd)|exact cSd|apply qg []|refine exr ?_|refine qk ?_)
     all_goals (simp;done)
theorem schemaAlone_a (text:qd) (rs:List zp) (hr:rs.length≤maxLen) (st:List AObj):qp E 4 [Sv text,.sl 5 (rs.map wj) none] st fun r st'=>r=Bv true∧st'=st:=schemaAlone_c text rs st
end Go.Proofs.YtmjmdjbdoiddeaaGreatDoor
