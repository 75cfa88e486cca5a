/- Contracts and plain facts that the closing text leans on (part 8). No condition of their own beyond those that each states. -/
import Derived.Test.YtneejjefekdgjaaGreatDoorK7
set_option maxRecDepth 100000
set_option linter.unusedVariables false
set_option linter.unusedSimpArgs false
namespace Go.Proofs.YtneejjefekdgjaaGreatDoor
open Go Go.Av Go.RowKit Go.Proofs Go.Pl
theorem q6w {text:qd} (h:qbw text = .no):GL (ofF (itsE text)):=by
 obtain⟨h1,_,h3⟩:=quh h
 refine q58 ?_ ?_
 ·rw [h3];exact qji h1
 ·rw [h3];exact qzw h1
theorem qu0:EqT Tryz.prog 88:=⟨by kernel_rfl,by kernel_rfl,by kernel_rfl⟩
end Go.Proofs.YtneejjefekdgjaaGreatDoor
namespace Go.Pl
open Go Go.Proofs Go.Av Go.Proofs.YtneejjefekdgjaaGreatDoor
def qe3 (f:Int×Int):Nat→List (Int×Int)→Int
 | _,[]=> -1
 |k,x::r=>if f=x then (k:Int) else qe3 f (k+1) r
theorem qo4 (f:Int×Int):∀ (xs:List (Int×Int)) (k:Nat),0≤qe3 f k xs↔f∈xs
 | [],k=>by simp [qe3]
 |x::r,k=>by
  unfold qe3
  by_cases h:f=x
  ·rw [if_pos h]
   simp [h]
  ·rw [if_neg h,qo4 f r (k+1)]
   simp [h]
def qcj:Nat→List jo→Int
 | _,[]=> -1
 |k,r::t=>if yi r then qcj (k+1) t else (k:Int)
theorem qnl:∀ (rs:List jo) (k:Nat),(∀ r∈rs,yi r)→qcj k rs = -1
 | [],_,_=>rfl
 |r::t,k,h=>by
  unfold qcj
  rw [if_pos (h r (by simp)),qnl t (k+1) fun x hx=>h x (by simp [hx])]
def ql0 (l:q8) (b:List za) (rs:List jo):ErrV:=
 if 0≤qcj 0 rs then .at' (qcj 0 rs) 2 else if (doF l b).1 = .no then (match qg7 (qaj rs (stzF l.ents)) (qaj rs (stzF (doF l b).2.1.ents)) with
  | []=>.no
  |f::_=>.at' f.1 6) else (doF l b).1
theorem qwu (now:List (Int×Int)):qg7 [] now=now:=by
 unfold qg7
 exact List.filter_eq_self.2 fun x _=>by simp
end Go.Pl
namespace Go.Proofs.YtneejjefekdgjaaGreatDoor
open Go Go.Av Go.RowKit Go.Proofs Go.Pl
theorem qyx (xs:List (Int×Int)) (f:Int×Int) (st:List AObj) (hl:xs.length≤12000000):qn E 162 [qas xs,qa4 f] st fun r st'=>r=Iv (qe3 f 0 xs)∧st'=st:=by
 refine wt [.a (qas xs),.a (qa4 f)] (zm _) Tryz.func162 rfl rfl (fun _=>rfl) rfl fun S0=>?_
 have hma:(xs.map qa4).length=xs.length:=by simp
 apply qi []
 repeat' (first|apply And.intro|(intro h;try exact cDd)|exact cSd|apply qf []|refine exr ?_|refine qj ?_)
 refine wq (X:=Nat) (fun k=>⟨[(0,.a (qas xs)),(3,.a (.pp [Iv f.1,Iv f.2])),(7,.i xs.length),(8,.i k)],[],0⟩) (fun k=>k≤xs.length∧qe3 f k (xs.drop k)=qe3 f 0 xs) (fun k=>xs.length - k) 0 ⟨by omega,by simp⟩ ?_ ?_
 ·skip
  repeat' (first|apply And.intro|(intro h;try exact cDd)|exact cSd|apply qf []|refine exr ?_|refine qj ?_)
  all_goals first|rfl|(simp;done)
 ·rintro k ⟨hk,hrun⟩
  by_cases hkn:k<xs.length
  ·have hx:xs[k]? = some xs[k]:=List.getElem?_eq_getElem hkn
   have hxm:(xs.map qa4)[k]? = some (qa4 xs[k]):=by rw [List.getElem?_map,hx];rfl
   rw [List.drop_eq_getElem_cons hkn,qe3] at hrun
   generalize xs[k]=x at hx hxm hrun
   by_cases he:f=x
   ·rw [if_pos he] at hrun
    have hq:f.1=x.1∧f.2=x.2∧True:=by rw [he];exact⟨rfl,rfl,trivial⟩
    rw [← hrun]
    apply qi []
    repeat' (first|apply And.intro|(intro h;try exact cDd)|(refine Exists.intro (k) ⟨by omega,_,hxm,?_⟩)|(refine q21 qu0 rfl rfl rfl rfl rfl ?_)|exact absurd hq (by assumption)|exact cSd|apply qf []|refine exr ?_|refine qj ?_)
   ·rw [if_neg he] at hrun
    have hq:¬ (f.1=x.1∧f.2=x.2∧True):=fun h=>he (Prod.ext h.1 h.2.1)
    apply qi []
    repeat' (first|apply And.intro|(intro h;try exact cDd)|(refine Exists.intro (k) ⟨by omega,_,hxm,?_⟩)|(refine q21 qu0 rfl rfl rfl rfl rfl ?_)|exact absurd (by assumption) hq|(refine Exists.intro (k+1) ⟨⟨by omega,hrun⟩,by omega,?_⟩)|exact cSd|apply qf []|refine exr ?_|refine qj ?_)
  ·have hkn:k=xs.length:=by omega
   subst hkn
   rw [List.drop_length,qe3] at hrun
   rw [← hrun]
   apply qi []
   repeat' (first|apply And.intro|(intro h;try exact cDd)|exact cSd|apply qf []|refine exr ?_|refine qj ?_)
theorem qro (xs:List (Int×Int)) (f:Int×Int) (st:List AObj) (hl:xs.length≤12000000):qn E 98 [qas xs,qa4 f] st fun r st'=>r=Bv (decide (f∈xs))∧st'=st:=by
 refine wt [.a (qas xs),.a (qa4 f)] (zm _) Tryz.func98 rfl rfl (fun _=>rfl) rfl fun S0=>?_
 have h1:=fun st=>qyx xs f st hl
 rw [decide_eq_decide.2 (qo4 f xs 0).symm]
 apply qi []
 repeat' (first|apply And.intro|(intro h;try exact cDd)|exact⟨Tryz.call162⟩|refine cpe h1 ?_|exact cSd|apply qf []|refine exr ?_|refine qj ?_)
theorem q2h (old now:List (Int×Int)) (st:List AObj) (h1:old.length≤12000000) (h2:now.length≤12000000):qn E 48 [qas old,qas now] st fun r st'=>r=qas (qg7 old now)∧st'=st:=by
 refine wt [.a (qas old),.a (qas now)] (qkh _) Tryz.func48 rfl rfl (fun _=>rfl) rfl fun S0=>?_
 have hma:(now.map qa4).length=now.length:=by simp
 unfold qg7
 apply qi []
 repeat' (first|apply And.intro|(intro h;try exact cDd)|exact cSd|apply qf []|refine exr ?_|refine qj ?_)
 refine wq (X:=Nat) (fun k=>⟨[(0,.a (qas old)),(5,.tp 0),(8,.a (qas now)),(9,.i now.length),(10,.i k)],[(0,some (.tip 2 88 (((now.take k).filter fun f=> !decide (f∈old)).map qa4)))],1⟩) (fun k=>k≤now.length) (fun k=>now.length - k) 0 (by omega) ?_ ?_
 ·skip
  repeat' (first|apply And.intro|(intro h;try exact cDd)|exact cSd|apply qf []|refine exr ?_|refine qj ?_)
  all_goals first|rfl|(simp;done)
 ·rintro k hk
  by_cases hkn:k<now.length
  ·have hx:now[k]? = some now[k]:=List.getElem?_eq_getElem hkn
   have hxm:(now.map qa4)[k]? = some (qa4 now[k]):=by rw [List.getElem?_map,hx];rfl
   have htk:now.take (k+1)=now.take k++[now[k]]:=by rw [List.take_add_one,hx];rfl
   have hfl:((now.take k).filter fun f=> !decide (f∈old)).length≤now.length:=by
    have:=List.length_filter_le (fun f:Int×Int=> !decide (f∈old)) (now.take k)
    simp at this
    simp
    omega
   have hc:=fun st=>qro old now[k] st h1
   generalize now[k]=x at hx hxm htk hc
   by_cases hm:x∈old
   ·have e1:(now.take (k+1)).filter (fun f=> !decide (f∈old))=(now.take k).filter fun f=> !decide (f∈old):=by rw [htk];simp [hm]
    rw [decide_eq_true hm] at hc
    apply qi []
    repeat' (first|apply And.intro|(intro h;try exact cDd)|(refine Exists.intro (k) ⟨by omega,_,hxm,?_⟩)|exact⟨Tryz.call98⟩|refine cpe hc ?_|(refine Exists.intro (k+1) ⟨by omega,by omega,?_⟩)|exact cSd|apply qf []|refine exr ?_|refine qj ?_)
    all_goals first|(rw [e1];done)|(simp;omega)
   ·have e1:(now.take (k+1)).filter (fun f=> !decide (f∈old))=(now.take k).filter (fun f=> !decide (f∈old))++[x]:=by rw [htk];simp [hm]
    rw [decide_eq_false hm] at hc
    apply qi []
    repeat' (first|apply And.intro|(intro h;try exact cDd)|(refine Exists.intro (k) ⟨by omega,_,hxm,?_⟩)|exact⟨Tryz.call98⟩|refine cpe hc ?_|(refine Exists.intro (k+1) ⟨by omega,by omega,?_⟩)|exact cSd|apply qf []|refine exr ?_|refine qj ?_)
    all_goals first|(rw [e1];simp;done)|(simp;omega)|omega
  ·have hkn:k=now.length:=by omega
   subst hkn
   rw [List.take_length]
   apply qi []
   repeat' (first|apply And.intro|(intro h;try exact cDd)|exact cSd|apply qf []|refine exr ?_|refine qj ?_)
theorem q0o (r:jo) (st:List AObj) (hr:qee r):qn E 91 [vz r] st fun x st'=>x=Bv (!decide (yi r))∧st'=st:=by
 refine wt [.a (vz r)] (zm _) Tryz.func91 rfl rfl (fun _=>rfl) rfl fun S0=>?_
 have hg:=fun st=>qg8 r st hr.key
 cases hd:decide (yi r)
 all_goals
  rw [hd] at hg
  apply qi []
  repeat' (first|apply And.intro|(intro h;try exact cDd)|exact⟨Tryz.call50⟩|refine cpe hg ?_|exact cSd|apply qf []|refine exr ?_|refine qj ?_)
@[reducible] def qnw : AV := .fn (.func 91) [] []
theorem qy4 (rs:List jo) (st:List AObj) (hr:∀ r∈rs,qee r) (hl:rs.length≤12):qn E 90 [yh rs,qnw] st fun r st'=>r=Iv (qcj 0 rs)∧st'=st:=by
 refine wt [.a (yh rs),.a qnw] (zm _) Tryz.func90 rfl rfl (fun _=>rfl) rfl fun S0=>?_
 have hmr:(rs.map vz).length=rs.length:=by simp
 have hal:=fun r (h:r∈rs) st=>q0o r st (hr r h)
 apply qi []
 repeat' (first|apply And.intro|(intro h;try exact cDd)|exact cSd|apply qf []|refine exr ?_|refine qj ?_)
 refine wq (X:=Nat) (fun k=>⟨[(0,.a (yh rs)),(1,.a qnw),(7,.i rs.length),(8,.i k)],[],0⟩) (fun k=>k≤rs.length∧qcj k (rs.drop k)=qcj 0 rs) (fun k=>rs.length - k) 0 ⟨by omega,by simp⟩ ?_ ?_
 ·skip
  repeat' (first|apply And.intro|(intro h;try exact cDd)|exact cSd|apply qf []|refine exr ?_|refine qj ?_)
  all_goals first|rfl|(simp;done)
 ·rintro k ⟨hk,hrun⟩
  by_cases hkn:k<rs.length
  ·have hx:rs[k]? = some rs[k]:=List.getElem?_eq_getElem hkn
   have hxm:(rs.map vz)[k]? = some (vz rs[k]):=by rw [List.getElem?_map,hx];rfl
   rw [List.drop_eq_getElem_cons hkn,qcj] at hrun
   have h1:=hal _ (List.getElem_mem hkn)
   generalize rs[k]=r at hx hxm hrun h1
   by_cases hg:yi r
   ·rw [if_pos hg] at hrun
    rw [decide_eq_true hg] at h1
    apply qi []
    repeat' (first|apply And.intro|(intro h;try exact cDd)|(refine Exists.intro (k) ⟨by omega,_,hxm,?_⟩)|exact⟨Tryz.call91⟩|refine cpe h1 ?_|(refine Exists.intro (k+1) ⟨⟨by omega,hrun⟩,by omega,?_⟩)|exact cSd|apply qf []|refine exr ?_|refine qj ?_)
   ·rw [if_neg hg] at hrun
    rw [decide_eq_false hg] at h1
    rw [← hrun]
    apply qi []
    repeat' (first|apply And.intro|(intro h;try exact cDd)|(refine Exists.intro (k) ⟨by omega,_,hxm,?_⟩)|exact⟨Tryz.call91⟩|refine cpe h1 ?_|exact cSd|apply qf []|refine exr ?_|refine qj ?_)
  ·have hkn:k=rs.length:=by omega
   subst hkn
   rw [List.drop_length,qcj] at hrun
   rw [← hrun]
   apply qi []
   repeat' (first|apply And.intro|(intro h;try exact cDd)|exact cSd|apply qf []|refine exr ?_|refine qj ?_)
theorem qk6 (l:q8) (rs:List jo) (st:List AObj) (hG:GL l) (hl:l.ents.length<1000000) (hr:∀ r∈rs,qee r) (hrl:rs.length≤12) :
  qn E 39 [x9 l,yh rs] st fun r st'=>r=qas (qaj rs (stzF l.ents))∧st'=st:=
 q3s (some l) rs st (fun st=>qw3 l st hl fun e he=>by have:=(qr2 (hG.ok e he).1).1;omega) (by have:=qs9 l.ents;show (stzF l.ents).length<_;omega) (fun x hx=>q1i (q6z hG x hx)) hr hrl
theorem qmo {l:q8} {rs:List jo} (hl:l.ents.length<1000000) (hrl:rs.length≤12):(qaj rs (stzF l.ents)).length≤12000000:=by
 have h1:=qi2 (stzF l.ents) rs 0
 have h2:=qs9 l.ents
 have h3:rs.length * (stzF l.ents).length≤12 * (stzF l.ents).length:=Nat.mul_le_mul_right _ hrl
 unfold qaj
 omega
theorem q0p (n:Nat) (l:q8) (b:List za) (rs:List jo) (st:List AObj) (hG:GL l) (hB:LB n l) (hn:n+40<900000) (hE:∀ x∈b,EdB x) (hl:b.length<1000000) (hr:∀ r∈rs,qee r) (hrl:rs.length≤12) :
  qn E 44 [x9 l,qai b,yh rs] st fun r st'=>r=errA (ql0 l b rs)∧st'=st:=by
 refine wt [.a (x9 l),.a (qai b),.a (yh rs)] (yq _) Tryz.func44 rfl rfl (fun _=>rfl) rfl fun S0=>?_
 have hix:=fun st=>qy4 rs st hr hrl
 have hdo:=fun st=>q2w n l b st hB hn hE hl
 have hLm:=qyo hB hn b
 have hGm:=qyn hG b
 have hl1:=hB.len
 have hl2:=hLm.len
 have hf1:=fun st=>qk6 l rs st hG (by omega) hr hrl
 have hf2:=fun st=>qk6 (doF l b).2.1 rs st hGm (by omega) hr hrl
 have hfr:=fun st=>q2h (qaj rs (stzF l.ents)) (qaj rs (stzF (doF l b).2.1.ents)) st (qmo (by omega) hrl) (qmo (by omega) hrl)
 unfold ql0
 generalize qcj 0 rs=i at *
 clear hLm hGm hl1 hl2 hB hG
 generalize doF l b=d at *
 obtain⟨e,m,ids⟩:=d
 dsimp only at hf2 hfr ⊢
 unfold doA at hdo
 dsimp only at hdo
 generalize qaj rs (stzF l.ents)=f1 at *
 generalize qaj rs (stzF m.ents)=f2 at *
 generalize qg7 f1 f2=fr at *
 by_cases hi:0≤i
 ·rw [if_pos hi]
  apply qi []
  repeat' (first|apply And.intro|(intro h;try exact cDd)|exact⟨Tryz.call90⟩|refine cpe hix ?_|exact cSd|apply qf []|refine exr ?_|refine qj ?_)
 ·rw [if_neg hi]
  cases e with
  |no=>
   rw [if_pos rfl]
   cases fr with
   |nil=>
    apply qi []
    repeat' (first|apply And.intro|(intro h;try exact cDd)|exact⟨Tryz.call90⟩|refine cpe hix ?_|exact⟨Tryz.call46⟩|refine cpe hdo ?_|exact⟨Tryz.call39⟩|refine cpe hf1 ?_|exact⟨Tryz.call39⟩|refine cpe hf2 ?_|exact⟨Tryz.call48⟩|refine cpe hfr ?_|exact cSd|apply qf []|refine exr ?_|refine qj ?_)
   |cons f fr=>
    have hf0:((f::fr).map qa4)[0]? = some (qa4 f):=rfl
    have hfl:0<(((f::fr).map qa4).length:Int):=by simp
    apply qi []
    repeat' (first|apply And.intro|(intro h;try exact cDd)|(refine Exists.intro (0) ⟨by omega,_,hf0,?_⟩)|exact⟨Tryz.call90⟩|refine cpe hix ?_|exact⟨Tryz.call46⟩|refine cpe hdo ?_|exact⟨Tryz.call39⟩|refine cpe hf1 ?_|exact⟨Tryz.call39⟩|refine cpe hf2 ?_|exact⟨Tryz.call48⟩|refine cpe hfr ?_|exact cSd|apply qf []|refine exr ?_|refine qj ?_)
    all_goals first|rfl|(simp;done)|(simp;omega)|omega|trace_state
  |num n=>
   rw [if_neg (by simp)]
   apply qi []
   repeat' (first|apply And.intro|(intro h;try exact cDd)|exact⟨Tryz.call90⟩|refine cpe hix ?_|exact⟨Tryz.call46⟩|refine cpe hdo ?_|exact cSd|apply qf []|refine exr ?_|refine qj ?_)
  |at' a n=>
   rw [if_neg (by simp)]
   apply qi []
   repeat' (first|apply And.intro|(intro h;try exact cDd)|exact⟨Tryz.call90⟩|refine cpe hix ?_|exact⟨Tryz.call46⟩|refine cpe hdo ?_|exact cSd|apply qf []|refine exr ?_|refine qj ?_)
def qc0 (rs:List jo):List jo:=rs.filter fun r=>decide (yi r)
theorem qvv {l:q8} {b:List za} {rs:List jo} (hf:qaj (qc0 rs) (stzF l.ents)=[]):ql0 l b (qc0 rs)=if (doF l b).1 = .no then (match qaj (qc0 rs) (stzF (doF l b).2.1.ents) with
  | []=>.no
  |f::_=>.at' f.1 6) else (doF l b).1:=by
 unfold ql0
 rw [qnl _ 0 fun r hr=>by simpa using (List.mem_filter.1 hr).2,if_neg (by omega),hf,qwu]
 try rfl
set_option maxHeartbeats 4000000 in
theorem qp8 (text:qd) (bs:List (List za)) (rs:List jo) (st:List AObj) (hA:∀ b∈bs,ArgE b):qn E 9 [Sv text,qda bs,yh rs] st fun r st'=>r=Bv true∧st'=st:=by
 refine wt [.s text,.a (qda bs),.a (yh rs)] (zm _) Tryz.func9 rfl rfl (fun _=>rfl) rfl fun S0=>?_
 have hal:=qx0
 have hlg:=fun st=>qy9 text rs st
 have hmb:(bs.map qai).length=bs.length:=by simp
 cases hb:qja text rs with
 |true=>
  rw [hb] at hlg
  apply qi []
  repeat' (first|apply And.intro|(intro h;try exact cDd)|exact⟨Tryz.call33⟩|refine cpe hal ?_|exact⟨Tryz.call34⟩|refine cpe hlg ?_|exact cSd|apply qf []|refine exr ?_|refine qj ?_)
 |false=>
  rw [hb] at hlg
  by_cases h8:8<bs.length
  ·apply qi []
   repeat' (first|apply And.intro|(intro h;try exact cDd)|exact⟨Tryz.call33⟩|refine cpe hal ?_|exact⟨Tryz.call34⟩|refine cpe hlg ?_|exact cSd|apply qf []|refine exr ?_|refine qj ?_)
  obtain⟨hl1,hl2,hl3⟩:=qza hb
  have hof:=fun st=>q1q text st (by omega)
  have hlb:=q59 text
  have hgl:qbw text = .no→GL (ofF (itsE text)):=q6w
  generalize ofF (itsE text)=l at *
  cases he:qbw text with
  |num n=>
   rw [he] at hof
   apply qi []
   repeat' (first|apply And.intro|(intro h;try exact cDd)|exact⟨Tryz.call33⟩|refine cpe hal ?_|exact⟨Tryz.call34⟩|refine cpe hlg ?_|exact⟨Tryz.call35⟩|refine cpe hof ?_|exact cSd|apply qf []|refine exr ?_|refine qj ?_)
  |at' a n=>
   rw [he] at hof
   apply qi []
   repeat' (first|apply And.intro|(intro h;try exact cDd)|exact⟨Tryz.call33⟩|refine cpe hal ?_|exact⟨Tryz.call34⟩|refine cpe hlg ?_|exact⟨Tryz.call35⟩|refine cpe hof ?_|exact cSd|apply qf []|refine exr ?_|refine qj ?_)
  |no=>
   have hG:=hgl he
   clear hgl
   rw [he] at hof
   replace hof:∀ st,qn E 35 [Sv text] st fun r st'=>r = .tu [x9 l,errA .no]∧st'=st:=hof
   have hpr:=fun st=>quj rs st hl2
   have hmr:(rs.map vz).length=rs.length:=by simp
   have hgd:=fun r (h:r∈rs) st=>qg8 r st (hl3 r h).key
   have hPl:(qc0 rs).length≤12:=by
    have:=List.length_filter_le (fun r=>decide (yi r)) rs
    unfold qc0
    omega
   have hP3:∀ r∈qc0 rs,qee r:=fun r hr=>hl3 r (List.mem_filter.1 hr).1
   have hfl:=fun (l:q8) (h:GL l) (hl:l.ents.length<1000000) st=>qk6 l (qc0 rs) st h hl hP3 hPl
   have hall:=fun n (l:q8) b st (hG:GL l) (hB:LB n l) (hn:n+40<900000) (hE:∀ x∈b,EdB x) (hl:b.length<1000000)=>q0p n l b (qc0 rs) st hG hB hn hE hl hP3 hPl
   have hag:=fun (l:q8) b=>@qvv l b rs
   have hfl1:=hfl l hG (by have:=hlb.len;omega)
   apply qi []
   repeat' (first|apply And.intro|(intro h;try exact cDd)|exact⟨Tryz.call33⟩|refine cpe hal ?_|exact⟨Tryz.call34⟩|refine cpe hlg ?_|exact⟨Tryz.call35⟩|refine cpe hof ?_|exact⟨Tryz.call37⟩|refine cpe hpr ?_|exact cSd|apply qf []|refine exr ?_|refine qj ?_)
   refine wq (X:=Nat) (fun k=>⟨[(1,.a (qda bs)),(7,.a (x9 l)),(9,.tp 0),(37,.a (yh rs)),(38,.i rs.length),(39,.i k)],[(0,some (.tip 5 86 (((rs.take k).filter fun r=>decide (yi r)).map vz)))],1⟩) (fun k=>k≤rs.length) (fun k=>rs.length - k) 0 (by omega) ?_ ?_
   ·skip
    repeat' (first|apply And.intro|(intro h;try exact cDd)|exact cSd|apply qf []|refine exr ?_|refine qj ?_)
    all_goals first|rfl|(simp;done)
   ·rintro k hk
    by_cases hkn:k<rs.length
    ·have hx:rs[k]? = some rs[k]:=List.getElem?_eq_getElem hkn
     have hxm:(rs.map vz)[k]? = some (vz rs[k]):=by rw [List.getElem?_map,hx];rfl
     have htk:rs.take (k+1)=rs.take k++[rs[k]]:=by rw [List.take_add_one,hx];rfl
     have hg:=hgd _ (List.getElem_mem hkn)
     have hfk:((rs.take k).filter fun r=>decide (yi r)).length≤12:=by
      have:=List.length_filter_le (fun r:jo=>decide (yi r)) (rs.take k)
      simp at this
      omega
     generalize rs[k]=r at hx hxm htk hg
     by_cases hgr:yi r
     ·have e1:(rs.take (k+1)).filter (fun r=>decide (yi r))=(rs.take k).filter (fun r=>decide (yi r))++[r]:=by rw [htk];simp [hgr]
      rw [decide_eq_true hgr] at hg
      apply qi []
      repeat' (first|apply And.intro|(intro h;try exact cDd)|(refine Exists.intro (k) ⟨by omega,_,hxm,?_⟩)|exact⟨Tryz.call50⟩|refine cpe hg ?_|(refine Exists.intro (k+1) ⟨by omega,by omega,?_⟩)|exact cSd|apply qf []|refine exr ?_|refine qj ?_)
      all_goals first|rfl|(rw [e1];simp;done)|(simp;omega)|omega
     ·have e1:(rs.take (k+1)).filter (fun r=>decide (yi r))=(rs.take k).filter (fun r=>decide (yi r)):=by rw [htk];simp [hgr]
      rw [decide_eq_false hgr] at hg
      apply qi []
      repeat' (first|apply And.intro|(intro h;try exact cDd)|(refine Exists.intro (k) ⟨by omega,_,hxm,?_⟩)|exact⟨Tryz.call50⟩|refine cpe hg ?_|(refine Exists.intro (k+1) ⟨by omega,by omega,?_⟩)|exact cSd|apply qf []|refine exr ?_|refine qj ?_)
      all_goals first|rfl|(rw [e1];done)|(simp;omega)|omega
    ·have hkn:k=rs.length:=by omega
     subst hkn
     rw [List.take_length]
     have hP:rs.filter (fun r=>decide (yi r))=qc0 rs:=rfl
     rw [hP]
     generalize qc0 rs=P at *
     cases hF:qaj P (stzF l.ents) with
     |cons f F=>
      rw [hF] at hfl1
      apply qi []
      repeat' (first|apply And.intro|(intro h;try exact cDd)|exact⟨Tryz.call39⟩|refine cpe hfl1 ?_|exact cSd|apply qf []|refine exr ?_|refine qj ?_)
      all_goals (simp at *;done)
     |nil=>
      rw [hF] at hfl1
      apply qi []
      repeat' (first|apply And.intro|(intro h;try exact cDd)|exact⟨Tryz.call39⟩|refine cpe hfl1 ?_|exact cSd|apply qf []|refine exr ?_|refine qj ?_)
      refine wq (X:=Nat×q8) (fun (k,l)=>⟨[(7,.a (x9 l)),(9,.tp 0),(55,.a (qda bs)),(56,.i bs.length),(57,.i k)],[(0,some (.tip 5 86 (P.map vz)))],1⟩) (fun (k,l)=>k≤bs.length∧GL l∧LB (300000+40 * k) l∧qaj P (stzF l.ents)=[]) (fun (k,_)=>bs.length - k) (0,l) ⟨by omega,hG,hlb,hF⟩ ?_ ?_
      ·skip
       repeat' (first|apply And.intro|(intro h;try exact cDd)|exact cSd|apply qf []|refine exr ?_|refine qj ?_)
       all_goals first|rfl|(simp;done)
      ·clear hfl1 hF hlb hG
       rintro⟨k,l⟩ ⟨hk,hG,hB,hF⟩
       have hll:=hB.len
       have hfl1:=hfl l hG (by omega)
       rw [hF] at hfl1
       by_cases hkn:k<bs.length
       ·have hx:bs[k]? = some bs[k]:=List.getElem?_eq_getElem hkn
        have hxm:(bs.map qai)[k]? = some (qai bs[k]):=by rw [List.getElem?_map,hx];rfl
        have hAb:=hA _ (List.getElem_mem hkn)
        generalize bs[k]=b at hx hxm hAb
        have hhv:=fun st=>q1k b st hAb.1 fun y hy=>(hAb.2 y hy).1
        cases hh:qc1 b 0 with
        |true=>
         rw [hh] at hhv
         apply qi []
         repeat' (first|apply And.intro|(intro h;try exact cDd)|(refine Exists.intro (k) ⟨by omega,_,hxm,?_⟩)|exact⟨Tryz.call42⟩|refine cpe hhv ?_|exact cSd|apply qf []|refine exr ?_|refine qj ?_)
        |false=>
         rw [hh] at hhv
         have hL:=qrw hh
         have hE:=q35 hAb hL
         have hbl:=hL.1
         have hdo:=fun st=>q2w _ l b st hB (by omega) hE (by omega)
         have hlw:=fun st=>hall _ l b st hG hB (by omega) hE (by omega)
         rw [hag l b hF] at hlw
         have hGm:=qyn hG b
         have hBm:LB (300000+40 * (k+1)) (doF l b).2.1:=qd7 (qyo hB (by omega) b) (by omega) (by omega)
         have hlm:=hBm.len
         have hfl2:=hfl _ hGm (by omega)
         generalize doF l b=d at *
         obtain⟨e,m,ids⟩:=d
         dsimp only at hGm hBm hlm hfl2 hlw
         unfold doA at hdo
         dsimp only at hdo
         cases e with
         |no=>
          rw [if_pos rfl] at hlw
          cases hFm:qaj P (stzF m.ents) with
          |nil=>
           rw [hFm] at hfl2 hlw
           apply qi []
           repeat' (first|apply And.intro|(intro h;try exact cDd)|(refine Exists.intro (k) ⟨by omega,_,hxm,?_⟩)|exact⟨Tryz.call42⟩|refine cpe hhv ?_|exact⟨Tryz.call44⟩|refine cpe hlw ?_|exact⟨Tryz.call46⟩|refine cpe hdo ?_|exact⟨Tryz.call39⟩|refine cpe hfl2 ?_|(refine Exists.intro (k+1,m) ⟨⟨by omega,hGm,hBm,hFm⟩,by simp only;omega,?_⟩)|exact cSd|apply qf []|refine exr ?_|refine qj ?_)
           all_goals first|rfl|(simp;done)
          |cons f F=>
           rw [hFm] at hfl2 hlw
           apply qi []
           repeat' (first|apply And.intro|(intro h;try exact cDd)|(refine Exists.intro (k) ⟨by omega,_,hxm,?_⟩)|exact⟨Tryz.call42⟩|refine cpe hhv ?_|exact⟨Tryz.call44⟩|refine cpe hlw ?_|exact⟨Tryz.call46⟩|refine cpe hdo ?_|exact⟨Tryz.call39⟩|refine cpe hfl2 ?_|(refine Exists.intro (k+1,l) ⟨⟨by omega,hG,qd7 hB (by omega) (by omega),hF⟩,by simp only;omega,?_⟩)|exact cSd|apply qf []|refine exr ?_|refine qj ?_)
           all_goals first|rfl|(simp;done)|(exfalso;simp only [List.map_cons,List.length_cons] at *;omega)|(simp at *;done)|(simp at *;omega)
         |num n=>
          rw [if_neg (by simp)] at hlw
          apply qi []
          repeat' (first|apply And.intro|(intro h;try exact cDd)|(refine Exists.intro (k) ⟨by omega,_,hxm,?_⟩)|exact⟨Tryz.call42⟩|refine cpe hhv ?_|exact⟨Tryz.call44⟩|refine cpe hlw ?_|exact⟨Tryz.call46⟩|refine cpe hdo ?_|(refine Exists.intro (k+1,l) ⟨⟨by omega,hG,qd7 hB (by omega) (by omega),hF⟩,by simp only;omega,?_⟩)|exact cSd|apply qf []|refine exr ?_|refine qj ?_)
         |at' a n=>
          rw [if_neg (by simp)] at hlw
          apply qi []
          repeat' (first|apply And.intro|(intro h;try exact cDd)|(refine Exists.intro (k) ⟨by omega,_,hxm,?_⟩)|exact⟨Tryz.call42⟩|refine cpe hhv ?_|exact⟨Tryz.call44⟩|refine cpe hlw ?_|exact⟨Tryz.call46⟩|refine cpe hdo ?_|(refine Exists.intro (k+1,l) ⟨⟨by omega,hG,qd7 hB (by omega) (by omega),hF⟩,by simp only;omega,?_⟩)|exact cSd|apply qf []|refine exr ?_|refine qj ?_)
       ·have hkn:k=bs.length:=by omega
        subst hkn
        apply qi []
        repeat' (first|apply And.intro|(intro h;try exact cDd)|exact⟨Tryz.call39⟩|refine cpe hfl1 ?_|exact cSd|apply qf []|refine exr ?_|refine qj ?_)
theorem quf {t:TypeId} (hu:Tryz.prog.underlying t=some (.slice 90)):Opn Tryz.prog t fun a=>∃ bs:List (List za),a=qda bs∧∀ b∈bs,ArgE b:=by
 intro H enc W fuel cs x h
 obtain⟨a,⟨xs,rfl,hl,hx⟩,hr⟩:=qnd (sz:=1) hu (by kernel_rfl) (by decide) (qzr (by kernel_rfl)) H enc W fuel cs x h
 obtain⟨rs,rfl,hrs⟩:=qkv hx
 exact⟨_,⟨rs,rfl,hrs⟩,hr⟩
theorem qud:One fun a=>∃ bs:List (List za),a=qda bs∧∀ b∈bs,ArgE b:=by rintro _ ⟨xs,rfl,_⟩;rfl
theorem qp7 (text:qd) (bs:List (List za)) (hb:∀ b∈bs,ArgE b) (rs:List jo) (hr:rs.length≤maxLen) (st:List AObj):qn E 9 [Sv text,qda bs,.sl 5 (rs.map vz) none] st fun r st'=>r=Bv true∧st'=st:=qp8 text bs rs st hb
end Go.Proofs.YtneejjefekdgjaaGreatDoor
