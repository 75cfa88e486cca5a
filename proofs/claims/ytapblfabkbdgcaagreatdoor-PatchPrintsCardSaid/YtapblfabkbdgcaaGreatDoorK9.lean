/- Contracts and plain facts that the closing text leans on (part 9). No condition of their own beyond those that each states. -/
import Derived.Test.YtapblfabkbdgcaaGreatDoorK8
set_option maxRecDepth 100000
set_option linter.unusedVariables false
set_option linter.unusedSimpArgs false
namespace Go.Pl
open Go Go.Proofs
def revP (ns:List Int) (i:Nat):List Int:=(List.range ns.length).map fun k=>if k<i∨ns.length - i≤k then ns.getD (ns.length - 1 - k) 0 else ns.getD k 0
theorem qff (ns:List Int) (i:Nat):(revP ns i).length=ns.length:=by simp [revP]
theorem qfe (ns:List Int) (i:Nat) {k:Nat} (h:k<ns.length):(revP ns i)[k]? = some (if k<i∨ns.length - i≤k then ns.getD (ns.length - 1 - k) 0 else ns.getD k 0):=by
 unfold revP;rw [List.getElem?_map,List.getElem?_range h];rfl
theorem q88 (ns:List Int):revP ns 0=ns:=by
 refine List.ext_getElem? fun k=>?_;by_cases h:k<ns.length
 ·rw [qfe ns 0 h,if_neg (by omega),List.getElem?_eq_getElem h,List.getD_eq_getElem?_getD,List.getElem?_eq_getElem h]
  rfl
 ·rw [List.getElem?_eq_none (by rw [qff];omega),List.getElem?_eq_none (by omega)]
theorem q87 (ns:List Int) {i j:Nat} (h:i<j) (hj:i+j+1=ns.length):((revP ns i).set i (ns.getD j 0)).set j (ns.getD i 0)=revP ns (i+1):=by
 refine List.ext_getElem? fun k=>?_;by_cases hk:k<ns.length
 ·rw [qfe ns (i+1) hk,List.getElem?_set,List.getElem?_set,qfe ns i hk]
  simp only [List.length_set,qff];by_cases e1:j=k
  ·subst e1
   rw [if_pos rfl,if_pos hk,if_pos (by omega),show ns.length - 1 - j=i by omega]
  ·rw [if_neg e1]
   by_cases e2:i=k
   ·subst e2
    rw [if_pos rfl,if_pos hk,if_pos (by omega),show ns.length - 1 - i=j by omega]
   ·rw [if_neg e2]
    by_cases c:k<i∨ns.length - i≤k
    ·rw [if_pos c,if_pos (by omega)]
    ·rw [if_neg c,if_neg (by omega)]
 ·rw [List.getElem?_eq_none (by simp [qff];omega),List.getElem?_eq_none (by rw [qff];omega)]
theorem zcn (ns:List Int) {i:Nat} (h:ns.length≤2 * i+1):revP ns i=ns.reverse:=by
 refine List.ext_getElem? fun k=>?_;by_cases hk:k<ns.length
 ·rw [qfe ns i hk,List.getElem?_reverse hk,List.getElem?_eq_getElem (show ns.length - 1 - k<ns.length by omega)]
  by_cases c:k<i∨ns.length - i≤k
  ·rw [if_pos c,List.getD_eq_getElem?_getD,List.getElem?_eq_getElem (show ns.length - 1 - k<ns.length by omega)]
   rfl
  ·have e:ns.length - 1 - k=k:=by omega
   rw [if_neg c,List.getD_eq_getElem?_getD,List.getElem?_eq_getElem hk];simp only [e];rfl
 ·rw [List.getElem?_eq_none (by rw [qff];omega),List.getElem?_eq_none (by simp;omega)]
end Go.Pl
namespace Go.Proofs.YtapblfabkbdgcaaGreatDoor
open Go Go.Av Go.RowKit Go.Proofs Go.Pl
theorem ziw (ns:List Int) (hl:ns.length<1000000000):ki E 185 [.tp 0] 1 (hpF [(0,some (.own 1 3 (ns.map fun n=>Iv n)))]) ⟨.tu [],j5 [(0,some (SR.own 1 3 (ns.map fun n=>Iv n)))],[(0,some (.own 1 3 (ns.reverse.map fun n=>Iv n)))]++vd [(0,some (SR.own 1 3 (ns.map fun n=>Iv n)))],1⟩:=by
 refine wl [.tp 0] [(0,some (.own 1 3 (ns.map fun n=>Iv n)))] 1 (.tu []) [(0,some (.own 1 3 (ns.reverse.map fun n=>Iv n)))] 1 Tryz.func185 rfl rfl rfl rfl fun S F ρ=>?_;have g9:(ns.map fun n=>Iv n).length=ns.length:=by simp
 apply qf [];repeat' (first|apply And.intro|(intro h;try exact cDd)|exact cSd|apply qd []|refine exr ?_|refine qk ?_)
 refine ke (X:=Nat) (fun i=>⟨[(0,.tp 0),(2,.i i),(3,.i ((ns.length:Int) - 1 - i))],[(0,some (.own 1 3 ((revP ns i).map fun n=>Iv n)))],1⟩) (fun i=>2 * i≤ns.length+1) (fun i=>ns.length - i) 0 (by omega) ?_ ?_
 ·skip
  repeat' (first|apply And.intro|(intro h;try exact cDd)|exact cSd|apply qd []|refine exr ?_|refine qk ?_)
  all_goals first|rfl|(rw [q88];done)|(rw [g9];simp;done)|(simp;done)
 ·rintro i hi
  have b9:((revP ns i).map fun n=>Iv n).length=ns.length:=by rw [List.length_map,qff]
  by_cases h:2 * i+1<ns.length
  ·obtain⟨j,hj⟩:∃ j,i+j+1=ns.length:=⟨ns.length - 1 - i,by omega⟩
   have g1:((revP ns i).map fun n=>Iv n)[i]? = some (Iv (ns.getD i 0)):=by rw [List.getElem?_map,qfe ns i (by omega),if_neg (by omega)];rfl
   have g2:((revP ns i).map fun n=>Iv n)[j]? = some (Iv (ns.getD j 0)):=by rw [List.getElem?_map,qfe ns i (by omega),if_neg (by omega)];rfl
   have g3:(((revP ns i).map fun n=>Iv n).set i (Iv (ns.getD j 0)))[j]? = some (Iv (ns.getD j 0)):=by rw [List.getElem?_set_ne (by omega)];exact g2
   have hs:(((revP ns i).map fun n=>Iv n).set i (Iv (ns.getD j 0))).set j (Iv (ns.getD i 0))=(revP ns (i+1)).map fun n=>Iv n:=by
    rw [← q87 ns (by omega:i<j) hj,List.map_set,List.map_set]
   apply qf [];repeat' (first|apply And.intro|(intro h;try exact cDd)|(refine qdv (i:=i) rfl rfl rfl rfl rfl rfl (by first|omega|(rw [List.length_set];omega)) ?_)|(refine qdv (i:=j) rfl rfl rfl (ix64 (by omega)) rfl rfl (by first|omega|(rw [List.length_set];omega)) ?_)|(refine qh7 (i:=i) (j:=0) rfl rfl rfl rfl g1 rfl rfl ?_)|(refine qh7 (i:=j) (j:=0) rfl rfl rfl rfl g2 rfl rfl ?_)|(refine qi4 (i:=i) (j:=0) (z:=Iv (ns.getD i 0)) (z':=Iv (ns.getD j 0)) (u:=Iv (ns.getD j 0)) rfl rfl (fun _=>rfl) rfl rfl rfl g1 rfl rfl ?_)|(refine qi4 (i:=j) (j:=0) (z:=Iv (ns.getD j 0)) (z':=Iv (ns.getD i 0)) (u:=Iv (ns.getD i 0)) rfl rfl (fun _=>rfl) rfl rfl rfl g3 rfl rfl ?_)|(refine Exists.intro (i+1) ⟨by omega,by omega,?_⟩)|exact cSd|apply qd []|refine exr ?_|refine qk ?_)
   all_goals first|rfl|(rw [hs];done)|exact congrArg (fun n:Int=>Iv n) (by omega)|(simp;done)
  ·rw [zcn ns (by omega)]
   apply qf [];repeat' (first|apply And.intro|(intro h;try exact cDd)|exact cSd|apply qd []|refine exr ?_|refine qk ?_)
   all_goals first|rfl|(simp;done)
set_option maxHeartbeats 1000000 in
theorem zi4 (a b:List (List Fld)) (st:List AObj) (ha:a.length<1000000) (hb:b.length<1000000) (hf:∀ r∈a,r.length<1000000):qn E 161 [tblA a b] st fun r st'=>r=qfq (wayF a b)∧st'=st:=by
 refine qld [.a (tblA a b)] (qex _) Tryz.func161 rfl rfl (fun _=>rfl) rfl fun S0=>?_;have hma:(a.map zl).length=a.length:=by simp
 have hmb:(b.map zl).length=b.length:=by simp
 have hwl:=qqa a b;apply qf [];repeat' (first|apply And.intro|(intro h;try exact cDd)|exact cSd|apply qd []|refine exr ?_|refine qk ?_)
 refine ke (X:=List Int×Nat×Nat×Nat) (fun (out,n,i,j)=>⟨[(0,.a (tblA a b)),(3,.tp 0),(4,.i i),(5,.i j)],[(0,some (.own 1 3 (out.map fun n=>Iv n)))],1⟩) (fun (out,n,i,j)=>qgn a b out n i j) (fun (out,n,i,j)=>i+j) ([],a.length+b.length,a.length,b.length) (q90 a b) ?_ ?_
 ·skip
  repeat' (first|apply And.intro|(intro h;try exact cDd)|exact cSd|apply qd []|refine exr ?_|refine qk ?_)
  all_goals first|rfl|(simp;done)
 ·rintro⟨out,n,i,j⟩ hW
  have h1:=hW.hi;have h2:=hW.hj
  have lj:out.length≤a.length+b.length:=by
   have:=congrArg List.length hW.eq;rw [List.length_reverse,List.length_append] at this;omega
  have g9:(out.map fun n=>Iv n).length=out.length:=by simp
  by_cases h0:i=0∧j=0
  ·obtain⟨rfl,rfl⟩:=h0
   have he:=zgo hW;have hr:=ziw out (by omega);rw [he] at hr;apply qf [];repeat' (first|apply And.intro|(intro h;try exact cDd)|exact⟨Tryz.call185⟩|(refine jk hr ?_)|exact cSd|apply qd []|refine exr ?_|refine qk ?_)
   all_goals first|rfl|(simp;done)
  ·have hc:=fun st=>zhk a b i j st h0 h1 h2 ha hb hf
   obtain⟨m,hm,hM⟩:=zc5 hW h0;have nj:=qmy a b i j;have tx:=qk2 a b i j h0;rcases qmz a b i j with e|e|e|e
   ·rw [e] at hc hM nj tx
    obtain⟨i,rfl⟩:∃ k,i=k+1:=⟨i - 1,by have:=nj (by decide);omega⟩;obtain⟨j,rfl⟩:∃ k,j=k+1:=⟨j - 1,by have:=tx (by decide);omega⟩;have hM:qgn a b (out++[1]) m i j:=by simpa using hM
    apply qf [];repeat' (first|apply And.intro|(intro h;try exact cDd)|exact⟨Tryz.call184⟩|refine cpe hc ?_|(refine qg1 (ys:=[Iv 1]) rfl rfl rfl rfl rfl rfl rfl rfl (by simp only [List.length_cons,List.length_nil];omega) rfl ?_)|(refine Exists.intro (out++[1],m,i,j) ⟨hM,by simp only;omega,?_⟩)|exact cSd|apply qd []|refine exr ?_|refine qk ?_)
    all_goals first|rfl|exact congrArg (fun n:Int=>Iv n) (by omega)|(simp;done)
   ·rw [e] at hc hM nj tx
    obtain⟨i,rfl⟩:∃ k,i=k+1:=⟨i - 1,by have:=nj (by decide);omega⟩;obtain⟨j,rfl⟩:∃ k,j=k+1:=⟨j - 1,by have:=tx (by decide);omega⟩;have hM:qgn a b (out++[2]) m i j:=by simpa using hM
    apply qf [];repeat' (first|apply And.intro|(intro h;try exact cDd)|exact⟨Tryz.call184⟩|refine cpe hc ?_|(refine qg1 (ys:=[Iv 2]) rfl rfl rfl rfl rfl rfl rfl rfl (by simp only [List.length_cons,List.length_nil];omega) rfl ?_)|(refine Exists.intro (out++[2],m,i,j) ⟨hM,by simp only;omega,?_⟩)|exact cSd|apply qd []|refine exr ?_|refine qk ?_)
    all_goals first|rfl|exact congrArg (fun n:Int=>Iv n) (by omega)|(simp;done)
   ·rw [e] at hc hM nj
    obtain⟨i,rfl⟩:∃ k,i=k+1:=⟨i - 1,by have:=nj (by decide);omega⟩;have hM:qgn a b (out++[3]) m i j:=by simpa using hM
    apply qf [];repeat' (first|apply And.intro|(intro h;try exact cDd)|exact⟨Tryz.call184⟩|refine cpe hc ?_|(refine qg1 (ys:=[Iv 3]) rfl rfl rfl rfl rfl rfl rfl rfl (by simp only [List.length_cons,List.length_nil];omega) rfl ?_)|(refine Exists.intro (out++[3],m,i,j) ⟨hM,by simp only;omega,?_⟩)|exact cSd|apply qd []|refine exr ?_|refine qk ?_)
    all_goals first|rfl|exact congrArg (fun n:Int=>Iv n) (by omega)|(simp;done)
   ·rw [e] at hc hM tx
    obtain⟨j,rfl⟩:∃ k,j=k+1:=⟨j - 1,by have:=tx (by decide);omega⟩;have hM:qgn a b (out++[4]) m i j:=by simpa using hM
    apply qf [];repeat' (first|apply And.intro|(intro h;try exact cDd)|exact⟨Tryz.call184⟩|refine cpe hc ?_|(refine qg1 (ys:=[Iv 4]) rfl rfl rfl rfl rfl rfl rfl rfl (by simp only [List.length_cons,List.length_nil];omega) rfl ?_)|(refine Exists.intro (out++[4],m,i,j) ⟨hM,by simp only;omega,?_⟩)|exact cSd|apply qd []|refine exr ?_|refine qk ?_)
    all_goals first|rfl|exact congrArg (fun n:Int=>Iv n) (by omega)|(simp;done)
theorem zg7 (a b:List (List Fld)) (st:List AObj) (ha:a.length<1000000) (hb:b.length<1000000) (hf:∀ r∈a,r.length<1000000):qn E 117 [xj a,xj b] st fun r st'=>r=qfq (wayF a b)∧st'=st:=by
 refine zt [.a (xj a),.a (xj b)] (qex _) Tryz.func117 rfl rfl (fun _=>rfl) rfl fun S0=>?_;have ht:=fun st=>zcz a b st ha hb hf;have hw:=fun st=>zi4 a b st ha hb hf;apply qf [];repeat' (first|apply And.intro|(intro h;try exact cDd)|exact⟨Tryz.call160⟩|refine cpe ht ?_|exact⟨Tryz.call161⟩|refine cpe hw ?_|exact cSd|apply qd []|refine exr ?_|refine qk ?_)
theorem q2m (l:q7) (st:List AObj) (hl:l.ents.length<1000000) (hI:∀ e∈l.ents,e.x.fields.length<1000000):qn E 46 [vp l] st fun r st'=>r=xj (xu l)∧st'=st:=by
 refine zt [.a (vp l)] (qg7 _) Tryz.func46 rfl rfl (fun _=>rfl) rfl fun S0=>?_;have hz:=fun st=>qrp l st hl hI;have fk:=qia l.ents;unfold xu;generalize stzF l.ents=s at *;have hms:(s.map stzA).length=s.length:=by simp
 apply qf [];repeat' (first|apply And.intro|(intro h;try exact cDd)|exact⟨Tryz.call81⟩|refine cpe hz ?_|exact cSd|apply qd []|refine exr ?_|refine qk ?_)
 refine ke (X:=Nat) (fun k=>⟨[(3,.tp 0),(7,.a (qwt s)),(8,.i s.length),(9,.i k)],[(0,some (.tip 1 53 (((s.take k).map Prod.snd).map zl)))],1⟩) (fun k=>k≤s.length) (fun k=>s.length - k) 0 (by omega) ?_ ?_
 ·skip
  repeat' (first|apply And.intro|(intro h;try exact cDd)|exact cSd|apply qd []|refine exr ?_|refine qk ?_)
  all_goals first|rfl|(simp;done)
 ·rintro k hk
  by_cases i8:k<s.length
  ·have hx:s[k]? = some s[k]:=List.getElem?_eq_getElem i8
   have m7:(s.map stzA)[k]? = some (stzA s[k]):=by rw [List.getElem?_map,hx];rfl
   have cd:=qnd hx;have htl:(((s.take k).map Prod.snd).map zl).length≤s.length:=by simp;omega
   generalize s[k]=x at hx m7 cd;apply qf [];repeat' (first|apply And.intro|(intro h;try exact cDd)|(refine Exists.intro (k) ⟨by omega,_,m7,?_⟩)|(refine Exists.intro (k+1) ⟨by omega,by omega,?_⟩)|exact cSd|apply qd []|refine exr ?_|refine qk ?_)
   all_goals first|rfl|(rw [cd];simp;done)|(simp;omega)
  ·have i8:k=s.length:=by omega
   subst i8;rw [List.take_length];apply qf [];repeat' (first|apply And.intro|(intro h;try exact cDd)|exact cSd|apply qd []|refine exr ?_|refine qk ?_)
@[reducible] def wkH (n : Nat) (S : List (Int × List Fld)) (R : List (List Fld)) (bh nx : Int) (out : List qq) : List (Nat × Option SR) := [(0, some (.cells 199 [.a (qwt S), .a (xj R), .i bh, .i nx, .tp n])), (n, some (.tip 3 55 (out.map je)))]
theorem zgd (s:Int×List Fld) (S:List (Int×List Fld)) (r:List Fld) (R:List (List Fld)) (bh nx:Int) (out:List qq) (hr:r.length<1000000) (hS:S.length<1000000) (hR:R.length<1000000):ki E 118 [.bx 0 0,.i 1] 2 (hpF (wkH 1 (s::S) (r::R) bh nx out)) ⟨.tu [],j5 (wkH 1 (s::S) (r::R) bh nx out),wkH 1 S R s.1 nx out++vd (wkH 1 (s::S) (r::R) bh nx out),2⟩:=by
 refine wl [.bx 0 0,.i 1] (wkH 1 (s::S) (r::R) bh nx out) 2 (.tu []) (wkH 1 S R s.1 nx out) 2 Tryz.func118 rfl rfl rfl rfl fun S0 F ρ=>?_;have hc:=fun st=>qbv r st hr;have h1:((s::S).map stzA)[0]? = some (stzA s):=rfl;have h2:((r::R).map zl)[0]? = some (zl r):=rfl;have l1:((s::S).map stzA).length=S.length+1:=by simp
 have l2:((r::R).map zl).length=R.length+1:=by simp
 apply qf [];repeat' (first|apply And.intro|(intro h;try exact cDd)|(refine Exists.intro (0) ⟨by omega,_,h1,?_⟩)|(refine Exists.intro (0) ⟨by omega,_,h2,?_⟩)|exact⟨Tryz.call91⟩|refine cpe hc ?_|exact cSd|apply qd []|refine exr ?_|refine qk ?_)
 all_goals first|rfl|(simp;done)
theorem zge (s:Int×List Fld) (S:List (Int×List Fld)) (r:List Fld) (R:List (List Fld)) (bh nx:Int) (out:List qq) (hr:r.length<1000000) (hS:S.length<1000000) (hR:R.length<1000000) (ho:out.length<10000000):ki E 118 [.bx 0 0,.i 2] 2 (hpF (wkH 1 (s::S) (r::R) bh nx out)) ⟨.tu [],j5 (wkH 1 (s::S) (r::R) bh nx out),wkH 2 S R s.1 nx (out++[(⟨1,s.1,r⟩:qq)])++vd (wkH 1 (s::S) (r::R) bh nx out),3⟩:=by
 refine wl [.bx 0 0,.i 2] (wkH 1 (s::S) (r::R) bh nx out) 2 (.tu []) (wkH 2 S R s.1 nx (out++[(⟨1,s.1,r⟩:qq)])) 3 Tryz.func118 rfl rfl rfl rfl fun S0 F ρ=>?_;have hc:=fun st=>qbv r st hr;have h1:((s::S).map stzA)[0]? = some (stzA s):=rfl;have h2:((r::R).map zl)[0]? = some (zl r):=rfl;have l1:((s::S).map stzA).length=S.length+1:=by simp
 have l2:((r::R).map zl).length=R.length+1:=by simp
 have l3:(out.map je).length=out.length:=by simp
 apply qf [];repeat' (first|apply And.intro|(intro h;try exact cDd)|(refine Exists.intro (0) ⟨by omega,_,h1,?_⟩)|(refine Exists.intro (0) ⟨by omega,_,h2,?_⟩)|exact⟨Tryz.call91⟩|refine cpe hc ?_|exact cSd|apply qd []|refine exr ?_|refine qk ?_)
 all_goals first|rfl|(simp;done)|(simp [SV.evs,SV.rens,SV.ren,SV.ev];done)
theorem zgf (s:Int×List Fld) (S:List (Int×List Fld)) (R:List (List Fld)) (bh nx:Int) (out:List qq) (hS:S.length<1000000) (ho:out.length<10000000):ki E 118 [.bx 0 0,.i 3] 2 (hpF (wkH 1 (s::S) R bh nx out)) ⟨.tu [],j5 (wkH 1 (s::S) R bh nx out),wkH 2 S R bh nx (out++[(⟨2,s.1,[]⟩:qq)])++vd (wkH 1 (s::S) R bh nx out),3⟩:=by
 refine wl [.bx 0 0,.i 3] (wkH 1 (s::S) R bh nx out) 2 (.tu []) (wkH 2 S R bh nx (out++[(⟨2,s.1,[]⟩:qq)])) 3 Tryz.func118 rfl rfl rfl rfl fun S0 F ρ=>?_;have h1:((s::S).map stzA)[0]? = some (stzA s):=rfl;have l1:((s::S).map stzA).length=S.length+1:=by simp
 have l3:(out.map je).length=out.length:=by simp
 apply qf [];repeat' (first|apply And.intro|(intro h;try exact cDd)|(refine Exists.intro (0) ⟨by omega,_,h1,?_⟩)|exact cSd|apply qd []|refine exr ?_|refine qk ?_)
 all_goals first|rfl|(simp;done)|(simp [SV.evs,SV.rens,SV.ren,SV.ev];done)
theorem zgg (S:List (Int×List Fld)) (r:List Fld) (R:List (List Fld)) (bh nx:Int) (out:List qq) (hr:r.length<1000000) (hR:R.length<1000000) (ho:out.length<10000000) (hn:0≤nx∧nx<100000000):ki E 118 [.bx 0 0,.i 4] 2 (hpF (wkH 1 S (r::R) bh nx out)) ⟨.tu [],j5 (wkH 1 S (r::R) bh nx out),wkH 2 S R nx (nx+1) (out++[(⟨3,bh,r⟩:qq)])++vd (wkH 1 S (r::R) bh nx out),3⟩:=by
 refine wl [.bx 0 0,.i 4] (wkH 1 S (r::R) bh nx out) 2 (.tu []) (wkH 2 S R nx (nx+1) (out++[(⟨3,bh,r⟩:qq)])) 3 Tryz.func118 rfl rfl rfl rfl fun S0 F ρ=>?_;have hc:=fun st=>qbv r st hr;have h2:((r::R).map zl)[0]? = some (zl r):=rfl;have l2:((r::R).map zl).length=R.length+1:=by simp
 have l3:(out.map je).length=out.length:=by simp
 apply qf [];repeat' (first|apply And.intro|(intro h;try exact cDd)|(refine Exists.intro (0) ⟨by omega,_,h2,?_⟩)|exact⟨Tryz.call91⟩|refine cpe hc ?_|exact cSd|apply qd []|refine exr ?_|refine qk ?_)
 all_goals first|rfl|(simp;done)|(simp [SV.evs,SV.rens,SV.ren,SV.ev];done)
set_option maxHeartbeats 1000000 in
theorem zar (text:qc) (R:List (List Fld)) (st:List AObj) (hR:∀ r∈R,zw r = .no) (cx:R.length<1000000):qn E 80 [vp (ofF (itsE text)),xj R] st fun r st'=>r=qhd (wi (ofF (itsE text)) R)∧st'=st:=by
 have hB:=qez text;have hI:=qrz text;have o8:=hB.len;have bm:=hB.nx0;have px:=hB.nx1;have hz:=fun st=>qrp (ofF (itsE text)) st (by omega) fun e he=>by have:=(hI e he).2;omega
 have hn:=fun st=>zfa (ofF (itsE text)) st;have hr:=fun st=>q2m (ofF (itsE text)) st (by omega) fun e he=>by have:=(hI e he).2;omega
 have fk:=qia (ofF (itsE text)).ents;have hrf:∀ r∈R,r.length<1000000:=fun r h=>by have:=(qer (hR r h)).2.1;omega
 have hw:=fun st=>zg7 (xu (ofF (itsE text))) R st (by unfold xu;rw [List.length_map];omega) cx fun r hr=>by
  unfold xu at hr;obtain⟨s,hs,rfl⟩:=List.mem_map.1 hr;obtain⟨e,he,rfl⟩:=List.mem_map.1 hs;have:=(hI e (List.mem_filter.1 he).1).2;simp only;omega
 have hwl:=qqa (xu (ofF (itsE text))) R;have hrll:(xu (ofF (itsE text))).length=(stzF (ofF (itsE text)).ents).length:=by simp [xu]
 have e7:=za0 (qtw (stzF (ofF (itsE text)).ents) R) 0 (ofF (itsE text)).next;refine zt [.a (vp (ofF (itsE text))),.a (xj R)] (qxx _) Tryz.func80 rfl rfl (fun _=>rfl) rfl fun S0=>?_;unfold wi;unfold xu at hw hwl hrll hr;generalize ofF (itsE text)=l at *;generalize hws:wayF ((stzF l.ents).map Prod.snd) R=ws at *;generalize stzF l.ents=S1 at *;generalize zr ws S1 R 0 l.next=full at *;have g9:(ws.map fun n=>Iv n).length=ws.length:=by simp
 apply qf [18];repeat' (first|apply And.intro|(intro h;try exact cDd)|exact⟨Tryz.call81⟩|refine cpe hz ?_|exact⟨Tryz.call116⟩|refine cpe hn ?_|exact⟨Tryz.call46⟩|refine cpe hr ?_|exact⟨Tryz.call117⟩|refine cpe hw ?_|exact cSd|apply qd [18]|refine exr ?_|refine qk ?_)
 refine ke (X:=Nat×List (Int×List Fld)×List (List Fld)×Int×Int×List qq) (fun (k,S,Q,bh,nx,out)=>⟨[(6,.bx 0 0),(22,.a (qfq ws)),(23,.i ws.length),(24,.i k)],wkH 1 S Q bh nx out,2⟩)
  (fun (k,S,Q,bh,nx,out)=>(k≤ws.length∧EdAt full out (ws.drop k) S Q bh nx)∧out.length≤k∧0≤nx∧nx≤l.next+k∧S.length≤S1.length∧Q.length≤R.length∧∀ r∈Q,r.length<1000000) (fun (k,_)=>ws.length - k) (0,S1,R,0,l.next,[]) ⟨⟨by omega,by simpa using e7⟩,by simp,by omega,by omega,by omega,by omega,hrf⟩ ?_ ?_
 ·skip
  repeat' (first|apply And.intro|(intro h;try exact cDd)|exact cSd|apply qd []|refine exr ?_|refine qk ?_)
  all_goals first|rfl|(simp;done)
 ·rintro⟨k,S,Q,bh,nx,out⟩ ⟨⟨hk,hE⟩,ho,dp,hn1,hS,hQ,hQf⟩
  by_cases i8:k<ws.length
  ·have hx:ws[k]? = some ws[k]:=List.getElem?_eq_getElem i8
   have m7:(ws.map fun n=>Iv n)[k]? = some (Iv ws[k]):=by rw [List.getElem?_map,hx];rfl
   rw [List.drop_eq_getElem_cons i8] at hE;generalize ws[k]=w at hx m7 hE;rcases zen hE with⟨rfl,s,S',Q',rfl,rfl,hE2⟩ | ⟨rfl,s,S',r,Q',rfl,rfl,hE2⟩ | ⟨rfl,s,S',rfl,hE2⟩ | ⟨rfl,r,Q',rfl,hE2⟩
   ·simp only [List.length_cons] at hS hQ
    have hc:=zgd s S' s.2 Q' bh nx out (hQf _ (by simp)) (by omega) (by omega);apply qf [];repeat' (first|apply And.intro|(intro h;try exact cDd)|(refine Exists.intro (k) ⟨by omega,_,m7,?_⟩)|exact⟨Tryz.call118⟩|(refine jk hc ?_)|(refine Exists.intro (k+1,S',Q',s.1,nx,out) ⟨⟨⟨by omega,hE2⟩,by omega,by omega,by omega,by omega,by omega,fun r hr=>hQf r (by simp [hr])⟩,by simp only;omega,?_⟩)|exact cSd|apply qd []|refine exr ?_|refine qk ?_)
    all_goals first|rfl|(simp;done)
   ·simp only [List.length_cons] at hS hQ
    have hc:=zge s S' r Q' bh nx out (hQf _ (by simp)) (by omega) (by omega) (by omega);apply qf [];repeat' (first|apply And.intro|(intro h;try exact cDd)|(refine Exists.intro (k) ⟨by omega,_,m7,?_⟩)|exact⟨Tryz.call118⟩|(refine jk hc ?_)|(refine Exists.intro (k+1,S',Q',s.1,nx,out++[(⟨1,s.1,r⟩:qq)]) ⟨⟨⟨by omega,hE2⟩,by simp;omega,by omega,by omega,by omega,by omega,fun r hr=>hQf r (by simp [hr])⟩,by simp only;omega,?_⟩)|exact cSd|apply qd []|refine exr ?_|refine qk ?_)
    all_goals first|rfl|(simp;done)
   ·simp only [List.length_cons] at hS
    have hc:=zgf s S' Q bh nx out (by omega) (by omega);apply qf [];repeat' (first|apply And.intro|(intro h;try exact cDd)|(refine Exists.intro (k) ⟨by omega,_,m7,?_⟩)|exact⟨Tryz.call118⟩|(refine jk hc ?_)|(refine Exists.intro (k+1,S',Q,bh,nx,out++[(⟨2,s.1,[]⟩:qq)]) ⟨⟨⟨by omega,hE2⟩,by simp;omega,by omega,by omega,by omega,by omega,hQf⟩,by simp only;omega,?_⟩)|exact cSd|apply qd []|refine exr ?_|refine qk ?_)
    all_goals first|rfl|(simp;done)
   ·simp only [List.length_cons] at hQ
    have hc:=zgg S r Q' bh nx out (hQf _ (by simp)) (by omega) (by omega) (by omega);apply qf [];repeat' (first|apply And.intro|(intro h;try exact cDd)|(refine Exists.intro (k) ⟨by omega,_,m7,?_⟩)|exact⟨Tryz.call118⟩|(refine jk hc ?_)|(refine Exists.intro (k+1,S,Q',nx,nx+1,out++[(⟨3,bh,r⟩:qq)]) ⟨⟨⟨by omega,hE2⟩,by simp;omega,by omega,by omega,by omega,by omega,fun r hr=>hQf r (by simp [hr])⟩,by simp only;omega,?_⟩)|exact cSd|apply qd []|refine exr ?_|refine qk ?_)
    all_goals first|rfl|(simp;done)
  ·have i8:k=ws.length:=by omega
   subst i8;rw [List.drop_length] at hE;have hsq:=zfo hE.ok;have mj:=zg9 hE;rw [mj];have hmo:(out.map je).length=out.length:=by simp
   unfold qhd;by_cases tk:40<out.length
   ·rw [if_pos tk]
    apply qf [];repeat' (first|apply And.intro|(intro h;try exact cDd)|exact cSd|apply qd []|refine exr ?_|refine qk ?_)
   ·rw [if_neg tk]
    apply qf [];repeat' (first|apply And.intro|(intro h;try exact cDd)|exact cSd|apply qd []|refine exr ?_|refine qk ?_)
end Go.Proofs.YtapblfabkbdgcaaGreatDoor
namespace Go.Av
open Go Go.RowKit
section
variable {E : Env} {N : Nat} {ops : Array Oper} {nx : Nat} {sl : List (Nat × SV)} {H : Nat → Option SR} {k : Ef → Prop} {d : Option Tmp} {T : TypeId} {p : String} {af : Array Edge}
@[reducible] def Wn (n : Nat) : AV := .v (.int .u32 (n : Int))
theorem q0e {n:Nat} (h:n<4294967296):IntKind.u32.wrap (n:Int)=(n:Int):=by rw [qd0,Nat.mod_eq_of_lt h]
theorem zih {t t':TypeId} {x y:Operand} {v u:SV} {a:Nat} {yk:IntKind} (hx:sval N sl x=some v) (hv:∀ ρ,v.ev ρ = Wn a) (hy:sval N sl y=some u) (hu:∀ ρ,u.ev ρ = .v (.int yk 4)) (ha:a<268435456) (h:k ⟨.a (Wn (a * 16)),[],[],nx⟩) :
  ∃ e,Loc E N ops ⟨d,.binOp .shl t x y t',T,p,af,none⟩ nx sl H e∧k e:=
 ⟨_,z4 (v:=.a (Wn (a * 16))) fun df rd K rest ρ t1 S hs hk=>qxd ((qv hs hx).trans (hv ρ)) ((qv hs hy).trans (hu ρ)) (by omega) (by
  have e:(a:Int) * 2 ^ (min (4:Int).toNat IntKind.u32.bits)=((a * 16:Nat):Int):=by
   have:min (4:Int).toNat IntKind.u32.bits=4:=rfl;rw [this];omega
  rw [e]
  exact q0e (by omega)) hk,h⟩
theorem w_or {t t':TypeId} {x y:Operand} {v u:SV} {a n:Nat} (hx:sval N sl x=some v) (hv:∀ ρ,v.ev ρ = Wn (a * 16)) (hy:sval N sl y=some u) (hu:∀ ρ,u.ev ρ = Wn n) (ha:a<268435456) (hn:n<16) (h:k ⟨.a (Wn (16 * a+n)),[],[],nx⟩) :
  ∃ e,Loc E N ops ⟨d,.binOp .or t x y t',T,p,af,none⟩ nx sl H e∧k e:=
 ⟨_,z4 (v:=.a (Wn (16 * a+n))) fun df rd K rest ρ t1 S hs hk=>q19 ((qv hs hx).trans (hv ρ)) ((qv hs hy).trans (hu ρ)) (by
  have e:(BitVec.ofInt IntKind.u32.bits ((a * 16:Nat):Int) |||BitVec.ofInt IntKind.u32.bits (n:Int)).toNat=16 * a+n:=by
   rw [BitVec.toNat_or,BitVec.ofInt_natCast,BitVec.ofInt_natCast,BitVec.toNat_ofNat,BitVec.toNat_ofNat,show IntKind.u32.bits=32 from rfl,Nat.mod_eq_of_lt (by omega),Nat.mod_eq_of_lt (by omega)];exact Go.Pl.shl_or hn
  show IntKind.u32.wrap ((BitVec.ofInt IntKind.u32.bits ((a * 16:Nat):Int) |||BitVec.ofInt IntKind.u32.bits (n:Int)).toNat:Int)=_
  rw [e]
  exact q0e (by omega)) hk,h⟩
end
end Go.Av
namespace Go.Pl
open Go Go.Proofs
theorem zb4 {a i:Nat} (h:a<16 ^ i) {n:Nat} (hn:n<16):16 * a+n<16 ^ (i+1):=by
 rw [Nat.pow_succ];omega
theorem zb3 {a i:Nat} (h:a<16 ^ i) (hi:i<8):a<268435456:=by
 have:16 ^ i≤16 ^ 7:=Nat.pow_le_pow_right (by omega) (by omega);omega
end Go.Pl
namespace Go.Proofs.YtapblfabkbdgcaaGreatDoor
open Go Go.Av Go.RowKit Go.Proofs Go.Pl
def q50 (o:Option (BitVec 32)):AV:=.tu [Wv (o.getD 0),Bv o.isSome]
theorem q51 (o:Option (BitVec 32)):Pure (q50 o):=kw (q8 _) (q8 _)
theorem q3f (s:qc) (st:List AObj):qn E 41 [Sv s] st fun r st'=>r=q50 (qah s)∧st'=st:=by
 refine zt [.s s] (q51 _) Tryz.func41 rfl rfl (fun _=>rfl) rfl fun S0=>?_;unfold qah q50;by_cases hl:s.length=8
 ·rw [if_pos hl]
  apply qf [];repeat' (first|apply And.intro|(intro h;try exact cDd)|exact cSd|apply qd []|refine exr ?_|refine qk ?_)
  refine ke (X:=Nat×Nat) (fun (i,a)=>⟨[(0,.s s),(4,.a (Wn a)),(10,.i i)],[],0⟩) (fun (i,a)=>i≤8∧a<16 ^ i∧qjd (s.drop i) a=qjd s 0) (fun (i,a)=>8 - i) (0,0) ⟨by omega,by simp,by simp⟩ ?_ ?_
  ·skip
   repeat' (first|apply And.intro|(intro h;try exact cDd)|exact cSd|apply qd []|refine exr ?_|refine qk ?_)
   all_goals first|rfl|(simp;done)
  ·rintro⟨i,a⟩ ⟨hi,ha,a8⟩
   by_cases dk:i<8
   ·have ha2:=zb3 ha dk
    rw [List.drop_eq_getElem_cons (by omega),qjd] at a8;have hg:s.getD i 0=s[i]'(by omega):=by rw [List.getD_eq_getElem?_getD,List.getElem?_eq_getElem (by omega)];rfl
    have hc:=fun st=>q08 hexB (s.getD i 0).toNat st;have mf:((s.getD i 0).toNat:Int).toNat.toUInt8=s.getD i 0:=by simp
    rw [mf,zeu] at hc;rw [← hg] at a8
    cases hx:hexN (s.getD i 0) with
    |none=>
     rw [hx] at a8 hc;dsimp only at a8 hc;rw [← a8];apply qf [];repeat' (first|apply And.intro|(intro h;try exact cDd)|exact⟨Tryz.call74⟩|refine cpe hc ?_|exact cSd|apply qd []|refine exr ?_|refine qk ?_)
     all_goals first|rfl|(simp;done)
    |some n=>
     rw [hx] at a8 hc;dsimp only at a8 hc;have hn:=(qa1 hx).1;have hp:=zb4 ha hn;apply qf [];repeat' (first|apply And.intro|(intro h;try exact cDd)|exact⟨Tryz.call74⟩|refine cpe hc ?_|(refine zih (a:=a) rfl (fun _=>rfl) rfl (fun _=>rfl) ha2 ?_)|(refine w_or (a:=a) (n:=n) rfl (fun _=>rfl) rfl (fun _=>congrArg (fun z:Int=>AV.v (.int .u32 z)) (q0e (by omega))) ha2 hn ?_)|(refine Exists.intro (i+1,16 * a+n) ⟨⟨by omega,hp,a8⟩,by simp only;omega,?_⟩)|exact cSd|apply qd []|refine exr ?_|refine qk ?_)
     all_goals first|rfl|(simp;done)
   ·have dk:i=8:=by omega
    subst dk;rw [List.drop_eq_nil_of_le (by omega),qjd] at a8;rw [← a8]
    have h32:(BitVec.ofNat 32 a).toNat=a:=by
     rw [BitVec.toNat_ofNat,Nat.mod_eq_of_lt];have:(16:Nat) ^ 8=2 ^ 32:=by decide
     omega
    apply qf [];repeat' (first|apply And.intro|(intro h;try exact cDd)|exact cSd|apply qd []|refine exr ?_|refine qk ?_)
    all_goals first|rfl|(simp [h32];done)
 ·rw [if_neg hl]
  apply qf [];repeat' (first|apply And.intro|(intro h;try exact cDd)|exact cSd|apply qd []|refine exr ?_|refine qk ?_)
end Go.Proofs.YtapblfabkbdgcaaGreatDoor
namespace Go.Pl
open Go Go.Proofs Go.Proofs.YtapblfabkbdgcaaGreatDoor
theorem q7c {t:qc} {b:List qq} (h:decF t=some b):yz b:=by
 obtain⟨h1,h2,h3⟩:=qe6 h;exact⟨(za7 h).1.B,by have:=(qb4 h1).2.1;omega,fun x hx=>by have:=(qd9 ((qb4 h1).2.2 x hx)).1;omega⟩
theorem q0s {t:qc} {b:List qq} (h:qav t=some b):yz b:=by
 unfold qav at h;split at h
 ·cases h
  exact⟨by simp,by simp,by simp⟩
 ·exact q7c h
theorem qnn {b:List qq} (hb:yz b) (h:eErr b = .no):(encF b).length≤42000000:=by
 have h1:=qho b hb.ed (qb4 h).2.2;have:=hb.len;omega
theorem q8z {p:PatV} (hb:yz p.b):(vg p).2.length≤43000000:=by
 unfold vg;split
 ·rw [qyh];omega
 ·split
  ·rename_i h
   have:=qnn hb h;simp only [List.length_append,qyh];omega
  ·simp
theorem qs2 {text:qc} {R:List (List Fld)} (hR:∀ r∈R,zw r = .no) (hl:R.length<1000000):yz (qch text (ofF (itsE text)) R).2.b:=by
 have h0:yz pat0.b:=⟨by simp [pat0],by simp [pat0],by simp [pat0]⟩;unfold qch;split
 ·exact h0
 ·split
  ·exact q7h hR hl (by omega)
  ·exact h0
theorem q1i (old now:qc):yz (xi old now).2.b:=by
 have h0:yz pat0.b:=⟨by simp [pat0],by simp [pat0],by simp [pat0]⟩;unfold xi;split
 ·split
  ·rename_i h
   refine qs2 (qzv h) ?_;have h1:=(qez now).len;have h2:=qia (ofF (itsE now)).ents;unfold xu;rw [List.length_map];omega
  ·exact h0
 ·exact h0
theorem ziu (text:qc):wE (ofF (itsE text)).ents≤2 * text.length:=by
 have h:=qy6 (itsE text) ⟨[],1,0⟩;rw [show wE ([]:List EntV)=0 from rfl,Nat.zero_add] at h;have:=zhi text;unfold ofF;omega
theorem quq {text:qc} {b:List qq} (h:kv text = .no) (hb:yz b):(qai (vl (ofF (itsE text)) b).2).length<100000000:=by
 have h1:=ziu text;have h2:=zgj (zat (qy8 h) b);have h3:=(qjv h).2.1
 have h4:wE (vl (ofF (itsE text)) b).2.ents≤42120000:=by
  unfold vl;split
  ·simp only
   omega
  ·by_cases he:eErr b = .no
   ·have:=ziq (ofF (itsE text)) b
    have:=qnn hb he;simp only;omega
   ·unfold doF
    rw [if_neg he];simp only;omega
 omega
end Go.Pl
namespace Go.Proofs.YtapblfabkbdgcaaGreatDoor
open Go Go.Av Go.RowKit Go.Proofs Go.Pl
@[reducible] def patA (p : PatV) : AV := .ag [Wv p.fr, Wv p.to', jo p.b]
theorem qi7 (p:PatV):Pure (patA p):=qaq fun y hy=>by
 simp only [AV.cells,List.mem_cons,List.not_mem_nil,or_false] at hy;rcases hy with rfl|rfl|rfl
 ·exact q8 _
 ·exact q8 _
 ·exact qb5 _
theorem qpw (p:PatV) (st:List AObj) (hb:yz p.b):qn E 16 [patA p] st fun r st'=>r = .tu [Sv (vg p).2,errA (vg p).1]∧st'=st:=by
 obtain⟨f,t,b⟩:=p;refine zt [.a (.ag [Wv f,Wv t,jo b])] (kw (q8 _) (va _)) Tryz.func16 rfl rfl (fun _=>rfl) rfl fun S0=>?_;dsimp only at hb ⊢;have hf:=fun st=>quu f st;have ht:=fun st=>quu t st;have lf:=qci f;have lt:=qci t;unfold vg qc6 wo;dsimp only;generalize jq f 8=ff at *;generalize jq t 8=tt at *
 cases b with
 |nil=>
  rw [if_pos rfl];apply qf [];repeat' (first|apply And.intro|(intro h;try exact cDd)|exact⟨Tryz.call34⟩|refine cpe hf ?_|exact⟨Tryz.call34⟩|refine cpe ht ?_|exact cSd|apply qd []|refine exr ?_|refine qk ?_)
  all_goals first|rfl|(simp [errA];done)
 |cons x r=>
  rw [if_neg (by simp)];have s8:=qnn hb;have h0:=fun h st=>qus (x::r) st hb.ed h;have h1:=fun e he hc st=>qmm (x::r) st e hb.ed (by have:=hb.len;omega) he hc;have tq:=qf0 (x::r);have hlb:0<((x::r).map je).length:=by simp
  have rz:=hb.len;have g9:((x::r).map je).length=(x::r).length:=by simp
  by_cases h:eErr (x::r) = .no
  ·rw [if_pos h]
   replace s8:=s8 h;replace h0:=h0 h;generalize encF (x::r)=body at *;generalize x::r=b at *;apply qf [];repeat' (first|apply And.intro|(intro h;try exact cDd)|exact⟨Tryz.call34⟩|refine cpe hf ?_|exact⟨Tryz.call34⟩|refine cpe ht ?_|exact⟨Tryz.call35⟩|refine cpe h0 ?_|exact cSd|apply qd []|refine exr ?_|refine qk ?_)
   all_goals first|rfl|(simp [errA];done)
  ·rw [if_neg h]
   replace h1:=h1 _ rfl fun e=>h (tq.1 e);generalize eErr (x::r)=e at *;generalize x::r=b at *
   cases e with
   |no=>exact absurd rfl h
   |num n=>
    apply qf []
    repeat' (first|apply And.intro|(intro h;try exact cDd)|exact⟨Tryz.call34⟩|refine cpe hf ?_|exact⟨Tryz.call34⟩|refine cpe ht ?_|exact⟨Tryz.call35⟩|refine cpe h1 ?_|exact cSd|apply qd []|refine exr ?_|refine qk ?_)
   |at' a n=>
    apply qf [];repeat' (first|apply And.intro|(intro h;try exact cDd)|exact⟨Tryz.call34⟩|refine cpe hf ?_|exact⟨Tryz.call34⟩|refine cpe ht ?_|exact⟨Tryz.call35⟩|refine cpe h1 ?_|exact cSd|apply qd []|refine exr ?_|refine qk ?_)
theorem zb2 (t:qc) (st:List AObj) (hl:t.length<1000000):qn E 42 [Sv t] st fun r st'=>r=decA (qav t)∧st'=st:=by
 refine zt [.s t] (qui _) Tryz.func42 rfl rfl (fun _=>rfl) rfl fun S0=>?_;have hd:=fun st=>zap t st hl;unfold qav;by_cases h0:t=[]
 ·rw [if_pos h0]
  apply qf [];repeat' (first|apply And.intro|(intro h;try exact cDd)|exact absurd h0 (by assumption)|exact cSd|apply qd []|refine exr ?_|refine qk ?_)
 ·rw [if_neg h0]
  generalize decF t=q at *
  cases q
  all_goals
   apply qf [];repeat' (first|apply And.intro|(intro h;try exact cDd)|exact⟨Tryz.call75⟩|refine cpe hd ?_|exact absurd (by assumption) h0|exact cSd|apply qd []|refine exr ?_|refine qk ?_)
def q5f:Option PatV→AV
 |none=>.tu [patA pat0,errA (.num 2)]
 |some p=>.tu [patA p,errA .no]
theorem q5g (x:Option PatV):Pure (q5f x):=by
 cases x
 ·exact kw (qi7 _) (va _)
 ·exact kw (qi7 _) (va _)
set_option maxHeartbeats 2000000 in
theorem zb5 (text:qc) (st:List AObj) (hl:text.length<1000000):qn E 18 [Sv text] st fun r st'=>r=q5f (qi8 text)∧st'=st:=by
 refine zt [.s text] (q5g _) Tryz.func18 rfl rfl (fun _=>rfl) rfl fun S0=>?_;have hc:=fun st=>qj9 text 10 st (by omega);have l1:=vt 10 text;have l2:=vj 10 text;have htp:=fun st=>qne (upto 10 text) wo st;have l3:(Lib.trimPrefix (upto 10 text) wo).length≤(upto 10 text).length:=ql3 _ _;have lz:=fun st=>qj9 (Lib.trimPrefix (upto 10 text) wo) 32 st (by omega);have l4:=vt 32 (Lib.trimPrefix (upto 10 text) wo);have l5:=vj 32 (Lib.trimPrefix (upto 10 text) wo);have ln:=fun st=>q3f (upto 32 (Lib.trimPrefix (upto 10 text) wo)) st;have sw:=fun st=>q3f (past 32 (Lib.trimPrefix (upto 10 text) wo)) st;have hb:=fun st=>zb2 (past 10 text) st (by omega);have t7:=@q0s (past 10 text);unfold qi8;generalize qav (past 10 text)=q at *
 cases q with
 |none=>
  have hp:=fun st=>qpw ⟨(qah (upto 32 (Lib.trimPrefix (upto 10 text) wo))).getD 0,(qah (past 32 (Lib.trimPrefix (upto 10 text) wo))).getD 0,[]⟩ st ⟨by simp,by simp,by simp⟩;dsimp only at hp ⊢;generalize qah (upto 32 (Lib.trimPrefix (upto 10 text) wo))=t1 at *;generalize qah (past 32 (Lib.trimPrefix (upto 10 text) wo))=t2 at *;generalize vg ⟨t1.getD 0,t2.getD 0,[]⟩=pr at *;obtain⟨e,s⟩:=pr;dsimp only at hp
  cases e
  all_goals
   apply qf []
   repeat' (first|apply And.intro|(intro h;try exact cDd)|exact⟨Tryz.call39⟩|refine cpe hc ?_|exact⟨Tryz.call40⟩|refine cpe htp ?_|exact⟨Tryz.call39⟩|refine cpe lz ?_|exact⟨Tryz.call41⟩|refine cpe ln ?_|exact⟨Tryz.call41⟩|refine cpe sw ?_|exact⟨Tryz.call42⟩|refine cpe hb ?_|exact⟨Tryz.call16⟩|refine cpe hp ?_|exact cSd|apply qd []|refine exr ?_|refine qk ?_)
 |some b=>
  have hp:=fun st=>qpw ⟨(qah (upto 32 (Lib.trimPrefix (upto 10 text) wo))).getD 0,(qah (past 32 (Lib.trimPrefix (upto 10 text) wo))).getD 0,b⟩ st (t7 rfl);dsimp only at hp ⊢;generalize qah (upto 32 (Lib.trimPrefix (upto 10 text) wo))=t1 at *;generalize qah (past 32 (Lib.trimPrefix (upto 10 text) wo))=t2 at *;generalize vg ⟨t1.getD 0,t2.getD 0,b⟩=pr at *;obtain⟨e,s⟩:=pr;dsimp only at hp;by_cases hs:s=text
  ·subst hs
   cases e
   all_goals
    first|rw [if_pos rfl]|rw [if_neg (by simp)]
    apply qf [];repeat' (first|apply And.intro|(intro h;try exact cDd)|exact⟨Tryz.call39⟩|refine cpe hc ?_|exact⟨Tryz.call40⟩|refine cpe htp ?_|exact⟨Tryz.call39⟩|refine cpe lz ?_|exact⟨Tryz.call41⟩|refine cpe ln ?_|exact⟨Tryz.call41⟩|refine cpe sw ?_|exact⟨Tryz.call42⟩|refine cpe hb ?_|exact⟨Tryz.call16⟩|refine cpe hp ?_|exact cSd|apply qd []|refine exr ?_|refine qk ?_)
    all_goals first|rfl|(simp at *;done)
  ·rw [if_neg (by simp [hs])]
   cases e
   all_goals
    apply qf [];repeat' (first|apply And.intro|(intro h;try exact cDd)|exact⟨Tryz.call39⟩|refine cpe hc ?_|exact⟨Tryz.call40⟩|refine cpe htp ?_|exact⟨Tryz.call39⟩|refine cpe lz ?_|exact⟨Tryz.call41⟩|refine cpe ln ?_|exact⟨Tryz.call41⟩|refine cpe sw ?_|exact⟨Tryz.call42⟩|refine cpe hb ?_|exact⟨Tryz.call16⟩|refine cpe hp ?_|exact absurd hs (by assumption)|exact absurd (by assumption) hs|exact absurd (by assumption) hs|exact cSd|apply qd []|refine exr ?_|refine qk ?_)
structure qjy (l:q7):Prop where
 lb:LB 300040 l
 li:LI l
 lm:LM l
theorem zfl (text:qc):qjy (ofF (itsE text)):=⟨qnq (qez text) (by omega) (by omega),qrz text,q8c _⟩
theorem qup (text:qc) (b:List qq):qjy (vl (ofF (itsE text)) b).2:=by
 unfold vl;split
 ·exact zfl text
 ·exact⟨zg4 (qez text) (by omega) b,zg5 (qrz text) b,zg6 (q8c _) (qez text) (by omega) b⟩
theorem qjy.its {l:q7} (h:qjy l):ItsB (z7 l):=ze1 h.lb h.li
theorem qjy.txt {l:q7} (h:qjy l):(qai l).length≤1000000000000:=zc2 h.lb h.li
theorem q24 (text:qc) (b:List qq) (st:List AObj) (hb:yz b):qn E 27 [vp (ofF (itsE text)),jo b] st fun r st'=>r=qh1 (vl (ofF (itsE text)) b).1 (vl (ofF (itsE text)) b).2∧st'=st:=by
 have hl:=hb.len;have g9:(b.map je).length=b.length:=by simp
 have hd:=fun st=>zir 300000 (ofF (itsE text)) b st (qez text) (by omega) hb.ed (by omega);generalize ofF (itsE text)=l at *;refine zt [.a (vp l),.a (jo b)] (qox _ _) Tryz.func27 rfl rfl (fun _=>rfl) rfl fun S0=>?_;unfold vl;unfold doA at hd;by_cases h:b=[]
 ·subst h
  rw [if_pos rfl];apply qf [];repeat' (first|apply And.intro|(intro h;try exact cDd)|exact cSd|apply qd []|refine exr ?_|refine qk ?_)
 ·have h0:0<b.length:=List.length_pos_iff.2 h
  rw [if_neg h];generalize doF l b=q at *;obtain⟨e,l2,ids⟩:=q
  cases e
  all_goals
   dsimp only at hd ⊢;apply qf [];repeat' (first|apply And.intro|(intro h;try exact cDd)|exact⟨Tryz.call51⟩|refine cpe hd ?_|exact cSd|apply qd []|refine exr ?_|refine qk ?_)
def qnz (r:ErrV×PatV):AV:=.tu [patA r.2,errA r.1]
theorem qr5 (r:ErrV×PatV):Pure (qnz r):=kw (qi7 _) (va _)
theorem q5h (text:qc) (R:List (List Fld)) (st:List AObj) (hp:kv text = .no)
  (hE:∀ st,qn E 80 [vp (ofF (itsE text)),xj R] st fun r st'=>r=qhd (wi (ofF (itsE text)) R)∧st'=st) (t7:(wi (ofF (itsE text)) R).length≤40→yz (wi (ofF (itsE text)) R)) :
  qn E 45 [Sv text,vp (ofF (itsE text)),xj R] st fun r st'=>r=qnz (qch text (ofF (itsE text)) R)∧st'=st:=by
 have hok:=qup text (wi (ofF (itsE text)) R);have htx:=fun h=>@quq text (wi (ofF (itsE text)) R) hp h;have hl:=(qjv hp).2.1;have hd:=fun h st=>q24 text (wi (ofF (itsE text)) R) st h;have hs:=fun st=>qsk text st (by omega);have ht:=fun st=>q20 (vl (ofF (itsE text)) (wi (ofF (itsE text)) R)).2 st hok.its hok.txt;unfold qch;unfold qhd at hE;clear hok;generalize ofF (itsE text)=l at *;generalize wi l R=b at *;refine zt [.s text,.a (vp l),.a (xj R)] (qr5 _) Tryz.func45 rfl rfl (fun _=>rfl) rfl fun S0=>?_;unfold qnz;by_cases h:40<b.length
 ·rw [if_pos h] at hE ⊢
  apply qf [];repeat' (first|apply And.intro|(intro h;try exact cDd)|exact⟨Tryz.call80⟩|refine cpe hE ?_|exact cSd|apply qd []|refine exr ?_|refine qk ?_)
 ·rw [if_neg h] at hE ⊢
  replace t7:=t7 (by omega);replace hd:=hd t7;replace htx:=htx t7;unfold qh1 at hd;have h2:=fun st=>qsk (qai (vl l b).2) st (by omega);generalize vl l b=q at *;obtain⟨e,l2⟩:=q;dsimp only at *;generalize qai l2=s2 at *
  cases e with
  |no=>
   rw [if_pos rfl];apply qf []
   repeat' (first|apply And.intro|(intro h;try exact cDd)|exact⟨Tryz.call80⟩|refine cpe hE ?_|exact⟨Tryz.call27⟩|refine cpe hd ?_|exact⟨Tryz.call26⟩|refine cpe hs ?_|exact⟨Tryz.call28⟩|refine cpe ht ?_|exact⟨Tryz.call26⟩|refine cpe h2 ?_|exact cSd|apply qd []|refine exr ?_|refine qk ?_)
  |num n=>
   rw [if_neg (by simp)];apply qf []
   repeat' (first|apply And.intro|(intro h;try exact cDd)|exact⟨Tryz.call80⟩|refine cpe hE ?_|exact⟨Tryz.call27⟩|refine cpe hd ?_|exact cSd|apply qd []|refine exr ?_|refine qk ?_)
  |at' a n=>
   rw [if_neg (by simp)];apply qf [];repeat' (first|apply And.intro|(intro h;try exact cDd)|exact⟨Tryz.call80⟩|refine cpe hE ?_|exact⟨Tryz.call27⟩|refine cpe hd ?_|exact cSd|apply qd []|refine exr ?_|refine qk ?_)
theorem zfx (old now:qc) (st:List AObj) (h1:old.length<1000000) (h2:now.length<1000000):qn E 21 [Sv old,Sv now] st fun r st'=>r=qnz (xi old now)∧st'=st:=by
 refine zt [.s old,.s now] (qr5 _) Tryz.func21 rfl rfl (fun _=>rfl) rfl fun S0=>?_;have ha:=fun st=>qpm old st h1;have hb:=fun st=>qpm now st h2;have hr:=fun st=>q2m (ofF (itsE now)) st (by have:=(qez now).len;omega) (fun e he=>by have:=(qrz now e he).2;omega)
 have cx:(xu (ofF (itsE now))).length<1000000:=by
  have h1:=(qez now).len;have h2:=qia (ofF (itsE now)).ents;unfold xu;rw [List.length_map];omega
 have mz:=fun hp t7 st=>q5h old (xu (ofF (itsE now))) st hp (fun st=>zar old (xu (ofF (itsE now))) st t7 cx) (q7h t7 cx);have hgn:=qzv (text:=now);unfold xi;unfold qh1 at ha hb;generalize ofF (itsE now)=m at *;generalize xu m=R at *
 cases he:kv old with
 |num n=>
  rw [he] at ha;rw [if_neg (by simp)];apply qf []
  repeat' (first|apply And.intro|(intro h;try exact cDd)|exact⟨Tryz.call25⟩|refine cpe ha ?_|exact cSd|apply qd []|refine exr ?_|refine qk ?_)
 |at' a n=>
  rw [he] at ha;rw [if_neg (by simp)];apply qf []
  repeat' (first|apply And.intro|(intro h;try exact cDd)|exact⟨Tryz.call25⟩|refine cpe ha ?_|exact cSd|apply qd []|refine exr ?_|refine qk ?_)
 |no=>
  replace mz:=mz he;rw [he] at ha;rw [if_pos rfl]
  cases he2:kv now with
  |num n=>
   rw [he2] at hb;rw [if_neg (by simp)];apply qf []
   repeat' (first|apply And.intro|(intro h;try exact cDd)|exact⟨Tryz.call25⟩|refine cpe ha ?_|exact⟨Tryz.call25⟩|refine cpe hb ?_|exact cSd|apply qd []|refine exr ?_|refine qk ?_)
  |at' a n=>
   rw [he2] at hb;rw [if_neg (by simp)];apply qf []
   repeat' (first|apply And.intro|(intro h;try exact cDd)|exact⟨Tryz.call25⟩|refine cpe ha ?_|exact⟨Tryz.call25⟩|refine cpe hb ?_|exact cSd|apply qd []|refine exr ?_|refine qk ?_)
  |no=>
   replace mz:=mz (hgn he2);rw [he2] at hb;rw [if_pos rfl];dsimp only at ha hb;generalize ofF (itsE old)=l at *;generalize qch old l R=q at *;obtain⟨e2,p2⟩:=q;unfold qnz at mz ⊢;dsimp only at mz ⊢
   cases e2
   all_goals
    apply qf [];repeat' (first|apply And.intro|(intro h;try exact cDd)|exact⟨Tryz.call25⟩|refine cpe ha ?_|exact⟨Tryz.call25⟩|refine cpe hb ?_|exact⟨Tryz.call46⟩|refine cpe hr ?_|exact⟨Tryz.call45⟩|refine cpe mz ?_|exact cSd|apply qd []|refine exr ?_|refine qk ?_)
theorem zby (text:qc) (p:PatV) (st:List AObj) (hl:text.length<1000000) (hb:yz p.b):qn E 9 [Sv text,patA p] st fun r st'=>r = .tu [Sv (qhm text p).2,errA (qhm text p).1]∧st'=st:=by
 obtain⟨f,t,b⟩:=p;refine zt [.s text,.a (.ag [Wv f,Wv t,jo b])] (kw (q8 _) (va _)) Tryz.func9 rfl rfl (fun _=>rfl) rfl fun S0=>?_;dsimp only at hb ⊢;have ha:=fun st=>qpm text st hl;have hs:=fun st=>qsk text st (by omega);have hok:=qup text b;have htx:=fun h=>@quq text b h hb;have hd:=fun st=>q24 text b st hb;have ht:=fun st=>q20 (vl (ofF (itsE text)) b).2 st hok.its hok.txt;unfold qhm;dsimp only;unfold qh1 at ha;clear hok
 cases he:kv text with
 |num n=>
  rw [he] at ha;rw [if_neg (by simp)];apply qf []
  repeat' (first|apply And.intro|(intro h;try exact cDd)|exact⟨Tryz.call25⟩|refine cpe ha ?_|exact cSd|apply qd []|refine exr ?_|refine qk ?_)
 |at' a n=>
  rw [he] at ha;rw [if_neg (by simp)];apply qf []
  repeat' (first|apply And.intro|(intro h;try exact cDd)|exact⟨Tryz.call25⟩|refine cpe ha ?_|exact cSd|apply qd []|refine exr ?_|refine qk ?_)
 |no=>
  replace htx:=htx he;rw [he] at ha;rw [if_pos rfl];dsimp only at ha;generalize ofF (itsE text)=l at *;unfold qh1 at hd;have h2:=fun st=>qsk (qai (vl l b).2) st (by omega);generalize vl l b=q at *;obtain⟨e,l2⟩:=q;dsimp only at *;generalize qai l2=s2 at *;generalize addP 0 text=x at *;generalize addP 0 s2=y at *;have w1:(x.toNat:Int)=f.toNat↔x=f:=q6a x f;have w2:(y.toNat:Int)=t.toNat↔y=t:=q6a y t;by_cases hx:x=f
  ·rw [if_pos hx]
   replace w1:=w1.2 hx
   cases e with
   |no=>
    rw [if_pos rfl];by_cases hy:y=t
    ·rw [if_pos hy]
     replace w2:=w2.2 hy;apply qf [];repeat' (first|apply And.intro|(intro h;try exact cDd)|exact⟨Tryz.call25⟩|refine cpe ha ?_|exact⟨Tryz.call26⟩|refine cpe hs ?_|exact⟨Tryz.call27⟩|refine cpe hd ?_|exact⟨Tryz.call28⟩|refine cpe ht ?_|exact⟨Tryz.call26⟩|refine cpe h2 ?_|exact absurd w1 (by assumption)|exact absurd w2 (by assumption)|exact cSd|apply qd []|refine exr ?_|refine qk ?_)
    ·rw [if_neg hy]
     replace w2:=fun h=>hy (w2.1 h);apply qf []
     repeat' (first|apply And.intro|(intro h;try exact cDd)|exact⟨Tryz.call25⟩|refine cpe ha ?_|exact⟨Tryz.call26⟩|refine cpe hs ?_|exact⟨Tryz.call27⟩|refine cpe hd ?_|exact⟨Tryz.call28⟩|refine cpe ht ?_|exact⟨Tryz.call26⟩|refine cpe h2 ?_|exact absurd w1 (by assumption)|exact absurd w2 (by assumption)|exact absurd (by assumption) w2|exact cSd|apply qd []|refine exr ?_|refine qk ?_)
   |num n=>
    rw [if_neg (by simp)];apply qf []
    repeat' (first|apply And.intro|(intro h;try exact cDd)|exact⟨Tryz.call25⟩|refine cpe ha ?_|exact⟨Tryz.call26⟩|refine cpe hs ?_|exact⟨Tryz.call27⟩|refine cpe hd ?_|exact absurd w1 (by assumption)|exact cSd|apply qd []|refine exr ?_|refine qk ?_)
   |at' a n=>
    rw [if_neg (by simp)];apply qf [];repeat' (first|apply And.intro|(intro h;try exact cDd)|exact⟨Tryz.call25⟩|refine cpe ha ?_|exact⟨Tryz.call26⟩|refine cpe hs ?_|exact⟨Tryz.call27⟩|refine cpe hd ?_|exact absurd w1 (by assumption)|exact cSd|apply qd []|refine exr ?_|refine qk ?_)
  ·rw [if_neg hx]
   replace w1:=fun h=>hx (w1.1 h);apply qf [];repeat' (first|apply And.intro|(intro h;try exact cDd)|exact⟨Tryz.call25⟩|refine cpe ha ?_|exact⟨Tryz.call26⟩|refine cpe hs ?_|exact absurd w1 (by assumption)|exact absurd (by assumption) w1|exact cSd|apply qd []|refine exr ?_|refine qk ?_)
theorem qzr (p:PatV) (st:List AObj) (hb:yz p.b):qn E 17 [patA p] st fun r st'=>r = .tu [Sv (vg p).2,Iv (vg p).1.pos,Iv (vg p).1.code]∧st'=st:=by
 obtain⟨f,t,b⟩:=p;refine zt [.a (.ag [Wv f,Wv t,jo b])] (qpx (q8 _) (q8 _) (q8 _)) Tryz.func17 rfl rfl (fun _=>rfl) rfl fun S0=>?_;dsimp only at hb ⊢;have hf:=fun st=>qvk f st;have ht:=fun st=>qvk t st;have lf:=qci f;have lt:=qci t;unfold vg qc6 wo;dsimp only;generalize jq f 8=ff at *;generalize jq t 8=tt at *
 cases b with
 |nil=>
  rw [if_pos rfl];apply qf [];repeat' (first|apply And.intro|(intro h;try exact cDd)|exact⟨Tryz.call36⟩|refine cpe hf ?_|exact⟨Tryz.call36⟩|refine cpe ht ?_|exact cSd|apply qd []|refine exr ?_|refine qk ?_)
  all_goals first|rfl|(simp [ErrV.pos,ErrV.code];done)
 |cons x r=>
  rw [if_neg (by simp)];have s8:=qnn hb;have hk:=fun st=>qzo (x::r) st hb.ed (by have:=hb.len;omega);have h0:=fun h st=>qwc (x::r) st hb.ed h;have tq:=qf0 (x::r);have hlb:0<((x::r).map je).length:=by simp
  have rz:=hb.len;have g9:((x::r).map je).length=(x::r).length:=by simp
  by_cases h:eErr (x::r) = .no
  ·rw [if_pos h]
   replace s8:=s8 h;replace h0:=h0 h;rw [h] at hk;generalize encF (x::r)=body at *;generalize x::r=b at *;apply qf [];repeat' (first|apply And.intro|(intro h;try exact cDd)|exact⟨Tryz.call36⟩|refine cpe hf ?_|exact⟨Tryz.call36⟩|refine cpe ht ?_|exact⟨Tryz.call37⟩|refine cpe hk ?_|exact⟨Tryz.call38⟩|refine cpe h0 ?_|exact cSd|apply qd []|refine exr ?_|refine qk ?_)
   all_goals first|rfl|(simp [ErrV.pos,ErrV.code];done)
  ·rw [if_neg h]
   replace tq:¬ (eErr (x::r)).code=0:=fun e=>h (tq.1 e);generalize (eErr (x::r)).code=c1 at *;generalize (eErr (x::r)).pos=c2 at *;generalize x::r=b at *;apply qf [];repeat' (first|apply And.intro|(intro h;try exact cDd)|exact⟨Tryz.call36⟩|refine cpe hf ?_|exact⟨Tryz.call36⟩|refine cpe ht ?_|exact⟨Tryz.call37⟩|refine cpe hk ?_|exact cSd|apply qd []|refine exr ?_|refine qk ?_)
theorem q1o (p:PatV) (st:List AObj) (hl:p.b.length<1000000) (hf:∀ x∈p.b,x.fields.length<1000000):qn E 8 [patA p] st fun r st'=>r=patA p∧st'=st:=by
 refine zt [.a (patA p)] (qi7 _) Tryz.func8 rfl rfl (fun _=>rfl) rfl fun S0=>?_;have ho:=fun st=>zh1 p.b st hl hf;apply qf [];repeat' (first|apply And.intro|(intro h;try exact cDd)|exact⟨Tryz.call24⟩|refine cpe ho ?_|exact cSd|apply qd []|refine exr ?_|refine qk ?_)
theorem zco (p:PatV) (st:List AObj) (hl:p.b.length<1000000) (hf:∀ x∈p.b,x.fields.length<1000000):qn E 13 [patA p,patA p] st fun r st'=>r=Bv true∧st'=st:=by
 refine zt [.a (patA p),.a (patA p)] (q8 _) Tryz.func13 rfl rfl (fun _=>rfl) rfl fun S0=>?_;have ho:=fun st=>q03 p.b st hl hf;apply qf [];repeat' (first|apply And.intro|(intro h;try exact cDd)|exact⟨Tryz.call32⟩|refine cpe ho ?_|exact cSd|apply qd []|refine exr ?_|refine qk ?_)
 all_goals first|rfl|(exfalso;exact (by assumption:¬ _) rfl)|(simp at *;done)
def yp:qc:=[65,58,32,49,10]
theorem qwz:xi yp []=(.no,⟨addP 0 yp,addP 0 [],[⟨2,1,[]⟩]⟩):=by
 have p1:kv yp = .no:=by decide +kernel
 have p2:kv [] = .no:=by decide +kernel
 have s1:stzF (ofF (itsE yp)).ents=[(1,[([65],[49])])]:=by decide +kernel
 have r1:xu (ofF (itsE []))=[]:=by decide +kernel
 have w1:wayF [([([65],[49])]:List Fld)] []=[3]:=by simp [wayF,wayB,xc,qfy]
 have d1:wi (ofF (itsE yp)) []=[⟨2,1,[]⟩]:=by
  unfold wi;rw [s1,show ([((1:Int),[(([65],[49]):Fld)])].map Prod.snd)=[[(([65],[49]):Fld)]] from rfl,w1];rfl
 have d2:(vl (ofF (itsE yp)) [⟨2,1,[]⟩]).1 = .no:=by decide +kernel
 have d3:qai (vl (ofF (itsE yp)) [⟨2,1,[]⟩]).2=[]:=by decide +kernel
 unfold xi;rw [if_pos p1,if_pos p2,r1];unfold qch;rw [d1,if_neg (by simp),if_pos d2,d3]
theorem q6f (st:List AObj):qn E 6 [] st fun r st'=>r=Bv true∧st'=st:=by
 have hm:=fun st=>zfx yp [] st (by decide) (by decide);have q0:=qwz;have h1:(xi yp []).1 = .no:=by rw [q0]
 have h2:(xi yp []).2.b.map (fun e=>e.kind)=[2]:=by rw [q0];rfl
 have h3:(xi yp []).2.to'=addP 0 []:=by rw [q0]
 have h4:¬ (xi yp []).2.fr=(xi yp []).2.to':=by rw [q0];decide +kernel
 have h5:(qhm yp (xi yp []).2).2=[]:=by rw [(qu8 h1).2,q0];decide +kernel
 have h6:=(qu8 h1).1;have t7:=q1i yp [];have ha:=fun st=>zby yp (xi yp []).2 st (by decide) t7;have hs:=fun st=>zce [] st (by decide);rw [h5,h6] at ha;unfold qnz at hm;rw [h1] at hm;clear h1 h5 h6 t7;generalize (xi yp []).2=p at *;obtain⟨f,t,b⟩:=p;dsimp only at *
 obtain⟨x,rfl,hx⟩:∃ x,b=[x]∧x.kind=2:=by
  cases b with
  |nil=>simp at h2
  |cons x r=>
   simp at h2;exact⟨x,by rw [h2.2],h2.1⟩
 subst h3;have w1:¬ ((f.toNat:Int)=(addP 0 []).toNat):=fun h=>h4 ((q6a f (addP 0 [])).1 h);generalize addP 0 []=t at *;obtain⟨k,i,fs⟩:=x;dsimp only at hx;subst hx;unfold yp at hm ha;refine zt [] (q8 _) Tryz.func6 rfl rfl (fun _=>rfl) rfl fun S0=>?_;apply qf [];repeat' (first|apply And.intro|(intro h;try exact cDd)|exact⟨Tryz.call21⟩|refine cpe hm ?_|exact⟨Tryz.call9⟩|refine cpe ha ?_|exact⟨Tryz.call22⟩|refine cpe hs ?_|exact absurd rfl (by assumption)|exact absurd (by assumption) w1|exact cSd|apply qd []|refine exr ?_|refine qk ?_)
 all_goals first|rfl|(simp;done)|(simp [w1];done)
theorem q8h {p:PatV}:okE (vg p).1:=by
 unfold vg;split
 ·trivial
 ·split
  ·trivial
  ·exact zhx fun h h'=>h ((qf0 p.b).1 h')
def ArgP (p:PatV):Prop:=ArgE p.b
theorem q1c {b:List qq} (hA:ArgE b) (h:qcn b 0=false):yz b:=by
 have hl:=qyi h;exact⟨ze8 hA hl,by have:=hl.1;omega,fun x hx=>(hl.2 x hx).len⟩
set_option maxHeartbeats 4000000 in
theorem qwa (p:PatV) (st:List AObj) (hA:ArgP p):qn E 4 [patA p] st fun r st'=>r=Bv true∧st'=st:=by
 refine zt [.a (patA p)] (q8 _) Tryz.func4 rfl rfl (fun _=>rfl) rfl fun S0=>?_;have hal:=q6f;have hh:=fun st=>za9 p.b st hA.1 fun x hx=>(hA.2 x hx).1
 cases hv:qcn p.b 0 with
 |true=>
  rw [hv] at hh;obtain⟨f,t,b⟩:=p;apply qf []
  repeat' (first|apply And.intro|(intro h;try exact cDd)|exact⟨Tryz.call6⟩|refine cpe hal ?_|exact⟨Tryz.call7⟩|refine cpe hh ?_|exact cSd|apply qd []|refine exr ?_|refine qk ?_)
 |false=>
  rw [hv] at hh;have t7:=q1c hA hv;have g8:=t7.fl;have hlb:=t7.len;have hpr:=fun st=>q1o p st (by omega) g8;have hsa:=fun st=>zco p st (by omega) g8;have hp:=fun st=>qpw p st t7;have hr:=fun st=>qzr p st t7;have hok:=@q8h p;have tz:=fun st=>zhu (vg p).1 st hok;have hat:=fun st=>zin (vg p).1 st;have s0:=q8z t7;have gd:=fun h st=>zb5 (vg p).2 st h
  have hbk:(vg p).1 = .no→(vg p).2.length≤50000→qi8 (vg p).2=some p:=fun h1 h2=>by
   rw [q5k];exact q1n (by rw [← h1]) t7.ed h2
  have tq:(vg p).1.code=0→(vg p).1 = .no:=fun h=>by
   revert hok h
   cases (vg p).1 <;> simp [okE,ErrV.code]
  clear hA hv g8;generalize vg p=q at *;obtain⟨e,s⟩:=q;obtain⟨f,t,b⟩:=p;dsimp only at *
  cases e with
  |no=>
   by_cases h5:50000<s.length
   ·clear gd
    have gd:True:=trivial;apply qf [];repeat' (first|apply And.intro|(intro h;try exact cDd)|exact⟨Tryz.call6⟩|refine cpe hal ?_|exact⟨Tryz.call7⟩|refine cpe hh ?_|exact⟨Tryz.call8⟩|refine cpe hpr ?_|exact⟨Tryz.call16⟩|refine cpe hp ?_|exact⟨Tryz.call17⟩|refine cpe hr ?_|exact⟨Tryz.call11⟩|refine cpe tz ?_|exact⟨Tryz.call12⟩|refine cpe hat ?_|exact⟨Tryz.call13⟩|refine cpe hsa ?_|exact⟨Tryz.call18⟩|refine cpe gd ?_|exact cSd|apply qd []|refine exr ?_|refine qk ?_)
   ·replace gd:=gd (by omega)
    rw [hbk rfl (by omega)] at gd;unfold q5f at gd;apply qf []
    repeat' (first|apply And.intro|(intro h;try exact cDd)|exact⟨Tryz.call6⟩|refine cpe hal ?_|exact⟨Tryz.call7⟩|refine cpe hh ?_|exact⟨Tryz.call8⟩|refine cpe hpr ?_|exact⟨Tryz.call16⟩|refine cpe hp ?_|exact⟨Tryz.call17⟩|refine cpe hr ?_|exact⟨Tryz.call11⟩|refine cpe tz ?_|exact⟨Tryz.call12⟩|refine cpe hat ?_|exact⟨Tryz.call13⟩|refine cpe hsa ?_|exact⟨Tryz.call18⟩|refine cpe gd ?_|exact cSd|apply qd []|refine exr ?_|refine qk ?_)
  |num n=>
   clear gd;have gd:True:=trivial;have hn:n≠0:=hok;dsimp only [ErrV.code,ErrV.pos] at tz hat hr;apply qf []
   repeat' (first|apply And.intro|(intro h;try exact cDd)|exact⟨Tryz.call6⟩|refine cpe hal ?_|exact⟨Tryz.call7⟩|refine cpe hh ?_|exact⟨Tryz.call8⟩|refine cpe hpr ?_|exact⟨Tryz.call16⟩|refine cpe hp ?_|exact⟨Tryz.call17⟩|refine cpe hr ?_|exact⟨Tryz.call11⟩|refine cpe tz ?_|exact⟨Tryz.call12⟩|refine cpe hat ?_|exact⟨Tryz.call13⟩|refine cpe hsa ?_|exact⟨Tryz.call18⟩|refine cpe gd ?_|exact cSd|apply qd []|refine exr ?_|refine qk ?_)
  |at' a n=>
   clear gd;have gd:True:=trivial;have hn:n≠0:=hok;dsimp only [ErrV.code,ErrV.pos] at tz hat hr;apply qf [];repeat' (first|apply And.intro|(intro h;try exact cDd)|exact⟨Tryz.call6⟩|refine cpe hal ?_|exact⟨Tryz.call7⟩|refine cpe hh ?_|exact⟨Tryz.call8⟩|refine cpe hpr ?_|exact⟨Tryz.call16⟩|refine cpe hp ?_|exact⟨Tryz.call17⟩|refine cpe hr ?_|exact⟨Tryz.call11⟩|refine cpe tz ?_|exact⟨Tryz.call12⟩|refine cpe hat ?_|exact⟨Tryz.call13⟩|refine cpe hsa ?_|exact⟨Tryz.call18⟩|refine cpe gd ?_|exact cSd|apply qd []|refine exr ?_|refine qk ?_)
end Go.Proofs.YtapblfabkbdgcaaGreatDoor
namespace Go.Proofs.YtapblfabkbdgcaaGreatDoor
open Go Go.Av Go.RowKit Go.WideShapes Go.ChangeShapes Go.Deep Go.Proofs Go.Pl
theorem q2w {n:Int} (h:(Lit.int .u32 n).wf=true):∃ x:BitVec 32,(.v (.int .u32 n):AV)=Wv x:=by
 simp only [Lit.wf,Bool.and_eq_true,decide_eq_true_eq] at h;have h1:IntKind.u32.min=0:=by decide
 have h2:IntKind.u32.max=4294967295:=by decide
 rw [h1,h2] at h;refine⟨BitVec.ofNat 32 n.toNat,?_⟩
 have:((BitVec.ofNat 32 n.toNat).toNat:Int)=n:=by
  rw [BitVec.toNat_ofNat,Nat.mod_eq_of_lt (by omega)];omega
 show AV.v (.int .u32 n)=AV.v (.int .u32 _)
 rw [this]
theorem zft:Opn Tryz.prog 25 fun a=>∃ p:PatV,a=patA p∧ArgP p:=by
 intro H enc W fuel cs x h
 obtain⟨a,⟨vs,rfl,hl,hv⟩,hr⟩:=qk6 (As:=[(some (.int .u32),IsI .u32),(some (.int .u32),IsI .u32),(some (.slice 55),fun a=>∃ xs:List qq,a=jo xs∧ArgE xs)]) (by kernel_rfl) (by kernel_rfl) (by kernel_rfl) (by kernel_rfl)
  (List.forall_mem_cons.2 ⟨⟨fun _ h=>qwo h,qwn _⟩,List.forall_mem_cons.2 ⟨⟨fun _ h=>qwo h,qwn _⟩,List.forall_mem_cons.2 ⟨⟨fun _ h=>q8l h,q8j⟩,nofun⟩⟩⟩) H enc W fuel cs x h
 match vs,hl with
 | [v0,v1,v2],_=>
  obtain⟨n0,e0,w0⟩:=hv 0 _ _ rfl rfl;obtain⟨n1,e1,w1⟩:=hv 1 _ _ rfl rfl;obtain⟨xs,rfl,hA⟩:=hv 2 _ _ rfl rfl;obtain⟨x0,q0⟩:=q2w w0;obtain⟨x1,q1⟩:=q2w w1;refine⟨_,⟨⟨x0,x1,xs⟩,?_,hA⟩,hr⟩;rw [e0,e1,q0,q1]
theorem zh4 (a:AV) (h:∃ p:PatV,a=patA p∧ArgP p):∃ xs,a = .ag xs:=by
 obtain⟨p,rfl,_⟩:=h;exact⟨_,rfl⟩
theorem qv9 (p:PatV) (hp:ArgP p) (st:List AObj):qn E 4 [patA p] st fun r st'=>r=Bv true∧st'=st:=qwa p st hp
end Go.Proofs.YtapblfabkbdgcaaGreatDoor
