/- Contracts and plain facts that the closing text leans on (part 3). No condition of their own beyond those that each states. -/
import Derived.Test.YtmoklbacdkmkaaaGreatDoorK2
import Derived.Lib.SplitLaws
import Derived.Shelf.Strings.SplitShaped
import Derived.Deep.Slices
import Derived.Deep.Fields
import Derived.WideKeyArgs
import Derived.Lib.ItoaLen
set_option maxRecDepth 100000
set_option linter.unusedVariables false
set_option linter.unusedSimpArgs false
namespace Go.Proofs.YtmoklbacdkmkaaaGreatDoor
open Go Go.Av Go.RowKit Go.Proofs Go.Pl
def sumF (l:List UInt8):List UInt8:=x7 (addP 0 l) 8
theorem qlg (l:List UInt8):(sumF l).length=8:=by simp [sumF,x7]
theorem is_c (f l:List UInt8) (st:List AObj) (hl:l.length<4294967281):qp E 219 [Sv f,.sl 1 [Sv l] none] st fun r st'=>r=Bv (decide (f=sumF l))∧st'=st:=by
 refine qx (qs _) (qq Tryz.func219 rfl (Nat.le_of_ble_eq_true rfl) ?_)
 repeat' (first|apply qn|apply qf|apply qh|apply qj|apply qg|(apply jj;(iterate 3 exact rfl))|apply qt|(apply qk;exact Tryz.call143;exact zbg l _ hl)|(apply qk;exact Tryz.call142;exact qwr _ _))
 exact qo rfl (q5 rfl) ⟨rfl,_,rfl⟩
def xc (rest body sums:List UInt8) (size:Int):Int×List UInt8×Int:=
 if rest.length<(yu body.length).length∧rest <+: yu body.length then (2,[],0)
 else if yu body.length <+: rest∧sums=sumF body then (1,body,size) else (3,[],0)
theorem zch (rest body sums:List UInt8) (size:Int) (st:List AObj) (hb:body.length<4294967281):qp E 173 [Sv rest,Sv body,Sv sums,Iv size] st fun r st'=>r = .tu [Iv (xc rest body sums size).1,Sv (xc rest body sums size).2.1,Iv (xc rest body sums size).2.2]∧st'=st:=by
 refine qx (qb0 _ _ _) (qq Tryz.func173 rfl (Nat.le_of_ble_eq_true rfl) ?_)
 repeat' (first|apply qn|apply qw|apply qf|apply qh|apply qj|apply qg|(apply qr;(iterate 3 exact rfl))|(apply qy;(iterate 4 exact rfl))|(apply ya;exact cAo)|(apply xw;exact cAo)|(apply qab;exact cRa)|(apply xi;exact cRa)|(apply jn <;> intro h)|(apply qg1 <;> intro h)|(apply ql;exact rfl;apply wx;exact cAo)|(apply ql;exact rfl;apply wn;exact cAo)|(apply ql;exact rfl;apply pk_t;exact cRa)|(apply ql;exact rfl;apply pk_f;exact cRa)|(apply qd;exact rfl;apply cd_f;exact cRa)|(apply qd;exact rfl;apply cd_d <;> intro h)|(apply qd;exact rfl;apply cd_s <;> intro h)|(apply zn;(iterate 3 exact rfl))|(apply kw;(iterate 9 exact rfl))|apply qv|apply qt|(apply qk;exact Tryz.call144;exact q2i body.length _ (by omega))|(apply qk;exact Tryz.call164;exact qew _ _ _)|(apply qk;exact Tryz.call219;exact is_c sums body _ hb))
 all_goals refine qo rfl (x5 rfl) ⟨qui (?_:_=_),_,rfl⟩
 all_goals show _=xc rest body sums size
 all_goals
  have c1:(↑rest.length:Int) < ↑(yu body.length).length↔rest.length<(yu body.length).length:=by omega
  simp only [c1,qh0,decide_eq_true_eq,decide_eq_false_iff_not] at *
  simp_all [xc] <;> (intros;omega)
theorem zca (l:List UInt8) (st:List AObj) (hl:l.length<4294967281):qp E 101 [Sv l] st fun r st'=>r=Bv (decide (l.head? = some 37∧qz l=5))∧st'=st:=by
 refine qx (qs _) (qq Tryz.func101 rfl (Nat.le_of_ble_eq_true rfl) ?_)
 repeat' (first|apply qn|apply qf|apply qh|apply qj|apply qg|(apply qr;(iterate 3 exact rfl))|(apply qy;(iterate 4 exact rfl))|(apply ya;exact cAo)|(apply xw;exact cAo)|(apply jn <;> intro h)|(apply ql;exact rfl;apply wx;exact cAo)|(apply ql;exact rfl;apply wn;exact cAo)|apply qt|(apply qk;exact Tryz.call164;exact qgj _ _ _)|(apply qk;exact Tryz.call165;exact qjl _ _ hl))
 all_goals refine qo rfl (q5 rfl) ⟨congrArg Bv (?_:_=_),_,rfl⟩
 all_goals simp_all
def zb (l:List UInt8):Int×List UInt8×Int:=
 if 10∈l then
  if (jd (upto 10 l)).2.2=true then
   if (past 10 l).length<(jd (upto 10 l)).1 then (x3 (past 10 l) ((jd (upto 10 l)).1 - (past 10 l).length),[],0)
   else if yq ((past 10 l).take (jd (upto 10 l)).1) then xc ((past 10 l).drop (jd (upto 10 l)).1) ((past 10 l).take (jd (upto 10 l)).1) (jd (upto 10 l)).2.1 (qdh (jd (upto 10 l)).1)
   else (3,[],0)
  else (3,[],0)
 else if xq l=true then (2,[],0) else (3,[],0)
theorem zak (l:List UInt8) (st:List AObj) (hl:l.length<4294967281):qp E 104 [Sv l] st fun r st'=>r = .tu [Iv (zb l).1,Sv (zb l).2.1,Iv (zb l).2.2]∧st'=st:=by
 refine qx (qb0 _ _ _) (qq Tryz.func104 rfl (Nat.le_of_ble_eq_true rfl) ?_)
 have hb2:=ko 10 l
 have hb3:=km 10 l
 have hn:(jd (upto 10 l)).1≤50000:=qam _
 repeat' (first|apply qn|apply qw|apply qf|apply qh|apply qj|apply qg|(apply zf;exact rfl;exact rfl)|(apply qr;(iterate 3 exact rfl))|(apply je;exact rfl)|(apply qd;exact rfl;apply cd_n <;> intro h)|(apply qd;exact rfl;apply cd_d <;> intro h)|(apply qd;exact rfl;apply cd_s <;> intro h)|(apply zn;(iterate 3 exact rfl))|(apply xh;exact rfl;exact rfl;exact q8 (by omega) (by omega))|(apply qbm;(iterate 3 exact rfl);exact cAs)|(apply qmc;exact rfl;kernel_rfl)|apply qja|apply qgw|apply qj6|(apply quu;(iterate 3 exact rfl);exact cAs)|(apply qut;(iterate 3 exact rfl);exact cAs)|(apply qsf;exact rfl;exact rfl)|apply qv|apply qt|(apply qk;exact Tryz.call96;exact qje l 10 _ hl)|(apply qk;exact Tryz.call170;exact q96 _ _ hl)|(apply qk;exact Tryz.call171;exact zdf (upto 10 l) _ (by omega))|(apply qk;exact Tryz.call172;exact zdk _ _ _ (by omega))|(apply qk;exact Tryz.call140;exact q9k ((past 10 l).take (jd (upto 10 l)).1) _ (by simp;omega))|(refine q4f (vals:=[.int .i64 (jd (upto 10 l)).1]) E_ok Tryz.call174 rfl (qjz _) (fun _=>.v _) (zc5 _ _) ?_)|(refine q4f (vals:=[.string ⟨((past 10 l).drop (jd (upto 10 l)).1).toArray⟩,.string ⟨((past 10 l).take (jd (upto 10 l)).1).toArray⟩,.string ⟨(jd (upto 10 l)).2.1.toArray⟩,.int .i64 (qdh (jd (upto 10 l)).1)]) E_ok Tryz.call173 rfl zee (fun _=>qvl (.v _) (.v _) (.v _)) (zch _ _ _ _ _ (by simp;omega)) ?_))
 all_goals refine qo rfl (x5 rfl) ⟨qui (?_:_=zb l),_,rfl⟩
 all_goals
  have c1:(↑(past 10 l).length:Int) < ↑(jd (upto 10 l)).1↔(past 10 l).length<(jd (upto 10 l)).1:=by omega
  simp only [c1,decide_eq_true_eq,decide_eq_false_iff_not] at *
  clear c1 hb2 hb3 hn hl
 ·unfold zb;rw [if_neg (by assumption),if_pos (by assumption)]
 ·unfold zb;rw [if_neg (by assumption),if_neg (by simp_all)]
 ·unfold zb;rw [if_pos (by assumption),if_neg (by simp_all)]
 ·unfold zb;rw [if_pos (by assumption),if_pos (by assumption),if_pos (by assumption)]
 ·unfold zb;rw [if_pos (by assumption),if_pos (by assumption),if_neg (by assumption),if_neg (by assumption)]
 ·unfold zb;rw [if_pos (by assumption),if_pos (by assumption),if_neg (by assumption),if_pos (by assumption)]
def recF (l:List UInt8):List UInt8:=qhg l.length (sumF l)++l++yu l.length
def q4t:AV:=.ifc 76 (.v (.int .i64 2))
def qfy (l:List UInt8):AV:=if yq l then .tu [Sv (recF l),.v .nilIface] else .tu [Sv [],q4t]
theorem q1r (l:List UInt8):Pure (qfy l):=by
 unfold qfy
 split
 ·exact qky _ _
 ·exact qdi (by simp;exact⟨qs _,qc7 (qs _)⟩)
theorem zdu (l:List UInt8) (st:List AObj) (hl:l.length<4294967281):qp E 76 [Sv l] st fun r st'=>r=qfy l∧st'=st:=by
 refine qx (q1r l) (qq Tryz.func76 rfl (Nat.le_of_ble_eq_true rfl) ?_)
 have h1:=qdx l.length (by omega)
 have h2:=qdv l.length (sumF l)
 have h3:=qba l.length
 have h4:=qlg l
 repeat' (first|apply qn|apply qf|apply qh|apply qj|apply qg|(apply je;exact rfl)|(apply qd;exact rfl;apply cd_n <;> intro h)|(apply zn;(iterate 3 exact rfl))|(apply jc;exact rfl;exact rfl;exact cOs)|(apply kg;exact rfl;exact rfl)|(apply kw;(iterate 9 exact rfl))|apply qv|apply qt|(apply qk;exact Tryz.call140;exact q9k _ _ hl)|(apply qk;exact Tryz.call143;exact zbg l _ hl)|(apply qk;exact Tryz.call142;exact qwr _ _)|(apply qk;exact Tryz.call141;exact q9o l.length (sumF l) _ (by omega) (by omega))|(apply qk;exact Tryz.call144;exact q2i l.length _ (by omega)))
 ·have e:AV.tu [Sv [],q4t]=qfy l:=by unfold qfy;rw [if_neg (of_decide_eq_false (by assumption))]
  exact qo rfl (ki rfl) ⟨e,_,rfl⟩
 ·have e:AV.tu [Sv (recF l),.v .nilIface]=qfy l:=by unfold qfy;rw [if_pos (of_decide_eq_true (by assumption))]
  exact qo rfl (ki rfl) ⟨e,_,rfl⟩
theorem qiz:∀ (n u:Nat),u<n→u<18446744073709551616→∀ st,qp E 204 [.v (.int .u64 (u:Int))] st fun r st'=>r=Sv (Lib.decDigits u)∧st'=st
 | 0,_,h,_,_=>absurd h (Nat.not_lt_zero _)
 |n+1,u,hu,h64,st=>by
  refine qx (qs _) (qq Tryz.func204 rfl (Nat.le_of_ble_eq_true rfl) ?_)
  have hl1:=qfc (u:=u / 10) (by omega)
  have hl2:=qfc (u:=u % 10) (by omega)
  by_cases h10:u<10
  ·skip
   repeat' (first|apply qn|apply qf|apply qh|apply qj|apply qg|(apply qr;(iterate 3 exact rfl))|(apply qd;exact rfl;apply ku;exact cAo)|(apply qhq;(iterate 4 exact rfl);exact cAs;exact cAs)|apply qt|(apply qv2 (n:=1);exact rfl;exact rfl;exact ql3 (by omega)))
   exact qo rfl (q5 rfl) ⟨congrArg Sv (q3a h10),_,rfl⟩
  ·have ih1:=qiz n (u / 10) (by omega) (by omega)
   have ih2:=qiz n (u % 10) (by omega) (by omega)
   repeat' (first|apply qn|apply qf|apply qh|apply qj|apply qg|(apply qr;(iterate 3 exact rfl))|(apply qd;exact rfl;apply vc;exact cAo)|(apply jc;exact rfl;exact rfl;exact cOs)|apply qv|apply qt|(apply qnv (n:=10);exact rfl;exact rfl;omega;exact ql3 (by omega))|(apply qv3 (n:=10);exact rfl;exact rfl;omega)|(apply qk;exact Tryz.call204;exact ih1 _)|(apply qk;exact Tryz.call204;exact ih2 _))
   exact qo rfl (q5 rfl) ⟨congrArg Sv (x6 h10).symm,_,rfl⟩
theorem q12 (k:Nat) (st:List AObj) (hk:k≤9223372036854775807):qp E 157 [Iv k] st fun r st'=>r=Sv (Lib.itoa k)∧st'=st:=by
 refine qx (qs _) (qq Tryz.func157 rfl (Nat.le_of_ble_eq_true rfl) ?_)
 have hneg:¬ (k:Int)<0:=by omega
 repeat' (first|apply qn|apply qf|apply qh|apply qj|apply qg|(apply qr;(iterate 3 exact rfl))|(apply qd;exact rfl;apply vc;exact cAo)|apply qv|apply qt|(apply qd5;(iterate 3 exact rfl);exact ql3 (by omega))|(apply qk;exact Tryz.call204;exact qiz (k+1) k (by omega) (by omega) _))
 exact qo rfl (q5 rfl) ⟨congrArg Sv (by unfold Lib.itoa;rw [if_neg hneg];simp),_,rfl⟩
theorem qgm (l m:List UInt8) (st:List AObj) (hl:l.length<4294967281):qp E 113 [Sv l,Sv m] st fun r st'=>r=Bv (decide (m <+: l))∧st'=st:=by
 refine qx (qs _) (qq Tryz.func113 rfl (Nat.le_of_ble_eq_true rfl) ?_)
 repeat' (first|apply qn|apply qf|apply qh|apply qj|apply qg|(apply qr;(iterate 3 exact rfl))|(apply jj;(iterate 3 exact rfl))|(apply qy;(iterate 4 exact rfl))|(apply ya;exact cAo)|(apply xw;exact cAo)|(apply jn <;> intro h)|(apply ql;exact rfl;apply wx;exact cAo)|(apply ql;exact rfl;apply wn;exact cAo)|(apply zn;(iterate 3 exact rfl))|(apply qbm;(iterate 3 exact rfl);exact cAs)|apply qt)
 all_goals refine qo rfl (q5 rfl) ⟨congrArg Bv (?_:_=_),_,rfl⟩
 ·have e:l.take m.length=m↔m <+: l:=by rw [List.prefix_iff_eq_take];exact eq_comm
  simp [e]
 ·have:¬ m <+: l:=fun h=>by have:=h.length_le;omega
  simp [this]
theorem qly (l m:List UInt8) (st:List AObj) (hl:m.length<4294967281):qp E 112 [Sv l,Sv m] st fun r st'=>r=Bv (decide (l <+: m))∧st'=st:=by
 refine qx (qs _) (qq Tryz.func112 rfl (Nat.le_of_ble_eq_true rfl) ?_)
 repeat' (first|apply qn|apply qf|apply qh|apply qj|apply qg|apply qt|(apply qk;exact Tryz.call113;exact qgm _ _ _ hl))
 exact qo rfl (q5 rfl) ⟨rfl,_,rfl⟩
theorem qh6 {p:UInt8→Bool}:∀ {l:List UInt8} {k:Nat},k≤l.length→(∀ c∈l.take k,p c=true)→(k<l.length→p (l.getD k 0)=false)→(l.takeWhile p).length=k
 | [],k,hk,_,_=>by simp at hk;simp [hk]
 |b::l,0,_,_,h=>by
  have:=h (by simp)
  simp at this
  simp [this]
 |b::l,k+1,hk,h1,h2=>by
  have hb:p b=true:=h1 b (by simp)
  rw [List.takeWhile_cons_of_pos hb,List.length_cons,qh6 (k:=k) (by simpa using hk) (fun c hc=>h1 c (by simp [hc])) (fun h=>by have:=h2 (by simpa using h);simpa using this)]
def yj (c:UInt8):Bool:=decide (48≤c.toNat∧c.toNat≤57)
theorem q11 (l:List UInt8) (st:List AObj) (hl:l.length<4294967281):qp E 114 [Sv l] st fun r st'=>r=Iv (l.takeWhile yj).length∧st'=st:=by
 refine qx (qs _) (qq Tryz.func114 rfl (Nat.le_of_ble_eq_true rfl) ?_)
 repeat' (first|apply qn|apply qw|apply qf|apply qh|apply qg)
 refine ju (fun (k:Nat) s=>k≤l.length∧(∀ c∈l.take k,yj c=true)∧StA [(0,Sv l),(3,Iv k)] (st++[]) [] s) (fun k=>l.length - k) 0 ⟨by omega,by simp,jb ⟨rfl,rfl,trivial⟩⟩ ?_
 rintro k _ ⟨hk,h1,t,rfl⟩
 repeat' (first|apply qn|apply qw|apply qf|apply qh|apply qj|apply qg|(apply qr;(iterate 3 exact rfl))|(apply qy;(iterate 4 exact rfl))|(apply ya;exact cAo)|(apply xw;exact cAo)|(apply xi;exact cRa)|(apply jn <;> intro h)|(apply ql;exact rfl;apply wx;exact cAo)|(apply ql;exact rfl;apply wn;exact cAo)|(apply ql;exact rfl;apply pk_f;exact cRa)|(apply qd;exact rfl;apply cd_f;exact cRa)|(apply qd;exact rfl;apply cd_d <;> intro h)|(apply zn;(iterate 3 exact rfl))|(apply zi;exact rfl;exact rfl;exact q8 (by omega) (by omega))|(apply v4;(iterate 3 exact rfl);exact cAs)|apply qv|apply z4|apply qt)
 all_goals first
  |exact⟨k+1,⟨by omega,(ql7 (by omega)).2 ⟨h1,by simp only [yj,decide_eq_true_eq];omega⟩,jb ⟨rfl,rfl,trivial⟩⟩,by omega⟩
  |exact qo rfl (q5 rfl) ⟨congrArg Iv (congrArg Nat.cast (qh6 hk h1 (fun hlt=>by simp only [yj,decide_eq_false_iff_not];omega)).symm),_,rfl⟩
def qax (c:UInt8):Bool:=decide (48≤c.toNat∧c.toNat≤57∨97≤c.toNat∧c.toNat≤102)
theorem qvs {p:UInt8→Bool} {l:List UInt8} {k n:Nat} (hk:k≤l.length) (hn:k≤n) (h1:∀ c∈l.take k,p c=true) (h2:k<l.length→k<n→p (l.getD k 0)=false):((l.take n).takeWhile p).length=k:=by
 have hlen:(l.take n).length=min n l.length:=by simp
 refine qh6 (by omega) (fun c hc=>h1 c ?_) (fun h=>?_)
 ·rwa [List.take_take,Nat.min_eq_left hn] at hc
 ·have h3:k<l.length:=by omega
  have h4:k<n:=by omega
  have e:(l.take n).getD k 0=l.getD k 0:=by simp [List.getD,List.getElem?_take,h4]
  rw [e]
  exact h2 h3 h4
theorem zdw (l:List UInt8) (st:List AObj) (hl:l.length<4294967281):qp E 115 [Sv l] st fun r st'=>r=Iv ((l.take 8).takeWhile qax).length∧st'=st:=by
 refine qx (qs _) (qq Tryz.func115 rfl (Nat.le_of_ble_eq_true rfl) ?_)
 repeat' (first|apply qn|apply qw|apply qf|apply qh|apply qg)
 refine ju (fun (k:Nat) s=>k≤l.length∧k≤8∧(∀ c∈l.take k,qax c=true)∧StA [(0,Sv l),(3,Iv k)] (st++[]) [] s) (fun k=>l.length - k) 0 ⟨by omega,by omega,by simp,jb ⟨rfl,rfl,trivial⟩⟩ ?_
 rintro k _ ⟨hk,hk8,h1,t,rfl⟩
 repeat' (first|apply qn|apply qw|apply qf|apply qh|apply qj|apply qg|(apply qr;(iterate 3 exact rfl))|(apply qy;(iterate 4 exact rfl))|(apply ya;exact cAo)|(apply vq;exact cAo)|(apply vv;exact cAo)|(apply xw;exact cAo)|(apply qa7;(iterate 4 exact rfl))|(apply qfe;exact cRa)|(apply xi;exact cRa)|(apply jn <;> intro h)|(apply ql;exact rfl;apply wx;exact cAo)|(apply ql;exact rfl;apply wn;exact cAo)|(apply ql;exact rfl;apply pk_f;exact cRa)|(apply qd;exact rfl;apply cd_t;exact cRa)|(apply qd;exact rfl;apply cd_f;exact cRa)|(apply qd;exact rfl;apply cd_d <;> intro h)|(apply zn;(iterate 3 exact rfl))|(apply zi;exact rfl;exact rfl;exact q8 (by omega) (by omega))|(apply v4;(iterate 3 exact rfl);exact cAs)|apply qv|apply z4|apply qt)
 all_goals first
  |exact⟨k+1,⟨by omega,by omega,(ql7 (by omega)).2 ⟨h1,by simp only [qax,decide_eq_true_eq];omega⟩,jb ⟨rfl,rfl,trivial⟩⟩,by omega⟩
  |exact qo rfl (q5 rfl) ⟨congrArg Iv (congrArg Nat.cast (qvs hk hk8 h1 (fun hlt hl8=>by simp only [qax,decide_eq_false_iff_not];omega)).symm),_,rfl⟩
end Go.Proofs.YtmoklbacdkmkaaaGreatDoor
namespace Go.Pl
open Go
def decV (l:Bytes):Nat:=l.foldl (fun a c=>10 * a+(c.toNat - 48)) 0
theorem qn8 (l:Bytes) (c:UInt8):decV (l++[c])=10 * decV l+(c.toNat - 48):=by simp [decV]
theorem w9:∀ (n u:Nat),u≤n→∀ c∈Lib.decDigits u,48≤c.toNat∧c.toNat≤57
 |n,u,hn,c,hc=>by
  by_cases h:u<10
  ·rw [Lib.decDigits_one h] at hc
   simp only [List.mem_singleton] at hc
   subst hc
   rw [UInt8.toNat_ofNat']
   omega
  ·rw [x6 h,List.mem_append] at hc
   cases n with
   |zero=>omega
   |succ n=>
    rcases hc with hc|hc
    ·exact w9 n (u / 10) (by omega) c hc
    ·exact w9 n (u % 10) (by omega) c hc
theorem qq2:∀ (n u:Nat),u≤n→decV (Lib.decDigits u)=u
 |n,u,hn=>by
  have key:∀ d,d<10→Lib.decDigits d=[UInt8.ofNat (48+d)]∧(UInt8.ofNat (48+d)).toNat - 48=d:=fun d hd=>by
   refine⟨Lib.decDigits_one hd,?_⟩
   rw [UInt8.toNat_ofNat']
   omega
  by_cases h:u<10
  ·obtain⟨e1,e2⟩:=key u h
   rw [e1]
   exact (Nat.zero_add _).trans e2
  ·cases n with
   |zero=>omega
   |succ n=>
    obtain⟨e1,e2⟩:=key (u % 10) (by omega)
    rw [x6 h,e1,qn8,qq2 n (u / 10) (by omega),e2]
    omega
theorem qe4 (u:Nat):1≤(Lib.decDigits u).length:=by
 rw [Lib.decDigits_length]
 exact Lib.nDigits_pos u
theorem qfg {v:Int} (h:v<0):Lib.itoa v=45::Lib.decDigits v.natAbs:=by
 unfold Lib.itoa
 rw [if_pos h]
theorem qfh {v:Int} (h:0≤v):Lib.itoa v=Lib.decDigits v.toNat:=by
 unfold Lib.itoa
 rw [if_neg (by omega)]
theorem q40 (v:Int):1≤(Lib.itoa v).length:=by
 by_cases h:v<0
 ·rw [qfg h];simp
 ·rw [qfh (by omega)];exact qe4 _
theorem qkn {v:Int} (h1 : -9223372036854775808≤v) (h2:v≤9223372036854775807):(Lib.itoa v).length≤20:=by
 by_cases h:v<0
 ·rw [qfg h,List.length_cons,Lib.decDigits_length]
  have:=qec 18 v.natAbs (by omega)
  omega
 ·rw [qfh (by omega),Lib.decDigits_length]
  have:=qec 18 v.toNat (by omega)
  omega
theorem qw5:∀ (a:Nat) (l m:Bytes) (b:Nat),Lib.parseUint10 a l = .ok b→Lib.parseUint10 a (l++m)=Lib.parseUint10 b m
 |a,[],m,b,h=>by
  simp only [Lib.parseUint10,Lib.NumEnd.ok.injEq] at h
  subst h;rfl
 |a,c::l,m,b,h=>by
  simp only [List.cons_append,Lib.parseUint10] at h ⊢
  split at h
  ·rename_i hd
   rw [if_pos hd]
   split at h
   ·cases h
   ·rename_i h1
    rw [if_neg h1]
    split at h
    ·cases h
    ·rename_i h2
     rw [if_neg h2]
     exact qw5 _ l m b h
  ·cases h
theorem qm0:∀ (n u:Nat),u≤n→u≤9223372036854775808→Lib.parseUint10 0 (Lib.decDigits u) = .ok u
 |n,u,hn,hu=>by
  have key:∀ (a d:Nat),a≤922337203685477580→d<10→Lib.parseUint10 a (Lib.decDigits d) = .ok (a * 10+d):=by
   intro a d ha hd
   have e:(UInt8.ofNat (48+d)).toNat=48+d:=by rw [UInt8.toNat_ofNat'];omega
   rw [Lib.decDigits_one hd]
   simp only [Lib.parseUint10,e]
   rw [if_pos (by omega),if_neg (by omega),if_neg (by omega)]
   congr 1
   omega
  by_cases h:u<10
  ·have:=key 0 u (by omega) h
   simpa using this
  ·cases n with
   |zero=>omega
   |succ n=>
    rw [x6 h,qw5 0 _ _ (u / 10) (qm0 n (u / 10) (by omega) (by omega)),key _ _ (by omega) (by omega)]
    congr 1
    omega
theorem qmb {v:Int} (h1 : -9223372036854775808≤v) (h2:v≤9223372036854775807):Lib.atoiAll (Lib.itoa v) = .ok v:=by
 by_cases h:v<0
 ·have hp:=qm0 v.natAbs v.natAbs (Nat.le_refl _) (by omega)
  rw [qfg h]
  have hm:Lib.parseMag (Lib.decDigits v.natAbs) = .ok v.natAbs:=by
   unfold Lib.parseMag
   rw [if_neg (fun e=>by have:=qe4 v.natAbs;rw [e] at this;simp at this)]
   exact hp
  have e45:(45:UInt8).toNat=45:=rfl
  simp only [Lib.atoiAll,e45]
  rw [if_pos (Or.inr trivial),hm]
  simp only [not_true,false_and,if_false,true_and]
  rw [if_neg (by omega)]
  simp only [if_true]
  congr 1
  omega
 ·have hp:=qm0 v.toNat v.toNat (Nat.le_refl _) (by omega)
  have hd:=w9 v.toNat v.toNat (Nat.le_refl _)
  rw [qfh (by omega)]
  cases hl:Lib.decDigits v.toNat with
  |nil=>have:=qe4 v.toNat;rw [hl] at this;simp at this
  |cons c r=>
   rw [hl] at hp hd
   have hc:=hd c (by simp)
   simp only [Lib.atoiAll]
   have g1:¬ (c.toNat=43∨c.toNat=45):=by omega
   rw [if_neg g1]
   have hm:Lib.parseMag (c::r) = .ok v.toNat:=by unfold Lib.parseMag;rw [if_neg (by simp)];exact hp
   rw [hm]
   have g2:¬ c.toNat=45:=by omega
   simp only [g2,not_false_iff,true_and,false_and,if_false]
   rw [if_neg (by omega)]
   congr 1
   omega
def numZ (l:Bytes):Option Int:=
 match Lib.atoiAll l with
 | .ok v=>if Lib.itoa v=l then some v else none
 | _=>none
theorem qfw {v:Int} (h1 : -9223372036854775808≤v) (h2:v≤9223372036854775807):numZ (Lib.itoa v)=some v:=by
 unfold numZ
 rw [qmb h1 h2]
 simp
theorem qkv {l:Bytes} {v:Int} (h:numZ l=some v):l=Lib.itoa v∧-9223372036854775808≤v∧v≤9223372036854775807:=by
 unfold numZ at h
 split at h
 ·rename_i u hu
  split at h
  ·rename_i he
   simp only [Option.some.injEq] at h
   subst h
   exact⟨he.symm,atoiAll_bounds hu⟩
  ·simp at h
 ·simp at h
theorem qos {l:Bytes} (h:∀ v,-9223372036854775808≤v→v≤9223372036854775807→l≠Lib.itoa v):numZ l=none:=by
 cases hn:numZ l with
 |none=>rfl
 |some v=>
  obtain⟨h1,h2,h3⟩:=qkv hn
  exact absurd h1 (h v h2 h3)
end Go.Pl
namespace Go.Proofs.YtmoklbacdkmkaaaGreatDoor
open Go Go.Av Go.RowKit Go.Proofs Go.Pl
theorem qe7 (v:Int) (st:List AObj) (h1 : -9223372036854775808≤v) (h2:v≤9223372036854775807):qp E 157 [Iv v] st fun r st'=>r=Sv (Lib.itoa v)∧st'=st:=by
 by_cases hneg:v<0
 ·refine qx (qs _) (qq Tryz.func157 rfl (Nat.le_of_ble_eq_true rfl) ?_)
  have hl:=qfc (u:=v.natAbs) (by omega)
  have hk:IntKind.u64.wrap (-(v+1))=((v.natAbs - 1:Nat):Int):=by
   rw [show -(v+1)=((v.natAbs - 1:Nat):Int) by omega]
   exact ql3 (by omega)
  have hk2:IntKind.u64.wrap (((v.natAbs - 1:Nat):Int)+1)=((v.natAbs:Nat):Int):=by
   rw [show ((v.natAbs - 1:Nat):Int)+1=((v.natAbs:Nat):Int) by omega]
   exact ql3 (by omega)
  repeat' (first|apply qn|apply qf|apply qh|apply qj|apply qg|(apply qr;(iterate 3 exact rfl))|(apply qd;exact rfl;apply ku;exact cAo)|(apply jc;exact rfl;exact rfl;exact cOs)|(apply zi;exact rfl;exact rfl;exact q8 (by omega) (by omega))|apply qt|(apply qy6;exact rfl;exact (show IntKind.i64.wrap (0 - (v+1)) = -(v+1) from by rw [q8 (by omega) (by omega)];omega))|(apply qd5;(iterate 3 exact rfl);exact hk)|(apply zi;exact rfl;exact rfl;exact hk2)|(apply qk;exact Tryz.call204;exact qiz (v.natAbs+1) v.natAbs (by omega) (by omega) _))
  exact qo rfl (q5 rfl) ⟨congrArg Sv (qfg hneg).symm,_,rfl⟩
 ·obtain⟨k,rfl⟩:=Int.eq_ofNat_of_zero_le (by omega:0≤v)
  exact q12 k st (by omega)
theorem qpc (x:Int):IntKind.i64.wrap x=(x+9223372036854775808) % 18446744073709551616 - 9223372036854775808:=by
 simp [IntKind.wrap,IntKind.bits,IntKind.signed]
 split <;> omega
theorem q1b (V d:Nat) (n:Int) (hn:n=IntKind.i64.wrap (-(V:Int))):IntKind.i64.wrap (IntKind.i64.wrap (10 * n) - (d:Int))=IntKind.i64.wrap (-((10 * V+d:Nat):Int)):=by
 rw [hn]
 simp only [qpc]
 omega
theorem q49 (V:Nat):IntKind.i64.wrap (0 - IntKind.i64.wrap (-(V:Int)))=IntKind.i64.wrap (V:Int):=by
 simp only [qpc]
 omega
theorem qd3 (x:Int) : -9223372036854775808≤IntKind.i64.wrap x∧IntKind.i64.wrap x≤9223372036854775807:=by
 rw [qpc]
 omega
theorem sub8 {c:Nat} (h:48≤c) (h2:c<256):IntKind.u8.wrap ((c:Int) - 48)=((c - 48:Nat):Int):=by
 simp [IntKind.wrap,IntKind.bits,IntKind.signed]
 omega
def numA (l:Bytes):AV:=match numZ l with|some v=>.tu [Iv v,Bv true]|none=>.tu [Iv 0,Bv false]
theorem q9y (l:Bytes):Pure (numA l):=by
 unfold numA
 split <;> exact qky _ _
theorem qcx {l:Bytes} (h:numZ l=none):numA l = .tu [Iv 0,Bv false]:=by unfold numA;rw [h]
theorem qor {l:Bytes} {v:Int} (h:numZ l=some v):numA l = .tu [Iv v,Bv true]:=by unfold numA;rw [h]
theorem qwx {l:Bytes} {v:Int} (h:l=Lib.itoa v):(v<0→(l.getD 0 0).toNat=45∧l.drop 1=Lib.decDigits v.natAbs)∧(0≤v→(l.getD 0 0).toNat≠45∧l=Lib.decDigits v.toNat):=by
 subst h
 refine⟨fun h=>?_,fun h=>?_⟩
 ·rw [qfg h];exact⟨rfl,rfl⟩
 ·rw [qfh h]
  refine⟨?_,rfl⟩
  have hp:=qe4 v.toNat
  have hd:=w9 v.toNat v.toNat (Nat.le_refl _)
  cases hl:Lib.decDigits v.toNat with
  |nil=>rw [hl] at hp;simp at hp
  |cons c r=>
   rw [hl] at hd
   have:=hd c (by simp)
   simp
   omega
def sgn (l:Bytes):Nat:=if (l.getD 0 0).toNat=45 then 1 else 0
theorem qk9 {l:Bytes} {v:Int} (h:l=Lib.itoa v):l.drop (sgn l)=Lib.decDigits v.natAbs:=by
 obtain⟨h1,h2⟩:=qwx h
 unfold sgn
 by_cases hv:v<0
 ·obtain⟨a,b⟩:=h1 hv
  rw [if_pos a,b]
 ·obtain⟨a,b⟩:=h2 (by omega)
  rw [if_neg a,List.drop_zero,show v.natAbs=v.toNat by omega]
  exact b
theorem qpl {l:Bytes} {k:Nat} (hk:k<l.length) (hs:sgn l≤k) (hd:¬ (48≤(l.getD k 0).toNat∧(l.getD k 0).toNat≤57)):numZ l=none:=by
 refine qos fun v h1 h2 h=>?_
 have e:=qk9 h
 have hm:l.getD k 0∈l.drop (sgn l):=by
  rw [show l.getD k 0=l[k] by simp [List.getD,hk]]
  rw [List.mem_drop_iff_getElem]
  exact⟨k - sgn l,by omega,by congr 1;omega⟩
 rw [e] at hm
 exact hd (w9 _ _ (Nat.le_refl _) _ hm)
def numW (l:Bytes):Int:=if (l.getD 0 0).toNat=45 then IntKind.i64.wrap (-(decV (l.drop 1):Int)) else IntKind.i64.wrap (decV l:Int)
theorem zf9 {l:Bytes} {v:Int} (h:l=Lib.itoa v) (h1 : -9223372036854775808≤v) (h2:v≤9223372036854775807):numW l=v:=by
 obtain⟨g1,g2⟩:=qwx h
 unfold numW
 by_cases hv:v<0
 ·obtain⟨a,b⟩:=g1 hv
  rw [if_pos a,b,qq2 _ _ (Nat.le_refl _),q8 (by omega) (by omega)]
  omega
 ·obtain⟨a,b⟩:=g2 (by omega)
  rw [if_neg a,b,qq2 _ _ (Nat.le_refl _),q8 (by omega) (by omega)]
  omega
theorem q48 {l:Bytes} {n:Int} (h:n=numW l) (he:Lib.itoa n=l):numZ l=some n:=by
 have hr : -9223372036854775808≤n∧n≤9223372036854775807:=by
  rw [h];unfold numW;split <;> exact qd3 _
 rw [← he,qfw hr.1 hr.2]
theorem q47 {l:Bytes} {n:Int} (h:n=numW l) (he:¬ Lib.itoa n=l):numZ l=none:=
 qos fun v h1 h2 hv=>he (by rw [h,zf9 hv h1 h2];exact hv.symm)
theorem ql1 {l:Bytes} {k a:Nat} (h:k<l.length) (ha:a≤k):(l.take (k+1)).drop a=(l.take k).drop a++[l.getD k 0]:=by
 rw [qb6 h,List.drop_append_of_le_length (by simp;omega)]
theorem qqp (l:List UInt8) (st:List AObj) (hl:l.length<4294967281):qp E 106 [Sv l] st fun r st'=>r=numA l∧st'=st:=by
 refine qx (q9y l) (qq Tryz.func106 rfl (Nat.le_of_ble_eq_true rfl) ?_)
 by_cases hbad:l.length<1∨20<l.length
 ·have hz:numZ l=none:=qos fun v h1 h2 h=>by
   have g1:=q40 v
   have g2:=qkn h1 h2
   rw [← h] at g1 g2
   omega
  repeat' (first|apply qn|apply qf|apply qh|apply qj|apply qg|(apply qr;(iterate 3 exact rfl))|(apply qy;(iterate 4 exact rfl))|(apply vq;exact cAo)|(apply vv;exact cAo)|(apply jn <;> intro h)|(apply ql;exact rfl;apply wx;exact cAo)|(apply ql;exact rfl;apply wn;exact cAo)|(apply qd;exact rfl;apply ku;exact cAo)|(apply qd;exact rfl;apply cd_t;exact cRa)|(apply zn;(iterate 3 exact rfl))|apply qt)
  all_goals first
   |(exfalso;omega)
   |exact qo rfl (ki rfl) ⟨(qcx hz).symm,_,rfl⟩
 have hb1:1≤l.length:=by omega
 have hb2:l.length≤20:=by omega
 repeat' (first|apply qn|apply qw|apply qf|apply qh|apply qj|apply qg|(apply qr;(iterate 3 exact rfl))|(apply qy;(iterate 4 exact rfl))|(apply vq;exact cAo)|(apply ql;exact rfl;apply wn;exact cAo)|(apply qd;exact rfl;apply vc;exact cAo)|(apply qd;exact rfl;apply cd_d <;> intro h)|(apply zn;(iterate 3 exact rfl))|(apply v4;(iterate 3 exact rfl);exact cAs)|apply qv)
 ·have h45:((l.getD 0 0).toNat:Int)=45:=by assumption
  have hs:sgn l=1:=if_pos (by omega)
  refine ju (fun (k:Nat) s=>1≤k∧k≤l.length∧StA [(0,Sv l),(4,Iv 1),(5,Iv (IntKind.i64.wrap (-(decV ((l.take k).drop 1):Int)))),(6,Iv k)] (st++[]) [] s) (fun k=>l.length - k) 1 ⟨by omega,by omega,jb ⟨rfl,rfl,by simp [List.drop_eq_nil_of_le,decV,IntKind.wrap];rfl,rfl,trivial⟩⟩ ?_
  rintro k _ ⟨hk1,hk,t,rfl⟩
  generalize hn:IntKind.i64.wrap (-(decV ((l.take k).drop 1):Int))=n
  have hc:=UInt8.toNat_lt (l.getD k 0)
  have hr : -9223372036854775808≤n∧n≤9223372036854775807:=hn▸qd3 _
  have hr2:=qd3 (0 - n)
  repeat' (first|apply qn|apply qw|apply qf|apply qh|apply qj|apply qg|(apply qr;(iterate 3 exact rfl))|(apply jj;(iterate 3 exact rfl))|(apply qy;(iterate 4 exact rfl))|(apply vq;exact cAo)|(apply vv;exact cAo)|(apply jn <;> intro h)|(apply ql;exact rfl;apply wx;exact cAo)|(apply ql;exact rfl;apply wn;exact cAo)|(apply qd;exact rfl;apply vc;exact cAo)|(apply qd;exact rfl;apply cd_t;exact cRa)|(apply qd;exact rfl;apply cd_d <;> intro h)|(apply zn;(iterate 3 exact rfl))|(apply zi;exact rfl;exact rfl;exact q8 (by omega) (by omega))|(apply v4;(iterate 3 exact rfl);exact cAs)|apply qv|apply z4|apply qt|(apply qgu;(iterate 3 exact rfl))|(apply xh;exact rfl;exact rfl;exact sub8 (by omega) (by omega))|(apply xh;exact rfl;exact rfl;exact q1b _ _ _ hn.symm)|(apply qd5;(iterate 3 exact rfl);exact q8 (by omega) (by omega))|(apply qk;exact Tryz.call157;exact qe7 _ _ (by omega) (by omega)))
  ·exact qo rfl (ki rfl) ⟨(qcx (qpl (k:=k) (by omega) (by omega) (by omega))).symm,_,rfl⟩
  ·exact qo rfl (ki rfl) ⟨(qcx (qpl (k:=k) (by omega) (by omega) (by omega))).symm,_,rfl⟩
  ·refine⟨k+1,⟨by omega,by omega,jb ⟨rfl,rfl,congrArg Iv ?_,rfl,trivial⟩⟩,by omega⟩
   rw [ql1 (by omega) hk1,qn8]
  ·have e:k=l.length:=by omega
   subst e
   rw [List.take_length] at hn
   have hw:n=numW l:=by unfold numW;rw [if_pos (by omega)];rw [← hn]
   exact qo rfl (ki rfl) ⟨(qcx (q47 hw (by assumption))).symm,_,rfl⟩
  ·have e:k=l.length:=by omega
   subst e
   rw [List.take_length] at hn
   have hw:n=numW l:=by unfold numW;rw [if_pos (by omega)];rw [← hn]
   exact qo rfl (ki rfl) ⟨(qor (q48 hw (Classical.not_not.1 (by assumption)))).symm,_,rfl⟩
 ·have h45:¬ ((l.getD 0 0).toNat:Int)=45:=by assumption
  have hs:sgn l=0:=if_neg (by omega)
  refine ju (fun (k:Nat) s=>0≤k∧k≤l.length∧StA [(0,Sv l),(4,Iv 0),(5,Iv (IntKind.i64.wrap (-(decV ((l.take k).drop 0):Int)))),(6,Iv k)] (st++[]) [] s) (fun k=>l.length - k) 0 ⟨by omega,by omega,jb ⟨rfl,rfl,by simp [List.drop_eq_nil_of_le,decV,IntKind.wrap];rfl,rfl,trivial⟩⟩ ?_
  rintro k _ ⟨hk1,hk,t,rfl⟩
  generalize hn:IntKind.i64.wrap (-(decV ((l.take k).drop 0):Int))=n
  have hc:=UInt8.toNat_lt (l.getD k 0)
  have hr : -9223372036854775808≤n∧n≤9223372036854775807:=hn▸qd3 _
  have hr2:=qd3 (0 - n)
  repeat' (first|apply qn|apply qw|apply qf|apply qh|apply qj|apply qg|(apply qr;(iterate 3 exact rfl))|(apply jj;(iterate 3 exact rfl))|(apply qy;(iterate 4 exact rfl))|(apply vq;exact cAo)|(apply vv;exact cAo)|(apply jn <;> intro h)|(apply ql;exact rfl;apply wx;exact cAo)|(apply ql;exact rfl;apply wn;exact cAo)|(apply qd;exact rfl;apply ku;exact cAo)|(apply qd;exact rfl;apply cd_t;exact cRa)|(apply qd;exact rfl;apply cd_d <;> intro h)|(apply zn;(iterate 3 exact rfl))|(apply zi;exact rfl;exact rfl;exact q8 (by omega) (by omega))|(apply v4;(iterate 3 exact rfl);exact cAs)|apply qv|apply z4|apply qt|(apply qgu;(iterate 3 exact rfl))|(apply xh;exact rfl;exact rfl;exact sub8 (by omega) (by omega))|(apply xh;exact rfl;exact rfl;exact q1b _ _ _ hn.symm)|(apply qd5;(iterate 3 exact rfl);exact q8 (by omega) (by omega))|(apply qy6;exact rfl;exact rfl)|(apply qk;exact Tryz.call157;exact qe7 _ _ (by omega) (by omega)))
  ·exact qo rfl (ki rfl) ⟨(qcx (qpl (k:=k) (by omega) (by omega) (by omega))).symm,_,rfl⟩
  ·exact qo rfl (ki rfl) ⟨(qcx (qpl (k:=k) (by omega) (by omega) (by omega))).symm,_,rfl⟩
  ·refine⟨k+1,⟨by omega,by omega,jb ⟨rfl,rfl,congrArg Iv ?_,rfl,trivial⟩⟩,by omega⟩
   rw [ql1 (by omega) hk1,qn8]
  ·have e:k=l.length:=by omega
   subst e
   rw [List.take_length] at hn
   have hw:IntKind.i64.wrap (0 - n)=numW l:=by unfold numW;rw [if_neg (by omega)];rw [← hn,List.drop_zero,q49]
   exact qo rfl (ki rfl) ⟨(qcx (q47 hw (by assumption))).symm,_,rfl⟩
  ·have e:k=l.length:=by omega
   subst e
   rw [List.take_length] at hn
   have hw:IntKind.i64.wrap (0 - n)=numW l:=by unfold numW;rw [if_neg (by omega)];rw [← hn,List.drop_zero,q49]
   exact qo rfl (ki rfl) ⟨(qor (q48 hw (Classical.not_not.1 (by assumption)))).symm,_,rfl⟩
theorem qd1 (l:List UInt8) (v:Int) (st:List AObj) (hl:l.length<4294967281) (h:numZ l=some v):qp E 106 [Sv l] st fun r st'=>r = .tu [Iv v,Bv true]∧st'=st:=by
 have:=qqp l st hl
 rw [qor h] at this
 exact this
theorem qgn (l:List UInt8) (st:List AObj) (hl:l.length<4294967281) (h:numZ l=none):qp E 106 [Sv l] st fun r st'=>r = .tu [Iv 0,Bv false]∧st'=st:=by
 have:=qqp l st hl
 rw [qcx h] at this
 exact this
theorem qyk (x:BitVec 32):x &&& 2147483648#32≠0#32↔x.toNat / 2147483648=1:=by
 have e:2147483648#32=BitVec.twoPow 32 31:=by decide
 have h:=x.isLt
 rw [e,BitVec.and_twoPow,BitVec.getLsbD,Nat.testBit_eq_decide_div_mod_eq]
 by_cases hb:x.toNat / 2 ^ 31 % 2=1
 ·simp only [hb,decide_true,if_true]
  constructor
  ·intro _;omega
  ·intro _;decide
 ·simp only [hb,decide_false]
  constructor
  ·intro h';exact absurd rfl h'
  ·intro h';omega
theorem q68 (x:BitVec 32):x.msb=true↔x.toNat / 2147483648=1:=by
 rw [BitVec.msb_eq_decide]
 have h:=x.isLt
 simp
 omega
theorem qkf (x:BitVec 32):qbs x=(x <<< 1) ^^^ (if x.msb then 79764919#32 else 0#32):=by
 unfold qbs
 by_cases h:x.msb=true
 ·rw [if_pos ((qyk x).2 ((q68 x).1 h)),if_pos h]
 ·rw [if_neg (fun h'=>h ((q68 x).2 ((qyk x).1 h'))),if_neg h,BitVec.xor_zero]
theorem q6h (a b:BitVec 32):qbs (a ^^^ b)=qbs a ^^^ qbs b:=by
 rw [qkf,qkf,qkf,BitVec.msb_xor,BitVec.shiftLeft_xor_distrib]
 cases a.msb <;> cases b.msb <;> simp only [Bool.xor_false,Bool.xor_true,Bool.not_true,Bool.not_false,Bool.false_eq_true,if_true,if_false,BitVec.xor_zero]
 ·rw [BitVec.xor_assoc]
 ·rw [BitVec.xor_assoc,BitVec.xor_comm (b <<< 1),BitVec.xor_assoc]
 ·rw [BitVec.xor_assoc (a <<< 1),BitVec.xor_comm 79764919#32,BitVec.xor_assoc (b <<< 1),BitVec.xor_self,BitVec.xor_zero]
theorem qp6 (n:Nat) (a b:BitVec 32):xd n (a ^^^ b)=xd n a ^^^ xd n b:=by
 induction n with
 |zero=>rfl
 |succ n ih=>simp only [xd,ih,q6h]
theorem qk6:∀ (n:Nat) (x:BitVec 32),n≤31→x.toNat<2 ^ (32 - n)→xd n x=x <<< n
 | 0,x,_,_=>by simp [xd]
 |n+1,x,hn,h=>by
  have hp:2 ^ (32 - n)=2 * 2 ^ (32 - (n+1)):=by rw [show 32 - n=(32 - (n+1))+1 by omega,Nat.pow_succ,Nat.mul_comm]
  simp only [xd]
  rw [qk6 n x (by omega) (by omega),qkf]
  have hm:(x <<< n).msb=false:=by
   cases hb:(x <<< n).msb with
   |false=>rfl
   |true=>
    have h1:=(q68 _).1 hb
    have h2:(x <<< n).toNat<2147483648:=by
     rw [BitVec.toNat_shiftLeft,Nat.shiftLeft_eq]
     refine Nat.lt_of_le_of_lt (Nat.mod_le _ _) ?_
     have h3:x.toNat * 2 ^ n<2 ^ (32 - (n+1)) * 2 ^ n:=Nat.mul_lt_mul_of_pos_right h (Nat.two_pow_pos n)
     rw [← Nat.pow_add,show 32 - (n+1)+n=31 by omega] at h3
     exact h3
    omega
  rw [hm]
  simp only [Bool.false_eq_true,if_false,BitVec.xor_zero]
  rw [← BitVec.shiftLeft_add]
theorem zg0 (x:BitVec 32):x=((x >>> 28) <<< 28) ^^^ ((x.setWidth 28).setWidth 32):=by
 apply BitVec.eq_of_getLsbD_eq
 intro i hi
 simp only [BitVec.getLsbD_xor,BitVec.getLsbD_shiftLeft,BitVec.getLsbD_ushiftRight,BitVec.getLsbD_setWidth]
 by_cases h:i<28
 ·simp [h,hi]
 ·simp [h,hi,show 28+(i - 28)=i by omega]
theorem qwf (x:BitVec 32) (n:Nat):crcN x n=xd 4 (x ^^^ (BitVec.ofNat 32 n <<< 28)):=by
 have hl:((x.setWidth 28).setWidth 32).toNat<2 ^ (32 - 4):=by
  simp only [BitVec.toNat_setWidth]
  exact Nat.lt_of_le_of_lt (Nat.mod_le _ _) (Nat.mod_lt _ (by decide))
 have hs:((x.setWidth 28).setWidth 32) <<< 4=x <<< 4:=by
  apply BitVec.eq_of_getLsbD_eq
  intro i hi
  simp only [BitVec.getLsbD_shiftLeft,BitVec.getLsbD_setWidth]
  by_cases h:i<4
  ·simp [h]
  ·simp [h,hi,show i - 4<28 by omega,show i - 4<32 by omega]
 have e:x ^^^ (BitVec.ofNat 32 n <<< 28)=(((x >>> 28) ^^^ BitVec.ofNat 32 n) <<< 28) ^^^ ((x.setWidth 28).setWidth 32):=by
  rw [BitVec.shiftLeft_xor_distrib,BitVec.xor_assoc,BitVec.xor_comm (BitVec.ofNat 32 n <<< 28),← BitVec.xor_assoc,← zg0 x]
 rw [e,qp6,qk6 4 _ (by omega) hl,hs,crcN,rowT,BitVec.ofNat_toNat,BitVec.setWidth_eq,BitVec.xor_comm]
theorem q28 (m n:Nat) (x:BitVec 32):xd (m+n) x=xd m (xd n x):=by
 induction m with
 |zero=>simp [xd]
 |succ m ih=>rw [Nat.succ_add];simp only [xd,ih]
theorem q25 (c:UInt8):BitVec.ofNat 32 c.toNat <<< 24=(BitVec.ofNat 32 (c.toNat / 16) <<< 28) ^^^ (BitVec.ofNat 32 (c.toNat % 16) <<< 24):=by
 have key:∀ n:Fin 256,BitVec.ofNat 32 n.val <<< 24=(BitVec.ofNat 32 (n.val / 16) <<< 28) ^^^ (BitVec.ofNat 32 (n.val % 16) <<< 24):=by decide +kernel
 exact key ⟨c.toNat,UInt8.toNat_lt c⟩
theorem q80 (x:BitVec 32) (c:UInt8):crcP x c=xd 8 (x ^^^ (BitVec.ofNat 32 c.toNat <<< 24)):=by
 have hl:(BitVec.ofNat 32 (c.toNat % 16) <<< 24).toNat<2 ^ (32 - 4):=by
  have key:∀ n:Fin 16,(BitVec.ofNat 32 n.val <<< 24).toNat<2 ^ (32 - 4):=by decide +kernel
  exact key ⟨c.toNat % 16,Nat.mod_lt _ (by decide)⟩
 rw [show (8:Nat)=4+4 by rfl,q28,q25,← BitVec.xor_assoc,qp6 4 (x ^^^ _),qk6 4 _ (by omega) hl,← BitVec.shiftLeft_add,crcP,qwf,qwf]
theorem qxm (x:BitVec 32):IntKind.u32.wrap (4294967295 - (x.toNat:Int))=((~~~x).toNat:Int):=by
 have h:=x.isLt
 have e:(4294967295 - (x.toNat:Int))=(((~~~x).toNat:Nat):Int):=by rw [BitVec.toNat_not];omega
 rw [e]
 exact qgr _
theorem q45 (x:BitVec 32) (k n:Nat) (m:Int) (hm:m=((2 ^ n:Nat):Int)):IntKind.u32.wrap ((x.toNat:Int) * m)=((x <<< n).toNat:Int):=by
 rw [hm,← Int.natCast_mul,qg7,BitVec.toNat_shiftLeft,Nat.shiftLeft_eq]
theorem zdv (x:BitVec 32) (l:List UInt8) (st:List AObj) (hl:l.length<4294967281):qp E 181 [Wv x,Sv l] st fun r st'=>r=Wv (addP x l)∧st'=st:=by
 refine qx (qs _) (qq Tryz.func181 rfl (Nat.le_of_ble_eq_true rfl) ?_)
 repeat' (first|apply qn|apply qw|apply qf|apply qh|apply qj|apply qg|(apply xh;exact rfl;exact rfl;exact qxm _))
 refine ju (fun (k:Nat) s=>k≤l.length∧StA [(1,Sv l),(5,Wv ((l.take k).foldl crcP (~~~ x))),(6,Iv k)] (st++[]) [] s) (fun k=>l.length - k) 0 ⟨by omega,jb ⟨rfl,rfl,rfl,trivial⟩⟩ ?_
 rintro k _ ⟨hk,t,rfl⟩
 generalize hx:(l.take k).foldl crcP (~~~ x)=y
 have hc:=UInt8.toNat_lt (l.getD k 0)
 repeat' (first|apply qn|apply qw|apply qf|apply qh|apply qj|apply qg|(apply qr;(iterate 3 exact rfl))|(apply qd;exact rfl;apply cd_d <;> intro h)|(apply zn;(iterate 3 exact rfl))|(apply v4;(iterate 3 exact rfl);exact cAs)|(apply qd6;exact rfl;exact rfl;(first|exact kc _|exact rfl);first|exact kc _|exact rfl)|apply qv|apply z4|apply qt|(apply qr8;(iterate 3 exact rfl);omega)|(apply qgu;exact rfl;exact rfl;exact q45 _ 0 24 _ rfl)|(apply xh;exact rfl;exact rfl;exact qxm _))
 ·generalize hcc:l.getD k 0=c at *
  generalize hz:y ^^^ (BitVec.ofNat 32 c.toNat <<< 24)=z
  refine ju (fun (j:Nat) s=>j≤8∧StA [(1,Sv l),(5,Wv (xd j z)),(6,Iv k),(7,Iv j)] (st++[]) [] s) (fun j=>8 - j) 0 ⟨by omega,jb ⟨rfl,rfl,rfl,rfl,trivial⟩⟩ ?_
  rintro j _ ⟨hj,t2,rfl⟩
  generalize hq:xd j z=q
  have hql:=q.isLt
  repeat' (first|apply qn|apply qw|apply qf|apply qh|apply qj|apply qg|(apply qr;(iterate 3 exact rfl))|(apply qd;exact rfl;apply cd_d <;> intro h)|(apply zi;exact rfl;exact rfl;exact q8 (by omega) (by omega))|(apply qd6;exact rfl;exact rfl;(first|exact kc _|exact rfl);first|exact kc _|exact rfl)|apply qv|apply z4|(apply qnv (n:=2147483648);exact rfl;exact rfl;omega;exact qv0 (by omega))|(apply qgu;exact rfl;exact rfl;exact q45 _ 0 1 _ rfl))
  ·refine⟨j+1,⟨by omega,jb ⟨rfl,?_,rfl,rfl,trivial⟩⟩,by omega⟩
   refine congrArg Wv (?_:_=qbs _)
   rw [hq]
   unfold qbs
   rw [if_pos ((qyk q).2 (by omega))]
   rfl
  ·refine⟨j+1,⟨by omega,jb ⟨rfl,?_,rfl,rfl,trivial⟩⟩,by omega⟩
   refine congrArg Wv (?_:_=qbs _)
   rw [hq]
   unfold qbs
   rw [if_neg (fun h'=>absurd ((qyk q).1 h') (by omega))]
  ·have e:j=8:=by omega
   subst e
   refine⟨k+1,⟨by omega,jb ⟨rfl,?_,rfl,trivial⟩⟩,by omega⟩
   refine congrArg Wv (?_:q=_)
   rw [qb6 (by omega),List.foldl_append,hx,hcc]
   show q=crcP y c
   rw [q80,hz,hq]
 ·have e:k=l.length:=by omega
  subst e
  refine qo rfl (q5 rfl) ⟨congrArg Wv (?_:_=_),_,rfl⟩
  unfold addP
  rw [← hx,List.take_length]
theorem zdx (l:List UInt8) (st:List AObj) (hl:l.length<4294967281):qp E 120 [Sv l] st fun r st'=>r=Wv (addP 0 l)∧st'=st:=by
 refine qx (qs _) (qq Tryz.func120 rfl (Nat.le_of_ble_eq_true rfl) ?_)
 repeat' (first|apply qn|apply qf|apply qh|apply qj|apply qg|apply qt|(apply qk;exact Tryz.call181;exact zdv 0 _ _ hl))
 exact qo rfl (q5 rfl) ⟨rfl,_,rfl⟩
theorem zcx (x:BitVec 32) {j:Nat} (hj:j<8):figP x j=hexL.getD ((x >>> (4 * (7 - j))).toNat % 16) 0:=by
 unfold figP
 have e:((x >>> (4 * (7 - j))) &&& BitVec.ofInt 32 15).toNat=(x >>> (4 * (7 - j))).toNat % 16:=by
  rw [BitVec.toNat_and]
  exact Nat.and_two_pow_sub_one_eq_mod _ 4
 rw [e]
 rfl
theorem q9q {n:Nat} (h:n<16):(hexL.take (n+1)).drop n=[hexL.getD n 0]:=by
 have key:∀ i:Fin 16,(hexL.take (i.val+1)).drop i.val=[hexL.getD i.val 0]:=by decide +kernel
 exact key ⟨n,h⟩
theorem q6v (x:BitVec 32) {k:Nat} (h:k<8):(x7 x 8).drop (8 - (k+1))=figP x (7 - k)::(x7 x 8).drop (8 - k):=by
 have hlen:(x7 x 8).length=8:=by simp [x7]
 rw [List.drop_eq_getElem_cons (by omega),show 8 - (k+1)+1=8 - k by omega]
 congr 1
 simp [x7,show 8 - (k+1)=7 - k by omega]
theorem zap (x:BitVec 32) (st:List AObj):qp E 119 [Wv x] st fun r st'=>r=Sv (x7 x 8)∧st'=st:=by
 refine qx (qs _) (qq Tryz.func119 rfl (Nat.le_of_ble_eq_true rfl) ?_)
 have hlen:(x7 x 8).length=8:=by simp [x7]
 repeat' (first|apply qn|apply qw|apply qf|apply qh|apply qg)
 refine ju (fun (k:Nat) s=>k≤8∧StA [(0,Wv (x >>> (4 * k))),(3,Sv ((x7 x 8).drop (8 - k))),(4,Iv k)] (st++[]) [] s) (fun k=>8 - k) 0 ⟨by omega,jb ⟨by simp;rfl,by simp [hlen];rfl,rfl,trivial⟩⟩ ?_
 rintro k _ ⟨hk,t,rfl⟩
 have hn:(x >>> (4 * k)).toNat % 16<16:=Nat.mod_lt _ (by decide)
 have hd:((x7 x 8).drop (8 - k)).length=k:=by simp [hlen];omega
 generalize hq:x >>> (4 * k)=q at *
 have hql:=q.isLt
 repeat' (first|apply qn|apply qw|apply qf|apply qh|apply qj|apply qg|(apply qr;(iterate 3 exact rfl))|(apply qd;exact rfl;apply cd_d <;> intro h)|(apply jc;exact rfl;exact rfl;exact cOs)|(apply zi;exact rfl;exact rfl;exact q8 (by omega) (by omega))|(apply qhq;(iterate 4 exact rfl);exact cAs;exact cAs)|apply qv|apply z4|apply qt|(apply qv3 (n:=16);exact rfl;exact rfl;omega)|(apply qnv (n:=16);exact rfl;exact rfl;omega;exact qv0 (by omega))|(apply qv2 (n:=1);exact rfl;exact rfl;exact qv0 (by omega)))
 ·refine⟨k+1,⟨by omega,jb ⟨?_,?_,rfl,trivial⟩⟩,by omega⟩
  ·refine congrArg (fun n:Nat=>AV.v (.int .u32 (n:Int))) (?_:q.toNat / 16=(x >>> (4 * (k+1))).toNat)
   rw [show 4 * (k+1)=4 * k+4 by omega,BitVec.shiftRight_add,hq,BitVec.toNat_ushiftRight,Nat.shiftRight_eq_div_pow]
  ·refine congrArg Sv (?_:(hexL.take (q.toNat % 16+1)).drop (q.toNat % 16)++_=_)
   rw [q6v x (by omega),q9q hn,zcx x (by omega),show 4 * (7 - (7 - k))=4 * k by omega,hq]
   rfl
 ·have e:k=8:=by omega
  subst e
  exact qo rfl (q5 rfl) ⟨congrArg Sv (by simp),_,rfl⟩
end Go.Proofs.YtmoklbacdkmkaaaGreatDoor
namespace Go.Pl
open Go
def sp:Bool→Bytes→Bool
 | _,[]=>true
 |f,c::l=>(!f ||decide (c=32)) && sp (decide (c=10)) l
theorem qnp:∀ l,sp false l=sp true (past 10 l)
 | []=>rfl
 |c::l=>by
  by_cases h:c=10
  ·subst h;simp [sp,past,upto]
  ·have e:past 10 (c::l)=past 10 l:=by simp [past,upto,h]
   rw [e,← qnp l]
   simp [sp,h]
theorem q2f {l:Bytes} (h:l≠[]):sp true l=(decide ([32] <+: upto 10 l) && sp true (past 10 l)):=by
 cases l with
 |nil=>exact absurd rfl h
 |cons c r=>
  by_cases hc:c=10
  ·subst hc;simp [sp,upto]
  ·have e:past 10 (c::r)=past 10 r:=by simp [past,upto,hc]
   have e2:upto 10 (c::r)=c::upto 10 r:=by simp [upto,hc]
   rw [e,e2,← qnp]
   simp [sp,hc,eq_comm]
theorem qmu:∀ (n:Nat) (l:Bytes),l.length≤n→((∀ x∈zr l,[32] <+: x.1)↔sp true l=true)
 | 0,l,h=>by
  have:l=[]:=List.length_eq_zero_iff.1 (by omega)
  subst this
  simp [v6,sp]
 |n+1,l,h=>by
  by_cases hl:l=[]
  ·subst hl;simp [v6,sp]
  ·rw [wv hl,q2f hl,Bool.and_eq_true,← qmu n (past 10 l) (by have:=wy (c:=10) hl;omega)]
   simp only [List.mem_cons,forall_eq_or_imp,decide_eq_true_eq]
theorem qdp (l:Bytes):(vj [32] l).2=sp true l:=by
 unfold vj
 by_cases h:sp true l=true
 ·rw [if_pos ((qmu _ l (Nat.le_refl _)).2 h),h]
 ·rw [if_neg (fun h'=>h ((qmu _ l (Nat.le_refl _)).1 h'))]
  simp only [Bool.not_eq_true] at h
  rw [h]
theorem za5:∀ (f:Bool) (l m:Bytes),sp f (l++m)=true→sp f l=true
 | _,[],_,_=>rfl
 |f,c::l,m,h=>by
  simp only [List.cons_append,sp,Bool.and_eq_true] at h ⊢
  exact⟨h.1,za5 _ l m h.2⟩
def qd7 (f:Bool) (l:Bytes):Bool:=match l.getLast? with|none=>f|some c=>decide (c=10)
theorem q6s (f:Bool) (c:UInt8) (l:Bytes):qd7 f (c::l)=qd7 (decide (c=10)) l:=by
 cases l with
 |nil=>simp [qd7]
 |cons b l=>
  unfold qd7
  rw [List.getLast?_cons_cons]
  cases hb:(b::l).getLast? with
  |none=>simp at hb
  |some x=>rfl
theorem qo4:∀ (f:Bool) (l m:Bytes),sp f (l++m)=(sp f l && sp (qd7 f l) m)
 |f,[],m=>by simp [sp,qd7]
 |f,c::l,m=>by
  simp only [List.cons_append,sp]
  rw [qo4 _ l m,q6s,Bool.and_assoc]
theorem qkl (l:Bytes):yq l↔2≤l.length∧l.length≤50000∧l.getLast? = some 10∧sp true l=true:=by
 unfold yq
 rw [qdp]
theorem qe3:∀ (n u:Nat),u≤n→∀ c∈Lib.decDigits u,48≤c.toNat∧c.toNat≤57
 |n,u,hn,c,hc=>by
  by_cases h:u<10
  ·rw [Lib.decDigits_one h] at hc
   simp only [List.mem_singleton] at hc
   subst hc
   rw [UInt8.toNat_ofNat']
   omega
  ·rw [x6 h,List.mem_append] at hc
   cases n with
   |zero=>omega
   |succ n=>
    rcases hc with hc|hc
    ·exact qe3 n (u / 10) (by omega) c hc
    ·exact qe3 n (u % 10) (by omega) c hc
theorem qff (n:Nat):Lib.itoa (n:Int)=Lib.decDigits n:=by
 unfold Lib.itoa
 rw [if_neg (by omega)]
 simp
theorem qre (n:Nat):∀ c∈Lib.itoa (n:Int),48≤c.toNat∧c.toNat≤57:=by
 rw [qff]
 exact qe3 n n (Nat.le_refl _)
theorem qzw (u:Nat):Lib.decDigits u≠[]:=by
 intro h
 have:=congrArg List.length h
 rw [Lib.decDigits_length] at this
 have:=Lib.nDigits_pos u
 simp at *
 omega
theorem qw4:∀ (a:Nat) (l m:Bytes) (b:Nat),Lib.parseUint10 a l = .ok b→Lib.parseUint10 a (l++m)=Lib.parseUint10 b m
 |a,[],m,b,h=>by
  simp only [Lib.parseUint10,Lib.NumEnd.ok.injEq] at h
  subst h;rfl
 |a,c::l,m,b,h=>by
  simp only [List.cons_append,Lib.parseUint10] at h ⊢
  split at h
  ·rename_i hd
   rw [if_pos hd]
   split at h
   ·cases h
   ·rename_i h1
    rw [if_neg h1]
    split at h
    ·cases h
    ·rename_i h2
     rw [if_neg h2]
     exact qw4 _ l m b h
  ·cases h
theorem qw6:∀ (n u:Nat),u≤n→u<1000000000000000000→Lib.parseUint10 0 (Lib.decDigits u) = .ok u
 |n,u,hn,hu=>by
  have key:∀ (a d:Nat),a<100000000000000000→d<10→Lib.parseUint10 a (Lib.decDigits d) = .ok (a * 10+d):=by
   intro a d ha hd
   have e:(UInt8.ofNat (48+d)).toNat=48+d:=by rw [UInt8.toNat_ofNat'];omega
   rw [Lib.decDigits_one hd]
   simp only [Lib.parseUint10,e]
   rw [if_pos (by omega),if_neg (by omega),if_neg (by omega)]
   congr 1
   omega
  by_cases h:u<10
  ·have:=key 0 u (by omega) h
   simpa using this
  ·cases n with
   |zero=>omega
   |succ n=>
    rw [x6 h,qw4 0 _ _ (u / 10) (qw6 n (u / 10) (by omega) (by omega)),key _ _ (by omega) (by omega)]
    congr 1
    omega
theorem q8h {n:Nat} (h:n<1000000000000000000):Lib.atoiAll (Lib.itoa (n:Int)) = .ok (n:Int):=by
 have hp:=qw6 n n (Nat.le_refl _) h
 have hd:=qe3 n n (Nat.le_refl _)
 rw [qff]
 cases hl:Lib.decDigits n with
 |nil=>exact absurd hl (qzw n)
 |cons c r=>
  rw [hl] at hp hd
  have hc:=hd c (by simp)
  simp only [Lib.atoiAll]
  have h1:¬ (c.toNat=43∨c.toNat=45):=by omega
  rw [if_neg h1]
  have hm:Lib.parseMag (c::r) = .ok n:=by unfold Lib.parseMag;rw [if_neg (by simp)];exact hp
  rw [hm]
  have h2:¬ c.toNat=45:=by omega
  simp only [h2,not_false_iff,true_and,false_and,if_false]
  rw [if_neg (by omega)]
theorem qcm {n:Nat} (h1:1≤n) (h2:n≤50000):kl (Lib.itoa (n:Int))=n:=by
 have:=qtm (q8h (n:=n) (by omega))
 rw [if_pos ⟨rfl,by omega,by omega⟩] at this
 omega
theorem qcd {l:Bytes} {n:Nat} (h:kl l=n) (hn:1≤n):l=Lib.itoa (n:Int):=by
 unfold kl at h
 split at h
 ·split at h
  ·rename_i v _ hv
   have:v=(n:Int):=by omega
   rw [← this,hv.1]
  ·omega
 ·omega
theorem qlq:∀ (n u j:Nat),u≤n→1≤u→1≤j→j≤(Lib.decDigits u).length→∃ m,1≤m∧m≤u∧(Lib.decDigits u).take j=Lib.decDigits m
 |n,u,j,hn,hu,hj,hl=>by
  by_cases h:u<10
  ·refine⟨u,hu,Nat.le_refl _,?_⟩
   rw [Lib.decDigits_one h] at hl ⊢
   simp only [List.length_singleton] at hl
   have:j=1:=by omega
   subst this
   rfl
  ·cases n with
   |zero=>omega
   |succ n=>
    rw [x6 h] at hl ⊢
    have h1:(Lib.decDigits (u % 10)).length=1:=by rw [Lib.decDigits_one (by omega)];rfl
    rw [List.length_append,h1] at hl
    by_cases hj2:j≤(Lib.decDigits (u / 10)).length
    ·obtain⟨m,m1,m2,m3⟩:=qlq n (u / 10) j (by omega) (by omega) hj hj2
     exact⟨m,m1,by omega,by rw [List.take_append_of_le_length hj2,m3]⟩
    ·refine⟨u,hu,Nat.le_refl _,?_⟩
     rw [List.take_of_length_le (by rw [List.length_append,h1];omega),← x6 h]
end Go.Pl
namespace Go.Proofs.YtmoklbacdkmkaaaGreatDoor
open Go Go.Pl
def wh (n:Nat) (fig:Bytes):Bytes:=ze++(Lib.itoa n++32::fig)
theorem zcy (n:Nat) (fig:Bytes):qhg n fig=wh n fig++[10]:=by simp [qhg,wh,ze]
theorem qed (n:Nat) {c:UInt8} (h:¬ (48≤c.toNat∧c.toNat≤57)):c∉Lib.itoa (n:Int):=fun hc=>h (qre n c hc)
theorem qoh {f:Bytes} (h:wu f) {c:UInt8} (hc:c∉hexL):c∉f:=fun h'=>hc (h c h')
theorem qbx (n:Nat) {fig:Bytes} (h:wu fig):10∉wh n fig:=by
 unfold wh
 simp only [List.mem_append,List.mem_cons,not_or]
 exact⟨by decide,qed n (by decide),by decide,qoh h (by decide)⟩
theorem qix (l:Bytes):Lib.trimPrefix (ze++l) ze=l:=by
 rw [qdb (List.prefix_append _ _),List.drop_left]
theorem q1h {n:Nat} {fig:Bytes} (h2:2≤n) (hn:n≤50000) (hf:fig.length=8) (hx:wu fig):jd (wh n fig)=(n,fig,true):=by
 unfold jd wh
 have h32:32∉Lib.itoa (n:Int):=qed n (by decide)
 rw [qix,v8 fig h32,xu fig h32,qcm (by omega) hn]
 rw [decide_eq_true ⟨List.prefix_append _ _,by simp,h2,hf,hx⟩]
theorem qtw {n:Nat} {fig:Bytes} (r:Bytes) (h2:2≤n) (hn:n≤50000) (hf:fig.length=8) (hx:wu fig) :
  zb (wh n fig++10::r)=if r.length<n then (x3 r ((n:Int) - r.length),[],0)
   else if yq (r.take n) then xc (r.drop n) (r.take n) fig (qdh n) else (3,[],0):=by
 have hm:10∈wh n fig++10::r:=by simp
 have h10:=qbx n hx
 unfold zb
 rw [if_pos hm,v8 r h10,xu r h10,q1h h2 hn hf hx]
 simp only [if_true]
structure qun (n:Nat) (fig body:Bytes):Prop where
 two:2≤n
 most:n≤50000
 len:body.length=n
 good:yq body
 figs:fig.length=8
 hex:wu fig
def recL (n:Nat) (fig body:Bytes):Bytes:=wh n fig++10::(body++yu n)
theorem qpo (l:Bytes):recF l=recL l.length (sumF l) l:=by
 unfold recF recL
 rw [zcy]
 simp
theorem qfx {l a b:Bytes} (h:l <+: a++b):l <+: a∨∃ r,l=a++r∧r <+: b:=by
 rcases Nat.le_total l.length a.length with hl|hl
 ·exact .inl (List.prefix_of_prefix_length_le h (List.prefix_append _ _) hl)
 ·obtain⟨r,hr⟩:=List.prefix_of_prefix_length_le (List.prefix_append a b) h hl
  exact .inr ⟨r,hr.symm,by rw [← hr] at h;exact (List.prefix_append_right_inj a).1 h⟩
theorem qi4 {a b:Bytes} {c:UInt8} (h:a <+: b) (hc:c∉b):c∉a:=fun h'=>hc (h.subset h')
theorem q60 {a b:Bytes} (h:a <+: b) (hb:wu b):wu a:=fun c hc=>hb c (h.subset hc)
theorem qow {n:Nat} {fig l:Bytes} (h2:2≤n) (hn:n≤50000) (hf:fig.length=8) (hx:wu fig) (h:l <+: wh n fig):xq l=true:=by
 unfold wh at h
 rcases qfx h with h | ⟨t,rfl,ht⟩
 ·unfold xq
  by_cases hb:ze <+: l
  ·have e:l=ze:=(h.eq_of_length_le hb.length_le)
   rw [if_pos hb,e]
   decide
  ·rw [if_neg hb]
   exact decide_eq_true h
 ·unfold xq
  rw [if_pos (List.prefix_append _ _)]
  have ed:(ze++t).drop 7=t:=by rw [show (7:Nat)=ze.length by rfl,List.drop_left]
  rw [ed]
  have h32:32∉Lib.itoa (n:Int):=qed n (by decide)
  rcases qfx ht with ht | ⟨r,rfl,hr⟩
  ·have h3:32∉t:=qi4 ht h32
   rw [w7 h3]
   have hp:past 32 t=[]:=by unfold past;rw [w7 h3];simp
   rw [hp]
   refine decide_eq_true ⟨fun h'=>h3 h'.1,fun h'=>?_,by simp,by intro c hc;simp at hc⟩
   obtain⟨hne,h0⟩:=h'
   rw [qff] at ht
   have hpos:1≤t.length:=List.length_pos_iff.2 hne
   obtain⟨m,m1,m2,m3⟩:=qlq n n t.length (Nat.le_refl _) (by omega) hpos ht.length_le
   rw [← List.prefix_iff_eq_take.1 ht,← qff] at m3
   rw [m3,qcm m1 (by omega)] at h0
   omega
  ·cases r with
   |nil=>
    rw [List.append_nil,w7 h32]
    have hp:past 32 (Lib.itoa (n:Int))=[]:=by unfold past;rw [w7 h32];simp
    rw [hp,qcm (by omega) hn]
    exact decide_eq_true ⟨fun h'=>h32 h'.1,fun h'=>by omega,by simp,by intro c hc;simp at hc⟩
   |cons c r=>
    obtain⟨rfl,hr2⟩:=List.cons_prefix_cons.1 hr
    rw [v8 r h32,xu r h32,qcm (by omega) hn]
    exact decide_eq_true ⟨fun h'=>by omega,fun h'=>by omega,by have:=hr2.length_le;omega,q60 hr2 hx⟩
theorem q3m {n:Nat} {r body:Bytes} (hg:yq body) (hl:body.length=n) (hr:r <+: body) (hlt:r.length<n):x3 r ((n:Int) - r.length)=2:=by
 obtain⟨g1,g2,g3,g4⟩:=(qkl body).1 hg
 obtain⟨m,rfl⟩:=hr
 unfold x3
 rw [qdp]
 rw [qo4,Bool.and_eq_true] at g4
 refine if_pos ⟨g4.1,?_⟩
 rintro⟨h1,h2⟩
 have hm:m.length=1:=by simp at hl;omega
 obtain⟨c,rfl⟩:=List.length_eq_one_iff.1 hm
 rw [List.getLast?_append] at g3
 simp at g3
 subst g3
 have hf:qd7 true r=true:=by
  unfold qd7
  rcases h1 with rfl|h1
  ·rfl
  ·rw [h1];rfl
 rw [hf] at g4
 simp [sp] at g4
theorem zgc {n:Nat} {fig body l:Bytes} (R:qun n fig body) (h:l <+: recL n fig body) (hl:l.length<(recL n fig body).length):zb l=(2,[],0):=by
 obtain⟨h2,hn,hlen,hg,hf,hx⟩:=R
 unfold recL at h hl
 rcases qfx h with h | ⟨r,rfl,hr⟩
 ·have h10:10∉l:=qi4 h (qbx n hx)
  unfold zb
  rw [if_neg h10,if_pos (qow h2 hn hf hx h)]
 ·cases r with
  |nil=>
   rw [List.append_nil]
   unfold zb
   rw [if_neg (qbx n hx),if_pos (qow h2 hn hf hx (List.prefix_refl _))]
  |cons c r=>
   obtain⟨rfl,hr2⟩:=List.cons_prefix_cons.1 hr
   rw [qtw r h2 hn hf hx]
   rcases qfx hr2 with hr | ⟨q,rfl,hq⟩
   ·by_cases hlt:r.length<n
    ·rw [if_pos hlt,q3m hg hlen hr hlt]
    ·have e:r=body:=hr.eq_of_length_le (by omega)
     subst e
     rw [if_neg hlt,← hlen,List.take_length,if_pos hg,List.drop_length]
     unfold xc
     rw [if_pos ⟨by rw [qba];simp,by simp⟩]
   ·rw [if_neg (by simp;omega),← hlen,List.take_left,List.drop_left,if_pos hg]
    unfold xc
    rw [if_pos ⟨by simp at hl;rw [hlen];omega,by rw [hlen];exact hq⟩]
theorem qtt (f:Bytes) (hl:f.length≤8) (hx:wu f):∃ g:Bytes,g.length=8∧wu g∧f <+: g:=
 ⟨f++List.replicate (8 - f.length) 48,by simp;omega,fun c hc=>by
  rw [List.mem_append,List.mem_replicate] at hc
  rcases hc with hc | ⟨_,rfl⟩
  ·exact hx c hc
  ·decide,List.prefix_append _ _⟩
theorem qvn:∀ (k:Nat),sp false (List.replicate k 97++[10])=true
 | 0=>by simp [sp]
 |k+1=>by rw [List.replicate_succ,List.cons_append];simp only [sp];exact by simpa using qvn k
theorem qzo {n:Nat} {r:Bytes} (hn:n≤50000) (hlt:r.length<n) (h2:2≤n) (hp:x3 r ((n:Int) - r.length)=2):∃ body:Bytes,body.length=n∧yq body∧r <+: body:=by
 unfold x3 at hp
 split at hp
 ·rename_i h
  obtain⟨hs,hfr⟩:=h
  rw [qdp] at hs
  by_cases hf:r=[]∨r.getLast? = some 10
  ·have hk:r.length+2≤n:=by
    rcases Nat.lt_or_ge (r.length+1) n with h|h
    ·omega
    ·exact absurd ⟨hf,by omega⟩ hfr
   refine⟨r++(32::(List.replicate (n - r.length - 2) 97++[10])),by simp;omega,?_,List.prefix_append _ _⟩
   rw [qkl]
   refine⟨by simp;omega,by simp;omega,by simp [List.getLast?_append,List.getLast?_cons],?_⟩
   rw [qo4,hs]
   simp only [sp,Bool.true_and]
   have:=qvn (n - r.length - 2)
   simpa using this
  ·refine⟨r++(List.replicate (n - r.length - 1) 97++[10]),by simp;omega,?_,List.prefix_append _ _⟩
   rw [qkl]
   refine⟨by simp;omega,by simp;omega,by simp [List.getLast?_append],?_⟩
   rw [qo4,hs]
   have e:qd7 true r=false:=by
    unfold qd7
    cases hq:r.getLast? with
    |none=>exact absurd (.inl (List.getLast?_eq_none_iff.1 hq)) hf
    |some c=>
     refine decide_eq_false fun h=>hf (.inr ?_)
     rw [hq,h]
   rw [e,qvn]
   rfl
 ·simp at hp
theorem qf3 {n:Nat} (h2:2≤n) (hn:n≤50000):∃ body:Bytes,body.length=n∧yq body:=by
 obtain⟨b,h1,h3,_⟩:=qzo (n:=n) (r:=[]) hn (by simp;omega) h2 (by
  unfold x3
  rw [qdp]
  rw [if_pos ⟨rfl,by rintro⟨_,h⟩;simp at h;omega⟩])
 exact⟨b,h1,h3⟩
theorem qh3 {a b c:Bytes} (h:a <+: b):a <+: b++c:=h.trans (List.prefix_append _ _)
theorem qfu {n:Nat} {fig body l:Bytes} (h:l <+: wh n fig):l <+: recL n fig body∧l.length<(recL n fig body).length:=by
 refine⟨qh3 h,?_⟩
 have:=h.length_le
 unfold recL
 simp
 omega
theorem zga {l:Bytes} (h:(zb l).1=2):∃ n fig body,qun n fig body∧l <+: recL n fig body∧l.length<(recL n fig body).length:=by
 unfold zb at h
 split at h
 ·rename_i h10
  split at h
  ·rename_i ho
   generalize hr:past 10 l=r at *
   have hl:=wg h10
   rw [hr] at hl
   generalize hu:upto 10 l=u at *
   -- the first line
   have hop:u=wh (jd u).1 (jd u).2.1∧2≤(jd u).1∧(jd u).1≤50000∧(jd u).2.1.length=8∧wu (jd u).2.1:=by
    simp only [jd,decide_eq_true_eq] at ho ⊢
    obtain⟨o1,o2,o3,o4,o5⟩:=ho
    refine⟨?_,o3,qam _,o4,o5⟩
    obtain⟨t,rfl⟩:=o1
    rw [qix] at *
    have:=qcd rfl (Nat.le_trans (by decide) o3)
    unfold wh
    rw [← this,← wg o2]
   generalize (jd u).1=n at *
   generalize (jd u).2.1=fig at *
   obtain⟨rfl,h2,hn,hf,hx⟩:=hop
   split at h
   ·rename_i hlt
    obtain⟨body,b1,b2,b3⟩:=qzo hn hlt h2 h
    refine⟨n,fig,body,⟨h2,hn,b1,b2,hf,hx⟩,?_,?_⟩
    ·rw [hl]
     unfold recL
     rw [List.prefix_append_right_inj,List.cons_prefix_cons]
     exact⟨rfl,qh3 b3⟩
    ·rw [hl]
     unfold recL
     have:=b3.length_le
     have:=qba n
     simp
     omega
   ·rename_i hge
    split at h
    ·rename_i hg
     have hlen:(r.take n).length=n:=by simp;omega
     refine⟨n,fig,r.take n,⟨h2,hn,hlen,hg,hf,hx⟩,?_⟩
     unfold xc at h
     rw [hlen] at h
     split at h
     ·rename_i hc
      rw [hl]
      unfold recL
      constructor
      ·rw [List.prefix_append_right_inj,List.cons_prefix_cons]
       refine⟨rfl,?_⟩
       conv=>lhs;rw [← List.take_append_drop n r]
       rw [List.prefix_append_right_inj]
       exact hc.2
      ·have:=hc.1
       simp at this ⊢
       omega
     ·split at h <;> simp at h
    ·simp at h
  ·simp at h
 ·rename_i h10
  split at h
  ·rename_i ho
   unfold xq at ho
   split at ho
   ·rename_i hb
    obtain⟨t,rfl⟩:=hb
    have ed:(ze++t).drop 7=t:=by rw [show (7:Nat)=ze.length by rfl,List.drop_left]
    rw [ed] at ho
    obtain⟨o1,o2,o3,o4⟩:=of_decide_eq_true ho
    by_cases h32:32∈t
    ·have hn2:2≤kl (upto 32 t):=by
      rcases Nat.lt_or_ge (kl (upto 32 t)) 2 with h|h
      ·exact absurd ⟨h32,h⟩ o1
      ·exact h
     obtain⟨fig,f1,f2,f3⟩:=qtt _ o3 o4
     obtain⟨body,b1,b2⟩:=qf3 hn2 (qam _)
     refine⟨_,fig,body,⟨hn2,qam _,b1,b2,f1,f2⟩,qfu ?_⟩
     unfold wh
     rw [List.prefix_append_right_inj]
     conv=>lhs;rw [wg h32]
     rw [qcd (l:=upto 32 t) rfl (by omega)]
     rw [qcm (by omega) (qam _),List.prefix_append_right_inj,List.cons_prefix_cons]
     exact⟨rfl,f3⟩
    ·rw [w7 h32] at o2
     by_cases ht:t=[]
     ·subst ht
      obtain⟨body,b1,b2⟩:=qf3 (n:=2) (by omega) (by omega)
      refine⟨2,List.replicate 8 48,body,⟨by omega,by omega,b1,b2,by simp,by decide⟩,qfu ?_⟩
      unfold wh
      simp
     ·have hpos:1≤kl t:=by
       rcases Nat.eq_zero_or_pos (kl t) with h|h
       ·exact absurd ⟨ht,h⟩ o2
       ·exact h
      have hle:=qam t
      have ht2:=qcd (l:=t) rfl hpos
      generalize kl t=m at *
      subst ht2
      by_cases hm:m=1
      ·subst hm
       obtain⟨body,b1,b2⟩:=qf3 (n:=10) (by omega) (by omega)
       refine⟨10,List.replicate 8 48,body,⟨by omega,by omega,b1,b2,by simp,by decide⟩,qfu ?_⟩
       unfold wh
       rw [List.prefix_append_right_inj]
       have e1:Lib.itoa ((1:Nat):Int)=[49]:=by rw [qff,Lib.decDigits_one (by decide)];rfl
       have e2:Lib.itoa ((10:Nat):Int)=[49,48]:=by rw [qff,x6 (by decide),Lib.decDigits_one (by decide),Lib.decDigits_one (by decide)];rfl
       rw [e1,e2]
       exact⟨_,rfl⟩
      ·obtain⟨body,b1,b2⟩:=qf3 (n:=m) (by omega) (by omega)
       refine⟨m,List.replicate 8 48,body,⟨by omega,by omega,b1,b2,by simp,by decide⟩,qfu ?_⟩
       unfold wh
       rw [List.prefix_append_right_inj]
       exact List.prefix_append _ _
   ·rename_i hb
    have hp:=of_decide_eq_true ho
    obtain⟨body,b1,b2⟩:=qf3 (n:=2) (by omega) (by omega)
    refine⟨2,List.replicate 8 48,body,⟨by omega,by omega,b1,b2,by simp,by decide⟩,qfu ?_⟩
    unfold wh
    exact qh3 hp
  ·simp at h
theorem q3d (s:BitVec 32):wu (x7 s 8):=by
 intro c hc
 simp only [x7,List.mem_map] at hc
 obtain⟨j,_,rfl⟩:=hc
 unfold figP
 have h:=Go.Av.and15_lt (s >>> (4 * (7 - j)))
 generalize ((s >>> (4 * (7 - j))) &&& BitVec.ofInt 32 15).toNat=k at h
 have key:∀ i:Fin 16,([48,49,50,51,52,53,54,55,56,57,97,98,99,100,101,102]:Bytes).getD i.val 0∈hexL:=by decide
 exact key ⟨k,h⟩
theorem q3o (b:Bytes) (h:yq b):((recF b).length:Int)=qdh b.length:=by
 obtain⟨g1,g2,_⟩:=h
 unfold recF qdh
 rw [if_neg (by omega)]
 simp only [List.length_append,qdv,qlg]
 simp
end Go.Proofs.YtmoklbacdkmkaaaGreatDoor
namespace Go.Proofs.YtmoklbacdkmkaaaGreatDoor
open Go Go.Av Go.RowKit Go.Proofs Go.Pl
theorem q9f {l:Bytes} {k:Nat} (hk:k<l.length):qd7 true (l.take k)=decide (k=0∨l.getD (k - 1) 0=10):=by
 cases k with
 |zero=>simp [qd7]
 |succ k=>
  rw [qb6 (by omega)]
  simp [qd7,List.getLast?_append]
theorem q5k {l:Bytes} {k:Nat} (hk:k<l.length):sp true (l.take (k+1))=(sp true (l.take k) && (!decide (k=0∨l.getD (k - 1) 0=10) ||decide (l.getD k 0=32))):=by
 rw [qb6 hk,qo4,q9f hk]
 simp [sp]
theorem zic {l:Bytes} {k:Nat} (hk:k<l.length) (h1:k=0∨l.getD (k - 1) 0=10) (h2:l.getD k 0≠32):sp true l=false:=by
 cases h:sp true l with
 |false=>rfl
 |true=>
  have e:=za5 true (l.take (k+1)) (l.drop (k+1)) (by rw [List.take_append_drop];exact h)
  rw [q5k hk,decide_eq_true h1,decide_eq_false h2] at e
  simp at e
theorem ziy {l:Bytes} {k:Nat} (hk:k<l.length) (h1:sp true (l.take k)=true) (h2:(k=0∨l.getD (k - 1) 0=10)→l.getD k 0=32):sp true (l.take (k+1))=true:=by
 rw [q5k hk,h1]
 by_cases h:k=0∨l.getD (k - 1) 0=10
 ·rw [decide_eq_true h,decide_eq_true (h2 h)];rfl
 ·rw [decide_eq_false h];rfl
theorem qt2 (l:List UInt8) (st:List AObj) (hl:l.length<4294967281):qp E 116 [Sv l] st fun r st'=>r=Bv (sp true l)∧st'=st:=by
 refine qx (qs _) (qq Tryz.func116 rfl (Nat.le_of_ble_eq_true rfl) ?_)
 repeat' (first|apply qn|apply qw|apply qf|apply qh|apply qg)
 refine ju (fun (k:Nat) s=>k≤l.length∧sp true (l.take k)=true∧StA [(0,Sv l),(3,Iv k)] (st++[]) [] s) (fun k=>l.length - k) 0 ⟨by omega,by simp [sp],jb ⟨rfl,rfl,trivial⟩⟩ ?_
 rintro k _ ⟨hk,h1,t,rfl⟩
 repeat' (first|apply qn|apply qw|apply qf|apply qh|apply qj|apply qg|(apply qr;(iterate 3 exact rfl))|(apply qy;(iterate 4 exact rfl))|(apply ya;exact cAo)|(apply vq;exact cAo)|(apply vv;exact cAo)|(apply xw;exact cAo)|(apply qab;exact cRa)|(apply jn <;> intro h)|(apply ql;exact rfl;apply wx;exact cAo)|(apply ql;exact rfl;apply wn;exact cAo)|(apply ql;exact rfl;apply pk_t;exact cRa)|(apply qd;exact rfl;apply cd_f;exact cRa)|(apply qd;exact rfl;apply cd_d <;> intro h)|(apply zn;(iterate 3 exact rfl))|(apply zi;exact rfl;exact rfl;exact q8 (by omega) (by omega))|(apply xh;exact rfl;exact rfl;exact q8 (by omega) (by omega))|(apply v4;(iterate 3 exact rfl);exact cAs)|apply qv|apply z4|apply qt|(apply qhb;(iterate 3 exact rfl);omega;omega))
 all_goals
  have e1:((k:Int) - 1).toNat=k - 1:=by omega
  simp only [e1,quj,qbf,Classical.not_not] at *
 all_goals first
  |exact qo rfl (q5 rfl) ⟨congrArg Bv (zic (k:=k) (by omega) (by first|(left;omega)|(right;assumption)) (by assumption)).symm,_,rfl⟩
  |exact⟨k+1,⟨by omega,ziy (by omega) h1 (by first|(intro _;assumption)|(rintro (h|h);omega;contradiction)),jb ⟨rfl,rfl,trivial⟩⟩,by omega⟩
  |skip
 have e:k=l.length:=by omega
 subst e
 rw [List.take_length] at h1
 exact qo rfl (q5 rfl) ⟨congrArg Bv h1.symm,_,rfl⟩
theorem zaq (l:List UInt8) (st:List AObj) (hl:l.length<4294967281):qp E 117 [Sv l] st fun r st'=>r=Bv (decide (yq l))∧st'=st:=by
 refine qx (qs _) (qq Tryz.func117 rfl (Nat.le_of_ble_eq_true rfl) ?_)
 repeat' (first|apply qn|apply qf|apply qh|apply qj|apply qg|(apply qr;(iterate 3 exact rfl))|(apply qy;(iterate 4 exact rfl))|(apply ya;exact cAo)|(apply xw;exact cAo)|(apply xi;exact cRa)|(apply jn <;> intro h)|(apply ql;exact rfl;apply wx;exact cAo)|(apply ql;exact rfl;apply wn;exact cAo)|(apply ql;exact rfl;apply pk_f;exact cRa)|(apply zn;(iterate 3 exact rfl))|(apply xh;exact rfl;exact rfl;exact q8 (by omega) (by omega))|apply qt|(apply qhb;(iterate 3 exact rfl);omega;omega)|(apply qk;exact Tryz.call116;exact qt2 _ _ hl))
 all_goals
  have g:=qkl l
  have g2:1≤l.length→(l.getLast? = some 10↔((l.getD ((l.length:Int) - 1).toNat 0).toNat:Int)=10):=fun h=>by
   have e:((l.length:Int) - 1).toNat=l.length - 1:=by omega
   rw [e,qbf,List.getLast?_eq_getElem?]
   simp [List.getD,show l.length - 1<l.length by omega]
  refine qo rfl (q5 rfl) ⟨congrArg Bv (?_:_=decide (yq l)),_,rfl⟩
 ·have e:yq l↔sp true l=true:=by rw [g];exact⟨fun h=>h.2.2.2,fun h=>⟨by omega,by omega,(g2 (by omega)).2 (by assumption),h⟩⟩
  simp [e]
 ·exact (decide_eq_false fun h=>by rw [g] at h;exact absurd ((g2 (by omega)).1 h.2.2.1) (by assumption)).symm
 ·exact (decide_eq_false fun h=>by rw [g] at h;omega).symm
 ·exact (decide_eq_false fun h=>by rw [g] at h;omega).symm
theorem qqn (n:Nat) (f:List UInt8) (st:List AObj) (hn:n≤9223372036854775807) (hf:f.length<4294967281):qp E 118 [Iv n,Sv f] st fun r st'=>r = .tu [Sv (qhg n f),Sv (yu n)]∧st'=st:=by
 refine qx (qky _ _) (qq Tryz.func118 rfl (Nat.le_of_ble_eq_true rfl) ?_)
 have h1:=qdx n hn
 repeat' (first|apply qn|apply qf|apply qh|apply qj|apply qg|(apply jc;exact rfl;exact rfl;exact cOs)|apply qt|(apply qk;exact Tryz.call157;exact qe7 _ _ (by omega) (by omega)))
 exact qo rfl (ki rfl) ⟨zi2 (by simp [qhg,yu]),_,rfl⟩
theorem q3w (n:Int) (st:List AObj):qp E 121 [Iv n] st fun r st'=>r=Iv (qdh n)∧st'=st:=by
 refine qx (qs _) (qq Tryz.func121 rfl (Nat.le_of_ble_eq_true rfl) ?_)
 by_cases hr:n<2∨50000<n
 ·skip
  repeat' (first|apply qn|apply qf|apply qh|apply qj|apply qg|(apply qr;(iterate 3 exact rfl))|(apply qy;(iterate 4 exact rfl))|(apply vq;exact cAo)|(apply vv;exact cAo)|(apply jn <;> intro h)|(apply ql;exact rfl;apply wx;exact cAo)|(apply ql;exact rfl;apply wn;exact cAo)|(apply qd;exact rfl;apply ku;exact cAo)|(apply qd;exact rfl;apply cd_t;exact cRa)|apply qt)
  all_goals refine qo rfl (q5 rfl) ⟨congrArg Iv (?_:_=_),_,rfl⟩
  all_goals first|exact (if_pos hr).symm|omega
 ·obtain⟨k,rfl⟩:=Int.eq_ofNat_of_zero_le (by omega:0≤n)
  have h1:=qdx k (by omega)
  have h2:=qdv k [48,48,48,48,48,48,48,48]
  have h3:=qba k
  have h4:([48,48,48,48,48,48,48,48]:List UInt8).length=8:=rfl
  repeat' (first|apply qn|apply qf|apply qh|apply qj|apply qg|(apply zf;exact rfl;exact rfl)|(apply qr;(iterate 3 exact rfl))|(apply qy;(iterate 4 exact rfl))|(apply vq;exact cAo)|(apply ql;exact rfl;apply wn;exact cAo)|(apply qd;exact rfl;apply vc;exact cAo)|(apply zn;(iterate 3 exact rfl))|(apply zi;exact rfl;exact rfl;exact q8 (by omega) (by omega))|apply qv|apply qt|(apply qk;exact Tryz.call118;exact qqn k [48,48,48,48,48,48,48,48] _ (by omega) (by decide)))
  refine qo rfl (q5 rfl) ⟨congrArg Iv (?_:_=_),_,rfl⟩
  unfold qdh
  rw [if_neg hr]
  rfl
theorem q4w {l:Bytes} (h:0<l.length):l.head? = some 37↔((l.getD 0 0).toNat:Int)=37:=by
 cases l with
 |nil=>simp at h
 |cons c l=>
  simp only [List.head?_cons,Option.some.injEq,List.getD_cons_zero]
  exact (zi3 _).symm
theorem q1w (l:List UInt8) (st:List AObj) (hl:l.length<4294967281):qp E 62 [Sv l] st fun r st'=>r=Bv (decide (l.head? = some 37∧qz l=5))∧st'=st:=by
 refine qx (qs _) (qq Tryz.func62 rfl (Nat.le_of_ble_eq_true rfl) ?_)
 repeat' (first|apply qn|apply qf|apply qh|apply qj|apply qg|(apply qr;(iterate 3 exact rfl))|(apply qy;(iterate 4 exact rfl))|(apply ya;exact cAo)|(apply xw;exact cAo)|(apply xi;exact cRa)|(apply jn <;> intro h)|(apply ql;exact rfl;apply wx;exact cAo)|(apply ql;exact rfl;apply wn;exact cAo)|(apply ql;exact rfl;apply pk_f;exact cRa)|(apply zn;(iterate 3 exact rfl))|(apply v4;(iterate 3 exact rfl);exact cAs)|apply qt|(apply qk;exact Tryz.call108;exact qfz _ _ hl))
 all_goals refine qo rfl (q5 rfl) ⟨congrArg Bv (?_:_=decide (l.head? = some 37∧qz l=5)),_,rfl⟩
 ·have e:l.head? = some 37:=(q4w (by omega)).2 (by assumption)
  simp [e]
 ·exact (decide_eq_false fun h=>absurd ((q4w (by omega)).1 h.1) (by assumption)).symm
 ·have e:l=[]:=List.length_eq_zero_iff.1 (by omega)
  subst e
  rfl
end Go.Proofs.YtmoklbacdkmkaaaGreatDoor
namespace Go.Proofs.YtmoklbacdkmkaaaGreatDoor
open Go Go.Pl
theorem qhd:(10:UInt8)∉ze:=by decide
theorem qtn {l:Bytes} (h1:10∈l→(jd (upto 10 l)).2.2=false) (h2:10∉l→xq l=false):zb l=(3,[],0):=by
 unfold zb
 by_cases h:10∈l
 ·rw [if_pos h,if_neg (by rw [h1 h];simp)]
 ·rw [if_neg h,if_neg (by rw [h2 h];simp)]
theorem zej (c:UInt8) (l:Bytes):upto c l <+: l:=by
 rw [← qf5 c l]
 exact List.take_prefix _ _
theorem R1 {l:Bytes} (hl:l.length≤7) (h:l <+: ze):zb l=(2,[],0):=by
 have h10:10∉l:=qi4 h qhd
 unfold zb
 rw [if_neg h10,if_pos ?_]
 unfold xq
 by_cases hb:ze <+: l
 ·rw [if_pos hb,h.eq_of_length_le hb.length_le];decide
 ·rw [if_neg hb];exact decide_eq_true h
theorem R2 {l:Bytes} (hl:l.length≤7) (h:¬ l <+: ze):zb l=(3,[],0):=by
 refine qtn (fun h10=>decide_eq_false fun h'=>?_) (fun h10=>?_)
 ·have:=h'.1.length_le
  have:=qem h10
  have e:ze.length=7:=rfl
  omega
 ·unfold xq
  by_cases hb:ze <+: l
  ·have:=hb.eq_of_length_le hl
   exact absurd (this▸List.prefix_refl _) h
  ·rw [if_neg hb];exact decide_eq_false h
theorem R3 {l:Bytes} (hl:7<l.length) (h:¬ ze <+: l):zb l=(3,[],0):=by
 refine qtn (fun h10=>decide_eq_false fun h'=>h (h'.1.trans (zej 10 l))) (fun h10=>?_)
 unfold xq
 rw [if_neg h]
 refine decide_eq_false fun h'=>?_
 have:=h'.length_le
 have e:ze.length=7:=rfl
 omega
theorem qkg {n:Nat} {s r:Bytes} {c:UInt8} (hc:yj c=false) (h:s=Lib.itoa (n:Int)++c::r):s.takeWhile yj=Lib.itoa (n:Int):=by
 subst h
 have hd:=qre n
 rw [List.takeWhile_append_of_pos (fun x hx=>by simp only [yj,decide_eq_true_eq];exact hd x hx),List.takeWhile_cons_of_neg (by simp [hc]),List.append_nil]
theorem qvz {p:UInt8→Bool} {l:Bytes}:l.takeWhile p=l↔∀ c∈l,p c=true:=by
 induction l with
 |nil=>simp
 |cons b l ih=>
  by_cases h:p b=true
  ·rw [List.takeWhile_cons_of_pos h];simp [ih,h]
  ·rw [List.takeWhile_cons_of_neg h];simp [h]
theorem zck {n:Nat}:(Lib.itoa (n:Int)).takeWhile yj=Lib.itoa (n:Int):=by
 rw [qvz]
 intro x hx
 simp only [yj,decide_eq_true_eq]
 exact qre n x hx
theorem qvt {p:UInt8→Bool} (s:Bytes):s.take (s.takeWhile p).length=s.takeWhile p:=by
 induction s with
 |nil=>rfl
 |cons b s ih=>
  by_cases h:p b=true
  ·rw [List.takeWhile_cons_of_pos h];simp [ih]
  ·rw [List.takeWhile_cons_of_neg h];rfl
theorem qoc {s:Bytes} (hs:s≠[]) (h:zb (ze++s)≠(3,[],0)):∃ n:Nat,1≤n∧n≤50000∧s.takeWhile yj=Lib.itoa (n:Int)∧(s=Lib.itoa (n:Int)∨2≤n∧∃ r,s=Lib.itoa (n:Int)++32::r∧(10∉r→r.length≤8∧wu r)∧(10∈r→(upto 10 r).length=8∧wu (upto 10 r))):=by
 have e10:10∈ze++s↔10∈s:=by simp [qhd]
 have ed:(ze++s).drop 7=s:=by rw [show (7:Nat)=ze.length by rfl,List.drop_left]
 by_cases h10:10∈s
 ·have ho:(jd (upto 10 (ze++s))).2.2=true:=by
   cases hq:(jd (upto 10 (ze++s))).2.2 with
   |true=>rfl
   |false=>exact absurd (qtn (fun _=>hq) (fun h'=>absurd (e10.2 h10) h')) h
  have eu:upto 10 (ze++s)=ze++upto 10 s:=by
   conv=>lhs;rw [wg h10,← List.append_assoc]
   exact v8 _ (by simp [qhd,qal])
  rw [eu] at ho
  simp only [jd,decide_eq_true_eq,qix] at ho
  obtain⟨_,o2,o3,o4,o5⟩:=ho
  have hn:=qcd (l:=upto 32 (upto 10 s)) rfl (by omega)
  have hle:=qam (upto 32 (upto 10 s))
  generalize kl (upto 32 (upto 10 s))=n at *
  have e1:=wg o2
  rw [hn] at e1
  have e2:=wg h10
  generalize hf:past 32 (upto 10 s)=f at *
  have hf10:10∉f:=by
   have:=qal 10 s
   rw [e1] at this
   simp only [List.mem_append,List.mem_cons,not_or] at this
   exact this.2.2
  rw [e1,List.append_assoc,List.cons_append] at e2
  refine⟨n,by omega,hle,qkg (by decide) e2,.inr ⟨o3,_,e2,fun h'=>absurd (by simp:(10:UInt8)∈f++10::past 10 s) h',fun _=>?_⟩⟩
  rw [v8 _ hf10]
  exact⟨o4,o5⟩
 ·have ho:xq (ze++s)=true:=by
   cases hq:xq (ze++s) with
   |true=>rfl
   |false=>exact absurd (qtn (fun h'=>absurd (e10.1 h') h10) (fun _=>hq)) h
  unfold xq at ho
  rw [if_pos (List.prefix_append _ _),ed] at ho
  obtain⟨o1,o2,o3,o4⟩:=of_decide_eq_true ho
  by_cases h32:32∈s
  ·have hn2:2≤kl (upto 32 s):=by
    rcases Nat.lt_or_ge (kl (upto 32 s)) 2 with h|h
    ·exact absurd ⟨h32,h⟩ o1
    ·exact h
   have hn:=qcd (l:=upto 32 s) rfl (by omega)
   have hle:=qam (upto 32 s)
   generalize kl (upto 32 s)=n at *
   have e1:=wg h32
   rw [hn] at e1
   refine⟨n,by omega,hle,qkg (by decide) e1,.inr ⟨hn2,_,e1,fun _=>⟨o3,o4⟩,fun h'=>absurd (e1▸by simp [h']:(10:UInt8)∈s) h10⟩⟩
  ·rw [w7 h32] at o2
   have hpos:1≤kl s:=by
    rcases Nat.eq_zero_or_pos (kl s) with h|h
    ·exact absurd ⟨hs,h⟩ o2
    ·exact h
   have hn:=qcd (l:=s) rfl hpos
   have hle:=qam s
   generalize kl s=n at *
   subst hn
   exact⟨n,hpos,hle,zck,.inl rfl⟩
theorem q0t {m n:Nat} (hm:m≤50000) (hn:n≤50000) (h:Lib.itoa (m:Int)=Lib.itoa (n:Int)):m=n:=by
 have:=congrArg numZ h
 rw [qfw (by omega) (by omega),qfw (by omega) (by omega)] at this
 simp at this
 omega
theorem q61 {n:Nat} (h:n≤50000):(Lib.itoa (n:Int)).length≤5:=by
 rw [qff,Lib.decDigits_length]
 exact qec 4 n (by omega)
theorem R5 {s:Bytes} (hs:s≠[]) (h:∀ n:Nat,1≤n→n≤50000→s.takeWhile yj≠Lib.itoa (n:Int)):zb (ze++s)=(3,[],0):=by
 refine Classical.byContradiction fun hc=>?_
 obtain⟨n,h1,h2,h3,_⟩:=qoc hs hc
 exact h n h1 h2 h3
theorem R6 {n:Nat} (h1:1≤n) (h2:n≤50000):zb (ze++Lib.itoa (n:Int))=(2,[],0):=by
 have h32:32∉Lib.itoa (n:Int):=qed n (by decide)
 have h10:10∉ze++Lib.itoa (n:Int):=by
  simp only [List.mem_append,not_or]
  exact⟨qhd,qed n (by decide)⟩
 have ed:(ze++Lib.itoa (n:Int)).drop 7=Lib.itoa (n:Int):=by rw [show (7:Nat)=ze.length by rfl,List.drop_left]
 unfold zb
 rw [if_neg h10,if_pos ?_]
 unfold xq
 rw [if_pos (List.prefix_append _ _),ed,w7 h32,qcm h1 h2]
 have hp:past 32 (Lib.itoa (n:Int))=[]:=by unfold past;rw [w7 h32];simp
 rw [hp]
 exact decide_eq_true ⟨fun h'=>h32 h'.1,fun h'=>by omega,by simp,by intro c hc;simp at hc⟩
theorem R7 {n:Nat} {c:UInt8} {r:Bytes} (h2:n≤50000) (hd:yj c=false) (h:c≠32∨n<2):zb (ze++(Lib.itoa (n:Int)++c::r))=(3,[],0):=by
 refine Classical.byContradiction fun hc=>?_
 obtain⟨m,m1,m2,m3,m4⟩:=qoc (by simp) hc
 rw [qkg hd rfl] at m3
 have e:=q0t h2 m2 m3
 subst e
 rcases m4 with m4 | ⟨m4,r2,m5,_⟩
 ·have:=congrArg List.length m4
  simp at this
 ·rw [List.append_cancel_left_eq,List.cons.injEq] at m5
  rcases h with h|h
  ·exact h m5.1
  ·omega
theorem q5b {n:Nat} {r:Bytes} (h1:2≤n) (h2:n≤50000) (h:¬ ((10∉r→r.length≤8∧wu r)∧(10∈r→(upto 10 r).length=8∧wu (upto 10 r)))):zb (ze++(Lib.itoa (n:Int)++32::r))=(3,[],0):=by
 refine Classical.byContradiction fun hc=>?_
 obtain⟨m,m1,m2,m3,m4⟩:=qoc (by simp) hc
 rw [qkg (by decide) rfl] at m3
 have e:=q0t h2 m2 m3
 subst e
 rcases m4 with m4 | ⟨m4,r2,m5,m6,m7⟩
 ·have:=congrArg List.length m4
  simp at this
 ·rw [List.append_cancel_left_eq,List.cons.injEq] at m5
  obtain⟨_,rfl⟩:=m5
  exact h ⟨m6,m7⟩
theorem qpf (c:UInt8):qax c=true↔c∈hexL:=by
 have key:∀ i:Fin 256,qax (UInt8.ofNat i.val)=true↔UInt8.ofNat i.val∈hexL:=by decide +kernel
 have:=key ⟨c.toNat,UInt8.toNat_lt c⟩
 simpa using this
theorem zbp {p:UInt8→Bool} {l:Bytes} (h:(l.takeWhile p).length=l.length):∀ c∈l,p c=true:=by
 have e:l.takeWhile p=l:=(List.takeWhile_prefix p).eq_of_length h
 rwa [qvz] at e
theorem R8 {n:Nat} {r:Bytes} (h1:2≤n) (h2:n≤50000) (h:((r.take 8).takeWhile qax).length=r.length):zb (ze++(Lib.itoa (n:Int)++32::r))=(2,[],0):=by
 have hle:((r.take 8).takeWhile qax).length≤(r.take 8).length:=(List.takeWhile_prefix qax).length_le
 have hl:r.length≤8:=by simp at hle;omega
 rw [List.take_of_length_le hl] at h
 have hx:wu r:=fun c hc=>(qpf c).1 (zbp h c hc)
 obtain⟨fig,f1,f2,f3⟩:=qtt r hl hx
 obtain⟨body,b1,b2⟩:=qf3 h1 h2
 have R:qun n fig body:=⟨h1,h2,b1,b2,f1,f2⟩
 have hp:=qfu (n:=n) (fig:=fig) (body:=body) (l:=ze++(Lib.itoa (n:Int)++32::r)) (by
  unfold wh
  rw [List.prefix_append_right_inj,List.prefix_append_right_inj,List.cons_prefix_cons]
  exact⟨rfl,f3⟩)
 exact zgc R hp.1 hp.2
theorem zbq {p:UInt8→Bool} {l m:Bytes} (hm:m <+: l) (h:∀ c∈m,p c=true):m.length≤(l.takeWhile p).length:=by
 obtain⟨r,rfl⟩:=hm
 rw [List.takeWhile_append_of_pos h]
 simp
theorem R9 {n:Nat} {r:Bytes} (h1:2≤n) (h2:n≤50000) (hne:((r.take 8).takeWhile qax).length≠r.length) (h:((r.take 8).takeWhile qax).length<8):zb (ze++(Lib.itoa (n:Int)++32::r))=(3,[],0):=by
 refine q5b h1 h2 fun ⟨g1,g2⟩=>?_
 by_cases h10:10∈r
 ·obtain⟨a,b⟩:=g2 h10
  have hp:upto 10 r <+: r.take 8:=by
   have e:r.take 8=upto 10 r:=by rw [← a,qf5]
   rw [e]
   exact List.prefix_refl _
  have:=zbq (p:=qax) hp (fun c hc=>(qpf c).2 (b c hc))
  omega
 ·obtain⟨a,b⟩:=g1 h10
  rw [List.take_of_length_le a] at hne
  have e:r.takeWhile qax=r:=by rw [qvz];exact fun c hc=>(qpf c).2 (b c hc)
  exact hne (by rw [e])
theorem R10 {n:Nat} {r:Bytes} (h1:2≤n) (h2:n≤50000) (hl:8<r.length) (h:r.getD 8 0≠10):zb (ze++(Lib.itoa (n:Int)++32::r))=(3,[],0):=by
 refine q5b h1 h2 fun ⟨g1,g2⟩=>?_
 by_cases h10:10∈r
 ·obtain⟨a,b⟩:=g2 h10
  have e:=wg h10
  apply h
  rw [e,List.getD,List.getElem?_append_right (by omega),a]
  rfl
 ·have:=(g1 h10).1
  omega
theorem R11 {n:Nat} {r:Bytes} (hl:8<r.length) (h:r.getD 8 0=10) (hx:((r.take 8).takeWhile qax).length=8) :
  ze++(Lib.itoa (n:Int)++32::r)=wh n (r.take 8)++10::r.drop 9∧(r.take 8).length=8∧wu (r.take 8):=by
 have h8:(r.take 8).length=8:=by simp;omega
 refine⟨?_,h8,fun c hc=>(qpf c).1 (zbp (by rw [hx,h8]) c hc)⟩
 have e:r=r.take 8++10::r.drop 9:=by
  conv=>lhs;rw [← List.take_append_drop 8 r]
  rw [List.drop_eq_getElem_cons hl]
  congr 2
  simpa [List.getD,hl] using h
 unfold wh
 conv=>lhs;rw [e]
 simp
end Go.Proofs.YtmoklbacdkmkaaaGreatDoor
namespace Go.Proofs.YtmoklbacdkmkaaaGreatDoor
open Go Go.Av Go.RowKit Go.Proofs Go.Pl
structure qf8 (l S:Bytes) (K n:Nat):Prop where
 hl:l=ze++S
 hK:(S.takeWhile yj).length=K
 hD:S.take K=Lib.itoa (n:Int)
 h1:1≤n
 h2:n≤50000
theorem qf8.split {l S:Bytes} {K n:Nat} (A:qf8 l S K n) (h:K<S.length):S=Lib.itoa (n:Int)++S.getD K 0::S.drop (K+1)∧yj (S.getD K 0)=false:=by
 have e:S=S.take K++S.getD K 0::S.drop (K+1):=by
  conv=>lhs;rw [← List.take_append_drop K S]
  rw [List.drop_eq_getElem_cons h]
  congr 2
  simp [List.getD,h]
 refine⟨by rw [← A.hD];exact e,?_⟩
 cases hc:yj (S.getD K 0) with
 |false=>rfl
 |true=>
  have hp:S.take (K+1) <+: S:=List.take_prefix _ _
  have:=zbq (p:=yj) hp (fun c hc'=>by
   rw [qb6 h,List.mem_append,List.mem_singleton] at hc'
   rcases hc' with hc'|rfl
   ·rw [← A.hK,qvt] at hc'
    have ha:=List.all_takeWhile (p:=yj) (l:=S)
    rw [List.all_eq_true] at ha
    exact ha c hc'
   ·exact hc)
  rw [A.hK] at this
  simp at this
  omega
theorem qf8.l6 {l S:Bytes} {K n:Nat} (A:qf8 l S K n) (h:K=S.length):zb l=(2,[],0):=by
 have e:S=Lib.itoa (n:Int):=by rw [← A.hD,h,List.take_length]
 rw [A.hl,e]
 exact R6 A.h1 A.h2
theorem qf8.l7 {l S:Bytes} {K n:Nat} (A:qf8 l S K n) (h:K<S.length) (hc:S.getD K 0≠32∨n<2):zb l=(3,[],0):=by
 obtain⟨e,hd⟩:=A.split h
 rw [A.hl,e]
 exact R7 A.h2 hd hc
theorem qf8.at32 {l S R:Bytes} {K n:Nat} (A:qf8 l S K n) (h:K<S.length) (hc:S.getD K 0=32) (hR:S.drop (K+1)=R):l=ze++(Lib.itoa (n:Int)++32::R):=by
 obtain⟨e,hd⟩:=A.split h
 rw [hc,hR] at e
 rw [A.hl,← e]
theorem qf8.l11 {l S R T:Bytes} {K n:Nat} (A:qf8 l S K n) (h:K<S.length) (hc:S.getD K 0=32) (hR:S.drop (K+1)=R) (h2:2≤n) (hl:8<R.length) (h8:R.getD 8 0=10) (hx:((R.take 8).takeWhile qax).length=8) (hT:R.drop 9=T) :
  zb l=if T.length<n then (x3 T ((n:Int) - T.length),[],0) else if yq (T.take n) then xc (T.drop n) (T.take n) (R.take 8) (qdh n) else (3,[],0):=by
 rw [A.at32 h hc hR]
 obtain⟨e,g1,g2⟩:=R11 (n:=n) hl h8 hx
 rw [e,hT]
 exact qtw _ h2 A.h2 g1 g2
theorem qjs {l m:List UInt8} (st:List AObj) (hl:l.length<4294967281) (h:m <+: l):qp E 113 [Sv l,Sv m] st fun r st'=>r=Bv true∧st'=st:=by
 have:=qgm l m st hl
 rw [decide_eq_true h] at this
 exact this
theorem q1v {l m:List UInt8} (st:List AObj) (hl:l.length<4294967281) (h:¬ m <+: l):qp E 113 [Sv l,Sv m] st fun r st'=>r=Bv false∧st'=st:=by
 have:=qgm l m st hl
 rw [decide_eq_false h] at this
 exact this
set_option maxHeartbeats 4000000 in
theorem q7q (l:List UInt8) (st:List AObj) (hl:l.length<4294967281) (hb:l.length≤7∨¬ ze <+: l):qp E 64 [Sv l] st fun r st'=>r = .tu [Iv (zb l).1,Sv (zb l).2.1,Iv (zb l).2.2]∧st'=st:=by
 refine qx (qb0 _ _ _) (qq Tryz.func64 rfl (Nat.le_of_ble_eq_true rfl) ?_)
 by_cases h7:l.length≤7
 ·skip
  repeat' (first|apply qn|apply qf|apply qh|apply qj|apply qg|(apply qr;(iterate 3 exact rfl))|(apply qd;exact rfl;apply ku;exact cAo)|(apply qd;exact rfl;apply cd_d <;> intro h)|(apply zn;(iterate 3 exact rfl))|apply qv|apply qt|(apply qk;exact Tryz.call112;exact qly l ze _ (by decide)))
  all_goals refine qo rfl (x5 rfl) ⟨qui (?_:_=zb l),_,rfl⟩
  ·exact (R1 h7 (by assumption)).symm
  ·exact (R2 h7 (by assumption)).symm
 ·have hb2:¬ ze <+: l:=hb.resolve_left h7
  repeat' (first|apply qn|apply qf|apply qh|apply qj|apply qg|(apply qr;(iterate 3 exact rfl))|(apply je;exact rfl)|(apply qd;exact rfl;apply vc;exact cAo)|(apply qd;exact rfl;apply qkd;exact cRa)|(apply zn;(iterate 3 exact rfl))|apply qv|apply qt|(apply qk;exact Tryz.call113;exact q1v (m:=ze) _ hl hb2))
  all_goals refine qo rfl (x5 rfl) ⟨qui (?_:_=zb l),_,rfl⟩
  all_goals exact (R3 (by omega) hb2).symm
theorem qh5 {l:List UInt8} {k:Nat} (st:List AObj) (hl:l.length<4294967281) (h:(l.takeWhile yj).length=k):qp E 114 [Sv l] st fun r st'=>r=Iv k∧st'=st:=by
 subst h
 exact q11 l st hl
theorem zar {l:List UInt8} {k:Nat} (st:List AObj) (hl:l.length<4294967281) (h:((l.take 8).takeWhile qax).length=k):qp E 115 [Sv l] st fun r st'=>r=Iv k∧st'=st:=by
 subst h
 exact zdw l st hl
theorem qvy {l b:List UInt8} {k n:Int} (h:zb l=(k,b,n)):AV.tu [Iv k,Sv b,Iv n] = .tu [Iv (zb l).1,Sv (zb l).2.1,Iv (zb l).2.2]:=by rw [h]
set_option maxHeartbeats 8000000 in
theorem q7r (l S:List UInt8) (K:Nat) (st:List AObj) (hl:l.length<4294967281) (h7:7<l.length) (hb:l=ze++S) (hK:(S.takeWhile yj).length=K) (hn:∀ n:Nat,1≤n→n≤50000→S.takeWhile yj≠Lib.itoa (n:Int)):qp E 64 [Sv l] st fun r st'=>r = .tu [Iv (zb l).1,Sv (zb l).2.1,Iv (zb l).2.2]∧st'=st:=by
 have hS:l.drop 7=S:=by rw [hb,show (7:Nat)=ze.length by rfl,List.drop_left]
 have hSl:S.length=l.length - 7:=by rw [← hS];simp
 have hbp:ze <+: l:=⟨S,hb.symm⟩
 have hne:S≠[]:=fun e=>by rw [e] at hSl;simp at hSl;omega
 have hKle:K≤S.length:=hK▸(List.takeWhile_prefix yj).length_le
 have hD:S.take K=S.takeWhile yj:=by rw [← hK,qvt]
 have hr:zb l=(3,[],0):=hb▸R5 hne hn
 refine qx (qb0 _ _ _) (qq Tryz.func64 rfl (Nat.le_of_ble_eq_true rfl) ?_)
 cases hz:numZ (S.take K) with
 |none=>
  repeat' (first|(apply qga (n:=7) hS;(iterate 3 exact rfl);omega)|apply qn|apply qf|apply qh|apply qj|apply qg|(apply zf;exact rfl;exact rfl)|(apply qr;(iterate 3 exact rfl))|(apply je;exact rfl)|(apply qy;(iterate 4 exact rfl))|(apply qbw;exact cRa)|(apply qa1;exact cRa)|(apply ql;exact rfl;apply qio;exact cRa)|(apply ql;exact rfl;apply pk_t;exact cRa)|(apply qd;exact rfl;apply vc;exact cAo)|(apply qd;exact rfl;apply qkc;exact cRa)|(apply qd;exact rfl;apply cd_t;exact cRa)|(apply qd;exact rfl;apply cd_d <;> intro h)|(apply zn;(iterate 3 exact rfl))|(apply qbm;(iterate 3 exact rfl);exact cAs)|apply qv|apply qt|(apply qk;exact Tryz.call113;exact qjs (m:=ze) _ hl hbp)|(apply qk;exact Tryz.call114;exact qh5 _ (by omega) hK)|(apply qk;exact Tryz.call106;exact qgn _ _ (by simp;omega) hz))
  all_goals first
   |(exfalso;omega)
   |contradiction
   |exact qo rfl (x5 rfl) ⟨qvy hr,_,rfl⟩
 |some v=>
  have hv:=qkv hz
  have hv2:¬ (1≤v∧v≤50000):=fun h=>hn v.toNat (by omega) (by omega) (by rw [← hD,hv.1,Int.toNat_of_nonneg (by omega)])
  repeat' (first|(apply qga (n:=7) hS;(iterate 3 exact rfl);omega)|apply qn|apply qf|apply qh|apply qj|apply qg|(apply zf;exact rfl;exact rfl)|(apply qr;(iterate 3 exact rfl))|(apply je;exact rfl)|(apply qy;(iterate 4 exact rfl))|(apply vq;exact cAo)|(apply vv;exact cAo)|(apply qao;exact cRa)|(apply jn <;> intro h)|(apply ql;exact rfl;apply wx;exact cAo)|(apply ql;exact rfl;apply wn;exact cAo)|(apply ql;exact rfl;apply qe6;exact cRa)|(apply qd;exact rfl;apply ku;exact cAo)|(apply qd;exact rfl;apply vc;exact cAo)|(apply qd;exact rfl;apply qkc;exact cRa)|(apply qd;exact rfl;apply cd_t;exact cRa)|(apply qd;exact rfl;apply cd_d <;> intro h)|(apply zn;(iterate 3 exact rfl))|(apply qbm;(iterate 3 exact rfl);exact cAs)|apply qv|apply qt|(apply qk;exact Tryz.call113;exact qjs (m:=ze) _ hl hbp)|(apply qk;exact Tryz.call114;exact qh5 _ (by omega) hK)|(apply qk;exact Tryz.call106;exact qd1 _ v _ (by simp;omega) hz))
  all_goals first
   |(exfalso;omega)
   |contradiction
   |exact qo rfl (x5 rfl) ⟨qvy hr,_,rfl⟩
theorem qvg {T:Bytes} {lack:Int} (h1:sp true T=true) (h2:T.length=0→2≤lack) (h3:T.getLast? = some 10→2≤lack):x3 T lack=2:=by
 unfold x3
 rw [qdp]
 refine if_pos ⟨h1,?_⟩
 rintro⟨h|h,h'⟩
 ·have:=h2 (by rw [h];rfl)
  omega
 ·have:=h3 h
  omega
theorem q1m {T:Bytes} {lack:Int} (h:sp true T=false):x3 T lack=3:=by
 unfold x3
 rw [qdp]
 exact if_neg fun h'=>by rw [h] at h';simp at h'
theorem zdj {T:Bytes} {lack:Int} (h1:T.getLast? = some 10) (h2:lack<2):x3 T lack=3:=by
 unfold x3
 exact if_neg fun h'=>h'.2 ⟨.inr h1,h2⟩
theorem q41 {T:Bytes} (h:T.length≠0):T.getLast? = some 10↔T.getD ((T.length:Int) - 1).toNat 0=10:=by
 have e:((T.length:Int) - 1).toNat=T.length - 1:=by omega
 rw [e,List.getLast?_eq_getElem?]
 simp [List.getD,show T.length - 1<T.length by omega]
theorem zfb {U B f:Bytes} {z:Int} (h1:¬ U.length<(yu B.length).length) (h2:yu B.length <+: U) (h3:f=sumF B):xc U B f z=(1,B,z):=by
 unfold xc
 rw [if_neg (fun h=>h1 h.1),if_pos ⟨h2,h3⟩]
theorem zfc {U B f:Bytes} {z:Int} (h1:U.length<(yu B.length).length) (h2:U <+: yu B.length):xc U B f z=(2,[],0):=by
 unfold xc
 rw [if_pos ⟨h1,h2⟩]
theorem qu3 {U B f:Bytes} {z:Int} (h1:¬ (U.length<(yu B.length).length∧U <+: yu B.length)) (h2:¬ (yu B.length <+: U∧f=sumF B)):xc U B f z=(3,[],0):=by
 unfold xc
 rw [if_neg h1,if_neg h2]
set_option maxHeartbeats 16000000 in
theorem q7s (l S R T:List UInt8) (K H n:Nat) (st:List AObj) (hl:l.length<4294967281) (h7:7<l.length) (A:qf8 l S K n) (hR:S.drop (K+1)=R) (hH:((R.take 8).takeWhile qax).length=H) (hT:R.drop 9=T):qp E 64 [Sv l] st fun r st'=>r = .tu [Iv (zb l).1,Sv (zb l).2.1,Iv (zb l).2.2]∧st'=st:=by
 have hb:=A.hl
 have hK:=A.hK
 have hn1:=A.h1
 have hn2:=A.h2
 have hS:l.drop 7=S:=by rw [hb,show (7:Nat)=ze.length by rfl,List.drop_left]
 have hSl:S.length=l.length - 7:=by rw [← hS];simp
 have hbp:ze <+: l:=⟨S,hb.symm⟩
 have hKle:K≤S.length:=hK▸(List.takeWhile_prefix yj).length_le
 have hz:numZ (S.take K)=some (n:Int):=by rw [A.hD];exact qfw (by omega) (by omega)
 have hK5:K≤5:=by
  have h1:=q61 hn2
  have h2:=congrArg List.length A.hD
  simp at h2
  omega
 have hRl:R.length=S.length - (K+1):=by rw [← hR];simp
 have hH8:H≤8:=by
  have:=(List.takeWhile_prefix qax (l:=R.take 8)).length_le
  rw [hH] at this
  simp at this
  omega
 have hHR:H≤R.length:=by
  have:=(List.takeWhile_prefix qax (l:=R.take 8)).length_le
  rw [hH] at this
  simp at this
  omega
 have hTl:T.length=R.length - 9:=by rw [← hT];simp
 have hfl:(R.take 8).length≤8:=by simp;omega
 have hBl:(T.take n).length≤T.length:=by simp;omega
 have ht:=qba n
 have hi:=qdx n (by omega)
 refine qx (qb0 _ _ _) (qq Tryz.func64 rfl (Nat.le_of_ble_eq_true rfl) ?_)
 repeat' (first|(apply qga (n:=7) hS;(iterate 3 exact rfl);omega)|(apply qga (n:=K+1) hR;(iterate 3 exact rfl);omega)|(apply qga (n:=9) hT;(iterate 3 exact rfl);omega)|apply qn|apply qf|apply qh|apply qj|apply qg|(apply zf;exact rfl;exact rfl)|(apply qr;(iterate 3 exact rfl))|(apply jj;(iterate 3 exact rfl))|(apply je;exact rfl)|(apply qy;(iterate 4 exact rfl))|(apply ya;exact cAo)|(apply vq;exact cAo)|(apply vv;exact cAo)|(apply xw;exact cAo)|(apply qa7;(iterate 4 exact rfl))|(apply qao;exact cRa)|(apply qbw;exact cRa)|(apply qii <;> intro h)|(apply qab;exact cRa)|(apply jn <;> intro h)|(apply ql;exact rfl;apply wx;exact cAo)|(apply ql;exact rfl;apply wn;exact cAo)|(apply ql;exact rfl;apply qio;exact cRa)|(apply ql;exact rfl;apply qe6;exact cRa)|(apply ql;exact rfl;apply pk_t;exact cRa)|(apply qd;exact rfl;apply vc;exact cAo)|(apply qd;exact rfl;apply qkc;exact cRa)|(apply qd;exact rfl;apply cd_n <;> intro h)|(apply qd;exact rfl;apply cd_t;exact cRa)|(apply qd;exact rfl;apply cd_f;exact cRa)|(apply qd;exact rfl;apply cd_d <;> intro h)|(apply zn;(iterate 3 exact rfl))|(apply zi;exact rfl;exact rfl;exact q8 (by omega) (by omega))|(apply xh;exact rfl;exact rfl;exact q8 (by omega) (by omega))|(apply v4;(iterate 3 exact rfl);exact cAs)|(apply qbm;(iterate 3 exact rfl);exact cAs)|(apply qfn;(iterate 3 exact rfl);exact cAs)|apply qv|apply qt|(apply qhb;(iterate 3 exact rfl);omega;omega)|(apply qk;exact Tryz.call113;exact qjs (l:=l) (m:=ze) _ hl hbp)|(apply qk;exact Tryz.call113;exact qgm _ (yu n) _ (by simp;omega))|(apply qk;exact Tryz.call112;exact qly _ (yu n) _ (by omega))|(apply qk;exact Tryz.call114;exact qh5 _ (by omega) hK)|(apply qk;exact Tryz.call115;exact zar _ (by omega) hH)|(apply qk;exact Tryz.call106;exact qd1 _ n _ (by simp;omega) hz)|(apply qk;exact Tryz.call116;exact qt2 _ _ (by omega))|(apply qk;exact Tryz.call117;exact zaq _ _ (by omega))|(apply qk;exact Tryz.call118;exact qqn n (R.take 8) _ (by omega) (by omega))|(apply qk;exact Tryz.call120;exact zdx _ _ (by omega))|(apply qk;exact Tryz.call119;exact zap _ _)|(apply qk;exact Tryz.call121;exact q3w _ _))
 all_goals
  refine qo rfl (x5 rfl) ⟨qvy (?_:zb l=_),_,rfl⟩
  try simp only [Classical.not_not,quj,qbf,decide_eq_true_eq,decide_eq_false_iff_not] at *
 ·exact A.l6 (by omega)
 ·exact A.l7 (by omega) (.inl (by assumption))
 ·exact A.l7 (by omega) (.inr (by omega))
 ·rw [A.at32 (by omega) (by assumption) hR]
  exact R8 (by omega) hn2 (by omega)
 ·rw [A.at32 (by omega) (by assumption) hR]
  exact R9 (by omega) hn2 (by omega) (by omega)
 ·rw [A.at32 (by omega) (by assumption) hR]
  exact R10 (by omega) hn2 (by omega) (by assumption)
 ·rw [A.l11 (by omega) (by assumption) hR (by omega) (by omega) (by assumption) (by omega) hT,if_pos (by omega),qvg (by assumption) (by omega) (fun _=>by omega)]
 ·rw [A.l11 (by omega) (by assumption) hR (by omega) (by omega) (by assumption) (by omega) hT,if_pos (by omega),q1m (by assumption)]
 ·rw [A.l11 (by omega) (by assumption) hR (by omega) (by omega) (by assumption) (by omega) hT,if_pos (by omega),zdj ((q41 (by omega)).2 (by assumption)) (by omega)]
 ·rw [A.l11 (by omega) (by assumption) hR (by omega) (by omega) (by assumption) (by omega) hT,if_pos (by omega),qvg (by assumption) (by omega) (fun _=>by omega)]
 ·rw [A.l11 (by omega) (by assumption) hR (by omega) (by omega) (by assumption) (by omega) hT,if_pos (by omega),qvg (by assumption) (by omega) (fun h=>absurd ((q41 (by omega)).1 h) (by assumption))]
 ·rw [A.l11 (by omega) (by assumption) hR (by omega) (by omega) (by assumption) (by omega) hT,if_pos (by omega),q1m (by assumption)]
 all_goals have hBn:(T.take n).length=n:=by simp;omega
 ·rw [A.l11 (by omega) (by assumption) hR (by omega) (by omega) (by assumption) (by omega) hT,if_neg (by omega),if_neg (by assumption)]
 ·rw [A.l11 (by omega) (by assumption) hR (by omega) (by omega) (by assumption) (by omega) hT,if_neg (by omega),if_pos (by assumption)]
  exact zfc (by rw [hBn];omega) (by rw [hBn];assumption)
 ·rw [A.l11 (by omega) (by assumption) hR (by omega) (by omega) (by assumption) (by omega) hT,if_neg (by omega),if_pos (by assumption)]
  exact qu3 (by rw [hBn];exact fun h=>absurd h.2 (by assumption)) (by rw [hBn];intro h;have:=h.1.length_le;omega)
 ·rw [A.l11 (by omega) (by assumption) hR (by omega) (by omega) (by assumption) (by omega) hT,if_neg (by omega),if_pos (by assumption)]
  exact qu3 (by rw [hBn];intro h;omega) (by rw [hBn];exact fun h=>absurd h.2.symm (by assumption))
 ·rw [A.l11 (by omega) (by assumption) hR (by omega) (by omega) (by assumption) (by omega) hT,if_neg (by omega),if_pos (by assumption)]
  exact zfb (by rw [hBn];omega) (by rw [hBn];assumption) (by symm;assumption)
 ·rw [A.l11 (by omega) (by assumption) hR (by omega) (by omega) (by assumption) (by omega) hT,if_neg (by omega),if_pos (by assumption)]
  exact qu3 (by rw [hBn];intro h;omega) (by rw [hBn];exact fun h=>absurd h.1 (by assumption))
theorem zau (l:List UInt8) (st:List AObj) (hl:l.length<4294967281):qp E 64 [Sv l] st fun r st'=>r = .tu [Iv (zb l).1,Sv (zb l).2.1,Iv (zb l).2.2]∧st'=st:=by
 by_cases hb:l.length≤7∨¬ ze <+: l
 ·exact q7q l st hl hb
 have h7:7<l.length:=by omega
 have hbp:ze <+: l:=Classical.not_not.1 fun h=>hb (.inr h)
 obtain⟨S,hS⟩:=hbp
 by_cases hn:∃ n:Nat,1≤n∧n≤50000∧S.takeWhile yj=Lib.itoa (n:Int)
 ·obtain⟨n,h1,h2,h3⟩:=hn
  exact q7s l S _ _ _ _ n st hl h7 ⟨hS.symm,rfl,by rw [qvt];exact h3,h1,h2⟩ rfl rfl rfl
 ·exact q7r l S _ st hl h7 hS.symm rfl (fun n h1 h2 h3=>hn ⟨n,h1,h2,h3⟩)
theorem zal (l:List UInt8) (st:List AObj) (hl:l.length<4294967281) (hg:yq l):qp E 76 [Sv l] st fun r st'=>r = .tu [Sv (recF l),.v .nilIface]∧st'=st:=by
 have h:=zdu l st hl
 unfold qfy at h
 rw [if_pos hg] at h
 exact h
theorem q7j {b:List UInt8} (h:yq b):(recF b).length≤b.length+61∧1≤(recF b).length:=by
 have h1:=qdx b.length (by have:=h.2.1;omega)
 unfold recF
 simp only [List.length_append,qdv,qlg,qba]
 omega
end Go.Proofs.YtmoklbacdkmkaaaGreatDoor
namespace Go.Av
open Go Go.RowKit
def StE (L:List (Nat×AV)) (st loc:List AObj) (s:AS):Prop:=∃ t ext,s=⟨puts t L,((st++loc)++ext)++[],[]⟩
theorem xp {t:Nat→AV} {L:List (Nat×AV)} {st loc loc' ext new:List AObj} (h:HasL t L) (e:loc'=loc):StE L st loc ⟨t,((st++loc')++ext)++new,[]⟩:=
 ⟨t,ext++new,by rw [qi5 h,e];simp⟩
theorem qbj {t:Nat→AV} {L:List (Nat×AV)} {st loc st':List AObj} (h:HasL t L) (e:st'=st++loc):StE L st loc ⟨t,st',[]⟩:=
 ⟨t,[],by rw [qi5 h,e];simp⟩
theorem x2 (st loc ext new:List AObj):∃ x,((st++loc)++ext)++new=st++x:=⟨loc++ext++new,by simp⟩
theorem qa4 {st loc ext new:List AObj} {k:Nat} {x:AObj} (h:loc[k]? = some x):(((st++loc)++ext)++new)[st.length+k]? = some x:=by
 have hk:=lt_of_getElem? h
 rw [List.append_assoc,List.append_assoc,List.getElem?_append_right (Nat.le_add_right _ _),Nat.add_sub_cancel_left,List.getElem?_append_left hk]
 exact h
theorem qek {st loc ext new:List AObj} {k:Nat} (x:AObj) (hk:k<loc.length):(((st++loc)++ext)++new).set (st.length+k) x=((st++loc.set k x)++ext)++new:=by
 rw [List.append_assoc,List.append_assoc,List.set_append_right _ _ (Nat.le_add_right _ _),Nat.add_sub_cancel_left,List.set_append_left _ _ hk]
 simp
theorem qkz {G:Gh} {sz:Nat} {xs:List AV} {tip:Option Nat} {v:Value} (h:Rel G (.sl sz xs tip) v):Rel G (.sl sz xs none) v:=by
 cases h with
 |sl0 _ _ base cap ht=>exact .sl0 sz none base cap (by simp)
 |sl _ _ _ b off cap pub hp hw hlen hr ht hcap=>exact .sl sz xs none b off cap pub hp hw hlen hr (fun t ht=>by simp at ht) hcap
theorem qb5 {G:Gh} {sz:Nat} {v:Value} (h:Rel G zm v):Rel G (.sl sz [] none) v:=by
 cases h
 exact .sl0 sz none none 0 (by simp)
section
variable {E : Env} {rd : Option Nat} {N : Nat} {ops : Array Oper} {K : AS → Prop} {s : AS} {rest : List Oper} {d : Option Tmp} {T : TypeId} {p : String} {af : Array Edge}
theorem wz {fn:Func} {r r':AV} (h:ARes E fn s r) (hw:∀ (G:Gh) (v:Value),Rel G r v→Rel G r' v):ARes E fn s r':=
 ⟨fun B0 w0 G a w hL hI=>let ⟨v,h1,h2⟩:=h.run B0 w0 G a w hL hI;⟨v,h1,hw G v h2⟩⟩
theorem qsj {fn:Func} {t:Tmp} {sz:Nat} {xs:List AV} {tip:Option Nat} (hr:fn.results = #[.tmp t]) (hx:qm fn.ntmps s (.tmp t) = .sl sz xs tip):ARes E fn s (.sl sz xs none):=
 wz (q5 hr) fun G v h=>by rw [hx] at h;exact qkz h
theorem qap {x y:Operand} {t u T':TypeId} {sz bytes k n m:Nat} {xs ys zs:List AV} {tip:Option Nat} {st loc ext new:List AObj} (hs:s.st=((st++loc)++ext)++new) (hx:qm N s x = .sl sz xs (some (st.length+k))) (hy:qm N s y = .sl sz ys tip) (ho:loc[k]? = some (.tip n sz T')) (hn:xs.length=n)
  (ht:E.P.underlying t=some (.slice T')) (hu:E.P.underlying u=some (.slice T')) (hT:yc E.P T' sz bytes) (hone:j9 (flat ys)=true) (hm:ys.length=m) (h63:n+m≤maxLen) (hb:(n+m) * bytes≤140737488355328) (hz:xs++ys=zs)
  (h:AOps E rd N ops rest K (AS.put ⟨s.t,((st++loc.set k (.tip (n+m) sz T'))++ext)++new,s.df⟩ d (.sl sz zs (some (st.length+k))))):AOps E rd N ops (⟨d,.call ⟨.builtin .append,#[x,y],#[t,u]⟩,T,p,af,none⟩::rest) K s:=by
 subst hz
 have hk:=lt_of_getElem? ho
 exact qpx hx hy (by rw [hs];exact qa4 ho) hn ht hu hT hone hm h63 hb (by rw [hs,qek _ hk];exact h)
theorem qni {x:Operand} {t:TypeId} {sz:Nat} {agg:Bool} {st loc ext new:List AObj} {k ver off:Nat} {T':TypeId} {cs:List AV} {r:AV} (hs:s.st=((st++loc)++ext)++new) (hx:qm N s x = .bx (st.length+k) ver off) (ho:loc[k]? = some (.cells ver T' cs)) (ht:tyOf E.P t=some (sz,agg)) (hr:jx sz agg off cs=some r)
  (h:AOps E rd N ops rest K (s.put d r)):AOps E rd N ops (⟨d,.load t x,T,p,af,none⟩::rest) K s:=
 vd hx (by rw [hs];exact qa4 ho) ht hr h
end
end Go.Av
namespace Go.Pl
open Go
def za (l:Bytes):List Bytes:=
 if h:10∈l then upto 10 l::za (past 10 l) else [l]
 termination_by l.length
 decreasing_by exact wy (fun e=>by rw [e] at h;simp at h)
theorem ym {l:Bytes} (h:10∈l):za l=upto 10 l::za (past 10 l):=by rw [za,dif_pos h]
theorem yn {l:Bytes} (h:10∉l):za l=[l]:=by rw [za,dif_neg h]
theorem q5l:∀ (n:Nat) (l:Bytes),l.length≤n→Lib.splitK [10] 0 (Lib.count l [10]) l=za l
 |n,l,hn=>by
  by_cases h:10∈l
  ·have hi:=qtc 10 l h
   have hne:l≠[]:=fun e=>by rw [e] at h;simp at h
   have hlt:=wy (c:=10) hne
   rw [ym h,Lib.count_hit (i:=(upto 10 l).length) (by simp) hi,Nat.add_comm,Lib.splitK]
   rw [if_neg (by rw [hi];simp),hi]
   cases n with
   |zero=>exact absurd (List.length_eq_zero_iff.1 (by omega)) hne
   |succ n=>
    have:=q5l n (past 10 l) (by omega)
    simp only [Int.toNat_natCast,Nat.add_zero,List.length_cons,List.length_nil,Nat.zero_add,qf5]
    rw [show List.drop ((upto 10 l).length+1) l=past 10 l from rfl,this]
  ·have hi:Lib.index l [10] = -1:=by
    have:=Lib.index_ge l [10]
    have h2:¬ 0≤Lib.index l [10]:=fun h'=>h ((qdw l 10).1 h')
    omega
   rw [yn h,Lib.count_miss hi]
   rfl
theorem qch:∀ (n:Nat) (l:Bytes),l.length≤n→(za l).length≤l.length+1
 |n,l,hn=>by
  by_cases h:10∈l
  ·have hne:l≠[]:=fun e=>by rw [e] at h;simp at h
   have hlt:=wy (c:=10) hne
   rw [ym h]
   cases n with
   |zero=>exact absurd (List.length_eq_zero_iff.1 (by omega)) hne
   |succ n=>
    have:=qch n (past 10 l) (by omega)
    simp only [List.length_cons]
    omega
  ·rw [yn h];simp
theorem qh2:∀ (n:Nat) (l:Bytes),l.length≤n→∀ x∈za l,x.length≤l.length∧10∉x
 |n,l,hn,x,hx=>by
  by_cases h:10∈l
  ·have hne:l≠[]:=fun e=>by rw [e] at h;simp at h
   have hlt:=wy (c:=10) hne
   rw [ym h,List.mem_cons] at hx
   rcases hx with rfl|hx
   ·exact⟨ko 10 l,qal 10 l⟩
   ·cases n with
    |zero=>exact absurd (List.length_eq_zero_iff.1 (by omega)) hne
    |succ n=>
     have:=qh2 n (past 10 l) (by omega) x hx
     exact⟨by omega,this.2⟩
  ·rw [yn h,List.mem_singleton] at hx
   subst hx
   exact⟨Nat.le_refl _,h⟩
end Go.Pl
namespace Go.Proofs.YtmoklbacdkmkaaaGreatDoor
open Go Go.Av Go.RowKit Go.Proofs Go.Pl
theorem qnq {f:FuncId} {st:List AObj} {args:List AV} {vals:Array Value} {xs:List Bytes} {T:TypeId} (ha:args=vals.toList.map .v) (hne:xs≠[])
  (h:∀ B0 w0 w,E.L B0 w0→Below B0 w0 w→Calls E.P f vals w fun e w'=>e = .returned (.slice (some ⟨w.heap.size,0,none⟩) xs.length xs.length)∧w'=w.alloc (.cells (xs.map fun l=>Value.string ⟨l.toArray⟩).toArray T)) :
  qp E f args st fun r st'=>r = .sl 1 (xs.map fun l=>Sv l) none∧st'=st:=by
 subst ha
 refine⟨fun B0 w0 G vs w hL hA hR=>?_⟩
 have hv:vs=vals:=by
  have hs:vs.size=vals.size:=by have:=hR.1;simpa using this.symm
  apply Array.ext hs
  intro i h1 h2
  have:=hR.2 i (.v vals[i]) vs[i] (by simp [h2]) (by simp [h1])
  generalize vs[i]=y at this
  cases this
  rfl
 subst hv
 refine (h B0 w0 w hL hA.below).mono ?_
 rintro e w' ⟨rfl,rfl⟩
 obtain⟨hle,hA'⟩:=hA.newPub T (xs.map fun l=>Value.string ⟨l.toArray⟩).toArray (0,0) (xs.map fun l=>Value.string ⟨l.toArray⟩) (fun i y hy=>by simpa using hy)
 refine⟨_,_,_,st,rfl,hle,hA',?_,rfl,rfl⟩
 have hfl:flat (xs.map fun l=>Sv l)=xs.map fun l=>Sv l:=by
  clear hne h hle hA'
  induction xs with
  |nil=>rfl
  |cons a xs ih=>rw [List.map_cons,qbv,ih];rfl
 have:=Rel.sl (G:=G.publish w.heap.size (xs.map fun l=>Value.string ⟨l.toArray⟩)) 1 (xs.map fun l=>Sv l) none w.heap.size 0 xs.length (xs.map fun l=>Value.string ⟨l.toArray⟩) (by simp [Gh.publish]) (fun x hx=>by
  simp only [List.mem_map] at hx
  obtain⟨l,_,rfl⟩:=hx
  rfl) (by rw [hfl];simp) (fun i x y h1 h2=>by
  rw [hfl,List.getElem?_map] at h1
  rw [Nat.zero_add,List.getElem?_map] at h2
  cases hx:xs[i]? with
  |none=>rw [hx] at h1;simp at h1
  |some l=>
   rw [hx] at h1 h2
   simp at h1 h2
   subst h1;subst h2
   exact .v _) (fun t ht=>by simp at ht) (by simp)
 simpa using this
theorem za7 (l:List UInt8) (st:List AObj) (hl:l.length<4294967281):qp E 154 [Sv l,Sv [10]] st fun r st'=>r = .sl 1 ((za l).map fun x=>Sv x) none∧st'=st:=by
 have hd:=Lib.splitB_data ⟨#[10]⟩ 0 (Lib.countB ⟨l.toArray⟩ ⟨#[10]⟩) ⟨l.toArray⟩
 have hs:Lib.splitK [10] 0 (Lib.count l [10]) l=za l:=q5l _ l (Nat.le_refl _)
 have hn:=Lib.splitB_all ⟨#[10]⟩ (by simp [ByteArray.size]) 0 _ ⟨l.toArray⟩ rfl
 have hd2:(Lib.splitB ⟨#[10]⟩ 0 (Lib.countB ⟨l.toArray⟩ ⟨#[10]⟩) ⟨l.toArray⟩).map (·.data.toList)=za l:=hd.trans hs
 have hlen:(za l).length=Lib.countB ⟨l.toArray⟩ ⟨#[10]⟩+1:=by rw [← hd2,List.length_map,hn]
 refine qnq (T:=9) (vals:= #[.string ⟨l.toArray⟩,.string ⟨#[10]⟩]) rfl (fun e=>by rw [e] at hlen;simp at hlen) fun _ _ w hL hb=>(Tryz.strings_Split_shaped ⟨l.toArray⟩ ⟨#[10]⟩ w (hL w hb).shaped (by simpa [ByteArray.size] using hl) (by simp [ByteArray.size])).mono fun e w' ⟨h1,h2⟩=>?_
 refine⟨by rw [h1,hlen],?_⟩
 rw [h2,← hd2,List.map_map]
 rfl
end Go.Proofs.YtmoklbacdkmkaaaGreatDoor
namespace Go.Av
open Go Go.RowKit
section
variable {E : Env} {N : Nat} {ops : Array Oper} {K : AS → Prop} {s : AS} {rest : List Oper} {d : Option Tmp} {T : TypeId} {p : String} {af : Array Edge}
theorem qsh {x:Operand} {t:TypeId} {sz:Nat} {agg:Bool} {o ver off:Nat} {T':TypeId} {cs:List AV} {r:AV} (hx:qm N s x = .bx o ver off) (ho:s.st[o]? = some (.cells ver T' cs)) (ht:tyOf E.P t=some (sz,agg)) (hr:jx sz agg off cs=some r)
  (h:AQ E N ops rest K (s.put d r)):AQ E N ops (⟨d,.load t x,T,p,af,none⟩::rest) K s:=by
 refine qe1 rfl nofun fun B0 w0 G a w _ hI=>?_
 have he:=hI.eval_of hx
 generalize hv:a.eval x=v at he
 cases he with
 |bx _ _ _ b hn hv' hb=>
  obtain⟨_,h1,h2,h3,c,h4,h5,h6⟩:=hI.agree.ob o _ ho
  have hb:=hb h1
  subst hb
  have hlt:(G.ob o).blk<w.heap.size:=by
   rcases Nat.lt_or_ge (G.ob o).blk w.heap.size with h'|h'
   ·exact h'
   ·rw [Array.getElem?_eq_none h'] at h4;simp at h4
  -- the value is read out of the cells, whatever is drawn behind them
  have key:∀ w',Below w.heap.size w w'→∃ v,(loadVar t ⟨(G.ob o).blk,off,none⟩).run E.P w' = .ok v w'∧Rel G r v:=fun w' hw'=>by
   have h4':w'.heap[(G.ob o).blk]? = some (.cells c T' (0,0)):=by rw [hw'.block _ hlt];exact h4
   exact qah (w:=w') (G:=G) (b:=(G.ob o).blk) (off:=off) (off':=off) ht (fun i x hx hi=>by
    obtain⟨y,hy⟩:=vm hx (Nat.le_of_eq h5)
    refine⟨y,?_,h6 i x y hx hy⟩
    simp [World.cell?,h4',show off+(i - off)=i by omega,hy]) hr
  have hsame:∀ w',Below w.heap.size w w'→∀ v,(loadVar t ⟨(G.ob o).blk,off,none⟩).run E.P w = .ok v w→(loadVar t ⟨(G.ob o).blk,off,none⟩).run E.P w' = .ok v w':=fun w' hw' v hr1=>by
   obtain⟨i1,i2⟩:=vb ht w
   obtain⟨j1,j2⟩:=vb ht w'
   have hc:∀ k,w'.cell? ⟨(G.ob o).blk,k,none⟩=w.cell? ⟨(G.ob o).blk,k,none⟩:=fun k=>by simp [World.cell?,hw'.block _ hlt]
   obtain⟨v',h1',_⟩:=key w' hw'
   rw [h1']
   congr 1
   cases agg with
   |false=>
    simp only [jx,cond_false] at hr
    obtain⟨y,hy⟩:=vm hr (Nat.le_of_eq h5)
    have e1:w.cell? ⟨(G.ob o).blk,off,none⟩=some y:=by simp [World.cell?,h4,hy]
    have e2:w'.cell? ⟨(G.ob o).blk,off,none⟩=some y:=by rw [hc,e1]
    simp [loadVar,i2,run_load,e1] at hr1
    simp [loadVar,j2,run_load,e2] at h1'
    rw [← h1',hr1]
   |true=>
    simp only [jx,cond_true] at hr
    cases hb2:Nat.ble (off+sz) cs.length with
    |false=>rw [hb2] at hr;simp at hr
    |true=>
     have hle:off+sz≤cs.length:=Nat.le_of_ble_eq_true hb2
     have e1:∀ j,j<sz→w.cell? ⟨(G.ob o).blk,off+j,none⟩=some (c.getD (off+j) undef):=fun j hj=>by
      have:off+j<c.size:=by omega
      simp [World.cell?,h4,this]
     have e2:∀ j,j<sz→w'.cell? ⟨(G.ob o).blk,off+j,none⟩=some (c.getD (off+j) undef):=fun j hj=>by rw [hc,e1 j hj]
     have l1:=run_loadCells (P:=E.P) (w:=w) ⟨(G.ob o).blk,off,none⟩ sz (fun j=>c.getD (off+j) undef) (fun j hj=>by rw [Addr.add_lit];exact e1 j hj)
     have l2:=run_loadCells (P:=E.P) (w:=w') ⟨(G.ob o).blk,off,none⟩ sz (fun j=>c.getD (off+j) undef) (fun j hj=>by rw [Addr.add_lit];exact e2 j hj)
     simp [loadVar,i1,i2,l1] at hr1
     simp [loadVar,j1,j2,l2] at h1'
     rw [← h1',hr1]
  obtain⟨v,hrun,hR⟩:=key w (Below.refl _ _)
  exact⟨v,r,fun w' hw'=>by simp only [execOp,hv,Instr.loadAt,Instr.sureAddr];simp [hsame w' hw' v hrun],hR,h⟩
theorem qqw {f:FuncId} {xs:Array Operand} {ts:Array TypeId} {args:List AV} {r:AV} {v:Value} (hok:qyf E) (hrun:∀ vs w,(callFunc f vs).run E.P w = .ok (.enter f vs) w)
  (hxs:xs.toList.map (qm N s)=args) (hp:∀ x∈args,Pure x) (hs:Sure r v) (hpr:∀ G,Rel G r v) (hc:qp E f args [] fun a st1=>a=r∧st1=[])
  (h:AQ E N ops rest K (s.put d r)):AQ E N ops (⟨d,.call ⟨.value (.func f),xs,ts⟩,T,p,af,none⟩::rest) K s:=by
 refine⟨fun B0 w0 G a w hL hI Q hQ=>?_⟩
 refine⟨fun _ _ _ _=>trivial,?_⟩
 simp only [Region.wanted]
 refine⟨v,fun w' hw'=>?_,?_⟩
 ·have hr:(execOp a.eval ⟨d,.call ⟨.value (.func f),xs,ts⟩,T,p,af,none⟩).run E.P w' = .ok (.enter f (xs.map a.eval)) w':=by
   have he:a.eval (.func f) = .func (.func f) #[] #[]:=rfl
   generalize a.eval = ρ at he
   simp [execOp,resolve,Deferred.ofValue,he,invoke,hrun]
  have hrl:=qd2 hI xs
  rw [hxs] at hrl
  unfold Oper.quietAtIn
  rw [hr]
  refine⟨rfl,fun h=>by simp [fw,Fence.wide] at h,qgg ?_⟩
  have hb:Below B0 w0 w':=hI.agree.below.trans (hw'.mono hI.agree.hB)
  have hB:B0≤w'.heap.size:=Nat.le_trans hI.agree.hB hw'.size
  have hA':=hI.agree.fresh hw'
  refine (hc.run w'.heap.size w' ⟨G.pub,G.ob,0⟩ (xs.map a.eval) w' (hok B0 w0 w' hL hb hB) ⟨Below.refl _ _,Nat.le_refl _,rfl,hA'.pub,nofun,nofun⟩ ⟨hrl.1,fun i x y hx hy=>?_⟩).mono ?_
  ·exact hp x (List.mem_of_getElem? hx) G _ y (fun b vs hb=>⟨[],by simpa using hb⟩) (hrl.2 i x y hx hy)
  ·rintro e w'' ⟨u,G',r',st',rfl,hG,hA,hR,rfl,rfl⟩
   rw [hs G' u hR]
   exact⟨rfl,hw'.trans (hA.below.mono hw'.size)⟩
 ·refine h.run B0 w0 G _ w hL (hI.put (.refl G) hI.agree d (hpr G)) Q fun s' a' hI' hst hK=>hQ s' a' hI' ?_ hK
  rw [hst]
  cases d <;> rfl
end
end Go.Av
namespace Go.Av
open Go Go.RowKit
section
variable {E : Env} {rd : Option Nat} {N : Nat} {ops : Array Oper} {K : AS → Prop} {s : AS} {rest : List Oper} {d : Option Tmp} {T : TypeId} {p : String} {af : Array Edge}
theorem qp0 {x:Operand} {t:TypeId} {sz:Nat} {agg:Bool} {st loc:List AObj} {k ver off:Nat} {T':TypeId} {cs:List AV} {r:AV} (hs:s.st=st++loc) (hx:qm N s x = .bx (st.length+k) ver off) (ho:loc[k]? = some (.cells ver T' cs)) (ht:tyOf E.P t=some (sz,agg)) (hr:jx sz agg off cs=some r)
  (h:AQ E N ops rest K (s.put d r)):AQ E N ops (⟨d,.load t x,T,p,af,none⟩::rest) K s:=
 qsh hx (by rw [hs];exact jo ho) ht hr h
end
end Go.Av
namespace Go.Proofs.YtmoklbacdkmkaaaGreatDoor
open Go Go.Av Go.RowKit Go.Proofs Go.Pl
structure qg8 where
 kind:Int
 key:Bytes
 text:Bytes
 lo:Int
 hi:Int
abbrev FldV:=Bytes×Bytes
@[reducible] def fldA (f : FldV) : AV := .ag [Sv f.1, Sv f.2]
@[reducible] def jw (l : List FldV) : AV := .sl 2 (l.map fldA) none
def zeo (r:qg8):Prop:=1≤r.kind∧r.kind≤7∧(r.kind=6∨qak r.key)
instance (r:qg8):Decidable (zeo r):=inferInstanceAs (Decidable (_∧_∧_))
def q5s (l:Bytes):List Bytes:=if l=[] then [] else za l
theorem zah (xs:List Bytes):Pure (.sl 1 (xs.map fun x=>Sv x) none):=qco fun x hx=>by
 simp only [List.mem_map] at hx
 obtain⟨l,_,rfl⟩:=hx
 intro y hy
 simp [AV.cells] at hy
 subst hy
 exact qs _
def qpt (r:qg8) (n:Int):Prop:=r.lo≤n∧n≤r.hi
instance (r:qg8) (n:Int):Decidable (qpt r n):=inferInstanceAs (Decidable (_∧_))
def q5a (r:qg8) (l:Bytes):Prop:=∃ n,numZ l=some n∧qpt r n
instance (r:qg8) (l:Bytes):Decidable (q5a r l):=
 match h:numZ l with
 |some n=>decidable_of_iff (qpt r n) ⟨fun h'=>⟨n,h,h'⟩,fun ⟨m,h1,h2⟩=>by rw [h] at h1;cases h1;exact h2⟩
 |none=>.isFalse fun ⟨m,h1,_⟩=>by rw [h] at h1;cases h1
def zbj (r:qg8) (f:FldV):Prop:=
 (r.kind=3→f.1=r.key→q5a r f.2)∧(r.kind=4→f.1=r.key→f.2∈q5s r.text)∧(r.kind=5→f.1=r.key→qpt r f.2.length)∧(r.kind=6→f.1∈q5s r.text)
instance (r:qg8) (f:FldV):Decidable (zbj r f):=inferInstanceAs (Decidable (_∧_∧_∧_))
def zbr (key:Bytes) (xs:List FldV):List Bytes:=(xs.filter fun f=>f.1=key).map Prod.snd
def ze9 (r:qg8) (xs:List FldV):Prop:=zeo r∧((r.kind=1∧(zbr r.key xs).length=0)∨(r.kind=2∧1<(zbr r.key xs).length)∨(r.kind≠1∧r.kind≠2∧xs.any (fun f=> !decide (zbj r f))=true))
instance (r:qg8) (xs:List FldV):Decidable (ze9 r xs):=inferInstanceAs (Decidable (_∧(_∨_∨_)))
end Go.Proofs.YtmoklbacdkmkaaaGreatDoor
namespace Go.Av
open Go Go.RowKit Go.WideShapes Go.ChangeShapes Go.Deep
def RelK (G:Gh) (us:List AV) (cs:List Value):Prop:=us.length=cs.length∧∀ (i:Nat) (x:AV) (y:Value),us[i]? = some x→cs[i]? = some y→Rel G x y
theorem RelK.one {G:Gh} {a:AV} {v:Value} (h:RelK G [a] [v]):Rel G a v:=h.2 0 a v rfl rfl
def One (S:AV→Prop):Prop:=∀ a,S a→a.cells=[a]
def fieldsOf (P:Program) (t:TypeId):Array Field:=match P.underlying t with|some (.struct fs)=>fs | _=> #[]
end Go.Av
namespace Go.Proofs.YtmoklbacdkmkaaaGreatDoor
open Go Go.Av Go.RowKit Go.Proofs Go.Pl
theorem qld (l w:List UInt8) (st:List AObj):qp E 122 [Sv l,Sv w] st fun r st'=>r=Bv (decide (w <+: l))∧st'=st:=by
 refine qx (qs _) (qq Tryz.func122 rfl (Nat.le_of_ble_eq_true rfl) ?_)
 repeat' (first|apply qn|apply qf|apply qh|apply qj|apply qg|(apply qr;(iterate 3 exact rfl))|(apply jj;(iterate 3 exact rfl))|(apply qy;(iterate 4 exact rfl))|(apply ya;exact cAo)|(apply xw;exact cAo)|(apply jn <;> intro h)|(apply ql;exact rfl;apply wx;exact cAo)|(apply ql;exact rfl;apply wn;exact cAo)|(apply zn;(iterate 3 exact rfl))|(apply qbm;(iterate 3 exact rfl);exact cAs)|apply qt)
 all_goals refine qo rfl (q5 rfl) ⟨congrArg Bv (?_:(_:Bool)=_),_,rfl⟩
 ·have e:w <+: l↔l.take w.length=w:=by
   rw [List.prefix_iff_eq_take]
   exact⟨fun h=>h.symm,fun h=>h.symm⟩
  exact decide_eq_decide.2 e.symm
 ·refine (decide_eq_false fun h=>?_).symm
  have:=h.length_le
  omega
structure qu where
 kind:Int
 id:Int
 fields:List FldV
@[reducible] def ji (e : qu) : AV := .ag [Iv e.kind, Iv e.id, jw e.fields]
def yr (k:Int):Bytes:=if k=1 then [32,114,101,112,108,97,99,101,32] else if k=2 then [32,100,101,108,101,116,101,32] else if k=3 then [32,105,110,115,101,114,116,32] else []
def kf (e:qu):Bytes:=if 1≤e.kind∧e.kind≤3 then yr e.kind++Lib.itoa e.id else []
theorem qxh (e:qu) (st:List AObj) (h1 : -9223372036854775808≤e.id) (h2:e.id≤9223372036854775807):qp E 123 [ji e] st fun r st'=>r=Sv (kf e)∧st'=st:=by
 refine qx (qs _) (qq Tryz.func123 rfl (Nat.le_of_ble_eq_true rfl) ?_)
 have hn:=Lib.itoa_length_le e.id h1 h2
 repeat' (first|apply qn|apply qf|apply qh|apply qg|(apply qr;(iterate 3 exact rfl))|(apply qd;exact rfl;apply cd_d <;> intro h)|(apply jc;exact rfl;exact rfl;exact cOs)|(apply qa6;(iterate 4 exact rfl))|(apply zj;(iterate 3 exact rfl))|(apply jl;(iterate 5 exact rfl))|apply qv|apply qt|(apply qk;exact Tryz.call157;exact qe7 _ _ h1 h2))
 all_goals refine qo rfl (q5 rfl) ⟨congrArg (fun l:Bytes=>Sv l) (?_:_=kf e),_,rfl⟩
 all_goals simp_all [kf,yr]
 all_goals omega
def qca (k:Int):Bytes:=if k=1 then [114,101,112,108,97,99,101] else if k=2 then [100,101,108,101,116,101] else if k=3 then [105,110,115,101,114,116] else []
theorem qul (k:Int) (st:List AObj):qp E 191 [Iv k] st fun r st'=>r=Sv (qca k)∧st'=st:=by
 refine qx (qs _) (qq Tryz.func191 rfl (Nat.le_of_ble_eq_true rfl) ?_)
 repeat' (first|apply qn|apply qw|apply qf|apply qh|apply qj|apply qg|(apply qr;(iterate 3 exact rfl))|(apply qd;exact rfl;apply cd_d <;> intro h)|apply qv|apply qt)
 all_goals refine qo rfl (q5 rfl) ⟨congrArg (fun l:Bytes=>Sv l) (?_:_=qca k),_,rfl⟩
 all_goals simp_all [qca]
theorem zbu (k:Int):(qca k).length≤7:=by
 unfold qca
 repeat' split
 all_goals simp
theorem q3c (k:Int):yr k=if qca k=[] then [] else [32]++qca k++[32]:=by
 unfold yr qca
 repeat' split
 all_goals simp_all
theorem zbv (k:Int):qca k=[]↔¬ (1≤k∧k≤3):=by
 unfold qca
 repeat' split
 all_goals simp_all
 omega
theorem zhu (e:qu) (st:List AObj) (h1 : -9223372036854775808≤e.id) (h2:e.id≤9223372036854775807):qp E 137 [ji e] st fun r st'=>r=Sv (kf e)∧st'=st:=by
 refine qx (qs _) (qq Tryz.func137 rfl (Nat.le_of_ble_eq_true rfl) ?_)
 have hn:=Lib.itoa_length_le e.id h1 h2
 have hw:=zbu e.kind
 have ho:=q3c e.kind
 have hz:=zbv e.kind
 repeat' (first|apply qn|apply qf|apply qh|apply qj|apply qg|(apply jj;(iterate 3 exact rfl))|(apply qd;exact rfl;apply cd_d <;> intro h)|(apply jc;exact rfl;exact rfl;exact cOs)|(apply qa6;(iterate 4 exact rfl))|(apply zj;(iterate 3 exact rfl))|(apply jl;(iterate 5 exact rfl))|apply qv|apply qt|(apply qk;exact Tryz.call191;exact qul _ _)|(apply qk;exact Tryz.call155;exact qoi _ _ h1 h2))
 all_goals refine qo rfl (q5 rfl) ⟨congrArg (fun l:Bytes=>Sv l) (?_:_=kf e),_,rfl⟩
 all_goals unfold kf
 ·rw [if_neg (by simp_all)]
 ·rw [if_pos (by simp_all),ho,if_neg (by assumption)]
end Go.Proofs.YtmoklbacdkmkaaaGreatDoor
namespace Go.Av
open Go Go.RowKit
def noop (o:Oper):Oper:={ o with op:=.move (.const undef),guard:=none }
section
variable {F : Fence} {n : Nat} {P : Program} {ops ops' : Array Oper} {md : Region.Mode} {C : World → Prop} {Q : Exit → Act → World → Prop} {k : Nat} {o : Oper}
theorem qlu {listed:Array Bool}:∀ k,listed.getD k true=false→∃ j,j≤k∧listed.getD j true=false∧∀ i,i<j→listed.getD i true=true:=by
 intro k
 induction k using Nat.strongRecOn with
 | _ k ih=>
  intro h
  by_cases hall:∀ i,i<k→listed.getD i true=true
  ·exact⟨k,Nat.le_refl _,h,hall⟩
  ·have ⟨i,hi⟩:=Classical.not_forall.1 hall
   have ⟨hi1,hi2⟩:=Classical.not_imp.1 hi
   obtain⟨j,h1,h2,h3⟩:=ih i hi1 (by simpa using hi2)
   exact⟨j,by omega,h2,h3⟩
theorem qx5 {listed:Array Bool} {i:Nat} (h:listed.getD i true=true) (hi:i<listed.size):listed.getD i false=true:=by
 simp [Array.getD,hi] at h ⊢
 exact h
theorem q3b {listed:Array Bool} {i:Nat} (h:listed.getD i true=false) (h2:listed.getD i false=true):False:=by
 unfold Array.getD at h h2
 by_cases hi:i<listed.size
 ·rw [dif_pos hi] at h h2
  rw [h] at h2
  cases h2
 ·rw [dif_neg hi] at h
  cases h
theorem qqm {listed:Array Bool} {j:Nat} (hsz:listed.size=ops.size) (hord:∀ (j:Nat) o,ops[j]? = some o→∀ e∈o.after,e.on<j) (hj:listed.getD j true=false) (hall:∀ i,i<j→listed.getD i true=true):j∈Region.ready md ops listed:=by
 have hlt:j<listed.size:=by
  rcases Nat.lt_or_ge j listed.size with h|h
  ·exact h
  ·simp [Array.getD,Nat.not_lt.2 h] at hj
 rw [mem_ready]
 have ho:ops[j]? = some ops[j]:=Array.getElem?_eq_getElem (by omega)
 exact⟨hj,_,ho,fun e he _=>qx5 (hall _ (hord j _ ho e he)) (by have:=hord j _ ho e he;omega)⟩
theorem qm4 {listed:Array Bool} (hs:ops.size=ops'.size) (hk:ops[k]? = some o) (hk':ops'[k]? = some (noop o)) (hoth:∀ j,j≠k→ops'[j]? = ops[j]?):Region.ready md ops' listed=Region.ready md ops listed:=by
 unfold Region.ready
 rw [hs]
 refine List.filter_congr fun i _=>?_
 by_cases h:i=k
 ·subst h;rw [hk,hk'];rfl
 ·rw [hoth i h]
theorem q2r (hd:o.dst=none) (hk:ops[k]? = some o) (hk':ops'[k]? = some (noop o)) (hoth:∀ j,j≠k→ops'[j]? = ops[j]?) (t:Array Value):yielded ops' t=yielded ops t:=by
 funext j
 unfold yielded
 by_cases h:j=k
 ·subst h;rw [hk,hk'];simp [noop,hd]
 ·rw [hoth j h]
theorem qpb (hro:F.round=none) (hsz:ops.size=ops'.size) (hk:ops[k]? = some o) (hk':ops'[k]? = some (noop o)) (hoth:∀ j,j≠k→ops'[j]? = ops[j]?) (hd:o.dst=none)
  (hord:∀ (j:Nat) o,ops[j]? = some o→∀ e∈o.after,e.on<j) (hcov:∀ j,j<ops.size→j≠k→∃ e∈o.after,Region.binds md e=true∧e.on=j) :
  ∀ (fuel:Nat) (listed:Array Bool) (a:Act) (w:World),C w→listed.size=ops.size→listed.getD k true=false→wpAnyQIn F n P md ops' C (fun a=>∀ w,C w→wpOpIn F n P ops Q k (Q .normal) a w) fuel listed a→wpAnyIn F n P md ops Q fuel listed a w
 | 0,listed,a,w,hC,hs,hun,h=>by
  have ⟨j,_,h2,h3⟩:=qlu k hun
  have:=qqm (md:=md) hs hord h2 h3
  rw [← qm4 hsz hk hk' hoth,h.1] at this
  cases this
 |fuel+1,listed,a,w,hC,hs,hun,h=>by
  obtain⟨hq1,hq2⟩:=h
  rw [qm4 hsz hk hk' hoth] at hq1 hq2
  refine⟨fun h0=>?_,fun i hi=>?_⟩
  ·have ⟨j,_,h2,h3⟩:=qlu k hun
   have:=qqm (md:=md) hs hord h2 h3
   rw [h0] at this
   cases this
  ·have hqi:=hq2 i hi
   by_cases hik:i=k
   ·subst hik
    obtain⟨_,o',ho',hall⟩:=mem_ready.1 hi
    rw [hk] at ho'
    cases ho'
    have hr:Region.ready md ops (listed.setIfInBounds i true)=[]:=by
     rw [List.eq_nil_iff_forall_not_mem]
     intro j hj
     obtain⟨hju,oj,hoj,_⟩:=mem_ready.1 hj
     have hjs:j<ops.size:=by
      rcases Nat.lt_or_ge j ops.size with h|h
      ·exact h
      ·rw [Array.getElem?_eq_none h] at hoj;cases hoj
     by_cases hji:j=i
     ·subst hji
      simp [Array.getD,hs,hjs] at hju
     ·obtain⟨e,he,hb,heq⟩:=hcov j hjs hji
      have h5:=hall e he hb
      rw [heq] at h5
      rw [getD_set_ne true (Ne.symm hji)] at hju
      exact q3b hju h5
    unfold qOpIn at hqi
    rw [hk'] at hqi
    simp only at hqi
    have hqe:=hqi.2
    have hwn:Region.wanted (noop o) (yielded ops' a.tmps)=true:=by simp [noop,Region.wanted]
    rw [if_pos hwn] at hqe
    obtain⟨v,_,hK⟩:=hqe
    have hput:a.put (noop o).dst v=a:=by simp [noop,hd,Act.put]
    rw [hput] at hK
    have hQ':∀ w,C w→wpOpIn F n P ops Q i (Q .normal) a w:=by
     cases fuel with
     |zero=>exact hK.2
     |succ fuel=>exact hK.1 (by rw [qm4 hsz hk hk' hoth];exact hr)
    exact wpOpIn_mono (fun a' w' h'=>wpAnyIn_done hr h' _) (hQ' w hC)
   ·have he:qOpIn F n P ops C i (wpAnyQIn F n P md ops' C (fun a=>∀ w,C w→wpOpIn F n P ops Q k (Q .normal) a w) fuel (listed.setIfInBounds i true)) a:=by
     unfold qOpIn at hqi ⊢
     rw [hoth i hik] at hqi
     rw [← q2r hd hk hk' hoth]
     exact hqi
    refine wpOpIn_of_qOpIn hro hC (fun a' w' hC' hX=>qpb hro hsz hk hk' hoth hd hord hcov fuel _ a' w' hC' (by simpa using hs) ?_ hX) he
    rw [getD_set_ne true hik]
    exact hun
def qf4 {α : Type}:List α→Option (List α×α)
 | []=>none
 | [x]=>some ([],x)
 |x::y::r=>match qf4 (y::r) with
  |some (l,o)=>some (x::l,o)
  |none=>none
theorem qo6 {α : Type}:∀ {L l:List α} {o : α},qf4 L=some (l,o)→L=l++[o]
 | [],_,_,h=>by simp [qf4] at h
 | [x],_,_,h=>by simp [qf4] at h;obtain⟨rfl,rfl⟩:=h;rfl
 |x::y::r,l,o,h=>by
  unfold qf4 at h
  split at h
  ·rename_i l' o' he
   simp only [Option.some.injEq,Prod.mk.injEq] at h
   obtain⟨rfl,rfl⟩:=h
   rw [qo6 he]
   rfl
  ·simp at h
def q4o (o:Oper) (k:Nat):Bool:=(List.range k).all fun j=>o.after.toList.any fun e=>Region.binds .any e && Nat.beq e.on j
def q1i (ops:List Oper):Bool:=(List.range ops.length).all fun j=>match ops[j]? with|some o=>o.after.toList.all fun e=>Nat.blt e.on j|none=>true
end
section
variable {E : Env} {N : Nat} {s : AS}
theorem qv6 {id:Nat} {L l:List Oper} {o:Oper} {Q:Exit→AS→Prop} (hsp:qf4 L=some (l,o)) (hd:o.dst=none) (hcov:q4o o l.length=true) (hord:q1i L=true) (hm:E.P.follows .mixedOrders=true) (hB:Region.lexB .any (l++[noop o]).toArray=true)
  (h:AQ E N (l++[noop o]).toArray l (fun s'=>AOps E none N L.toArray [o] (Q .normal) s') s):AWp E none N (.region id L.toArray true) Q s:=by
 have hLe:=qo6 hsp
 subst hLe
 refine⟨fun B0 w0 G a w hL hI=>?_⟩
 have hB2:=hB
 simp only [Region.lexB,Bool.and_eq_true] at hB2
 have hk:(l++[o]).toArray[l.length]? = some o:=by simp
 have hk':(l++[noop o]).toArray[l.length]? = some (noop o):=by simp
 have hoth:∀ j,j≠l.length→(l++[noop o]).toArray[j]? = (l++[o]).toArray[j]?:=fun j hj=>by
  simp only [List.getElem?_toArray]
  rcases Nat.lt_or_ge j l.length with h|h
  ·rw [List.getElem?_append_left h,List.getElem?_append_left h]
  ·rw [List.getElem?_eq_none (by simp;omega),List.getElem?_eq_none (by simp;omega)]
 have hordP:∀ (j:Nat) o',(l++[o]).toArray[j]? = some o'→∀ e∈o'.after,e.on<j:=fun j o' hj e he=>by
  simp only [q1i,List.all_eq_true,List.mem_range] at hord
  simp only [List.getElem?_toArray] at hj
  have h1:=hord j (lt_of_getElem? hj)
  rw [hj] at h1
  simp only at h1
  have h2:=List.all_eq_true.1 h1 e (by simpa using he)
  exact Nat.le_of_ble_eq_true h2
 have hcovP:∀ j,j<(l++[o]).toArray.size→j≠l.length→∃ e∈o.after,Region.binds .any e=true∧e.on=j:=fun j hj hne=>by
  simp only [q4o,List.all_eq_true,List.mem_range] at hcov
  have h1:=hcov j (by simp at hj;omega)
  obtain⟨e,he,h2⟩:=List.any_eq_true.1 h1
  simp only [Bool.and_eq_true] at h2
  exact⟨e,by simpa using he,h2.1,Nat.eq_of_beq_eq_true h2.2⟩
 have hBl:Below w.heap.size w { w with drawn:=w.drawn+1 }:=⟨rfl,rfl,rfl,Nat.le_refl _,fun _ _=>rfl⟩
 refine wpIn_region_any hm (qpb (C:=fun w'=>Below w.heap.size w w') (ops':=(l++[noop o]).toArray) (k:=l.length) rfl (by simp) hk hk' hoth hd hordP hcovP _ _ _ _ hBl (by simp) (by simp [Array.getD]) ?_)
 have hq:wpQuietIn (fw none) 0 E.P (l++[noop o]).toArray (fun w'=>Below w.heap.size w w') (fun a=>∀ w',Below w.heap.size w w'→wpOpIn (fw none) 0 E.P (l++[o]).toArray (fun e a' w'=>∃ (G':Gh) (s':AS),G.le G'∧Inv B0 w0 N G' s' a' w'∧Q e s') l.length (fun a' w'=>∃ (G':Gh) (s':AS),G.le G'∧Inv B0 w0 N G' s' a' w'∧Q .normal s') a w') (l++[noop o]) a:=by
  have step:∀ (l1:List Oper) (a:Act) (X:Act→Prop),wpQuietIn (fw none) 0 E.P (l++[noop o]).toArray (fun w'=>Below w.heap.size w w') X l1 a→wpQuietIn (fw none) 0 E.P (l++[noop o]).toArray (fun w'=>Below w.heap.size w w') X (l1++[noop o]) a:=by
   intro l1
   induction l1 with
   |nil=>
    intro a X hX
    refine⟨fun _ _ _ hf=>?_,?_⟩
    ·simp [Oper.about,noop] at hf
    ·have hwn:Region.wanted (noop o) (yielded (l++[noop o]).toArray a.tmps)=true:=by simp [noop,Region.wanted]
     rw [if_pos hwn]
     refine⟨undef,fun w' _=>?_,?_⟩
     ·unfold Oper.quietAtIn
      simp [noop,execOp,Oper.quietUponIn,Act.eval]
     ·have hput:a.put (noop o).dst undef=a:=by simp [noop,hd,Act.put]
      rw [hput]
      exact hX
   |cons o1 l1 ih=>
    intro a X hX
    refine⟨hX.1,?_⟩
    have h2:=hX.2
    split
    ·rename_i hw
     rw [if_pos hw] at h2
     obtain⟨v,h3,h4⟩:=h2
     exact⟨v,h3,ih _ _ h4⟩
    ·rename_i hw
     rw [if_neg hw] at h2
     exact ih _ _ h2
  refine step l a _ (h.run B0 w0 G a w hL hI _ fun s' a' hI' hst hks w' hw'=>?_)
  have hI2:Inv B0 w0 N G s' a' w':=⟨hI'.agree.fresh hw',hI'.defers,hI'.size,hI'.tmps⟩
  have hr:=hks.run B0 w0 G a' w' hL hI2 (fun e a' w'=>∃ (G':Gh) (s':AS),G.le G'∧Inv B0 w0 N G' s' a' w'∧Q e s') (fun G' s'' a'' w'' hG hI3 hQ=>⟨G',s'',hG,hI3,hQ⟩)
  unfold wpOpIn
  rw [hk]
  exact hr
 have:=wpAnyQIn_lex (F:=fw none) (n:=0) (C:=fun w'=>Below w.heap.size w w') (md:=.any) hB2.1 (l++[noop o]) 0 (Array.replicate (l++[noop o]).length false) a (by simp) (by simpa using hB2.2) hq
 simpa using this
variable {ops : Array Oper} {K : AS → Prop} {rest : List Oper} {d : Option Tmp} {T : TypeId} {p : String} {af : Array Edge}
theorem qj7 {x y:Operand} {t t':TypeId} {m n:List UInt8} (hx:qm N s x=Sv m) (hy:qm N s y=Sv n) (hl:m.length+n.length<9223372036854775808)
  (h:AQ E N ops rest K (s.put d (Sv (m++n)))):AQ E N ops (⟨d,.binOp .add t x y t',T,p,af,none⟩::rest) K s:=
 qbo _ rfl nofun (fun a w he=>by
  simp only [execOp,he _ _ hx,he _ _ hy,eqGuard_at_string,binOp,Op.stringOp,qa5,qv4,IntKind.max_i64]
  rw [if_neg (by omega)]
  simp) h
theorem qnx {x y:Operand} {t e:TypeId} {sz:Nat} {agg:Bool} {xs:List AV} {tip:Option Nat} {k:IntKind} {i:Int} {n:Nat} {z:AV} (hx:qm N s x = .sl sz xs tip) (hy:qm N s y = .v (.int k i)) (hu:E.P.underlying t=some (.slice e)) (ht:tyOf E.P e=some (sz,agg)) (hi:i=n) (hz:xs[n]? = some z)
  (h:AQ E N ops rest K (s.put d (.pp z.cells))):AQ E N ops (⟨d,.indexAddr t x y,T,p,af,none⟩::rest) K s:=by
 refine qe1 rfl nofun fun B0 w0 G a w _ hI=>?_
 subst hi
 have he:=hI.eval_of hx
 have hey:=hI.evalv hy
 generalize hv:a.eval x=v at he
 have hlt:=lt_of_getElem? hz
 cases he with
 |sl0=>simp at hz
 |sl _ _ _ b off cap pub hp hw hlen hrel htip hcap=>
  have hzs:z.cells.length=sz:=hw z (List.mem_of_getElem? hz)
  have hfl:=zt hw
  have hle:(n+1) * sz≤xs.length * sz:=Nat.mul_le_mul_right _ hlt
  rw [Nat.succ_mul] at hle
  refine⟨.pointer (some ⟨b,off+n * sz,none⟩),.pp z.cells,fun w' _=>?_,?_,h⟩
  ·generalize a.eval = ρ at hv hey
   simp only [execOp,hv,hey]
   simp [Instr.indexAt,asIntOf,run_underlying hu,hlt,(vb ht w').1,Addr.add_lit]
  ·refine .pp _ b _ pub hp (by omega) fun j q r h1 h2=>?_
   have hj:j<sz:=by have:=lt_of_getElem? h1;omega
   have hf:=qml hw hz j hj
   exact hrel (n * sz+j) q r (by rw [hf];exact h1) (by rw [← h2];congr 1;omega)
theorem qj9 {x y:Operand} {t e:TypeId} {sz:Nat} {agg:Bool} {o ver off len cp:Nat} {k:IntKind} {i:Int} {n:Nat} (hx:qm N s x = .os o ver off len cp) (hy:qm N s y = .v (.int k i)) (hu:E.P.underlying t=some (.slice e)) (ht:tyOf E.P e=some (sz,agg)) (hi:i=n) (hn:n<len)
  (h:AQ E N ops rest K (s.put d (.bx o ver (off+n * sz)))):AQ E N ops (⟨d,.indexAddr t x y,T,p,af,none⟩::rest) K s:=by
 refine qe1 rfl nofun fun B0 w0 G a w _ hI=>?_
 subst hi
 have he:=hI.eval_of hx
 have hey:=hI.evalv hy
 generalize hv:a.eval x=v at he
 cases he with
 |os _ _ _ _ b cap hn' hver hb=>
  refine⟨.pointer (some ⟨b,off+n * sz,none⟩),_,fun w' _=>?_,.bx o ver _ b hn' hver hb,h⟩
  generalize a.eval = ρ at hv hey
  simp only [execOp,hv,hey]
  simp [Instr.indexAt,asIntOf,run_underlying hu,hn,(vb ht w').1,Addr.add_lit]
theorem qsg {t:TypeId} {x:Operand} {f off sz:Nat} {agg:Bool} {o ver q:Nat} (hx:qm N s x = .bx o ver q) (hf:qbh E.P t f=some (off,sz,agg)) (hsz:Nat.beq sz 0=false)
  (h:AQ E N ops rest K (s.put d (.bx o ver (q+off)))):AQ E N ops (⟨d,.fieldAddr t x f,T,p,af,none⟩::rest) K s:=by
 refine qe1 rfl nofun fun B0 w0 G a w _ hI=>?_
 have he:=hI.eval_of hx
 generalize hv:a.eval x=v at he
 cases he with
 |bx _ _ _ b hn hv' hb=>
  have hs:sz≠0:=fun e=>by subst e;simp at hsz
  exact⟨_,_,fun w' _=>by simp only [execOp,hv];simp [qhm hf hs],.bx o ver _ b hn hv' hb,h⟩
theorem qj8 {t:TypeId} {x:Operand} {f off sz:Nat} {agg:Bool} {cs:List AV} (hx:qm N s x = .pp cs) (hf:qbh E.P t f=some (off,sz,agg)) (hsz:Nat.beq sz 0=false) (hle:Nat.ble off cs.length=true)
  (h:AQ E N ops rest K (s.put d (.pp (cs.drop off)))):AQ E N ops (⟨d,.fieldAddr t x f,T,p,af,none⟩::rest) K s:=by
 refine qe1 rfl nofun fun B0 w0 G a w _ hI=>?_
 have he:=hI.eval_of hx
 generalize hv:a.eval x=v at he
 cases he with
 |pp _ b q pub hp hlen hrel=>
  have hs:sz≠0:=fun e=>by subst e;simp at hsz
  have ho:off≤cs.length:=Nat.le_of_ble_eq_true hle
  refine⟨.pointer (some ⟨b,q+off,none⟩),_,fun w' _=>by simp only [execOp,hv];simp [qhm hf hs],?_,h⟩
  exact .pp _ b (q+off) pub hp (by simp;omega) fun i x y h1 h2=>hrel (off+i) x y (by simpa using h1) (by rw [← h2];congr 1;omega)
theorem qma {x:Operand} {t:TypeId} {sz:Nat} {agg:Bool} {cs:List AV} {r:AV} (hx:qm N s x = .pp cs) (ht:tyOf E.P t=some (sz,agg)) (hr:jx sz agg 0 cs=some r)
  (h:AQ E N ops rest K (s.put d r)):AQ E N ops (⟨d,.load t x,T,p,af,none⟩::rest) K s:=by
 refine qe1 rfl nofun fun B0 w0 G a w _ hI=>?_
 have he:=hI.eval_of hx
 generalize hv:a.eval x=v at he
 cases he with
 |pp _ b off pub hp hlen hrel=>
  obtain⟨c,T',fz,hc,hcc⟩:=hI.agree.pub b pub hp
  have hlt:b<w.heap.size:=hI.agree.pub_lt hp
  have key:∀ w',Below w.heap.size w w'→∃ v,(loadVar t ⟨b,off,none⟩).run E.P w' = .ok v w'∧Rel G r v:=fun w' hw'=>by
   have h4':w'.heap[b]? = some (.cells c T' fz):=by rw [hw'.block _ hlt];exact hc
   exact qah (w:=w') (G:=G) (b:=b) (off:=off) ht (fun i x hx _=>by
    have hi:=lt_of_getElem? hx
    have hy:pub[off+i]? = some (pub[off+i]'(by omega)):=List.getElem?_eq_getElem (by omega)
    refine⟨_,?_,hrel i x _ hx hy⟩
    simp [World.cell?,h4',hcc _ _ hy]) hr
  have hg:∀ w',Below w.heap.size w w'→∀ j,j<cs.length→w'.cell? ⟨b,off+j,none⟩=some (pub.getD (off+j) undef):=fun w' hw' j hj=>by
   have h4':w'.heap[b]? = some (.cells c T' fz):=by rw [hw'.block _ hlt];exact hc
   have hlt2:off+j<pub.length:=by omega
   have hy:pub[off+j]? = some (pub.getD (off+j) undef):=by simp [List.getD,hlt2]
   simp [World.cell?,h4',hcc _ _ hy]
  have hsame:∀ w',Below w.heap.size w w'→∀ v,(loadVar t ⟨b,off,none⟩).run E.P w = .ok v w→(loadVar t ⟨b,off,none⟩).run E.P w' = .ok v w':=fun w' hw' v hr1=>by
   obtain⟨i1,i2⟩:=vb ht w
   obtain⟨j1,j2⟩:=vb ht w'
   obtain⟨v',h1',_⟩:=key w' hw'
   rw [h1']
   congr 1
   cases agg with
   |false=>
    simp only [jx,cond_false] at hr
    have h0:=lt_of_getElem? hr
    have e1:=hg w (Below.refl _ _) 0 h0
    have e2:=hg w' hw' 0 h0
    rw [Nat.add_zero] at e1 e2
    simp [loadVar,i2,run_load,e1] at hr1
    simp [loadVar,j2,run_load,e2] at h1'
    rw [← h1',hr1]
   |true=>
    simp only [jx,cond_true] at hr
    cases hb2:Nat.ble (0+sz) cs.length with
    |false=>rw [hb2] at hr;simp at hr
    |true=>
     have hle:0+sz≤cs.length:=Nat.le_of_ble_eq_true hb2
     have l1:=run_loadCells (P:=E.P) (w:=w) ⟨b,off,none⟩ sz (fun j=>pub.getD (off+j) undef) (fun j hj=>by rw [Addr.add_lit];exact hg w (Below.refl _ _) j (by omega))
     have l2:=run_loadCells (P:=E.P) (w:=w') ⟨b,off,none⟩ sz (fun j=>pub.getD (off+j) undef) (fun j hj=>by rw [Addr.add_lit];exact hg w' hw' j (by omega))
     simp [loadVar,i1,i2,l1] at hr1
     simp [loadVar,j1,j2,l2] at h1'
     rw [← h1',hr1]
  obtain⟨v,hrun,hR⟩:=key w (Below.refl _ _)
  exact⟨v,r,fun w' hw'=>by simp only [execOp,hv,Instr.loadAt,Instr.sureAddr];simp [hsame w' hw' v hrun],hR,h⟩
theorem q8e {x y:Operand} {t t':TypeId} {k:IntKind} {m n r:Int} (hx:qm N s x = .v (.int k m)) (hy:qm N s y = .v (.int k n)) (hr:k.wrap (m - n)=r)
  (h:AQ E N ops rest K (s.put d (.v (.int k r)))):AQ E N ops (⟨d,.binOp .sub t x y t',T,p,af,none⟩::rest) K s:=
 qbo _ rfl nofun (fun a w he=>by rw [← hr];simp [execOp,he _ _ hx,he _ _ hy,eqGuard_at_int,binOp,Op.intArith]) h
theorem q4i {x y z:Operand} {t:TypeId} {k k':IntKind} {l:List UInt8} {i j:Nat} (hx:qm N s x=Sv l) (hy:qm N s y = .v (.int k' (i:Int))) (hz:qm N s z = .v (.int k (j:Int))) (hu:E.P.underlying t=some .string) (h1:i≤j) (h2:j≤l.length)
  (h:AQ E N ops rest K (s.put d (Sv ((l.take j).drop i)))):AQ E N ops (⟨d,.slice t x (some y) (some z) none,T,p,af,none⟩::rest) K s:=
 qqx (i:=i) (j:=j) hx hu ⟨_,hy⟩ ⟨_,hz⟩ (by omega) (by omega) (by omega) (by simpa using h)
theorem q4g {x:Operand} {ts:Array TypeId} {t0 e:TypeId} {v:AV} {n:Nat} (hx:qm N s x=v) (hl:lenA v=some n) (ht:ts[0]? = some t0) (hu:E.P.underlying t0=some (.slice e))
  (h:AQ E N ops rest K (s.put d (Iv n))):AQ E N ops (⟨d,.call ⟨.builtin .len,#[x],ts⟩,T,p,af,none⟩::rest) K s:=by
 refine qe1 rfl nofun fun B0 w0 G a w _ hI=>?_
 have he:=hI.eval_of hx
 have key:∃ b c,a.eval x = .slice b n c:=by
  generalize a.eval x=u at he
  cases he <;> simp [lenA] at hl
  case v y=>
   cases u <;> simp at hl
   subst hl
   exact⟨_,_,rfl⟩
  case sl0=>subst hl;exact⟨_,_,rfl⟩
  case sl=>subst hl;exact⟨_,_,rfl⟩
  case os=>subst hl;exact⟨_,_,rfl⟩
 obtain⟨b,c,hv⟩:=key
 refine⟨.int .i64 n,Iv n,fun w' _=>?_,.v _,h⟩
 generalize a.eval = ρ at hv
 simp [execOp,resolve,invoke,builtin,Builtin.len_,hv,ht,run_underlying hu,goInt]
theorem qp1 {x:Operand} {t:TypeId} {sz:Nat} {agg:Bool} {st loc ext new:List AObj} {k ver off:Nat} {T':TypeId} {cs:List AV} {r:AV} (hs:s.st=((st++loc)++ext)++new) (hx:qm N s x = .bx (st.length+k) ver off) (ho:loc[k]? = some (.cells ver T' cs)) (ht:tyOf E.P t=some (sz,agg)) (hr:jx sz agg off cs=some r)
  (h:AQ E N ops rest K (s.put d r)):AQ E N ops (⟨d,.load t x,T,p,af,none⟩::rest) K s:=
 qsh hx (by rw [hs];exact qa4 ho) ht hr h
end
end Go.Av
namespace Go.Av
open Go Go.RowKit
section
variable {B0 : Nat} {w0 : World} {G : Gh} {st : List AObj} {w : World}
theorem zh.pubOb (h:zh B0 w0 G st w) {o ver:Nat} {T:TypeId} {cs:List AV} (ho:st[o]? = some (.cells ver T cs)) :
  ∃ vs:List Value,G.le (G.publish (G.ob o).blk vs)∧zh B0 w0 (G.publish (G.ob o).blk vs) (st.set o .dead) w∧(G.ob o).ver=ver∧(G.publish (G.ob o).blk vs).pub (G.ob o).blk=some vs∧cs.length=vs.length ∧
   ∀ (i:Nat) (x:AV) (y:Value),cs[i]? = some x→vs[i]? = some y→Rel (G.publish (G.ob o).blk vs) x y:=by
 obtain⟨h0,h1,h2,h3,c,h4,h5,h6⟩:=h.ob o _ ho
 have hle:G.le (G.publish (G.ob o).blk c.toList):=G.le_publish _ _ [] [] (.inl h3)
 refine⟨c.toList,hle,?_,h1,by simp [Gh.publish],by simpa using h5,fun i x y hx hy=>(h6 i x y hx (by simpa using hy)).mono hle⟩
 have key:∀ (k:Nat) (x:AObj),(st.set o .dead)[k]? = some x→x = .dead∨(k≠o∧st[k]? = some x):=fun k x hx=>by
  rcases getElem?_set' _ _ _ _ _ hx with⟨_,e⟩|e
  ·exact .inl e
  ·exact .inr e
 refine⟨h.below,h.hB,by simp [h.n,Gh.publish],fun b vs hb=>?_,fun k x hx=>?_,fun k k' x x' hne hx hx' hl hl'=>?_⟩
 ·simp only [Gh.publish] at hb
  by_cases e:b=(G.ob o).blk
  ·rw [if_pos e] at hb
   cases hb
   subst e
   exact⟨c,T,(0,0),h4,fun i y hy=>by simpa using hy⟩
  ·rw [if_neg e] at hb
   exact h.pub b vs hb
 ·rcases key k x hx with rfl | ⟨hk,hx⟩
  ·trivial
  ·refine (h.ob k x hx).mono hle rfl (fun hl=>?_) (fun _=>rfl)
   have:=h.sep k o x _ hk hx ho hl trivial
   simp [Gh.publish,this]
 ·rcases key k x hx with rfl | ⟨hk,hx⟩
  ·exact hl.elim
  ·rcases key k' x' hx' with rfl | ⟨hk',hx'⟩
   ·exact hl'.elim
   ·exact h.sep k k' x x' hne hx hx' hl hl'
end
section
variable {E : Env} {rd : Option Nat} {N : Nat} {ops : Array Oper} {K : AS → Prop} {s : AS} {rest : List Oper} {d : Option Tmp} {T : TypeId} {p : String} {af : Array Edge}
theorem Inv.pub {B0:Nat} {w0:World} {G:Gh} {a:Act} {w:World} (h:Inv B0 w0 N G s a w) {i o ver:Nat} {T':TypeId} {cs:List AV} (hi:s.t i = .bx o ver 0) (ho:s.st[o]? = some (.cells ver T' cs)) :
  ∃ G',G.le G'∧Inv B0 w0 N G' ⟨Av.put s.t i (.pp cs),s.st.set o .dead,s.df⟩ a w:=by
 obtain⟨vs,hle,hA,hv,hp,hl,hr⟩:=h.agree.pubOb ho
 refine⟨_,hle,hA,h.defers_mono hle,h.size,fun j y hy=>?_⟩
 have hj:=h.tmps j y hy
 by_cases e:j=i
 ·subst e
  simp only [w6]
  rw [hi] at hj
  cases hj with
  |bx _ _ _ b hn hv' hb=>
   have hb:=hb hv
   subst hb
   exact .pp cs _ 0 vs hp (by omega) fun k x y hx hy=>hr k x y hx (by simpa using hy)
 ·simp only
  rw [y8 _ _ _ _ e]
  exact hj.mono hle
theorem qa3 {x y:Operand} {t:TypeId} {sz:Nat} {agg:Bool} {st loc loc' ext new:List AObj} {k ver off:Nat} {T':TypeId} {cs xs:List AV} {r:AV} (hs:s.st=((st++loc)++ext)++new) (hx:qm N s x = .bx (st.length+k) ver off) (hy:qm N s y=r) (ho:loc[k]? = some (.cells ver T' cs)) (ht:tyOf E.P t=some (sz,agg))
  (hok:r.okc=true) (hc:r.cells=xs) (hsz:Nat.beq xs.length sz=true) (h1:j9 xs=true) (hfit:Nat.ble (off+sz) cs.length=true) (hl:loc'=loc.set k (.cells ver T' (zx cs off xs)))
  (h:AOps E rd N ops rest K (AS.put ⟨s.t,((st++loc')++ext)++new,s.df⟩ d (.v undef))):AOps E rd N ops (⟨d,.store t x y,T,p,af,none⟩::rest) K s:=by
 have hk:=lt_of_getElem? ho
 exact yy hx hy (by rw [hs];exact qa4 ho) ht hok hc hsz h1 hfit (by rw [hs,qek _ hk,← hl];exact h)
end
theorem yt {α : Type} (l:List α) (a : α):(l++[a]).length=l.length+1:=by simp
theorem qdf {α : Type} (l:List α) (a : α):Iv ((l.length:Int)+1)=Iv ((l++[a]).length:Nat):=by rw [yt];rfl
theorem qrf {α : Type} (l:List α) (a : α):Iv ((l.length:Int)+1+1)=Iv (((l++[a]).length:Nat)+1):=by rw [yt];rfl
theorem qjx {α : Type} {sz:Nat} {tip:Option Nat} (x0:AV) (g : α→AV) (pre:List α) (a : α) (v:AV) (h:v=g a):AV.sl sz ((x0::pre.map g)++[v]) tip=AV.sl sz (x0::(pre++[a]).map g) tip:=by rw [List.map_append,h];rfl
theorem q2t {E:Env} {rd:Option Nat} {N:Nat} {ops:Array Oper} {K:AS→Prop} {s:AS} {rest:List Oper} {d:Option Tmp} {T:TypeId} {p:String} {af:Array Edge} {t:TypeId} {st loc:List AObj} {cs:List AV} {n:Nat} (hst:s.st=st++loc) (hn:st.length=n) (hz:qi1 E.P t=some cs)
  (h:AOps E rd N ops rest K (AS.put ⟨s.t,st++(loc++[.cells 0 t cs]),s.df⟩ d (.bx (n+loc.length) 0 0))):AOps E rd N ops (⟨d,.alloc t,T,p,af,none⟩::rest) K s:=by
 subst hn
 exact jm hst hz h
theorem qsd {E:Env} {rd:Option Nat} {N:Nat} {ops:Array Oper} {K:AS→Prop} {s:AS} {rest:List Oper} {d:Option Tmp} {T:TypeId} {p:String} {af:Array Edge} {x y:Operand} {t:TypeId} {sz:Nat} {agg:Bool} {st loc ext new:List AObj} {k ver off:Nat} {T':TypeId} {cs xs:List AV} {r:AV} (hs:s.st=((st++loc)++ext)++new) (hx:qm N s x = .bx (st.length+k) ver off) (hy:qm N s y=r) (ho:loc[k]? = some (.cells ver T' cs)) (ht:tyOf E.P t=some (sz,agg))
  (hok:r.okc=true) (hc:r.cells=xs) (hsz:xs.length=sz) (h1:j9 xs=true) (hfit:off+sz≤cs.length)
  (h:AOps E rd N ops rest K (AS.put ⟨s.t,((st++loc.set k (.cells ver T' (zx cs off xs)))++ext)++new,s.df⟩ d (.v undef))):AOps E rd N ops (⟨d,.store t x y,T,p,af,none⟩::rest) K s:=by
 have hk:=lt_of_getElem? ho
 exact qgd hx hy (by rw [hs];exact qa4 ho) ht hok hc hsz (by simpa [j9] using h1) hfit (by rw [hs,qek _ hk];exact h)
theorem ye {E:Env} {rd:Option Nat} {N:Nat} {c:Code} {Q:Exit→AS→Prop} {s:AS} {α : Type} (xs:List α) (I:List α→AS→Prop) (h0:I [] s) (hend:∀ s,I xs s→AWp E rd N c (qyr (fun _=>False) Q) s)
  (hstep:∀ pre a rest s,xs=pre++a::rest→I pre s→AWp E rd N c (qyr (fun s'=>I (pre++[a]) s') Q) s):AWp E rd N (.loop c) Q s:=by
 refine ju (fun (x:List α×List α) s=>xs=x.1++x.2∧I x.1 s) (fun x=>x.2.length) ([],xs) ⟨rfl,h0⟩ ?_
 rintro⟨pre,rest⟩ s ⟨hx,hi⟩
 cases rest with
 |nil=>
  simp only [List.append_nil] at hx
  subst hx
  refine (hend s hi).mono fun e s' h=>?_
  cases e with
  |normal=>exact h.elim
  | _=>exact h
 |cons a rest=>
  refine (hstep pre a rest s hx hi).mono fun e s' h=>?_
  cases e with
  |normal=>exact⟨(pre++[a],rest),⟨by rw [hx];simp,h⟩,by simp⟩
  | _=>exact h
theorem qxz {E:Env} {fn:Func} {R:AV→List AObj→Prop} {s:AS} {st loc ext new:List AObj} {k:Nat} {ds:List Nat} (hs:s.st=((st++loc)++ext)++new) (hd:s.df=(st.length+k)::ds) (ho:loc[k]? = some .dfr) (h:ARet E fn R ⟨s.t,((st++loc.set k .dead)++ext)++new,ds⟩):ARet E fn R s:=
 qny hd (by rw [hs];exact qa4 ho) (by rw [hs,qek _ (lt_of_getElem? ho)];exact h)
@[reducible] def zax (F : LoopState → Option Code → AObj) (st : List AObj) (own : AObj) (I : List AObj → Prop) (D : Code → List AObj → Prop) : Exit → AS → Prop
 | .normal,s=>∃ l ext new,s.st=((st++(l++[.dfr,F .busy none,own]))++ext)++new∧I l
 | .ret,s=>∃ l ext new,s.st=((st++(l++[.dfr,F .busy none,own]))++ext)++new∧D .ret l
 | .exit id,s=>∃ l ext new,s.st=((st++(l++[.dfr,F .busy none,own]))++ext)++new∧D (.exit id) l
 | _,_=>False
theorem q2z {E:Env} {o:Nat} {xs:List AV} {st st':List AObj} {R:Bool→List AObj→Prop} (e:st=st') (h:qau E o xs st R):qau E o xs st' R:=e▸h
theorem qdu {st l ext:List AObj} {a b c:AObj} {n:Nat} (hl:l.length=n):(((st++(l++[a,b,c]))++ext))[st.length+(n+1)]? = some b:=by
 subst hl
 rw [List.append_assoc,List.append_assoc,List.getElem?_append_right (by omega),Nat.add_sub_cancel_left,List.getElem?_append_right (by omega)]
 simp
theorem qf2 {st l ext:List AObj} {a b c y:AObj} {n:Nat} (hl:l.length=n):((st++(l++[a,b,c]))++ext).set (st.length+(n+1)) y=(st++(l++[a,y,c]))++ext:=by
 subst hl
 rw [List.append_assoc,List.append_assoc,List.set_append_right _ _ (by omega),Nat.add_sub_cancel_left,List.set_append_right _ _ (by omega)]
 simp
theorem zb8 {E:Env} {N:Nat} {t:Nat→AV} {ps:Array Tmp} {asg body:Code} {st l ext:List AObj} {own:AObj} {n:Nat} {xs:List AV} {F:LoopState→Option Code→AObj} {I:List AObj→Prop} {D:Code→List AObj→Prop} (hF:ql4 F N t ps asg body) (hl:l.length=n) (hps:ps.size=xs.length)
  (hI:∀ l,I l→l.length=n) (hD:∀ c l,D c l→l.length=n)
  (h:∀ rd,AWp E (some rd) N asg (only fun s1=>∃ new,s1.st=((st++(l++[.dfr,F .ready none,own]))++ext)++new∧s1.df=[]∧AWp E (some rd) N body (zax F st own I D) ⟨s1.t,((st++(l++[.dfr,F .busy none,own]))++ext)++new,[]⟩) ⟨qk0 t (ps.toList.zip xs),((st++(l++[.dfr,F .ready none,own]))++ext)++[],[]⟩) :
  qau E (st.length+(n+1)) xs ((st++(l++[.dfr,F .ready none,own]))++ext) fun b st2=>∃ l' ext',(b=true→st2=(st++(l'++[.dfr,F .ready none,own]))++ext'∧I l')∧(b=false→∃ c,st2=(st++(l'++[.dfr,F .done (some c),own]))++ext'∧D c l'):=by
 refine qqz hF (qdu hl) hps fun rd=>?_
 have h:=h rd
 rw [List.append_nil] at h
 refine h.mono fun e s1 hq=>?_
 cases e with
 |normal=>
  obtain⟨new,h1,h2,h3⟩:=hq
  refine⟨by rw [h1,List.append_assoc];exact qdu hl,h2,?_⟩
  have e:s1.st.set (st.length+(n+1)) (F .busy none)=((st++(l++[.dfr,F .busy none,own]))++ext)++new:=by
   rw [h1,List.append_assoc,qf2 hl,List.append_assoc _ ext]
  rw [e]
  refine h3.mono fun e s2 hq2=>?_
  cases e with
  |normal=>
   obtain⟨l',ext',new',k1,k2⟩:=hq2
   exact⟨by rw [k1,List.append_assoc];exact qdu (hI _ k2),l',ext'++new',fun _=>⟨by rw [k1,List.append_assoc,qf2 (hI _ k2)],k2⟩,nofun⟩
  |ret=>
   obtain⟨l',ext',new',k1,k2⟩:=hq2
   exact⟨by rw [k1,List.append_assoc];exact qdu (hD _ _ k2),l',ext'++new',nofun,fun _=>⟨_,by rw [k1,List.append_assoc,qf2 (hD _ _ k2)],k2⟩⟩
  |exit id=>
   obtain⟨l',ext',new',k1,k2⟩:=hq2
   exact⟨by rw [k1,List.append_assoc];exact qdu (hD _ _ k2),l',ext'++new',nofun,fun _=>⟨_,by rw [k1,List.append_assoc,qf2 (hD _ _ k2)],k2⟩⟩
  | _=>exact hq2.elim
 | _=>exact hq.elim
end Go.Av
