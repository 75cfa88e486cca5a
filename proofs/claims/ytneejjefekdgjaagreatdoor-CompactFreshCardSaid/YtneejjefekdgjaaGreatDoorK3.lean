/- Contracts and plain facts that the closing text leans on (part 3). No condition of their own beyond those that each states. -/
import Derived.Test.YtneejjefekdgjaaGreatDoorK2
import Derived.Lib.SplitLaws
import Derived.Shelf.Strings.SplitShaped
import Derived.Deep.Slices
import Derived.Deep.Fields
import Derived.WideKeyArgs
import Derived.Lib.ItoaLen
set_option maxRecDepth 100000
set_option linter.unusedVariables false
set_option linter.unusedSimpArgs false
namespace Go.Proofs.YtneejjefekdgjaaGreatDoor
open Go Go.Av Go.RowKit Go.Proofs Go.Pl
theorem qjh:∀ (n u:Nat),u<n→u<18446744073709551616→∀ st,qo E 189 [.v (.int .u64 (u:Int))] st fun r st'=>r=Sv (Lib.decDigits u)∧st'=st
 | 0,_,h,_,_=>absurd h (Nat.not_lt_zero _)
 |n+1,u,hu,h64,st=>by
  refine qx (qq _) (qp Tryz.func189 rfl (Nat.le_of_ble_eq_true rfl) ?_);have r6:=qfl (u:=u / 10) (by omega);have lf:=qfl (u:=u % 10) (by omega);by_cases b9:u<10
  ·skip
   repeat' (first|apply qn|apply qf|apply qh|apply qj|apply qg|(apply qs;(iterate 3 exact rfl))|(apply qc;exact rfl;apply vf;exact cAo)|(apply qfv;(iterate 4 exact rfl);exact cAs;exact cAs)|apply qt|(apply qxh (n:=1);exact rfl;exact rfl;exact qmh (by omega)))
   exact qm rfl (q5 rfl) ⟨congrArg Sv (q4o b9),_,rfl⟩
  ·have ih1:=qjh n (u / 10) (by omega) (by omega)
   have ih2:=qjh n (u % 10) (by omega) (by omega);repeat' (first|apply qn|apply qf|apply qh|apply qj|apply qg|(apply qs;(iterate 3 exact rfl))|(apply qc;exact rfl;apply vr;exact cAo)|(apply jp;exact rfl;exact rfl;exact cOs)|apply qw|apply qt|(apply qoi (n:=10);exact rfl;exact rfl;omega;exact qmh (by omega))|(apply qxj (n:=10);exact rfl;exact rfl;omega)|(apply qk;exact Tryz.call189;exact ih1 _)|(apply qk;exact Tryz.call189;exact ih2 _))
   exact qm rfl (q5 rfl) ⟨congrArg Sv (yb b9).symm,_,rfl⟩
theorem qpu (k:Nat) (st:List AObj) (hk:k≤9223372036854775807):qo E 114 [Iv k] st fun r st'=>r=Sv (Lib.itoa k)∧st'=st:=by
 refine qx (qq _) (qp Tryz.func114 rfl (Nat.le_of_ble_eq_true rfl) ?_);have hneg:¬ (k:Int)<0:=by omega
 repeat' (first|apply qn|apply qf|apply qh|apply qj|apply qg|(apply qs;(iterate 3 exact rfl))|(apply qc;exact rfl;apply vr;exact cAo)|apply qw|apply qt|(apply qef;(iterate 3 exact rfl);exact qmh (by omega))|(apply qk;exact Tryz.call189;exact qjh (k+1) k (by omega) (by omega) _))
 exact qm rfl (q5 rfl) ⟨congrArg Sv (by unfold Lib.itoa;rw [if_neg hneg];simp),_,rfl⟩
theorem qgu (l m:List UInt8) (st:List AObj) (hl:l.length<4294967281):qo E 246 [Sv l,Sv m] st fun r st'=>r=Bv (decide (m <+: l))∧st'=st:=by
 refine qx (qq _) (qp Tryz.func246 rfl (Nat.le_of_ble_eq_true rfl) ?_);repeat' (first|apply qn|apply qf|apply qh|apply qj|apply qg|(apply qs;(iterate 3 exact rfl))|(apply jk;(iterate 3 exact rfl))|(apply qu;(iterate 4 exact rfl))|(apply wy;exact cAo)|(apply xb;exact cAo)|(apply jj <;> intro h)|(apply qi;exact rfl;apply wt;exact cAo)|(apply qi;exact rfl;apply wj;exact cAo)|(apply zo;(iterate 3 exact rfl))|(apply qa5;(iterate 3 exact rfl);exact cAs)|apply qt)
 all_goals refine qm rfl (q5 rfl) ⟨congrArg Bv (?_:_=_),_,rfl⟩
 ·have e:l.take m.length=m↔m <+: l:=by rw [List.prefix_iff_eq_take];exact eq_comm
  simp [e]
 ·have:¬ m <+: l:=fun h=>by have:=h.length_le;omega
  simp [this]
theorem qmc (l m:List UInt8) (st:List AObj) (hl:m.length<4294967281):qo E 245 [Sv l,Sv m] st fun r st'=>r=Bv (decide (l <+: m))∧st'=st:=by
 refine qx (qq _) (qp Tryz.func245 rfl (Nat.le_of_ble_eq_true rfl) ?_);repeat' (first|apply qn|apply qf|apply qh|apply qj|apply qg|apply qt|(apply qk;exact Tryz.call246;exact qgu _ _ _ hl))
 exact qm rfl (q5 rfl) ⟨rfl,_,rfl⟩
theorem qio {p:UInt8→Bool}:∀ {l:List UInt8} {k:Nat},k≤l.length→(∀ c∈l.take k,p c=true)→(k<l.length→p (l.getD k 0)=false)→(l.takeWhile p).length=k
 | [],k,hk,_,_=>by simp at hk;simp [hk]
 |b::l,0,_,_,h=>by
  have:=h (by simp);simp at this
  simp [this]
 |b::l,k+1,hk,h1,h2=>by
  have hb:p b=true:=h1 b (by simp);rw [List.takeWhile_cons_of_pos hb,List.length_cons,qio (k:=k) (by simpa using hk) (fun c hc=>h1 c (by simp [hc])) (fun h=>by have:=h2 (by simpa using h);simpa using this)]
def yo (c:UInt8):Bool:=decide (48≤c.toNat∧c.toNat≤57)
theorem q3d (l:List UInt8) (st:List AObj) (hl:l.length<4294967281):qo E 247 [Sv l] st fun r st'=>r=Iv (l.takeWhile yo).length∧st'=st:=by
 refine qx (qq _) (qp Tryz.func247 rfl (Nat.le_of_ble_eq_true rfl) ?_);repeat' (first|apply qn|apply qy|apply qf|apply qh|apply qg)
 refine jv (fun (k:Nat) s=>k≤l.length∧(∀ c∈l.take k,yo c=true)∧StA [(0,Sv l),(3,Iv k)] (st++[]) [] s) (fun k=>l.length - k) 0 ⟨by omega,by simp,zz ⟨rfl,rfl,trivial⟩⟩ ?_;rintro k _ ⟨hk,h1,t,rfl⟩;repeat' (first|apply qn|apply qy|apply qf|apply qh|apply qj|apply qg|(apply qs;(iterate 3 exact rfl))|(apply qu;(iterate 4 exact rfl))|(apply wy;exact cAo)|(apply xb;exact cAo)|(apply w9;exact cRa)|(apply jj <;> intro h)|(apply qi;exact rfl;apply wt;exact cAo)|(apply qi;exact rfl;apply wj;exact cAo)|(apply qi;exact rfl;apply pk_f;exact cRa)|(apply qc;exact rfl;apply cd_f;exact cRa)|(apply qc;exact rfl;apply cd_d <;> intro h)|(apply zo;(iterate 3 exact rfl))|(apply zl;exact rfl;exact rfl;exact q6 (by omega) (by omega))|(apply wa;(iterate 3 exact rfl);exact cAs)|apply qw|apply jd|apply qt)
 all_goals first
  |exact⟨k+1,⟨by omega,(qmm (by omega)).2 ⟨h1,by simp only [yo,decide_eq_true_eq];omega⟩,zz ⟨rfl,rfl,trivial⟩⟩,by omega⟩
  |exact qm rfl (q5 rfl) ⟨congrArg Iv (congrArg Nat.cast (qio hk h1 (fun b4=>by simp only [yo,decide_eq_false_iff_not];omega)).symm),_,rfl⟩
def qa3 (c:UInt8):Bool:=decide (48≤c.toNat∧c.toNat≤57∨97≤c.toNat∧c.toNat≤102)
theorem qw7 {p:UInt8→Bool} {l:List UInt8} {k n:Nat} (hk:k≤l.length) (hn:k≤n) (h1:∀ c∈l.take k,p c=true) (h2:k<l.length→k<n→p (l.getD k 0)=false):((l.take n).takeWhile p).length=k:=by
 have a7:(l.take n).length=min n l.length:=by simp
 refine qio (by omega) (fun c hc=>h1 c ?_) (fun h=>?_)
 ·rwa [List.take_take,Nat.min_eq_left hn] at hc
 ·have h3:k<l.length:=by omega
  have h4:k<n:=by omega
  have e:(l.take n).getD k 0=l.getD k 0:=by simp [List.getD,List.getElem?_take,h4]
  rw [e];exact h2 h3 h4
theorem zfj (l:List UInt8) (st:List AObj) (hl:l.length<4294967281):qo E 248 [Sv l] st fun r st'=>r=Iv ((l.take 8).takeWhile qa3).length∧st'=st:=by
 refine qx (qq _) (qp Tryz.func248 rfl (Nat.le_of_ble_eq_true rfl) ?_);repeat' (first|apply qn|apply qy|apply qf|apply qh|apply qg)
 refine jv (fun (k:Nat) s=>k≤l.length∧k≤8∧(∀ c∈l.take k,qa3 c=true)∧StA [(0,Sv l),(3,Iv k)] (st++[]) [] s) (fun k=>l.length - k) 0 ⟨by omega,by omega,by simp,zz ⟨rfl,rfl,trivial⟩⟩ ?_;rintro k _ ⟨hk,hk8,h1,t,rfl⟩;repeat' (first|apply qn|apply qy|apply qf|apply qh|apply qj|apply qg|(apply qs;(iterate 3 exact rfl))|(apply qu;(iterate 4 exact rfl))|(apply wy;exact cAo)|(apply vt;exact cAo)|(apply v7;exact cAo)|(apply xb;exact cAo)|(apply qae;(iterate 4 exact rfl))|(apply qd3;exact cRa)|(apply w9;exact cRa)|(apply jj <;> intro h)|(apply qi;exact rfl;apply wt;exact cAo)|(apply qi;exact rfl;apply wj;exact cAo)|(apply qi;exact rfl;apply pk_f;exact cRa)|(apply qc;exact rfl;apply cd_t;exact cRa)|(apply qc;exact rfl;apply cd_f;exact cRa)|(apply qc;exact rfl;apply cd_d <;> intro h)|(apply zo;(iterate 3 exact rfl))|(apply zl;exact rfl;exact rfl;exact q6 (by omega) (by omega))|(apply wa;(iterate 3 exact rfl);exact cAs)|apply qw|apply jd|apply qt)
 all_goals first
  |exact⟨k+1,⟨by omega,by omega,(qmm (by omega)).2 ⟨h1,by simp only [qa3,decide_eq_true_eq];omega⟩,zz ⟨rfl,rfl,trivial⟩⟩,by omega⟩
  |exact qm rfl (q5 rfl) ⟨congrArg Iv (congrArg Nat.cast (qw7 hk hk8 h1 (fun b4 hl8=>by simp only [qa3,decide_eq_false_iff_not];omega)).symm),_,rfl⟩
end Go.Proofs.YtneejjefekdgjaaGreatDoor
namespace Go.Pl
open Go
def decV (l:qa):Nat:=l.foldl (fun a c=>10 * a+(c.toNat - 48)) 0
theorem qox (l:qa) (c:UInt8):decV (l++[c])=10 * decV l+(c.toNat - 48):=by simp [decV]
theorem xi:∀ (n u:Nat),u≤n→∀ c∈Lib.decDigits u,48≤c.toNat∧c.toNat≤57
 |n,u,hn,c,hc=>by
  by_cases h:u<10
  ·rw [Lib.decDigits_one h] at hc
   simp only [List.mem_singleton] at hc;subst hc;rw [UInt8.toNat_ofNat'];omega
  ·rw [yb h,List.mem_append] at hc
   cases n with
   |zero=>omega
   |succ n=>
    rcases hc with hc|hc
    ·exact xi n (u / 10) (by omega) c hc
    ·exact xi n (u % 10) (by omega) c hc
theorem qsb:∀ (n u:Nat),u≤n→decV (Lib.decDigits u)=u
 |n,u,hn=>by
  have key:∀ d,d<10→Lib.decDigits d=[UInt8.ofNat (48+d)]∧(UInt8.ofNat (48+d)).toNat - 48=d:=fun d hd=>by
   refine⟨Lib.decDigits_one hd,?_⟩;rw [UInt8.toNat_ofNat'];omega
  by_cases h:u<10
  ·obtain⟨e1,e2⟩:=key u h
   rw [e1];exact (Nat.zero_add _).trans e2
  ·cases n with
   |zero=>omega
   |succ n=>
    obtain⟨e1,e2⟩:=key (u % 10) (by omega);rw [yb h,e1,qox,qsb n (u / 10) (by omega),e2];omega
theorem qfg (u:Nat):1≤(Lib.decDigits u).length:=by
 rw [Lib.decDigits_length];exact Lib.nDigits_pos u
theorem qfp {v:Int} (h:v<0):Lib.itoa v=45::Lib.decDigits v.natAbs:=by
 unfold Lib.itoa;rw [if_pos h]
theorem qfq {v:Int} (h:0≤v):Lib.itoa v=Lib.decDigits v.toNat:=by
 unfold Lib.itoa;rw [if_neg (by omega)]
theorem q6d (v:Int):1≤(Lib.itoa v).length:=by
 by_cases h:v<0
 ·rw [qfp h];simp
 ·rw [qfq (by omega)];exact qfg _
theorem qid {v:Int} (h1 : -9223372036854775808≤v) (h2:v≤9223372036854775807):(Lib.itoa v).length≤20:=by
 by_cases h:v<0
 ·rw [qfp h,List.length_cons,Lib.decDigits_length]
  have:=qen 18 v.natAbs (by omega);omega
 ·rw [qfq (by omega),Lib.decDigits_length]
  have:=qen 18 v.toNat (by omega);omega
theorem qyr:∀ (a:Nat) (l m:qa) (b:Nat),Lib.parseUint10 a l = .ok b→Lib.parseUint10 a (l++m)=Lib.parseUint10 b m
 |a,[],m,b,h=>by
  simp only [Lib.parseUint10,Lib.NumEnd.ok.injEq] at h
  subst h;rfl
 |a,c::l,m,b,h=>by
  simp only [List.cons_append,Lib.parseUint10] at h ⊢;split at h
  ·rename_i hd
   rw [if_pos hd];split at h
   ·cases h
   ·rename_i h1
    rw [if_neg h1];split at h
    ·cases h
    ·rename_i h2
     rw [if_neg h2];exact qyr _ l m b h
  ·cases h
theorem qnh:∀ (n u:Nat),u≤n→u≤9223372036854775808→Lib.parseUint10 0 (Lib.decDigits u) = .ok u
 |n,u,hn,hu=>by
  have key:∀ (a d:Nat),a≤922337203685477580→d<10→Lib.parseUint10 a (Lib.decDigits d) = .ok (a * 10+d):=by
   intro a d ha hd;have e:(UInt8.ofNat (48+d)).toNat=48+d:=by rw [UInt8.toNat_ofNat'];omega
   rw [Lib.decDigits_one hd];simp only [Lib.parseUint10,e];rw [if_pos (by omega),if_neg (by omega),if_neg (by omega)];congr 1;omega
  by_cases h:u<10
  ·have:=key 0 u (by omega) h
   simpa using this
  ·cases n with
   |zero=>omega
   |succ n=>
    rw [yb h,qyr 0 _ _ (u / 10) (qnh n (u / 10) (by omega) (by omega)),key _ _ (by omega) (by omega)];congr 1;omega
theorem qmp {v:Int} (h1 : -9223372036854775808≤v) (h2:v≤9223372036854775807):Lib.atoiAll (Lib.itoa v) = .ok v:=by
 by_cases h:v<0
 ·have hp:=qnh v.natAbs v.natAbs (Nat.le_refl _) (by omega)
  rw [qfp h]
  have hm:Lib.parseMag (Lib.decDigits v.natAbs) = .ok v.natAbs:=by
   unfold Lib.parseMag;rw [if_neg (fun e=>by have:=qfg v.natAbs;rw [e] at this;simp at this)];exact hp
  have e45:(45:UInt8).toNat=45:=rfl;simp only [Lib.atoiAll,e45];rw [if_pos (Or.inr trivial),hm];simp only [not_true,false_and,if_false,true_and];rw [if_neg (by omega)];simp only [if_true];congr 1;omega
 ·have hp:=qnh v.toNat v.toNat (Nat.le_refl _) (by omega)
  have hd:=xi v.toNat v.toNat (Nat.le_refl _);rw [qfq (by omega)]
  cases hl:Lib.decDigits v.toNat with
  |nil=>have:=qfg v.toNat;rw [hl] at this;simp at this
  |cons c r=>
   rw [hl] at hp hd;have hc:=hd c (by simp);simp only [Lib.atoiAll];have g1:¬ (c.toNat=43∨c.toNat=45):=by omega
   rw [if_neg g1];have hm:Lib.parseMag (c::r) = .ok v.toNat:=by unfold Lib.parseMag;rw [if_neg (by simp)];exact hp
   rw [hm];have g2:¬ c.toNat=45:=by omega
   simp only [g2,not_false_iff,true_and,false_and,if_false];rw [if_neg (by omega)];congr 1;omega
def numZ (l:qa):Option Int:=
 match Lib.atoiAll l with
 | .ok v=>if Lib.itoa v=l then some v else none
 | _=>none
theorem qf5 {v:Int} (h1 : -9223372036854775808≤v) (h2:v≤9223372036854775807):numZ (Lib.itoa v)=some v:=by
 unfold numZ;rw [qmp h1 h2];simp
theorem qla {l:qa} {v:Int} (h:numZ l=some v):l=Lib.itoa v∧-9223372036854775808≤v∧v≤9223372036854775807:=by
 unfold numZ at h;split at h
 ·rename_i u hu
  split at h
  ·rename_i he
   simp only [Option.some.injEq] at h;subst h;exact⟨he.symm,atoiAll_bounds hu⟩
  ·simp at h
 ·simp at h
theorem qpk {l:qa} (h:∀ v,-9223372036854775808≤v→v≤9223372036854775807→l≠Lib.itoa v):numZ l=none:=by
 cases hn:numZ l with
 |none=>rfl
 |some v=>
  obtain⟨h1,h2,h3⟩:=qla hn;exact absurd h1 (h v h2 h3)
end Go.Pl
namespace Go.Proofs.YtneejjefekdgjaaGreatDoor
open Go Go.Av Go.RowKit Go.Proofs Go.Pl
theorem qfh (v:Int) (st:List AObj) (h1 : -9223372036854775808≤v) (h2:v≤9223372036854775807):qo E 114 [Iv v] st fun r st'=>r=Sv (Lib.itoa v)∧st'=st:=by
 by_cases hneg:v<0
 ·refine qx (qq _) (qp Tryz.func114 rfl (Nat.le_of_ble_eq_true rfl) ?_)
  have hl:=qfl (u:=v.natAbs) (by omega)
  have hk:IntKind.u64.wrap (-(v+1))=((v.natAbs - 1:Nat):Int):=by
   rw [show -(v+1)=((v.natAbs - 1:Nat):Int) by omega];exact qmh (by omega)
  have s3:IntKind.u64.wrap (((v.natAbs - 1:Nat):Int)+1)=((v.natAbs:Nat):Int):=by
   rw [show ((v.natAbs - 1:Nat):Int)+1=((v.natAbs:Nat):Int) by omega];exact qmh (by omega)
  repeat' (first|apply qn|apply qf|apply qh|apply qj|apply qg|(apply qs;(iterate 3 exact rfl))|(apply qc;exact rfl;apply vf;exact cAo)|(apply jp;exact rfl;exact rfl;exact cOs)|(apply zl;exact rfl;exact rfl;exact q6 (by omega) (by omega))|apply qt|(apply q0o;exact rfl;exact (show IntKind.i64.wrap (0 - (v+1)) = -(v+1) from by rw [q6 (by omega) (by omega)];omega))|(apply qef;(iterate 3 exact rfl);exact hk)|(apply zl;exact rfl;exact rfl;exact s3)|(apply qk;exact Tryz.call189;exact qjh (v.natAbs+1) v.natAbs (by omega) (by omega) _))
  exact qm rfl (q5 rfl) ⟨congrArg Sv (qfp hneg).symm,_,rfl⟩
 ·obtain⟨k,rfl⟩:=Int.eq_ofNat_of_zero_le (by omega:0≤v)
  exact qpu k st (by omega)
theorem qp8 (x:Int):IntKind.i64.wrap x=(x+9223372036854775808) % 18446744073709551616 - 9223372036854775808:=by
 simp [IntKind.wrap,IntKind.bits,IntKind.signed];split <;> omega
theorem q2k (V d:Nat) (n:Int) (hn:n=IntKind.i64.wrap (-(V:Int))):IntKind.i64.wrap (IntKind.i64.wrap (10 * n) - (d:Int))=IntKind.i64.wrap (-((10 * V+d:Nat):Int)):=by
 rw [hn];simp only [qp8];omega
theorem q6n (V:Nat):IntKind.i64.wrap (0 - IntKind.i64.wrap (-(V:Int)))=IntKind.i64.wrap (V:Int):=by
 simp only [qp8];omega
theorem qec (x:Int) : -9223372036854775808≤IntKind.i64.wrap x∧IntKind.i64.wrap x≤9223372036854775807:=by
 rw [qp8];omega
theorem sub8 {c:Nat} (h:48≤c) (h2:c<256):IntKind.u8.wrap ((c:Int) - 48)=((c - 48:Nat):Int):=by
 simp [IntKind.wrap,IntKind.bits,IntKind.signed];omega
def numA (l:qa):AV:=match numZ l with|some v=>.tu [Iv v,Bv true]|none=>.tu [Iv 0,Bv false]
theorem za8 (l:qa):Pure (numA l):=by
 unfold numA;split <;> exact qld _ _
theorem qc0 {l:qa} (h:numZ l=none):numA l = .tu [Iv 0,Bv false]:=by unfold numA;rw [h]
theorem qpj {l:qa} {v:Int} (h:numZ l=some v):numA l = .tu [Iv v,Bv true]:=by unfold numA;rw [h]
theorem qyg {l:qa} {v:Int} (h:l=Lib.itoa v):(v<0→(l.getD 0 0).toNat=45∧l.drop 1=Lib.decDigits v.natAbs)∧(0≤v→(l.getD 0 0).toNat≠45∧l=Lib.decDigits v.toNat):=by
 subst h;refine⟨fun h=>?_,fun h=>?_⟩
 ·rw [qfp h];exact⟨rfl,rfl⟩
 ·rw [qfq h]
  refine⟨?_,rfl⟩;have hp:=qfg v.toNat;have hd:=xi v.toNat v.toNat (Nat.le_refl _)
  cases hl:Lib.decDigits v.toNat with
  |nil=>rw [hl] at hp;simp at hp
  |cons c r=>
   rw [hl] at hd;have:=hd c (by simp);simp;omega
def sgn (l:qa):Nat:=if (l.getD 0 0).toNat=45 then 1 else 0
theorem qlp {l:qa} {v:Int} (h:l=Lib.itoa v):l.drop (sgn l)=Lib.decDigits v.natAbs:=by
 obtain⟨h1,h2⟩:=qyg h;unfold sgn;by_cases hv:v<0
 ·obtain⟨a,b⟩:=h1 hv
  rw [if_pos a,b]
 ·obtain⟨a,b⟩:=h2 (by omega)
  rw [if_neg a,List.drop_zero,show v.natAbs=v.toNat by omega];exact b
theorem qql {l:qa} {k:Nat} (hk:k<l.length) (hs:sgn l≤k) (hd:¬ (48≤(l.getD k 0).toNat∧(l.getD k 0).toNat≤57)):numZ l=none:=by
 refine qpk fun v h1 h2 h=>?_;have e:=qlp h
 have hm:l.getD k 0∈l.drop (sgn l):=by
  rw [show l.getD k 0=l[k] by simp [List.getD,hk]];rw [List.mem_drop_iff_getElem];exact⟨k - sgn l,by omega,by congr 1;omega⟩
 rw [e] at hm;exact hd (xi _ _ (Nat.le_refl _) _ hm)
def numW (l:qa):Int:=if (l.getD 0 0).toNat=45 then IntKind.i64.wrap (-(decV (l.drop 1):Int)) else IntKind.i64.wrap (decV l:Int)
theorem zh7 {l:qa} {v:Int} (h:l=Lib.itoa v) (h1 : -9223372036854775808≤v) (h2:v≤9223372036854775807):numW l=v:=by
 obtain⟨g1,g2⟩:=qyg h;unfold numW;by_cases hv:v<0
 ·obtain⟨a,b⟩:=g1 hv
  rw [if_pos a,b,qsb _ _ (Nat.le_refl _),q6 (by omega) (by omega)];omega
 ·obtain⟨a,b⟩:=g2 (by omega)
  rw [if_neg a,b,qsb _ _ (Nat.le_refl _),q6 (by omega) (by omega)];omega
theorem q6m {l:qa} {n:Int} (h:n=numW l) (he:Lib.itoa n=l):numZ l=some n:=by
 have hr : -9223372036854775808≤n∧n≤9223372036854775807:=by
  rw [h];unfold numW;split <;> exact qec _
 rw [← he,qf5 hr.1 hr.2]
theorem q6l {l:qa} {n:Int} (h:n=numW l) (he:¬ Lib.itoa n=l):numZ l=none:=
 qpk fun v h1 h2 hv=>he (by rw [h,zh7 hv h1 h2];exact hv.symm)
theorem qmf {l:qa} {k a:Nat} (h:k<l.length) (ha:a≤k):(l.take (k+1)).drop a=(l.take k).drop a++[l.getD k 0]:=by
 rw [qa8 h,List.drop_append_of_le_length (by simp;omega)]
theorem qru (l:List UInt8) (st:List AObj) (hl:l.length<4294967281):qo E 145 [Sv l] st fun r st'=>r=numA l∧st'=st:=by
 refine qx (za8 l) (qp Tryz.func145 rfl (Nat.le_of_ble_eq_true rfl) ?_);by_cases s7:l.length<1∨20<l.length
 ·have hz:numZ l=none:=qpk fun v h1 h2 h=>by
   have g1:=q6d v;have g2:=qid h1 h2;rw [← h] at g1 g2;omega
  repeat' (first|apply qn|apply qf|apply qh|apply qj|apply qg|(apply qs;(iterate 3 exact rfl))|(apply qu;(iterate 4 exact rfl))|(apply vt;exact cAo)|(apply v7;exact cAo)|(apply jj <;> intro h)|(apply qi;exact rfl;apply wt;exact cAo)|(apply qi;exact rfl;apply wj;exact cAo)|(apply qc;exact rfl;apply vf;exact cAo)|(apply qc;exact rfl;apply cd_t;exact cRa)|(apply zo;(iterate 3 exact rfl))|apply qt)
  all_goals first
   |(exfalso;omega)
   |exact qm rfl (ki rfl) ⟨(qc0 hz).symm,_,rfl⟩
 have i5:1≤l.length:=by omega
 have i6:l.length≤20:=by omega
 repeat' (first|apply qn|apply qy|apply qf|apply qh|apply qj|apply qg|(apply qs;(iterate 3 exact rfl))|(apply qu;(iterate 4 exact rfl))|(apply vt;exact cAo)|(apply qi;exact rfl;apply wj;exact cAo)|(apply qc;exact rfl;apply vr;exact cAo)|(apply qc;exact rfl;apply cd_d <;> intro h)|(apply zo;(iterate 3 exact rfl))|(apply wa;(iterate 3 exact rfl);exact cAs)|apply qw)
 ·have h45:((l.getD 0 0).toNat:Int)=45:=by assumption
  have hs:sgn l=1:=if_pos (by omega);refine jv (fun (k:Nat) s=>1≤k∧k≤l.length∧StA [(0,Sv l),(4,Iv 1),(5,Iv (IntKind.i64.wrap (-(decV ((l.take k).drop 1):Int)))),(6,Iv k)] (st++[]) [] s) (fun k=>l.length - k) 1 ⟨by omega,by omega,zz ⟨rfl,rfl,by simp [List.drop_eq_nil_of_le,decV,IntKind.wrap];rfl,rfl,trivial⟩⟩ ?_;rintro k _ ⟨p1,hk,t,rfl⟩;generalize hn:IntKind.i64.wrap (-(decV ((l.take k).drop 1):Int))=n;have hc:=UInt8.toNat_lt (l.getD k 0);have hr : -9223372036854775808≤n∧n≤9223372036854775807:=hn▸qec _;have sd:=qec (0 - n);repeat' (first|apply qn|apply qy|apply qf|apply qh|apply qj|apply qg|(apply qs;(iterate 3 exact rfl))|(apply jk;(iterate 3 exact rfl))|(apply qu;(iterate 4 exact rfl))|(apply vt;exact cAo)|(apply v7;exact cAo)|(apply jj <;> intro h)|(apply qi;exact rfl;apply wt;exact cAo)|(apply qi;exact rfl;apply wj;exact cAo)|(apply qc;exact rfl;apply vr;exact cAo)|(apply qc;exact rfl;apply cd_t;exact cRa)|(apply qc;exact rfl;apply cd_d <;> intro h)|(apply zo;(iterate 3 exact rfl))|(apply zl;exact rfl;exact rfl;exact q6 (by omega) (by omega))|(apply wa;(iterate 3 exact rfl);exact cAs)|apply qw|apply jd|apply qt|(apply qg1;(iterate 3 exact rfl))|(apply xc;exact rfl;exact rfl;exact sub8 (by omega) (by omega))|(apply xc;exact rfl;exact rfl;exact q2k _ _ _ hn.symm)|(apply qef;(iterate 3 exact rfl);exact q6 (by omega) (by omega))|(apply qk;exact Tryz.call114;exact qfh _ _ (by omega) (by omega)))
  ·exact qm rfl (ki rfl) ⟨(qc0 (qql (k:=k) (by omega) (by omega) (by omega))).symm,_,rfl⟩
  ·exact qm rfl (ki rfl) ⟨(qc0 (qql (k:=k) (by omega) (by omega) (by omega))).symm,_,rfl⟩
  ·refine⟨k+1,⟨by omega,by omega,zz ⟨rfl,rfl,congrArg Iv ?_,rfl,trivial⟩⟩,by omega⟩
   rw [qmf (by omega) p1,qox]
  ·have e:k=l.length:=by omega
   subst e;rw [List.take_length] at hn;have hw:n=numW l:=by unfold numW;rw [if_pos (by omega)];rw [← hn]
   exact qm rfl (ki rfl) ⟨(qc0 (q6l hw (by assumption))).symm,_,rfl⟩
  ·have e:k=l.length:=by omega
   subst e;rw [List.take_length] at hn;have hw:n=numW l:=by unfold numW;rw [if_pos (by omega)];rw [← hn]
   exact qm rfl (ki rfl) ⟨(qpj (q6m hw (Classical.not_not.1 (by assumption)))).symm,_,rfl⟩
 ·have h45:¬ ((l.getD 0 0).toNat:Int)=45:=by assumption
  have hs:sgn l=0:=if_neg (by omega);refine jv (fun (k:Nat) s=>0≤k∧k≤l.length∧StA [(0,Sv l),(4,Iv 0),(5,Iv (IntKind.i64.wrap (-(decV ((l.take k).drop 0):Int)))),(6,Iv k)] (st++[]) [] s) (fun k=>l.length - k) 0 ⟨by omega,by omega,zz ⟨rfl,rfl,by simp [List.drop_eq_nil_of_le,decV,IntKind.wrap];rfl,rfl,trivial⟩⟩ ?_;rintro k _ ⟨p1,hk,t,rfl⟩;generalize hn:IntKind.i64.wrap (-(decV ((l.take k).drop 0):Int))=n;have hc:=UInt8.toNat_lt (l.getD k 0);have hr : -9223372036854775808≤n∧n≤9223372036854775807:=hn▸qec _;have sd:=qec (0 - n);repeat' (first|apply qn|apply qy|apply qf|apply qh|apply qj|apply qg|(apply qs;(iterate 3 exact rfl))|(apply jk;(iterate 3 exact rfl))|(apply qu;(iterate 4 exact rfl))|(apply vt;exact cAo)|(apply v7;exact cAo)|(apply jj <;> intro h)|(apply qi;exact rfl;apply wt;exact cAo)|(apply qi;exact rfl;apply wj;exact cAo)|(apply qc;exact rfl;apply vf;exact cAo)|(apply qc;exact rfl;apply cd_t;exact cRa)|(apply qc;exact rfl;apply cd_d <;> intro h)|(apply zo;(iterate 3 exact rfl))|(apply zl;exact rfl;exact rfl;exact q6 (by omega) (by omega))|(apply wa;(iterate 3 exact rfl);exact cAs)|apply qw|apply jd|apply qt|(apply qg1;(iterate 3 exact rfl))|(apply xc;exact rfl;exact rfl;exact sub8 (by omega) (by omega))|(apply xc;exact rfl;exact rfl;exact q2k _ _ _ hn.symm)|(apply qef;(iterate 3 exact rfl);exact q6 (by omega) (by omega))|(apply q0o;exact rfl;exact rfl)|(apply qk;exact Tryz.call114;exact qfh _ _ (by omega) (by omega)))
  ·exact qm rfl (ki rfl) ⟨(qc0 (qql (k:=k) (by omega) (by omega) (by omega))).symm,_,rfl⟩
  ·exact qm rfl (ki rfl) ⟨(qc0 (qql (k:=k) (by omega) (by omega) (by omega))).symm,_,rfl⟩
  ·refine⟨k+1,⟨by omega,by omega,zz ⟨rfl,rfl,congrArg Iv ?_,rfl,trivial⟩⟩,by omega⟩
   rw [qmf (by omega) p1,qox]
  ·have e:k=l.length:=by omega
   subst e;rw [List.take_length] at hn;have hw:IntKind.i64.wrap (0 - n)=numW l:=by unfold numW;rw [if_neg (by omega)];rw [← hn,List.drop_zero,q6n]
   exact qm rfl (ki rfl) ⟨(qc0 (q6l hw (by assumption))).symm,_,rfl⟩
  ·have e:k=l.length:=by omega
   subst e;rw [List.take_length] at hn;have hw:IntKind.i64.wrap (0 - n)=numW l:=by unfold numW;rw [if_neg (by omega)];rw [← hn,List.drop_zero,q6n]
   exact qm rfl (ki rfl) ⟨(qpj (q6m hw (Classical.not_not.1 (by assumption)))).symm,_,rfl⟩
theorem qea (l:List UInt8) (v:Int) (st:List AObj) (hl:l.length<4294967281) (h:numZ l=some v):qo E 145 [Sv l] st fun r st'=>r = .tu [Iv v,Bv true]∧st'=st:=by
 have:=qru l st hl;rw [qpj h] at this;exact this
theorem qgv (l:List UInt8) (st:List AObj) (hl:l.length<4294967281) (h:numZ l=none):qo E 145 [Sv l] st fun r st'=>r = .tu [Iv 0,Bv false]∧st'=st:=by
 have:=qru l st hl;rw [qc0 h] at this;exact this
theorem qz1 (x:BitVec 32):x &&& 2147483648#32≠0#32↔x.toNat / 2147483648=1:=by
 have e:2147483648#32=BitVec.twoPow 32 31:=by decide
 have h:=x.isLt;rw [e,BitVec.and_twoPow,BitVec.getLsbD,Nat.testBit_eq_decide_div_mod_eq];by_cases hb:x.toNat / 2 ^ 31 % 2=1
 ·simp only [hb,decide_true,if_true]
  constructor
  ·intro _;omega
  ·intro _;decide
 ·simp only [hb,decide_false]
  constructor
  ·intro h';exact absurd rfl h'
  ·intro h';omega
theorem q8n (x:BitVec 32):x.msb=true↔x.toNat / 2147483648=1:=by
 rw [BitVec.msb_eq_decide];have h:=x.isLt;simp;omega
theorem qkv (x:BitVec 32):qby x=(x <<< 1) ^^^ (if x.msb then 79764919#32 else 0#32):=by
 unfold qby;by_cases h:x.msb=true
 ·rw [if_pos ((qz1 x).2 ((q8n x).1 h)),if_pos h]
 ·rw [if_neg (fun h'=>h ((q8n x).2 ((qz1 x).1 h'))),if_neg h,BitVec.xor_zero]
theorem q7x (a b:BitVec 32):qby (a ^^^ b)=qby a ^^^ qby b:=by
 rw [qkv,qkv,qkv,BitVec.msb_xor,BitVec.shiftLeft_xor_distrib]
 cases a.msb <;> cases b.msb <;> simp only [Bool.xor_false,Bool.xor_true,Bool.not_true,Bool.not_false,Bool.false_eq_true,if_true,if_false,BitVec.xor_zero]
 ·rw [BitVec.xor_assoc]
 ·rw [BitVec.xor_assoc,BitVec.xor_comm (b <<< 1),BitVec.xor_assoc]
 ·rw [BitVec.xor_assoc (a <<< 1),BitVec.xor_comm 79764919#32,BitVec.xor_assoc (b <<< 1),BitVec.xor_self,BitVec.xor_zero]
theorem qq7 (n:Nat) (a b:BitVec 32):xo n (a ^^^ b)=xo n a ^^^ xo n b:=by
 induction n with
 |zero=>rfl
 |succ n ih=>simp only [xo,ih,q7x]
theorem qlm:∀ (n:Nat) (x:BitVec 32),n≤31→x.toNat<2 ^ (32 - n)→xo n x=x <<< n
 | 0,x,_,_=>by simp [xo]
 |n+1,x,hn,h=>by
  have hp:2 ^ (32 - n)=2 * 2 ^ (32 - (n+1)):=by rw [show 32 - n=(32 - (n+1))+1 by omega,Nat.pow_succ,Nat.mul_comm]
  simp only [xo];rw [qlm n x (by omega) (by omega),qkv]
  have hm:(x <<< n).msb=false:=by
   cases hb:(x <<< n).msb with
   |false=>rfl
   |true=>
    have h1:=(q8n _).1 hb
    have h2:(x <<< n).toNat<2147483648:=by
     rw [BitVec.toNat_shiftLeft,Nat.shiftLeft_eq];refine Nat.lt_of_le_of_lt (Nat.mod_le _ _) ?_;have h3:x.toNat * 2 ^ n<2 ^ (32 - (n+1)) * 2 ^ n:=Nat.mul_lt_mul_of_pos_right h (Nat.two_pow_pos n);rw [← Nat.pow_add,show 32 - (n+1)+n=31 by omega] at h3;exact h3
    omega
  rw [hm];simp only [Bool.false_eq_true,if_false,BitVec.xor_zero];rw [← BitVec.shiftLeft_add]
theorem ziy (x:BitVec 32):x=((x >>> 28) <<< 28) ^^^ ((x.setWidth 28).setWidth 32):=by
 apply BitVec.eq_of_getLsbD_eq;intro i hi;simp only [BitVec.getLsbD_xor,BitVec.getLsbD_shiftLeft,BitVec.getLsbD_ushiftRight,BitVec.getLsbD_setWidth];by_cases h:i<28
 ·simp [h,hi]
 ·simp [h,hi,show 28+(i - 28)=i by omega]
theorem qxt (x:BitVec 32) (n:Nat):crcN x n=xo 4 (x ^^^ (BitVec.ofNat 32 n <<< 28)):=by
 have hl:((x.setWidth 28).setWidth 32).toNat<2 ^ (32 - 4):=by
  simp only [BitVec.toNat_setWidth];exact Nat.lt_of_le_of_lt (Nat.mod_le _ _) (Nat.mod_lt _ (by decide))
 have hs:((x.setWidth 28).setWidth 32) <<< 4=x <<< 4:=by
  apply BitVec.eq_of_getLsbD_eq;intro i hi;simp only [BitVec.getLsbD_shiftLeft,BitVec.getLsbD_setWidth];by_cases h:i<4
  ·simp [h]
  ·simp [h,hi,show i - 4<28 by omega,show i - 4<32 by omega]
 have e:x ^^^ (BitVec.ofNat 32 n <<< 28)=(((x >>> 28) ^^^ BitVec.ofNat 32 n) <<< 28) ^^^ ((x.setWidth 28).setWidth 32):=by
  rw [BitVec.shiftLeft_xor_distrib,BitVec.xor_assoc,BitVec.xor_comm (BitVec.ofNat 32 n <<< 28),← BitVec.xor_assoc,← ziy x]
 rw [e,qq7,qlm 4 _ (by omega) hl,hs,crcN,rowT,BitVec.ofNat_toNat,BitVec.setWidth_eq,BitVec.xor_comm]
theorem q4m (m n:Nat) (x:BitVec 32):xo (m+n) x=xo m (xo n x):=by
 induction m with
 |zero=>simp [xo]
 |succ m ih=>rw [Nat.succ_add];simp only [xo,ih]
theorem q4j (c:UInt8):BitVec.ofNat 32 c.toNat <<< 24=(BitVec.ofNat 32 (c.toNat / 16) <<< 28) ^^^ (BitVec.ofNat 32 (c.toNat % 16) <<< 24):=by
 have key:∀ n:Fin 256,BitVec.ofNat 32 n.val <<< 24=(BitVec.ofNat 32 (n.val / 16) <<< 28) ^^^ (BitVec.ofNat 32 (n.val % 16) <<< 24):=by decide +kernel
 exact key ⟨c.toNat,UInt8.toNat_lt c⟩
theorem zac (x:BitVec 32) (c:UInt8):crcP x c=xo 8 (x ^^^ (BitVec.ofNat 32 c.toNat <<< 24)):=by
 have hl:(BitVec.ofNat 32 (c.toNat % 16) <<< 24).toNat<2 ^ (32 - 4):=by
  have key:∀ n:Fin 16,(BitVec.ofNat 32 n.val <<< 24).toNat<2 ^ (32 - 4):=by decide +kernel
  exact key ⟨c.toNat % 16,Nat.mod_lt _ (by decide)⟩
 rw [show (8:Nat)=4+4 by rfl,q4m,q4j,← BitVec.xor_assoc,qq7 4 (x ^^^ _),qlm 4 _ (by omega) hl,← BitVec.shiftLeft_add,crcP,qxt,qxt]
theorem qy7 (x:BitVec 32):IntKind.u32.wrap (4294967295 - (x.toNat:Int))=((~~~x).toNat:Int):=by
 have h:=x.isLt;have e:(4294967295 - (x.toNat:Int))=(((~~~x).toNat:Nat):Int):=by rw [BitVec.toNat_not];omega
 rw [e];exact qgz _
theorem q6j (x:BitVec 32) (k n:Nat) (m:Int) (hm:m=((2 ^ n:Nat):Int)):IntKind.u32.wrap ((x.toNat:Int) * m)=((x <<< n).toNat:Int):=by
 rw [hm,← Int.natCast_mul,qhh,BitVec.toNat_shiftLeft,Nat.shiftLeft_eq]
theorem zfi (x:BitVec 32) (l:List UInt8) (st:List AObj) (hl:l.length<4294967281):qo E 253 [Wv x,Sv l] st fun r st'=>r=Wv (addP x l)∧st'=st:=by
 refine qx (qq _) (qp Tryz.func253 rfl (Nat.le_of_ble_eq_true rfl) ?_);repeat' (first|apply qn|apply qy|apply qf|apply qh|apply qj|apply qg|(apply xc;exact rfl;exact rfl;exact qy7 _))
 refine jv (fun (k:Nat) s=>k≤l.length∧StA [(1,Sv l),(5,Wv ((l.take k).foldl crcP (~~~ x))),(6,Iv k)] (st++[]) [] s) (fun k=>l.length - k) 0 ⟨by omega,zz ⟨rfl,rfl,rfl,trivial⟩⟩ ?_;rintro k _ ⟨hk,t,rfl⟩;generalize hx:(l.take k).foldl crcP (~~~ x)=y;have hc:=UInt8.toNat_lt (l.getD k 0);repeat' (first|apply qn|apply qy|apply qf|apply qh|apply qj|apply qg|(apply qs;(iterate 3 exact rfl))|(apply qc;exact rfl;apply cd_d <;> intro h)|(apply zo;(iterate 3 exact rfl))|(apply wa;(iterate 3 exact rfl);exact cAs)|(apply qc4;exact rfl;exact rfl;(first|exact jb _|exact rfl);first|exact jb _|exact rfl)|apply qw|apply jd|apply qt|(apply qtf;(iterate 3 exact rfl);omega)|(apply qg1;exact rfl;exact rfl;exact q6j _ 0 24 _ rfl)|(apply xc;exact rfl;exact rfl;exact qy7 _))
 ·generalize mc:l.getD k 0=c at *
  generalize hz:y ^^^ (BitVec.ofNat 32 c.toNat <<< 24)=z;refine jv (fun (j:Nat) s=>j≤8∧StA [(1,Sv l),(5,Wv (xo j z)),(6,Iv k),(7,Iv j)] (st++[]) [] s) (fun j=>8 - j) 0 ⟨by omega,zz ⟨rfl,rfl,rfl,rfl,trivial⟩⟩ ?_;rintro j _ ⟨hj,t2,rfl⟩;generalize hq:xo j z=q;have hql:=q.isLt;repeat' (first|apply qn|apply qy|apply qf|apply qh|apply qj|apply qg|(apply qs;(iterate 3 exact rfl))|(apply qc;exact rfl;apply cd_d <;> intro h)|(apply zl;exact rfl;exact rfl;exact q6 (by omega) (by omega))|(apply qc4;exact rfl;exact rfl;(first|exact jb _|exact rfl);first|exact jb _|exact rfl)|apply qw|apply jd|(apply qoi (n:=2147483648);exact rfl;exact rfl;omega;exact qxf (by omega))|(apply qg1;exact rfl;exact rfl;exact q6j _ 0 1 _ rfl))
  ·refine⟨j+1,⟨by omega,zz ⟨rfl,?_,rfl,rfl,trivial⟩⟩,by omega⟩
   refine congrArg Wv (?_:_=qby _);rw [hq]
   unfold qby;rw [if_pos ((qz1 q).2 (by omega))];rfl
  ·refine⟨j+1,⟨by omega,zz ⟨rfl,?_,rfl,rfl,trivial⟩⟩,by omega⟩
   refine congrArg Wv (?_:_=qby _);rw [hq]
   unfold qby;rw [if_neg (fun h'=>absurd ((qz1 q).1 h') (by omega))]
  ·have e:j=8:=by omega
   subst e;refine⟨k+1,⟨by omega,zz ⟨rfl,?_,rfl,trivial⟩⟩,by omega⟩;refine congrArg Wv (?_:q=_);rw [qa8 (by omega),List.foldl_append,hx,mc]
   show q=crcP y c
   rw [zac,hz,hq]
 ·have e:k=l.length:=by omega
  subst e;refine qm rfl (q5 rfl) ⟨congrArg Wv (?_:_=_),_,rfl⟩;unfold addP;rw [← hx,List.take_length]
theorem zfk (l:List UInt8) (st:List AObj) (hl:l.length<4294967281):qo E 186 [Sv l] st fun r st'=>r=Wv (addP 0 l)∧st'=st:=by
 refine qx (qq _) (qp Tryz.func186 rfl (Nat.le_of_ble_eq_true rfl) ?_);repeat' (first|apply qn|apply qf|apply qh|apply qj|apply qg|apply qt|(apply qk;exact Tryz.call253;exact zfi 0 _ _ hl))
 exact qm rfl (q5 rfl) ⟨rfl,_,rfl⟩
theorem zec (x:BitVec 32) {j:Nat} (hj:j<8):figP x j=hexL.getD ((x >>> (4 * (7 - j))).toNat % 16) 0:=by
 unfold figP
 have e:((x >>> (4 * (7 - j))) &&& BitVec.ofInt 32 15).toNat=(x >>> (4 * (7 - j))).toNat % 16:=by
  rw [BitVec.toNat_and];exact Nat.and_two_pow_sub_one_eq_mod _ 4
 rw [e];rfl
theorem za1 {n:Nat} (h:n<16):(hexL.take (n+1)).drop n=[hexL.getD n 0]:=by
 have key:∀ i:Fin 16,(hexL.take (i.val+1)).drop i.val=[hexL.getD i.val 0]:=by decide +kernel
 exact key ⟨n,h⟩
theorem q77 (x:BitVec 32) {k:Nat} (h:k<8):(yc x 8).drop (8 - (k+1))=figP x (7 - k)::(yc x 8).drop (8 - k):=by
 have a7:(yc x 8).length=8:=by simp [yc]
 rw [List.drop_eq_getElem_cons (by omega),show 8 - (k+1)+1=8 - k by omega];congr 1;simp [yc,show 8 - (k+1)=7 - k by omega]
theorem zb4 (x:BitVec 32) (st:List AObj):qo E 185 [Wv x] st fun r st'=>r=Sv (yc x 8)∧st'=st:=by
 refine qx (qq _) (qp Tryz.func185 rfl (Nat.le_of_ble_eq_true rfl) ?_);have a7:(yc x 8).length=8:=by simp [yc]
 repeat' (first|apply qn|apply qy|apply qf|apply qh|apply qg)
 refine jv (fun (k:Nat) s=>k≤8∧StA [(0,Wv (x >>> (4 * k))),(3,Sv ((yc x 8).drop (8 - k))),(4,Iv k)] (st++[]) [] s) (fun k=>8 - k) 0 ⟨by omega,zz ⟨by simp;rfl,by simp [a7];rfl,rfl,trivial⟩⟩ ?_;rintro k _ ⟨hk,t,rfl⟩;have hn:(x >>> (4 * k)).toNat % 16<16:=Nat.mod_lt _ (by decide);have hd:((yc x 8).drop (8 - k)).length=k:=by simp [a7];omega
 generalize hq:x >>> (4 * k)=q at *;have hql:=q.isLt;repeat' (first|apply qn|apply qy|apply qf|apply qh|apply qj|apply qg|(apply qs;(iterate 3 exact rfl))|(apply qc;exact rfl;apply cd_d <;> intro h)|(apply jp;exact rfl;exact rfl;exact cOs)|(apply zl;exact rfl;exact rfl;exact q6 (by omega) (by omega))|(apply qfv;(iterate 4 exact rfl);exact cAs;exact cAs)|apply qw|apply jd|apply qt|(apply qxj (n:=16);exact rfl;exact rfl;omega)|(apply qoi (n:=16);exact rfl;exact rfl;omega;exact qxf (by omega))|(apply qxh (n:=1);exact rfl;exact rfl;exact qxf (by omega)))
 ·refine⟨k+1,⟨by omega,zz ⟨?_,?_,rfl,trivial⟩⟩,by omega⟩
  ·refine congrArg (fun n:Nat=>AV.v (.int .u32 (n:Int))) (?_:q.toNat / 16=(x >>> (4 * (k+1))).toNat)
   rw [show 4 * (k+1)=4 * k+4 by omega,BitVec.shiftRight_add,hq,BitVec.toNat_ushiftRight,Nat.shiftRight_eq_div_pow]
  ·refine congrArg Sv (?_:(hexL.take (q.toNat % 16+1)).drop (q.toNat % 16)++_=_)
   rw [q77 x (by omega),za1 hn,zec x (by omega),show 4 * (7 - (7 - k))=4 * k by omega,hq];rfl
 ·have e:k=8:=by omega
  subst e;exact qm rfl (q5 rfl) ⟨congrArg Sv (by simp),_,rfl⟩
end Go.Proofs.YtneejjefekdgjaaGreatDoor
namespace Go.Pl
open Go
def sp:Bool→qa→Bool
 | _,[]=>true
 |f,c::l=>(!f ||decide (c=32)) && sp (decide (c=10)) l
theorem qob:∀ l,sp false l=sp true (past 10 l)
 | []=>rfl
 |c::l=>by
  by_cases h:c=10
  ·subst h;simp [sp,past,upto]
  ·have e:past 10 (c::l)=past 10 l:=by simp [past,upto,h]
   rw [e,← qob l];simp [sp,h]
theorem q3q {l:qa} (h:l≠[]):sp true l=(decide ([32] <+: upto 10 l) && sp true (past 10 l)):=by
 cases l with
 |nil=>exact absurd rfl h
 |cons c r=>
  by_cases hc:c=10
  ·subst hc;simp [sp,upto]
  ·have e:past 10 (c::r)=past 10 r:=by simp [past,upto,hc]
   have e2:upto 10 (c::r)=c::upto 10 r:=by simp [upto,hc]
   rw [e,e2,← qob];simp [sp,hc,eq_comm]
theorem qm9:∀ (n:Nat) (l:qa),l.length≤n→((∀ x∈zn l,[32] <+: x.1)↔sp true l=true)
 | 0,l,h=>by
  have:l=[]:=List.length_eq_zero_iff.1 (by omega);subst this
  simp [vi,sp]
 |n+1,l,h=>by
  by_cases hl:l=[]
  ·subst hl;simp [vi,sp]
  ·rw [wq hl,q3q hl,Bool.and_eq_true,← qm9 n (past 10 l) (by have:=xq (c:=10) hl;omega)]
   simp only [List.mem_cons,forall_eq_or_imp,decide_eq_true_eq]
theorem qdy (l:qa):(vp [32] l).2=sp true l:=by
 unfold vp;by_cases h:sp true l=true
 ·rw [if_pos ((qm9 _ l (Nat.le_refl _)).2 h),h]
 ·rw [if_neg (fun h'=>h ((qm9 _ l (Nat.le_refl _)).1 h'))]
  simp only [Bool.not_eq_true] at h;rw [h]
theorem zci:∀ (f:Bool) (l m:qa),sp f (l++m)=true→sp f l=true
 | _,[],_,_=>rfl
 |f,c::l,m,h=>by
  simp only [List.cons_append,sp,Bool.and_eq_true] at h ⊢;exact⟨h.1,zci _ l m h.2⟩
def qej (f:Bool) (l:qa):Bool:=match l.getLast? with|none=>f|some c=>decide (c=10)
theorem q74 (f:Bool) (c:UInt8) (l:qa):qej f (c::l)=qej (decide (c=10)) l:=by
 cases l with
 |nil=>simp [qej]
 |cons b l=>
  unfold qej;rw [List.getLast?_cons_cons]
  cases hb:(b::l).getLast? with
  |none=>simp at hb
  |some x=>rfl
theorem qpz:∀ (f:Bool) (l m:qa),sp f (l++m)=(sp f l && sp (qej f l) m)
 |f,[],m=>by simp [sp,qej]
 |f,c::l,m=>by
  simp only [List.cons_append,sp];rw [qpz _ l m,q74,Bool.and_assoc]
theorem qk1 (l:qa):yv l↔2≤l.length∧l.length≤50000∧l.getLast? = some 10∧sp true l=true:=by
 unfold yv;rw [qdy]
theorem qff:∀ (n u:Nat),u≤n→∀ c∈Lib.decDigits u,48≤c.toNat∧c.toNat≤57
 |n,u,hn,c,hc=>by
  by_cases h:u<10
  ·rw [Lib.decDigits_one h] at hc
   simp only [List.mem_singleton] at hc;subst hc;rw [UInt8.toNat_ofNat'];omega
  ·rw [yb h,List.mem_append] at hc
   cases n with
   |zero=>omega
   |succ n=>
    rcases hc with hc|hc
    ·exact qff n (u / 10) (by omega) c hc
    ·exact qff n (u % 10) (by omega) c hc
theorem qfo (n:Nat):Lib.itoa (n:Int)=Lib.decDigits n:=by
 unfold Lib.itoa;rw [if_neg (by omega)];simp
theorem qsn (n:Nat):∀ c∈Lib.itoa (n:Int),48≤c.toNat∧c.toNat≤57:=by
 rw [qfo];exact qff n n (Nat.le_refl _)
theorem q08 (u:Nat):Lib.decDigits u≠[]:=by
 intro h;have:=congrArg List.length h;rw [Lib.decDigits_length] at this;have:=Lib.nDigits_pos u;simp at *;omega
theorem qyq:∀ (a:Nat) (l m:qa) (b:Nat),Lib.parseUint10 a l = .ok b→Lib.parseUint10 a (l++m)=Lib.parseUint10 b m
 |a,[],m,b,h=>by
  simp only [Lib.parseUint10,Lib.NumEnd.ok.injEq] at h
  subst h;rfl
 |a,c::l,m,b,h=>by
  simp only [List.cons_append,Lib.parseUint10] at h ⊢;split at h
  ·rename_i hd
   rw [if_pos hd];split at h
   ·cases h
   ·rename_i h1
    rw [if_neg h1];split at h
    ·cases h
    ·rename_i h2
     rw [if_neg h2];exact qyq _ l m b h
  ·cases h
theorem qys:∀ (n u:Nat),u≤n→u<1000000000000000000→Lib.parseUint10 0 (Lib.decDigits u) = .ok u
 |n,u,hn,hu=>by
  have key:∀ (a d:Nat),a<100000000000000000→d<10→Lib.parseUint10 a (Lib.decDigits d) = .ok (a * 10+d):=by
   intro a d ha hd;have e:(UInt8.ofNat (48+d)).toNat=48+d:=by rw [UInt8.toNat_ofNat'];omega
   rw [Lib.decDigits_one hd];simp only [Lib.parseUint10,e];rw [if_pos (by omega),if_neg (by omega),if_neg (by omega)];congr 1;omega
  by_cases h:u<10
  ·have:=key 0 u (by omega) h
   simpa using this
  ·cases n with
   |zero=>omega
   |succ n=>
    rw [yb h,qyq 0 _ _ (u / 10) (qys n (u / 10) (by omega) (by omega)),key _ _ (by omega) (by omega)];congr 1;omega
theorem q9v {n:Nat} (h:n<1000000000000000000):Lib.atoiAll (Lib.itoa (n:Int)) = .ok (n:Int):=by
 have hp:=qys n n (Nat.le_refl _) h;have hd:=qff n n (Nat.le_refl _);rw [qfo]
 cases hl:Lib.decDigits n with
 |nil=>exact absurd hl (q08 n)
 |cons c r=>
  rw [hl] at hp hd;have hc:=hd c (by simp);simp only [Lib.atoiAll];have h1:¬ (c.toNat=43∨c.toNat=45):=by omega
  rw [if_neg h1];have hm:Lib.parseMag (c::r) = .ok n:=by unfold Lib.parseMag;rw [if_neg (by simp)];exact hp
  rw [hm];have h2:¬ c.toNat=45:=by omega
  simp only [h2,not_false_iff,true_and,false_and,if_false];rw [if_neg (by omega)]
theorem qcr {n:Nat} (h1:1≤n) (h2:n≤50000):kj (Lib.itoa (n:Int))=n:=by
 have:=qux (q9v (n:=n) (by omega));rw [if_pos ⟨rfl,by omega,by omega⟩] at this;omega
theorem qch {l:qa} {n:Nat} (h:kj l=n) (hn:1≤n):l=Lib.itoa (n:Int):=by
 unfold kj at h;split at h
 ·split at h
  ·rename_i v _ hv
   have:v=(n:Int):=by omega
   rw [← this,hv.1]
  ·omega
 ·omega
theorem ql3:∀ (n u j:Nat),u≤n→1≤u→1≤j→j≤(Lib.decDigits u).length→∃ m,1≤m∧m≤u∧(Lib.decDigits u).take j=Lib.decDigits m
 |n,u,j,hn,hu,hj,hl=>by
  by_cases h:u<10
  ·refine⟨u,hu,Nat.le_refl _,?_⟩
   rw [Lib.decDigits_one h] at hl ⊢;simp only [List.length_singleton] at hl;have:j=1:=by omega
   subst this;rfl
  ·cases n with
   |zero=>omega
   |succ n=>
    rw [yb h] at hl ⊢;have h1:(Lib.decDigits (u % 10)).length=1:=by rw [Lib.decDigits_one (by omega)];rfl
    rw [List.length_append,h1] at hl;by_cases hj2:j≤(Lib.decDigits (u / 10)).length
    ·obtain⟨m,m1,m2,m3⟩:=ql3 n (u / 10) j (by omega) (by omega) hj hj2
     exact⟨m,m1,by omega,by rw [List.take_append_of_le_length hj2,m3]⟩
    ·refine⟨u,hu,Nat.le_refl _,?_⟩
     rw [List.take_of_length_le (by rw [List.length_append,h1];omega),← yb h]
end Go.Pl
namespace Go.Proofs.YtneejjefekdgjaaGreatDoor
open Go Go.Pl
def wh (n:Nat) (fig:qa):qa:=zb++(Lib.itoa n++32::fig)
theorem zef (n:Nat) (fig:qa):qhr n fig=wh n fig++[10]:=by simp [qhr,wh,zb]
theorem qeo (n:Nat) {c:UInt8} (h:¬ (48≤c.toNat∧c.toNat≤57)):c∉Lib.itoa (n:Int):=fun hc=>h (qsn n c hc)
theorem qo8 {f:qa} (h:w7 f) {c:UInt8} (hc:c∉hexL):c∉f:=fun h'=>hc (h c h')
theorem qb3 (n:Nat) {fig:qa} (h:w7 fig):10∉wh n fig:=by
 unfold wh;simp only [List.mem_append,List.mem_cons,not_or];exact⟨by decide,qeo n (by decide),by decide,qo8 h (by decide)⟩
theorem qjf (l:qa):Lib.trimPrefix (zb++l) zb=l:=by
 rw [qdg (List.prefix_append _ _),List.drop_left]
theorem q2q {n:Nat} {fig:qa} (h2:2≤n) (hn:n≤50000) (hf:fig.length=8) (hx:w7 fig):jc (wh n fig)=(n,fig,true):=by
 unfold jc wh;have dk:32∉Lib.itoa (n:Int):=qeo n (by decide);rw [qjf,vv fig dk,xv fig dk,qcr (by omega) hn];rw [decide_eq_true ⟨List.prefix_append _ _,by simp,h2,hf,hx⟩]
theorem qu8 {n:Nat} {fig:qa} (r:qa) (h2:2≤n) (hn:n≤50000) (hf:fig.length=8) (hx:w7 fig) :
  zh (wh n fig++10::r)=if r.length<n then (x8 r ((n:Int) - r.length),[],0)
   else if yv (r.take n) then xm (r.drop n) (r.take n) fig (qdn n) else (3,[],0):=by
 have hm:10∈wh n fig++10::r:=by simp
 have b9:=qb3 n hx;unfold zh;rw [if_pos hm,vv r b9,xv r b9,q2q h2 hn hf hx];simp only [if_true]
structure qv2 (n:Nat) (fig body:qa):Prop where
 two:2≤n
 most:n≤50000
 len:body.length=n
 good:yv body
 figs:fig.length=8
 hex:w7 fig
def recL (n:Nat) (fig body:qa):qa:=wh n fig++10::(body++yz n)
theorem qqp (l:qa):recF l=recL l.length (sumF l) l:=by
 unfold recF recL;rw [zef];simp
theorem qf6 {l a b:qa} (h:l <+: a++b):l <+: a∨∃ r,l=a++r∧r <+: b:=by
 rcases Nat.le_total l.length a.length with hl|hl
 ·exact .inl (List.prefix_of_prefix_length_le h (List.prefix_append _ _) hl)
 ·obtain⟨r,hr⟩:=List.prefix_of_prefix_length_le (List.prefix_append a b) h hl
  exact .inr ⟨r,hr.symm,by rw [← hr] at h;exact (List.prefix_append_right_inj a).1 h⟩
theorem qjm {a b:qa} {c:UInt8} (h:a <+: b) (hc:c∉b):c∉a:=fun h'=>hc (h.subset h')
theorem q8f {a b:qa} (h:a <+: b) (hb:w7 b):w7 a:=fun c hc=>hb c (h.subset hc)
theorem qpp {n:Nat} {fig l:qa} (h2:2≤n) (hn:n≤50000) (hf:fig.length=8) (hx:w7 fig) (h:l <+: wh n fig):x2 l=true:=by
 unfold wh at h;rcases qf6 h with h | ⟨t,rfl,ht⟩
 ·unfold x2
  by_cases hb:zb <+: l
  ·have e:l=zb:=(h.eq_of_length_le hb.length_le)
   rw [if_pos hb,e];decide
  ·rw [if_neg hb]
   exact decide_eq_true h
 ·unfold x2
  rw [if_pos (List.prefix_append _ _)];have ed:(zb++t).drop 7=t:=by rw [show (7:Nat)=zb.length by rfl,List.drop_left]
  rw [ed];have dk:32∉Lib.itoa (n:Int):=qeo n (by decide);rcases qf6 ht with ht | ⟨r,rfl,hr⟩
  ·have h3:32∉t:=qjm ht dk
   rw [xg h3];have hp:past 32 t=[]:=by unfold past;rw [xg h3];simp
   rw [hp];refine decide_eq_true ⟨fun h'=>h3 h'.1,fun h'=>?_,by simp,by intro c hc;simp at hc⟩;obtain⟨a6,h0⟩:=h';rw [qfo] at ht;have p7:1≤t.length:=List.length_pos_iff.2 a6;obtain⟨m,m1,m2,m3⟩:=ql3 n n t.length (Nat.le_refl _) (by omega) p7 ht.length_le;rw [← List.prefix_iff_eq_take.1 ht,← qfo] at m3;rw [m3,qcr m1 (by omega)] at h0;omega
  ·cases r with
   |nil=>
    rw [List.append_nil,xg dk];have hp:past 32 (Lib.itoa (n:Int))=[]:=by unfold past;rw [xg dk];simp
    rw [hp,qcr (by omega) hn]
    exact decide_eq_true ⟨fun h'=>dk h'.1,fun h'=>by omega,by simp,by intro c hc;simp at hc⟩
   |cons c r=>
    obtain⟨rfl,sd⟩:=List.cons_prefix_cons.1 hr;rw [vv r dk,xv r dk,qcr (by omega) hn];exact decide_eq_true ⟨fun h'=>by omega,fun h'=>by omega,by have:=sd.length_le;omega,q8f sd hx⟩
theorem q43 {n:Nat} {r body:qa} (hg:yv body) (hl:body.length=n) (hr:r <+: body) (b4:r.length<n):x8 r ((n:Int) - r.length)=2:=by
 obtain⟨g1,g2,g3,g4⟩:=(qk1 body).1 hg;obtain⟨m,rfl⟩:=hr;unfold x8;rw [qdy];rw [qpz,Bool.and_eq_true] at g4;refine if_pos ⟨g4.1,?_⟩;rintro⟨h1,h2⟩;have hm:m.length=1:=by simp at hl;omega
 obtain⟨c,rfl⟩:=List.length_eq_one_iff.1 hm;rw [List.getLast?_append] at g3;simp at g3;subst g3
 have hf:qej true r=true:=by
  unfold qej;rcases h1 with rfl|h1
  ·rfl
  ·rw [h1];rfl
 rw [hf] at g4;simp [sp] at g4
theorem zic {n:Nat} {fig body l:qa} (R:qv2 n fig body) (h:l <+: recL n fig body) (hl:l.length<(recL n fig body).length):zh l=(2,[],0):=by
 obtain⟨h2,hn,a7,hg,hf,hx⟩:=R;unfold recL at h hl;rcases qf6 h with h | ⟨r,rfl,hr⟩
 ·have b9:10∉l:=qjm h (qb3 n hx)
  unfold zh;rw [if_neg b9,if_pos (qpp h2 hn hf hx h)]
 ·cases r with
  |nil=>
   rw [List.append_nil];unfold zh
   rw [if_neg (qb3 n hx),if_pos (qpp h2 hn hf hx (List.prefix_refl _))]
  |cons c r=>
   obtain⟨rfl,sd⟩:=List.cons_prefix_cons.1 hr;rw [qu8 r h2 hn hf hx];rcases qf6 sd with hr | ⟨q,rfl,hq⟩
   ·by_cases b4:r.length<n
    ·rw [if_pos b4,q43 hg a7 hr b4]
    ·have e:r=body:=hr.eq_of_length_le (by omega)
     subst e;rw [if_neg b4,← a7,List.take_length,if_pos hg,List.drop_length];unfold xm;rw [if_pos ⟨by rw [qbi];simp,by simp⟩]
   ·rw [if_neg (by simp;omega),← a7,List.take_left,List.drop_left,if_pos hg]
    unfold xm;rw [if_pos ⟨by simp at hl;rw [a7];omega,by rw [a7];exact hq⟩]
theorem qu5 (f:qa) (hl:f.length≤8) (hx:w7 f):∃ g:qa,g.length=8∧w7 g∧f <+: g:=
 ⟨f++List.replicate (8 - f.length) 48,by simp;omega,fun c hc=>by
  rw [List.mem_append,List.mem_replicate] at hc;rcases hc with hc | ⟨_,rfl⟩
  ·exact hx c hc
  ·decide,List.prefix_append _ _⟩
theorem qw1:∀ (k:Nat),sp false (List.replicate k 97++[10])=true
 | 0=>by simp [sp]
 |k+1=>by rw [List.replicate_succ,List.cons_append];simp only [sp];exact by simpa using qw1 k
theorem q01 {n:Nat} {r:qa} (hn:n≤50000) (b4:r.length<n) (h2:2≤n) (hp:x8 r ((n:Int) - r.length)=2):∃ body:qa,body.length=n∧yv body∧r <+: body:=by
 unfold x8 at hp;split at hp
 ·rename_i h
  obtain⟨hs,hfr⟩:=h;rw [qdy] at hs;by_cases hf:r=[]∨r.getLast? = some 10
  ·have hk:r.length+2≤n:=by
    rcases Nat.lt_or_ge (r.length+1) n with h|h
    ·omega
    ·exact absurd ⟨hf,by omega⟩ hfr
   refine⟨r++(32::(List.replicate (n - r.length - 2) 97++[10])),by simp;omega,?_,List.prefix_append _ _⟩;rw [qk1];refine⟨by simp;omega,by simp;omega,by simp [List.getLast?_append,List.getLast?_cons],?_⟩;rw [qpz,hs];simp only [sp,Bool.true_and];have:=qw1 (n - r.length - 2)
   simpa using this
  ·refine⟨r++(List.replicate (n - r.length - 1) 97++[10]),by simp;omega,?_,List.prefix_append _ _⟩
   rw [qk1];refine⟨by simp;omega,by simp;omega,by simp [List.getLast?_append],?_⟩;rw [qpz,hs]
   have e:qej true r=false:=by
    unfold qej
    cases hq:r.getLast? with
    |none=>exact absurd (.inl (List.getLast?_eq_none_iff.1 hq)) hf
    |some c=>
     refine decide_eq_false fun h=>hf (.inr ?_);rw [hq,h]
   rw [e,qw1];rfl
 ·simp at hp
theorem qgb {n:Nat} (h2:2≤n) (hn:n≤50000):∃ body:qa,body.length=n∧yv body:=by
 obtain⟨b,h1,h3,_⟩:=q01 (n:=n) (r:=[]) hn (by simp;omega) h2 (by
  unfold x8;rw [qdy]
  rw [if_pos ⟨rfl,by rintro⟨_,h⟩;simp at h;omega⟩])
 exact⟨b,h1,h3⟩
theorem qim {a b c:qa} (h:a <+: b):a <+: b++c:=h.trans (List.prefix_append _ _)
theorem qf3 {n:Nat} {fig body l:qa} (h:l <+: wh n fig):l <+: recL n fig body∧l.length<(recL n fig body).length:=by
 refine⟨qim h,?_⟩;have:=h.length_le;unfold recL;simp;omega
theorem zh8 {l:qa} (h:(zh l).1=2):∃ n fig body,qv2 n fig body∧l <+: recL n fig body∧l.length<(recL n fig body).length:=by
 unfold zh at h;split at h
 ·rename_i b9
  split at h
  ·rename_i ho
   generalize hr:past 10 l=r at *;have hl:=wg b9;rw [hr] at hl;generalize hu:upto 10 l=u at *
   -- the first line
   have rz:u=wh (jc u).1 (jc u).2.1∧2≤(jc u).1∧(jc u).1≤50000∧(jc u).2.1.length=8∧w7 (jc u).2.1:=by
    simp only [jc,decide_eq_true_eq] at ho ⊢;obtain⟨o1,o2,o3,o4,o5⟩:=ho;refine⟨?_,o3,qan _,o4,o5⟩;obtain⟨t,rfl⟩:=o1;rw [qjf] at *;have:=qch rfl (Nat.le_trans (by decide) o3);unfold wh;rw [← this,← wg o2]
   generalize (jc u).1=n at *;generalize (jc u).2.1=fig at *;obtain⟨rfl,h2,hn,hf,hx⟩:=rz;split at h
   ·rename_i b4
    obtain⟨body,b1,b2,b3⟩:=q01 hn b4 h2 h;refine⟨n,fig,body,⟨h2,hn,b1,b2,hf,hx⟩,?_,?_⟩
    ·rw [hl]
     unfold recL;rw [List.prefix_append_right_inj,List.cons_prefix_cons];exact⟨rfl,qim b3⟩
    ·rw [hl]
     unfold recL;have:=b3.length_le;have:=qbi n;simp;omega
   ·rename_i dq
    split at h
    ·rename_i hg
     have a7:(r.take n).length=n:=by simp;omega
     refine⟨n,fig,r.take n,⟨h2,hn,a7,hg,hf,hx⟩,?_⟩;unfold xm at h;rw [a7] at h;split at h
     ·rename_i hc
      rw [hl];unfold recL;constructor
      ·rw [List.prefix_append_right_inj,List.cons_prefix_cons]
       refine⟨rfl,?_⟩
       conv=>lhs;rw [← List.take_append_drop n r]
       rw [List.prefix_append_right_inj];exact hc.2
      ·have:=hc.1
       simp at this ⊢;omega
     ·split at h <;> simp at h
    ·simp at h
  ·simp at h
 ·rename_i b9
  split at h
  ·rename_i ho
   unfold x2 at ho;split at ho
   ·rename_i hb
    obtain⟨t,rfl⟩:=hb;have ed:(zb++t).drop 7=t:=by rw [show (7:Nat)=zb.length by rfl,List.drop_left]
    rw [ed] at ho;obtain⟨o1,o2,o3,o4⟩:=of_decide_eq_true ho;by_cases dk:32∈t
    ·have fj:2≤kj (upto 32 t):=by
      rcases Nat.lt_or_ge (kj (upto 32 t)) 2 with h|h
      ·exact absurd ⟨dk,h⟩ o1
      ·exact h
     obtain⟨fig,f1,f2,f3⟩:=qu5 _ o3 o4;obtain⟨body,b1,b2⟩:=qgb fj (qan _);refine⟨_,fig,body,⟨fj,qan _,b1,b2,f1,f2⟩,qf3 ?_⟩;unfold wh;rw [List.prefix_append_right_inj]
     conv=>lhs;rw [wg dk]
     rw [qch (l:=upto 32 t) rfl (by omega)];rw [qcr (by omega) (qan _),List.prefix_append_right_inj,List.cons_prefix_cons];exact⟨rfl,f3⟩
    ·rw [xg dk] at o2
     by_cases ht:t=[]
     ·subst ht
      obtain⟨body,b1,b2⟩:=qgb (n:=2) (by omega) (by omega);refine⟨2,List.replicate 8 48,body,⟨by omega,by omega,b1,b2,by simp,by decide⟩,qf3 ?_⟩;unfold wh;simp
     ·have p7:1≤kj t:=by
       rcases Nat.eq_zero_or_pos (kj t) with h|h
       ·exact absurd ⟨ht,h⟩ o2
       ·exact h
      have b0:=qan t;have ht2:=qch (l:=t) rfl p7;generalize kj t=m at *;subst ht2;by_cases hm:m=1
      ·subst hm
       obtain⟨body,b1,b2⟩:=qgb (n:=10) (by omega) (by omega);refine⟨10,List.replicate 8 48,body,⟨by omega,by omega,b1,b2,by simp,by decide⟩,qf3 ?_⟩;unfold wh;rw [List.prefix_append_right_inj];have e1:Lib.itoa ((1:Nat):Int)=[49]:=by rw [qfo,Lib.decDigits_one (by decide)];rfl
       have e2:Lib.itoa ((10:Nat):Int)=[49,48]:=by rw [qfo,yb (by decide),Lib.decDigits_one (by decide),Lib.decDigits_one (by decide)];rfl
       rw [e1,e2];exact⟨_,rfl⟩
      ·obtain⟨body,b1,b2⟩:=qgb (n:=m) (by omega) (by omega)
       refine⟨m,List.replicate 8 48,body,⟨by omega,by omega,b1,b2,by simp,by decide⟩,qf3 ?_⟩;unfold wh;rw [List.prefix_append_right_inj];exact List.prefix_append _ _
   ·rename_i hb
    have hp:=of_decide_eq_true ho;obtain⟨body,b1,b2⟩:=qgb (n:=2) (by omega) (by omega);refine⟨2,List.replicate 8 48,body,⟨by omega,by omega,b1,b2,by simp,by decide⟩,qf3 ?_⟩;unfold wh;exact qim hp
  ·simp at h
theorem q4s (s:BitVec 32):w7 (yc s 8):=by
 intro c hc;simp only [yc,List.mem_map] at hc;obtain⟨j,_,rfl⟩:=hc;unfold figP;have h:=Go.Av.and15_lt (s >>> (4 * (7 - j)));generalize ((s >>> (4 * (7 - j))) &&& BitVec.ofInt 32 15).toNat=k at h;have key:∀ i:Fin 16,([48,49,50,51,52,53,54,55,56,57,97,98,99,100,101,102]:qa).getD i.val 0∈hexL:=by decide
 exact key ⟨k,h⟩
theorem q45 (b:qa) (h:yv b):((recF b).length:Int)=qdn b.length:=by
 obtain⟨g1,g2,_⟩:=h;unfold recF qdn;rw [if_neg (by omega)];simp only [List.length_append,qd5,qlu];simp
end Go.Proofs.YtneejjefekdgjaaGreatDoor
namespace Go.Proofs.YtneejjefekdgjaaGreatDoor
open Go Go.Av Go.RowKit Go.Proofs Go.Pl
theorem zap {l:qa} {k:Nat} (hk:k<l.length):qej true (l.take k)=decide (k=0∨l.getD (k - 1) 0=10):=by
 cases k with
 |zero=>simp [qej]
 |succ k=>
  rw [qa8 (by omega)];simp [qej,List.getLast?_append]
theorem q6z {l:qa} {k:Nat} (hk:k<l.length):sp true (l.take (k+1))=(sp true (l.take k) && (!decide (k=0∨l.getD (k - 1) 0=10) ||decide (l.getD k 0=32))):=by
 rw [qa8 hk,qpz,zap hk];simp [sp]
theorem zkg {l:qa} {k:Nat} (hk:k<l.length) (h1:k=0∨l.getD (k - 1) 0=10) (h2:l.getD k 0≠32):sp true l=false:=by
 cases h:sp true l with
 |false=>rfl
 |true=>
  have e:=zci true (l.take (k+1)) (l.drop (k+1)) (by rw [List.take_append_drop];exact h);rw [q6z hk,decide_eq_true h1,decide_eq_false h2] at e;simp at e
theorem zkv {l:qa} {k:Nat} (hk:k<l.length) (h1:sp true (l.take k)=true) (h2:(k=0∨l.getD (k - 1) 0=10)→l.getD k 0=32):sp true (l.take (k+1))=true:=by
 rw [q6z hk,h1];by_cases h:k=0∨l.getD (k - 1) 0=10
 ·rw [decide_eq_true h,decide_eq_true (h2 h)];rfl
 ·rw [decide_eq_false h];rfl
theorem qvg (l:List UInt8) (st:List AObj) (hl:l.length<4294967281):qo E 249 [Sv l] st fun r st'=>r=Bv (sp true l)∧st'=st:=by
 refine qx (qq _) (qp Tryz.func249 rfl (Nat.le_of_ble_eq_true rfl) ?_);repeat' (first|apply qn|apply qy|apply qf|apply qh|apply qg)
 refine jv (fun (k:Nat) s=>k≤l.length∧sp true (l.take k)=true∧StA [(0,Sv l),(3,Iv k)] (st++[]) [] s) (fun k=>l.length - k) 0 ⟨by omega,by simp [sp],zz ⟨rfl,rfl,trivial⟩⟩ ?_;rintro k _ ⟨hk,h1,t,rfl⟩;repeat' (first|apply qn|apply qy|apply qf|apply qh|apply qj|apply qg|(apply qs;(iterate 3 exact rfl))|(apply qu;(iterate 4 exact rfl))|(apply wy;exact cAo)|(apply vt;exact cAo)|(apply v7;exact cAo)|(apply xb;exact cAo)|(apply yu;exact cRa)|(apply jj <;> intro h)|(apply qi;exact rfl;apply wt;exact cAo)|(apply qi;exact rfl;apply wj;exact cAo)|(apply qi;exact rfl;apply pk_t;exact cRa)|(apply qc;exact rfl;apply cd_f;exact cRa)|(apply qc;exact rfl;apply cd_d <;> intro h)|(apply zo;(iterate 3 exact rfl))|(apply zl;exact rfl;exact rfl;exact q6 (by omega) (by omega))|(apply xc;exact rfl;exact rfl;exact q6 (by omega) (by omega))|(apply wa;(iterate 3 exact rfl);exact cAs)|apply qw|apply jd|apply qt|(apply qhm;(iterate 3 exact rfl);omega;omega))
 all_goals
  have e1:((k:Int) - 1).toNat=k - 1:=by omega
  simp only [e1,qvx,qbm,Classical.not_not] at *
 all_goals first
  |exact qm rfl (q5 rfl) ⟨congrArg Bv (zkg (k:=k) (by omega) (by first|(left;omega)|(right;assumption)) (by assumption)).symm,_,rfl⟩
  |exact⟨k+1,⟨by omega,zkv (by omega) h1 (by first|(intro _;assumption)|(rintro (h|h);omega;contradiction)),zz ⟨rfl,rfl,trivial⟩⟩,by omega⟩
  |skip
 have e:k=l.length:=by omega
 subst e;rw [List.take_length] at h1;exact qm rfl (q5 rfl) ⟨congrArg Bv h1.symm,_,rfl⟩
theorem zb5 (l:List UInt8) (st:List AObj) (hl:l.length<4294967281):qo E 250 [Sv l] st fun r st'=>r=Bv (decide (yv l))∧st'=st:=by
 refine qx (qq _) (qp Tryz.func250 rfl (Nat.le_of_ble_eq_true rfl) ?_);repeat' (first|apply qn|apply qf|apply qh|apply qj|apply qg|(apply qs;(iterate 3 exact rfl))|(apply qu;(iterate 4 exact rfl))|(apply wy;exact cAo)|(apply xb;exact cAo)|(apply w9;exact cRa)|(apply jj <;> intro h)|(apply qi;exact rfl;apply wt;exact cAo)|(apply qi;exact rfl;apply wj;exact cAo)|(apply qi;exact rfl;apply pk_f;exact cRa)|(apply zo;(iterate 3 exact rfl))|(apply xc;exact rfl;exact rfl;exact q6 (by omega) (by omega))|apply qt|(apply qhm;(iterate 3 exact rfl);omega;omega)|(apply qk;exact Tryz.call249;exact qvg _ _ hl))
 all_goals
  have g:=qk1 l
  have g2:1≤l.length→(l.getLast? = some 10↔((l.getD ((l.length:Int) - 1).toNat 0).toNat:Int)=10):=fun h=>by
   have e:((l.length:Int) - 1).toNat=l.length - 1:=by omega
   rw [e,qbm,List.getLast?_eq_getElem?];simp [List.getD,show l.length - 1<l.length by omega]
  refine qm rfl (q5 rfl) ⟨congrArg Bv (?_:_=decide (yv l)),_,rfl⟩
 ·have e:yv l↔sp true l=true:=by rw [g];exact⟨fun h=>h.2.2.2,fun h=>⟨by omega,by omega,(g2 (by omega)).2 (by assumption),h⟩⟩
  simp [e]
 ·exact (decide_eq_false fun h=>by rw [g] at h;exact absurd ((g2 (by omega)).1 h.2.2.1) (by assumption)).symm
 ·exact (decide_eq_false fun h=>by rw [g] at h;omega).symm
 ·exact (decide_eq_false fun h=>by rw [g] at h;omega).symm
theorem qrs (n:Nat) (f:List UInt8) (st:List AObj) (hn:n≤9223372036854775807) (hf:f.length<4294967281):qo E 184 [Iv n,Sv f] st fun r st'=>r = .tu [Sv (qhr n f),Sv (yz n)]∧st'=st:=by
 refine qx (qld _ _) (qp Tryz.func184 rfl (Nat.le_of_ble_eq_true rfl) ?_);have h1:=qcg n hn;repeat' (first|apply qn|apply qf|apply qh|apply qj|apply qg|(apply jp;exact rfl;exact rfl;exact cOs)|apply qt|(apply qk;exact Tryz.call114;exact qfh _ _ (by omega) (by omega)))
 exact qm rfl (ki rfl) ⟨zky (by simp [qhr,yz]),_,rfl⟩
theorem q5c (n:Int) (st:List AObj):qo E 108 [Iv n] st fun r st'=>r=Iv (qdn n)∧st'=st:=by
 refine qx (qq _) (qp Tryz.func108 rfl (Nat.le_of_ble_eq_true rfl) ?_);by_cases hr:n<2∨50000<n
 ·skip
  repeat' (first|apply qn|apply qf|apply qh|apply qj|apply qg|(apply qs;(iterate 3 exact rfl))|(apply qu;(iterate 4 exact rfl))|(apply vt;exact cAo)|(apply v7;exact cAo)|(apply jj <;> intro h)|(apply qi;exact rfl;apply wt;exact cAo)|(apply qi;exact rfl;apply wj;exact cAo)|(apply qc;exact rfl;apply vf;exact cAo)|(apply qc;exact rfl;apply cd_t;exact cRa)|apply qt)
  all_goals refine qm rfl (q5 rfl) ⟨congrArg Iv (?_:_=_),_,rfl⟩
  all_goals first|exact (if_pos hr).symm|omega
 ·obtain⟨k,rfl⟩:=Int.eq_ofNat_of_zero_le (by omega:0≤n)
  have h1:=qcg k (by omega);have h2:=qd5 k [48,48,48,48,48,48,48,48];have h3:=qbi k;have h4:([48,48,48,48,48,48,48,48]:List UInt8).length=8:=rfl;repeat' (first|apply qn|apply qf|apply qh|apply qj|apply qg|(apply zf;exact rfl;exact rfl)|(apply qs;(iterate 3 exact rfl))|(apply qu;(iterate 4 exact rfl))|(apply vt;exact cAo)|(apply qi;exact rfl;apply wj;exact cAo)|(apply qc;exact rfl;apply vr;exact cAo)|(apply zo;(iterate 3 exact rfl))|(apply zl;exact rfl;exact rfl;exact q6 (by omega) (by omega))|apply qw|apply qt|(apply qk;exact Tryz.call184;exact qrs k [48,48,48,48,48,48,48,48] _ (by omega) (by decide)))
  refine qm rfl (q5 rfl) ⟨congrArg Iv (?_:_=_),_,rfl⟩;unfold qdn;rw [if_neg hr];rfl
theorem q6a {l:qa} (h:0<l.length):l.head? = some 37↔((l.getD 0 0).toNat:Int)=37:=by
 cases l with
 |nil=>simp at h
 |cons c l=>
  simp only [List.head?_cons,Option.some.injEq,List.getD_cons_zero];exact (zkz _).symm
theorem q28 (l:List UInt8) (st:List AObj) (hl:l.length<4294967281):qo E 178 [Sv l] st fun r st'=>r=Bv (decide (l.head? = some 37∧qv l=5))∧st'=st:=by
 refine qx (qq _) (qp Tryz.func178 rfl (Nat.le_of_ble_eq_true rfl) ?_);repeat' (first|apply qn|apply qf|apply qh|apply qj|apply qg|(apply qs;(iterate 3 exact rfl))|(apply qu;(iterate 4 exact rfl))|(apply wy;exact cAo)|(apply xb;exact cAo)|(apply w9;exact cRa)|(apply jj <;> intro h)|(apply qi;exact rfl;apply wt;exact cAo)|(apply qi;exact rfl;apply wj;exact cAo)|(apply qi;exact rfl;apply pk_f;exact cRa)|(apply zo;(iterate 3 exact rfl))|(apply wa;(iterate 3 exact rfl);exact cAs)|apply qt|(apply qk;exact Tryz.call138;exact qie _ _ hl))
 all_goals refine qm rfl (q5 rfl) ⟨congrArg Bv (?_:_=decide (l.head? = some 37∧qv l=5)),_,rfl⟩
 ·have e:l.head? = some 37:=(q6a (by omega)).2 (by assumption)
  simp [e]
 ·exact (decide_eq_false fun h=>absurd ((q6a (by omega)).1 h.1) (by assumption)).symm
 ·have e:l=[]:=List.length_eq_zero_iff.1 (by omega)
  subst e;rfl
end Go.Proofs.YtneejjefekdgjaaGreatDoor
namespace Go.Proofs.YtneejjefekdgjaaGreatDoor
open Go Go.Pl
theorem qho:(10:UInt8)∉zb:=by decide
theorem quy {l:qa} (h1:10∈l→(jc (upto 10 l)).2.2=false) (h2:10∉l→x2 l=false):zh l=(3,[],0):=by
 unfold zh;by_cases h:10∈l
 ·rw [if_pos h,if_neg (by rw [h1 h];simp)]
 ·rw [if_neg h,if_neg (by rw [h2 h];simp)]
theorem zf8 (c:UInt8) (l:qa):upto c l <+: l:=by
 rw [← qgd c l];exact List.take_prefix _ _
theorem R1 {l:qa} (hl:l.length≤7) (h:l <+: zb):zh l=(2,[],0):=by
 have b9:10∉l:=qjm h qho;unfold zh;rw [if_neg b9,if_pos ?_];unfold x2;by_cases hb:zb <+: l
 ·rw [if_pos hb,h.eq_of_length_le hb.length_le];decide
 ·rw [if_neg hb];exact decide_eq_true h
theorem R2 {l:qa} (hl:l.length≤7) (h:¬ l <+: zb):zh l=(3,[],0):=by
 refine quy (fun b9=>decide_eq_false fun h'=>?_) (fun b9=>?_)
 ·have:=h'.1.length_le
  have:=qe0 b9;have e:zb.length=7:=rfl;omega
 ·unfold x2
  by_cases hb:zb <+: l
  ·have:=hb.eq_of_length_le hl
   exact absurd (this▸List.prefix_refl _) h
  ·rw [if_neg hb];exact decide_eq_false h
theorem R3 {l:qa} (hl:7<l.length) (h:¬ zb <+: l):zh l=(3,[],0):=by
 refine quy (fun b9=>decide_eq_false fun h'=>h (h'.1.trans (zf8 10 l))) (fun b9=>?_);unfold x2;rw [if_neg h];refine decide_eq_false fun h'=>?_;have:=h'.length_le;have e:zb.length=7:=rfl;omega
theorem qkw {n:Nat} {s r:qa} {c:UInt8} (hc:yo c=false) (h:s=Lib.itoa (n:Int)++c::r):s.takeWhile yo=Lib.itoa (n:Int):=by
 subst h;have hd:=qsn n;rw [List.takeWhile_append_of_pos (fun x hx=>by simp only [yo,decide_eq_true_eq];exact hd x hx),List.takeWhile_cons_of_neg (by simp [hc]),List.append_nil]
theorem qxe {p:UInt8→Bool} {l:qa}:l.takeWhile p=l↔∀ c∈l,p c=true:=by
 induction l with
 |nil=>simp
 |cons b l ih=>
  by_cases h:p b=true
  ·rw [List.takeWhile_cons_of_pos h];simp [ih,h]
  ·rw [List.takeWhile_cons_of_neg h];simp [h]
theorem zd2 {n:Nat}:(Lib.itoa (n:Int)).takeWhile yo=Lib.itoa (n:Int):=by
 rw [qxe];intro x hx;simp only [yo,decide_eq_true_eq];exact qsn n x hx
theorem qw8 {p:UInt8→Bool} (s:qa):s.take (s.takeWhile p).length=s.takeWhile p:=by
 induction s with
 |nil=>rfl
 |cons b s ih=>
  by_cases h:p b=true
  ·rw [List.takeWhile_cons_of_pos h];simp [ih]
  ·rw [List.takeWhile_cons_of_neg h];rfl
theorem qo1 {s:qa} (hs:s≠[]) (h:zh (zb++s)≠(3,[],0)):∃ n:Nat,1≤n∧n≤50000∧s.takeWhile yo=Lib.itoa (n:Int)∧(s=Lib.itoa (n:Int)∨2≤n∧∃ r,s=Lib.itoa (n:Int)++32::r∧(10∉r→r.length≤8∧w7 r)∧(10∈r→(upto 10 r).length=8∧w7 (upto 10 r))):=by
 have e10:10∈zb++s↔10∈s:=by simp [qho]
 have ed:(zb++s).drop 7=s:=by rw [show (7:Nat)=zb.length by rfl,List.drop_left]
 by_cases b9:10∈s
 ·have ho:(jc (upto 10 (zb++s))).2.2=true:=by
   cases hq:(jc (upto 10 (zb++s))).2.2 with
   |true=>rfl
   |false=>exact absurd (quy (fun _=>hq) (fun h'=>absurd (e10.2 b9) h')) h
  have eu:upto 10 (zb++s)=zb++upto 10 s:=by
   conv=>lhs;rw [wg b9,← List.append_assoc]
   exact vv _ (by simp [qho,qam])
  rw [eu] at ho;simp only [jc,decide_eq_true_eq,qjf] at ho;obtain⟨_,o2,o3,o4,o5⟩:=ho;have hn:=qch (l:=upto 32 (upto 10 s)) rfl (by omega);have b0:=qan (upto 32 (upto 10 s));generalize kj (upto 32 (upto 10 s))=n at *;have e1:=wg o2;rw [hn] at e1;have e2:=wg b9;generalize hf:past 32 (upto 10 s)=f at *
  have hf10:10∉f:=by
   have:=qam 10 s;rw [e1] at this;simp only [List.mem_append,List.mem_cons,not_or] at this;exact this.2.2
  rw [e1,List.append_assoc,List.cons_append] at e2;refine⟨n,by omega,b0,qkw (by decide) e2,.inr ⟨o3,_,e2,fun h'=>absurd (by simp:(10:UInt8)∈f++10::past 10 s) h',fun _=>?_⟩⟩;rw [vv _ hf10];exact⟨o4,o5⟩
 ·have ho:x2 (zb++s)=true:=by
   cases hq:x2 (zb++s) with
   |true=>rfl
   |false=>exact absurd (quy (fun h'=>absurd (e10.1 h') b9) (fun _=>hq)) h
  unfold x2 at ho;rw [if_pos (List.prefix_append _ _),ed] at ho;obtain⟨o1,o2,o3,o4⟩:=of_decide_eq_true ho;by_cases dk:32∈s
  ·have fj:2≤kj (upto 32 s):=by
    rcases Nat.lt_or_ge (kj (upto 32 s)) 2 with h|h
    ·exact absurd ⟨dk,h⟩ o1
    ·exact h
   have hn:=qch (l:=upto 32 s) rfl (by omega);have b0:=qan (upto 32 s);generalize kj (upto 32 s)=n at *;have e1:=wg dk;rw [hn] at e1;refine⟨n,by omega,b0,qkw (by decide) e1,.inr ⟨fj,_,e1,fun _=>⟨o3,o4⟩,fun h'=>absurd (e1▸by simp [h']:(10:UInt8)∈s) b9⟩⟩
  ·rw [xg dk] at o2
   have p7:1≤kj s:=by
    rcases Nat.eq_zero_or_pos (kj s) with h|h
    ·exact absurd ⟨hs,h⟩ o2
    ·exact h
   have hn:=qch (l:=s) rfl p7;have b0:=qan s;generalize kj s=n at *;subst hn;exact⟨n,p7,b0,zd2,.inl rfl⟩
theorem q16 {m n:Nat} (hm:m≤50000) (hn:n≤50000) (h:Lib.itoa (m:Int)=Lib.itoa (n:Int)):m=n:=by
 have:=congrArg numZ h;rw [qf5 (by omega) (by omega),qf5 (by omega) (by omega)] at this;simp at this;omega
theorem q8g {n:Nat} (h:n≤50000):(Lib.itoa (n:Int)).length≤5:=by
 rw [qfo,Lib.decDigits_length];exact qen 4 n (by omega)
theorem R5 {s:qa} (hs:s≠[]) (h:∀ n:Nat,1≤n→n≤50000→s.takeWhile yo≠Lib.itoa (n:Int)):zh (zb++s)=(3,[],0):=by
 refine Classical.byContradiction fun hc=>?_;obtain⟨n,h1,h2,h3,_⟩:=qo1 hs hc;exact h n h1 h2 h3
theorem R6 {n:Nat} (h1:1≤n) (h2:n≤50000):zh (zb++Lib.itoa (n:Int))=(2,[],0):=by
 have dk:32∉Lib.itoa (n:Int):=qeo n (by decide)
 have b9:10∉zb++Lib.itoa (n:Int):=by
  simp only [List.mem_append,not_or];exact⟨qho,qeo n (by decide)⟩
 have ed:(zb++Lib.itoa (n:Int)).drop 7=Lib.itoa (n:Int):=by rw [show (7:Nat)=zb.length by rfl,List.drop_left]
 unfold zh;rw [if_neg b9,if_pos ?_];unfold x2;rw [if_pos (List.prefix_append _ _),ed,xg dk,qcr h1 h2];have hp:past 32 (Lib.itoa (n:Int))=[]:=by unfold past;rw [xg dk];simp
 rw [hp];exact decide_eq_true ⟨fun h'=>dk h'.1,fun h'=>by omega,by simp,by intro c hc;simp at hc⟩
theorem R7 {n:Nat} {c:UInt8} {r:qa} (h2:n≤50000) (hd:yo c=false) (h:c≠32∨n<2):zh (zb++(Lib.itoa (n:Int)++c::r))=(3,[],0):=by
 refine Classical.byContradiction fun hc=>?_;obtain⟨m,m1,m2,m3,m4⟩:=qo1 (by simp) hc;rw [qkw hd rfl] at m3;have e:=q16 h2 m2 m3;subst e;rcases m4 with m4 | ⟨m4,r2,m5,_⟩
 ·have:=congrArg List.length m4
  simp at this
 ·rw [List.append_cancel_left_eq,List.cons.injEq] at m5
  rcases h with h|h
  ·exact h m5.1
  ·omega
theorem q6p {n:Nat} {r:qa} (h1:2≤n) (h2:n≤50000) (h:¬ ((10∉r→r.length≤8∧w7 r)∧(10∈r→(upto 10 r).length=8∧w7 (upto 10 r)))):zh (zb++(Lib.itoa (n:Int)++32::r))=(3,[],0):=by
 refine Classical.byContradiction fun hc=>?_;obtain⟨m,m1,m2,m3,m4⟩:=qo1 (by simp) hc;rw [qkw (by decide) rfl] at m3;have e:=q16 h2 m2 m3;subst e;rcases m4 with m4 | ⟨m4,r2,m5,m6,m7⟩
 ·have:=congrArg List.length m4
  simp at this
 ·rw [List.append_cancel_left_eq,List.cons.injEq] at m5
  obtain⟨_,rfl⟩:=m5;exact h ⟨m6,m7⟩
theorem qqe (c:UInt8):qa3 c=true↔c∈hexL:=by
 have key:∀ i:Fin 256,qa3 (UInt8.ofNat i.val)=true↔UInt8.ofNat i.val∈hexL:=by decide +kernel
 have:=key ⟨c.toNat,UInt8.toNat_lt c⟩
 simpa using this
theorem zc2 {p:UInt8→Bool} {l:qa} (h:(l.takeWhile p).length=l.length):∀ c∈l,p c=true:=by
 have e:l.takeWhile p=l:=(List.takeWhile_prefix p).eq_of_length h
 rwa [qxe] at e
theorem R8 {n:Nat} {r:qa} (h1:2≤n) (h2:n≤50000) (h:((r.take 8).takeWhile qa3).length=r.length):zh (zb++(Lib.itoa (n:Int)++32::r))=(2,[],0):=by
 have b0:((r.take 8).takeWhile qa3).length≤(r.take 8).length:=(List.takeWhile_prefix qa3).length_le;have hl:r.length≤8:=by simp at b0;omega
 rw [List.take_of_length_le hl] at h;have hx:w7 r:=fun c hc=>(qqe c).1 (zc2 h c hc);obtain⟨fig,f1,f2,f3⟩:=qu5 r hl hx;obtain⟨body,b1,b2⟩:=qgb h1 h2;have R:qv2 n fig body:=⟨h1,h2,b1,b2,f1,f2⟩
 have hp:=qf3 (n:=n) (fig:=fig) (body:=body) (l:=zb++(Lib.itoa (n:Int)++32::r)) (by
  unfold wh;rw [List.prefix_append_right_inj,List.prefix_append_right_inj,List.cons_prefix_cons]
  exact⟨rfl,f3⟩)
 exact zic R hp.1 hp.2
theorem zc3 {p:UInt8→Bool} {l m:qa} (hm:m <+: l) (h:∀ c∈m,p c=true):m.length≤(l.takeWhile p).length:=by
 obtain⟨r,rfl⟩:=hm;rw [List.takeWhile_append_of_pos h];simp
theorem R9 {n:Nat} {r:qa} (h1:2≤n) (h2:n≤50000) (a6:((r.take 8).takeWhile qa3).length≠r.length) (h:((r.take 8).takeWhile qa3).length<8):zh (zb++(Lib.itoa (n:Int)++32::r))=(3,[],0):=by
 refine q6p h1 h2 fun ⟨g1,g2⟩=>?_;by_cases b9:10∈r
 ·obtain⟨a,b⟩:=g2 b9
  have hp:upto 10 r <+: r.take 8:=by
   have e:r.take 8=upto 10 r:=by rw [← a,qgd]
   rw [e];exact List.prefix_refl _
  have:=zc3 (p:=qa3) hp (fun c hc=>(qqe c).2 (b c hc));omega
 ·obtain⟨a,b⟩:=g1 b9
  rw [List.take_of_length_le a] at a6;have e:r.takeWhile qa3=r:=by rw [qxe];exact fun c hc=>(qqe c).2 (b c hc)
  exact a6 (by rw [e])
theorem R10 {n:Nat} {r:qa} (h1:2≤n) (h2:n≤50000) (hl:8<r.length) (h:r.getD 8 0≠10):zh (zb++(Lib.itoa (n:Int)++32::r))=(3,[],0):=by
 refine q6p h1 h2 fun ⟨g1,g2⟩=>?_;by_cases b9:10∈r
 ·obtain⟨a,b⟩:=g2 b9
  have e:=wg b9;apply h;rw [e,List.getD,List.getElem?_append_right (by omega),a];rfl
 ·have:=(g1 b9).1
  omega
theorem R11 {n:Nat} {r:qa} (hl:8<r.length) (h:r.getD 8 0=10) (hx:((r.take 8).takeWhile qa3).length=8) :
  zb++(Lib.itoa (n:Int)++32::r)=wh n (r.take 8)++10::r.drop 9∧(r.take 8).length=8∧w7 (r.take 8):=by
 have h8:(r.take 8).length=8:=by simp;omega
 refine⟨?_,h8,fun c hc=>(qqe c).1 (zc2 (by rw [hx,h8]) c hc)⟩
 have e:r=r.take 8++10::r.drop 9:=by
  conv=>lhs;rw [← List.take_append_drop 8 r]
  rw [List.drop_eq_getElem_cons hl];congr 2
  simpa [List.getD,hl] using h
 unfold wh
 conv=>lhs;rw [e]
 simp
end Go.Proofs.YtneejjefekdgjaaGreatDoor
namespace Go.Proofs.YtneejjefekdgjaaGreatDoor
open Go Go.Av Go.RowKit Go.Proofs Go.Pl
structure qge (l S:qa) (K n:Nat):Prop where
 hl:l=zb++S
 hK:(S.takeWhile yo).length=K
 hD:S.take K=Lib.itoa (n:Int)
 h1:1≤n
 h2:n≤50000
theorem qge.split {l S:qa} {K n:Nat} (A:qge l S K n) (h:K<S.length):S=Lib.itoa (n:Int)++S.getD K 0::S.drop (K+1)∧yo (S.getD K 0)=false:=by
 have e:S=S.take K++S.getD K 0::S.drop (K+1):=by
  conv=>lhs;rw [← List.take_append_drop K S]
  rw [List.drop_eq_getElem_cons h];congr 2;simp [List.getD,h]
 refine⟨by rw [← A.hD];exact e,?_⟩
 cases hc:yo (S.getD K 0) with
 |false=>rfl
 |true=>
  have hp:S.take (K+1) <+: S:=List.take_prefix _ _
  have:=zc3 (p:=yo) hp (fun c mb=>by
   rw [qa8 h,List.mem_append,List.mem_singleton] at mb;rcases mb with mb|rfl
   ·rw [← A.hK,qw8] at mb
    have ha:=List.all_takeWhile (p:=yo) (l:=S);rw [List.all_eq_true] at ha;exact ha c mb
   ·exact hc)
  rw [A.hK] at this;simp at this;omega
theorem qge.l6 {l S:qa} {K n:Nat} (A:qge l S K n) (h:K=S.length):zh l=(2,[],0):=by
 have e:S=Lib.itoa (n:Int):=by rw [← A.hD,h,List.take_length]
 rw [A.hl,e];exact R6 A.h1 A.h2
theorem qge.l7 {l S:qa} {K n:Nat} (A:qge l S K n) (h:K<S.length) (hc:S.getD K 0≠32∨n<2):zh l=(3,[],0):=by
 obtain⟨e,hd⟩:=A.split h;rw [A.hl,e];exact R7 A.h2 hd hc
theorem qge.at32 {l S R:qa} {K n:Nat} (A:qge l S K n) (h:K<S.length) (hc:S.getD K 0=32) (hR:S.drop (K+1)=R):l=zb++(Lib.itoa (n:Int)++32::R):=by
 obtain⟨e,hd⟩:=A.split h;rw [hc,hR] at e;rw [A.hl,← e]
theorem qge.l11 {l S R T:qa} {K n:Nat} (A:qge l S K n) (h:K<S.length) (hc:S.getD K 0=32) (hR:S.drop (K+1)=R) (h2:2≤n) (hl:8<R.length) (h8:R.getD 8 0=10) (hx:((R.take 8).takeWhile qa3).length=8) (hT:R.drop 9=T) :
  zh l=if T.length<n then (x8 T ((n:Int) - T.length),[],0) else if yv (T.take n) then xm (T.drop n) (T.take n) (R.take 8) (qdn n) else (3,[],0):=by
 rw [A.at32 h hc hR];obtain⟨e,g1,g2⟩:=R11 (n:=n) hl h8 hx;rw [e,hT];exact qu8 _ h2 A.h2 g1 g2
theorem qka {l m:List UInt8} (st:List AObj) (hl:l.length<4294967281) (h:m <+: l):qo E 246 [Sv l,Sv m] st fun r st'=>r=Bv true∧st'=st:=by
 have:=qgu l m st hl;rw [decide_eq_true h] at this;exact this
theorem q27 {l m:List UInt8} (st:List AObj) (hl:l.length<4294967281) (h:¬ m <+: l):qo E 246 [Sv l,Sv m] st fun r st'=>r=Bv false∧st'=st:=by
 have:=qgu l m st hl;rw [decide_eq_false h] at this;exact this
set_option maxHeartbeats 4000000 in
theorem q85 (l:List UInt8) (st:List AObj) (hl:l.length<4294967281) (hb:l.length≤7∨¬ zb <+: l):qo E 179 [Sv l] st fun r st'=>r = .tu [Iv (zh l).1,Sv (zh l).2.1,Iv (zh l).2.2]∧st'=st:=by
 refine qx (qb5 _ _ _) (qp Tryz.func179 rfl (Nat.le_of_ble_eq_true rfl) ?_);by_cases h7:l.length≤7
 ·skip
  repeat' (first|apply qn|apply qf|apply qh|apply qj|apply qg|(apply qs;(iterate 3 exact rfl))|(apply qc;exact rfl;apply vf;exact cAo)|(apply qc;exact rfl;apply cd_d <;> intro h)|(apply zo;(iterate 3 exact rfl))|apply qw|apply qt|(apply qk;exact Tryz.call245;exact qmc l zb _ (by decide)))
  all_goals refine qm rfl (ya rfl) ⟨qvw (?_:_=zh l),_,rfl⟩
  ·exact (R1 h7 (by assumption)).symm
  ·exact (R2 h7 (by assumption)).symm
 ·have i6:¬ zb <+: l:=hb.resolve_left h7
  repeat' (first|apply qn|apply qf|apply qh|apply qj|apply qg|(apply qs;(iterate 3 exact rfl))|(apply z7;exact rfl)|(apply qc;exact rfl;apply vr;exact cAo)|(apply qc;exact rfl;apply qi0;exact cRa)|(apply zo;(iterate 3 exact rfl))|apply qw|apply qt|(apply qk;exact Tryz.call246;exact q27 (m:=zb) _ hl i6))
  all_goals refine qm rfl (ya rfl) ⟨qvw (?_:_=zh l),_,rfl⟩
  all_goals exact (R3 (by omega) i6).symm
theorem qin {l:List UInt8} {k:Nat} (st:List AObj) (hl:l.length<4294967281) (h:(l.takeWhile yo).length=k):qo E 247 [Sv l] st fun r st'=>r=Iv k∧st'=st:=by
 subst h;exact q3d l st hl
theorem zb6 {l:List UInt8} {k:Nat} (st:List AObj) (hl:l.length<4294967281) (h:((l.take 8).takeWhile qa3).length=k):qo E 248 [Sv l] st fun r st'=>r=Iv k∧st'=st:=by
 subst h;exact zfj l st hl
theorem qxd {l b:List UInt8} {k n:Int} (h:zh l=(k,b,n)):AV.tu [Iv k,Sv b,Iv n] = .tu [Iv (zh l).1,Sv (zh l).2.1,Iv (zh l).2.2]:=by rw [h]
set_option maxHeartbeats 8000000 in
theorem q86 (l S:List UInt8) (K:Nat) (st:List AObj) (hl:l.length<4294967281) (h7:7<l.length) (hb:l=zb++S) (hK:(S.takeWhile yo).length=K) (hn:∀ n:Nat,1≤n→n≤50000→S.takeWhile yo≠Lib.itoa (n:Int)):qo E 179 [Sv l] st fun r st'=>r = .tu [Iv (zh l).1,Sv (zh l).2.1,Iv (zh l).2.2]∧st'=st:=by
 have hS:l.drop 7=S:=by rw [hb,show (7:Nat)=zb.length by rfl,List.drop_left]
 have hSl:S.length=l.length - 7:=by rw [← hS];simp
 have hbp:zb <+: l:=⟨S,hb.symm⟩;have a6:S≠[]:=fun e=>by rw [e] at hSl;simp at hSl;omega
 have hKle:K≤S.length:=hK▸(List.takeWhile_prefix yo).length_le;have hD:S.take K=S.takeWhile yo:=by rw [← hK,qw8]
 have hr:zh l=(3,[],0):=hb▸R5 a6 hn;refine qx (qb5 _ _ _) (qp Tryz.func179 rfl (Nat.le_of_ble_eq_true rfl) ?_)
 cases hz:numZ (S.take K) with
 |none=>
  repeat' (first|(apply qgh (n:=7) hS;(iterate 3 exact rfl);omega)|apply qn|apply qf|apply qh|apply qj|apply qg|(apply zf;exact rfl;exact rfl)|(apply qs;(iterate 3 exact rfl))|(apply z7;exact rfl)|(apply qu;(iterate 4 exact rfl))|(apply qa1;exact cRa)|(apply qaq;exact cRa)|(apply qi;exact rfl;apply qhu;exact cRa)|(apply qi;exact rfl;apply pk_t;exact cRa)|(apply qc;exact rfl;apply vr;exact cAo)|(apply qc;exact rfl;apply qiz;exact cRa)|(apply qc;exact rfl;apply cd_t;exact cRa)|(apply qc;exact rfl;apply cd_d <;> intro h)|(apply zo;(iterate 3 exact rfl))|(apply qa5;(iterate 3 exact rfl);exact cAs)|apply qw|apply qt|(apply qk;exact Tryz.call246;exact qka (m:=zb) _ hl hbp)|(apply qk;exact Tryz.call247;exact qin _ (by omega) hK)|(apply qk;exact Tryz.call145;exact qgv _ _ (by simp;omega) hz))
  all_goals first
   |(exfalso;omega)
   |contradiction
   |exact qm rfl (ya rfl) ⟨qxd hr,_,rfl⟩
 |some v=>
  have hv:=qla hz;have hv2:¬ (1≤v∧v≤50000):=fun h=>hn v.toNat (by omega) (by omega) (by rw [← hD,hv.1,Int.toNat_of_nonneg (by omega)]);repeat' (first|(apply qgh (n:=7) hS;(iterate 3 exact rfl);omega)|apply qn|apply qf|apply qh|apply qj|apply qg|(apply zf;exact rfl;exact rfl)|(apply qs;(iterate 3 exact rfl))|(apply z7;exact rfl)|(apply qu;(iterate 4 exact rfl))|(apply vt;exact cAo)|(apply v7;exact cAo)|(apply y5;exact cRa)|(apply jj <;> intro h)|(apply qi;exact rfl;apply wt;exact cAo)|(apply qi;exact rfl;apply wj;exact cAo)|(apply qi;exact rfl;apply qer;exact cRa)|(apply qc;exact rfl;apply vf;exact cAo)|(apply qc;exact rfl;apply vr;exact cAo)|(apply qc;exact rfl;apply qiz;exact cRa)|(apply qc;exact rfl;apply cd_t;exact cRa)|(apply qc;exact rfl;apply cd_d <;> intro h)|(apply zo;(iterate 3 exact rfl))|(apply qa5;(iterate 3 exact rfl);exact cAs)|apply qw|apply qt|(apply qk;exact Tryz.call246;exact qka (m:=zb) _ hl hbp)|(apply qk;exact Tryz.call247;exact qin _ (by omega) hK)|(apply qk;exact Tryz.call145;exact qea _ v _ (by simp;omega) hz))
  all_goals first
   |(exfalso;omega)
   |contradiction
   |exact qm rfl (ya rfl) ⟨qxd hr,_,rfl⟩
theorem qws {T:qa} {lack:Int} (h1:sp true T=true) (h2:T.length=0→2≤lack) (h3:T.getLast? = some 10→2≤lack):x8 T lack=2:=by
 unfold x8;rw [qdy];refine if_pos ⟨h1,?_⟩;rintro⟨h|h,h'⟩
 ·have:=h2 (by rw [h];rfl)
  omega
 ·have:=h3 h
  omega
theorem q2x {T:qa} {lack:Int} (h:sp true T=false):x8 T lack=3:=by
 unfold x8;rw [qdy];exact if_neg fun h'=>by rw [h] at h';simp at h'
theorem ze3 {T:qa} {lack:Int} (h1:T.getLast? = some 10) (h2:lack<2):x8 T lack=3:=by
 unfold x8;exact if_neg fun h'=>h'.2 ⟨.inr h1,h2⟩
theorem q6f {T:qa} (h:T.length≠0):T.getLast? = some 10↔T.getD ((T.length:Int) - 1).toNat 0=10:=by
 have e:((T.length:Int) - 1).toNat=T.length - 1:=by omega
 rw [e,List.getLast?_eq_getElem?];simp [List.getD,show T.length - 1<T.length by omega]
theorem zg2 {U B f:qa} {z:Int} (h1:¬ U.length<(yz B.length).length) (h2:yz B.length <+: U) (h3:f=sumF B):xm U B f z=(1,B,z):=by
 unfold xm;rw [if_neg (fun h=>h1 h.1),if_pos ⟨h2,h3⟩]
theorem zg3 {U B f:qa} {z:Int} (h1:U.length<(yz B.length).length) (h2:U <+: yz B.length):xm U B f z=(2,[],0):=by
 unfold xm;rw [if_pos ⟨h1,h2⟩]
theorem qwh {U B f:qa} {z:Int} (h1:¬ (U.length<(yz B.length).length∧U <+: yz B.length)) (h2:¬ (yz B.length <+: U∧f=sumF B)):xm U B f z=(3,[],0):=by
 unfold xm;rw [if_neg h1,if_neg h2]
set_option maxHeartbeats 16000000 in
theorem q87 (l S R T:List UInt8) (K H n:Nat) (st:List AObj) (hl:l.length<4294967281) (h7:7<l.length) (A:qge l S K n) (hR:S.drop (K+1)=R) (hH:((R.take 8).takeWhile qa3).length=H) (hT:R.drop 9=T):qo E 179 [Sv l] st fun r st'=>r = .tu [Iv (zh l).1,Sv (zh l).2.1,Iv (zh l).2.2]∧st'=st:=by
 have hb:=A.hl;have hK:=A.hK;have hn1:=A.h1;have fj:=A.h2;have hS:l.drop 7=S:=by rw [hb,show (7:Nat)=zb.length by rfl,List.drop_left]
 have hSl:S.length=l.length - 7:=by rw [← hS];simp
 have hbp:zb <+: l:=⟨S,hb.symm⟩;have hKle:K≤S.length:=hK▸(List.takeWhile_prefix yo).length_le;have hz:numZ (S.take K)=some (n:Int):=by rw [A.hD];exact qf5 (by omega) (by omega)
 have hK5:K≤5:=by
  have h1:=q8g fj;have h2:=congrArg List.length A.hD;simp at h2;omega
 have hRl:R.length=S.length - (K+1):=by rw [← hR];simp
 have hH8:H≤8:=by
  have:=(List.takeWhile_prefix qa3 (l:=R.take 8)).length_le;rw [hH] at this;simp at this;omega
 have hHR:H≤R.length:=by
  have:=(List.takeWhile_prefix qa3 (l:=R.take 8)).length_le;rw [hH] at this;simp at this;omega
 have hTl:T.length=R.length - 9:=by rw [← hT];simp
 have d8:(R.take 8).length≤8:=by simp;omega
 have hBl:(T.take n).length≤T.length:=by simp;omega
 have ht:=qbi n;have hi:=qcg n (by omega);refine qx (qb5 _ _ _) (qp Tryz.func179 rfl (Nat.le_of_ble_eq_true rfl) ?_);repeat' (first|(apply qgh (n:=7) hS;(iterate 3 exact rfl);omega)|(apply qgh (n:=K+1) hR;(iterate 3 exact rfl);omega)|(apply qgh (n:=9) hT;(iterate 3 exact rfl);omega)|apply qn|apply qf|apply qh|apply qj|apply qg|(apply zf;exact rfl;exact rfl)|(apply qs;(iterate 3 exact rfl))|(apply jk;(iterate 3 exact rfl))|(apply z7;exact rfl)|(apply qu;(iterate 4 exact rfl))|(apply wy;exact cAo)|(apply vt;exact cAo)|(apply v7;exact cAo)|(apply xb;exact cAo)|(apply qae;(iterate 4 exact rfl))|(apply y5;exact cRa)|(apply qa1;exact cRa)|(apply qgp <;> intro h)|(apply yu;exact cRa)|(apply jj <;> intro h)|(apply qi;exact rfl;apply wt;exact cAo)|(apply qi;exact rfl;apply wj;exact cAo)|(apply qi;exact rfl;apply qhu;exact cRa)|(apply qi;exact rfl;apply qer;exact cRa)|(apply qi;exact rfl;apply pk_t;exact cRa)|(apply qc;exact rfl;apply vr;exact cAo)|(apply qc;exact rfl;apply qiz;exact cRa)|(apply qc;exact rfl;apply cd_n <;> intro h)|(apply qc;exact rfl;apply cd_t;exact cRa)|(apply qc;exact rfl;apply cd_f;exact cRa)|(apply qc;exact rfl;apply cd_d <;> intro h)|(apply zo;(iterate 3 exact rfl))|(apply zl;exact rfl;exact rfl;exact q6 (by omega) (by omega))|(apply xc;exact rfl;exact rfl;exact q6 (by omega) (by omega))|(apply wa;(iterate 3 exact rfl);exact cAs)|(apply qa5;(iterate 3 exact rfl);exact cAs)|(apply qfu;(iterate 3 exact rfl);exact cAs)|apply qw|apply qt|(apply qhm;(iterate 3 exact rfl);omega;omega)|(apply qk;exact Tryz.call246;exact qka (l:=l) (m:=zb) _ hl hbp)|(apply qk;exact Tryz.call246;exact qgu _ (yz n) _ (by simp;omega))|(apply qk;exact Tryz.call245;exact qmc _ (yz n) _ (by omega))|(apply qk;exact Tryz.call247;exact qin _ (by omega) hK)|(apply qk;exact Tryz.call248;exact zb6 _ (by omega) hH)|(apply qk;exact Tryz.call145;exact qea _ n _ (by simp;omega) hz)|(apply qk;exact Tryz.call249;exact qvg _ _ (by omega))|(apply qk;exact Tryz.call250;exact zb5 _ _ (by omega))|(apply qk;exact Tryz.call184;exact qrs n (R.take 8) _ (by omega) (by omega))|(apply qk;exact Tryz.call186;exact zfk _ _ (by omega))|(apply qk;exact Tryz.call185;exact zb4 _ _)|(apply qk;exact Tryz.call108;exact q5c _ _))
 all_goals
  refine qm rfl (ya rfl) ⟨qxd (?_:zh l=_),_,rfl⟩
  try simp only [Classical.not_not,qvx,qbm,decide_eq_true_eq,decide_eq_false_iff_not] at *
 ·exact A.l6 (by omega)
 ·exact A.l7 (by omega) (.inl (by assumption))
 ·exact A.l7 (by omega) (.inr (by omega))
 ·rw [A.at32 (by omega) (by assumption) hR]
  exact R8 (by omega) fj (by omega)
 ·rw [A.at32 (by omega) (by assumption) hR]
  exact R9 (by omega) fj (by omega) (by omega)
 ·rw [A.at32 (by omega) (by assumption) hR]
  exact R10 (by omega) fj (by omega) (by assumption)
 ·rw [A.l11 (by omega) (by assumption) hR (by omega) (by omega) (by assumption) (by omega) hT,if_pos (by omega),qws (by assumption) (by omega) (fun _=>by omega)]
 ·rw [A.l11 (by omega) (by assumption) hR (by omega) (by omega) (by assumption) (by omega) hT,if_pos (by omega),q2x (by assumption)]
 ·rw [A.l11 (by omega) (by assumption) hR (by omega) (by omega) (by assumption) (by omega) hT,if_pos (by omega),ze3 ((q6f (by omega)).2 (by assumption)) (by omega)]
 ·rw [A.l11 (by omega) (by assumption) hR (by omega) (by omega) (by assumption) (by omega) hT,if_pos (by omega),qws (by assumption) (by omega) (fun _=>by omega)]
 ·rw [A.l11 (by omega) (by assumption) hR (by omega) (by omega) (by assumption) (by omega) hT,if_pos (by omega),qws (by assumption) (by omega) (fun h=>absurd ((q6f (by omega)).1 h) (by assumption))]
 ·rw [A.l11 (by omega) (by assumption) hR (by omega) (by omega) (by assumption) (by omega) hT,if_pos (by omega),q2x (by assumption)]
 all_goals have rq:(T.take n).length=n:=by simp;omega
 ·rw [A.l11 (by omega) (by assumption) hR (by omega) (by omega) (by assumption) (by omega) hT,if_neg (by omega),if_neg (by assumption)]
 ·rw [A.l11 (by omega) (by assumption) hR (by omega) (by omega) (by assumption) (by omega) hT,if_neg (by omega),if_pos (by assumption)]
  exact zg3 (by rw [rq];omega) (by rw [rq];assumption)
 ·rw [A.l11 (by omega) (by assumption) hR (by omega) (by omega) (by assumption) (by omega) hT,if_neg (by omega),if_pos (by assumption)]
  exact qwh (by rw [rq];exact fun h=>absurd h.2 (by assumption)) (by rw [rq];intro h;have:=h.1.length_le;omega)
 ·rw [A.l11 (by omega) (by assumption) hR (by omega) (by omega) (by assumption) (by omega) hT,if_neg (by omega),if_pos (by assumption)]
  exact qwh (by rw [rq];intro h;omega) (by rw [rq];exact fun h=>absurd h.2.symm (by assumption))
 ·rw [A.l11 (by omega) (by assumption) hR (by omega) (by omega) (by assumption) (by omega) hT,if_neg (by omega),if_pos (by assumption)]
  exact zg2 (by rw [rq];omega) (by rw [rq];assumption) (by symm;assumption)
 ·rw [A.l11 (by omega) (by assumption) hR (by omega) (by omega) (by assumption) (by omega) hT,if_neg (by omega),if_pos (by assumption)]
  exact qwh (by rw [rq];intro h;omega) (by rw [rq];exact fun h=>absurd h.1 (by assumption))
theorem zb9 (l:List UInt8) (st:List AObj) (hl:l.length<4294967281):qo E 179 [Sv l] st fun r st'=>r = .tu [Iv (zh l).1,Sv (zh l).2.1,Iv (zh l).2.2]∧st'=st:=by
 by_cases hb:l.length≤7∨¬ zb <+: l
 ·exact q85 l st hl hb
 have h7:7<l.length:=by omega
 have hbp:zb <+: l:=Classical.not_not.1 fun h=>hb (.inr h);obtain⟨S,hS⟩:=hbp;by_cases hn:∃ n:Nat,1≤n∧n≤50000∧S.takeWhile yo=Lib.itoa (n:Int)
 ·obtain⟨n,h1,h2,h3⟩:=hn
  exact q87 l S _ _ _ _ n st hl h7 ⟨hS.symm,rfl,by rw [qw8];exact h3,h1,h2⟩ rfl rfl rfl
 ·exact q86 l S _ st hl h7 hS.symm rfl (fun n h1 h2 h3=>hn ⟨n,h1,h2,h3⟩)
theorem zb0 (l:List UInt8) (st:List AObj) (hl:l.length<4294967281) (hg:yv l):qo E 104 [Sv l] st fun r st'=>r = .tu [Sv (recF l),.v .nilIface]∧st'=st:=by
 have h:=zfh l st hl;unfold qf7 at h;rw [if_pos hg] at h;exact h
theorem q8x {b:List UInt8} (h:yv b):(recF b).length≤b.length+61∧1≤(recF b).length:=by
 have h1:=qcg b.length (by have:=h.2.1;omega);unfold recF;simp only [List.length_append,qd5,qlu,qbi];omega
end Go.Proofs.YtneejjefekdgjaaGreatDoor
namespace Go.Av
open Go Go.RowKit
def StE (L:List (Nat×AV)) (st loc:List AObj) (s:AS):Prop:=∃ t ext,s=⟨puts t L,((st++loc)++ext)++[],[]⟩
theorem qbh {t:Nat→AV} {L:List (Nat×AV)} {st loc loc' ext new:List AObj} (h:HasL t L) (e:loc'=loc):StE L st loc ⟨t,((st++loc')++ext)++new,[]⟩:=
 ⟨t,ext++new,by rw [qjn h,e];simp⟩
theorem qez {t:Nat→AV} {L:List (Nat×AV)} {st loc st':List AObj} (h:HasL t L) (e:st'=st++loc):StE L st loc ⟨t,st',[]⟩:=
 ⟨t,[],by rw [qjn h,e];simp⟩
theorem qa9 (st loc ext new:List AObj):∃ x,((st++loc)++ext)++new=st++x:=⟨loc++ext++new,by simp⟩
theorem qba {st loc ext new:List AObj} {k:Nat} {x:AObj} (h:loc[k]? = some x):(((st++loc)++ext)++new)[st.length+k]? = some x:=by
 have hk:=lt_of_getElem? h;rw [List.append_assoc,List.append_assoc,List.getElem?_append_right (Nat.le_add_right _ _),Nat.add_sub_cancel_left,List.getElem?_append_left hk];exact h
theorem qex {st loc ext new:List AObj} {k:Nat} (x:AObj) (hk:k<loc.length):(((st++loc)++ext)++new).set (st.length+k) x=((st++loc.set k x)++ext)++new:=by
 rw [List.append_assoc,List.append_assoc,List.set_append_right _ _ (Nat.le_add_right _ _),Nat.add_sub_cancel_left,List.set_append_left _ _ hk];simp
theorem qle {G:Gh} {sz:Nat} {xs:List AV} {tip:Option Nat} {v:Value} (h:Rel G (.sl sz xs tip) v):Rel G (.sl sz xs none) v:=by
 cases h with
 |sl0 _ _ base cap ht=>exact .sl0 sz none base cap (by simp)
 |sl _ _ _ b off cap pub hp hw a7 hr ht g7=>exact .sl sz xs none b off cap pub hp hw a7 hr (fun t ht=>by simp at ht) g7
theorem qb9 {G:Gh} {sz:Nat} {v:Value} (h:Rel G zp v):Rel G (.sl sz [] none) v:=by
 cases h
 exact .sl0 sz none none 0 (by simp)
section
variable {E : Env} {rd : Option Nat} {N : Nat} {ops : Array Oper} {K : AS → Prop} {s : AS} {rest : List Oper} {d : Option Tmp} {T : TypeId} {p : String} {af : Array Edge}
theorem xu {fn:Func} {r r':AV} (h:ARes E fn s r) (hw:∀ (G:Gh) (v:Value),Rel G r v→Rel G r' v):ARes E fn s r':=
 ⟨fun B0 w0 G a w hL hI=>let ⟨v,h1,h2⟩:=h.run B0 w0 G a w hL hI;⟨v,h1,hw G v h2⟩⟩
theorem qto {fn:Func} {t:Tmp} {sz:Nat} {xs:List AV} {tip:Option Nat} (hr:fn.results = #[.tmp t]) (hx:ql fn.ntmps s (.tmp t) = .sl sz xs tip):ARes E fn s (.sl sz xs none):=
 xu (q5 hr) fun G v h=>by rw [hx] at h;exact qle h
theorem qgf {x y:Operand} {t u T':TypeId} {sz bytes k n m:Nat} {xs ys zs:List AV} {tip:Option Nat} {st loc ext new:List AObj} (hs:s.st=((st++loc)++ext)++new) (hx:ql N s x = .sl sz xs (some (st.length+k))) (hy:ql N s y = .sl sz ys tip) (ho:loc[k]? = some (.tip n sz T')) (hn:xs.length=n)
  (ht:E.P.underlying t=some (.slice T')) (hu:E.P.underlying u=some (.slice T')) (hT:yi E.P T' sz bytes) (d6:j7 (flat ys)=true) (hm:ys.length=m) (i8:n+m≤maxLen) (hb:(n+m) * bytes≤140737488355328) (hz:xs++ys=zs)
  (h:AOps E rd N ops rest K (AS.put ⟨s.t,((st++loc.set k (.tip (n+m) sz T'))++ext)++new,s.df⟩ d (.sl sz zs (some (st.length+k))))):AOps E rd N ops (⟨d,.call ⟨.builtin .append,#[x,y],#[t,u]⟩,T,p,af,none⟩::rest) K s:=by
 subst hz;have hk:=lt_of_getElem? ho;exact qq0 hx hy (by rw [hs];exact qba ho) hn ht hu hT d6 hm i8 hb (by rw [hs,qex _ hk];exact h)
theorem qii {x:Operand} {t:TypeId} {sz:Nat} {agg:Bool} {st loc ext new:List AObj} {k ver off:Nat} {T':TypeId} {cs:List AV} {r:AV} (hs:s.st=((st++loc)++ext)++new) (hx:ql N s x = .bx (st.length+k) ver off) (ho:loc[k]? = some (.cells ver T' cs)) (ht:tyOf E.P t=some (sz,agg)) (hr:j8 sz agg off cs=some r)
  (h:AOps E rd N ops rest K (s.put d r)):AOps E rd N ops (⟨d,.load t x,T,p,af,none⟩::rest) K s:=
 vc hx (by rw [hs];exact qba ho) ht hr h
end
end Go.Av
namespace Go.Pl
open Go
def q7 (l:qa):List qa:=
 if h:10∈l then upto 10 l::q7 (past 10 l) else [l]
 termination_by l.length
 decreasing_by exact xq (fun e=>by rw [e] at h;simp at h)
theorem yp {l:qa} (h:10∈l):q7 l=upto 10 l::q7 (past 10 l):=by rw [q7,dif_pos h]
theorem yq {l:qa} (h:10∉l):q7 l=[l]:=by rw [q7,dif_neg h]
theorem q60:∀ (n:Nat) (l:qa),l.length≤n→Lib.splitK [10] 0 (Lib.count l [10]) l=q7 l
 |n,l,hn=>by
  by_cases h:10∈l
  ·have hi:=quk 10 l h
   have a6:l≠[]:=fun e=>by rw [e] at h;simp at h
   have b4:=xq (c:=10) a6;rw [yp h,Lib.count_hit (i:=(upto 10 l).length) (by simp) hi,Nat.add_comm,Lib.splitK];rw [if_neg (by rw [hi];simp),hi]
   cases n with
   |zero=>exact absurd (List.length_eq_zero_iff.1 (by omega)) a6
   |succ n=>
    have:=q60 n (past 10 l) (by omega);simp only [Int.toNat_natCast,Nat.add_zero,List.length_cons,List.length_nil,Nat.zero_add,qgd];rw [show List.drop ((upto 10 l).length+1) l=past 10 l from rfl,this]
  ·have hi:Lib.index l [10] = -1:=by
    have:=Lib.index_ge l [10];have h2:¬ 0≤Lib.index l [10]:=fun h'=>h ((qd6 l 10).1 h');omega
   rw [yq h,Lib.count_miss hi];rfl
theorem qcl:∀ (n:Nat) (l:qa),l.length≤n→(q7 l).length≤l.length+1
 |n,l,hn=>by
  by_cases h:10∈l
  ·have a6:l≠[]:=fun e=>by rw [e] at h;simp at h
   have b4:=xq (c:=10) a6;rw [yp h]
   cases n with
   |zero=>exact absurd (List.length_eq_zero_iff.1 (by omega)) a6
   |succ n=>
    have:=qcl n (past 10 l) (by omega);simp only [List.length_cons];omega
  ·rw [yq h];simp
theorem qil:∀ (n:Nat) (l:qa),l.length≤n→∀ x∈q7 l,x.length≤l.length∧10∉x
 |n,l,hn,x,hx=>by
  by_cases h:10∈l
  ·have a6:l≠[]:=fun e=>by rw [e] at h;simp at h
   have b4:=xq (c:=10) a6;rw [yp h,List.mem_cons] at hx;rcases hx with rfl|hx
   ·exact⟨kz 10 l,qam 10 l⟩
   ·cases n with
    |zero=>exact absurd (List.length_eq_zero_iff.1 (by omega)) a6
    |succ n=>
     have:=qil n (past 10 l) (by omega) x hx;exact⟨by omega,this.2⟩
  ·rw [yq h,List.mem_singleton] at hx
   subst hx;exact⟨Nat.le_refl _,h⟩
end Go.Pl
namespace Go.Proofs.YtneejjefekdgjaaGreatDoor
open Go Go.Av Go.RowKit Go.Proofs Go.Pl
theorem qoc {f:FuncId} {st:List AObj} {args:List AV} {vals:Array Value} {xs:List qa} {T:TypeId} (ha:args=vals.toList.map .v) (a6:xs≠[])
  (h:∀ B0 w0 w,E.L B0 w0→Below B0 w0 w→Calls E.P f vals w fun e w'=>e = .returned (.slice (some ⟨w.heap.size,0,none⟩) xs.length xs.length)∧w'=w.alloc (.cells (xs.map fun l=>Value.string ⟨l.toArray⟩).toArray T)) :
  qo E f args st fun r st'=>r = .sl 1 (xs.map fun l=>Sv l) none∧st'=st:=by
 subst ha;refine⟨fun B0 w0 G vs w hL hA hR=>?_⟩
 have hv:vs=vals:=by
  have hs:vs.size=vals.size:=by have:=hR.1;simpa using this.symm
  apply Array.ext hs;intro i h1 h2;have:=hR.2 i (.v vals[i]) vs[i] (by simp [h2]) (by simp [h1]);generalize vs[i]=y at this
  cases this
  rfl
 subst hv;refine (h B0 w0 w hL hA.below).mono ?_;rintro e w' ⟨rfl,rfl⟩;obtain⟨b0,hA'⟩:=hA.newPub T (xs.map fun l=>Value.string ⟨l.toArray⟩).toArray (0,0) (xs.map fun l=>Value.string ⟨l.toArray⟩) (fun i y hy=>by simpa using hy);refine⟨_,_,_,st,rfl,b0,hA',?_,rfl,rfl⟩
 have d8:flat (xs.map fun l=>Sv l)=xs.map fun l=>Sv l:=by
  clear a6 h b0 hA'
  induction xs with
  |nil=>rfl
  |cons a xs ih=>rw [List.map_cons,qb1,ih];rfl
 have:=Rel.sl (G:=G.publish w.heap.size (xs.map fun l=>Value.string ⟨l.toArray⟩)) 1 (xs.map fun l=>Sv l) none w.heap.size 0 xs.length (xs.map fun l=>Value.string ⟨l.toArray⟩) (by simp [Gh.publish]) (fun x hx=>by
  simp only [List.mem_map] at hx;obtain⟨l,_,rfl⟩:=hx
  rfl) (by rw [d8];simp) (fun i x y h1 h2=>by
  rw [d8,List.getElem?_map] at h1;rw [Nat.zero_add,List.getElem?_map] at h2
  cases hx:xs[i]? with
  |none=>rw [hx] at h1;simp at h1
  |some l=>
   rw [hx] at h1 h2;simp at h1 h2;subst h1;subst h2
   exact .v _) (fun t ht=>by simp at ht) (by simp)
 simpa using this
theorem zck (l:List UInt8) (st:List AObj) (hl:l.length<4294967281):qo E 285 [Sv l,Sv [10]] st fun r st'=>r = .sl 1 ((q7 l).map fun x=>Sv x) none∧st'=st:=by
 have hd:=Lib.splitB_data ⟨#[10]⟩ 0 (Lib.countB ⟨l.toArray⟩ ⟨#[10]⟩) ⟨l.toArray⟩;have hs:Lib.splitK [10] 0 (Lib.count l [10]) l=q7 l:=q60 _ l (Nat.le_refl _);have hn:=Lib.splitB_all ⟨#[10]⟩ (by simp [ByteArray.size]) 0 _ ⟨l.toArray⟩ rfl;have hd2:(Lib.splitB ⟨#[10]⟩ 0 (Lib.countB ⟨l.toArray⟩ ⟨#[10]⟩) ⟨l.toArray⟩).map (·.data.toList)=q7 l:=hd.trans hs;have a7:(q7 l).length=Lib.countB ⟨l.toArray⟩ ⟨#[10]⟩+1:=by rw [← hd2,List.length_map,hn]
 refine qoc (T:=9) (vals:= #[.string ⟨l.toArray⟩,.string ⟨#[10]⟩]) rfl (fun e=>by rw [e] at a7;simp at a7) fun _ _ w hL hb=>(Tryz.strings_Split_shaped ⟨l.toArray⟩ ⟨#[10]⟩ w (hL w hb).shaped (by simpa [ByteArray.size] using hl) (by simp [ByteArray.size])).mono fun e w' ⟨h1,h2⟩=>?_;refine⟨by rw [h1,a7],?_⟩;rw [h2,← hd2,List.map_map];rfl
end Go.Proofs.YtneejjefekdgjaaGreatDoor
namespace Go.Av
open Go Go.RowKit
section
variable {E : Env} {N : Nat} {ops : Array Oper} {K : AS → Prop} {s : AS} {rest : List Oper} {d : Option Tmp} {T : TypeId} {p : String} {af : Array Edge}
theorem qtm {x:Operand} {t:TypeId} {sz:Nat} {agg:Bool} {o ver off:Nat} {T':TypeId} {cs:List AV} {r:AV} (hx:ql N s x = .bx o ver off) (ho:s.st[o]? = some (.cells ver T' cs)) (ht:tyOf E.P t=some (sz,agg)) (hr:j8 sz agg off cs=some r)
  (h:AQ E N ops rest K (s.put d r)):AQ E N ops (⟨d,.load t x,T,p,af,none⟩::rest) K s:=by
 refine qfd rfl nofun fun B0 w0 G a w _ hI=>?_;have he:=hI.eval_of hx;generalize hv:a.eval x=v at he
 cases he with
 |bx _ _ _ b hn r9 hb=>
  obtain⟨_,h1,h2,h3,c,h4,h5,h6⟩:=hI.agree.ob o _ ho;have hb:=hb h1;subst hb
  have b4:(G.ob o).blk<w.heap.size:=by
   rcases Nat.lt_or_ge (G.ob o).blk w.heap.size with h'|h'
   ·exact h'
   ·rw [Array.getElem?_eq_none h'] at h4;simp at h4
  -- the value is read out of the cells, whatever is drawn behind them
  have key:∀ w',Below w.heap.size w w'→∃ v,(loadVar t ⟨(G.ob o).blk,off,none⟩).run E.P w' = .ok v w'∧Rel G r v:=fun w' f9=>by
   have sf:w'.heap[(G.ob o).blk]? = some (.cells c T' (0,0)):=by rw [f9.block _ b4];exact h4
   exact qbb (w:=w') (G:=G) (b:=(G.ob o).blk) (off:=off) (off':=off) ht (fun i x hx hi=>by
    obtain⟨y,hy⟩:=wr hx (Nat.le_of_eq h5);refine⟨y,?_,h6 i x y hx hy⟩
    simp [World.cell?,sf,show off+(i - off)=i by omega,hy]) hr
  have fp:∀ w',Below w.heap.size w w'→∀ v,(loadVar t ⟨(G.ob o).blk,off,none⟩).run E.P w = .ok v w→(loadVar t ⟨(G.ob o).blk,off,none⟩).run E.P w' = .ok v w':=fun w' f9 v hr1=>by
   obtain⟨i1,i2⟩:=vj ht w;obtain⟨j1,j2⟩:=vj ht w';have hc:∀ k,w'.cell? ⟨(G.ob o).blk,k,none⟩=w.cell? ⟨(G.ob o).blk,k,none⟩:=fun k=>by simp [World.cell?,f9.block _ b4]
   obtain⟨v',pq,_⟩:=key w' f9;rw [pq];congr 1
   cases agg with
   |false=>
    simp only [j8,cond_false] at hr;obtain⟨y,hy⟩:=wr hr (Nat.le_of_eq h5);have e1:w.cell? ⟨(G.ob o).blk,off,none⟩=some y:=by simp [World.cell?,h4,hy]
    have e2:w'.cell? ⟨(G.ob o).blk,off,none⟩=some y:=by rw [hc,e1]
    simp [loadVar,i2,run_load,e1] at hr1;simp [loadVar,j2,run_load,e2] at pq
    rw [← pq,hr1]
   |true=>
    simp only [j8,cond_true] at hr
    cases i6:Nat.ble (off+sz) cs.length with
    |false=>rw [i6] at hr;simp at hr
    |true=>
     have b0:off+sz≤cs.length:=Nat.le_of_ble_eq_true i6
     have e1:∀ j,j<sz→w.cell? ⟨(G.ob o).blk,off+j,none⟩=some (c.getD (off+j) undef):=fun j hj=>by
      have:off+j<c.size:=by omega
      simp [World.cell?,h4,this]
     have e2:∀ j,j<sz→w'.cell? ⟨(G.ob o).blk,off+j,none⟩=some (c.getD (off+j) undef):=fun j hj=>by rw [hc,e1 j hj]
     have l1:=run_loadCells (P:=E.P) (w:=w) ⟨(G.ob o).blk,off,none⟩ sz (fun j=>c.getD (off+j) undef) (fun j hj=>by rw [Addr.add_lit];exact e1 j hj);have l2:=run_loadCells (P:=E.P) (w:=w') ⟨(G.ob o).blk,off,none⟩ sz (fun j=>c.getD (off+j) undef) (fun j hj=>by rw [Addr.add_lit];exact e2 j hj);simp [loadVar,i1,i2,l1] at hr1;simp [loadVar,j1,j2,l2] at pq;rw [← pq,hr1]
  obtain⟨v,a4,hR⟩:=key w (Below.refl _ _);exact⟨v,r,fun w' f9=>by simp only [execOp,hv,Instr.loadAt,Instr.sureAddr];simp [fp w' f9 v a4],hR,h⟩
theorem qr3 {f:FuncId} {xs:Array Operand} {ts:Array TypeId} {args:List AV} {r:AV} {v:Value} (hok:qzw E) (a4:∀ vs w,(callFunc f vs).run E.P w = .ok (.enter f vs) w)
  (dv:xs.toList.map (ql N s)=args) (hp:∀ x∈args,Pure x) (hs:Sure r v) (hpr:∀ G,Rel G r v) (hc:qo E f args [] fun a st1=>a=r∧st1=[])
  (h:AQ E N ops rest K (s.put d r)):AQ E N ops (⟨d,.call ⟨.value (.func f),xs,ts⟩,T,p,af,none⟩::rest) K s:=by
 refine⟨fun B0 w0 G a w hL hI Q hQ=>?_⟩;refine⟨fun _ _ _ _=>trivial,?_⟩;simp only [Region.wanted];refine⟨v,fun w' f9=>?_,?_⟩
 ·have hr:(execOp a.eval ⟨d,.call ⟨.value (.func f),xs,ts⟩,T,p,af,none⟩).run E.P w' = .ok (.enter f (xs.map a.eval)) w':=by
   have he:a.eval (.func f) = .func (.func f) #[] #[]:=rfl;generalize a.eval = ρ at he;simp [execOp,resolve,Deferred.ofValue,he,invoke,a4]
  have t7:=qeb hI xs;rw [dv] at t7;unfold Oper.quietAtIn;rw [hr];refine⟨rfl,fun h=>by simp [fw,Fence.wide] at h,qgn ?_⟩;have hb:Below B0 w0 w':=hI.agree.below.trans (f9.mono hI.agree.hB);have hB:B0≤w'.heap.size:=Nat.le_trans hI.agree.hB f9.size;have hA':=hI.agree.fresh f9;refine (hc.run w'.heap.size w' ⟨G.pub,G.ob,0⟩ (xs.map a.eval) w' (hok B0 w0 w' hL hb hB) ⟨Below.refl _ _,Nat.le_refl _,rfl,hA'.pub,nofun,nofun⟩ ⟨t7.1,fun i x y hx hy=>?_⟩).mono ?_
  ·exact hp x (List.mem_of_getElem? hx) G _ y (fun b vs hb=>⟨[],by simpa using hb⟩) (t7.2 i x y hx hy)
  ·rintro e w'' ⟨u,G',r',st',rfl,hG,hA,hR,rfl,rfl⟩
   rw [hs G' u hR];exact⟨rfl,f9.trans (hA.below.mono f9.size)⟩
 ·refine h.run B0 w0 G _ w hL (hI.put (.refl G) hI.agree d (hpr G)) Q fun s' a' i3 b7 hK=>hQ s' a' i3 ?_ hK
  rw [b7]
  cases d <;> rfl
end
end Go.Av
namespace Go.Av
open Go Go.RowKit
section
variable {E : Env} {rd : Option Nat} {N : Nat} {ops : Array Oper} {K : AS → Prop} {s : AS} {rest : List Oper} {d : Option Tmp} {T : TypeId} {p : String} {af : Array Edge}
theorem qlk {x:Operand} {t:TypeId} {sz:Nat} {agg:Bool} {st loc:List AObj} {k ver off:Nat} {T':TypeId} {cs:List AV} {r:AV} (hs:s.st=st++loc) (hx:ql N s x = .bx (st.length+k) ver off) (ho:loc[k]? = some (.cells ver T' cs)) (ht:tyOf E.P t=some (sz,agg)) (hr:j8 sz agg off cs=some r)
  (h:AQ E N ops rest K (s.put d r)):AQ E N ops (⟨d,.load t x,T,p,af,none⟩::rest) K s:=
 qtm hx (by rw [hs];exact jy ho) ht hr h
end
end Go.Av
namespace Go.Proofs.YtneejjefekdgjaaGreatDoor
open Go Go.Av Go.RowKit Go.Proofs Go.Pl
structure qdq where
 kind:Int
 key:qa
 text:qa
 lo:Int
 hi:Int
abbrev FldV:=qa×qa
@[reducible] def fldA (f : FldV) : AV := .ag [Sv f.1, Sv f.2]
@[reducible] def jr (l : List FldV) : AV := .sl 2 (l.map fldA) none
def zgf (r:qdq):Prop:=1≤r.kind∧r.kind≤7∧(r.kind=6∨qal r.key)
instance (r:qdq):Decidable (zgf r):=inferInstanceAs (Decidable (_∧_∧_))
def q68 (l:qa):List qa:=if l=[] then [] else q7 l
theorem zbx (xs:List qa):Pure (.sl 1 (xs.map fun x=>Sv x) none):=qbq fun x hx=>by
 simp only [List.mem_map] at hx;obtain⟨l,_,rfl⟩:=hx;intro y hy;simp [AV.cells] at hy;subst hy;exact qq _
def qqu (r:qdq) (n:Int):Prop:=r.lo≤n∧n≤r.hi
instance (r:qdq) (n:Int):Decidable (qqu r n):=inferInstanceAs (Decidable (_∧_))
def q6o (r:qdq) (l:qa):Prop:=∃ n,numZ l=some n∧qqu r n
instance (r:qdq) (l:qa):Decidable (q6o r l):=
 match h:numZ l with
 |some n=>decidable_of_iff (qqu r n) ⟨fun h'=>⟨n,h,h'⟩,fun ⟨m,h1,h2⟩=>by rw [h] at h1;cases h1;exact h2⟩
 |none=>.isFalse fun ⟨m,h1,_⟩=>by rw [h] at h1;cases h1
def q3w (r:qdq) (f:FldV):Prop:=
 (r.kind=3→f.1=r.key→q6o r f.2)∧(r.kind=4→f.1=r.key→f.2∈q68 r.text)∧(r.kind=5→f.1=r.key→qqu r f.2.length)∧(r.kind=6→f.1∈q68 r.text)
instance (r:qdq) (f:FldV):Decidable (q3w r f):=inferInstanceAs (Decidable (_∧_∧_∧_))
def qp6 (key:qa) (xs:List FldV):List qa:=(xs.filter fun f=>f.1=key).map Prod.snd
def zg0 (r:qdq) (xs:List FldV):Prop:=zgf r∧((r.kind=1∧(qp6 r.key xs).length=0)∨(r.kind=2∧1<(qp6 r.key xs).length)∨(r.kind≠1∧r.kind≠2∧xs.any (fun f=> !decide (q3w r f))=true))
instance (r:qdq) (xs:List FldV):Decidable (zg0 r xs):=inferInstanceAs (Decidable (_∧(_∨_∨_)))
def badR (r:qdq) (f:FldV):Bool:= !decide (q3w r f)
def cntR (r:qdq) (xs:List FldV):Nat:=if r.kind=6 then 0 else (qp6 r.key xs).length
end Go.Proofs.YtneejjefekdgjaaGreatDoor
namespace Go.Av
open Go Go.RowKit Go.WideShapes Go.ChangeShapes Go.Deep
def RelK (G:Gh) (us:List AV) (cs:List Value):Prop:=us.length=cs.length∧∀ (i:Nat) (x:AV) (y:Value),us[i]? = some x→cs[i]? = some y→Rel G x y
theorem RelK.one {G:Gh} {a:AV} {v:Value} (h:RelK G [a] [v]):Rel G a v:=h.2 0 a v rfl rfl
def One (S:AV→Prop):Prop:=∀ a,S a→a.cells=[a]
end Go.Av
namespace Go.Proofs.YtneejjefekdgjaaGreatDoor
open Go Go.Av Go.RowKit Go.Proofs Go.Pl
theorem qlt (l w:List UInt8) (st:List AObj):qo E 251 [Sv l,Sv w] st fun r st'=>r=Bv (decide (w <+: l))∧st'=st:=by
 refine qx (qq _) (qp Tryz.func251 rfl (Nat.le_of_ble_eq_true rfl) ?_);repeat' (first|apply qn|apply qf|apply qh|apply qj|apply qg|(apply qs;(iterate 3 exact rfl))|(apply jk;(iterate 3 exact rfl))|(apply qu;(iterate 4 exact rfl))|(apply wy;exact cAo)|(apply xb;exact cAo)|(apply jj <;> intro h)|(apply qi;exact rfl;apply wt;exact cAo)|(apply qi;exact rfl;apply wj;exact cAo)|(apply zo;(iterate 3 exact rfl))|(apply qa5;(iterate 3 exact rfl);exact cAs)|apply qt)
 all_goals refine qm rfl (q5 rfl) ⟨congrArg Bv (?_:(_:Bool)=_),_,rfl⟩
 ·have e:w <+: l↔l.take w.length=w:=by
   rw [List.prefix_iff_eq_take];exact⟨fun h=>h.symm,fun h=>h.symm⟩
  exact decide_eq_decide.2 e.symm
 ·refine (decide_eq_false fun h=>?_).symm
  have:=h.length_le;omega
structure qr where
 kind:Int
 id:Int
 fields:List FldV
@[reducible] def ji (e : qr) : AV := .ag [Iv e.kind, Iv e.id, jr e.fields]
def yw (k:Int):qa:=if k=1 then [32,114,101,112,108,97,99,101,32] else if k=2 then [32,100,101,108,101,116,101,32] else if k=3 then [32,105,110,115,101,114,116,32] else []
def kg (e:qr):qa:=if 1≤e.kind∧e.kind≤3 then yw e.kind++Lib.itoa e.id else []
theorem qy2 (e:qr) (st:List AObj) (h1 : -9223372036854775808≤e.id) (h2:e.id≤9223372036854775807):qo E 181 [ji e] st fun r st'=>r=Sv (kg e)∧st'=st:=by
 refine qx (qq _) (qp Tryz.func181 rfl (Nat.le_of_ble_eq_true rfl) ?_);have hn:=Lib.itoa_length_le e.id h1 h2;repeat' (first|apply qn|apply qf|apply qh|apply qg|(apply qs;(iterate 3 exact rfl))|(apply qc;exact rfl;apply cd_d <;> intro h)|(apply jp;exact rfl;exact rfl;exact cOs)|(apply qbd;(iterate 4 exact rfl))|(apply zj;(iterate 3 exact rfl))|(apply jl;(iterate 5 exact rfl))|apply qw|apply qt|(apply qk;exact Tryz.call114;exact qfh _ _ h1 h2))
 all_goals refine qm rfl (q5 rfl) ⟨congrArg (fun l:qa=>Sv l) (?_:_=kg e),_,rfl⟩
 all_goals simp_all [kg,yw]
 all_goals omega
def qcd (k:Int):qa:=if k=1 then [114,101,112,108,97,99,101] else if k=2 then [100,101,108,101,116,101] else if k=3 then [105,110,115,101,114,116] else []
theorem qvz (k:Int) (st:List AObj):qo E 239 [Iv k] st fun r st'=>r=Sv (qcd k)∧st'=st:=by
 refine qx (qq _) (qp Tryz.func239 rfl (Nat.le_of_ble_eq_true rfl) ?_);repeat' (first|apply qn|apply qy|apply qf|apply qh|apply qj|apply qg|(apply qs;(iterate 3 exact rfl))|(apply qc;exact rfl;apply cd_d <;> intro h)|apply qw|apply qt)
 all_goals refine qm rfl (q5 rfl) ⟨congrArg (fun l:qa=>Sv l) (?_:_=qcd k),_,rfl⟩
 all_goals simp_all [qcd]
theorem zc6 (k:Int):(qcd k).length≤7:=by
 unfold qcd;repeat' split
 all_goals simp
theorem q4r (k:Int):yw k=if qcd k=[] then [] else [32]++qcd k++[32]:=by
 unfold yw qcd;repeat' split
 all_goals simp_all
theorem zc7 (k:Int):qcd k=[]↔¬ (1≤k∧k≤3):=by
 unfold qcd;repeat' split
 all_goals simp_all
 omega
theorem zjx (e:qr) (st:List AObj) (h1 : -9223372036854775808≤e.id) (h2:e.id≤9223372036854775807):qo E 169 [ji e] st fun r st'=>r=Sv (kg e)∧st'=st:=by
 refine qx (qq _) (qp Tryz.func169 rfl (Nat.le_of_ble_eq_true rfl) ?_);have hn:=Lib.itoa_length_le e.id h1 h2;have hw:=zc6 e.kind;have ho:=q4r e.kind;have hz:=zc7 e.kind;repeat' (first|apply qn|apply qf|apply qh|apply qj|apply qg|(apply jk;(iterate 3 exact rfl))|(apply qc;exact rfl;apply cd_d <;> intro h)|(apply jp;exact rfl;exact rfl;exact cOs)|(apply qbd;(iterate 4 exact rfl))|(apply zj;(iterate 3 exact rfl))|(apply jl;(iterate 5 exact rfl))|apply qw|apply qt|(apply qk;exact Tryz.call239;exact qvz _ _)|(apply qk;exact Tryz.call133;exact qo9 _ _ h1 h2))
 all_goals refine qm rfl (q5 rfl) ⟨congrArg (fun l:qa=>Sv l) (?_:_=kg e),_,rfl⟩
 all_goals unfold kg
 ·rw [if_neg (by simp_all)]
 ·rw [if_pos (by simp_all),ho,if_neg (by assumption)]
end Go.Proofs.YtneejjefekdgjaaGreatDoor
namespace Go.Av
open Go Go.RowKit
def noop (o:Oper):Oper:={ o with op:=.move (.const undef),guard:=none }
section
variable {F : Fence} {n : Nat} {P : Program} {ops ops' : Array Oper} {md : Region.Mode} {C : World → Prop} {Q : Exit → Act → World → Prop} {k : Nat} {o : Oper}
theorem ql9 {listed:Array Bool}:∀ k,listed.getD k true=false→∃ j,j≤k∧listed.getD j true=false∧∀ i,i<j→listed.getD i true=true:=by
 intro k
 induction k using Nat.strongRecOn with
 | _ k ih=>
  intro h;by_cases m8:∀ i,i<k→listed.getD i true=true
  ·exact⟨k,Nat.le_refl _,h,m8⟩
  ·have ⟨i,hi⟩:=Classical.not_forall.1 m8
   have ⟨tq,bq⟩:=Classical.not_imp.1 hi;obtain⟨j,h1,h2,h3⟩:=ih i tq (by simpa using bq);exact⟨j,by omega,h2,h3⟩
theorem qzo {listed:Array Bool} {i:Nat} (h:listed.getD i true=true) (hi:i<listed.size):listed.getD i false=true:=by
 simp [Array.getD,hi] at h ⊢;exact h
theorem q4q {listed:Array Bool} {i:Nat} (h:listed.getD i true=false) (h2:listed.getD i false=true):False:=by
 unfold Array.getD at h h2;by_cases hi:i<listed.size
 ·rw [dif_pos hi] at h h2
  rw [h] at h2
  cases h2
 ·rw [dif_neg hi] at h
  cases h
theorem qrr {listed:Array Bool} {j:Nat} (d9:listed.size=ops.size) (gd:∀ (j:Nat) o,ops[j]? = some o→∀ e∈o.after,e.on<j) (hj:listed.getD j true=false) (m8:∀ i,i<j→listed.getD i true=true):j∈Region.ready md ops listed:=by
 have b4:j<listed.size:=by
  rcases Nat.lt_or_ge j listed.size with h|h
  ·exact h
  ·simp [Array.getD,Nat.not_lt.2 h] at hj
 rw [mem_ready];have ho:ops[j]? = some ops[j]:=Array.getElem?_eq_getElem (by omega);exact⟨hj,_,ho,fun e he _=>qzo (m8 _ (gd j _ ho e he)) (by have:=gd j _ ho e he;omega)⟩
theorem qnm {listed:Array Bool} (hs:ops.size=ops'.size) (hk:ops[k]? = some o) (l9:ops'[k]? = some (noop o)) (f0:∀ j,j≠k→ops'[j]? = ops[j]?):Region.ready md ops' listed=Region.ready md ops listed:=by
 unfold Region.ready;rw [hs];refine List.filter_congr fun i _=>?_;by_cases h:i=k
 ·subst h;rw [hk,l9];rfl
 ·rw [f0 i h]
theorem q34 (hd:o.dst=none) (hk:ops[k]? = some o) (l9:ops'[k]? = some (noop o)) (f0:∀ j,j≠k→ops'[j]? = ops[j]?) (t:Array Value):yielded ops' t=yielded ops t:=by
 funext j;unfold yielded;by_cases h:j=k
 ·subst h;rw [hk,l9];simp [noop,hd]
 ·rw [f0 j h]
theorem qp7 (hro:F.round=none) (d9:ops.size=ops'.size) (hk:ops[k]? = some o) (l9:ops'[k]? = some (noop o)) (f0:∀ j,j≠k→ops'[j]? = ops[j]?) (hd:o.dst=none)
  (gd:∀ (j:Nat) o,ops[j]? = some o→∀ e∈o.after,e.on<j) (sr:∀ j,j<ops.size→j≠k→∃ e∈o.after,Region.binds md e=true∧e.on=j) :
  ∀ (fuel:Nat) (listed:Array Bool) (a:Act) (w:World),C w→listed.size=ops.size→listed.getD k true=false→wpAnyQIn F n P md ops' C (fun a=>∀ w,C w→wpOpIn F n P ops Q k (Q .normal) a w) fuel listed a→wpAnyIn F n P md ops Q fuel listed a w
 | 0,listed,a,w,hC,hs,n6,h=>by
  have ⟨j,_,h2,h3⟩:=ql9 k n6;have:=qrr (md:=md) hs gd h2 h3;rw [← qnm d9 hk l9 f0,h.1] at this
  cases this
 |fuel+1,listed,a,w,hC,hs,n6,h=>by
  obtain⟨hq1,cj⟩:=h;rw [qnm d9 hk l9 f0] at hq1 cj;refine⟨fun h0=>?_,fun i hi=>?_⟩
  ·have ⟨j,_,h2,h3⟩:=ql9 k n6
   have:=qrr (md:=md) hs gd h2 h3;rw [h0] at this
   cases this
  ·have hqi:=cj i hi
   by_cases hik:i=k
   ·subst hik
    obtain⟨_,o',b6,m8⟩:=mem_ready.1 hi;rw [hk] at b6
    cases b6
    have hr:Region.ready md ops (listed.setIfInBounds i true)=[]:=by
     rw [List.eq_nil_iff_forall_not_mem];intro j hj;obtain⟨hju,oj,hoj,_⟩:=mem_ready.1 hj
     have hjs:j<ops.size:=by
      rcases Nat.lt_or_ge j ops.size with h|h
      ·exact h
      ·rw [Array.getElem?_eq_none h] at hoj;cases hoj
     by_cases t6:j=i
     ·subst t6
      simp [Array.getD,hs,hjs] at hju
     ·obtain⟨e,he,hb,heq⟩:=sr j hjs t6
      have h5:=m8 e he hb;rw [heq] at h5;rw [getD_set_ne true (Ne.symm t6)] at hju;exact q4q hju h5
    unfold qOpIn at hqi;rw [l9] at hqi;simp only at hqi;have hqe:=hqi.2;have hwn:Region.wanted (noop o) (yielded ops' a.tmps)=true:=by simp [noop,Region.wanted]
    rw [if_pos hwn] at hqe;obtain⟨v,_,hK⟩:=hqe;have hput:a.put (noop o).dst v=a:=by simp [noop,hd,Act.put]
    rw [hput] at hK
    have hQ':∀ w,C w→wpOpIn F n P ops Q i (Q .normal) a w:=by
     cases fuel with
     |zero=>exact hK.2
     |succ fuel=>exact hK.1 (by rw [qnm d9 hk l9 f0];exact hr)
    exact wpOpIn_mono (fun a' w' h'=>wpAnyIn_done hr h' _) (hQ' w hC)
   ·have he:qOpIn F n P ops C i (wpAnyQIn F n P md ops' C (fun a=>∀ w,C w→wpOpIn F n P ops Q k (Q .normal) a w) fuel (listed.setIfInBounds i true)) a:=by
     unfold qOpIn at hqi ⊢;rw [f0 i hik] at hqi;rw [← q34 hd hk l9 f0];exact hqi
    refine wpOpIn_of_qOpIn hro hC (fun a' w' hC' hX=>qp7 hro d9 hk l9 f0 hd gd sr fuel _ a' w' hC' (by simpa using hs) ?_ hX) he;rw [getD_set_ne true hik];exact n6
def qgc {α : Type}:List α→Option (List α×α)
 | []=>none
 | [x]=>some ([],x)
 |x::y::r=>match qgc (y::r) with
  |some (l,o)=>some (x::l,o)
  |none=>none
theorem qp1 {α : Type}:∀ {L l:List α} {o : α},qgc L=some (l,o)→L=l++[o]
 | [],_,_,h=>by simp [qgc] at h
 | [x],_,_,h=>by simp [qgc] at h;obtain⟨rfl,rfl⟩:=h;rfl
 |x::y::r,l,o,h=>by
  unfold qgc at h;split at h
  ·rename_i l' o' he
   simp only [Option.some.injEq,Prod.mk.injEq] at h;obtain⟨rfl,rfl⟩:=h;rw [qp1 he];rfl
  ·simp at h
def q52 (o:Oper) (k:Nat):Bool:=(List.range k).all fun j=>o.after.toList.any fun e=>Region.binds .any e && Nat.beq e.on j
def q2r (ops:List Oper):Bool:=(List.range ops.length).all fun j=>match ops[j]? with|some o=>o.after.toList.all fun e=>Nat.blt e.on j|none=>true
end
section
variable {E : Env} {N : Nat} {s : AS}
theorem qxm {id:Nat} {L l:List Oper} {o:Oper} {Q:Exit→AS→Prop} (g9:qgc L=some (l,o)) (hd:o.dst=none) (sr:q52 o l.length=true) (gd:q2r L=true) (hm:E.P.follows .mixedOrders=true) (hB:Region.lexB .any (l++[noop o]).toArray=true)
  (h:AQ E N (l++[noop o]).toArray l (fun s'=>AOps E none N L.toArray [o] (Q .normal) s') s):AWp E none N (.region id L.toArray true) Q s:=by
 have hLe:=qp1 g9;subst hLe;refine⟨fun B0 w0 G a w hL hI=>?_⟩;have dn:=hB;simp only [Region.lexB,Bool.and_eq_true] at dn;have hk:(l++[o]).toArray[l.length]? = some o:=by simp
 have l9:(l++[noop o]).toArray[l.length]? = some (noop o):=by simp
 have f0:∀ j,j≠l.length→(l++[noop o]).toArray[j]? = (l++[o]).toArray[j]?:=fun j hj=>by
  simp only [List.getElem?_toArray];rcases Nat.lt_or_ge j l.length with h|h
  ·rw [List.getElem?_append_left h,List.getElem?_append_left h]
  ·rw [List.getElem?_eq_none (by simp;omega),List.getElem?_eq_none (by simp;omega)]
 have hordP:∀ (j:Nat) o',(l++[o]).toArray[j]? = some o'→∀ e∈o'.after,e.on<j:=fun j o' hj e he=>by
  simp only [q2r,List.all_eq_true,List.mem_range] at gd;simp only [List.getElem?_toArray] at hj;have h1:=gd j (lt_of_getElem? hj);rw [hj] at h1;simp only at h1;have h2:=List.all_eq_true.1 h1 e (by simpa using he);exact Nat.le_of_ble_eq_true h2
 have hcovP:∀ j,j<(l++[o]).toArray.size→j≠l.length→∃ e∈o.after,Region.binds .any e=true∧e.on=j:=fun j hj a6=>by
  simp only [q52,List.all_eq_true,List.mem_range] at sr;have h1:=sr j (by simp at hj;omega);obtain⟨e,he,h2⟩:=List.any_eq_true.1 h1;simp only [Bool.and_eq_true] at h2;exact⟨e,by simpa using he,h2.1,Nat.eq_of_beq_eq_true h2.2⟩
 have hBl:Below w.heap.size w { w with drawn:=w.drawn+1 }:=⟨rfl,rfl,rfl,Nat.le_refl _,fun _ _=>rfl⟩;refine wpIn_region_any hm (qp7 (C:=fun w'=>Below w.heap.size w w') (ops':=(l++[noop o]).toArray) (k:=l.length) rfl (by simp) hk l9 f0 hd hordP hcovP _ _ _ _ hBl (by simp) (by simp [Array.getD]) ?_)
 have hq:wpQuietIn (fw none) 0 E.P (l++[noop o]).toArray (fun w'=>Below w.heap.size w w') (fun a=>∀ w',Below w.heap.size w w'→wpOpIn (fw none) 0 E.P (l++[o]).toArray (fun e a' w'=>∃ (G':Gh) (s':AS),G.le G'∧Inv B0 w0 N G' s' a' w'∧Q e s') l.length (fun a' w'=>∃ (G':Gh) (s':AS),G.le G'∧Inv B0 w0 N G' s' a' w'∧Q .normal s') a w') (l++[noop o]) a:=by
  have step:∀ (l1:List Oper) (a:Act) (X:Act→Prop),wpQuietIn (fw none) 0 E.P (l++[noop o]).toArray (fun w'=>Below w.heap.size w w') X l1 a→wpQuietIn (fw none) 0 E.P (l++[noop o]).toArray (fun w'=>Below w.heap.size w w') X (l1++[noop o]) a:=by
   intro l1
   induction l1 with
   |nil=>
    intro a X hX;refine⟨fun _ _ _ hf=>?_,?_⟩
    ·simp [Oper.about,noop] at hf
    ·have hwn:Region.wanted (noop o) (yielded (l++[noop o]).toArray a.tmps)=true:=by simp [noop,Region.wanted]
     rw [if_pos hwn];refine⟨undef,fun w' _=>?_,?_⟩
     ·unfold Oper.quietAtIn
      simp [noop,execOp,Oper.quietUponIn,Act.eval]
     ·have hput:a.put (noop o).dst undef=a:=by simp [noop,hd,Act.put]
      rw [hput]
      exact hX
   |cons o1 l1 ih=>
    intro a X hX;refine⟨hX.1,?_⟩;have h2:=hX.2;split
    ·rename_i hw
     rw [if_pos hw] at h2;obtain⟨v,h3,h4⟩:=h2;exact⟨v,h3,ih _ _ h4⟩
    ·rename_i hw
     rw [if_neg hw] at h2;exact ih _ _ h2
  refine step l a _ (h.run B0 w0 G a w hL hI _ fun s' a' i3 b7 gz w' f9=>?_);have mg:Inv B0 w0 N G s' a' w':=⟨i3.agree.fresh f9,i3.defers,i3.size,i3.tmps⟩;have hr:=gz.run B0 w0 G a' w' hL mg (fun e a' w'=>∃ (G':Gh) (s':AS),G.le G'∧Inv B0 w0 N G' s' a' w'∧Q e s') (fun G' s'' a'' w'' hG hI3 hQ=>⟨G',s'',hG,hI3,hQ⟩);unfold wpOpIn;rw [hk];exact hr
 have:=wpAnyQIn_lex (F:=fw none) (n:=0) (C:=fun w'=>Below w.heap.size w w') (md:=.any) dn.1 (l++[noop o]) 0 (Array.replicate (l++[noop o]).length false) a (by simp) (by simpa using dn.2) hq
 simpa using this
variable {ops : Array Oper} {K : AS → Prop} {rest : List Oper} {d : Option Tmp} {T : TypeId} {p : String} {af : Array Edge}
theorem qh4 {x y:Operand} {t t':TypeId} {m n:List UInt8} (hx:ql N s x=Sv m) (hy:ql N s y=Sv n) (hl:m.length+n.length<9223372036854775808)
  (h:AQ E N ops rest K (s.put d (Sv (m++n)))):AQ E N ops (⟨d,.binOp .add t x y t',T,p,af,none⟩::rest) K s:=
 qbu _ rfl nofun (fun a w he=>by
  simp only [execOp,he _ _ hx,he _ _ hy,eqGuard_at_string,binOp,Op.stringOp,qbc,qxl,IntKind.max_i64];rw [if_neg (by omega)]
  simp) h
theorem qol {x y:Operand} {t e:TypeId} {sz:Nat} {agg:Bool} {xs:List AV} {tip:Option Nat} {k:IntKind} {i:Int} {n:Nat} {z:AV} (hx:ql N s x = .sl sz xs tip) (hy:ql N s y = .v (.int k i)) (hu:E.P.underlying t=some (.slice e)) (ht:tyOf E.P e=some (sz,agg)) (hi:i=n) (hz:xs[n]? = some z)
  (h:AQ E N ops rest K (s.put d (.pp z.cells))):AQ E N ops (⟨d,.indexAddr t x y,T,p,af,none⟩::rest) K s:=by
 refine qfd rfl nofun fun B0 w0 G a w _ hI=>?_;subst hi;have he:=hI.eval_of hx;have u6:=hI.evalv hy;generalize hv:a.eval x=v at he;have b4:=lt_of_getElem? hz
 cases he with
 |sl0=>simp at hz
 |sl _ _ _ b off cap pub hp hw a7 d5 htip g7=>
  have ft:z.cells.length=sz:=hw z (List.mem_of_getElem? hz);have d8:=zt hw;have b0:(n+1) * sz≤xs.length * sz:=Nat.mul_le_mul_right _ b4;rw [Nat.succ_mul] at b0;refine⟨.pointer (some ⟨b,off+n * sz,none⟩),.pp z.cells,fun w' _=>?_,?_,h⟩
  ·generalize a.eval = ρ at hv u6
   simp only [execOp,hv,u6];simp [Instr.indexAt,asIntOf,run_underlying hu,b4,(vj ht w').1,Addr.add_lit]
  ·refine .pp _ b _ pub hp (by omega) fun j q r h1 h2=>?_
   have hj:j<sz:=by have:=lt_of_getElem? h1;omega
   have hf:=qmy hw hz j hj;exact d5 (n * sz+j) q r (by rw [hf];exact h1) (by rw [← h2];congr 1;omega)
theorem qkp {x y:Operand} {t e:TypeId} {sz:Nat} {agg:Bool} {o ver off len cp:Nat} {k:IntKind} {i:Int} {n:Nat} (hx:ql N s x = .os o ver off len cp) (hy:ql N s y = .v (.int k i)) (hu:E.P.underlying t=some (.slice e)) (ht:tyOf E.P e=some (sz,agg)) (hi:i=n) (hn:n<len)
  (h:AQ E N ops rest K (s.put d (.bx o ver (off+n * sz)))):AQ E N ops (⟨d,.indexAddr t x y,T,p,af,none⟩::rest) K s:=by
 refine qfd rfl nofun fun B0 w0 G a w _ hI=>?_;subst hi;have he:=hI.eval_of hx;have u6:=hI.evalv hy;generalize hv:a.eval x=v at he
 cases he with
 |os _ _ _ _ b cap fg p8 hb=>
  refine⟨.pointer (some ⟨b,off+n * sz,none⟩),_,fun w' _=>?_,.bx o ver _ b fg p8 hb,h⟩;generalize a.eval = ρ at hv u6;simp only [execOp,hv,u6];simp [Instr.indexAt,asIntOf,run_underlying hu,hn,(vj ht w').1,Addr.add_lit]
theorem qko {t:TypeId} {x:Operand} {f off sz:Nat} {agg:Bool} {o ver q:Nat} (hx:ql N s x = .bx o ver q) (hf:qbo E.P t f=some (off,sz,agg)) (d9:Nat.beq sz 0=false)
  (h:AQ E N ops rest K (s.put d (.bx o ver (q+off)))):AQ E N ops (⟨d,.fieldAddr t x f,T,p,af,none⟩::rest) K s:=by
 refine qfd rfl nofun fun B0 w0 G a w _ hI=>?_;have he:=hI.eval_of hx;generalize hv:a.eval x=v at he
 cases he with
 |bx _ _ _ b hn r9 hb=>
  have hs:sz≠0:=fun e=>by subst e;simp at d9
  exact⟨_,_,fun w' _=>by simp only [execOp,hv];simp [qhz hf hs],.bx o ver _ b hn r9 hb,h⟩
theorem qgl {t:TypeId} {x:Operand} {f off sz:Nat} {agg:Bool} {cs:List AV} (hx:ql N s x = .pp cs) (hf:qbo E.P t f=some (off,sz,agg)) (d9:Nat.beq sz 0=false) (b0:Nat.ble off cs.length=true)
  (h:AQ E N ops rest K (s.put d (.pp (cs.drop off)))):AQ E N ops (⟨d,.fieldAddr t x f,T,p,af,none⟩::rest) K s:=by
 refine qfd rfl nofun fun B0 w0 G a w _ hI=>?_;have he:=hI.eval_of hx;generalize hv:a.eval x=v at he
 cases he with
 |pp _ b q pub hp a7 d5=>
  have hs:sz≠0:=fun e=>by subst e;simp at d9
  have ho:off≤cs.length:=Nat.le_of_ble_eq_true b0;refine⟨.pointer (some ⟨b,q+off,none⟩),_,fun w' _=>by simp only [execOp,hv];simp [qhz hf hs],?_,h⟩;exact .pp _ b (q+off) pub hp (by simp;omega) fun i x y h1 h2=>d5 (off+i) x y (by simpa using h1) (by rw [← h2];congr 1;omega)
theorem qiu {x:Operand} {t:TypeId} {sz:Nat} {agg:Bool} {cs:List AV} {r:AV} (hx:ql N s x = .pp cs) (ht:tyOf E.P t=some (sz,agg)) (hr:j8 sz agg 0 cs=some r)
  (h:AQ E N ops rest K (s.put d r)):AQ E N ops (⟨d,.load t x,T,p,af,none⟩::rest) K s:=by
 refine qfd rfl nofun fun B0 w0 G a w _ hI=>?_;have he:=hI.eval_of hx;generalize hv:a.eval x=v at he
 cases he with
 |pp _ b off pub hp a7 d5=>
  obtain⟨c,T',fz,hc,mc⟩:=hI.agree.pub b pub hp;have b4:b<w.heap.size:=hI.agree.pub_lt hp
  have key:∀ w',Below w.heap.size w w'→∃ v,(loadVar t ⟨b,off,none⟩).run E.P w' = .ok v w'∧Rel G r v:=fun w' f9=>by
   have sf:w'.heap[b]? = some (.cells c T' fz):=by rw [f9.block _ b4];exact hc
   exact qbb (w:=w') (G:=G) (b:=b) (off:=off) ht (fun i x hx _=>by
    have hi:=lt_of_getElem? hx;have hy:pub[off+i]? = some (pub[off+i]'(by omega)):=List.getElem?_eq_getElem (by omega);refine⟨_,?_,d5 i x _ hx hy⟩
    simp [World.cell?,sf,mc _ _ hy]) hr
  have hg:∀ w',Below w.heap.size w w'→∀ j,j<cs.length→w'.cell? ⟨b,off+j,none⟩=some (pub.getD (off+j) undef):=fun w' f9 j hj=>by
   have sf:w'.heap[b]? = some (.cells c T' fz):=by rw [f9.block _ b4];exact hc
   have hlt2:off+j<pub.length:=by omega
   have hy:pub[off+j]? = some (pub.getD (off+j) undef):=by simp [List.getD,hlt2]
   simp [World.cell?,sf,mc _ _ hy]
  have fp:∀ w',Below w.heap.size w w'→∀ v,(loadVar t ⟨b,off,none⟩).run E.P w = .ok v w→(loadVar t ⟨b,off,none⟩).run E.P w' = .ok v w':=fun w' f9 v hr1=>by
   obtain⟨i1,i2⟩:=vj ht w;obtain⟨j1,j2⟩:=vj ht w';obtain⟨v',pq,_⟩:=key w' f9;rw [pq];congr 1
   cases agg with
   |false=>
    simp only [j8,cond_false] at hr;have h0:=lt_of_getElem? hr;have e1:=hg w (Below.refl _ _) 0 h0;have e2:=hg w' f9 0 h0;rw [Nat.add_zero] at e1 e2;simp [loadVar,i2,run_load,e1] at hr1;simp [loadVar,j2,run_load,e2] at pq
    rw [← pq,hr1]
   |true=>
    simp only [j8,cond_true] at hr
    cases i6:Nat.ble (0+sz) cs.length with
    |false=>rw [i6] at hr;simp at hr
    |true=>
     have b0:0+sz≤cs.length:=Nat.le_of_ble_eq_true i6;have l1:=run_loadCells (P:=E.P) (w:=w) ⟨b,off,none⟩ sz (fun j=>pub.getD (off+j) undef) (fun j hj=>by rw [Addr.add_lit];exact hg w (Below.refl _ _) j (by omega));have l2:=run_loadCells (P:=E.P) (w:=w') ⟨b,off,none⟩ sz (fun j=>pub.getD (off+j) undef) (fun j hj=>by rw [Addr.add_lit];exact hg w' f9 j (by omega));simp [loadVar,i1,i2,l1] at hr1;simp [loadVar,j1,j2,l2] at pq;rw [← pq,hr1]
  obtain⟨v,a4,hR⟩:=key w (Below.refl _ _);exact⟨v,r,fun w' f9=>by simp only [execOp,hv,Instr.loadAt,Instr.sureAddr];simp [fp w' f9 v a4],hR,h⟩
theorem q0v {x y:Operand} {t t':TypeId} {k:IntKind} {m n r:Int} (hx:ql N s x = .v (.int k m)) (hy:ql N s y = .v (.int k n)) (hr:k.wrap (m - n)=r)
  (h:AQ E N ops rest K (s.put d (.v (.int k r)))):AQ E N ops (⟨d,.binOp .sub t x y t',T,p,af,none⟩::rest) K s:=
 qbu _ rfl nofun (fun a w he=>by rw [← hr];simp [execOp,he _ _ hx,he _ _ hy,eqGuard_at_int,binOp,Op.intArith]) h
theorem qv8 {x y z:Operand} {t:TypeId} {k k':IntKind} {l:List UInt8} {i j:Nat} (hx:ql N s x=Sv l) (hy:ql N s y = .v (.int k' (i:Int))) (hz:ql N s z = .v (.int k (j:Int))) (hu:E.P.underlying t=some .string) (h1:i≤j) (h2:j≤l.length)
  (h:AQ E N ops rest K (s.put d (Sv ((l.take j).drop i)))):AQ E N ops (⟨d,.slice t x (some y) (some z) none,T,p,af,none⟩::rest) K s:=
 qr5 (i:=i) (j:=j) hx hu ⟨_,hy⟩ ⟨_,hz⟩ (by omega) (by omega) (by omega) (by simpa using h)
theorem qv6 {x:Operand} {ts:Array TypeId} {t0 e:TypeId} {v:AV} {n:Nat} (hx:ql N s x=v) (hl:lenA v=some n) (ht:ts[0]? = some t0) (hu:E.P.underlying t0=some (.slice e))
  (h:AQ E N ops rest K (s.put d (Iv n))):AQ E N ops (⟨d,.call ⟨.builtin .len,#[x],ts⟩,T,p,af,none⟩::rest) K s:=by
 refine qfd rfl nofun fun B0 w0 G a w _ hI=>?_;have he:=hI.eval_of hx
 have key:∃ b c,a.eval x = .slice b n c:=by
  generalize a.eval x=u at he
  cases he <;> simp [lenA] at hl
  case v y=>
   cases u <;> simp at hl
   subst hl;exact⟨_,_,rfl⟩
  case sl0=>subst hl;exact⟨_,_,rfl⟩
  case sl=>subst hl;exact⟨_,_,rfl⟩
  case os=>subst hl;exact⟨_,_,rfl⟩
 obtain⟨b,c,hv⟩:=key;refine⟨.int .i64 n,Iv n,fun w' _=>?_,.v _,h⟩;generalize a.eval = ρ at hv;simp [execOp,resolve,invoke,builtin,Builtin.len_,hv,ht,run_underlying hu,goInt]
theorem qll {x:Operand} {t:TypeId} {sz:Nat} {agg:Bool} {st loc ext new:List AObj} {k ver off:Nat} {T':TypeId} {cs:List AV} {r:AV} (hs:s.st=((st++loc)++ext)++new) (hx:ql N s x = .bx (st.length+k) ver off) (ho:loc[k]? = some (.cells ver T' cs)) (ht:tyOf E.P t=some (sz,agg)) (hr:j8 sz agg off cs=some r)
  (h:AQ E N ops rest K (s.put d r)):AQ E N ops (⟨d,.load t x,T,p,af,none⟩::rest) K s:=
 qtm hx (by rw [hs];exact qba ho) ht hr h
end
end Go.Av
namespace Go.Av
open Go Go.RowKit
section
variable {B0 : Nat} {w0 : World} {G : Gh} {st : List AObj} {w : World}
theorem zk.pubOb (h:zk B0 w0 G st w) {o ver:Nat} {T:TypeId} {cs:List AV} (ho:st[o]? = some (.cells ver T cs)) :
  ∃ vs:List Value,G.le (G.publish (G.ob o).blk vs)∧zk B0 w0 (G.publish (G.ob o).blk vs) (st.set o .dead) w∧(G.ob o).ver=ver∧(G.publish (G.ob o).blk vs).pub (G.ob o).blk=some vs∧cs.length=vs.length ∧
   ∀ (i:Nat) (x:AV) (y:Value),cs[i]? = some x→vs[i]? = some y→Rel (G.publish (G.ob o).blk vs) x y:=by
 obtain⟨h0,h1,h2,h3,c,h4,h5,h6⟩:=h.ob o _ ho;have b0:G.le (G.publish (G.ob o).blk c.toList):=G.le_publish _ _ [] [] (.inl h3);refine⟨c.toList,b0,?_,h1,by simp [Gh.publish],by simpa using h5,fun i x y hx hy=>(h6 i x y hx (by simpa using hy)).mono b0⟩
 have key:∀ (k:Nat) (x:AObj),(st.set o .dead)[k]? = some x→x = .dead∨(k≠o∧st[k]? = some x):=fun k x hx=>by
  rcases getElem?_set' _ _ _ _ _ hx with⟨_,e⟩|e
  ·exact .inl e
  ·exact .inr e
 refine⟨h.below,h.hB,by simp [h.n,Gh.publish],fun b vs hb=>?_,fun k x hx=>?_,fun k k' x x' a6 hx c9 hl m0=>?_⟩
 ·simp only [Gh.publish] at hb
  by_cases e:b=(G.ob o).blk
  ·rw [if_pos e] at hb
   cases hb
   subst e;exact⟨c,T,(0,0),h4,fun i y hy=>by simpa using hy⟩
  ·rw [if_neg e] at hb
   exact h.pub b vs hb
 ·rcases key k x hx with rfl | ⟨hk,hx⟩
  ·trivial
  ·refine (h.ob k x hx).mono b0 rfl (fun hl=>?_) (fun _=>rfl)
   have:=h.sep k o x _ hk hx ho hl trivial;simp [Gh.publish,this]
 ·rcases key k x hx with rfl | ⟨hk,hx⟩
  ·exact hl.elim
  ·rcases key k' x' c9 with rfl | ⟨l9,c9⟩
   ·exact m0.elim
   ·exact h.sep k k' x x' a6 hx c9 hl m0
end
section
variable {E : Env} {rd : Option Nat} {N : Nat} {ops : Array Oper} {K : AS → Prop} {s : AS} {rest : List Oper} {d : Option Tmp} {T : TypeId} {p : String} {af : Array Edge}
theorem Inv.pub {B0:Nat} {w0:World} {G:Gh} {a:Act} {w:World} (h:Inv B0 w0 N G s a w) {i o ver:Nat} {T':TypeId} {cs:List AV} (hi:s.t i = .bx o ver 0) (ho:s.st[o]? = some (.cells ver T' cs)) :
  ∃ G',G.le G'∧Inv B0 w0 N G' ⟨Av.put s.t i (.pp cs),s.st.set o .dead,s.df⟩ a w:=by
 obtain⟨vs,b0,hA,hv,hp,hl,hr⟩:=h.agree.pubOb ho;refine⟨_,b0,hA,h.defers_mono b0,h.size,fun j y hy=>?_⟩;have hj:=h.tmps j y hy;by_cases e:j=i
 ·subst e
  simp only [xd];rw [hi] at hj
  cases hj with
  |bx _ _ _ b hn r9 hb=>
   have hb:=hb hv;subst hb;exact .pp cs _ 0 vs hp (by omega) fun k x y hx hy=>hr k x y hx (by simpa using hy)
 ·simp only
  rw [qab _ _ _ _ e];exact hj.mono b0
theorem qeh {x y:Operand} {t:TypeId} {sz:Nat} {agg:Bool} {st loc loc' ext new:List AObj} {k ver off:Nat} {T':TypeId} {cs xs:List AV} {r:AV} (hs:s.st=((st++loc)++ext)++new) (hx:ql N s x = .bx (st.length+k) ver off) (hy:ql N s y=r) (ho:loc[k]? = some (.cells ver T' cs)) (ht:tyOf E.P t=some (sz,agg))
  (hok:r.okc=true) (hc:r.cells=xs) (d9:Nat.beq xs.length sz=true) (h1:j7 xs=true) (d3:Nat.ble (off+sz) cs.length=true) (hl:loc'=loc.set k (.cells ver T' (zx cs off xs)))
  (h:AOps E rd N ops rest K (AS.put ⟨s.t,((st++loc')++ext)++new,s.df⟩ d (.v undef))):AOps E rd N ops (⟨d,.store t x y,T,p,af,none⟩::rest) K s:=by
 have hk:=lt_of_getElem? ho;exact y4 hx hy (by rw [hs];exact qba ho) ht hok hc d9 h1 d3 (by rw [hs,qex _ hk,← hl];exact h)
end
theorem qdc {α : Type} (l:List α) (a : α):(l++[a]).length=l.length+1:=by simp
theorem qg8 {α : Type} (l:List α) (a : α):Iv ((l.length:Int)+1)=Iv ((l++[a]).length:Nat):=by rw [qdc];rfl
theorem zfx {α : Type} {sz:Nat} {tip:Option Nat} (x0:AV) (g : α→AV) (pre:List α) (a : α) (v:AV) (h:v=g a):AV.sl sz ((x0::pre.map g)++[v]) tip=AV.sl sz (x0::(pre++[a]).map g) tip:=by rw [List.map_append,h];rfl
theorem q37 {E:Env} {rd:Option Nat} {N:Nat} {ops:Array Oper} {K:AS→Prop} {s:AS} {rest:List Oper} {d:Option Tmp} {T:TypeId} {p:String} {af:Array Edge} {t:TypeId} {st loc:List AObj} {cs:List AV} {n:Nat} (b7:s.st=st++loc) (hn:st.length=n) (hz:qji E.P t=some cs)
  (h:AOps E rd N ops rest K (AS.put ⟨s.t,st++(loc++[.cells 0 t cs]),s.df⟩ d (.bx (n+loc.length) 0 0))):AOps E rd N ops (⟨d,.alloc t,T,p,af,none⟩::rest) K s:=by
 subst hn;exact jw b7 hz h
theorem qtj {E:Env} {rd:Option Nat} {N:Nat} {ops:Array Oper} {K:AS→Prop} {s:AS} {rest:List Oper} {d:Option Tmp} {T:TypeId} {p:String} {af:Array Edge} {x y:Operand} {t:TypeId} {sz:Nat} {agg:Bool} {st loc ext new:List AObj} {k ver off:Nat} {T':TypeId} {cs xs:List AV} {r:AV} (hs:s.st=((st++loc)++ext)++new) (hx:ql N s x = .bx (st.length+k) ver off) (hy:ql N s y=r) (ho:loc[k]? = some (.cells ver T' cs)) (ht:tyOf E.P t=some (sz,agg))
  (hok:r.okc=true) (hc:r.cells=xs) (d9:xs.length=sz) (h1:j7 xs=true) (d3:off+sz≤cs.length)
  (h:AOps E rd N ops rest K (AS.put ⟨s.t,((st++loc.set k (.cells ver T' (zx cs off xs)))++ext)++new,s.df⟩ d (.v undef))):AOps E rd N ops (⟨d,.store t x y,T,p,af,none⟩::rest) K s:=by
 have hk:=lt_of_getElem? ho;exact qgk hx hy (by rw [hs];exact qba ho) ht hok hc d9 (by simpa [j7] using h1) d3 (by rw [hs,qex _ hk];exact h)
theorem qbv {E:Env} {rd:Option Nat} {N:Nat} {c:Code} {Q:Exit→AS→Prop} {s:AS} {α : Type} (xs:List α) (I:List α→AS→Prop) (h0:I [] s) (bf:∀ s,I xs s→AWp E rd N c (qz8 (fun _=>False) Q) s)
  (hstep:∀ pre a rest s,xs=pre++a::rest→I pre s→AWp E rd N c (qz8 (fun s'=>I (pre++[a]) s') Q) s):AWp E rd N (.loop c) Q s:=by
 refine jv (fun (x:List α×List α) s=>xs=x.1++x.2∧I x.1 s) (fun x=>x.2.length) ([],xs) ⟨rfl,h0⟩ ?_;rintro⟨pre,rest⟩ s ⟨hx,hi⟩
 cases rest with
 |nil=>
  simp only [List.append_nil] at hx;subst hx;refine (bf s hi).mono fun e s' h=>?_
  cases e with
  |normal=>exact h.elim
  | _=>exact h
 |cons a rest=>
  refine (hstep pre a rest s hx hi).mono fun e s' h=>?_
  cases e with
  |normal=>exact⟨(pre++[a],rest),⟨by rw [hx];simp,h⟩,by simp⟩
  | _=>exact h
theorem qzi {E:Env} {fn:Func} {R:AV→List AObj→Prop} {s:AS} {st loc ext new:List AObj} {k:Nat} {ds:List Nat} (hs:s.st=((st++loc)++ext)++new) (hd:s.df=(st.length+k)::ds) (ho:loc[k]? = some .dfr) (h:ARet E fn R ⟨s.t,((st++loc.set k .dead)++ext)++new,ds⟩):ARet E fn R s:=
 qom hd (by rw [hs];exact qba ho) (by rw [hs,qex _ (lt_of_getElem? ho)];exact h)
@[reducible] def zcc (F : LoopState → Option Code → AObj) (st : List AObj) (own : AObj) (I : List AObj → Prop) (D : Code → List AObj → Prop) : Exit → AS → Prop
 | .normal,s=>∃ l ext new,s.st=((st++(l++[.dfr,F .busy none,own]))++ext)++new∧I l
 | .ret,s=>∃ l ext new,s.st=((st++(l++[.dfr,F .busy none,own]))++ext)++new∧D .ret l
 | .exit id,s=>∃ l ext new,s.st=((st++(l++[.dfr,F .busy none,own]))++ext)++new∧D (.exit id) l
 | _,_=>False
theorem q4d {E:Env} {o:Nat} {xs:List AV} {st st':List AObj} {R:Bool→List AObj→Prop} (e:st=st') (h:y9 E o xs st R):y9 E o xs st' R:=e▸h
theorem qd4 {st l ext:List AObj} {a b c:AObj} {n:Nat} (hl:l.length=n):(((st++(l++[a,b,c]))++ext))[st.length+(n+1)]? = some b:=by
 subst hl;rw [List.append_assoc,List.append_assoc,List.getElem?_append_right (by omega),Nat.add_sub_cancel_left,List.getElem?_append_right (by omega)];simp
theorem qga {st l ext:List AObj} {a b c y:AObj} {n:Nat} (hl:l.length=n):((st++(l++[a,b,c]))++ext).set (st.length+(n+1)) y=(st++(l++[a,y,c]))++ext:=by
 subst hl;rw [List.append_assoc,List.append_assoc,List.set_append_right _ _ (by omega),Nat.add_sub_cancel_left,List.set_append_right _ _ (by omega)];simp
theorem zdm {E:Env} {N:Nat} {t:Nat→AV} {ps:Array Tmp} {asg body:Code} {st l ext:List AObj} {own:AObj} {n:Nat} {xs:List AV} {F:LoopState→Option Code→AObj} {I:List AObj→Prop} {D:Code→List AObj→Prop} (hF:qmi F N t ps asg body) (hl:l.length=n) (pg:ps.size=xs.length)
  (hI:∀ l,I l→l.length=n) (hD:∀ c l,D c l→l.length=n)
  (h:∀ rd,AWp E (some rd) N asg (only fun s1=>∃ new,s1.st=((st++(l++[.dfr,F .ready none,own]))++ext)++new∧s1.df=[]∧AWp E (some rd) N body (zcc F st own I D) ⟨s1.t,((st++(l++[.dfr,F .busy none,own]))++ext)++new,[]⟩) ⟨qlg t (ps.toList.zip xs),((st++(l++[.dfr,F .ready none,own]))++ext)++[],[]⟩) :
  y9 E (st.length+(n+1)) xs ((st++(l++[.dfr,F .ready none,own]))++ext) fun b st2=>∃ l' ext',(b=true→st2=(st++(l'++[.dfr,F .ready none,own]))++ext'∧I l')∧(b=false→∃ c,st2=(st++(l'++[.dfr,F .done (some c),own]))++ext'∧D c l'):=by
 refine qr7 hF (qd4 hl) pg fun rd=>?_;have h:=h rd;rw [List.append_nil] at h;refine h.mono fun e s1 hq=>?_
 cases e with
 |normal=>
  obtain⟨new,h1,h2,h3⟩:=hq;refine⟨by rw [h1,List.append_assoc];exact qd4 hl,h2,?_⟩
  have e:s1.st.set (st.length+(n+1)) (F .busy none)=((st++(l++[.dfr,F .busy none,own]))++ext)++new:=by
   rw [h1,List.append_assoc,qga hl,List.append_assoc _ ext]
  rw [e];refine h3.mono fun e s2 cj=>?_
  cases e with
  |normal=>
   obtain⟨l',ext',new',k1,k2⟩:=cj
   exact⟨by rw [k1,List.append_assoc];exact qd4 (hI _ k2),l',ext'++new',fun _=>⟨by rw [k1,List.append_assoc,qga (hI _ k2)],k2⟩,nofun⟩
  |ret=>
   obtain⟨l',ext',new',k1,k2⟩:=cj
   exact⟨by rw [k1,List.append_assoc];exact qd4 (hD _ _ k2),l',ext'++new',nofun,fun _=>⟨_,by rw [k1,List.append_assoc,qga (hD _ _ k2)],k2⟩⟩
  |exit id=>
   obtain⟨l',ext',new',k1,k2⟩:=cj
   exact⟨by rw [k1,List.append_assoc];exact qd4 (hD _ _ k2),l',ext'++new',nofun,fun _=>⟨_,by rw [k1,List.append_assoc,qga (hD _ _ k2)],k2⟩⟩
  | _=>exact cj.elim
 | _=>exact hq.elim
end Go.Av
namespace Go.Pl
open Go Go.Proofs
abbrev Fld:=qa×qa
def qce (s:qa):Prop:=∀ c∈s,wp c
instance (s:qa):Decidable (qce s):=inferInstanceAs (Decidable (∀ c∈s,wp c))
def v8 (s:qa):qa:=if qce s∨s.head? = some 46 then 46::s else s
def kf (key p:qa):qa:=key++[58]++if p=[] then [] else [32]++p
def zm (f:Fld):List qa:=kf f.1 ((q7 f.2).headD [])::(q7 f.2).tail.map fun s=>[32]++v8 s
def zi (ls:List qa):qa:=ls.flatMap fun s=>s++[10]
def zu (xs:List Fld):qa:=xs.flatMap fun f=>zi (zm f)
def vd (f:Fld):Int:=if ¬ qal f.1 then 5 else if 1000<f.2.length then 6 else 0
def ka (f:Fld):Prop:=qal f.1∧f.2.length≤1000
instance (f:Fld):Decidable (ka f):=inferInstanceAs (Decidable (_∧_))
theorem qdj (f:Fld):vd f=0↔ka f:=by
 unfold vd ka;by_cases h:qal f.1
 ·by_cases h2:1000<f.2.length
  ·simp [h,h2]
  ·simp [h,h2];omega
 ·simp [h]
def wv (c:UInt8) (l:qa):qa:=if l.head? = some c then l.drop 1 else l
theorem qxc (c:UInt8) (l:qa):Lib.trimPrefix l [c]=wv c l:=by
 unfold Lib.trimPrefix wv;rw [qn5];simp
def qbj (l:qa) (r:List qa):qa:=wv 32 (kr l)++r.flatMap fun s=>[10]++wv 46 (s.drop 1)
def qs7 (ls:List qa):Prop:=ls≠[]∧qv (ls.headD [])=4∧∀ s∈ls.tail,qv s=3
instance (ls:List qa):Decidable (qs7 ls):=inferInstanceAs (Decidable (_∧_∧_))
def zr (ls:List qa):Fld×Int:=
 if qs7 ls then
  if 1000<(qbj (ls.headD []) ls.tail).length then (([],[]),6) else ((z6 (ls.headD []),qbj (ls.headD []) ls.tail),0)
 else (([],[]),2)
theorem qgt (l:qa):q7 l≠[]:=by
 by_cases h:10∈l
 ·rw [yp h];simp
 ·rw [yq h];simp
theorem qni (l:qa):q7 l=(q7 l).headD []::(q7 l).tail:=by
 cases h:q7 l with
 |nil=>exact absurd h (qgt l)
 |cons a r=>rfl
theorem qi9:∀ (n:Nat) (l:qa),l.length≤n→(q7 l).headD []++(q7 l).tail.flatMap (fun s=>[10]++s)=l
 |n,l,hn=>by
  by_cases h:10∈l
  ·rw [yp h]
   have a6:l≠[]:=fun e=>by subst e;simp at h
   have b4:=xq (c:=10) a6
   cases n with
   |zero=>omega
   |succ n=>
    have ih:=qi9 n (past 10 l) (by omega);simp only [List.headD_cons,List.tail_cons];rw [qni (past 10 l)];simp only [List.flatMap_cons];rw [List.append_assoc,ih];have:=wg h;simp [← this]
  ·rw [yq h];simp
theorem qeq (l:qa):∀ x∈q7 l,10∉x:=fun x hx=>(qil l.length l (Nat.le_refl _) x hx).2
theorem qe9 (l:qa):∀ x∈q7 l,x.length≤l.length:=fun x hx=>(qil l.length l (Nat.le_refl _) x hx).1
theorem qsi (l:qa):(q7 l).headD []∈q7 l:=by
 have h:=qgt l
 cases e:q7 l with
 |nil=>exact absurd e h
 |cons a r=>simp
theorem q5t (s:qa):wv 46 (v8 s)=s:=by
 unfold v8 wv;by_cases h:qce s∨s.head? = some 46
 ·rw [if_pos h];simp
 ·rw [if_neg h,if_neg (fun h'=>h (.inr h'))]
theorem qw5 (s:qa):¬ qce (v8 s):=by
 unfold v8;by_cases h:qce s∨s.head? = some 46
 ·rw [if_pos h]
  intro h';have:=h' 46 (by simp);revert this;decide
 ·rw [if_neg h]
  exact fun h'=>h (.inl h')
theorem qvt {s:qa} (h:10∉s):10∉v8 s:=by
 unfold v8;split
 ·simp [h]
 ·exact h
theorem qy6 (s:qa):(v8 s).length≤s.length+1:=by
 unfold v8;split <;> simp
theorem qyi (s:qa) (h:10∉s):qv ([32]++v8 s)=3:=by
 have hn:=qvt h;have hb:=qw5 s;unfold qv;have b9:10∉([32]++v8 s):=by simp [hn]
 rw [if_neg b9,if_neg (fun h'=>hb fun c hc=>h' c (by simp [hc])),if_neg (by simp),if_pos ⟨32,by simp,.inl rfl⟩]
theorem qlq {k r:qa} (h:58∉k):z6 (k++[58]++r)=k:=by
 unfold z6
 induction k with
 |nil=>simp
 |cons a k ih=>
  simp only [List.mem_cons,not_or] at h;have:(58:UInt8)≠a:=h.1;simp only [List.cons_append,List.takeWhile_cons];rw [if_pos (by simpa using fun e=>this e.symm)];rw [ih h.2]
theorem q3k {k r:qa} (h:58∉k):kr (k++[58]++r)=r:=by
 unfold kr;rw [qlq h];rw [List.drop_append_of_le_length (by simp)];simp
theorem qk5 {k:qa} (h:qal k):∃ c,k.head? = some c∧¬ wp c∧c≠35:=by
 obtain⟨h1,h2,h3,h4,h5,h6⟩:=h
 cases k with
 |nil=>exact absurd rfl h1
 |cons a r=>exact⟨a,rfl,fun hb=>h3 ⟨a,rfl,hb⟩,fun e=>h4 (by simp [e])⟩
theorem qyh {k p:qa} (h:qal k) (hp:10∉p):qv (kf k p)=4:=by
 obtain⟨c,hc,hb,h35⟩:=qk5 h;have hk10:10∉k:=h.2.2.2.2.2;have hk58:58∉k:=h.2.2.2.2.1
 have hh:(kf k p).head? = some c:=by
  unfold kf
  cases k with
  |nil=>simp at hc
  |cons a r=>simpa using hc
 have e:kf k p=k++[58]++(if p=[] then [] else [32]++p):=rfl
 have b9:10∉kf k p:=by
  rw [e];split <;> simp [hk10,hp]
 have mt:c∈kf k p:=List.mem_of_head? hh;unfold qv;rw [if_neg b9,if_neg (fun h'=>hb (h' c mt)),if_neg (by rw [hh];simpa using h35),if_neg (fun ⟨d,hd,s9⟩=>by rw [hh] at hd;cases hd;exact hb s9)];rw [if_pos];refine⟨by rw [e];simp,?_⟩;rw [e,qlq hk58];exact h
theorem za0 (k p:qa) (h:58∉k):wv 32 (kr (kf k p))=p:=by
 unfold kf;rw [q3k h];by_cases hp:p=[]
 ·rw [if_pos hp];simp [wv,hp]
 ·rw [if_neg hp];simp [wv]
theorem qn6 {f:Fld} (h:ka f):zr (zm f)=(f,0):=by
 obtain⟨hk,hv⟩:=h;have hk58:58∉f.1:=hk.2.2.2.2.1;have b9:=qeq f.2
 have nj:qbj (kf f.1 ((q7 f.2).headD [])) ((q7 f.2).tail.map fun s=>[32]++v8 s)=f.2:=by
  unfold qbj;rw [za0 _ _ hk58]
  have:((q7 f.2).tail.map fun s=>[32]++v8 s).flatMap (fun s=>[10]++wv 46 (s.drop 1))=(q7 f.2).tail.flatMap (fun s=>[10]++s):=by
   rw [List.flatMap_map];congr 1;funext s;simp [q5t]
  rw [this,qi9 _ _ (Nat.le_refl _)]
 unfold zr zm;rw [if_pos]
 ·simp only [List.headD_cons,List.tail_cons]
  refine (if_neg (by rw [nj];omega)).trans ?_;have:z6 (kf f.1 ((q7 f.2).headD []))=f.1:=qlq hk58;rw [this,nj]
 ·refine⟨by simp,?_,?_⟩
  ·simp only [List.headD_cons]
   exact qyh hk (b9 _ (qsi _))
  ·intro s hs
   simp only [List.tail_cons,List.mem_map] at hs;obtain⟨x,hx,rfl⟩:=hs;exact qyi x (b9 x (List.mem_of_mem_tail hx))
end Go.Pl
namespace Go.Av
open Go Go.RowKit
section
variable {E : Env} {rd : Option Nat} {N : Nat} {ops : Array Oper} {K : AS → Prop} {s : AS} {rest : List Oper} {d : Option Tmp} {T : TypeId} {p : String} {af : Array Edge}
theorem qbe {t e:TypeId} {len sz:Nat} {agg:Bool} {parts:Array (Nat×Operand)} {zs cs:List AV} {st loc:List AObj} (b7:s.st=st++loc) (hu:E.P.underlying t=some (.slice e)) (ht:tyOf E.P e=some (sz,agg)) (hz:qg0 E.P e len=some zs)
  (hf:qc7 (fun i=>some (i * sz,sz)) zs (wd N s parts)=some cs) (d9:Nat.ble (len * sz) 16777216=true)
  (h:AOps E rd N ops rest K (AS.put ⟨s.t,st++(loc++[.cells 0 e cs]),s.df⟩ d (.os (st.length+loc.length) 0 0 len len))):AOps E rd N ops (⟨d,.buildSlice t len parts,T,p,af,none⟩::rest) K s:=by
 refine za rfl (q8 nofun fun B0 w0 G a w _ hI=>?_);obtain⟨c',a4,h2⟩:=qlz (d:=d) (T:=T) (p:=p) (af:=af) hI hu ht hz hf d9;have hA:=hI.agree.newCells e c' cs h2.1 h2.2;have hn:=hI.agree.n;rw [b7] at hA hn;simp only [List.append_assoc,List.length_append] at hA hn;exact⟨_,_,_,_,_,a4,G.le_new _ _ _ _,hA,.os _ _ _ _ _ _ (by simp [Gh.new,hn]) (Nat.zero_le _) (fun _=>by simp [Gh.new,hn]),h⟩
theorem zk.ownTip {B0:Nat} {w0:World} {G:Gh} {st:List AObj} {w:World} (h:zk B0 w0 G st w) {o sz len cap:Nat} {T:TypeId} {cs:List AV} {xs:List AV} (ho:st[o]? = some (.cells 0 T cs)) (hc:cs.length=cap * sz) (a7:xs.length=len) (h0:0<len) (b0:len≤cap) (gl:cap≤maxLen) (hw:∀ x∈xs,x.cells.length=sz) (d8:flat xs=cs.take (len * sz)) :
  ∃ G',G.le G'∧zk B0 w0 G' (st.set o (.tip len sz T)) w∧Rel G' (.sl sz xs (some o)) (.slice (some ⟨(G.ob o).blk,0,none⟩) len cap):=by
 subst a7;have gc:=lt_of_getElem? ho;obtain⟨g0,g1,g2,g3,c,g4,g5,g6⟩:=h.ob o _ ho;have i7:G.le (G.publish (G.ob o).blk (c.toList.take (xs.length * sz))):=G.le_publish _ _ [] [] (.inl g3)
 -- dead, published
 have key:∀ (k:Nat) (x:AObj),(st.set o .dead)[k]? = some x→x = .dead∨(k≠o∧st[k]? = some x):=fun k x hx=>by
  rcases getElem?_set' _ _ _ _ _ hx with⟨_,e⟩|e
  ·exact .inl e
  ·exact .inr e
 have bw:zk B0 w0 (G.publish (G.ob o).blk (c.toList.take (xs.length * sz))) (st.set o .dead) w:=by
  refine⟨h.below,h.hB,by simp [h.n,Gh.publish],fun b vs hb=>?_,fun k x hx=>?_,fun k k' x x' a6 hx c9 hl m0=>?_⟩
  ·simp only [Gh.publish] at hb
   by_cases e:b=(G.ob o).blk
   ·rw [if_pos e] at hb
    cases hb
    subst e;refine⟨c,T,(0,0),g4,fun i y hy=>?_⟩;rw [List.getElem?_take] at hy;split at hy
    ·simpa using hy
    ·simp at hy
   ·rw [if_neg e] at hb
    exact h.pub b vs hb
  ·rcases key k x hx with rfl | ⟨hk,hx⟩
   ·trivial
   ·refine (h.ob k x hx).mono i7 rfl (fun hl=>?_) (fun _=>rfl)
    have:=h.sep k o x _ hk hx ho hl trivial;simp [Gh.publish,this]
  ·rcases key k x hx with rfl | ⟨hk,hx⟩
   ·exact hl.elim
   ·rcases key k' x' c9 with rfl | ⟨l9,c9⟩
    ·exact m0.elim
    ·exact h.sep k k' x x' a6 hx c9 hl m0
 have pm:(c.toList.take (xs.length * sz)).length=xs.length * sz:=by
  have:xs.length * sz≤cap * sz:=Nat.mul_le_mul_right _ b0;simp;omega
 obtain⟨n4,ck⟩:=bw.setTip (t:=o) (n:=0) (n':=xs.length) (k:=(G.ob o).blk) (cap:=c.size) (sz:=sz) (T:=T) (c:=c) (vs:=c.toList.take (xs.length * sz)) (by simp [gc]) g0 g1 h0 g4 (by simp [Gh.publish]) pm rfl g2 (fun k x hx hl=>by
  rcases key k x hx with rfl | ⟨hk,hx⟩
  ·exact hl.elim
  ·exact h.sep k o x _ hk hx ho hl trivial)
 rw [List.set_set] at ck;refine⟨_,i7.trans n4,ck,?_⟩;have hgn:o<G.n:=by rw [h.n];exact gc
 refine .sl sz xs (some o) (G.ob o).blk 0 cap (c.toList.take (xs.length * sz)) (by simp [Gh.setOb,Gh.publish]) hw (by rw [d8,pm];simp;omega) (fun i x y h1 h2=>?_) (fun t ht=>?_) (by omega)
 ·rw [d8] at h1
  rw [Nat.zero_add] at h2;rw [List.getElem?_take] at h1 h2;split at h1
  ·rename_i hi
   rw [if_pos hi] at h2;exact ((g6 i x y h1 (by simpa using h2)).mono i7).mono n4
  ·simp at h1
 ·simp only [Option.some.injEq] at ht
  subst ht;refine⟨by simpa [Gh.setOb,Gh.publish] using hgn,by omega,by simp [Gh.setOb],fun _=>⟨by simp [Gh.setOb],rfl,by simp [Gh.setOb,← g5,hc],gl,by omega⟩⟩
theorem Inv.osTip {B0:Nat} {w0:World} {G:Gh} {a:Act} {w:World} (h:Inv B0 w0 N G s a w) {i o sz len cap:Nat} {T':TypeId} {cs xs:List AV} (hi:s.t i = .os o 0 0 len cap) (ho:s.st[o]? = some (.cells 0 T' cs)) (hc:cs.length=cap * sz) (a7:xs.length=len) (h0:0<len) (b0:len≤cap) (gl:cap≤maxLen) (hw:∀ x∈xs,x.cells.length=sz) (d8:flat xs=cs.take (len * sz)) :
  ∃ G',G.le G'∧Inv B0 w0 N G' ⟨Av.put s.t i (.sl sz xs (some o)),s.st.set o (.tip len sz T'),s.df⟩ a w:=by
 obtain⟨G',hG,hA,hR⟩:=h.agree.ownTip ho hc a7 h0 b0 gl hw d8;obtain⟨_,g1,_⟩:=h.agree.ob o _ ho;refine⟨G',hG,hA,h.defers_mono hG,h.size,fun j y hy=>?_⟩;have hj:=h.tmps j y hy;by_cases e:j=i
 ·subst e
  simp only [xd];rw [hi] at hj
  cases hj with
  |os _ _ _ _ b _ hn hv hb=>
   have hb:=hb g1;subst hb;exact hR
 ·simp only
  rw [qab _ _ _ _ e];exact hj.mono hG
theorem q9y {c:Code} {Q:Exit→AS→Prop} (i:Nat) {o sz len cap:Nat} {T':TypeId} {cs xs:List AV} (hi:s.t i = .os o 0 0 len cap) (ho:s.st[o]? = some (.cells 0 T' cs)) (hc:cs.length=cap * sz) (a7:xs.length=len) (h0:0<len) (b0:len≤cap) (gl:cap≤maxLen) (hw:∀ x∈xs,x.cells.length=sz) (d8:flat xs=cs.take (len * sz))
  (h:AWp E rd N c Q ⟨Av.put s.t i (.sl sz xs (some o)),s.st.set o (.tip len sz T'),s.df⟩):AWp E rd N c Q s:=
 ⟨fun B0 w0 G a w hL hI=>let ⟨G1,h1,h2⟩:=hI.osTip hi ho hc a7 h0 b0 gl hw d8;wpIn_mono (h.run B0 w0 _ a w hL h2) fun _ _ _ ⟨G',s',hG,k1,k2⟩=>⟨G',s',h1.trans hG,k1,k2⟩⟩
theorem q7j {l:List Oper} (i:Nat) {o sz len cap:Nat} {T':TypeId} {cs xs:List AV} (hi:s.t i = .os o 0 0 len cap) (ho:s.st[o]? = some (.cells 0 T' cs)) (hc:cs.length=cap * sz) (a7:xs.length=len) (h0:0<len) (b0:len≤cap) (gl:cap≤maxLen) (hw:∀ x∈xs,x.cells.length=sz) (d8:flat xs=cs.take (len * sz))
  (h:AOps E rd N ops l K ⟨Av.put s.t i (.sl sz xs (some o)),s.st.set o (.tip len sz T'),s.df⟩):AOps E rd N ops l K s:=
 ⟨fun B0 w0 G a w hL hI Q hQ=>let ⟨G1,h1,h2⟩:=hI.osTip hi ho hc a7 h0 b0 gl hw d8;h.run B0 w0 _ a w hL h2 Q fun G' s' a' w' hG k1 k2=>hQ G' s' a' w' (h1.trans hG) k1 k2⟩
theorem Inv.osPub {B0:Nat} {w0:World} {G:Gh} {a:Act} {w:World} (h:Inv B0 w0 N G s a w) {i o ver off sz len cap:Nat} {T':TypeId} {cs xs:List AV} (hi:s.t i = .os o ver off len cap) (ho:s.st[o]? = some (.cells ver T' cs)) (a7:xs.length=len) (b0:len≤cap) (hw:∀ x∈xs,x.cells.length=sz) (pd:off+len * sz≤cs.length) (d8:flat xs=(cs.drop off).take (len * sz)) :
  ∃ G',G.le G'∧Inv B0 w0 N G' ⟨Av.put s.t i (.sl sz xs none),s.st.set o .dead,s.df⟩ a w:=by
 obtain⟨vs,i7,hA,hv,hp,hl,hr⟩:=h.agree.pubOb ho;refine⟨_,i7,hA,h.defers_mono i7,h.size,fun j y hy=>?_⟩;have hj:=h.tmps j y hy;by_cases e:j=i
 ·subst e
  simp only [xd];rw [hi] at hj
  cases hj with
  |os _ _ _ _ b _ hn r9 hb=>
   have hb:=hb hv;subst hb;rw [← a7];refine .sl sz xs none _ off cap vs hp hw (by rw [d8];simp;omega) (fun k x y hx hy=>?_) (fun t ht=>by simp at ht) (by omega);rw [d8,List.getElem?_take] at hx;split at hx
   ·rw [List.getElem?_drop] at hx
    exact hr _ x y hx hy
   ·simp at hx
 ·simp only
  rw [qab _ _ _ _ e];exact hj.mono i7
theorem q9s {l:List Oper} (i:Nat) {x r:AV} (hi:s.t i=x) (hw:∀ G v,Rel G x v→Rel G r v) (h:AOps E rd N ops l K ⟨Av.put s.t i r,s.st,s.df⟩):AOps E rd N ops l K s:=
 ⟨fun B0 w0 G a w hL hI Q hQ=>h.run B0 w0 G a w hL ⟨hI.agree,hI.defers,hI.size,fun j y hy=>by
  have hj:=hI.tmps j y hy;by_cases e:j=i
  ·subst e;simp only [xd];rw [hi] at hj;exact hw G y hj
  ·simp only;rw [qab _ _ _ _ e];exact hj⟩ Q hQ⟩
theorem qvn {P:Program} {t e:TypeId} {sz:Nat} {agg:Bool} (hu:P.underlying t=some (.slice e)) (ht:tyOf P e=some (sz,agg)) (a:Option Addr) (len cap:Nat) (lo hi:Option Value) (i j:Nat) (w:World)
  (u7:match lo with|none=>i=0|some v=>∃ k,v = .int k (i:Int)) (o8:match hi with|none=>j=len|some v=>(∃ k,v = .int k (j:Int))∧j≤cap) (h1:i≤j) :
  (Instr.slice t (.slice a len cap) lo hi none).run P w = .ok (.slice (if cap=i then a else a.map (·.add (i * sz))) (j - i) (cap - i)) w:=by
 have hs:=(vj ht w).1
 cases lo with
 |none=>
  simp only at u7;subst u7
  cases hi with
  |none=>
   simp only at o8;subst o8
   simp [Instr.slice,run_underlying hu,Instr.sliceBounds,hs]
  |some v=>
   obtain⟨⟨k,rfl⟩,h2⟩:=o8
   simp [Instr.slice,run_underlying hu,Instr.sliceBounds,Instr.sliceBound,asIntOf,hs,h2]
 |some u=>
  obtain⟨k',rfl⟩:=u7
  cases hi with
  |none=>
   simp only at o8;subst o8
   simp [Instr.slice,run_underlying hu,Instr.sliceBounds,Instr.sliceBound,asIntOf,hs,h1]
  |some v=>
   obtain⟨⟨k,rfl⟩,h2⟩:=o8;simp [Instr.slice,run_underlying hu,Instr.sliceBounds,Instr.sliceBound,asIntOf,hs,h1,h2]
theorem qvj {G:Gh} {sz:Nat} {xs:List AV} {tip:Option Nat} {a:Option Addr} {len cap:Nat} (h:Rel G (.sl sz xs tip) (.slice a len cap)) {i j:Nat} (h1:i≤j) (h2:j≤xs.length) :
  len=xs.length∧len≤cap∧Rel G (.sl sz ((xs.take j).drop i) none) (.slice (if cap=i then a else a.map (·.add (i * sz))) (j - i) (cap - i)):=by
 cases h with
 |sl0=>
  simp at h2;subst h2;have:i=0:=by omega
  subst this;refine⟨rfl,Nat.zero_le _,?_⟩;simp
  exact .sl0 sz none _ _ (by simp)
 |sl _ _ _ b off cap pub hp hw a7 hr ht g7=>
  refine⟨rfl,g7,?_⟩;have hl:((xs.take j).drop i).length=j - i:=by simp;omega
  by_cases t6:j=i
  ·subst t6
   have e:(xs.take j).drop j=[]:=List.length_eq_zero_iff.1 (by rw [hl];omega);rw [e,Nat.sub_self];exact .sl0 sz none _ _ (by simp)
  ·have a6:cap≠i:=by omega
   rw [if_neg a6];simp only [Option.map_some];have i9:Addr.add ⟨b,off,none⟩ (i * sz)=⟨b,off+i * sz,none⟩:=Addr.add_lit ..;rw [i9,← hl];have f9:∀ x∈(xs.take j).drop i,x.cells.length=sz:=fun x hx=>hw x (List.mem_of_mem_take (List.mem_of_mem_drop hx));have fb:(flat xs).length=xs.length * sz:=zt hw
   have o6:flat xs=flat (xs.take i)++flat ((xs.take j).drop i)++flat (xs.drop j):=by
    have e:xs.take i++(xs.take j).drop i=xs.take j:=by
     conv=>rhs;rw [← List.take_append_drop i (xs.take j),List.take_take,Nat.min_eq_left h1]
    rw [← x9,← x9,e,List.take_append_drop]
   have hti:(flat (xs.take i)).length=i * sz:=by
    rw [zt (fun x hx=>hw x (List.mem_of_mem_take hx)),List.length_take,Nat.min_eq_left (by omega)]
   have hmid:(flat ((xs.take j).drop i)).length=(j - i) * sz:=by rw [zt f9,hl]
   refine .sl sz _ none b (off+i * sz) (cap - i) pub hp f9 ?_ (fun k x y hx hy=>?_) (fun t ht=>by simp at ht) (by rw [hl];omega)
   ·have:=congrArg List.length o6
    simp only [List.length_append] at this;omega
   ·refine hr (i * sz+k) x y ?_ (by rw [← hy];congr 1;omega)
    have hk:=lt_of_getElem? hx;rw [o6,List.append_assoc,List.getElem?_append_right (by omega),hti,Nat.add_sub_cancel_left,List.getElem?_append_left hk];exact hx
theorem q39 {x:Operand} {t e:TypeId} {lo hi:Option Operand} {sz:Nat} {agg:Bool} {xs ys:List AV} {tip:Option Nat} {i j:Nat} (hx:ql N s x = .sl sz xs tip) (hu:E.P.underlying t=some (.slice e)) (ht:tyOf E.P e=some (sz,agg))
  (u7:match lo with|none=>i=0|some y=>∃ k,ql N s y = .v (.int k (i:Int))) (o8:match hi with|none=>j=xs.length|some y=>∃ k,ql N s y = .v (.int k (j:Int))) (h1:i≤j) (h2:j≤xs.length) (hy:(xs.take j).drop i=ys)
  (h:AOps E rd N ops rest K (s.put d (.sl sz ys none))):AOps E rd N ops (⟨d,.slice t x lo hi none,T,p,af,none⟩::rest) K s:=by
 subst hy;refine za rfl (q8 nofun fun B0 w0 G a w _ hI=>?_);have he:=hI.eval_of hx;generalize hv:a.eval x=v at he;have cx:∃ b len cap,v = .slice b len cap:=by cases he <;> exact⟨_,_,_,rfl⟩
 obtain⟨b,len,cap,rfl⟩:=cx;obtain⟨hl,hlc,hr⟩:=qvj he h1 h2;refine⟨_,w,G,_,s.st,?_,.refl G,hI.agree,hr,h⟩
 have a4:=qvn hu ht b len cap (lo.map a.eval) (hi.map a.eval) i j w (by
  cases lo with
  |none=>exact u7
  |some y=>obtain⟨k,hy⟩:=u7;exact⟨k,hI.evalv hy⟩) (by
  cases hi with
  |none=>simp only at o8;simp only [Option.map_none];omega
  |some y=>obtain⟨k,hy⟩:=o8;exact⟨⟨k,hI.evalv hy⟩,by omega⟩) h1
 generalize a.eval = ρ at hv a4;simp only [execOp,hv];simp [Instr.sliceAt,run_underlying hu,a4]
theorem qg2 {x y:Operand} {t e:TypeId} {sz:Nat} {agg:Bool} {xs ys:List AV} {tip:Option Nat} {k:IntKind} {i:Nat} (hx:ql N s x = .sl sz xs tip) (hy:ql N s y = .v (.int k (i:Int))) (hu:E.P.underlying t=some (.slice e)) (ht:tyOf E.P e=some (sz,agg)) (h1:i≤xs.length) (hz:xs.drop i=ys)
  (h:AOps E rd N ops rest K (s.put d (.sl sz ys none))):AOps E rd N ops (⟨d,.slice t x (some y) none none,T,p,af,none⟩::rest) K s:=
 q39 (i:=i) (j:=xs.length) hx hu ht ⟨k,hy⟩ rfl h1 (Nat.le_refl _) (by rw [List.take_length];exact hz) h
end
end Go.Av
