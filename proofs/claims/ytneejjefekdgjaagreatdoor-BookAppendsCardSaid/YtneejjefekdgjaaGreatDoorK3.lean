/- Contracts and plain facts that the closing text leans on (part 3). No condition of their own beyond those that each states. -/
import Derived.Test.YtneejjefekdgjaaGreatDoorK2
import Derived.Lib.SplitLaws
import Derived.Shelf.Strings.SplitShaped
import Derived.Deep.Slices
import Derived.Deep.Fields
import Derived.WideKeyArgs
import Derived.Lib.ItoaLen
set_option maxRecDepth 100000
set_option linter.unusedVariables false
set_option linter.unusedSimpArgs false
namespace Go.Proofs.YtneejjefekdgjaaGreatDoor
open Go Go.Av Go.RowKit Go.Proofs Go.Pl
theorem qhp:∀ (n u:Nat),u<n→u<18446744073709551616→∀ st,qn E 189 [.v (.int .u64 (u:Int))] st fun r st'=>r=Sv (Lib.decDigits u)∧st'=st
 | 0,_,h,_,_=>absurd h (Nat.not_lt_zero _)
 |n+1,u,hu,h64,st=>by
  refine qu (qx _) (qo Tryz.func189 rfl (Nat.le_of_ble_eq_true rfl) ?_)
  have hl1:=qeg (u:=u / 10) (by omega)
  have hl2:=qeg (u:=u % 10) (by omega)
  by_cases h10:u<10
  ·skip
   repeat' (first|apply qm|apply qd|apply qc|apply qi|apply qe|(apply qq;(iterate 3 exact rfl))|(apply qb;exact rfl;apply ki;exact cAo)|(apply qgl;(iterate 4 exact rfl);exact cAs;exact cAs)|apply qs|(apply qtc (n:=1);exact rfl;exact rfl;exact qkh (by omega)))
   exact qk rfl (qz rfl) ⟨congrArg Sv (qzx h10),_,rfl⟩
  ·have ih1:=qhp n (u / 10) (by omega) (by omega)
   have ih2:=qhp n (u % 10) (by omega) (by omega)
   repeat' (first|apply qm|apply qd|apply qc|apply qi|apply qe|(apply qq;(iterate 3 exact rfl))|(apply qb;exact rfl;apply vw;exact cAo)|(apply jl;exact rfl;exact rfl;exact cOs)|apply qw|apply qs|(apply ql9 (n:=10);exact rfl;exact rfl;omega;exact qkh (by omega))|(apply qtd (n:=10);exact rfl;exact rfl;omega)|(apply qf;exact Tryz.call189;exact ih1 _)|(apply qf;exact Tryz.call189;exact ih2 _))
   exact qk rfl (qz rfl) ⟨congrArg Sv (xl h10).symm,_,rfl⟩
theorem qyu (k:Nat) (st:List AObj) (hk:k≤9223372036854775807):qn E 114 [Iv k] st fun r st'=>r=Sv (Lib.itoa k)∧st'=st:=by
 refine qu (qx _) (qo Tryz.func114 rfl (Nat.le_of_ble_eq_true rfl) ?_)
 have hneg:¬ (k:Int)<0:=by omega
 repeat' (first|apply qm|apply qd|apply qc|apply qi|apply qe|(apply qq;(iterate 3 exact rfl))|(apply qb;exact rfl;apply vw;exact cAo)|apply qw|apply qs|(apply qdf;(iterate 3 exact rfl);exact qkh (by omega))|(apply qf;exact Tryz.call189;exact qhp (k+1) k (by omega) (by omega) _))
 exact qk rfl (qz rfl) ⟨congrArg Sv (by unfold Lib.itoa;rw [if_neg hneg];simp),_,rfl⟩
theorem qfi (l m:List UInt8) (st:List AObj) (hl:l.length<4294967281):qn E 246 [Sv l,Sv m] st fun r st'=>r=Bv (decide (m <+: l))∧st'=st:=by
 refine qu (qx _) (qo Tryz.func246 rfl (Nat.le_of_ble_eq_true rfl) ?_)
 repeat' (first|apply qm|apply qd|apply qc|apply qi|apply qe|(apply qq;(iterate 3 exact rfl))|(apply jg;(iterate 3 exact rfl))|(apply qv;(iterate 4 exact rfl))|(apply xq;exact cAo)|(apply xc;exact cAo)|(apply je <;> intro h)|(apply qh;exact rfl;apply wp;exact cAo)|(apply qh;exact rfl;apply v8;exact cAo)|(apply zo;(iterate 3 exact rfl))|(apply qa5;(iterate 3 exact rfl);exact cAs)|apply qs)
 all_goals refine qk rfl (qz rfl) ⟨congrArg Bv (?_:_=_),_,rfl⟩
 ·have e:l.take m.length=m↔m <+: l:=by rw [List.prefix_iff_eq_take];exact eq_comm
  simp [e]
 ·have:¬ m <+: l:=fun h=>by have:=h.length_le;omega
  simp [this]
theorem qkc (l m:List UInt8) (st:List AObj) (hl:m.length<4294967281):qn E 245 [Sv l,Sv m] st fun r st'=>r=Bv (decide (l <+: m))∧st'=st:=by
 refine qu (qx _) (qo Tryz.func245 rfl (Nat.le_of_ble_eq_true rfl) ?_)
 repeat' (first|apply qm|apply qd|apply qc|apply qi|apply qe|apply qs|(apply qf;exact Tryz.call246;exact qfi _ _ _ hl))
 exact qk rfl (qz rfl) ⟨rfl,_,rfl⟩
theorem qg1 {p:UInt8→Bool}:∀ {l:List UInt8} {k:Nat},k≤l.length→(∀ c∈l.take k,p c=true)→(k<l.length→p (l.getD k 0)=false)→(l.takeWhile p).length=k
 | [],k,hk,_,_=>by simp at hk;simp [hk]
 |b::l,0,_,_,h=>by
  have:=h (by simp)
  simp at this
  simp [this]
 |b::l,k+1,hk,h1,h2=>by
  have hb:p b=true:=h1 b (by simp)
  rw [List.takeWhile_cons_of_pos hb,List.length_cons,qg1 (k:=k) (by simpa using hk) (fun c hc=>h1 c (by simp [hc])) (fun h=>by have:=h2 (by simpa using h);simpa using this)]
def x2 (c:UInt8):Bool:=decide (48≤c.toNat∧c.toNat≤57)
theorem qyt (l:List UInt8) (st:List AObj) (hl:l.length<4294967281):qn E 247 [Sv l] st fun r st'=>r=Iv (l.takeWhile x2).length∧st'=st:=by
 refine qu (qx _) (qo Tryz.func247 rfl (Nat.le_of_ble_eq_true rfl) ?_)
 repeat' (first|apply qm|apply qt|apply qd|apply qc|apply qe)
 refine jh (fun (k:Nat) s=>k≤l.length∧(∀ c∈l.take k,x2 c=true)∧StA [(0,Sv l),(3,Iv k)] (st++[]) [] s) (fun k=>l.length - k) 0 ⟨by omega,by simp,zw ⟨rfl,rfl,trivial⟩⟩ ?_
 rintro k _ ⟨hk,h1,t,rfl⟩
 repeat' (first|apply qm|apply qt|apply qd|apply qc|apply qi|apply qe|(apply qq;(iterate 3 exact rfl))|(apply qv;(iterate 4 exact rfl))|(apply xq;exact cAo)|(apply xc;exact cAo)|(apply ww;exact cRa)|(apply je <;> intro h)|(apply qh;exact rfl;apply wp;exact cAo)|(apply qh;exact rfl;apply v8;exact cAo)|(apply qh;exact rfl;apply pk_f;exact cRa)|(apply qb;exact rfl;apply cd_f;exact cRa)|(apply qb;exact rfl;apply cd_d <;> intro h)|(apply zo;(iterate 3 exact rfl))|(apply zt;exact rfl;exact rfl;exact zb (by omega) (by omega))|(apply vu;(iterate 3 exact rfl);exact cAs)|apply qw|apply z7|apply qs)
 all_goals first
  |exact⟨k+1,⟨by omega,(qkk (by omega)).2 ⟨h1,by simp only [x2,decide_eq_true_eq];omega⟩,zw ⟨rfl,rfl,trivial⟩⟩,by omega⟩
  |exact qk rfl (qz rfl) ⟨congrArg Iv (congrArg Nat.cast (qg1 hk h1 (fun hlt=>by simp only [x2,decide_eq_false_iff_not];omega)).symm),_,rfl⟩
def qai (c:UInt8):Bool:=decide (48≤c.toNat∧c.toNat≤57∨97≤c.toNat∧c.toNat≤102)
theorem qs2 {p:UInt8→Bool} {l:List UInt8} {k n:Nat} (hk:k≤l.length) (hn:k≤n) (h1:∀ c∈l.take k,p c=true) (h2:k<l.length→k<n→p (l.getD k 0)=false):((l.take n).takeWhile p).length=k:=by
 have hlen:(l.take n).length=min n l.length:=by simp
 refine qg1 (by omega) (fun c hc=>h1 c ?_) (fun h=>?_)
 ·rwa [List.take_take,Nat.min_eq_left hn] at hc
 ·have h3:k<l.length:=by omega
  have h4:k<n:=by omega
  have e:(l.take n).getD k 0=l.getD k 0:=by simp [List.getD,List.getElem?_take,h4]
  rw [e]
  exact h2 h3 h4
theorem q9r (l:List UInt8) (st:List AObj) (hl:l.length<4294967281):qn E 248 [Sv l] st fun r st'=>r=Iv ((l.take 8).takeWhile qai).length∧st'=st:=by
 refine qu (qx _) (qo Tryz.func248 rfl (Nat.le_of_ble_eq_true rfl) ?_)
 repeat' (first|apply qm|apply qt|apply qd|apply qc|apply qe)
 refine jh (fun (k:Nat) s=>k≤l.length∧k≤8∧(∀ c∈l.take k,qai c=true)∧StA [(0,Sv l),(3,Iv k)] (st++[]) [] s) (fun k=>l.length - k) 0 ⟨by omega,by omega,by simp,zw ⟨rfl,rfl,trivial⟩⟩ ?_
 rintro k _ ⟨hk,hk8,h1,t,rfl⟩
 repeat' (first|apply qm|apply qt|apply qd|apply qc|apply qi|apply qe|(apply qq;(iterate 3 exact rfl))|(apply qv;(iterate 4 exact rfl))|(apply xq;exact cAo)|(apply vl;exact cAo)|(apply vq;exact cAo)|(apply xc;exact cAo)|(apply qat;(iterate 4 exact rfl))|(apply qei;exact cRa)|(apply ww;exact cRa)|(apply je <;> intro h)|(apply qh;exact rfl;apply wp;exact cAo)|(apply qh;exact rfl;apply v8;exact cAo)|(apply qh;exact rfl;apply pk_f;exact cRa)|(apply qb;exact rfl;apply cd_t;exact cRa)|(apply qb;exact rfl;apply cd_f;exact cRa)|(apply qb;exact rfl;apply cd_d <;> intro h)|(apply zo;(iterate 3 exact rfl))|(apply zt;exact rfl;exact rfl;exact zb (by omega) (by omega))|(apply vu;(iterate 3 exact rfl);exact cAs)|apply qw|apply z7|apply qs)
 all_goals first
  |exact⟨k+1,⟨by omega,by omega,(qkk (by omega)).2 ⟨h1,by simp only [qai,decide_eq_true_eq];omega⟩,zw ⟨rfl,rfl,trivial⟩⟩,by omega⟩
  |exact qk rfl (qz rfl) ⟨congrArg Iv (congrArg Nat.cast (qs2 hk hk8 h1 (fun hlt hl8=>by simp only [qai,decide_eq_false_iff_not];omega)).symm),_,rfl⟩
end Go.Proofs.YtneejjefekdgjaaGreatDoor
namespace Go.Pl
open Go
def decV (l:qa):Nat:=l.foldl (fun a c=>10 * a+(c.toNat - 48)) 0
theorem qmj (l:qa) (c:UInt8):decV (l++[c])=10 * decV l+(c.toNat - 48):=by simp [decV]
theorem wn:∀ (n u:Nat),u≤n→∀ c∈Lib.decDigits u,48≤c.toNat∧c.toNat≤57
 |n,u,hn,c,hc=>by
  by_cases h:u<10
  ·rw [Lib.decDigits_one h] at hc
   simp only [List.mem_singleton] at hc
   subst hc
   rw [UInt8.toNat_ofNat']
   omega
  ·rw [xl h,List.mem_append] at hc
   cases n with
   |zero=>omega
   |succ n=>
    rcases hc with hc|hc
    ·exact wn n (u / 10) (by omega) c hc
    ·exact wn n (u % 10) (by omega) c hc
theorem qo7:∀ (n u:Nat),u≤n→decV (Lib.decDigits u)=u
 |n,u,hn=>by
  have key:∀ d,d<10→Lib.decDigits d=[UInt8.ofNat (48+d)]∧(UInt8.ofNat (48+d)).toNat - 48=d:=fun d hd=>by
   refine⟨Lib.decDigits_one hd,?_⟩
   rw [UInt8.toNat_ofNat']
   omega
  by_cases h:u<10
  ·obtain⟨e1,e2⟩:=key u h
   rw [e1]
   exact (Nat.zero_add _).trans e2
  ·cases n with
   |zero=>omega
   |succ n=>
    obtain⟨e1,e2⟩:=key (u % 10) (by omega)
    rw [xl h,e1,qmj,qo7 n (u / 10) (by omega),e2]
    omega
theorem qeb (u:Nat):1≤(Lib.decDigits u).length:=by
 rw [Lib.decDigits_length]
 exact Lib.nDigits_pos u
theorem qek {v:Int} (h:v<0):Lib.itoa v=45::Lib.decDigits v.natAbs:=by
 unfold Lib.itoa
 rw [if_pos h]
theorem qel {v:Int} (h:0≤v):Lib.itoa v=Lib.decDigits v.toNat:=by
 unfold Lib.itoa
 rw [if_neg (by omega)]
theorem q1d (v:Int):1≤(Lib.itoa v).length:=by
 by_cases h:v<0
 ·rw [qek h];simp
 ·rw [qel (by omega)];exact qeb _
theorem qi0 {v:Int} (h1 : -9223372036854775808≤v) (h2:v≤9223372036854775807):(Lib.itoa v).length≤20:=by
 by_cases h:v<0
 ·rw [qek h,List.length_cons,Lib.decDigits_length]
  have:=qdm 18 v.natAbs (by omega)
  omega
 ·rw [qel (by omega),Lib.decDigits_length]
  have:=qdm 18 v.toNat (by omega)
  omega
theorem que:∀ (a:Nat) (l m:qa) (b:Nat),Lib.parseUint10 a l = .ok b→Lib.parseUint10 a (l++m)=Lib.parseUint10 b m
 |a,[],m,b,h=>by
  simp only [Lib.parseUint10,Lib.NumEnd.ok.injEq] at h
  subst h;rfl
 |a,c::l,m,b,h=>by
  simp only [List.cons_append,Lib.parseUint10] at h ⊢
  split at h
  ·rename_i hd
   rw [if_pos hd]
   split at h
   ·cases h
   ·rename_i h1
    rw [if_neg h1]
    split at h
    ·cases h
    ·rename_i h2
     rw [if_neg h2]
     exact que _ l m b h
  ·cases h
theorem qlc:∀ (n u:Nat),u≤n→u≤9223372036854775808→Lib.parseUint10 0 (Lib.decDigits u) = .ok u
 |n,u,hn,hu=>by
  have key:∀ (a d:Nat),a≤922337203685477580→d<10→Lib.parseUint10 a (Lib.decDigits d) = .ok (a * 10+d):=by
   intro a d ha hd
   have e:(UInt8.ofNat (48+d)).toNat=48+d:=by rw [UInt8.toNat_ofNat'];omega
   rw [Lib.decDigits_one hd]
   simp only [Lib.parseUint10,e]
   rw [if_pos (by omega),if_neg (by omega),if_neg (by omega)]
   congr 1
   omega
  by_cases h:u<10
  ·have:=key 0 u (by omega) h
   simpa using this
  ·cases n with
   |zero=>omega
   |succ n=>
    rw [xl h,que 0 _ _ (u / 10) (qlc n (u / 10) (by omega) (by omega)),key _ _ (by omega) (by omega)]
    congr 1
    omega
theorem qko {v:Int} (h1 : -9223372036854775808≤v) (h2:v≤9223372036854775807):Lib.atoiAll (Lib.itoa v) = .ok v:=by
 by_cases h:v<0
 ·have hp:=qlc v.natAbs v.natAbs (Nat.le_refl _) (by omega)
  rw [qek h]
  have hm:Lib.parseMag (Lib.decDigits v.natAbs) = .ok v.natAbs:=by
   unfold Lib.parseMag
   rw [if_neg (fun e=>by have:=qeb v.natAbs;rw [e] at this;simp at this)]
   exact hp
  have e45:(45:UInt8).toNat=45:=rfl
  simp only [Lib.atoiAll,e45]
  rw [if_pos (Or.inr trivial),hm]
  simp only [not_true,false_and,if_false,true_and]
  rw [if_neg (by omega)]
  simp only [if_true]
  congr 1
  omega
 ·have hp:=qlc v.toNat v.toNat (Nat.le_refl _) (by omega)
  have hd:=wn v.toNat v.toNat (Nat.le_refl _)
  rw [qel (by omega)]
  cases hl:Lib.decDigits v.toNat with
  |nil=>have:=qeb v.toNat;rw [hl] at this;simp at this
  |cons c r=>
   rw [hl] at hp hd
   have hc:=hd c (by simp)
   simp only [Lib.atoiAll]
   have g1:¬ (c.toNat=43∨c.toNat=45):=by omega
   rw [if_neg g1]
   have hm:Lib.parseMag (c::r) = .ok v.toNat:=by unfold Lib.parseMag;rw [if_neg (by simp)];exact hp
   rw [hm]
   have g2:¬ c.toNat=45:=by omega
   simp only [g2,not_false_iff,true_and,false_and,if_false]
   rw [if_neg (by omega)]
   congr 1
   omega
def numZ (l:qa):Option Int:=
 match Lib.atoiAll l with
 | .ok v=>if Lib.itoa v=l then some v else none
 | _=>none
theorem qeu {v:Int} (h1 : -9223372036854775808≤v) (h2:v≤9223372036854775807):numZ (Lib.itoa v)=some v:=by
 unfold numZ
 rw [qko h1 h2]
 simp
theorem qi6 {l:qa} {v:Int} (h:numZ l=some v):l=Lib.itoa v∧-9223372036854775808≤v∧v≤9223372036854775807:=by
 unfold numZ at h
 split at h
 ·rename_i u hu
  split at h
  ·rename_i he
   simp only [Option.some.injEq] at h
   subst h
   exact⟨he.symm,atoiAll_bounds hu⟩
  ·simp at h
 ·simp at h
theorem qmz {l:qa} (h:∀ v,-9223372036854775808≤v→v≤9223372036854775807→l≠Lib.itoa v):numZ l=none:=by
 cases hn:numZ l with
 |none=>rfl
 |some v=>
  obtain⟨h1,h2,h3⟩:=qi6 hn
  exact absurd h1 (h v h2 h3)
end Go.Pl
namespace Go.Proofs.YtneejjefekdgjaaGreatDoor
open Go Go.Av Go.RowKit Go.Proofs Go.Pl
theorem qed (v:Int) (st:List AObj) (h1 : -9223372036854775808≤v) (h2:v≤9223372036854775807):qn E 114 [Iv v] st fun r st'=>r=Sv (Lib.itoa v)∧st'=st:=by
 by_cases hneg:v<0
 ·refine qu (qx _) (qo Tryz.func114 rfl (Nat.le_of_ble_eq_true rfl) ?_)
  have hl:=qeg (u:=v.natAbs) (by omega)
  have hk:IntKind.u64.wrap (-(v+1))=((v.natAbs - 1:Nat):Int):=by
   rw [show -(v+1)=((v.natAbs - 1:Nat):Int) by omega]
   exact qkh (by omega)
  have hk2:IntKind.u64.wrap (((v.natAbs - 1:Nat):Int)+1)=((v.natAbs:Nat):Int):=by
   rw [show ((v.natAbs - 1:Nat):Int)+1=((v.natAbs:Nat):Int) by omega]
   exact qkh (by omega)
  repeat' (first|apply qm|apply qd|apply qc|apply qi|apply qe|(apply qq;(iterate 3 exact rfl))|(apply qb;exact rfl;apply ki;exact cAo)|(apply jl;exact rfl;exact rfl;exact cOs)|(apply zt;exact rfl;exact rfl;exact zb (by omega) (by omega))|apply qs|(apply qwa;exact rfl;exact (show IntKind.i64.wrap (0 - (v+1)) = -(v+1) from by rw [zb (by omega) (by omega)];omega))|(apply qdf;(iterate 3 exact rfl);exact hk)|(apply zt;exact rfl;exact rfl;exact hk2)|(apply qf;exact Tryz.call189;exact qhp (v.natAbs+1) v.natAbs (by omega) (by omega) _))
  exact qk rfl (qz rfl) ⟨congrArg Sv (qek hneg).symm,_,rfl⟩
 ·obtain⟨k,rfl⟩:=Int.eq_ofNat_of_zero_le (by omega:0≤v)
  exact qyu k st (by omega)
theorem qnf (x:Int):IntKind.i64.wrap x=(x+9223372036854775808) % 18446744073709551616 - 9223372036854775808:=by
 simp [IntKind.wrap,IntKind.bits,IntKind.signed]
 split <;> omega
theorem qx6 (V d:Nat) (n:Int) (hn:n=IntKind.i64.wrap (-(V:Int))):IntKind.i64.wrap (IntKind.i64.wrap (10 * n) - (d:Int))=IntKind.i64.wrap (-((10 * V+d:Nat):Int)):=by
 rw [hn]
 simp only [qnf]
 omega
theorem q1n (V:Nat):IntKind.i64.wrap (0 - IntKind.i64.wrap (-(V:Int)))=IntKind.i64.wrap (V:Int):=by
 simp only [qnf]
 omega
theorem qdc (x:Int) : -9223372036854775808≤IntKind.i64.wrap x∧IntKind.i64.wrap x≤9223372036854775807:=by
 rw [qnf]
 omega
theorem sub8 {c:Nat} (h:48≤c) (h2:c<256):IntKind.u8.wrap ((c:Int) - 48)=((c - 48:Nat):Int):=by
 simp [IntKind.wrap,IntKind.bits,IntKind.signed]
 omega
def numA (l:qa):AV:=match numZ l with|some v=>.tu [Iv v,Bv true]|none=>.tu [Iv 0,Bv false]
theorem q54 (l:qa):Pure (numA l):=by
 unfold numA
 split <;> exact qi8 _ _
theorem qb8 {l:qa} (h:numZ l=none):numA l = .tu [Iv 0,Bv false]:=by unfold numA;rw [h]
theorem qmy {l:qa} {v:Int} (h:numZ l=some v):numA l = .tu [Iv v,Bv true]:=by unfold numA;rw [h]
theorem qt6 {l:qa} {v:Int} (h:l=Lib.itoa v):(v<0→(l.getD 0 0).toNat=45∧l.drop 1=Lib.decDigits v.natAbs)∧(0≤v→(l.getD 0 0).toNat≠45∧l=Lib.decDigits v.toNat):=by
 subst h
 refine⟨fun h=>?_,fun h=>?_⟩
 ·rw [qek h];exact⟨rfl,rfl⟩
 ·rw [qel h]
  refine⟨?_,rfl⟩
  have hp:=qeb v.toNat
  have hd:=wn v.toNat v.toNat (Nat.le_refl _)
  cases hl:Lib.decDigits v.toNat with
  |nil=>rw [hl] at hp;simp at hp
  |cons c r=>
   rw [hl] at hd
   have:=hd c (by simp)
   simp
   omega
def sgn (l:qa):Nat:=if (l.getD 0 0).toNat=45 then 1 else 0
theorem qji {l:qa} {v:Int} (h:l=Lib.itoa v):l.drop (sgn l)=Lib.decDigits v.natAbs:=by
 obtain⟨h1,h2⟩:=qt6 h
 unfold sgn
 by_cases hv:v<0
 ·obtain⟨a,b⟩:=h1 hv
  rw [if_pos a,b]
 ·obtain⟨a,b⟩:=h2 (by omega)
  rw [if_neg a,List.drop_zero,show v.natAbs=v.toNat by omega]
  exact b
theorem qnr {l:qa} {k:Nat} (hk:k<l.length) (hs:sgn l≤k) (hd:¬ (48≤(l.getD k 0).toNat∧(l.getD k 0).toNat≤57)):numZ l=none:=by
 refine qmz fun v h1 h2 h=>?_
 have e:=qji h
 have hm:l.getD k 0∈l.drop (sgn l):=by
  rw [show l.getD k 0=l[k] by simp [List.getD,hk]]
  rw [List.mem_drop_iff_getElem]
  exact⟨k - sgn l,by omega,by congr 1;omega⟩
 rw [e] at hm
 exact hd (wn _ _ (Nat.le_refl _) _ hm)
def numW (l:qa):Int:=if (l.getD 0 0).toNat=45 then IntKind.i64.wrap (-(decV (l.drop 1):Int)) else IntKind.i64.wrap (decV l:Int)
theorem zby {l:qa} {v:Int} (h:l=Lib.itoa v) (h1 : -9223372036854775808≤v) (h2:v≤9223372036854775807):numW l=v:=by
 obtain⟨g1,g2⟩:=qt6 h
 unfold numW
 by_cases hv:v<0
 ·obtain⟨a,b⟩:=g1 hv
  rw [if_pos a,b,qo7 _ _ (Nat.le_refl _),zb (by omega) (by omega)]
  omega
 ·obtain⟨a,b⟩:=g2 (by omega)
  rw [if_neg a,b,qo7 _ _ (Nat.le_refl _),zb (by omega) (by omega)]
  omega
theorem q1m {l:qa} {n:Int} (h:n=numW l) (he:Lib.itoa n=l):numZ l=some n:=by
 have hr : -9223372036854775808≤n∧n≤9223372036854775807:=by
  rw [h];unfold numW;split <;> exact qdc _
 rw [← he,qeu hr.1 hr.2]
theorem q1l {l:qa} {n:Int} (h:n=numW l) (he:¬ Lib.itoa n=l):numZ l=none:=
 qmz fun v h1 h2 hv=>he (by rw [h,zby hv h1 h2];exact hv.symm)
theorem qkf {l:qa} {k a:Nat} (h:k<l.length) (ha:a≤k):(l.take (k+1)).drop a=(l.take k).drop a++[l.getD k 0]:=by
 rw [qam h,List.drop_append_of_le_length (by simp;omega)]
theorem qow (l:List UInt8) (st:List AObj) (hl:l.length<4294967281):qn E 145 [Sv l] st fun r st'=>r=numA l∧st'=st:=by
 refine qu (q54 l) (qo Tryz.func145 rfl (Nat.le_of_ble_eq_true rfl) ?_)
 by_cases hbad:l.length<1∨20<l.length
 ·have hz:numZ l=none:=qmz fun v h1 h2 h=>by
   have g1:=q1d v
   have g2:=qi0 h1 h2
   rw [← h] at g1 g2
   omega
  repeat' (first|apply qm|apply qd|apply qc|apply qi|apply qe|(apply qq;(iterate 3 exact rfl))|(apply qv;(iterate 4 exact rfl))|(apply vl;exact cAo)|(apply vq;exact cAo)|(apply je <;> intro h)|(apply qh;exact rfl;apply wp;exact cAo)|(apply qh;exact rfl;apply v8;exact cAo)|(apply qb;exact rfl;apply ki;exact cAo)|(apply qb;exact rfl;apply cd_t;exact cRa)|(apply zo;(iterate 3 exact rfl))|apply qs)
  all_goals first
   |(exfalso;omega)
   |exact qk rfl (j5 rfl) ⟨(qb8 hz).symm,_,rfl⟩
 have hb1:1≤l.length:=by omega
 have hb2:l.length≤20:=by omega
 repeat' (first|apply qm|apply qt|apply qd|apply qc|apply qi|apply qe|(apply qq;(iterate 3 exact rfl))|(apply qv;(iterate 4 exact rfl))|(apply vl;exact cAo)|(apply qh;exact rfl;apply v8;exact cAo)|(apply qb;exact rfl;apply vw;exact cAo)|(apply qb;exact rfl;apply cd_d <;> intro h)|(apply zo;(iterate 3 exact rfl))|(apply vu;(iterate 3 exact rfl);exact cAs)|apply qw)
 ·have h45:((l.getD 0 0).toNat:Int)=45:=by assumption
  have hs:sgn l=1:=if_pos (by omega)
  refine jh (fun (k:Nat) s=>1≤k∧k≤l.length∧StA [(0,Sv l),(4,Iv 1),(5,Iv (IntKind.i64.wrap (-(decV ((l.take k).drop 1):Int)))),(6,Iv k)] (st++[]) [] s) (fun k=>l.length - k) 1 ⟨by omega,by omega,zw ⟨rfl,rfl,by simp [List.drop_eq_nil_of_le,decV,IntKind.wrap];rfl,rfl,trivial⟩⟩ ?_
  rintro k _ ⟨hk1,hk,t,rfl⟩
  generalize hn:IntKind.i64.wrap (-(decV ((l.take k).drop 1):Int))=n
  have hc:=UInt8.toNat_lt (l.getD k 0)
  have hr : -9223372036854775808≤n∧n≤9223372036854775807:=hn▸qdc _
  have hr2:=qdc (0 - n)
  repeat' (first|apply qm|apply qt|apply qd|apply qc|apply qi|apply qe|(apply qq;(iterate 3 exact rfl))|(apply jg;(iterate 3 exact rfl))|(apply qv;(iterate 4 exact rfl))|(apply vl;exact cAo)|(apply vq;exact cAo)|(apply je <;> intro h)|(apply qh;exact rfl;apply wp;exact cAo)|(apply qh;exact rfl;apply v8;exact cAo)|(apply qb;exact rfl;apply vw;exact cAo)|(apply qb;exact rfl;apply cd_t;exact cRa)|(apply qb;exact rfl;apply cd_d <;> intro h)|(apply zo;(iterate 3 exact rfl))|(apply zt;exact rfl;exact rfl;exact zb (by omega) (by omega))|(apply vu;(iterate 3 exact rfl);exact cAs)|apply qw|apply z7|apply qs|(apply qfr;(iterate 3 exact rfl))|(apply w8;exact rfl;exact rfl;exact sub8 (by omega) (by omega))|(apply w8;exact rfl;exact rfl;exact qx6 _ _ _ hn.symm)|(apply qdf;(iterate 3 exact rfl);exact zb (by omega) (by omega))|(apply qf;exact Tryz.call114;exact qed _ _ (by omega) (by omega)))
  ·exact qk rfl (j5 rfl) ⟨(qb8 (qnr (k:=k) (by omega) (by omega) (by omega))).symm,_,rfl⟩
  ·exact qk rfl (j5 rfl) ⟨(qb8 (qnr (k:=k) (by omega) (by omega) (by omega))).symm,_,rfl⟩
  ·refine⟨k+1,⟨by omega,by omega,zw ⟨rfl,rfl,congrArg Iv ?_,rfl,trivial⟩⟩,by omega⟩
   rw [qkf (by omega) hk1,qmj]
  ·have e:k=l.length:=by omega
   subst e
   rw [List.take_length] at hn
   have hw:n=numW l:=by unfold numW;rw [if_pos (by omega)];rw [← hn]
   exact qk rfl (j5 rfl) ⟨(qb8 (q1l hw (by assumption))).symm,_,rfl⟩
  ·have e:k=l.length:=by omega
   subst e
   rw [List.take_length] at hn
   have hw:n=numW l:=by unfold numW;rw [if_pos (by omega)];rw [← hn]
   exact qk rfl (j5 rfl) ⟨(qmy (q1m hw (Classical.not_not.1 (by assumption)))).symm,_,rfl⟩
 ·have h45:¬ ((l.getD 0 0).toNat:Int)=45:=by assumption
  have hs:sgn l=0:=if_neg (by omega)
  refine jh (fun (k:Nat) s=>0≤k∧k≤l.length∧StA [(0,Sv l),(4,Iv 0),(5,Iv (IntKind.i64.wrap (-(decV ((l.take k).drop 0):Int)))),(6,Iv k)] (st++[]) [] s) (fun k=>l.length - k) 0 ⟨by omega,by omega,zw ⟨rfl,rfl,by simp [List.drop_eq_nil_of_le,decV,IntKind.wrap];rfl,rfl,trivial⟩⟩ ?_
  rintro k _ ⟨hk1,hk,t,rfl⟩
  generalize hn:IntKind.i64.wrap (-(decV ((l.take k).drop 0):Int))=n
  have hc:=UInt8.toNat_lt (l.getD k 0)
  have hr : -9223372036854775808≤n∧n≤9223372036854775807:=hn▸qdc _
  have hr2:=qdc (0 - n)
  repeat' (first|apply qm|apply qt|apply qd|apply qc|apply qi|apply qe|(apply qq;(iterate 3 exact rfl))|(apply jg;(iterate 3 exact rfl))|(apply qv;(iterate 4 exact rfl))|(apply vl;exact cAo)|(apply vq;exact cAo)|(apply je <;> intro h)|(apply qh;exact rfl;apply wp;exact cAo)|(apply qh;exact rfl;apply v8;exact cAo)|(apply qb;exact rfl;apply ki;exact cAo)|(apply qb;exact rfl;apply cd_t;exact cRa)|(apply qb;exact rfl;apply cd_d <;> intro h)|(apply zo;(iterate 3 exact rfl))|(apply zt;exact rfl;exact rfl;exact zb (by omega) (by omega))|(apply vu;(iterate 3 exact rfl);exact cAs)|apply qw|apply z7|apply qs|(apply qfr;(iterate 3 exact rfl))|(apply w8;exact rfl;exact rfl;exact sub8 (by omega) (by omega))|(apply w8;exact rfl;exact rfl;exact qx6 _ _ _ hn.symm)|(apply qdf;(iterate 3 exact rfl);exact zb (by omega) (by omega))|(apply qwa;exact rfl;exact rfl)|(apply qf;exact Tryz.call114;exact qed _ _ (by omega) (by omega)))
  ·exact qk rfl (j5 rfl) ⟨(qb8 (qnr (k:=k) (by omega) (by omega) (by omega))).symm,_,rfl⟩
  ·exact qk rfl (j5 rfl) ⟨(qb8 (qnr (k:=k) (by omega) (by omega) (by omega))).symm,_,rfl⟩
  ·refine⟨k+1,⟨by omega,by omega,zw ⟨rfl,rfl,congrArg Iv ?_,rfl,trivial⟩⟩,by omega⟩
   rw [qkf (by omega) hk1,qmj]
  ·have e:k=l.length:=by omega
   subst e
   rw [List.take_length] at hn
   have hw:IntKind.i64.wrap (0 - n)=numW l:=by unfold numW;rw [if_neg (by omega)];rw [← hn,List.drop_zero,q1n]
   exact qk rfl (j5 rfl) ⟨(qb8 (q1l hw (by assumption))).symm,_,rfl⟩
  ·have e:k=l.length:=by omega
   subst e
   rw [List.take_length] at hn
   have hw:IntKind.i64.wrap (0 - n)=numW l:=by unfold numW;rw [if_neg (by omega)];rw [← hn,List.drop_zero,q1n]
   exact qk rfl (j5 rfl) ⟨(qmy (q1m hw (Classical.not_not.1 (by assumption)))).symm,_,rfl⟩
theorem qc8 (l:List UInt8) (v:Int) (st:List AObj) (hl:l.length<4294967281) (h:numZ l=some v):qn E 145 [Sv l] st fun r st'=>r = .tu [Iv v,Bv true]∧st'=st:=by
 have:=qow l st hl
 rw [qmy h] at this
 exact this
theorem qfj (l:List UInt8) (st:List AObj) (hl:l.length<4294967281) (h:numZ l=none):qn E 145 [Sv l] st fun r st'=>r = .tu [Iv 0,Bv false]∧st'=st:=by
 have:=qow l st hl
 rw [qb8 h] at this
 exact this
theorem qvl (x:BitVec 32):x &&& 2147483648#32≠0#32↔x.toNat / 2147483648=1:=by
 have e:2147483648#32=BitVec.twoPow 32 31:=by decide
 have h:=x.isLt
 rw [e,BitVec.and_twoPow,BitVec.getLsbD,Nat.testBit_eq_decide_div_mod_eq]
 by_cases hb:x.toNat / 2 ^ 31 % 2=1
 ·simp only [hb,decide_true,if_true]
  constructor
  ·intro _;omega
  ·intro _;decide
 ·simp only [hb,decide_false]
  constructor
  ·intro h';exact absurd rfl h'
  ·intro h';omega
theorem q3l (x:BitVec 32):x.msb=true↔x.toNat / 2147483648=1:=by
 rw [BitVec.msb_eq_decide]
 have h:=x.isLt
 simp
 omega
theorem qir (x:BitVec 32):qba x=(x <<< 1) ^^^ (if x.msb then 79764919#32 else 0#32):=by
 unfold qba
 by_cases h:x.msb=true
 ·rw [if_pos ((qvl x).2 ((q3l x).1 h)),if_pos h]
 ·rw [if_neg (fun h'=>h ((q3l x).2 ((qvl x).1 h'))),if_neg h,BitVec.xor_zero]
theorem q2u (a b:BitVec 32):qba (a ^^^ b)=qba a ^^^ qba b:=by
 rw [qir,qir,qir,BitVec.msb_xor,BitVec.shiftLeft_xor_distrib]
 cases a.msb <;> cases b.msb <;> simp only [Bool.xor_false,Bool.xor_true,Bool.not_true,Bool.not_false,Bool.false_eq_true,if_true,if_false,BitVec.xor_zero]
 ·rw [BitVec.xor_assoc]
 ·rw [BitVec.xor_assoc,BitVec.xor_comm (b <<< 1),BitVec.xor_assoc]
 ·rw [BitVec.xor_assoc (a <<< 1),BitVec.xor_comm 79764919#32,BitVec.xor_assoc (b <<< 1),BitVec.xor_self,BitVec.xor_zero]
theorem qoe (n:Nat) (a b:BitVec 32):wt n (a ^^^ b)=wt n a ^^^ wt n b:=by
 induction n with
 |zero=>rfl
 |succ n ih=>simp only [wt,ih,q2u]
theorem qjf:∀ (n:Nat) (x:BitVec 32),n≤31→x.toNat<2 ^ (32 - n)→wt n x=x <<< n
 | 0,x,_,_=>by simp [wt]
 |n+1,x,hn,h=>by
  have hp:2 ^ (32 - n)=2 * 2 ^ (32 - (n+1)):=by rw [show 32 - n=(32 - (n+1))+1 by omega,Nat.pow_succ,Nat.mul_comm]
  simp only [wt]
  rw [qjf n x (by omega) (by omega),qir]
  have hm:(x <<< n).msb=false:=by
   cases hb:(x <<< n).msb with
   |false=>rfl
   |true=>
    have h1:=(q3l _).1 hb
    have h2:(x <<< n).toNat<2147483648:=by
     rw [BitVec.toNat_shiftLeft,Nat.shiftLeft_eq]
     refine Nat.lt_of_le_of_lt (Nat.mod_le _ _) ?_
     have h3:x.toNat * 2 ^ n<2 ^ (32 - (n+1)) * 2 ^ n:=Nat.mul_lt_mul_of_pos_right h (Nat.two_pow_pos n)
     rw [← Nat.pow_add,show 32 - (n+1)+n=31 by omega] at h3
     exact h3
    omega
  rw [hm]
  simp only [Bool.false_eq_true,if_false,BitVec.xor_zero]
  rw [← BitVec.shiftLeft_add]
theorem zce (x:BitVec 32):x=((x >>> 28) <<< 28) ^^^ ((x.setWidth 28).setWidth 32):=by
 apply BitVec.eq_of_getLsbD_eq
 intro i hi
 simp only [BitVec.getLsbD_xor,BitVec.getLsbD_shiftLeft,BitVec.getLsbD_ushiftRight,BitVec.getLsbD_setWidth]
 by_cases h:i<28
 ·simp [h,hi]
 ·simp [h,hi,show 28+(i - 28)=i by omega]
theorem qtp (x:BitVec 32) (n:Nat):crcN x n=wt 4 (x ^^^ (BitVec.ofNat 32 n <<< 28)):=by
 have hl:((x.setWidth 28).setWidth 32).toNat<2 ^ (32 - 4):=by
  simp only [BitVec.toNat_setWidth]
  exact Nat.lt_of_le_of_lt (Nat.mod_le _ _) (Nat.mod_lt _ (by decide))
 have hs:((x.setWidth 28).setWidth 32) <<< 4=x <<< 4:=by
  apply BitVec.eq_of_getLsbD_eq
  intro i hi
  simp only [BitVec.getLsbD_shiftLeft,BitVec.getLsbD_setWidth]
  by_cases h:i<4
  ·simp [h]
  ·simp [h,hi,show i - 4<28 by omega,show i - 4<32 by omega]
 have e:x ^^^ (BitVec.ofNat 32 n <<< 28)=(((x >>> 28) ^^^ BitVec.ofNat 32 n) <<< 28) ^^^ ((x.setWidth 28).setWidth 32):=by
  rw [BitVec.shiftLeft_xor_distrib,BitVec.xor_assoc,BitVec.xor_comm (BitVec.ofNat 32 n <<< 28),← BitVec.xor_assoc,← zce x]
 rw [e,qoe,qjf 4 _ (by omega) hl,hs,crcN,rowT,BitVec.ofNat_toNat,BitVec.setWidth_eq,BitVec.xor_comm]
theorem qzv (m n:Nat) (x:BitVec 32):wt (m+n) x=wt m (wt n x):=by
 induction m with
 |zero=>simp [wt]
 |succ m ih=>rw [Nat.succ_add];simp only [wt,ih]
theorem qzt (c:UInt8):BitVec.ofNat 32 c.toNat <<< 24=(BitVec.ofNat 32 (c.toNat / 16) <<< 28) ^^^ (BitVec.ofNat 32 (c.toNat % 16) <<< 24):=by
 have key:∀ n:Fin 256,BitVec.ofNat 32 n.val <<< 24=(BitVec.ofNat 32 (n.val / 16) <<< 28) ^^^ (BitVec.ofNat 32 (n.val % 16) <<< 24):=by decide +kernel
 exact key ⟨c.toNat,UInt8.toNat_lt c⟩
theorem q48 (x:BitVec 32) (c:UInt8):crcP x c=wt 8 (x ^^^ (BitVec.ofNat 32 c.toNat <<< 24)):=by
 have hl:(BitVec.ofNat 32 (c.toNat % 16) <<< 24).toNat<2 ^ (32 - 4):=by
  have key:∀ n:Fin 16,(BitVec.ofNat 32 n.val <<< 24).toNat<2 ^ (32 - 4):=by decide +kernel
  exact key ⟨c.toNat % 16,Nat.mod_lt _ (by decide)⟩
 rw [show (8:Nat)=4+4 by rfl,qzv,qzt,← BitVec.xor_assoc,qoe 4 (x ^^^ _),qjf 4 _ (by omega) hl,← BitVec.shiftLeft_add,crcP,qtp,qtp]
theorem qut (x:BitVec 32):IntKind.u32.wrap (4294967295 - (x.toNat:Int))=((~~~x).toNat:Int):=by
 have h:=x.isLt
 have e:(4294967295 - (x.toNat:Int))=(((~~~x).toNat:Nat):Int):=by rw [BitVec.toNat_not];omega
 rw [e]
 exact qfn _
theorem q1j (x:BitVec 32) (k n:Nat) (m:Int) (hm:m=((2 ^ n:Nat):Int)):IntKind.u32.wrap ((x.toNat:Int) * m)=((x <<< n).toNat:Int):=by
 rw [hm,← Int.natCast_mul,qf3,BitVec.toNat_shiftLeft,Nat.shiftLeft_eq]
theorem q9q (x:BitVec 32) (l:List UInt8) (st:List AObj) (hl:l.length<4294967281):qn E 253 [Wv x,Sv l] st fun r st'=>r=Wv (addP x l)∧st'=st:=by
 refine qu (qx _) (qo Tryz.func253 rfl (Nat.le_of_ble_eq_true rfl) ?_)
 repeat' (first|apply qm|apply qt|apply qd|apply qc|apply qi|apply qe|(apply w8;exact rfl;exact rfl;exact qut _))
 refine jh (fun (k:Nat) s=>k≤l.length∧StA [(1,Sv l),(5,Wv ((l.take k).foldl crcP (~~~ x))),(6,Iv k)] (st++[]) [] s) (fun k=>l.length - k) 0 ⟨by omega,zw ⟨rfl,rfl,rfl,trivial⟩⟩ ?_
 rintro k _ ⟨hk,t,rfl⟩
 generalize hx:(l.take k).foldl crcP (~~~ x)=y
 have hc:=UInt8.toNat_lt (l.getD k 0)
 repeat' (first|apply qm|apply qt|apply qd|apply qc|apply qi|apply qe|(apply qq;(iterate 3 exact rfl))|(apply qb;exact rfl;apply cd_d <;> intro h)|(apply zo;(iterate 3 exact rfl))|(apply vu;(iterate 3 exact rfl);exact cAs)|(apply qdg;exact rfl;exact rfl;(first|exact jw _|exact rfl);first|exact jw _|exact rfl)|apply qw|apply z7|apply qs|(apply qp7;(iterate 3 exact rfl);omega)|(apply qfr;exact rfl;exact rfl;exact q1j _ 0 24 _ rfl)|(apply w8;exact rfl;exact rfl;exact qut _))
 ·generalize hcc:l.getD k 0=c at *
  generalize hz:y ^^^ (BitVec.ofNat 32 c.toNat <<< 24)=z
  refine jh (fun (j:Nat) s=>j≤8∧StA [(1,Sv l),(5,Wv (wt j z)),(6,Iv k),(7,Iv j)] (st++[]) [] s) (fun j=>8 - j) 0 ⟨by omega,zw ⟨rfl,rfl,rfl,rfl,trivial⟩⟩ ?_
  rintro j _ ⟨hj,t2,rfl⟩
  generalize hq:wt j z=q
  have hql:=q.isLt
  repeat' (first|apply qm|apply qt|apply qd|apply qc|apply qi|apply qe|(apply qq;(iterate 3 exact rfl))|(apply qb;exact rfl;apply cd_d <;> intro h)|(apply zt;exact rfl;exact rfl;exact zb (by omega) (by omega))|(apply qdg;exact rfl;exact rfl;(first|exact jw _|exact rfl);first|exact jw _|exact rfl)|apply qw|apply z7|(apply ql9 (n:=2147483648);exact rfl;exact rfl;omega;exact qta (by omega))|(apply qfr;exact rfl;exact rfl;exact q1j _ 0 1 _ rfl))
  ·refine⟨j+1,⟨by omega,zw ⟨rfl,?_,rfl,rfl,trivial⟩⟩,by omega⟩
   refine congrArg Wv (?_:_=qba _)
   rw [hq]
   unfold qba
   rw [if_pos ((qvl q).2 (by omega))]
   rfl
  ·refine⟨j+1,⟨by omega,zw ⟨rfl,?_,rfl,rfl,trivial⟩⟩,by omega⟩
   refine congrArg Wv (?_:_=qba _)
   rw [hq]
   unfold qba
   rw [if_neg (fun h'=>absurd ((qvl q).1 h') (by omega))]
  ·have e:j=8:=by omega
   subst e
   refine⟨k+1,⟨by omega,zw ⟨rfl,?_,rfl,trivial⟩⟩,by omega⟩
   refine congrArg Wv (?_:q=_)
   rw [qam (by omega),List.foldl_append,hx,hcc]
   show q=crcP y c
   rw [q48,hz,hq]
 ·have e:k=l.length:=by omega
  subst e
  refine qk rfl (qz rfl) ⟨congrArg Wv (?_:_=_),_,rfl⟩
  unfold addP
  rw [← hx,List.take_length]
theorem qyy (l:List UInt8) (st:List AObj) (hl:l.length<4294967281):qn E 186 [Sv l] st fun r st'=>r=Wv (addP 0 l)∧st'=st:=by
 refine qu (qx _) (qo Tryz.func186 rfl (Nat.le_of_ble_eq_true rfl) ?_)
 repeat' (first|apply qm|apply qd|apply qc|apply qi|apply qe|apply qs|(apply qf;exact Tryz.call253;exact q9q 0 _ _ hl))
 exact qk rfl (qz rfl) ⟨rfl,_,rfl⟩
theorem q8q (x:BitVec 32) {j:Nat} (hj:j<8):figP x j=hexL.getD ((x >>> (4 * (7 - j))).toNat % 16) 0:=by
 unfold figP
 have e:((x >>> (4 * (7 - j))) &&& BitVec.ofInt 32 15).toNat=(x >>> (4 * (7 - j))).toNat % 16:=by
  rw [BitVec.toNat_and]
  exact Nat.and_two_pow_sub_one_eq_mod _ 4
 rw [e]
 rfl
theorem q5w {n:Nat} (h:n<16):(hexL.take (n+1)).drop n=[hexL.getD n 0]:=by
 have key:∀ i:Fin 16,(hexL.take (i.val+1)).drop i.val=[hexL.getD i.val 0]:=by decide +kernel
 exact key ⟨n,h⟩
theorem q26 (x:BitVec 32) {k:Nat} (h:k<8):(wo x 8).drop (8 - (k+1))=figP x (7 - k)::(wo x 8).drop (8 - k):=by
 have hlen:(wo x 8).length=8:=by simp [wo]
 rw [List.drop_eq_getElem_cons (by omega),show 8 - (k+1)+1=8 - k by omega]
 congr 1
 simp [wo,show 8 - (k+1)=7 - k by omega]
theorem qum (x:BitVec 32) (st:List AObj):qn E 185 [Wv x] st fun r st'=>r=Sv (wo x 8)∧st'=st:=by
 refine qu (qx _) (qo Tryz.func185 rfl (Nat.le_of_ble_eq_true rfl) ?_)
 have hlen:(wo x 8).length=8:=by simp [wo]
 repeat' (first|apply qm|apply qt|apply qd|apply qc|apply qe)
 refine jh (fun (k:Nat) s=>k≤8∧StA [(0,Wv (x >>> (4 * k))),(3,Sv ((wo x 8).drop (8 - k))),(4,Iv k)] (st++[]) [] s) (fun k=>8 - k) 0 ⟨by omega,zw ⟨by simp;rfl,by simp [hlen];rfl,rfl,trivial⟩⟩ ?_
 rintro k _ ⟨hk,t,rfl⟩
 have hn:(x >>> (4 * k)).toNat % 16<16:=Nat.mod_lt _ (by decide)
 have hd:((wo x 8).drop (8 - k)).length=k:=by simp [hlen];omega
 generalize hq:x >>> (4 * k)=q at *
 have hql:=q.isLt
 repeat' (first|apply qm|apply qt|apply qd|apply qc|apply qi|apply qe|(apply qq;(iterate 3 exact rfl))|(apply qb;exact rfl;apply cd_d <;> intro h)|(apply jl;exact rfl;exact rfl;exact cOs)|(apply zt;exact rfl;exact rfl;exact zb (by omega) (by omega))|(apply qgl;(iterate 4 exact rfl);exact cAs;exact cAs)|apply qw|apply z7|apply qs|(apply qtd (n:=16);exact rfl;exact rfl;omega)|(apply ql9 (n:=16);exact rfl;exact rfl;omega;exact qta (by omega))|(apply qtc (n:=1);exact rfl;exact rfl;exact qta (by omega)))
 ·refine⟨k+1,⟨by omega,zw ⟨?_,?_,rfl,trivial⟩⟩,by omega⟩
  ·refine congrArg (fun n:Nat=>AV.v (.int .u32 (n:Int))) (?_:q.toNat / 16=(x >>> (4 * (k+1))).toNat)
   rw [show 4 * (k+1)=4 * k+4 by omega,BitVec.shiftRight_add,hq,BitVec.toNat_ushiftRight,Nat.shiftRight_eq_div_pow]
  ·refine congrArg Sv (?_:(hexL.take (q.toNat % 16+1)).drop (q.toNat % 16)++_=_)
   rw [q26 x (by omega),q5w hn,q8q x (by omega),show 4 * (7 - (7 - k))=4 * k by omega,hq]
   rfl
 ·have e:k=8:=by omega
  subst e
  exact qk rfl (qz rfl) ⟨congrArg Sv (by simp),_,rfl⟩
end Go.Proofs.YtneejjefekdgjaaGreatDoor
namespace Go.Pl
open Go
def sp:Bool→qa→Bool
 | _,[]=>true
 |f,c::l=>(!f ||decide (c=32)) && sp (decide (c=10)) l
theorem ql4:∀ l,sp false l=sp true (past 10 l)
 | []=>rfl
 |c::l=>by
  by_cases h:c=10
  ·subst h;simp [sp,past,upto]
  ·have e:past 10 (c::l)=past 10 l:=by simp [past,upto,h]
   rw [e,← ql4 l]
   simp [sp,h]
theorem qy6 {l:qa} (h:l≠[]):sp true l=(decide ([32] <+: upto 10 l) && sp true (past 10 l)):=by
 cases l with
 |nil=>exact absurd rfl h
 |cons c r=>
  by_cases hc:c=10
  ·subst hc;simp [sp,upto]
  ·have e:past 10 (c::r)=past 10 r:=by simp [past,upto,hc]
   have e2:upto 10 (c::r)=c::upto 10 r:=by simp [upto,hc]
   rw [e,e2,← ql4]
   simp [sp,hc,eq_comm]
theorem qk5:∀ (n:Nat) (l:qa),l.length≤n→((∀ x∈zr l,[32] <+: x.1)↔sp true l=true)
 | 0,l,h=>by
  have:l=[]:=List.length_eq_zero_iff.1 (by omega)
  subst this
  simp [wh,sp]
 |n+1,l,h=>by
  by_cases hl:l=[]
  ·subst hl;simp [wh,sp]
  ·rw [wc hl,qy6 hl,Bool.and_eq_true,← qk5 n (past 10 l) (by have:=wi (c:=10) hl;omega)]
   simp only [List.mem_cons,forall_eq_or_imp,decide_eq_true_eq]
theorem qc0 (l:qa):(va [32] l).2=sp true l:=by
 unfold va
 by_cases h:sp true l=true
 ·rw [if_pos ((qk5 _ l (Nat.le_refl _)).2 h),h]
 ·rw [if_neg (fun h'=>h ((qk5 _ l (Nat.le_refl _)).1 h'))]
  simp only [Bool.not_eq_true] at h
  rw [h]
theorem q6y:∀ (f:Bool) (l m:qa),sp f (l++m)=true→sp f l=true
 | _,[],_,_=>rfl
 |f,c::l,m,h=>by
  simp only [List.cons_append,sp,Bool.and_eq_true] at h ⊢
  exact⟨h.1,q6y _ l m h.2⟩
def qdi (f:Bool) (l:qa):Bool:=match l.getLast? with|none=>f|some c=>decide (c=10)
theorem q24 (f:Bool) (c:UInt8) (l:qa):qdi f (c::l)=qdi (decide (c=10)) l:=by
 cases l with
 |nil=>simp [qdi]
 |cons b l=>
  unfold qdi
  rw [List.getLast?_cons_cons]
  cases hb:(b::l).getLast? with
  |none=>simp at hb
  |some x=>rfl
theorem qm8:∀ (f:Bool) (l m:qa),sp f (l++m)=(sp f l && sp (qdi f l) m)
 |f,[],m=>by simp [sp,qdi]
 |f,c::l,m=>by
  simp only [List.cons_append,sp]
  rw [qm8 _ l m,q24,Bool.and_assoc]
theorem qiy (l:qa):xm l↔2≤l.length∧l.length≤50000∧l.getLast? = some 10∧sp true l=true:=by
 unfold xm
 rw [qc0]
theorem qea:∀ (n u:Nat),u≤n→∀ c∈Lib.decDigits u,48≤c.toNat∧c.toNat≤57
 |n,u,hn,c,hc=>by
  by_cases h:u<10
  ·rw [Lib.decDigits_one h] at hc
   simp only [List.mem_singleton] at hc
   subst hc
   rw [UInt8.toNat_ofNat']
   omega
  ·rw [xl h,List.mem_append] at hc
   cases n with
   |zero=>omega
   |succ n=>
    rcases hc with hc|hc
    ·exact qea n (u / 10) (by omega) c hc
    ·exact qea n (u % 10) (by omega) c hc
theorem qej (n:Nat):Lib.itoa (n:Int)=Lib.decDigits n:=by
 unfold Lib.itoa
 rw [if_neg (by omega)]
 simp
theorem qpi (n:Nat):∀ c∈Lib.itoa (n:Int),48≤c.toNat∧c.toNat≤57:=by
 rw [qej]
 exact qea n n (Nat.le_refl _)
theorem qww (u:Nat):Lib.decDigits u≠[]:=by
 intro h
 have:=congrArg List.length h
 rw [Lib.decDigits_length] at this
 have:=Lib.nDigits_pos u
 simp at *
 omega
theorem qud:∀ (a:Nat) (l m:qa) (b:Nat),Lib.parseUint10 a l = .ok b→Lib.parseUint10 a (l++m)=Lib.parseUint10 b m
 |a,[],m,b,h=>by
  simp only [Lib.parseUint10,Lib.NumEnd.ok.injEq] at h
  subst h;rfl
 |a,c::l,m,b,h=>by
  simp only [List.cons_append,Lib.parseUint10] at h ⊢
  split at h
  ·rename_i hd
   rw [if_pos hd]
   split at h
   ·cases h
   ·rename_i h1
    rw [if_neg h1]
    split at h
    ·cases h
    ·rename_i h2
     rw [if_neg h2]
     exact qud _ l m b h
  ·cases h
theorem quf:∀ (n u:Nat),u≤n→u<1000000000000000000→Lib.parseUint10 0 (Lib.decDigits u) = .ok u
 |n,u,hn,hu=>by
  have key:∀ (a d:Nat),a<100000000000000000→d<10→Lib.parseUint10 a (Lib.decDigits d) = .ok (a * 10+d):=by
   intro a d ha hd
   have e:(UInt8.ofNat (48+d)).toNat=48+d:=by rw [UInt8.toNat_ofNat'];omega
   rw [Lib.decDigits_one hd]
   simp only [Lib.parseUint10,e]
   rw [if_pos (by omega),if_neg (by omega),if_neg (by omega)]
   congr 1
   omega
  by_cases h:u<10
  ·have:=key 0 u (by omega) h
   simpa using this
  ·cases n with
   |zero=>omega
   |succ n=>
    rw [xl h,qud 0 _ _ (u / 10) (quf n (u / 10) (by omega) (by omega)),key _ _ (by omega) (by omega)]
    congr 1
    omega
theorem q4t {n:Nat} (h:n<1000000000000000000):Lib.atoiAll (Lib.itoa (n:Int)) = .ok (n:Int):=by
 have hp:=quf n n (Nat.le_refl _) h
 have hd:=qea n n (Nat.le_refl _)
 rw [qej]
 cases hl:Lib.decDigits n with
 |nil=>exact absurd hl (qww n)
 |cons c r=>
  rw [hl] at hp hd
  have hc:=hd c (by simp)
  simp only [Lib.atoiAll]
  have h1:¬ (c.toNat=43∨c.toNat=45):=by omega
  rw [if_neg h1]
  have hm:Lib.parseMag (c::r) = .ok n:=by unfold Lib.parseMag;rw [if_neg (by simp)];exact hp
  rw [hm]
  have h2:¬ c.toNat=45:=by omega
  simp only [h2,not_false_iff,true_and,false_and,if_false]
  rw [if_neg (by omega)]
theorem qbz {n:Nat} (h1:1≤n) (h2:n≤50000):j6 (Lib.itoa (n:Int))=n:=by
 have:=qrg (q4t (n:=n) (by omega))
 rw [if_pos ⟨rfl,by omega,by omega⟩] at this
 omega
theorem qbo {l:qa} {n:Nat} (h:j6 l=n) (hn:1≤n):l=Lib.itoa (n:Int):=by
 unfold j6 at h
 split at h
 ·split at h
  ·rename_i v _ hv
   have:v=(n:Int):=by omega
   rw [← this,hv.1]
  ·omega
 ·omega
theorem qjy:∀ (n u j:Nat),u≤n→1≤u→1≤j→j≤(Lib.decDigits u).length→∃ m,1≤m∧m≤u∧(Lib.decDigits u).take j=Lib.decDigits m
 |n,u,j,hn,hu,hj,hl=>by
  by_cases h:u<10
  ·refine⟨u,hu,Nat.le_refl _,?_⟩
   rw [Lib.decDigits_one h] at hl ⊢
   simp only [List.length_singleton] at hl
   have:j=1:=by omega
   subst this
   rfl
  ·cases n with
   |zero=>omega
   |succ n=>
    rw [xl h] at hl ⊢
    have h1:(Lib.decDigits (u % 10)).length=1:=by rw [Lib.decDigits_one (by omega)];rfl
    rw [List.length_append,h1] at hl
    by_cases hj2:j≤(Lib.decDigits (u / 10)).length
    ·obtain⟨m,m1,m2,m3⟩:=qjy n (u / 10) j (by omega) (by omega) hj hj2
     exact⟨m,m1,by omega,by rw [List.take_append_of_le_length hj2,m3]⟩
    ·refine⟨u,hu,Nat.le_refl _,?_⟩
     rw [List.take_of_length_le (by rw [List.length_append,h1];omega),← xl h]
end Go.Pl
namespace Go.Proofs.YtneejjefekdgjaaGreatDoor
open Go Go.Pl
def vr (n:Nat) (fig:qa):qa:=q6++(Lib.itoa n++32::fig)
theorem q8s (n:Nat) (fig:qa):qhd n fig=vr n fig++[10]:=by simp [qhd,vr,q6]
theorem qdn (n:Nat) {c:UInt8} (h:¬ (48≤c.toNat∧c.toNat≤57)):c∉Lib.itoa (n:Int):=fun hc=>h (qpi n c hc)
theorem qmq {f:qa} (h:wb f) {c:UInt8} (hc:c∉hexL):c∉f:=fun h'=>hc (h c h')
theorem qbf (n:Nat) {fig:qa} (h:wb fig):10∉vr n fig:=by
 unfold vr
 simp only [List.mem_append,List.mem_cons,not_or]
 exact⟨by decide,qdn n (by decide),by decide,qmq h (by decide)⟩
theorem qhn (l:qa):Lib.trimPrefix (q6++l) q6=l:=by
 rw [qcl (List.prefix_append _ _),List.drop_left]
theorem qyb {n:Nat} {fig:qa} (h2:2≤n) (hn:n≤50000) (hf:fig.length=8) (hx:wb fig):z6 (vr n fig)=(n,fig,true):=by
 unfold z6 vr
 have h32:32∉Lib.itoa (n:Int):=qdn n (by decide)
 rw [qhn,ve fig h32,wx fig h32,qbz (by omega) hn]
 rw [decide_eq_true ⟨List.prefix_append _ _,by simp,h2,hf,hx⟩]
theorem qlf {n:Nat} {fig:qa} (r:qa) (h2:2≤n) (hn:n≤50000) (hf:fig.length=8) (hx:wb fig) :
  zd (vr n fig++10::r)=if r.length<n then (xh r ((n:Int) - r.length),[],0)
   else if xm (r.take n) then wg (r.drop n) (r.take n) fig (qcq n) else (3,[],0):=by
 have hm:10∈vr n fig++10::r:=by simp
 have h10:=qbf n hx
 unfold zd
 rw [if_pos hm,ve r h10,wx r h10,qyb h2 hn hf hx]
 simp only [if_true]
structure qnj (n:Nat) (fig body:qa):Prop where
 two:2≤n
 most:n≤50000
 len:body.length=n
 good:xm body
 figs:fig.length=8
 hex:wb fig
def recL (n:Nat) (fig body:qa):qa:=vr n fig++10::(body++yc n)
theorem qkb (l:qa):recF l=recL l.length (sumF l) l:=by
 unfold recF recL
 rw [q8s]
 simp
theorem qev {l a b:qa} (h:l <+: a++b):l <+: a∨∃ r,l=a++r∧r <+: b:=by
 rcases Nat.le_total l.length a.length with hl|hl
 ·exact .inl (List.prefix_of_prefix_length_le h (List.prefix_append _ _) hl)
 ·obtain⟨r,hr⟩:=List.prefix_of_prefix_length_le (List.prefix_append a b) h hl
  exact .inr ⟨r,hr.symm,by rw [← hr] at h;exact (List.prefix_append_right_inj a).1 h⟩
theorem qhr {a b:qa} {c:UInt8} (h:a <+: b) (hc:c∉b):c∉a:=fun h'=>hc (h.subset h')
theorem q3d {a b:qa} (h:a <+: b) (hb:wb b):wb a:=fun c hc=>hb c (h.subset hc)
theorem qm2 {n:Nat} {fig l:qa} (h2:2≤n) (hn:n≤50000) (hf:fig.length=8) (hx:wb fig) (h:l <+: vr n fig):w9 l=true:=by
 unfold vr at h
 rcases qev h with h | ⟨t,rfl,ht⟩
 ·unfold w9
  by_cases hb:q6 <+: l
  ·have e:l=q6:=(h.eq_of_length_le hb.length_le)
   rw [if_pos hb,e]
   decide
  ·rw [if_neg hb]
   exact decide_eq_true h
 ·unfold w9
  rw [if_pos (List.prefix_append _ _)]
  have ed:(q6++t).drop 7=t:=by rw [show (7:Nat)=q6.length by rfl,List.drop_left]
  rw [ed]
  have h32:32∉Lib.itoa (n:Int):=qdn n (by decide)
  rcases qev ht with ht | ⟨r,rfl,hr⟩
  ·have h3:32∉t:=qhr ht h32
   rw [wm h3]
   have hp:past 32 t=[]:=by unfold past;rw [wm h3];simp
   rw [hp]
   refine decide_eq_true ⟨fun h'=>h3 h'.1,fun h'=>?_,by simp,by intro c hc;simp at hc⟩
   obtain⟨hne,h0⟩:=h'
   rw [qej] at ht
   have hpos:1≤t.length:=List.length_pos_iff.2 hne
   obtain⟨m,m1,m2,m3⟩:=qjy n n t.length (Nat.le_refl _) (by omega) hpos ht.length_le
   rw [← List.prefix_iff_eq_take.1 ht,← qej] at m3
   rw [m3,qbz m1 (by omega)] at h0
   omega
  ·cases r with
   |nil=>
    rw [List.append_nil,wm h32]
    have hp:past 32 (Lib.itoa (n:Int))=[]:=by unfold past;rw [wm h32];simp
    rw [hp,qbz (by omega) hn]
    exact decide_eq_true ⟨fun h'=>h32 h'.1,fun h'=>by omega,by simp,by intro c hc;simp at hc⟩
   |cons c r=>
    obtain⟨rfl,hr2⟩:=List.cons_prefix_cons.1 hr
    rw [ve r h32,wx r h32,qbz (by omega) hn]
    exact decide_eq_true ⟨fun h'=>by omega,fun h'=>by omega,by have:=hr2.length_le;omega,q3d hr2 hx⟩
theorem qz9 {n:Nat} {r body:qa} (hg:xm body) (hl:body.length=n) (hr:r <+: body) (hlt:r.length<n):xh r ((n:Int) - r.length)=2:=by
 obtain⟨g1,g2,g3,g4⟩:=(qiy body).1 hg
 obtain⟨m,rfl⟩:=hr
 unfold xh
 rw [qc0]
 rw [qm8,Bool.and_eq_true] at g4
 refine if_pos ⟨g4.1,?_⟩
 rintro⟨h1,h2⟩
 have hm:m.length=1:=by simp at hl;omega
 obtain⟨c,rfl⟩:=List.length_eq_one_iff.1 hm
 rw [List.getLast?_append] at g3
 simp at g3
 subst g3
 have hf:qdi true r=true:=by
  unfold qdi
  rcases h1 with rfl|h1
  ·rfl
  ·rw [h1];rfl
 rw [hf] at g4
 simp [sp] at g4
theorem zb1 {n:Nat} {fig body l:qa} (R:qnj n fig body) (h:l <+: recL n fig body) (hl:l.length<(recL n fig body).length):zd l=(2,[],0):=by
 obtain⟨h2,hn,hlen,hg,hf,hx⟩:=R
 unfold recL at h hl
 rcases qev h with h | ⟨r,rfl,hr⟩
 ·have h10:10∉l:=qhr h (qbf n hx)
  unfold zd
  rw [if_neg h10,if_pos (qm2 h2 hn hf hx h)]
 ·cases r with
  |nil=>
   rw [List.append_nil]
   unfold zd
   rw [if_neg (qbf n hx),if_pos (qm2 h2 hn hf hx (List.prefix_refl _))]
  |cons c r=>
   obtain⟨rfl,hr2⟩:=List.cons_prefix_cons.1 hr
   rw [qlf r h2 hn hf hx]
   rcases qev hr2 with hr | ⟨q,rfl,hq⟩
   ·by_cases hlt:r.length<n
    ·rw [if_pos hlt,qz9 hg hlen hr hlt]
    ·have e:r=body:=hr.eq_of_length_le (by omega)
     subst e
     rw [if_neg hlt,← hlen,List.take_length,if_pos hg,List.drop_length]
     unfold wg
     rw [if_pos ⟨by rw [yy];simp,by simp⟩]
   ·rw [if_neg (by simp;omega),← hlen,List.take_left,List.drop_left,if_pos hg]
    unfold wg
    rw [if_pos ⟨by simp at hl;rw [hlen];omega,by rw [hlen];exact hq⟩]
theorem qrl (f:qa) (hl:f.length≤8) (hx:wb f):∃ g:qa,g.length=8∧wb g∧f <+: g:=
 ⟨f++List.replicate (8 - f.length) 48,by simp;omega,fun c hc=>by
  rw [List.mem_append,List.mem_replicate] at hc
  rcases hc with hc | ⟨_,rfl⟩
  ·exact hx c hc
  ·decide,List.prefix_append _ _⟩
theorem qsy:∀ (k:Nat),sp false (List.replicate k 97++[10])=true
 | 0=>by simp [sp]
 |k+1=>by rw [List.replicate_succ,List.cons_append];simp only [sp];exact by simpa using qsy k
theorem qwn {n:Nat} {r:qa} (hn:n≤50000) (hlt:r.length<n) (h2:2≤n) (hp:xh r ((n:Int) - r.length)=2):∃ body:qa,body.length=n∧xm body∧r <+: body:=by
 unfold xh at hp
 split at hp
 ·rename_i h
  obtain⟨hs,hfr⟩:=h
  rw [qc0] at hs
  by_cases hf:r=[]∨r.getLast? = some 10
  ·have hk:r.length+2≤n:=by
    rcases Nat.lt_or_ge (r.length+1) n with h|h
    ·omega
    ·exact absurd ⟨hf,by omega⟩ hfr
   refine⟨r++(32::(List.replicate (n - r.length - 2) 97++[10])),by simp;omega,?_,List.prefix_append _ _⟩
   rw [qiy]
   refine⟨by simp;omega,by simp;omega,by simp [List.getLast?_append,List.getLast?_cons],?_⟩
   rw [qm8,hs]
   simp only [sp,Bool.true_and]
   have:=qsy (n - r.length - 2)
   simpa using this
  ·refine⟨r++(List.replicate (n - r.length - 1) 97++[10]),by simp;omega,?_,List.prefix_append _ _⟩
   rw [qiy]
   refine⟨by simp;omega,by simp;omega,by simp [List.getLast?_append],?_⟩
   rw [qm8,hs]
   have e:qdi true r=false:=by
    unfold qdi
    cases hq:r.getLast? with
    |none=>exact absurd (.inl (List.getLast?_eq_none_iff.1 hq)) hf
    |some c=>
     refine decide_eq_false fun h=>hf (.inr ?_)
     rw [hq,h]
   rw [e,qsy]
   rfl
 ·simp at hp
theorem qe1 {n:Nat} (h2:2≤n) (hn:n≤50000):∃ body:qa,body.length=n∧xm body:=by
 obtain⟨b,h1,h3,_⟩:=qwn (n:=n) (r:=[]) hn (by simp;omega) h2 (by
  unfold xh
  rw [qc0]
  rw [if_pos ⟨rfl,by rintro⟨_,h⟩;simp at h;omega⟩])
 exact⟨b,h1,h3⟩
theorem qgy {a b c:qa} (h:a <+: b):a <+: b++c:=h.trans (List.prefix_append _ _)
theorem qes {n:Nat} {fig body l:qa} (h:l <+: vr n fig):l <+: recL n fig body∧l.length<(recL n fig body).length:=by
 refine⟨qgy h,?_⟩
 have:=h.length_le
 unfold recL
 simp
 omega
theorem zbz {l:qa} (h:(zd l).1=2):∃ n fig body,qnj n fig body∧l <+: recL n fig body∧l.length<(recL n fig body).length:=by
 unfold zd at h
 split at h
 ·rename_i h10
  split at h
  ·rename_i ho
   generalize hr:past 10 l=r at *
   have hl:=vk h10
   rw [hr] at hl
   generalize hu:upto 10 l=u at *
   -- the first line
   have hop:u=vr (z6 u).1 (z6 u).2.1∧2≤(z6 u).1∧(z6 u).1≤50000∧(z6 u).2.1.length=8∧wb (z6 u).2.1:=by
    simp only [z6,decide_eq_true_eq] at ho ⊢
    obtain⟨o1,o2,o3,o4,o5⟩:=ho
    refine⟨?_,o3,yr _,o4,o5⟩
    obtain⟨t,rfl⟩:=o1
    rw [qhn] at *
    have:=qbo rfl (Nat.le_trans (by decide) o3)
    unfold vr
    rw [← this,← vk o2]
   generalize (z6 u).1=n at *
   generalize (z6 u).2.1=fig at *
   obtain⟨rfl,h2,hn,hf,hx⟩:=hop
   split at h
   ·rename_i hlt
    obtain⟨body,b1,b2,b3⟩:=qwn hn hlt h2 h
    refine⟨n,fig,body,⟨h2,hn,b1,b2,hf,hx⟩,?_,?_⟩
    ·rw [hl]
     unfold recL
     rw [List.prefix_append_right_inj,List.cons_prefix_cons]
     exact⟨rfl,qgy b3⟩
    ·rw [hl]
     unfold recL
     have:=b3.length_le
     have:=yy n
     simp
     omega
   ·rename_i hge
    split at h
    ·rename_i hg
     have hlen:(r.take n).length=n:=by simp;omega
     refine⟨n,fig,r.take n,⟨h2,hn,hlen,hg,hf,hx⟩,?_⟩
     unfold wg at h
     rw [hlen] at h
     split at h
     ·rename_i hc
      rw [hl]
      unfold recL
      constructor
      ·rw [List.prefix_append_right_inj,List.cons_prefix_cons]
       refine⟨rfl,?_⟩
       conv=>lhs;rw [← List.take_append_drop n r]
       rw [List.prefix_append_right_inj]
       exact hc.2
      ·have:=hc.1
       simp at this ⊢
       omega
     ·split at h <;> simp at h
    ·simp at h
  ·simp at h
 ·rename_i h10
  split at h
  ·rename_i ho
   unfold w9 at ho
   split at ho
   ·rename_i hb
    obtain⟨t,rfl⟩:=hb
    have ed:(q6++t).drop 7=t:=by rw [show (7:Nat)=q6.length by rfl,List.drop_left]
    rw [ed] at ho
    obtain⟨o1,o2,o3,o4⟩:=of_decide_eq_true ho
    by_cases h32:32∈t
    ·have hn2:2≤j6 (upto 32 t):=by
      rcases Nat.lt_or_ge (j6 (upto 32 t)) 2 with h|h
      ·exact absurd ⟨h32,h⟩ o1
      ·exact h
     obtain⟨fig,f1,f2,f3⟩:=qrl _ o3 o4
     obtain⟨body,b1,b2⟩:=qe1 hn2 (yr _)
     refine⟨_,fig,body,⟨hn2,yr _,b1,b2,f1,f2⟩,qes ?_⟩
     unfold vr
     rw [List.prefix_append_right_inj]
     conv=>lhs;rw [vk h32]
     rw [qbo (l:=upto 32 t) rfl (by omega)]
     rw [qbz (by omega) (yr _),List.prefix_append_right_inj,List.cons_prefix_cons]
     exact⟨rfl,f3⟩
    ·rw [wm h32] at o2
     by_cases ht:t=[]
     ·subst ht
      obtain⟨body,b1,b2⟩:=qe1 (n:=2) (by omega) (by omega)
      refine⟨2,List.replicate 8 48,body,⟨by omega,by omega,b1,b2,by simp,by decide⟩,qes ?_⟩
      unfold vr
      simp
     ·have hpos:1≤j6 t:=by
       rcases Nat.eq_zero_or_pos (j6 t) with h|h
       ·exact absurd ⟨ht,h⟩ o2
       ·exact h
      have hle:=yr t
      have ht2:=qbo (l:=t) rfl hpos
      generalize j6 t=m at *
      subst ht2
      by_cases hm:m=1
      ·subst hm
       obtain⟨body,b1,b2⟩:=qe1 (n:=10) (by omega) (by omega)
       refine⟨10,List.replicate 8 48,body,⟨by omega,by omega,b1,b2,by simp,by decide⟩,qes ?_⟩
       unfold vr
       rw [List.prefix_append_right_inj]
       have e1:Lib.itoa ((1:Nat):Int)=[49]:=by rw [qej,Lib.decDigits_one (by decide)];rfl
       have e2:Lib.itoa ((10:Nat):Int)=[49,48]:=by rw [qej,xl (by decide),Lib.decDigits_one (by decide),Lib.decDigits_one (by decide)];rfl
       rw [e1,e2]
       exact⟨_,rfl⟩
      ·obtain⟨body,b1,b2⟩:=qe1 (n:=m) (by omega) (by omega)
       refine⟨m,List.replicate 8 48,body,⟨by omega,by omega,b1,b2,by simp,by decide⟩,qes ?_⟩
       unfold vr
       rw [List.prefix_append_right_inj]
       exact List.prefix_append _ _
   ·rename_i hb
    have hp:=of_decide_eq_true ho
    obtain⟨body,b1,b2⟩:=qe1 (n:=2) (by omega) (by omega)
    refine⟨2,List.replicate 8 48,body,⟨by omega,by omega,b1,b2,by simp,by decide⟩,qes ?_⟩
    unfold vr
    exact qgy hp
  ·simp at h
theorem qoo (s:BitVec 32):wb (wo s 8):=by
 intro c hc
 simp only [wo,List.mem_map] at hc
 obtain⟨j,_,rfl⟩:=hc
 unfold figP
 have h:=Go.Av.and15_lt (s >>> (4 * (7 - j)))
 generalize ((s >>> (4 * (7 - j))) &&& BitVec.ofInt 32 15).toNat=k at h
 have key:∀ i:Fin 16,([48,49,50,51,52,53,54,55,56,57,97,98,99,100,101,102]:qa).getD i.val 0∈hexL:=by decide
 exact key ⟨k,h⟩
theorem q3t {b:qa} (h:xm b):qnj b.length (sumF b) b:=⟨h.1,h.2.1,rfl,h,qgg b,qoo _⟩
theorem qjl (b:qa) (h:xm b):((recF b).length:Int)=qcq b.length:=by
 obtain⟨g1,g2,_⟩:=h
 unfold recF qcq
 rw [if_neg (by omega)]
 simp only [List.length_append,qbx,qgg]
 simp
theorem q9o {b:qa} (m:qa) (h:xm b):zd (recF b++m)=(1,b,((recF b).length:Int)):=by
 have R:=q3t h
 rw [qjl b h,qkb]
 unfold recL
 rw [List.append_assoc,List.cons_append,List.append_assoc,qlf _ R.two R.most R.figs R.hex,if_neg (by simp),List.take_left,List.drop_left,if_pos h]
 unfold wg
 rw [if_neg (by simp;intro h;omega),if_pos ⟨List.prefix_append _ _,rfl⟩]
end Go.Proofs.YtneejjefekdgjaaGreatDoor
namespace Go.Proofs.YtneejjefekdgjaaGreatDoor
open Go Go.Av Go.RowKit Go.Proofs Go.Pl
theorem q5k {l:qa} {k:Nat} (hk:k<l.length):qdi true (l.take k)=decide (k=0∨l.getD (k - 1) 0=10):=by
 cases k with
 |zero=>simp [qdi]
 |succ k=>
  rw [qam (by omega)]
  simp [qdi,List.getLast?_append]
theorem q1y {l:qa} {k:Nat} (hk:k<l.length):sp true (l.take (k+1))=(sp true (l.take k) && (!decide (k=0∨l.getD (k - 1) 0=10) ||decide (l.getD k 0=32))):=by
 rw [qam hk,qm8,q5k hk]
 simp [sp]
theorem zdm {l:qa} {k:Nat} (hk:k<l.length) (h1:k=0∨l.getD (k - 1) 0=10) (h2:l.getD k 0≠32):sp true l=false:=by
 cases h:sp true l with
 |false=>rfl
 |true=>
  have e:=q6y true (l.take (k+1)) (l.drop (k+1)) (by rw [List.take_append_drop];exact h)
  rw [q1y hk,decide_eq_true h1,decide_eq_false h2] at e
  simp at e
theorem zd8 {l:qa} {k:Nat} (hk:k<l.length) (h1:sp true (l.take k)=true) (h2:(k=0∨l.getD (k - 1) 0=10)→l.getD k 0=32):sp true (l.take (k+1))=true:=by
 rw [q1y hk,h1]
 by_cases h:k=0∨l.getD (k - 1) 0=10
 ·rw [decide_eq_true h,decide_eq_true (h2 h)];rfl
 ·rw [decide_eq_false h];rfl
theorem qrs (l:List UInt8) (st:List AObj) (hl:l.length<4294967281):qn E 249 [Sv l] st fun r st'=>r=Bv (sp true l)∧st'=st:=by
 refine qu (qx _) (qo Tryz.func249 rfl (Nat.le_of_ble_eq_true rfl) ?_)
 repeat' (first|apply qm|apply qt|apply qd|apply qc|apply qe)
 refine jh (fun (k:Nat) s=>k≤l.length∧sp true (l.take k)=true∧StA [(0,Sv l),(3,Iv k)] (st++[]) [] s) (fun k=>l.length - k) 0 ⟨by omega,by simp [sp],zw ⟨rfl,rfl,trivial⟩⟩ ?_
 rintro k _ ⟨hk,h1,t,rfl⟩
 repeat' (first|apply qm|apply qt|apply qd|apply qc|apply qi|apply qe|(apply qq;(iterate 3 exact rfl))|(apply qv;(iterate 4 exact rfl))|(apply xq;exact cAo)|(apply vl;exact cAo)|(apply vq;exact cAo)|(apply xc;exact cAo)|(apply yj;exact cRa)|(apply je <;> intro h)|(apply qh;exact rfl;apply wp;exact cAo)|(apply qh;exact rfl;apply v8;exact cAo)|(apply qh;exact rfl;apply pk_t;exact cRa)|(apply qb;exact rfl;apply cd_f;exact cRa)|(apply qb;exact rfl;apply cd_d <;> intro h)|(apply zo;(iterate 3 exact rfl))|(apply zt;exact rfl;exact rfl;exact zb (by omega) (by omega))|(apply w8;exact rfl;exact rfl;exact zb (by omega) (by omega))|(apply vu;(iterate 3 exact rfl);exact cAs)|apply qw|apply z7|apply qs|(apply qf6;(iterate 3 exact rfl);omega;omega))
 all_goals
  have e1:((k:Int) - 1).toNat=k - 1:=by omega
  simp only [e1,qr5,qa1,Classical.not_not] at *
 all_goals first
  |exact qk rfl (qz rfl) ⟨congrArg Bv (zdm (k:=k) (by omega) (by first|(left;omega)|(right;assumption)) (by assumption)).symm,_,rfl⟩
  |exact⟨k+1,⟨by omega,zd8 (by omega) h1 (by first|(intro _;assumption)|(rintro (h|h);omega;contradiction)),zw ⟨rfl,rfl,trivial⟩⟩,by omega⟩
  |skip
 have e:k=l.length:=by omega
 subst e
 rw [List.take_length] at h1
 exact qk rfl (qz rfl) ⟨congrArg Bv h1.symm,_,rfl⟩
theorem q6q (l:List UInt8) (st:List AObj) (hl:l.length<4294967281):qn E 250 [Sv l] st fun r st'=>r=Bv (decide (xm l))∧st'=st:=by
 refine qu (qx _) (qo Tryz.func250 rfl (Nat.le_of_ble_eq_true rfl) ?_)
 repeat' (first|apply qm|apply qd|apply qc|apply qi|apply qe|(apply qq;(iterate 3 exact rfl))|(apply qv;(iterate 4 exact rfl))|(apply xq;exact cAo)|(apply xc;exact cAo)|(apply ww;exact cRa)|(apply je <;> intro h)|(apply qh;exact rfl;apply wp;exact cAo)|(apply qh;exact rfl;apply v8;exact cAo)|(apply qh;exact rfl;apply pk_f;exact cRa)|(apply zo;(iterate 3 exact rfl))|(apply w8;exact rfl;exact rfl;exact zb (by omega) (by omega))|apply qs|(apply qf6;(iterate 3 exact rfl);omega;omega)|(apply qf;exact Tryz.call249;exact qrs _ _ hl))
 all_goals
  have g:=qiy l
  have g2:1≤l.length→(l.getLast? = some 10↔((l.getD ((l.length:Int) - 1).toNat 0).toNat:Int)=10):=fun h=>by
   have e:((l.length:Int) - 1).toNat=l.length - 1:=by omega
   rw [e,qa1,List.getLast?_eq_getElem?]
   simp [List.getD,show l.length - 1<l.length by omega]
  refine qk rfl (qz rfl) ⟨congrArg Bv (?_:_=decide (xm l)),_,rfl⟩
 ·have e:xm l↔sp true l=true:=by rw [g];exact⟨fun h=>h.2.2.2,fun h=>⟨by omega,by omega,(g2 (by omega)).2 (by assumption),h⟩⟩
  simp [e]
 ·exact (decide_eq_false fun h=>by rw [g] at h;exact absurd ((g2 (by omega)).1 h.2.2.1) (by assumption)).symm
 ·exact (decide_eq_false fun h=>by rw [g] at h;omega).symm
 ·exact (decide_eq_false fun h=>by rw [g] at h;omega).symm
theorem qjm (n:Nat) (f:List UInt8) (st:List AObj) (hn:n≤9223372036854775807) (hf:f.length<4294967281):qn E 184 [Iv n,Sv f] st fun r st'=>r = .tu [Sv (qhd n f),Sv (yc n)]∧st'=st:=by
 refine qu (qi8 _ _) (qo Tryz.func184 rfl (Nat.le_of_ble_eq_true rfl) ?_)
 have h1:=qcf n hn
 repeat' (first|apply qm|apply qd|apply qc|apply qi|apply qe|(apply jl;exact rfl;exact rfl;exact cOs)|apply qs|(apply qf;exact Tryz.call114;exact qed _ _ (by omega) (by omega)))
 exact qk rfl (j5 rfl) ⟨zec (by simp [qhd,yc]),_,rfl⟩
theorem q0h (l:List UInt8) (st:List AObj) (hl:l.length≤50000):qn E 109 [Sv l] st fun r st'=>r=Sv (recF l)∧st'=st:=by
 refine qu (qx _) (qo Tryz.func109 rfl (Nat.le_of_ble_eq_true rfl) ?_)
 have h1:=qcf l.length (by omega)
 have h2:=qbx l.length (wo (addP 0 l) 8)
 have h3:=yy l.length
 have h4:(wo (addP 0 l) 8).length=8:=by simp [wo]
 repeat' (first|(apply q8g;first|apply qm|apply qt|apply qd|(apply qb;exact rfl;apply ki;exact cAo)|(apply qb;exact rfl;apply vw;exact cAo)|(apply qb;exact rfl;apply qkr;exact cRa)|(apply qb;exact rfl;apply qiq;exact cRa)|(apply qb;exact rfl;apply cd_n <;> intro h)|(apply qb;exact rfl;apply cd_t;exact cRa)|(apply qb;exact rfl;apply cd_f;exact cRa)|(apply qb;exact rfl;apply cd_d <;> intro h)|(apply qb;exact rfl;apply cd_s <;> intro h)|(apply qau;exact rfl;kernel_rfl)|apply qw|apply z7|apply qs)|(apply q20;first|(apply qv;(iterate 4 exact rfl))|(apply qat;(iterate 4 exact rfl)))|(apply zbd;first|(apply xq;exact cAo)|(apply vl;exact cAo)|(apply vq;exact cAo)|(apply xc;exact cAo)|(apply qt4;exact cRa)|(apply yw;exact cRa)|(apply qbe;exact cRa)|(apply qq2;exact cRa)|(apply qhc <;> intro h)|(apply yj;exact cRa)|(apply qei;exact cRa)|(apply qak;exact cRa)|(apply ww;exact cRa)|(apply je <;> intro h)|(apply qfy <;> intro h))|(apply zbc;first|apply qbv|(apply q0v;(iterate 4 exact rfl))|(apply q4r;exact rfl;exact rfl;exact zb (by omega) (by omega))|(apply q0x;(iterate 4 exact rfl);exact cAs;exact cAs)|(apply qn7;(iterate 5 exact rfl))|(apply qik;exact rfl;exact rfl;exact cOs)|(apply qag;(iterate 3 exact rfl))|(apply qn6;(iterate 5 exact rfl))|(apply y0;(iterate 4 exact rfl))|(apply qqd;(iterate 3 exact rfl))|(apply q4o;(iterate 3 exact rfl);exact cAs)|(apply q0w;exact rfl;exact rfl)|(apply qwf;exact rfl;exact rfl)|(apply qwg;(iterate 3 exact rfl);omega)|(apply qtf;(iterate 3 exact rfl))|apply qao|apply qij|(apply qwe;exact rfl;exact rfl;exact zb (by omega) (by omega))|(apply zas;(iterate 3 exact rfl))|(apply qsd;(iterate 3 exact rfl);exact cAs)|(apply qsc;(iterate 3 exact rfl);exact cAs)|(apply qqc;exact rfl;exact rfl))|(apply q2z;first|(apply qq;(iterate 3 exact rfl))|(apply jg;(iterate 3 exact rfl))|(apply jl;exact rfl;exact rfl;exact cOs)|(apply zt;exact rfl;exact rfl;exact zb (by omega) (by omega))|(apply w8;exact rfl;exact rfl;exact zb (by omega) (by omega))|(apply wz;exact rfl;exact rfl)|(apply vt;exact rfl;exact rfl)|(apply qa2;exact rfl;exact rfl)|(apply qd7;exact rfl;exact rfl)|(apply qck;(iterate 3 exact rfl))|(apply qgu;(iterate 3 exact rfl))|(apply qdg;exact rfl;exact rfl;(first|exact jw _|exact rfl);first|exact jw _|exact rfl)|(apply qkl;exact rfl;exact rfl;(first|exact jw _|exact rfl);first|exact jw _|exact rfl)|(apply q4m;exact rfl;exact rfl;(first|exact jw _|exact rfl);first|exact jw _|exact rfl)|(apply qe7;(iterate 3 exact rfl))|(apply qg5;(iterate 3 exact rfl)))|(apply q5f;first|(apply zg;(iterate 3 exact rfl))|(apply zz;(iterate 5 exact rfl))|(apply za;(iterate 5 exact rfl)))|(apply q5g;first|(apply qqa;exact rfl)|(apply jd;exact rfl)|(apply qht;exact rfl))|(apply q21;first|(apply qa5;(iterate 3 exact rfl);exact cAs)|(apply qgk;(iterate 3 exact rfl);exact cAs)|(apply qgl;(iterate 4 exact rfl);exact cAs;exact cAs)|(apply qjr;(iterate 4 exact rfl);(first|assumption|omega|exact Nat.succ_le_succ (Nat.zero_le _)|(simp;omega));exact rfl))|(apply q5e;first|(apply zo;(iterate 3 exact rfl))|(apply kl;(iterate 4 exact rfl)))|(apply qsk;first|(apply zm;(iterate 3 exact rfl))|(apply qae;(iterate 4 exact rfl)))|(apply q22;first|(apply qfs;(iterate 11 exact rfl))|(apply jk;(iterate 11 exact rfl)))|(apply q8h;first|apply qc|apply qi|apply qe|(apply q9;exact rfl;exact rfl)|(apply qh;exact rfl;apply wp;exact cAo)|(apply qh;exact rfl;apply v8;exact cAo)|(apply qh;exact rfl;apply qhj;exact cRa)|(apply qh;exact rfl;apply qec;exact cRa)|(apply qh;exact rfl;apply pk_t;exact cRa)|(apply qh;exact rfl;apply pk_f;exact cRa)|(apply vf;exact rfl;exact rfl)|apply qgt|(apply kc;exact rfl;exact rfl)|(apply qbm;(iterate 4 exact rfl))|(apply qkm;(iterate 3 exact rfl))|(apply vu;(iterate 3 exact rfl);exact cAs)|(apply xi;(iterate 3 exact rfl))|(apply zx;(iterate 9 exact rfl))|(apply w6;exact rfl;exact rfl)|(apply qjd;(iterate 4 exact rfl);(first|assumption|omega|decide);exact rfl)|(apply qcu;(iterate 4 exact rfl);first|assumption|omega|decide))|(apply qf;exact Tryz.call186;exact qyy _ _ (by omega))|(apply qf;exact Tryz.call185;exact qum _ _)|(apply qf;exact Tryz.call184;exact qjm l.length (wo (addP 0 l) 8) _ (by omega) (by omega)))
 exact qk rfl (qz rfl) ⟨rfl,_,rfl⟩
theorem qov (n:Int) (st:List AObj):qn E 108 [Iv n] st fun r st'=>r=Iv (qcq n)∧st'=st:=by
 refine qu (qx _) (qo Tryz.func108 rfl (Nat.le_of_ble_eq_true rfl) ?_)
 by_cases hr:n<2∨50000<n
 ·skip
  repeat' (first|apply qm|apply qd|apply qc|apply qi|apply qe|(apply qq;(iterate 3 exact rfl))|(apply qv;(iterate 4 exact rfl))|(apply vl;exact cAo)|(apply vq;exact cAo)|(apply je <;> intro h)|(apply qh;exact rfl;apply wp;exact cAo)|(apply qh;exact rfl;apply v8;exact cAo)|(apply qb;exact rfl;apply ki;exact cAo)|(apply qb;exact rfl;apply cd_t;exact cRa)|apply qs)
  all_goals refine qk rfl (qz rfl) ⟨congrArg Iv (?_:_=_),_,rfl⟩
  all_goals first|exact (if_pos hr).symm|omega
 ·obtain⟨k,rfl⟩:=Int.eq_ofNat_of_zero_le (by omega:0≤n)
  have h1:=qcf k (by omega)
  have h2:=qbx k [48,48,48,48,48,48,48,48]
  have h3:=yy k
  have h4:([48,48,48,48,48,48,48,48]:List UInt8).length=8:=rfl
  repeat' (first|apply qm|apply qd|apply qc|apply qi|apply qe|(apply q9;exact rfl;exact rfl)|(apply qq;(iterate 3 exact rfl))|(apply qv;(iterate 4 exact rfl))|(apply vl;exact cAo)|(apply qh;exact rfl;apply v8;exact cAo)|(apply qb;exact rfl;apply vw;exact cAo)|(apply zo;(iterate 3 exact rfl))|(apply zt;exact rfl;exact rfl;exact zb (by omega) (by omega))|apply qw|apply qs|(apply qf;exact Tryz.call184;exact qjm k [48,48,48,48,48,48,48,48] _ (by omega) (by decide)))
  refine qk rfl (qz rfl) ⟨congrArg Iv (?_:_=_),_,rfl⟩
  unfold qcq
  rw [if_neg hr]
  rfl
theorem q09 {l:qa} (h:0<l.length):l.head? = some 37↔((l.getD 0 0).toNat:Int)=37:=by
 cases l with
 |nil=>simp at h
 |cons c l=>
  simp only [List.head?_cons,Option.some.injEq,List.getD_cons_zero]
  exact (zed _).symm
theorem qyn (l:List UInt8) (st:List AObj) (hl:l.length<4294967281):qn E 178 [Sv l] st fun r st'=>r=Bv (decide (l.head? = some 37∧qy l=5))∧st'=st:=by
 refine qu (qx _) (qo Tryz.func178 rfl (Nat.le_of_ble_eq_true rfl) ?_)
 repeat' (first|apply qm|apply qd|apply qc|apply qi|apply qe|(apply qq;(iterate 3 exact rfl))|(apply qv;(iterate 4 exact rfl))|(apply xq;exact cAo)|(apply xc;exact cAo)|(apply ww;exact cRa)|(apply je <;> intro h)|(apply qh;exact rfl;apply wp;exact cAo)|(apply qh;exact rfl;apply v8;exact cAo)|(apply qh;exact rfl;apply pk_f;exact cRa)|(apply zo;(iterate 3 exact rfl))|(apply vu;(iterate 3 exact rfl);exact cAs)|apply qs|(apply qf;exact Tryz.call138;exact qgq _ _ hl))
 all_goals refine qk rfl (qz rfl) ⟨congrArg Bv (?_:_=decide (l.head? = some 37∧qy l=5)),_,rfl⟩
 ·have e:l.head? = some 37:=(q09 (by omega)).2 (by assumption)
  simp [e]
 ·exact (decide_eq_false fun h=>absurd ((q09 (by omega)).1 h.1) (by assumption)).symm
 ·have e:l=[]:=List.length_eq_zero_iff.1 (by omega)
  subst e
  rfl
end Go.Proofs.YtneejjefekdgjaaGreatDoor
namespace Go.Proofs.YtneejjefekdgjaaGreatDoor
open Go Go.Pl
theorem qf7:(10:UInt8)∉q6:=by decide
theorem qrh {l:qa} (h1:10∈l→(z6 (upto 10 l)).2.2=false) (h2:10∉l→w9 l=false):zd l=(3,[],0):=by
 unfold zd
 by_cases h:10∈l
 ·rw [if_pos h,if_neg (by rw [h1 h];simp)]
 ·rw [if_neg h,if_neg (by rw [h2 h];simp)]
theorem q96 (c:UInt8) (l:qa):upto c l <+: l:=by
 rw [← qe3 c l]
 exact List.take_prefix _ _
theorem R1 {l:qa} (hl:l.length≤7) (h:l <+: q6):zd l=(2,[],0):=by
 have h10:10∉l:=qhr h qf7
 unfold zd
 rw [if_neg h10,if_pos ?_]
 unfold w9
 by_cases hb:q6 <+: l
 ·rw [if_pos hb,h.eq_of_length_le hb.length_le];decide
 ·rw [if_neg hb];exact decide_eq_true h
theorem R2 {l:qa} (hl:l.length≤7) (h:¬ l <+: q6):zd l=(3,[],0):=by
 refine qrh (fun h10=>decide_eq_false fun h'=>?_) (fun h10=>?_)
 ·have:=h'.1.length_le
  have:=qdv h10
  have e:q6.length=7:=rfl
  omega
 ·unfold w9
  by_cases hb:q6 <+: l
  ·have:=hb.eq_of_length_le hl
   exact absurd (this▸List.prefix_refl _) h
  ·rw [if_neg hb];exact decide_eq_false h
theorem R3 {l:qa} (hl:7<l.length) (h:¬ q6 <+: l):zd l=(3,[],0):=by
 refine qrh (fun h10=>decide_eq_false fun h'=>h (h'.1.trans (q96 10 l))) (fun h10=>?_)
 unfold w9
 rw [if_neg h]
 refine decide_eq_false fun h'=>?_
 have:=h'.length_le
 have e:q6.length=7:=rfl
 omega
theorem qis {n:Nat} {s r:qa} {c:UInt8} (hc:x2 c=false) (h:s=Lib.itoa (n:Int)++c::r):s.takeWhile x2=Lib.itoa (n:Int):=by
 subst h
 have hd:=qpi n
 rw [List.takeWhile_append_of_pos (fun x hx=>by simp only [x2,decide_eq_true_eq];exact hd x hx),List.takeWhile_cons_of_neg (by simp [hc]),List.append_nil]
theorem qs9 {p:UInt8→Bool} {l:qa}:l.takeWhile p=l↔∀ c∈l,p c=true:=by
 induction l with
 |nil=>simp
 |cons b l ih=>
  by_cases h:p b=true
  ·rw [List.takeWhile_cons_of_pos h];simp [ih,h]
  ·rw [List.takeWhile_cons_of_neg h];simp [h]
theorem q8f {n:Nat}:(Lib.itoa (n:Int)).takeWhile x2=Lib.itoa (n:Int):=by
 rw [qs9]
 intro x hx
 simp only [x2,decide_eq_true_eq]
 exact qpi n x hx
theorem qs3 {p:UInt8→Bool} (s:qa):s.take (s.takeWhile p).length=s.takeWhile p:=by
 induction s with
 |nil=>rfl
 |cons b s ih=>
  by_cases h:p b=true
  ·rw [List.takeWhile_cons_of_pos h];simp [ih]
  ·rw [List.takeWhile_cons_of_neg h];rfl
theorem qmn {s:qa} (hs:s≠[]) (h:zd (q6++s)≠(3,[],0)):∃ n:Nat,1≤n∧n≤50000∧s.takeWhile x2=Lib.itoa (n:Int)∧(s=Lib.itoa (n:Int)∨2≤n∧∃ r,s=Lib.itoa (n:Int)++32::r∧(10∉r→r.length≤8∧wb r)∧(10∈r→(upto 10 r).length=8∧wb (upto 10 r))):=by
 have e10:10∈q6++s↔10∈s:=by simp [qf7]
 have ed:(q6++s).drop 7=s:=by rw [show (7:Nat)=q6.length by rfl,List.drop_left]
 by_cases h10:10∈s
 ·have ho:(z6 (upto 10 (q6++s))).2.2=true:=by
   cases hq:(z6 (upto 10 (q6++s))).2.2 with
   |true=>rfl
   |false=>exact absurd (qrh (fun _=>hq) (fun h'=>absurd (e10.2 h10) h')) h
  have eu:upto 10 (q6++s)=q6++upto 10 s:=by
   conv=>lhs;rw [vk h10,← List.append_assoc]
   exact ve _ (by simp [qf7,xp])
  rw [eu] at ho
  simp only [z6,decide_eq_true_eq,qhn] at ho
  obtain⟨_,o2,o3,o4,o5⟩:=ho
  have hn:=qbo (l:=upto 32 (upto 10 s)) rfl (by omega)
  have hle:=yr (upto 32 (upto 10 s))
  generalize j6 (upto 32 (upto 10 s))=n at *
  have e1:=vk o2
  rw [hn] at e1
  have e2:=vk h10
  generalize hf:past 32 (upto 10 s)=f at *
  have hf10:10∉f:=by
   have:=xp 10 s
   rw [e1] at this
   simp only [List.mem_append,List.mem_cons,not_or] at this
   exact this.2.2
  rw [e1,List.append_assoc,List.cons_append] at e2
  refine⟨n,by omega,hle,qis (by decide) e2,.inr ⟨o3,_,e2,fun h'=>absurd (by simp:(10:UInt8)∈f++10::past 10 s) h',fun _=>?_⟩⟩
  rw [ve _ hf10]
  exact⟨o4,o5⟩
 ·have ho:w9 (q6++s)=true:=by
   cases hq:w9 (q6++s) with
   |true=>rfl
   |false=>exact absurd (qrh (fun h'=>absurd (e10.1 h') h10) (fun _=>hq)) h
  unfold w9 at ho
  rw [if_pos (List.prefix_append _ _),ed] at ho
  obtain⟨o1,o2,o3,o4⟩:=of_decide_eq_true ho
  by_cases h32:32∈s
  ·have hn2:2≤j6 (upto 32 s):=by
    rcases Nat.lt_or_ge (j6 (upto 32 s)) 2 with h|h
    ·exact absurd ⟨h32,h⟩ o1
    ·exact h
   have hn:=qbo (l:=upto 32 s) rfl (by omega)
   have hle:=yr (upto 32 s)
   generalize j6 (upto 32 s)=n at *
   have e1:=vk h32
   rw [hn] at e1
   refine⟨n,by omega,hle,qis (by decide) e1,.inr ⟨hn2,_,e1,fun _=>⟨o3,o4⟩,fun h'=>absurd (e1▸by simp [h']:(10:UInt8)∈s) h10⟩⟩
  ·rw [wm h32] at o2
   have hpos:1≤j6 s:=by
    rcases Nat.eq_zero_or_pos (j6 s) with h|h
    ·exact absurd ⟨hs,h⟩ o2
    ·exact h
   have hn:=qbo (l:=s) rfl hpos
   have hle:=yr s
   generalize j6 s=n at *
   subst hn
   exact⟨n,hpos,hle,q8f,.inl rfl⟩
theorem qxr {m n:Nat} (hm:m≤50000) (hn:n≤50000) (h:Lib.itoa (m:Int)=Lib.itoa (n:Int)):m=n:=by
 have:=congrArg numZ h
 rw [qeu (by omega) (by omega),qeu (by omega) (by omega)] at this
 simp at this
 omega
theorem q3f {n:Nat} (h:n≤50000):(Lib.itoa (n:Int)).length≤5:=by
 rw [qej,Lib.decDigits_length]
 exact qdm 4 n (by omega)
theorem R5 {s:qa} (hs:s≠[]) (h:∀ n:Nat,1≤n→n≤50000→s.takeWhile x2≠Lib.itoa (n:Int)):zd (q6++s)=(3,[],0):=by
 refine Classical.byContradiction fun hc=>?_
 obtain⟨n,h1,h2,h3,_⟩:=qmn hs hc
 exact h n h1 h2 h3
theorem R6 {n:Nat} (h1:1≤n) (h2:n≤50000):zd (q6++Lib.itoa (n:Int))=(2,[],0):=by
 have h32:32∉Lib.itoa (n:Int):=qdn n (by decide)
 have h10:10∉q6++Lib.itoa (n:Int):=by
  simp only [List.mem_append,not_or]
  exact⟨qf7,qdn n (by decide)⟩
 have ed:(q6++Lib.itoa (n:Int)).drop 7=Lib.itoa (n:Int):=by rw [show (7:Nat)=q6.length by rfl,List.drop_left]
 unfold zd
 rw [if_neg h10,if_pos ?_]
 unfold w9
 rw [if_pos (List.prefix_append _ _),ed,wm h32,qbz h1 h2]
 have hp:past 32 (Lib.itoa (n:Int))=[]:=by unfold past;rw [wm h32];simp
 rw [hp]
 exact decide_eq_true ⟨fun h'=>h32 h'.1,fun h'=>by omega,by simp,by intro c hc;simp at hc⟩
theorem R7 {n:Nat} {c:UInt8} {r:qa} (h2:n≤50000) (hd:x2 c=false) (h:c≠32∨n<2):zd (q6++(Lib.itoa (n:Int)++c::r))=(3,[],0):=by
 refine Classical.byContradiction fun hc=>?_
 obtain⟨m,m1,m2,m3,m4⟩:=qmn (by simp) hc
 rw [qis hd rfl] at m3
 have e:=qxr h2 m2 m3
 subst e
 rcases m4 with m4 | ⟨m4,r2,m5,_⟩
 ·have:=congrArg List.length m4
  simp at this
 ·rw [List.append_cancel_left_eq,List.cons.injEq] at m5
  rcases h with h|h
  ·exact h m5.1
  ·omega
theorem q1p {n:Nat} {r:qa} (h1:2≤n) (h2:n≤50000) (h:¬ ((10∉r→r.length≤8∧wb r)∧(10∈r→(upto 10 r).length=8∧wb (upto 10 r)))):zd (q6++(Lib.itoa (n:Int)++32::r))=(3,[],0):=by
 refine Classical.byContradiction fun hc=>?_
 obtain⟨m,m1,m2,m3,m4⟩:=qmn (by simp) hc
 rw [qis (by decide) rfl] at m3
 have e:=qxr h2 m2 m3
 subst e
 rcases m4 with m4 | ⟨m4,r2,m5,m6,m7⟩
 ·have:=congrArg List.length m4
  simp at this
 ·rw [List.append_cancel_left_eq,List.cons.injEq] at m5
  obtain⟨_,rfl⟩:=m5
  exact h ⟨m6,m7⟩
theorem qnl (c:UInt8):qai c=true↔c∈hexL:=by
 have key:∀ i:Fin 256,qai (UInt8.ofNat i.val)=true↔UInt8.ofNat i.val∈hexL:=by decide +kernel
 have:=key ⟨c.toNat,UInt8.toNat_lt c⟩
 simpa using this
theorem q7i {p:UInt8→Bool} {l:qa} (h:(l.takeWhile p).length=l.length):∀ c∈l,p c=true:=by
 have e:l.takeWhile p=l:=(List.takeWhile_prefix p).eq_of_length h
 rwa [qs9] at e
theorem R8 {n:Nat} {r:qa} (h1:2≤n) (h2:n≤50000) (h:((r.take 8).takeWhile qai).length=r.length):zd (q6++(Lib.itoa (n:Int)++32::r))=(2,[],0):=by
 have hle:((r.take 8).takeWhile qai).length≤(r.take 8).length:=(List.takeWhile_prefix qai).length_le
 have hl:r.length≤8:=by simp at hle;omega
 rw [List.take_of_length_le hl] at h
 have hx:wb r:=fun c hc=>(qnl c).1 (q7i h c hc)
 obtain⟨fig,f1,f2,f3⟩:=qrl r hl hx
 obtain⟨body,b1,b2⟩:=qe1 h1 h2
 have R:qnj n fig body:=⟨h1,h2,b1,b2,f1,f2⟩
 have hp:=qes (n:=n) (fig:=fig) (body:=body) (l:=q6++(Lib.itoa (n:Int)++32::r)) (by
  unfold vr
  rw [List.prefix_append_right_inj,List.prefix_append_right_inj,List.cons_prefix_cons]
  exact⟨rfl,f3⟩)
 exact zb1 R hp.1 hp.2
theorem q7j {p:UInt8→Bool} {l m:qa} (hm:m <+: l) (h:∀ c∈m,p c=true):m.length≤(l.takeWhile p).length:=by
 obtain⟨r,rfl⟩:=hm
 rw [List.takeWhile_append_of_pos h]
 simp
theorem R9 {n:Nat} {r:qa} (h1:2≤n) (h2:n≤50000) (hne:((r.take 8).takeWhile qai).length≠r.length) (h:((r.take 8).takeWhile qai).length<8):zd (q6++(Lib.itoa (n:Int)++32::r))=(3,[],0):=by
 refine q1p h1 h2 fun ⟨g1,g2⟩=>?_
 by_cases h10:10∈r
 ·obtain⟨a,b⟩:=g2 h10
  have hp:upto 10 r <+: r.take 8:=by
   have e:r.take 8=upto 10 r:=by rw [← a,qe3]
   rw [e]
   exact List.prefix_refl _
  have:=q7j (p:=qai) hp (fun c hc=>(qnl c).2 (b c hc))
  omega
 ·obtain⟨a,b⟩:=g1 h10
  rw [List.take_of_length_le a] at hne
  have e:r.takeWhile qai=r:=by rw [qs9];exact fun c hc=>(qnl c).2 (b c hc)
  exact hne (by rw [e])
theorem R10 {n:Nat} {r:qa} (h1:2≤n) (h2:n≤50000) (hl:8<r.length) (h:r.getD 8 0≠10):zd (q6++(Lib.itoa (n:Int)++32::r))=(3,[],0):=by
 refine q1p h1 h2 fun ⟨g1,g2⟩=>?_
 by_cases h10:10∈r
 ·obtain⟨a,b⟩:=g2 h10
  have e:=vk h10
  apply h
  rw [e,List.getD,List.getElem?_append_right (by omega),a]
  rfl
 ·have:=(g1 h10).1
  omega
theorem R11 {n:Nat} {r:qa} (hl:8<r.length) (h:r.getD 8 0=10) (hx:((r.take 8).takeWhile qai).length=8) :
  q6++(Lib.itoa (n:Int)++32::r)=vr n (r.take 8)++10::r.drop 9∧(r.take 8).length=8∧wb (r.take 8):=by
 have h8:(r.take 8).length=8:=by simp;omega
 refine⟨?_,h8,fun c hc=>(qnl c).1 (q7i (by rw [hx,h8]) c hc)⟩
 have e:r=r.take 8++10::r.drop 9:=by
  conv=>lhs;rw [← List.take_append_drop 8 r]
  rw [List.drop_eq_getElem_cons hl]
  congr 2
  simpa [List.getD,hl] using h
 unfold vr
 conv=>lhs;rw [e]
 simp
end Go.Proofs.YtneejjefekdgjaaGreatDoor
namespace Go.Proofs.YtneejjefekdgjaaGreatDoor
open Go Go.Av Go.RowKit Go.Proofs Go.Pl
structure qe4 (l S:qa) (K n:Nat):Prop where
 hl:l=q6++S
 hK:(S.takeWhile x2).length=K
 hD:S.take K=Lib.itoa (n:Int)
 h1:1≤n
 h2:n≤50000
theorem qe4.split {l S:qa} {K n:Nat} (A:qe4 l S K n) (h:K<S.length):S=Lib.itoa (n:Int)++S.getD K 0::S.drop (K+1)∧x2 (S.getD K 0)=false:=by
 have e:S=S.take K++S.getD K 0::S.drop (K+1):=by
  conv=>lhs;rw [← List.take_append_drop K S]
  rw [List.drop_eq_getElem_cons h]
  congr 2
  simp [List.getD,h]
 refine⟨by rw [← A.hD];exact e,?_⟩
 cases hc:x2 (S.getD K 0) with
 |false=>rfl
 |true=>
  have hp:S.take (K+1) <+: S:=List.take_prefix _ _
  have:=q7j (p:=x2) hp (fun c hc'=>by
   rw [qam h,List.mem_append,List.mem_singleton] at hc'
   rcases hc' with hc'|rfl
   ·rw [← A.hK,qs3] at hc'
    have ha:=List.all_takeWhile (p:=x2) (l:=S)
    rw [List.all_eq_true] at ha
    exact ha c hc'
   ·exact hc)
  rw [A.hK] at this
  simp at this
  omega
theorem qe4.l6 {l S:qa} {K n:Nat} (A:qe4 l S K n) (h:K=S.length):zd l=(2,[],0):=by
 have e:S=Lib.itoa (n:Int):=by rw [← A.hD,h,List.take_length]
 rw [A.hl,e]
 exact R6 A.h1 A.h2
theorem qe4.l7 {l S:qa} {K n:Nat} (A:qe4 l S K n) (h:K<S.length) (hc:S.getD K 0≠32∨n<2):zd l=(3,[],0):=by
 obtain⟨e,hd⟩:=A.split h
 rw [A.hl,e]
 exact R7 A.h2 hd hc
theorem qe4.at32 {l S R:qa} {K n:Nat} (A:qe4 l S K n) (h:K<S.length) (hc:S.getD K 0=32) (hR:S.drop (K+1)=R):l=q6++(Lib.itoa (n:Int)++32::R):=by
 obtain⟨e,hd⟩:=A.split h
 rw [hc,hR] at e
 rw [A.hl,← e]
theorem qe4.l11 {l S R T:qa} {K n:Nat} (A:qe4 l S K n) (h:K<S.length) (hc:S.getD K 0=32) (hR:S.drop (K+1)=R) (h2:2≤n) (hl:8<R.length) (h8:R.getD 8 0=10) (hx:((R.take 8).takeWhile qai).length=8) (hT:R.drop 9=T) :
  zd l=if T.length<n then (xh T ((n:Int) - T.length),[],0) else if xm (T.take n) then wg (T.drop n) (T.take n) (R.take 8) (qcq n) else (3,[],0):=by
 rw [A.at32 h hc hR]
 obtain⟨e,g1,g2⟩:=R11 (n:=n) hl h8 hx
 rw [e,hT]
 exact qlf _ h2 A.h2 g1 g2
theorem qh9 {l m:List UInt8} (st:List AObj) (hl:l.length<4294967281) (h:m <+: l):qn E 246 [Sv l,Sv m] st fun r st'=>r=Bv true∧st'=st:=by
 have:=qfi l m st hl
 rw [decide_eq_true h] at this
 exact this
theorem qym {l m:List UInt8} (st:List AObj) (hl:l.length<4294967281) (h:¬ m <+: l):qn E 246 [Sv l,Sv m] st fun r st'=>r=Bv false∧st'=st:=by
 have:=qfi l m st hl
 rw [decide_eq_false h] at this
 exact this
set_option maxHeartbeats 4000000 in
theorem q3z (l:List UInt8) (st:List AObj) (hl:l.length<4294967281) (hb:l.length≤7∨¬ q6 <+: l):qn E 179 [Sv l] st fun r st'=>r = .tu [Iv (zd l).1,Sv (zd l).2.1,Iv (zd l).2.2]∧st'=st:=by
 refine qu (qbg _ _ _) (qo Tryz.func179 rfl (Nat.le_of_ble_eq_true rfl) ?_)
 by_cases h7:l.length≤7
 ·skip
  repeat' (first|apply qm|apply qd|apply qc|apply qi|apply qe|(apply qq;(iterate 3 exact rfl))|(apply qb;exact rfl;apply ki;exact cAo)|(apply qb;exact rfl;apply cd_d <;> intro h)|(apply zo;(iterate 3 exact rfl))|apply qw|apply qs|(apply qf;exact Tryz.call245;exact qkc l q6 _ (by decide)))
  all_goals refine qk rfl (xk rfl) ⟨qr4 (?_:_=zd l),_,rfl⟩
  ·exact (R1 h7 (by assumption)).symm
  ·exact (R2 h7 (by assumption)).symm
 ·have hb2:¬ q6 <+: l:=hb.resolve_left h7
  repeat' (first|apply qm|apply qd|apply qc|apply qi|apply qe|(apply qq;(iterate 3 exact rfl))|(apply jd;exact rfl)|(apply qb;exact rfl;apply vw;exact cAo)|(apply qb;exact rfl;apply qkr;exact cRa)|(apply zo;(iterate 3 exact rfl))|apply qw|apply qs|(apply qf;exact Tryz.call246;exact qym (m:=q6) _ hl hb2))
  all_goals refine qk rfl (xk rfl) ⟨qr4 (?_:_=zd l),_,rfl⟩
  all_goals exact (R3 (by omega) hb2).symm
theorem qg0 {l:List UInt8} {k:Nat} (st:List AObj) (hl:l.length<4294967281) (h:(l.takeWhile x2).length=k):qn E 247 [Sv l] st fun r st'=>r=Iv k∧st'=st:=by
 subst h
 exact qyt l st hl
theorem q6r {l:List UInt8} {k:Nat} (st:List AObj) (hl:l.length<4294967281) (h:((l.take 8).takeWhile qai).length=k):qn E 248 [Sv l] st fun r st'=>r=Iv k∧st'=st:=by
 subst h
 exact q9r l st hl
theorem qs8 {l b:List UInt8} {k n:Int} (h:zd l=(k,b,n)):AV.tu [Iv k,Sv b,Iv n] = .tu [Iv (zd l).1,Sv (zd l).2.1,Iv (zd l).2.2]:=by rw [h]
set_option maxHeartbeats 8000000 in
theorem q30 (l S:List UInt8) (K:Nat) (st:List AObj) (hl:l.length<4294967281) (h7:7<l.length) (hb:l=q6++S) (hK:(S.takeWhile x2).length=K) (hn:∀ n:Nat,1≤n→n≤50000→S.takeWhile x2≠Lib.itoa (n:Int)):qn E 179 [Sv l] st fun r st'=>r = .tu [Iv (zd l).1,Sv (zd l).2.1,Iv (zd l).2.2]∧st'=st:=by
 have hS:l.drop 7=S:=by rw [hb,show (7:Nat)=q6.length by rfl,List.drop_left]
 have hSl:S.length=l.length - 7:=by rw [← hS];simp
 have hbp:q6 <+: l:=⟨S,hb.symm⟩
 have hne:S≠[]:=fun e=>by rw [e] at hSl;simp at hSl;omega
 have hKle:K≤S.length:=hK▸(List.takeWhile_prefix x2).length_le
 have hD:S.take K=S.takeWhile x2:=by rw [← hK,qs3]
 have hr:zd l=(3,[],0):=hb▸R5 hne hn
 refine qu (qbg _ _ _) (qo Tryz.func179 rfl (Nat.le_of_ble_eq_true rfl) ?_)
 cases hz:numZ (S.take K) with
 |none=>
  repeat' (first|(apply qe6 (n:=7) hS;(iterate 3 exact rfl);omega)|apply qm|apply qd|apply qc|apply qi|apply qe|(apply q9;exact rfl;exact rfl)|(apply qq;(iterate 3 exact rfl))|(apply jd;exact rfl)|(apply qv;(iterate 4 exact rfl))|(apply qbe;exact cRa)|(apply qak;exact cRa)|(apply qh;exact rfl;apply qhj;exact cRa)|(apply qh;exact rfl;apply pk_t;exact cRa)|(apply qb;exact rfl;apply vw;exact cAo)|(apply qb;exact rfl;apply qiq;exact cRa)|(apply qb;exact rfl;apply cd_t;exact cRa)|(apply qb;exact rfl;apply cd_d <;> intro h)|(apply zo;(iterate 3 exact rfl))|(apply qa5;(iterate 3 exact rfl);exact cAs)|apply qw|apply qs|(apply qf;exact Tryz.call246;exact qh9 (m:=q6) _ hl hbp)|(apply qf;exact Tryz.call247;exact qg0 _ (by omega) hK)|(apply qf;exact Tryz.call145;exact qfj _ _ (by simp;omega) hz))
  all_goals first
   |(exfalso;omega)
   |contradiction
   |exact qk rfl (xk rfl) ⟨qs8 hr,_,rfl⟩
 |some v=>
  have hv:=qi6 hz
  have hv2:¬ (1≤v∧v≤50000):=fun h=>hn v.toNat (by omega) (by omega) (by rw [← hD,hv.1,Int.toNat_of_nonneg (by omega)])
  repeat' (first|(apply qe6 (n:=7) hS;(iterate 3 exact rfl);omega)|apply qm|apply qd|apply qc|apply qi|apply qe|(apply q9;exact rfl;exact rfl)|(apply qq;(iterate 3 exact rfl))|(apply jd;exact rfl)|(apply qv;(iterate 4 exact rfl))|(apply vl;exact cAo)|(apply vq;exact cAo)|(apply yw;exact cRa)|(apply je <;> intro h)|(apply qh;exact rfl;apply wp;exact cAo)|(apply qh;exact rfl;apply v8;exact cAo)|(apply qh;exact rfl;apply qec;exact cRa)|(apply qb;exact rfl;apply ki;exact cAo)|(apply qb;exact rfl;apply vw;exact cAo)|(apply qb;exact rfl;apply qiq;exact cRa)|(apply qb;exact rfl;apply cd_t;exact cRa)|(apply qb;exact rfl;apply cd_d <;> intro h)|(apply zo;(iterate 3 exact rfl))|(apply qa5;(iterate 3 exact rfl);exact cAs)|apply qw|apply qs|(apply qf;exact Tryz.call246;exact qh9 (m:=q6) _ hl hbp)|(apply qf;exact Tryz.call247;exact qg0 _ (by omega) hK)|(apply qf;exact Tryz.call145;exact qc8 _ v _ (by simp;omega) hz))
  all_goals first
   |(exfalso;omega)
   |contradiction
   |exact qk rfl (xk rfl) ⟨qs8 hr,_,rfl⟩
theorem qst {T:qa} {lack:Int} (h1:sp true T=true) (h2:T.length=0→2≤lack) (h3:T.getLast? = some 10→2≤lack):xh T lack=2:=by
 unfold xh
 rw [qc0]
 refine if_pos ⟨h1,?_⟩
 rintro⟨h|h,h'⟩
 ·have:=h2 (by rw [h];rfl)
  omega
 ·have:=h3 h
  omega
theorem qyd {T:qa} {lack:Int} (h:sp true T=false):xh T lack=3:=by
 unfold xh
 rw [qc0]
 exact if_neg fun h'=>by rw [h] at h';simp at h'
theorem q9d {T:qa} {lack:Int} (h1:T.getLast? = some 10) (h2:lack<2):xh T lack=3:=by
 unfold xh
 exact if_neg fun h'=>h'.2 ⟨.inr h1,h2⟩
theorem q1f {T:qa} (h:T.length≠0):T.getLast? = some 10↔T.getD ((T.length:Int) - 1).toNat 0=10:=by
 have e:((T.length:Int) - 1).toNat=T.length - 1:=by omega
 rw [e,List.getLast?_eq_getElem?]
 simp [List.getD,show T.length - 1<T.length by omega]
theorem za6 {U B f:qa} {z:Int} (h1:¬ U.length<(yc B.length).length) (h2:yc B.length <+: U) (h3:f=sumF B):wg U B f z=(1,B,z):=by
 unfold wg
 rw [if_neg (fun h=>h1 h.1),if_pos ⟨h2,h3⟩]
theorem za7 {U B f:qa} {z:Int} (h1:U.length<(yc B.length).length) (h2:U <+: yc B.length):wg U B f z=(2,[],0):=by
 unfold wg
 rw [if_pos ⟨h1,h2⟩]
theorem qsj {U B f:qa} {z:Int} (h1:¬ (U.length<(yc B.length).length∧U <+: yc B.length)) (h2:¬ (yc B.length <+: U∧f=sumF B)):wg U B f z=(3,[],0):=by
 unfold wg
 rw [if_neg h1,if_neg h2]
set_option maxHeartbeats 16000000 in
theorem q31 (l S R T:List UInt8) (K H n:Nat) (st:List AObj) (hl:l.length<4294967281) (h7:7<l.length) (A:qe4 l S K n) (hR:S.drop (K+1)=R) (hH:((R.take 8).takeWhile qai).length=H) (hT:R.drop 9=T):qn E 179 [Sv l] st fun r st'=>r = .tu [Iv (zd l).1,Sv (zd l).2.1,Iv (zd l).2.2]∧st'=st:=by
 have hb:=A.hl
 have hK:=A.hK
 have hn1:=A.h1
 have hn2:=A.h2
 have hS:l.drop 7=S:=by rw [hb,show (7:Nat)=q6.length by rfl,List.drop_left]
 have hSl:S.length=l.length - 7:=by rw [← hS];simp
 have hbp:q6 <+: l:=⟨S,hb.symm⟩
 have hKle:K≤S.length:=hK▸(List.takeWhile_prefix x2).length_le
 have hz:numZ (S.take K)=some (n:Int):=by rw [A.hD];exact qeu (by omega) (by omega)
 have hK5:K≤5:=by
  have h1:=q3f hn2
  have h2:=congrArg List.length A.hD
  simp at h2
  omega
 have hRl:R.length=S.length - (K+1):=by rw [← hR];simp
 have hH8:H≤8:=by
  have:=(List.takeWhile_prefix qai (l:=R.take 8)).length_le
  rw [hH] at this
  simp at this
  omega
 have hHR:H≤R.length:=by
  have:=(List.takeWhile_prefix qai (l:=R.take 8)).length_le
  rw [hH] at this
  simp at this
  omega
 have hTl:T.length=R.length - 9:=by rw [← hT];simp
 have hfl:(R.take 8).length≤8:=by simp;omega
 have hBl:(T.take n).length≤T.length:=by simp;omega
 have ht:=yy n
 have hi:=qcf n (by omega)
 refine qu (qbg _ _ _) (qo Tryz.func179 rfl (Nat.le_of_ble_eq_true rfl) ?_)
 repeat' (first|(apply qe6 (n:=7) hS;(iterate 3 exact rfl);omega)|(apply qe6 (n:=K+1) hR;(iterate 3 exact rfl);omega)|(apply qe6 (n:=9) hT;(iterate 3 exact rfl);omega)|apply qm|apply qd|apply qc|apply qi|apply qe|(apply q9;exact rfl;exact rfl)|(apply qq;(iterate 3 exact rfl))|(apply jg;(iterate 3 exact rfl))|(apply jd;exact rfl)|(apply qv;(iterate 4 exact rfl))|(apply xq;exact cAo)|(apply vl;exact cAo)|(apply vq;exact cAo)|(apply xc;exact cAo)|(apply qat;(iterate 4 exact rfl))|(apply yw;exact cRa)|(apply qbe;exact cRa)|(apply qhc <;> intro h)|(apply yj;exact cRa)|(apply je <;> intro h)|(apply qh;exact rfl;apply wp;exact cAo)|(apply qh;exact rfl;apply v8;exact cAo)|(apply qh;exact rfl;apply qhj;exact cRa)|(apply qh;exact rfl;apply qec;exact cRa)|(apply qh;exact rfl;apply pk_t;exact cRa)|(apply qb;exact rfl;apply vw;exact cAo)|(apply qb;exact rfl;apply qiq;exact cRa)|(apply qb;exact rfl;apply cd_n <;> intro h)|(apply qb;exact rfl;apply cd_t;exact cRa)|(apply qb;exact rfl;apply cd_f;exact cRa)|(apply qb;exact rfl;apply cd_d <;> intro h)|(apply zo;(iterate 3 exact rfl))|(apply zt;exact rfl;exact rfl;exact zb (by omega) (by omega))|(apply w8;exact rfl;exact rfl;exact zb (by omega) (by omega))|(apply vu;(iterate 3 exact rfl);exact cAs)|(apply qa5;(iterate 3 exact rfl);exact cAs)|(apply qgk;(iterate 3 exact rfl);exact cAs)|apply qw|apply qs|(apply qf6;(iterate 3 exact rfl);omega;omega)|(apply qf;exact Tryz.call246;exact qh9 (l:=l) (m:=q6) _ hl hbp)|(apply qf;exact Tryz.call246;exact qfi _ (yc n) _ (by simp;omega))|(apply qf;exact Tryz.call245;exact qkc _ (yc n) _ (by omega))|(apply qf;exact Tryz.call247;exact qg0 _ (by omega) hK)|(apply qf;exact Tryz.call248;exact q6r _ (by omega) hH)|(apply qf;exact Tryz.call145;exact qc8 _ n _ (by simp;omega) hz)|(apply qf;exact Tryz.call249;exact qrs _ _ (by omega))|(apply qf;exact Tryz.call250;exact q6q _ _ (by omega))|(apply qf;exact Tryz.call184;exact qjm n (R.take 8) _ (by omega) (by omega))|(apply qf;exact Tryz.call186;exact qyy _ _ (by omega))|(apply qf;exact Tryz.call185;exact qum _ _)|(apply qf;exact Tryz.call108;exact qov _ _))
 all_goals
  refine qk rfl (xk rfl) ⟨qs8 (?_:zd l=_),_,rfl⟩
  try simp only [Classical.not_not,qr5,qa1,decide_eq_true_eq,decide_eq_false_iff_not] at *
 ·exact A.l6 (by omega)
 ·exact A.l7 (by omega) (.inl (by assumption))
 ·exact A.l7 (by omega) (.inr (by omega))
 ·rw [A.at32 (by omega) (by assumption) hR]
  exact R8 (by omega) hn2 (by omega)
 ·rw [A.at32 (by omega) (by assumption) hR]
  exact R9 (by omega) hn2 (by omega) (by omega)
 ·rw [A.at32 (by omega) (by assumption) hR]
  exact R10 (by omega) hn2 (by omega) (by assumption)
 ·rw [A.l11 (by omega) (by assumption) hR (by omega) (by omega) (by assumption) (by omega) hT,if_pos (by omega),qst (by assumption) (by omega) (fun _=>by omega)]
 ·rw [A.l11 (by omega) (by assumption) hR (by omega) (by omega) (by assumption) (by omega) hT,if_pos (by omega),qyd (by assumption)]
 ·rw [A.l11 (by omega) (by assumption) hR (by omega) (by omega) (by assumption) (by omega) hT,if_pos (by omega),q9d ((q1f (by omega)).2 (by assumption)) (by omega)]
 ·rw [A.l11 (by omega) (by assumption) hR (by omega) (by omega) (by assumption) (by omega) hT,if_pos (by omega),qst (by assumption) (by omega) (fun _=>by omega)]
 ·rw [A.l11 (by omega) (by assumption) hR (by omega) (by omega) (by assumption) (by omega) hT,if_pos (by omega),qst (by assumption) (by omega) (fun h=>absurd ((q1f (by omega)).1 h) (by assumption))]
 ·rw [A.l11 (by omega) (by assumption) hR (by omega) (by omega) (by assumption) (by omega) hT,if_pos (by omega),qyd (by assumption)]
 all_goals have hBn:(T.take n).length=n:=by simp;omega
 ·rw [A.l11 (by omega) (by assumption) hR (by omega) (by omega) (by assumption) (by omega) hT,if_neg (by omega),if_neg (by assumption)]
 ·rw [A.l11 (by omega) (by assumption) hR (by omega) (by omega) (by assumption) (by omega) hT,if_neg (by omega),if_pos (by assumption)]
  exact za7 (by rw [hBn];omega) (by rw [hBn];assumption)
 ·rw [A.l11 (by omega) (by assumption) hR (by omega) (by omega) (by assumption) (by omega) hT,if_neg (by omega),if_pos (by assumption)]
  exact qsj (by rw [hBn];exact fun h=>absurd h.2 (by assumption)) (by rw [hBn];intro h;have:=h.1.length_le;omega)
 ·rw [A.l11 (by omega) (by assumption) hR (by omega) (by omega) (by assumption) (by omega) hT,if_neg (by omega),if_pos (by assumption)]
  exact qsj (by rw [hBn];intro h;omega) (by rw [hBn];exact fun h=>absurd h.2.symm (by assumption))
 ·rw [A.l11 (by omega) (by assumption) hR (by omega) (by omega) (by assumption) (by omega) hT,if_neg (by omega),if_pos (by assumption)]
  exact za6 (by rw [hBn];omega) (by rw [hBn];assumption) (by symm;assumption)
 ·rw [A.l11 (by omega) (by assumption) hR (by omega) (by omega) (by assumption) (by omega) hT,if_neg (by omega),if_pos (by assumption)]
  exact qsj (by rw [hBn];intro h;omega) (by rw [hBn];exact fun h=>absurd h.1 (by assumption))
theorem q6t (l:List UInt8) (st:List AObj) (hl:l.length<4294967281):qn E 179 [Sv l] st fun r st'=>r = .tu [Iv (zd l).1,Sv (zd l).2.1,Iv (zd l).2.2]∧st'=st:=by
 by_cases hb:l.length≤7∨¬ q6 <+: l
 ·exact q3z l st hl hb
 have h7:7<l.length:=by omega
 have hbp:q6 <+: l:=Classical.not_not.1 fun h=>hb (.inr h)
 obtain⟨S,hS⟩:=hbp
 by_cases hn:∃ n:Nat,1≤n∧n≤50000∧S.takeWhile x2=Lib.itoa (n:Int)
 ·obtain⟨n,h1,h2,h3⟩:=hn
  exact q31 l S _ _ _ _ n st hl h7 ⟨hS.symm,rfl,by rw [qs3];exact h3,h1,h2⟩ rfl rfl rfl
 ·exact q30 l S _ st hl h7 hS.symm rfl (fun n h1 h2 h3=>hn ⟨n,h1,h2,h3⟩)
theorem q6n (l:List UInt8) (st:List AObj) (hl:l.length<4294967281) (hg:xm l):qn E 104 [Sv l] st fun r st'=>r = .tu [Sv (recF l),.v .nilIface]∧st'=st:=by
 have h:=q9p l st hl
 unfold qex at h
 rw [if_pos hg] at h
 exact h
theorem qrp {b:List UInt8} (h:xm b):(recF b).length≤b.length+61∧1≤(recF b).length:=by
 have h1:=qcf b.length (by have:=h.2.1;omega)
 unfold recF
 simp only [List.length_append,qbx,qgg,yy]
 omega
end Go.Proofs.YtneejjefekdgjaaGreatDoor
namespace Go.Av
open Go Go.RowKit
def StE (L:List (Nat×AV)) (st loc:List AObj) (s:AS):Prop:=∃ t ext,s=⟨puts t L,((st++loc)++ext)++[],[]⟩
theorem qaf {t:Nat→AV} {L:List (Nat×AV)} {st loc loc' ext new:List AObj} (h:HasL t L) (e:loc'=loc):StE L st loc ⟨t,((st++loc')++ext)++new,[]⟩:=
 ⟨t,ext++new,by rw [qka h,e];simp⟩
theorem qcs {t:Nat→AV} {L:List (Nat×AV)} {st loc st':List AObj} (h:HasL t L) (e:st'=st++loc):StE L st loc ⟨t,st',[]⟩:=
 ⟨t,[],by rw [qka h,e];simp⟩
theorem xg (st loc ext new:List AObj):∃ x,((st++loc)++ext)++new=st++x:=⟨loc++ext++new,by simp⟩
theorem qap {st loc ext new:List AObj} {k:Nat} {x:AObj} (h:loc[k]? = some x):(((st++loc)++ext)++new)[st.length+k]? = some x:=by
 have hk:=lt_of_getElem? h
 rw [List.append_assoc,List.append_assoc,List.getElem?_append_right (Nat.le_add_right _ _),Nat.add_sub_cancel_left,List.getElem?_append_left hk]
 exact h
theorem qdu {st loc ext new:List AObj} {k:Nat} (x:AObj) (hk:k<loc.length):(((st++loc)++ext)++new).set (st.length+k) x=((st++loc.set k x)++ext)++new:=by
 rw [List.append_assoc,List.append_assoc,List.set_append_right _ _ (Nat.le_add_right _ _),Nat.add_sub_cancel_left,List.set_append_left _ _ hk]
 simp
theorem qi9 {G:Gh} {sz:Nat} {xs:List AV} {tip:Option Nat} {v:Value} (h:Rel G (.sl sz xs tip) v):Rel G (.sl sz xs none) v:=by
 cases h with
 |sl0 _ _ base cap ht=>exact .sl0 sz none base cap (by simp)
 |sl _ _ _ b off cap pub hp hw hlen hr ht hcap=>exact .sl sz xs none b off cap pub hp hw hlen hr (fun t ht=>by simp at ht) hcap
theorem qb9 {G:Gh} {sz:Nat} {v:Value} (h:Rel G zu v):Rel G (.sl sz [] none) v:=by
 cases h
 exact .sl0 sz none none 0 (by simp)
section
variable {E : Env} {rd : Option Nat} {N : Nat} {ops : Array Oper} {K : AS → Prop} {s : AS} {rest : List Oper} {d : Option Tmp} {T : TypeId} {p : String} {af : Array Edge}
theorem xb {fn:Func} {r r':AV} (h:ARes E fn s r) (hw:∀ (G:Gh) (v:Value),Rel G r v→Rel G r' v):ARes E fn s r':=
 ⟨fun B0 w0 G a w hL hI=>let ⟨v,h1,h2⟩:=h.run B0 w0 G a w hL hI;⟨v,h1,hw G v h2⟩⟩
theorem qqg {fn:Func} {t:Tmp} {sz:Nat} {xs:List AV} {tip:Option Nat} (hr:fn.results = #[.tmp t]) (hx:qj fn.ntmps s (.tmp t) = .sl sz xs tip):ARes E fn s (.sl sz xs none):=
 xb (qz hr) fun G v h=>by rw [hx] at h;exact qi9 h
theorem qe5 {x y:Operand} {t u T':TypeId} {sz bytes k n m:Nat} {xs ys zs:List AV} {tip:Option Nat} {st loc ext new:List AObj} (hs:s.st=((st++loc)++ext)++new) (hx:qj N s x = .sl sz xs (some (st.length+k))) (hy:qj N s y = .sl sz ys tip) (ho:loc[k]? = some (.tip n sz T')) (hn:xs.length=n)
  (ht:E.P.underlying t=some (.slice T')) (hu:E.P.underlying u=some (.slice T')) (hT:qad E.P T' sz bytes) (hone:ke (flat ys)=true) (hm:ys.length=m) (h63:n+m≤maxLen) (hb:(n+m) * bytes≤140737488355328) (hz:xs++ys=zs)
  (h:AOps E rd N ops rest K (AS.put ⟨s.t,((st++loc.set k (.tip (n+m) sz T'))++ext)++new,s.df⟩ d (.sl sz zs (some (st.length+k))))):AOps E rd N ops (⟨d,.call ⟨.builtin .append,#[x,y],#[t,u]⟩,T,p,af,none⟩::rest) K s:=by
 subst hz
 have hk:=lt_of_getElem? ho
 exact qn3 hx hy (by rw [hs];exact qap ho) hn ht hu hT hone hm h63 hb (by rw [hs,qdu _ hk];exact h)
theorem zz {x:Operand} {t:TypeId} {sz:Nat} {agg:Bool} {st loc ext new:List AObj} {k ver off:Nat} {T':TypeId} {cs:List AV} {r:AV} (hs:s.st=((st++loc)++ext)++new) (hx:qj N s x = .bx (st.length+k) ver off) (ho:loc[k]? = some (.cells ver T' cs)) (ht:tyOf E.P t=some (sz,agg)) (hr:jq sz agg off cs=some r)
  (h:AOps E rd N ops rest K (s.put d r)):AOps E rd N ops (⟨d,.load t x,T,p,af,none⟩::rest) K s:=
 zh hx (by rw [hs];exact qap ho) ht hr h
end
end Go.Av
namespace Go.Pl
open Go
def q5 (l:qa):List qa:=
 if h:10∈l then upto 10 l::q5 (past 10 l) else [l]
 termination_by l.length
 decreasing_by exact wi (fun e=>by rw [e] at h;simp at h)
theorem x6 {l:qa} (h:10∈l):q5 l=upto 10 l::q5 (past 10 l):=by rw [q5,dif_pos h]
theorem x7 {l:qa} (h:10∉l):q5 l=[l]:=by rw [q5,dif_neg h]
theorem q1z:∀ (n:Nat) (l:qa),l.length≤n→Lib.splitK [10] 0 (Lib.count l [10]) l=q5 l
 |n,l,hn=>by
  by_cases h:10∈l
  ·have hi:=qq6 10 l h
   have hne:l≠[]:=fun e=>by rw [e] at h;simp at h
   have hlt:=wi (c:=10) hne
   rw [x6 h,Lib.count_hit (i:=(upto 10 l).length) (by simp) hi,Nat.add_comm,Lib.splitK]
   rw [if_neg (by rw [hi];simp),hi]
   cases n with
   |zero=>exact absurd (List.length_eq_zero_iff.1 (by omega)) hne
   |succ n=>
    have:=q1z n (past 10 l) (by omega)
    simp only [Int.toNat_natCast,Nat.add_zero,List.length_cons,List.length_nil,Nat.zero_add,qe3]
    rw [show List.drop ((upto 10 l).length+1) l=past 10 l from rfl,this]
  ·have hi:Lib.index l [10] = -1:=by
    have:=Lib.index_ge l [10]
    have h2:¬ 0≤Lib.index l [10]:=fun h'=>h ((qc5 l 10).1 h')
    omega
   rw [x7 h,Lib.count_miss hi]
   rfl
theorem qbs:∀ (n:Nat) (l:qa),l.length≤n→(q5 l).length≤l.length+1
 |n,l,hn=>by
  by_cases h:10∈l
  ·have hne:l≠[]:=fun e=>by rw [e] at h;simp at h
   have hlt:=wi (c:=10) hne
   rw [x6 h]
   cases n with
   |zero=>exact absurd (List.length_eq_zero_iff.1 (by omega)) hne
   |succ n=>
    have:=qbs n (past 10 l) (by omega)
    simp only [List.length_cons]
    omega
  ·rw [x7 h];simp
theorem qgx:∀ (n:Nat) (l:qa),l.length≤n→∀ x∈q5 l,x.length≤l.length∧10∉x
 |n,l,hn,x,hx=>by
  by_cases h:10∈l
  ·have hne:l≠[]:=fun e=>by rw [e] at h;simp at h
   have hlt:=wi (c:=10) hne
   rw [x6 h,List.mem_cons] at hx
   rcases hx with rfl|hx
   ·exact⟨kv 10 l,xp 10 l⟩
   ·cases n with
    |zero=>exact absurd (List.length_eq_zero_iff.1 (by omega)) hne
    |succ n=>
     have:=qgx n (past 10 l) (by omega) x hx
     exact⟨by omega,this.2⟩
  ·rw [x7 h,List.mem_singleton] at hx
   subst hx
   exact⟨Nat.le_refl _,h⟩
end Go.Pl
namespace Go.Proofs.YtneejjefekdgjaaGreatDoor
open Go Go.Av Go.RowKit Go.Proofs Go.Pl
theorem ql5 {f:FuncId} {st:List AObj} {args:List AV} {vals:Array Value} {xs:List qa} {T:TypeId} (ha:args=vals.toList.map .v) (hne:xs≠[])
  (h:∀ B0 w0 w,E.L B0 w0→Below B0 w0 w→Calls E.P f vals w fun e w'=>e = .returned (.slice (some ⟨w.heap.size,0,none⟩) xs.length xs.length)∧w'=w.alloc (.cells (xs.map fun l=>Value.string ⟨l.toArray⟩).toArray T)) :
  qn E f args st fun r st'=>r = .sl 1 (xs.map fun l=>Sv l) none∧st'=st:=by
 subst ha
 refine⟨fun B0 w0 G vs w hL hA hR=>?_⟩
 have hv:vs=vals:=by
  have hs:vs.size=vals.size:=by have:=hR.1;simpa using this.symm
  apply Array.ext hs
  intro i h1 h2
  have:=hR.2 i (.v vals[i]) vs[i] (by simp [h2]) (by simp [h1])
  generalize vs[i]=y at this
  cases this
  rfl
 subst hv
 refine (h B0 w0 w hL hA.below).mono ?_
 rintro e w' ⟨rfl,rfl⟩
 obtain⟨hle,hA'⟩:=hA.newPub T (xs.map fun l=>Value.string ⟨l.toArray⟩).toArray (0,0) (xs.map fun l=>Value.string ⟨l.toArray⟩) (fun i y hy=>by simpa using hy)
 refine⟨_,_,_,st,rfl,hle,hA',?_,rfl,rfl⟩
 have hfl:flat (xs.map fun l=>Sv l)=xs.map fun l=>Sv l:=by
  clear hne h hle hA'
  induction xs with
  |nil=>rfl
  |cons a xs ih=>rw [List.map_cons,qbd,ih];rfl
 have:=Rel.sl (G:=G.publish w.heap.size (xs.map fun l=>Value.string ⟨l.toArray⟩)) 1 (xs.map fun l=>Sv l) none w.heap.size 0 xs.length (xs.map fun l=>Value.string ⟨l.toArray⟩) (by simp [Gh.publish]) (fun x hx=>by
  simp only [List.mem_map] at hx
  obtain⟨l,_,rfl⟩:=hx
  rfl) (by rw [hfl];simp) (fun i x y h1 h2=>by
  rw [hfl,List.getElem?_map] at h1
  rw [Nat.zero_add,List.getElem?_map] at h2
  cases hx:xs[i]? with
  |none=>rw [hx] at h1;simp at h1
  |some l=>
   rw [hx] at h1 h2
   simp at h1 h2
   subst h1;subst h2
   exact .v _) (fun t ht=>by simp at ht) (by simp)
 simpa using this
theorem q61 (l:List UInt8) (st:List AObj) (hl:l.length<4294967281):qn E 285 [Sv l,Sv [10]] st fun r st'=>r = .sl 1 ((q5 l).map fun x=>Sv x) none∧st'=st:=by
 have hd:=Lib.splitB_data ⟨#[10]⟩ 0 (Lib.countB ⟨l.toArray⟩ ⟨#[10]⟩) ⟨l.toArray⟩
 have hs:Lib.splitK [10] 0 (Lib.count l [10]) l=q5 l:=q1z _ l (Nat.le_refl _)
 have hn:=Lib.splitB_all ⟨#[10]⟩ (by simp [ByteArray.size]) 0 _ ⟨l.toArray⟩ rfl
 have hd2:(Lib.splitB ⟨#[10]⟩ 0 (Lib.countB ⟨l.toArray⟩ ⟨#[10]⟩) ⟨l.toArray⟩).map (·.data.toList)=q5 l:=hd.trans hs
 have hlen:(q5 l).length=Lib.countB ⟨l.toArray⟩ ⟨#[10]⟩+1:=by rw [← hd2,List.length_map,hn]
 refine ql5 (T:=9) (vals:= #[.string ⟨l.toArray⟩,.string ⟨#[10]⟩]) rfl (fun e=>by rw [e] at hlen;simp at hlen) fun _ _ w hL hb=>(Tryz.strings_Split_shaped ⟨l.toArray⟩ ⟨#[10]⟩ w (hL w hb).shaped (by simpa [ByteArray.size] using hl) (by simp [ByteArray.size])).mono fun e w' ⟨h1,h2⟩=>?_
 refine⟨by rw [h1,hlen],?_⟩
 rw [h2,← hd2,List.map_map]
 rfl
end Go.Proofs.YtneejjefekdgjaaGreatDoor
namespace Go.Av
open Go Go.RowKit
section
variable {E : Env} {N : Nat} {ops : Array Oper} {K : AS → Prop} {s : AS} {rest : List Oper} {d : Option Tmp} {T : TypeId} {p : String} {af : Array Edge}
theorem qwi {B0:Nat} {w0:World} {G:Gh} {a:Act} {w:World} (hI:Inv B0 w0 N G s a w) {oj:Oper} {j e:Nat} {b:Bool} (hj:ops[j]? = some oj) (hd:oj.dst=some e) (hN:Nat.blt e N=true) (hb:s.t e = .v (.bool b)):yielded ops a.tmps j=some b:=by
 have hd':e<a.tmps.size:=by rw [hI.size];simpa [Nat.blt_eq] using hN
 have hr:=hI.tmps e a.tmps[e] (by simp [hd'])
 have hv:a.tmps[e]? = some (.bool b):=by
  rw [hb] at hr
  have:a.tmps[e] = .bool b:=by generalize a.tmps[e]=v at hr;cases hr;rfl
  simp [hd',this]
 simp [yielded,hj,hd,hv]
theorem qhv {op:Op} {oj:Oper} {j e:Nat} {want b:Bool} (hj:ops[j]? = some oj) (hd:oj.dst=some e) (hN:Nat.blt e N=true) (hb:s.t e = .v (.bool b)) (hw:b=want)
  (h:AQ E N ops (⟨d,op,T,p,af,none⟩::rest) K s):AQ E N ops (⟨d,op,T,p,af,some (j,want)⟩::rest) K s:=by
 refine⟨fun B0 w0 G a w hL hI Q hQ=>?_⟩
 have hy:=qwi hI hj hd hN hb
 have h':=h.run B0 w0 G a w hL hI Q hQ
 unfold wpQuietIn at h' ⊢
 refine⟨fun _ _ _ _=>trivial,?_⟩
 have h2:=h'.2
 rw [if_pos (by simp [Region.wanted])] at h2
 rw [if_pos (by simp [Region.wanted,hy,hw])]
 exact h2
theorem qlv {op:Op} {oj:Oper} {j e:Nat} {want b:Bool} (hj:ops[j]? = some oj) (hd:oj.dst=some e) (hN:Nat.blt e N=true) (hb:s.t e = .v (.bool b)) (hw:b = !want)
  (h:AQ E N ops rest K (s.put d (.v undef))):AQ E N ops (⟨d,op,T,p,af,some (j,want)⟩::rest) K s:=by
 refine⟨fun B0 w0 G a w hL hI Q hQ=>?_⟩
 have hy:=qwi hI hj hd hN hb
 unfold wpQuietIn
 refine⟨fun _ _ _ _=>trivial,?_⟩
 rw [if_neg (by simp [Region.wanted,hy,hw])]
 refine h.run B0 w0 G _ w hL (hI.put (.refl G) hI.agree d (.v _)) Q fun s' a' hI' hst hK=>hQ s' a' hI' ?_ hK
 rw [hst]
 cases d <;> rfl
theorem qtg {c x y:Operand} {b:Bool} (hc:qj N s c = .v (.bool b)) (hb:b=true) (h:AQ E N ops rest K (s.put d (qj N s x))):AQ E N ops (⟨d,.pick c x y,T,p,af,none⟩::rest) K s:=
 qca rfl nofun fun _ _ G a w _ hI=>⟨a.eval x,qj N s x,fun w' _=>by
  have:=hI.evalv hc
  have hx:a.eval x=a.eval x:=rfl
  subst hb
  generalize a.eval = ρ at this
  simp [execOp,this,asBool],hI.eval x,h⟩
theorem qma {c x y:Operand} {b:Bool} (hc:qj N s c = .v (.bool b)) (hb:b=false) (h:AQ E N ops rest K (s.put d (qj N s y))):AQ E N ops (⟨d,.pick c x y,T,p,af,none⟩::rest) K s:=
 qca rfl nofun fun _ _ G a w _ hI=>⟨a.eval y,qj N s y,fun w' _=>by
  have:=hI.evalv hc
  subst hb
  generalize a.eval = ρ at this
  simp [execOp,this,asBool],hI.eval y,h⟩
theorem qqe {x:Operand} {t:TypeId} {sz:Nat} {agg:Bool} {o ver off:Nat} {T':TypeId} {cs:List AV} {r:AV} (hx:qj N s x = .bx o ver off) (ho:s.st[o]? = some (.cells ver T' cs)) (ht:tyOf E.P t=some (sz,agg)) (hr:jq sz agg off cs=some r)
  (h:AQ E N ops rest K (s.put d r)):AQ E N ops (⟨d,.load t x,T,p,af,none⟩::rest) K s:=by
 refine qca rfl nofun fun B0 w0 G a w _ hI=>?_
 have he:=hI.eval_of hx
 generalize hv:a.eval x=v at he
 cases he with
 |bx _ _ _ b hn hv' hb=>
  obtain⟨_,h1,h2,h3,c,h4,h5,h6⟩:=hI.agree.ob o _ ho
  have hb:=hb h1
  subst hb
  have hlt:(G.ob o).blk<w.heap.size:=by
   rcases Nat.lt_or_ge (G.ob o).blk w.heap.size with h'|h'
   ·exact h'
   ·rw [Array.getElem?_eq_none h'] at h4;simp at h4
  -- the value is read out of the cells, whatever is drawn behind them
  have key:∀ w',Below w.heap.size w w'→∃ v,(loadVar t ⟨(G.ob o).blk,off,none⟩).run E.P w' = .ok v w'∧Rel G r v:=fun w' hw'=>by
   have h4':w'.heap[(G.ob o).blk]? = some (.cells c T' (0,0)):=by rw [hw'.block _ hlt];exact h4
   exact qaq (w:=w') (G:=G) (b:=(G.ob o).blk) (off:=off) (off':=off) ht (fun i x hx hi=>by
    obtain⟨y,hy⟩:=vz hx (Nat.le_of_eq h5)
    refine⟨y,?_,h6 i x y hx hy⟩
    simp [World.cell?,h4',show off+(i - off)=i by omega,hy]) hr
  have hsame:∀ w',Below w.heap.size w w'→∀ v,(loadVar t ⟨(G.ob o).blk,off,none⟩).run E.P w = .ok v w→(loadVar t ⟨(G.ob o).blk,off,none⟩).run E.P w' = .ok v w':=fun w' hw' v hr1=>by
   obtain⟨i1,i2⟩:=vj ht w
   obtain⟨j1,j2⟩:=vj ht w'
   have hc:∀ k,w'.cell? ⟨(G.ob o).blk,k,none⟩=w.cell? ⟨(G.ob o).blk,k,none⟩:=fun k=>by simp [World.cell?,hw'.block _ hlt]
   obtain⟨v',h1',_⟩:=key w' hw'
   rw [h1']
   congr 1
   cases agg with
   |false=>
    simp only [jq,cond_false] at hr
    obtain⟨y,hy⟩:=vz hr (Nat.le_of_eq h5)
    have e1:w.cell? ⟨(G.ob o).blk,off,none⟩=some y:=by simp [World.cell?,h4,hy]
    have e2:w'.cell? ⟨(G.ob o).blk,off,none⟩=some y:=by rw [hc,e1]
    simp [loadVar,i2,run_load,e1] at hr1
    simp [loadVar,j2,run_load,e2] at h1'
    rw [← h1',hr1]
   |true=>
    simp only [jq,cond_true] at hr
    cases hb2:Nat.ble (off+sz) cs.length with
    |false=>rw [hb2] at hr;simp at hr
    |true=>
     have hle:off+sz≤cs.length:=Nat.le_of_ble_eq_true hb2
     have e1:∀ j,j<sz→w.cell? ⟨(G.ob o).blk,off+j,none⟩=some (c.getD (off+j) undef):=fun j hj=>by
      have:off+j<c.size:=by omega
      simp [World.cell?,h4,this]
     have e2:∀ j,j<sz→w'.cell? ⟨(G.ob o).blk,off+j,none⟩=some (c.getD (off+j) undef):=fun j hj=>by rw [hc,e1 j hj]
     have l1:=run_loadCells (P:=E.P) (w:=w) ⟨(G.ob o).blk,off,none⟩ sz (fun j=>c.getD (off+j) undef) (fun j hj=>by rw [Addr.add_lit];exact e1 j hj)
     have l2:=run_loadCells (P:=E.P) (w:=w') ⟨(G.ob o).blk,off,none⟩ sz (fun j=>c.getD (off+j) undef) (fun j hj=>by rw [Addr.add_lit];exact e2 j hj)
     simp [loadVar,i1,i2,l1] at hr1
     simp [loadVar,j1,j2,l2] at h1'
     rw [← h1',hr1]
  obtain⟨v,hrun,hR⟩:=key w (Below.refl _ _)
  exact⟨v,r,fun w' hw'=>by simp only [execOp,hv,Instr.loadAt,Instr.sureAddr];simp [hsame w' hw' v hrun],hR,h⟩
theorem qhu {f:FuncId} {xs:Array Operand} {ts:Array TypeId} {args:List AV} {r:AV} {v:Value} (hok:qvh E) (hrun:∀ vs w,(callFunc f vs).run E.P w = .ok (.enter f vs) w)
  (hxs:xs.toList.map (qj N s)=args) (hp:∀ x∈args,Pure x) (hs:Sure r v) (hpr:∀ G,Rel G r v) (hc:qn E f args [] fun a st1=>a=r∧st1=[])
  (h:AQ E N ops rest K (s.put d r)):AQ E N ops (⟨d,.call ⟨.value (.func f),xs,ts⟩,T,p,af,none⟩::rest) K s:=by
 refine⟨fun B0 w0 G a w hL hI Q hQ=>?_⟩
 refine⟨fun _ _ _ _=>trivial,?_⟩
 simp only [Region.wanted]
 refine⟨v,fun w' hw'=>?_,?_⟩
 ·have hr:(execOp a.eval ⟨d,.call ⟨.value (.func f),xs,ts⟩,T,p,af,none⟩).run E.P w' = .ok (.enter f (xs.map a.eval)) w':=by
   have he:a.eval (.func f) = .func (.func f) #[] #[]:=rfl
   generalize a.eval = ρ at he
   simp [execOp,resolve,Deferred.ofValue,he,invoke,hrun]
  have hrl:=qda hI xs
  rw [hxs] at hrl
  unfold Oper.quietAtIn
  rw [hr]
  refine⟨rfl,fun h=>by simp [fw,Fence.wide] at h,qfb ?_⟩
  have hb:Below B0 w0 w':=hI.agree.below.trans (hw'.mono hI.agree.hB)
  have hB:B0≤w'.heap.size:=Nat.le_trans hI.agree.hB hw'.size
  have hA':=hI.agree.fresh hw'
  refine (hc.run w'.heap.size w' ⟨G.pub,G.ob,0⟩ (xs.map a.eval) w' (hok B0 w0 w' hL hb hB) ⟨Below.refl _ _,Nat.le_refl _,rfl,hA'.pub,nofun,nofun⟩ ⟨hrl.1,fun i x y hx hy=>?_⟩).mono ?_
  ·exact hp x (List.mem_of_getElem? hx) G _ y (fun b vs hb=>⟨[],by simpa using hb⟩) (hrl.2 i x y hx hy)
  ·rintro e w'' ⟨u,G',r',st',rfl,hG,hA,hR,rfl,rfl⟩
   rw [hs G' u hR]
   exact⟨rfl,hw'.trans (hA.below.mono hw'.size)⟩
 ·refine h.run B0 w0 G _ w hL (hI.put (.refl G) hI.agree d (hpr G)) Q fun s' a' hI' hst hK=>hQ s' a' hI' ?_ hK
  rw [hst]
  cases d <;> rfl
end
end Go.Av
namespace Go.Av
open Go Go.RowKit
section
variable {E : Env} {rd : Option Nat} {N : Nat} {ops : Array Oper} {K : AS → Prop} {s : AS} {rest : List Oper} {d : Option Tmp} {T : TypeId} {p : String} {af : Array Edge}
theorem qn6 {x:Operand} {t:TypeId} {sz:Nat} {agg:Bool} {st loc:List AObj} {k ver off:Nat} {T':TypeId} {cs:List AV} {r:AV} (hs:s.st=st++loc) (hx:qj N s x = .bx (st.length+k) ver off) (ho:loc[k]? = some (.cells ver T' cs)) (ht:tyOf E.P t=some (sz,agg)) (hr:jq sz agg off cs=some r)
  (h:AQ E N ops rest K (s.put d r)):AQ E N ops (⟨d,.load t x,T,p,af,none⟩::rest) K s:=
 qqe hx (by rw [hs];exact zl ho) ht hr h
end
end Go.Av
namespace Go.Proofs.YtneejjefekdgjaaGreatDoor
open Go Go.Av Go.RowKit Go.Proofs Go.Pl
structure qct where
 kind:Int
 key:qa
 text:qa
 lo:Int
 hi:Int
abbrev FldV:=qa×qa
@[reducible] def fldA (f : FldV) : AV := .ag [Sv f.1, Sv f.2]
@[reducible] def jj (l : List FldV) : AV := .sl 2 (l.map fldA) none
def zab (r:qct):Prop:=1≤r.kind∧r.kind≤7∧(r.kind=6∨yq r.key)
instance (r:qct):Decidable (zab r):=inferInstanceAs (Decidable (_∧_∧_))
def q14 (l:qa):List qa:=if l=[] then [] else q5 l
theorem q6l (xs:List qa):Pure (.sl 1 (xs.map fun x=>Sv x) none):=qew fun x hx=>by
 simp only [List.mem_map] at hx
 obtain⟨l,_,rfl⟩:=hx
 intro y hy
 simp [AV.cells] at hy
 subst hy
 exact qx _
def qnx (r:qct) (n:Int):Prop:=r.lo≤n∧n≤r.hi
instance (r:qct) (n:Int):Decidable (qnx r n):=inferInstanceAs (Decidable (_∧_))
def q1o (r:qct) (l:qa):Prop:=∃ n,numZ l=some n∧qnx r n
instance (r:qct) (l:qa):Decidable (q1o r l):=
 match h:numZ l with
 |some n=>decidable_of_iff (qnx r n) ⟨fun h'=>⟨n,h,h'⟩,fun ⟨m,h1,h2⟩=>by rw [h] at h1;cases h1;exact h2⟩
 |none=>.isFalse fun ⟨m,h1,_⟩=>by rw [h] at h1;cases h1
def qzc (r:qct) (f:FldV):Prop:=
 (r.kind=3→f.1=r.key→q1o r f.2)∧(r.kind=4→f.1=r.key→f.2∈q14 r.text)∧(r.kind=5→f.1=r.key→qnx r f.2.length)∧(r.kind=6→f.1∈q14 r.text)
instance (r:qct) (f:FldV):Decidable (qzc r f):=inferInstanceAs (Decidable (_∧_∧_∧_))
theorem qkv {xs:List FldV} {k:Nat} (hk:k<xs.length):(xs.map fldA)[k]? = some (fldA (xs.getD k ([],[]))):=by
 simp [List.getD,hk]
def qnd (key:qa) (xs:List FldV):List qa:=(xs.filter fun f=>f.1=key).map Prod.snd
def za3 (r:qct) (xs:List FldV):Prop:=zab r∧((r.kind=1∧(qnd r.key xs).length=0)∨(r.kind=2∧1<(qnd r.key xs).length)∨(r.kind≠1∧r.kind≠2∧xs.any (fun f=> !decide (qzc r f))=true))
instance (r:qct) (xs:List FldV):Decidable (za3 r xs):=inferInstanceAs (Decidable (_∧(_∨_∨_)))
structure q98 (xs:List FldV):Prop where
 len:xs.length<1000000
 val:∀ f∈xs,f.1.length<4294967281∧f.2.length<4294967281
def badR (r:qct) (f:FldV):Bool:= !decide (qzc r f)
def cntR (r:qct) (xs:List FldV):Nat:=if r.kind=6 then 0 else (qnd r.key xs).length
end Go.Proofs.YtneejjefekdgjaaGreatDoor
namespace Go.Av
open Go Go.RowKit Go.WideShapes Go.ChangeShapes Go.Deep
def gW (W:World):Gh:=⟨fun b=>match W.heap[b]? with|some (.cells c _ _)=>some c.toList | _=>none,fun _=>⟨0,0,0,false⟩,0⟩
theorem zc1 {W:World} {b:Nat} {c:Array Value} {T:TypeId} {fz:Nat×Nat} (h:W.heap[b]? = some (.cells c T fz)):(gW W).pub b=some c.toList:=by
 simp [gW,h]
theorem qvz (W:World):zk W.heap.size W (gW W) [] W:=by
 refine⟨Below.refl _ _,Nat.le_refl _,rfl,fun b vs h=>?_,fun o x h=>by simp at h,fun o o' x x' _ h=>by simp at h⟩
 simp only [gW] at h
 split at h
 ·rename_i c T fz hb
  cases h
  exact⟨c,T,fz,hb,fun i y hy=>by simpa using hy⟩
 ·cases h
theorem qql {E:Env} {f:FuncId} {args:List AV} {vals:Array Value} {b:Bool} {W:World} (h:qn E f args [] fun r st'=>r=Bv b∧st'=[]) (hL:E.L W.heap.size W) (ha:RelL (gW W) args vals) :
  Calls E.P f vals W fun e w'=>e = .returned (.bool b)∧Below W.heap.size W w':=by
 refine (h.run W.heap.size W (gW W) vals W hL (qvz W) ha).mono ?_
 rintro e w' ⟨v,G',r,st',rfl,_,hA,hr,rfl,_⟩
 cases hr
 exact⟨rfl,hA.below⟩
theorem q9s {G:Gh}:RelL G [] #[]:=⟨rfl,fun i x y h=>by simp at h⟩
theorem qup {G:Gh} {a:AV} {us:List AV} {v:Value} {vs:List Value} (h:Rel G a v) (hs:RelL G us vs.toArray):RelL G (a::us) (v::vs).toArray:=by
 refine⟨by simpa using hs.1,fun i x y hx hy=>?_⟩
 cases i with
 |zero=>simp at hx hy;subst hx;subst hy;exact h
 |succ i=>exact hs.2 i x y (by simpa using hx) (by simpa using hy)
def RelK (G:Gh) (us:List AV) (cs:List Value):Prop:=us.length=cs.length∧∀ (i:Nat) (x:AV) (y:Value),us[i]? = some x→cs[i]? = some y→Rel G x y
theorem qlj {G:Gh} {a:AV} {v:Value} (h:Rel G a v):RelK G [a] [v]:=⟨rfl,fun i x y hx hy=>by
 cases i with
 |zero=>simp at hx hy;subst hx;subst hy;exact h
 |succ i=>simp at hx⟩
theorem RelK.one {G:Gh} {a:AV} {v:Value} (h:RelK G [a] [v]):Rel G a v:=h.2 0 a v rfl rfl
def Opn (P:Program) (t:TypeId) (S:AV→Prop):Prop:=∀ (H:Type) (enc:TypeId×Value→H) (W:World) (fuel:Nat) (cs:List Value) (x:DataW H×List MemPlace),
 DataW.trod enc P W 0 (fun _=>true) true fuel t cs=some x→∃ a,S a∧RelK (gW W) a.cells cs
def IsS (a:AV):Prop:=∃ l:List UInt8,a=Sv l∧l.length≤maxLen
def IsI (k:IntKind) (a:AV):Prop:=∃ n:Int,a = .v (.int k n)∧(Lit.int k n).wf=true
def IsSl (sz:Nat) (S:AV→Prop) (a:AV):Prop:=∃ xs:List AV,a = .sl sz xs none∧xs.length≤maxLen∧∀ x∈xs,S x
def IsAg (Ss:List (AV→Prop)) (a:AV):Prop:=∃ vs:List AV,a = .ag vs∧vs.length=Ss.length∧∀ (i:Nat) (S:AV→Prop) (v:AV),Ss[i]? = some S→vs[i]? = some v→S v
def One (S:AV→Prop):Prop:=∀ a,S a→a.cells=[a]
theorem zag:One IsS:=by rintro _ ⟨l,rfl,_⟩;rfl
theorem zaf (k:IntKind):One (IsI k):=by rintro _ ⟨l,rfl,_⟩;rfl
theorem zak (s:ByteArray):Sv s.data.toList = .v (.string s):=by cases s;simp
theorem zai {P:Program} {t:TypeId} (hu:P.underlying t=some .string):Opn P t IsS:=by
 intro H enc W fuel cs x h
 obtain⟨s,rfl,_,hs⟩:=DataW.trod_string hu h
 refine⟨Sv s.data.toList,⟨_,rfl,by simpa using hs⟩,qlj ?_⟩
 rw [zak]
 exact .v _
theorem zah {P:Program} {t:TypeId} {k:IntKind} (hu:P.underlying t=some (.int k)):Opn P t (IsI k):=by
 intro H enc W fuel cs x h
 obtain⟨n,rfl,_,hs⟩:=DataW.trod_int hu h
 exact⟨_,⟨n,rfl,hs⟩,qlj (.v _)⟩
theorem qoc {n:Nat} {Q:Nat→AV→Prop} (h:∀ i,i<n→∃ a,Q i a):∃ vs:List AV,vs.length=n∧∀ i v,vs[i]? = some v→Q i v:=by
 induction n with
 |zero=>exact⟨[],rfl,fun i v h=>by simp at h⟩
 |succ n ih=>
  obtain⟨vs,hl,hv⟩:=ih fun i hi=>h i (by omega)
  obtain⟨a,ha⟩:=h n (by omega)
  refine⟨vs++[a],by simp [hl],fun i v hi=>?_⟩
  rcases Nat.lt_or_ge i n with hc|hc
  ·rw [List.getElem?_append_left (by omega)] at hi
   exact hv i v hi
  ·rw [List.getElem?_append_right (by omega)] at hi
   have:i - vs.length=0:=by
    rcases Nat.eq_zero_or_pos (i - vs.length) with h0|h0
    ·exact h0
    ·rw [List.getElem?_eq_none (by simp;omega)] at hi;cases hi
   rw [this] at hi
   simp at hi
   subst hi
   have:i=n:=by omega
   subst this
   exact ha
theorem zde {P:Program} {t:TypeId} {fs:Array Field} {Ss:List (AV→Prop)} (hu:P.underlying t=some (.struct fs)) (hone:oneCellFields P fs=true) (hC:P.cellsOf t=fs.size) (hl:Ss.length=fs.size)
  (hS:∀ (i:Nat) (f:Field) (S:AV→Prop),fs[i]? = some f→Ss[i]? = some S→Opn P f.type S∧One S):Opn P t (IsAg Ss):=by
 intro H enc W fuel cs x h
 obtain⟨xs,n,_,_,hcl,hxl,hf⟩:=DataW.trod_struct hu h
 have hcs:cs.length=fs.size:=hcl.trans hC
 have step:∀ i,i<fs.size→∃ a:AV,(∀ S,Ss[i]? = some S→S a)∧∀ y,cs[i]? = some y→Rel (gW W) a y:=by
  intro i hi
  have hfi:fs[i]? = some fs[i]:=Array.getElem?_eq_getElem hi
  have hSi:Ss[i]? = some (Ss[i]'(by omega)):=List.getElem?_eq_getElem (by omega)
  obtain⟨hO,h1⟩:=hS i _ _ hfi hSi
  obtain⟨ho,hk⟩:=hone_of hone i _ hfi
  have ht:=hf i _ hfi
  rw [ho,hk] at ht
  have hd:(cs.drop i).take 1=[cs[i]'(by omega)]:=by
   rw [List.drop_eq_getElem_cons (by omega)]
   rfl
  rw [hd,List.getElem?_eq_getElem (by omega)] at ht
  obtain⟨a,ha,hr⟩:=hO H enc W n _ _ ht
  rw [h1 a ha] at hr
  refine⟨a,fun S hs=>?_,fun y hy=>?_⟩
  ·rw [hSi] at hs;cases hs;exact ha
  ·rw [List.getElem?_eq_getElem (by omega)] at hy;cases hy;exact hr.one
 obtain⟨vs,hvl,hv⟩:=qoc step
 refine⟨.ag vs,⟨vs,rfl,by omega,fun i S v hs hvi=>(hv i v hvi).1 S hs⟩,by show vs.length=cs.length;omega,fun i x y hx hy=>(hv i x hx).2 y hy⟩
theorem q00 {W:World} {a:Addr} {n:Nat} {v:Value} (h:W.cell? (a.add n)=some v):∃ (c:Array Value) (T:TypeId) (fz:Nat×Nat),W.heap[a.block]? = some (.cells c T fz)∧c[a.off+n]? = some v∧(n=0→a.spot=none):=by
 unfold World.cell? Addr.add at h
 by_cases hn:n=0
 ·subst hn
  simp only [if_true] at h
  split at h
  ·rename_i c T fz hb
   split at h
   ·cases h
   ·rename_i hs
    exact⟨c,T,fz,hb,by simpa using h,fun _=>by simpa using hs⟩
  ·cases h
 ·rw [if_neg hn] at h
  simp only at h
  split at h
  ·rename_i c T fz hb
   exact⟨c,T,fz,hb,by simpa using h,fun e=>absurd e hn⟩
  ·cases h
theorem q6c {P:Program} {t e:TypeId} {sz:Nat} {S:AV→Prop} (hu:P.underlying t=some (.slice e)) (hC:P.cellsOf e=sz) (hz:0<sz) (hS:Opn P e S):Opn P t (IsSl sz S):=by
 intro H enc W fuel cs x h
 rcases open_slice hu h with⟨rfl,_⟩ | ⟨a,len,cap,m,n,D,Pl,rfl,_,hlc,hcm,hm,_,hel⟩
 ·exact⟨.sl sz [] none,⟨[],rfl,by simp,by simp⟩,qlj (.sl0 sz none _ _ (by simp))⟩
 ·have hm':len≤m:=by rw [hm];simpa using hlc
  rw [hC] at hel
  have step:∀ i,i<len→∃ y:AV,S y∧y.cells.length=sz∧∀ j,j<sz→∃ (u:AV) (v:Value),y.cells[j]? = some u∧W.cell? (a.add (i * sz+j))=some v∧Rel (gW W) u v:=by
   intro i hi
   obtain⟨cs',hc,ht⟩:=hel i (by omega)
   obtain⟨_,hcl,hat⟩:=World.cells?_some hc
   obtain⟨y,hy,hr⟩:=hS H enc W n cs' _ ht
   refine⟨y,hy,hr.1.trans hcl,fun j hj=>?_⟩
   have h1:y.cells[j]? = some (y.cells[j]'(by rw [hr.1,hcl];exact hj)):=List.getElem?_eq_getElem _
   have h2:cs'[j]? = some (cs'[j]'(by omega)):=List.getElem?_eq_getElem _
   refine⟨_,_,h1,?_,hr.2 j _ _ h1 h2⟩
   rw [← Go.Deep.add_add,hat j hj,h2]
  obtain⟨xs,hxl,hx⟩:=qoc step
  have hmem:∀ y∈xs,S y∧y.cells.length=sz:=fun y hy=>by
   obtain⟨i,hi,rfl⟩:=List.mem_iff_getElem.1 hy
   have:=hx i xs[i] (List.getElem?_eq_getElem hi)
   exact⟨this.1,this.2.1⟩
  refine⟨.sl sz xs none,⟨xs,rfl,by omega,fun y hy=>(hmem y hy).1⟩,qlj ?_⟩
  rcases Nat.eq_zero_or_pos len with h0|h0
  ·subst h0
   have:xs=[]:=List.length_eq_zero_iff.1 hxl
   subst this
   exact .sl0 sz none _ _ (by simp)
  ·have hfl:(flat xs).length=len * sz:=by rw [z4 fun y hy=>(hmem y hy).2,hxl]
   have at0:∀ k,k<len * sz→∃ (u:AV) (v:Value),(flat xs)[k]? = some u∧W.cell? (a.add k)=some v∧Rel (gW W) u v:=by
    intro k hk
    have hq:k / sz<len:=(Nat.div_lt_iff_lt_mul hz).2 hk
    have hr:k % sz<sz:=Nat.mod_lt _ hz
    have e:k / sz * sz+k % sz=k:=by rw [Nat.mul_comm];exact Nat.div_add_mod k sz
    have hxi:xs[k / sz]? = some (xs[k / sz]'(by omega)):=List.getElem?_eq_getElem _
    obtain⟨_,_,hj⟩:=hx _ _ hxi
    obtain⟨u,v,h1,h2,h3⟩:=hj _ hr
    have:=qhy (sz:=sz) (fun y hy=>(hmem y hy).2) hxi _ hr
    rw [e] at this h2
    exact⟨u,v,this.trans h1,h2,h3⟩
   have hpos:0<len * sz:=Nat.mul_pos h0 hz
   obtain⟨_,_,_,hc0,_⟩:=at0 0 hpos
   obtain⟨c,T,fz,hb,_,hspot⟩:=q00 hc0
   have hin:∀ k,k<len * sz→∃ (u:AV) (v:Value),(flat xs)[k]? = some u∧c.toList[a.off+k]? = some v∧Rel (gW W) u v:=by
    intro k hk
    obtain⟨u,v,h1,h2,h3⟩:=at0 k hk
    obtain⟨c',T',fz',hb',hv,_⟩:=q00 h2
    rw [hb] at hb'
    cases hb'
    exact⟨u,v,h1,by simpa using hv,h3⟩
   obtain⟨b,off,spot⟩:=a
   have hs:=hspot rfl
   simp only at hs hb hin
   subst hs
   rw [← hxl]
   refine .sl sz xs none b off cap c.toList (zc1 hb) (fun y hy=>(hmem y hy).2) ?_ ?_ ?_ (by omega)
   ·obtain⟨_,_,_,hv,_⟩:=hin (len * sz - 1) (by omega)
    have:=(List.getElem?_eq_some_iff.1 hv).1
    omega
   ·intro i x y hx' hy'
    have hi:i<len * sz:=by rw [← hfl];exact (List.getElem?_eq_some_iff.1 hx').1
    obtain⟨u,v,h1,h2,h3⟩:=hin i hi
    rw [hx'] at h1
    rw [hy'] at h2
    cases h1
    cases h2
    exact h3
   ·intro t ht
    simp at ht
def fieldsOf (P:Program) (t:TypeId):Array Field:=match P.underlying t with|some (.struct fs)=>fs | _=> #[]
theorem qrj {P:Program} {t:TypeId} {As:List (Option TypeDesc×(AV→Prop))} (hu:P.underlying t=some (.struct (fieldsOf P t))) (hone:oneCellFields P (fieldsOf P t)=true) (hC:P.cellsOf t=(fieldsOf P t).size)
  (hF:(fieldsOf P t).toList.map (fun f=>P.underlying f.type)=As.map Prod.fst) (hA:∀ p∈As,(∀ u,P.underlying u=p.1→Opn P u p.2)∧One p.2):Opn P t (IsAg (As.map Prod.snd)):=by
 have hl:As.length=(fieldsOf P t).size:=by have:=congrArg List.length hF;simpa using this.symm
 refine zde hu hone hC (by simpa using hl) fun i f S hf hS=>?_
 obtain⟨p,hp,rfl⟩:∃ p,As[i]? = some p∧p.2=S:=by simpa using hS
 have h1:((fieldsOf P t).toList.map (fun f=>P.underlying f.type))[i]? = some (P.underlying f.type):=by simp [hf]
 rw [hF,List.getElem?_map,hp] at h1
 obtain⟨a,b⟩:=hA p (List.mem_of_getElem? hp)
 exact⟨a _ (by simpa using h1.symm),b⟩
theorem q0s {α : Type} {g : α→AV}:∀ {xs:List AV},(∀ x∈xs,∃ r,x=g r)→∃ rs:List α,xs=rs.map g
 | [],_=>⟨[],rfl⟩
 |x::xs,h=>by
  obtain⟨r,rfl⟩:=h x (by simp)
  obtain⟨rs,rfl⟩:=q0s (xs:=xs) fun y hy=>h y (by simp [hy])
  exact⟨r::rs,rfl⟩
theorem zco {H:Type} {enc:TypeId×Value→H} {P:Program} {W:World} {r:Reach} {b0:Nat} {t e:TypeId} {S:AV→Prop} {v:Value} {d:DataW H} {ps:List MemPlace} (hu:P.underlying t=some (.slice e)) (hO:Opn P t S) (h1:One S) (hval:Value.okWide P W r b0 t v) (hd:DataW.Trod enc P W 0 (fun _=>true) true t v d ps) :
  ∃ a,S a∧Rel (gW W) a v:=by
 obtain⟨a,len,cap,rfl⟩:=okWide_slice hu hval
 obtain⟨fuel,hf⟩:=hd
 obtain⟨y,hy,hr⟩:=hO H enc W fuel _ _ hf
 rw [h1 y hy] at hr
 exact⟨y,hy,RelK.one (by simpa [Value.cells] using hr)⟩
theorem zd3 {G:Gh} (s:ByteArray):Rel G (Sv s.data.toList) (.string s):=by rw [zak];exact .v _
theorem q70 {H:Type} {enc:TypeId×Value→H} {P:Program} {W W':World} {t:TypeId} (hl:laidOutB P=true) (hr:P.readableRec t=true) (hrow:t<P.types.size) {sp:Nat→Bool} {v:Value} {d:DataW H} {ps:List MemPlace}
  (hd:DataW.Trod enc P W 0 (fun _=>true) true t v d ps) (hb:Below W.heap.size W W') (hlt:∀ p∈ps,p.block<W.heap.size) (hs:∀ p∈ps,sp p.block=true):DataW.Trod enc P W' 0 sp true t v d ps:=
 Go.WideElems.Trod_stays hl hr hrow hd (fun p hp=>hb.same (hlt p hp)) hs
end Go.Av
namespace Go.Proofs.YtneejjefekdgjaaGreatDoor
open Go Go.Av Go.RowKit Go.Proofs Go.Pl
theorem zb0:Opn Tryz.prog 111 fun a=>∃ f:FldV,a=fldA f:=by
 intro H enc W fuel cs x h
 obtain⟨a,⟨vs,rfl,hl,hv⟩,hr⟩:=qrj (As:=[(some .string,IsS),(some .string,IsS)]) (by kernel_rfl) (by kernel_rfl) (by kernel_rfl) (by kernel_rfl)
  (List.forall_mem_cons.2 ⟨⟨fun _ h=>zai h,zag⟩,List.forall_mem_cons.2 ⟨⟨fun _ h=>zai h,zag⟩,nofun⟩⟩) H enc W fuel cs x h
 match vs,hl with
 | [v0,v1],_=>
  obtain⟨l0,rfl,_⟩:=hv 0 _ _ rfl rfl
  obtain⟨l1,rfl,_⟩:=hv 1 _ _ rfl rfl
  exact⟨_,⟨(l0,l1),rfl⟩,hr⟩
theorem q9a {t:TypeId} (hu:Tryz.prog.underlying t=some (.slice 111)):Opn Tryz.prog t fun a=>∃ xs:List FldV,a=jj xs∧xs.length≤maxLen:=by
 intro H enc W fuel cs x h
 obtain⟨a,⟨xs,rfl,hl,hx⟩,hr⟩:=q6c (sz:=2) hu (by kernel_rfl) (by decide) zb0 H enc W fuel cs x h
 obtain⟨rs,rfl⟩:=q0s hx
 exact⟨_,⟨rs,rfl,by simpa using hl⟩,hr⟩
theorem q87:One fun a=>∃ xs:List FldV,a=jj xs∧xs.length≤maxLen:=by rintro _ ⟨xs,rfl,_⟩;rfl
theorem q51 {n:Nat} (h:n≤maxLen):n<9223372036854775808:=by unfold maxLen at h;omega
theorem qjn (l w:List UInt8) (st:List AObj):qn E 251 [Sv l,Sv w] st fun r st'=>r=Bv (decide (w <+: l))∧st'=st:=by
 refine qu (qx _) (qo Tryz.func251 rfl (Nat.le_of_ble_eq_true rfl) ?_)
 repeat' (first|apply qm|apply qd|apply qc|apply qi|apply qe|(apply qq;(iterate 3 exact rfl))|(apply jg;(iterate 3 exact rfl))|(apply qv;(iterate 4 exact rfl))|(apply xq;exact cAo)|(apply xc;exact cAo)|(apply je <;> intro h)|(apply qh;exact rfl;apply wp;exact cAo)|(apply qh;exact rfl;apply v8;exact cAo)|(apply zo;(iterate 3 exact rfl))|(apply qa5;(iterate 3 exact rfl);exact cAs)|apply qs)
 all_goals refine qk rfl (qz rfl) ⟨congrArg Bv (?_:(_:Bool)=_),_,rfl⟩
 ·have e:w <+: l↔l.take w.length=w:=by
   rw [List.prefix_iff_eq_take]
   exact⟨fun h=>h.symm,fun h=>h.symm⟩
  exact decide_eq_decide.2 e.symm
 ·refine (decide_eq_false fun h=>?_).symm
  have:=h.length_le
  omega
structure qr where
 kind:Int
 id:Int
 fields:List FldV
@[reducible] def q8 (e : qr) : AV := .ag [Iv e.kind, Iv e.id, jj e.fields]
def x9 (k:Int):qa:=if k=1 then [32,114,101,112,108,97,99,101,32] else if k=2 then [32,100,101,108,101,116,101,32] else if k=3 then [32,105,110,115,101,114,116,32] else []
def jz (e:qr):qa:=if 1≤e.kind∧e.kind≤3 then x9 e.kind++Lib.itoa e.id else []
theorem qun (e:qr) (st:List AObj) (h1 : -9223372036854775808≤e.id) (h2:e.id≤9223372036854775807):qn E 181 [q8 e] st fun r st'=>r=Sv (jz e)∧st'=st:=by
 refine qu (qx _) (qo Tryz.func181 rfl (Nat.le_of_ble_eq_true rfl) ?_)
 have hn:=Lib.itoa_length_le e.id h1 h2
 repeat' (first|apply qm|apply qd|apply qc|apply qe|(apply qq;(iterate 3 exact rfl))|(apply qb;exact rfl;apply cd_d <;> intro h)|(apply jl;exact rfl;exact rfl;exact cOs)|(apply qbm;(iterate 4 exact rfl))|(apply zm;(iterate 3 exact rfl))|(apply za;(iterate 5 exact rfl))|apply qw|apply qs|(apply qf;exact Tryz.call114;exact qed _ _ h1 h2))
 all_goals refine qk rfl (qz rfl) ⟨congrArg (fun l:qa=>Sv l) (?_:_=jz e),_,rfl⟩
 all_goals simp_all [jz,x9]
 all_goals omega
def qbl (k:Int):qa:=if k=1 then [114,101,112,108,97,99,101] else if k=2 then [100,101,108,101,116,101] else if k=3 then [105,110,115,101,114,116] else []
theorem qr7 (k:Int) (st:List AObj):qn E 239 [Iv k] st fun r st'=>r=Sv (qbl k)∧st'=st:=by
 refine qu (qx _) (qo Tryz.func239 rfl (Nat.le_of_ble_eq_true rfl) ?_)
 repeat' (first|apply qm|apply qt|apply qd|apply qc|apply qi|apply qe|(apply qq;(iterate 3 exact rfl))|(apply qb;exact rfl;apply cd_d <;> intro h)|apply qw|apply qs)
 all_goals refine qk rfl (qz rfl) ⟨congrArg (fun l:qa=>Sv l) (?_:_=qbl k),_,rfl⟩
 all_goals simp_all [qbl]
theorem q7n (k:Int):(qbl k).length≤7:=by
 unfold qbl
 repeat' split
 all_goals simp
theorem qzz (k:Int):x9 k=if qbl k=[] then [] else [32]++qbl k++[32]:=by
 unfold x9 qbl
 repeat' split
 all_goals simp_all
theorem q7o (k:Int):qbl k=[]↔¬ (1≤k∧k≤3):=by
 unfold qbl
 repeat' split
 all_goals simp_all
 omega
theorem zc6 (e:qr) (st:List AObj) (h1 : -9223372036854775808≤e.id) (h2:e.id≤9223372036854775807):qn E 169 [q8 e] st fun r st'=>r=Sv (jz e)∧st'=st:=by
 refine qu (qx _) (qo Tryz.func169 rfl (Nat.le_of_ble_eq_true rfl) ?_)
 have hn:=Lib.itoa_length_le e.id h1 h2
 have hw:=q7n e.kind
 have ho:=qzz e.kind
 have hz:=q7o e.kind
 repeat' (first|apply qm|apply qd|apply qc|apply qi|apply qe|(apply jg;(iterate 3 exact rfl))|(apply qb;exact rfl;apply cd_d <;> intro h)|(apply jl;exact rfl;exact rfl;exact cOs)|(apply qbm;(iterate 4 exact rfl))|(apply zm;(iterate 3 exact rfl))|(apply za;(iterate 5 exact rfl))|apply qw|apply qs|(apply qf;exact Tryz.call239;exact qr7 _ _)|(apply qf;exact Tryz.call133;exact qmr _ _ h1 h2))
 all_goals refine qk rfl (qz rfl) ⟨congrArg (fun l:qa=>Sv l) (?_:_=jz e),_,rfl⟩
 all_goals unfold jz
 ·rw [if_neg (by simp_all)]
 ·rw [if_pos (by simp_all),ho,if_neg (by assumption)]
end Go.Proofs.YtneejjefekdgjaaGreatDoor
namespace Go.Av
open Go Go.RowKit
def noop (o:Oper):Oper:={ o with op:=.move (.const undef),guard:=none }
section
variable {F : Fence} {n : Nat} {P : Program} {ops ops' : Array Oper} {md : Region.Mode} {C : World → Prop} {Q : Exit → Act → World → Prop} {k : Nat} {o : Oper}
theorem qj6 {listed:Array Bool}:∀ k,listed.getD k true=false→∃ j,j≤k∧listed.getD j true=false∧∀ i,i<j→listed.getD i true=true:=by
 intro k
 induction k using Nat.strongRecOn with
 | _ k ih=>
  intro h
  by_cases hall:∀ i,i<k→listed.getD i true=true
  ·exact⟨k,Nat.le_refl _,h,hall⟩
  ·have ⟨i,hi⟩:=Classical.not_forall.1 hall
   have ⟨hi1,hi2⟩:=Classical.not_imp.1 hi
   obtain⟨j,h1,h2,h3⟩:=ih i hi1 (by simpa using hi2)
   exact⟨j,by omega,h2,h3⟩
theorem qvb {listed:Array Bool} {i:Nat} (h:listed.getD i true=true) (hi:i<listed.size):listed.getD i false=true:=by
 simp [Array.getD,hi] at h ⊢
 exact h
theorem qzy {listed:Array Bool} {i:Nat} (h:listed.getD i true=false) (h2:listed.getD i false=true):False:=by
 unfold Array.getD at h h2
 by_cases hi:i<listed.size
 ·rw [dif_pos hi] at h h2
  rw [h] at h2
  cases h2
 ·rw [dif_neg hi] at h
  cases h
theorem qou {listed:Array Bool} {j:Nat} (hsz:listed.size=ops.size) (hord:∀ (j:Nat) o,ops[j]? = some o→∀ e∈o.after,e.on<j) (hj:listed.getD j true=false) (hall:∀ i,i<j→listed.getD i true=true):j∈Region.ready md ops listed:=by
 have hlt:j<listed.size:=by
  rcases Nat.lt_or_ge j listed.size with h|h
  ·exact h
  ·simp [Array.getD,Nat.not_lt.2 h] at hj
 rw [mem_ready]
 have ho:ops[j]? = some ops[j]:=Array.getElem?_eq_getElem (by omega)
 exact⟨hj,_,ho,fun e he _=>qvb (hall _ (hord j _ ho e he)) (by have:=hord j _ ho e he;omega)⟩
theorem qlg {listed:Array Bool} (hs:ops.size=ops'.size) (hk:ops[k]? = some o) (hk':ops'[k]? = some (noop o)) (hoth:∀ j,j≠k→ops'[j]? = ops[j]?):Region.ready md ops' listed=Region.ready md ops listed:=by
 unfold Region.ready
 rw [hs]
 refine List.filter_congr fun i _=>?_
 by_cases h:i=k
 ·subst h;rw [hk,hk'];rfl
 ·rw [hoth i h]
theorem qzh (hd:o.dst=none) (hk:ops[k]? = some o) (hk':ops'[k]? = some (noop o)) (hoth:∀ j,j≠k→ops'[j]? = ops[j]?) (t:Array Value):yielded ops' t=yielded ops t:=by
 funext j
 unfold yielded
 by_cases h:j=k
 ·subst h;rw [hk,hk'];simp [noop,hd]
 ·rw [hoth j h]
theorem qne (hro:F.round=none) (hsz:ops.size=ops'.size) (hk:ops[k]? = some o) (hk':ops'[k]? = some (noop o)) (hoth:∀ j,j≠k→ops'[j]? = ops[j]?) (hd:o.dst=none)
  (hord:∀ (j:Nat) o,ops[j]? = some o→∀ e∈o.after,e.on<j) (hcov:∀ j,j<ops.size→j≠k→∃ e∈o.after,Region.binds md e=true∧e.on=j) :
  ∀ (fuel:Nat) (listed:Array Bool) (a:Act) (w:World),C w→listed.size=ops.size→listed.getD k true=false→wpAnyQIn F n P md ops' C (fun a=>∀ w,C w→wpOpIn F n P ops Q k (Q .normal) a w) fuel listed a→wpAnyIn F n P md ops Q fuel listed a w
 | 0,listed,a,w,hC,hs,hun,h=>by
  have ⟨j,_,h2,h3⟩:=qj6 k hun
  have:=qou (md:=md) hs hord h2 h3
  rw [← qlg hsz hk hk' hoth,h.1] at this
  cases this
 |fuel+1,listed,a,w,hC,hs,hun,h=>by
  obtain⟨hq1,hq2⟩:=h
  rw [qlg hsz hk hk' hoth] at hq1 hq2
  refine⟨fun h0=>?_,fun i hi=>?_⟩
  ·have ⟨j,_,h2,h3⟩:=qj6 k hun
   have:=qou (md:=md) hs hord h2 h3
   rw [h0] at this
   cases this
  ·have hqi:=hq2 i hi
   by_cases hik:i=k
   ·subst hik
    obtain⟨_,o',ho',hall⟩:=mem_ready.1 hi
    rw [hk] at ho'
    cases ho'
    have hr:Region.ready md ops (listed.setIfInBounds i true)=[]:=by
     rw [List.eq_nil_iff_forall_not_mem]
     intro j hj
     obtain⟨hju,oj,hoj,_⟩:=mem_ready.1 hj
     have hjs:j<ops.size:=by
      rcases Nat.lt_or_ge j ops.size with h|h
      ·exact h
      ·rw [Array.getElem?_eq_none h] at hoj;cases hoj
     by_cases hji:j=i
     ·subst hji
      simp [Array.getD,hs,hjs] at hju
     ·obtain⟨e,he,hb,heq⟩:=hcov j hjs hji
      have h5:=hall e he hb
      rw [heq] at h5
      rw [getD_set_ne true (Ne.symm hji)] at hju
      exact qzy hju h5
    unfold qOpIn at hqi
    rw [hk'] at hqi
    simp only at hqi
    have hqe:=hqi.2
    have hwn:Region.wanted (noop o) (yielded ops' a.tmps)=true:=by simp [noop,Region.wanted]
    rw [if_pos hwn] at hqe
    obtain⟨v,_,hK⟩:=hqe
    have hput:a.put (noop o).dst v=a:=by simp [noop,hd,Act.put]
    rw [hput] at hK
    have hQ':∀ w,C w→wpOpIn F n P ops Q i (Q .normal) a w:=by
     cases fuel with
     |zero=>exact hK.2
     |succ fuel=>exact hK.1 (by rw [qlg hsz hk hk' hoth];exact hr)
    exact wpOpIn_mono (fun a' w' h'=>wpAnyIn_done hr h' _) (hQ' w hC)
   ·have he:qOpIn F n P ops C i (wpAnyQIn F n P md ops' C (fun a=>∀ w,C w→wpOpIn F n P ops Q k (Q .normal) a w) fuel (listed.setIfInBounds i true)) a:=by
     unfold qOpIn at hqi ⊢
     rw [hoth i hik] at hqi
     rw [← qzh hd hk hk' hoth]
     exact hqi
    refine wpOpIn_of_qOpIn hro hC (fun a' w' hC' hX=>qne hro hsz hk hk' hoth hd hord hcov fuel _ a' w' hC' (by simpa using hs) ?_ hX) he
    rw [getD_set_ne true hik]
    exact hun
def qe2 {α : Type}:List α→Option (List α×α)
 | []=>none
 | [x]=>some ([],x)
 |x::y::r=>match qe2 (y::r) with
  |some (l,o)=>some (x::l,o)
  |none=>none
theorem qm9 {α : Type}:∀ {L l:List α} {o : α},qe2 L=some (l,o)→L=l++[o]
 | [],_,_,h=>by simp [qe2] at h
 | [x],_,_,h=>by simp [qe2] at h;obtain⟨rfl,rfl⟩:=h;rfl
 |x::y::r,l,o,h=>by
  unfold qe2 at h
  split at h
  ·rename_i l' o' he
   simp only [Option.some.injEq,Prod.mk.injEq] at h
   obtain⟨rfl,rfl⟩:=h
   rw [qm9 he]
   rfl
  ·simp at h
def q02 (o:Oper) (k:Nat):Bool:=(List.range k).all fun j=>o.after.toList.any fun e=>Region.binds .any e && Nat.beq e.on j
def qyc (ops:List Oper):Bool:=(List.range ops.length).all fun j=>match ops[j]? with|some o=>o.after.toList.all fun e=>Nat.blt e.on j|none=>true
end
section
variable {E : Env} {N : Nat} {s : AS}
theorem qth {id:Nat} {L l:List Oper} {o:Oper} {Q:Exit→AS→Prop} (hsp:qe2 L=some (l,o)) (hd:o.dst=none) (hcov:q02 o l.length=true) (hord:qyc L=true) (hm:E.P.follows .mixedOrders=true) (hB:Region.lexB .any (l++[noop o]).toArray=true)
  (h:AQ E N (l++[noop o]).toArray l (fun s'=>AOps E none N L.toArray [o] (Q .normal) s') s):AWp E none N (.region id L.toArray true) Q s:=by
 have hLe:=qm9 hsp
 subst hLe
 refine⟨fun B0 w0 G a w hL hI=>?_⟩
 have hB2:=hB
 simp only [Region.lexB,Bool.and_eq_true] at hB2
 have hk:(l++[o]).toArray[l.length]? = some o:=by simp
 have hk':(l++[noop o]).toArray[l.length]? = some (noop o):=by simp
 have hoth:∀ j,j≠l.length→(l++[noop o]).toArray[j]? = (l++[o]).toArray[j]?:=fun j hj=>by
  simp only [List.getElem?_toArray]
  rcases Nat.lt_or_ge j l.length with h|h
  ·rw [List.getElem?_append_left h,List.getElem?_append_left h]
  ·rw [List.getElem?_eq_none (by simp;omega),List.getElem?_eq_none (by simp;omega)]
 have hordP:∀ (j:Nat) o',(l++[o]).toArray[j]? = some o'→∀ e∈o'.after,e.on<j:=fun j o' hj e he=>by
  simp only [qyc,List.all_eq_true,List.mem_range] at hord
  simp only [List.getElem?_toArray] at hj
  have h1:=hord j (lt_of_getElem? hj)
  rw [hj] at h1
  simp only at h1
  have h2:=List.all_eq_true.1 h1 e (by simpa using he)
  exact Nat.le_of_ble_eq_true h2
 have hcovP:∀ j,j<(l++[o]).toArray.size→j≠l.length→∃ e∈o.after,Region.binds .any e=true∧e.on=j:=fun j hj hne=>by
  simp only [q02,List.all_eq_true,List.mem_range] at hcov
  have h1:=hcov j (by simp at hj;omega)
  obtain⟨e,he,h2⟩:=List.any_eq_true.1 h1
  simp only [Bool.and_eq_true] at h2
  exact⟨e,by simpa using he,h2.1,Nat.eq_of_beq_eq_true h2.2⟩
 have hBl:Below w.heap.size w { w with drawn:=w.drawn+1 }:=⟨rfl,rfl,rfl,Nat.le_refl _,fun _ _=>rfl⟩
 refine wpIn_region_any hm (qne (C:=fun w'=>Below w.heap.size w w') (ops':=(l++[noop o]).toArray) (k:=l.length) rfl (by simp) hk hk' hoth hd hordP hcovP _ _ _ _ hBl (by simp) (by simp [Array.getD]) ?_)
 have hq:wpQuietIn (fw none) 0 E.P (l++[noop o]).toArray (fun w'=>Below w.heap.size w w') (fun a=>∀ w',Below w.heap.size w w'→wpOpIn (fw none) 0 E.P (l++[o]).toArray (fun e a' w'=>∃ (G':Gh) (s':AS),G.le G'∧Inv B0 w0 N G' s' a' w'∧Q e s') l.length (fun a' w'=>∃ (G':Gh) (s':AS),G.le G'∧Inv B0 w0 N G' s' a' w'∧Q .normal s') a w') (l++[noop o]) a:=by
  have step:∀ (l1:List Oper) (a:Act) (X:Act→Prop),wpQuietIn (fw none) 0 E.P (l++[noop o]).toArray (fun w'=>Below w.heap.size w w') X l1 a→wpQuietIn (fw none) 0 E.P (l++[noop o]).toArray (fun w'=>Below w.heap.size w w') X (l1++[noop o]) a:=by
   intro l1
   induction l1 with
   |nil=>
    intro a X hX
    refine⟨fun _ _ _ hf=>?_,?_⟩
    ·simp [Oper.about,noop] at hf
    ·have hwn:Region.wanted (noop o) (yielded (l++[noop o]).toArray a.tmps)=true:=by simp [noop,Region.wanted]
     rw [if_pos hwn]
     refine⟨undef,fun w' _=>?_,?_⟩
     ·unfold Oper.quietAtIn
      simp [noop,execOp,Oper.quietUponIn,Act.eval]
     ·have hput:a.put (noop o).dst undef=a:=by simp [noop,hd,Act.put]
      rw [hput]
      exact hX
   |cons o1 l1 ih=>
    intro a X hX
    refine⟨hX.1,?_⟩
    have h2:=hX.2
    split
    ·rename_i hw
     rw [if_pos hw] at h2
     obtain⟨v,h3,h4⟩:=h2
     exact⟨v,h3,ih _ _ h4⟩
    ·rename_i hw
     rw [if_neg hw] at h2
     exact ih _ _ h2
  refine step l a _ (h.run B0 w0 G a w hL hI _ fun s' a' hI' hst hks w' hw'=>?_)
  have hI2:Inv B0 w0 N G s' a' w':=⟨hI'.agree.fresh hw',hI'.defers,hI'.size,hI'.tmps⟩
  have hr:=hks.run B0 w0 G a' w' hL hI2 (fun e a' w'=>∃ (G':Gh) (s':AS),G.le G'∧Inv B0 w0 N G' s' a' w'∧Q e s') (fun G' s'' a'' w'' hG hI3 hQ=>⟨G',s'',hG,hI3,hQ⟩)
  unfold wpOpIn
  rw [hk]
  exact hr
 have:=wpAnyQIn_lex (F:=fw none) (n:=0) (C:=fun w'=>Below w.heap.size w w') (md:=.any) hB2.1 (l++[noop o]) 0 (Array.replicate (l++[noop o]).length false) a (by simp) (by simpa using hB2.2) hq
 simpa using this
variable {ops : Array Oper} {K : AS → Prop} {rest : List Oper} {d : Option Tmp} {T : TypeId} {p : String} {af : Array Edge}
theorem qik {x y:Operand} {t t':TypeId} {m n:List UInt8} (hx:qj N s x=Sv m) (hy:qj N s y=Sv n) (hl:m.length+n.length<9223372036854775808)
  (h:AQ E N ops rest K (s.put d (Sv (m++n)))):AQ E N ops (⟨d,.binOp .add t x y t',T,p,af,none⟩::rest) K s:=
 yu _ rfl nofun (fun a w he=>by
  simp only [execOp,he _ _ hx,he _ _ hy,eqGuard_at_string,binOp,Op.stringOp,qar,qte,IntKind.max_i64]
  rw [if_neg (by omega)]
  simp) h
theorem q0u {op:BinOp} {x y:Operand} {t t':TypeId} {k:IntKind} {m n:Int} {b:Bool} (hx:qj N s x = .v (.int k m)) (hy:qj N s y = .v (.int k n)) (hb:cmpI op m n=some b)
  (h:AQ E N ops rest K (s.put d (Bv b))):AQ E N ops (⟨d,.binOp op t x y t',T,p,af,none⟩::rest) K s:=
 yu _ rfl nofun (fun a w he=>by
  cases op <;> simp only [cmpI,Option.some.injEq,reduceCtorEq] at hb <;> subst hb <;> simp [execOp,he _ _ hx,he _ _ hy,eqGuard_at_int,binOp,Op.intCmp,← Bool.beq_eq_decide_eq,bne]) h
theorem vg {x y:Operand} {t e:TypeId} {sz:Nat} {agg:Bool} {xs:List AV} {tip:Option Nat} {k:IntKind} {i:Int} {n:Nat} {z:AV} (hx:qj N s x = .sl sz xs tip) (hy:qj N s y = .v (.int k i)) (hu:E.P.underlying t=some (.slice e)) (ht:tyOf E.P e=some (sz,agg)) (hi:i=n) (hz:xs[n]? = some z)
  (h:AQ E N ops rest K (s.put d (.pp z.cells))):AQ E N ops (⟨d,.indexAddr t x y,T,p,af,none⟩::rest) K s:=by
 refine qca rfl nofun fun B0 w0 G a w _ hI=>?_
 subst hi
 have he:=hI.eval_of hx
 have hey:=hI.evalv hy
 generalize hv:a.eval x=v at he
 have hlt:=lt_of_getElem? hz
 cases he with
 |sl0=>simp at hz
 |sl _ _ _ b off cap pub hp hw hlen hrel htip hcap=>
  have hzs:z.cells.length=sz:=hw z (List.mem_of_getElem? hz)
  have hfl:=z4 hw
  have hle:(n+1) * sz≤xs.length * sz:=Nat.mul_le_mul_right _ hlt
  rw [Nat.succ_mul] at hle
  refine⟨.pointer (some ⟨b,off+n * sz,none⟩),.pp z.cells,fun w' _=>?_,?_,h⟩
  ·generalize a.eval = ρ at hv hey
   simp only [execOp,hv,hey]
   simp [Instr.indexAt,asIntOf,run_underlying hu,hlt,(vj ht w').1,Addr.add_lit]
  ·refine .pp _ b _ pub hp (by omega) fun j q r h1 h2=>?_
   have hj:j<sz:=by have:=lt_of_getElem? h1;omega
   have hf:=qhy hw hz j hj
   exact hrel (n * sz+j) q r (by rw [hf];exact h1) (by rw [← h2];congr 1;omega)
theorem qil {x y:Operand} {t e:TypeId} {sz:Nat} {agg:Bool} {o ver off len cp:Nat} {k:IntKind} {i:Int} {n:Nat} (hx:qj N s x = .os o ver off len cp) (hy:qj N s y = .v (.int k i)) (hu:E.P.underlying t=some (.slice e)) (ht:tyOf E.P e=some (sz,agg)) (hi:i=n) (hn:n<len)
  (h:AQ E N ops rest K (s.put d (.bx o ver (off+n * sz)))):AQ E N ops (⟨d,.indexAddr t x y,T,p,af,none⟩::rest) K s:=by
 refine qca rfl nofun fun B0 w0 G a w _ hI=>?_
 subst hi
 have he:=hI.eval_of hx
 have hey:=hI.evalv hy
 generalize hv:a.eval x=v at he
 cases he with
 |os _ _ _ _ b cap hn' hver hb=>
  refine⟨.pointer (some ⟨b,off+n * sz,none⟩),_,fun w' _=>?_,.bx o ver _ b hn' hver hb,h⟩
  generalize a.eval = ρ at hv hey
  simp only [execOp,hv,hey]
  simp [Instr.indexAt,asIntOf,run_underlying hu,hn,(vj ht w').1,Addr.add_lit]
theorem qqd {t:TypeId} {x:Operand} {f off sz:Nat} {agg:Bool} {o ver q:Nat} (hx:qj N s x = .bx o ver q) (hf:y6 E.P t f=some (off,sz,agg)) (hsz:Nat.beq sz 0=false)
  (h:AQ E N ops rest K (s.put d (.bx o ver (q+off)))):AQ E N ops (⟨d,.fieldAddr t x f,T,p,af,none⟩::rest) K s:=by
 refine qca rfl nofun fun B0 w0 G a w _ hI=>?_
 have he:=hI.eval_of hx
 generalize hv:a.eval x=v at he
 cases he with
 |bx _ _ _ b hn hv' hb=>
  have hs:sz≠0:=fun e=>by subst e;simp at hsz
  exact⟨_,_,fun w' _=>by simp only [execOp,hv];simp [qcr hf hs],.bx o ver _ b hn hv' hb,h⟩
theorem y0 {t:TypeId} {x:Operand} {f off sz:Nat} {agg:Bool} {cs:List AV} (hx:qj N s x = .pp cs) (hf:y6 E.P t f=some (off,sz,agg)) (hsz:Nat.beq sz 0=false) (hle:Nat.ble off cs.length=true)
  (h:AQ E N ops rest K (s.put d (.pp (cs.drop off)))):AQ E N ops (⟨d,.fieldAddr t x f,T,p,af,none⟩::rest) K s:=by
 refine qca rfl nofun fun B0 w0 G a w _ hI=>?_
 have he:=hI.eval_of hx
 generalize hv:a.eval x=v at he
 cases he with
 |pp _ b q pub hp hlen hrel=>
  have hs:sz≠0:=fun e=>by subst e;simp at hsz
  have ho:off≤cs.length:=Nat.le_of_ble_eq_true hle
  refine⟨.pointer (some ⟨b,q+off,none⟩),_,fun w' _=>by simp only [execOp,hv];simp [qcr hf hs],?_,h⟩
  exact .pp _ b (q+off) pub hp (by simp;omega) fun i x y h1 h2=>hrel (off+i) x y (by simpa using h1) (by rw [← h2];congr 1;omega)
theorem qag {x:Operand} {t:TypeId} {sz:Nat} {agg:Bool} {cs:List AV} {r:AV} (hx:qj N s x = .pp cs) (ht:tyOf E.P t=some (sz,agg)) (hr:jq sz agg 0 cs=some r)
  (h:AQ E N ops rest K (s.put d r)):AQ E N ops (⟨d,.load t x,T,p,af,none⟩::rest) K s:=by
 refine qca rfl nofun fun B0 w0 G a w _ hI=>?_
 have he:=hI.eval_of hx
 generalize hv:a.eval x=v at he
 cases he with
 |pp _ b off pub hp hlen hrel=>
  obtain⟨c,T',fz,hc,hcc⟩:=hI.agree.pub b pub hp
  have hlt:b<w.heap.size:=hI.agree.pub_lt hp
  have key:∀ w',Below w.heap.size w w'→∃ v,(loadVar t ⟨b,off,none⟩).run E.P w' = .ok v w'∧Rel G r v:=fun w' hw'=>by
   have h4':w'.heap[b]? = some (.cells c T' fz):=by rw [hw'.block _ hlt];exact hc
   exact qaq (w:=w') (G:=G) (b:=b) (off:=off) ht (fun i x hx _=>by
    have hi:=lt_of_getElem? hx
    have hy:pub[off+i]? = some (pub[off+i]'(by omega)):=List.getElem?_eq_getElem (by omega)
    refine⟨_,?_,hrel i x _ hx hy⟩
    simp [World.cell?,h4',hcc _ _ hy]) hr
  have hg:∀ w',Below w.heap.size w w'→∀ j,j<cs.length→w'.cell? ⟨b,off+j,none⟩=some (pub.getD (off+j) undef):=fun w' hw' j hj=>by
   have h4':w'.heap[b]? = some (.cells c T' fz):=by rw [hw'.block _ hlt];exact hc
   have hlt2:off+j<pub.length:=by omega
   have hy:pub[off+j]? = some (pub.getD (off+j) undef):=by simp [List.getD,hlt2]
   simp [World.cell?,h4',hcc _ _ hy]
  have hsame:∀ w',Below w.heap.size w w'→∀ v,(loadVar t ⟨b,off,none⟩).run E.P w = .ok v w→(loadVar t ⟨b,off,none⟩).run E.P w' = .ok v w':=fun w' hw' v hr1=>by
   obtain⟨i1,i2⟩:=vj ht w
   obtain⟨j1,j2⟩:=vj ht w'
   obtain⟨v',h1',_⟩:=key w' hw'
   rw [h1']
   congr 1
   cases agg with
   |false=>
    simp only [jq,cond_false] at hr
    have h0:=lt_of_getElem? hr
    have e1:=hg w (Below.refl _ _) 0 h0
    have e2:=hg w' hw' 0 h0
    rw [Nat.add_zero] at e1 e2
    simp [loadVar,i2,run_load,e1] at hr1
    simp [loadVar,j2,run_load,e2] at h1'
    rw [← h1',hr1]
   |true=>
    simp only [jq,cond_true] at hr
    cases hb2:Nat.ble (0+sz) cs.length with
    |false=>rw [hb2] at hr;simp at hr
    |true=>
     have hle:0+sz≤cs.length:=Nat.le_of_ble_eq_true hb2
     have l1:=run_loadCells (P:=E.P) (w:=w) ⟨b,off,none⟩ sz (fun j=>pub.getD (off+j) undef) (fun j hj=>by rw [Addr.add_lit];exact hg w (Below.refl _ _) j (by omega))
     have l2:=run_loadCells (P:=E.P) (w:=w') ⟨b,off,none⟩ sz (fun j=>pub.getD (off+j) undef) (fun j hj=>by rw [Addr.add_lit];exact hg w' hw' j (by omega))
     simp [loadVar,i1,i2,l1] at hr1
     simp [loadVar,j1,j2,l2] at h1'
     rw [← h1',hr1]
  obtain⟨v,hrun,hR⟩:=key w (Below.refl _ _)
  exact⟨v,r,fun w' hw'=>by simp only [execOp,hv,Instr.loadAt,Instr.sureAddr];simp [hsame w' hw' v hrun],hR,h⟩
theorem q4r {x y:Operand} {t t':TypeId} {k:IntKind} {m n r:Int} (hx:qj N s x = .v (.int k m)) (hy:qj N s y = .v (.int k n)) (hr:k.wrap (m - n)=r)
  (h:AQ E N ops rest K (s.put d (.v (.int k r)))):AQ E N ops (⟨d,.binOp .sub t x y t',T,p,af,none⟩::rest) K s:=
 yu _ rfl nofun (fun a w he=>by rw [← hr];simp [execOp,he _ _ hx,he _ _ hy,eqGuard_at_int,binOp,Op.intArith]) h
theorem q0x {x y z:Operand} {t:TypeId} {k k':IntKind} {l:List UInt8} {i j:Nat} (hx:qj N s x=Sv l) (hy:qj N s y = .v (.int k' (i:Int))) (hz:qj N s z = .v (.int k (j:Int))) (hu:E.P.underlying t=some .string) (h1:i≤j) (h2:j≤l.length)
  (h:AQ E N ops rest K (s.put d (Sv ((l.take j).drop i)))):AQ E N ops (⟨d,.slice t x (some y) (some z) none,T,p,af,none⟩::rest) K s:=
 qo2 (i:=i) (j:=j) hx hu ⟨_,hy⟩ ⟨_,hz⟩ (by omega) (by omega) (by omega) (by simpa using h)
theorem q0v {x:Operand} {ts:Array TypeId} {t0 e:TypeId} {v:AV} {n:Nat} (hx:qj N s x=v) (hl:lenA v=some n) (ht:ts[0]? = some t0) (hu:E.P.underlying t0=some (.slice e))
  (h:AQ E N ops rest K (s.put d (Iv n))):AQ E N ops (⟨d,.call ⟨.builtin .len,#[x],ts⟩,T,p,af,none⟩::rest) K s:=by
 refine qca rfl nofun fun B0 w0 G a w _ hI=>?_
 have he:=hI.eval_of hx
 have key:∃ b c,a.eval x = .slice b n c:=by
  generalize a.eval x=u at he
  cases he <;> simp [lenA] at hl
  case v y=>
   cases u <;> simp at hl
   subst hl
   exact⟨_,_,rfl⟩
  case sl0=>subst hl;exact⟨_,_,rfl⟩
  case sl=>subst hl;exact⟨_,_,rfl⟩
  case os=>subst hl;exact⟨_,_,rfl⟩
 obtain⟨b,c,hv⟩:=key
 refine⟨.int .i64 n,Iv n,fun w' _=>?_,.v _,h⟩
 generalize a.eval = ρ at hv
 simp [execOp,resolve,invoke,builtin,Builtin.len_,hv,ht,run_underlying hu,goInt]
theorem qn7 {x:Operand} {t:TypeId} {sz:Nat} {agg:Bool} {st loc ext new:List AObj} {k ver off:Nat} {T':TypeId} {cs:List AV} {r:AV} (hs:s.st=((st++loc)++ext)++new) (hx:qj N s x = .bx (st.length+k) ver off) (ho:loc[k]? = some (.cells ver T' cs)) (ht:tyOf E.P t=some (sz,agg)) (hr:jq sz agg off cs=some r)
  (h:AQ E N ops rest K (s.put d r)):AQ E N ops (⟨d,.load t x,T,p,af,none⟩::rest) K s:=
 qqe hx (by rw [hs];exact qap ho) ht hr h
end
end Go.Av
