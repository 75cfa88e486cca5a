/- Contracts and plain facts that the closing text leans on (part 3). No condition of their own beyond those that each states. -/
import Derived.Test.YtmoklbacdkmkaaaGreatDoorK2
import Derived.Lib.SplitLaws
import Derived.Shelf.Strings.SplitShaped
import Derived.Deep.Slices
import Derived.Deep.Fields
import Derived.WideKeyArgs
import Derived.Lib.ItoaLen
set_option maxRecDepth 100000
set_option linter.unusedVariables false
set_option linter.unusedSimpArgs false
namespace Go.Proofs.YtmoklbacdkmkaaaGreatDoor
open Go Go.Av Go.RowKit Go.Proofs Go.Pl
theorem qf1 (l m:List UInt8) (st:List AObj) (hl:l.length<4294967281):qo E 113 [Sv l,Sv m] st fun r st'=>r=Bv (decide (m <+: l))∧st'=st:=by
 refine qv (qr _) (qp Tryz.func113 rfl (Nat.le_of_ble_eq_true rfl) ?_)
 repeat' (first|apply qm|apply qe|apply qg|apply qj|apply qf|(apply qq;(iterate 3 exact rfl))|(apply jh;(iterate 3 exact rfl))|(apply qw;(iterate 4 exact rfl))|(apply wu;exact cAo)|(apply xf;exact cAo)|(apply jk <;> intro h)|(apply qk;exact rfl;apply wh;exact cAo)|(apply qk;exact rfl;apply wa;exact cAo)|(apply zl;(iterate 3 exact rfl))|(apply qbd;(iterate 3 exact rfl);exact cAs)|apply qt)
 all_goals refine qn rfl (q6 rfl) ⟨congrArg Bv (?_:_=_),_,rfl⟩
 ·have e:l.take m.length=m↔m <+: l:=by rw [List.prefix_iff_eq_take];exact eq_comm
  simp [e]
 ·have:¬ m <+: l:=fun h=>by have:=h.length_le;omega
  simp [this]
theorem qlb (l m:List UInt8) (st:List AObj) (hl:m.length<4294967281):qo E 112 [Sv l,Sv m] st fun r st'=>r=Bv (decide (l <+: m))∧st'=st:=by
 refine qv (qr _) (qp Tryz.func112 rfl (Nat.le_of_ble_eq_true rfl) ?_)
 repeat' (first|apply qm|apply qe|apply qg|apply qj|apply qf|apply qt|(apply qi;exact Tryz.call113;exact qf1 _ _ _ hl))
 exact qn rfl (q6 rfl) ⟨rfl,_,rfl⟩
theorem qhl {p:UInt8→Bool}:∀ {l:List UInt8} {k:Nat},k≤l.length→(∀ c∈l.take k,p c=true)→(k<l.length→p (l.getD k 0)=false)→(l.takeWhile p).length=k
 | [],k,hk,_,_=>by simp at hk;simp [hk]
 |b::l,0,_,_,h=>by
  have:=h (by simp)
  simp at this
  simp [this]
 |b::l,k+1,hk,h1,h2=>by
  have hb:p b=true:=h1 b (by simp)
  rw [List.takeWhile_cons_of_pos hb,List.length_cons,qhl (k:=k) (by simpa using hk) (fun c hc=>h1 c (by simp [hc])) (fun h=>by have:=h2 (by simpa using h);simpa using this)]
def ye (c:UInt8):Bool:=decide (48≤c.toNat∧c.toNat≤57)
theorem q03 (l:List UInt8) (st:List AObj) (hl:l.length<4294967281):qo E 114 [Sv l] st fun r st'=>r=Iv (l.takeWhile ye).length∧st'=st:=by
 refine qv (qr _) (qp Tryz.func114 rfl (Nat.le_of_ble_eq_true rfl) ?_)
 repeat' (first|apply qm|apply qx|apply qe|apply qg|apply qf)
 refine j5 (fun (k:Nat) s=>k≤l.length∧(∀ c∈l.take k,ye c=true)∧StA [(0,Sv l),(3,Iv k)] (st++[]) [] s) (fun k=>l.length - k) 0 ⟨by omega,by simp,ja ⟨rfl,rfl,trivial⟩⟩ ?_
 rintro k _ ⟨hk,h1,t,rfl⟩
 repeat' (first|apply qm|apply qx|apply qe|apply qg|apply qj|apply qf|(apply qq;(iterate 3 exact rfl))|(apply qw;(iterate 4 exact rfl))|(apply wu;exact cAo)|(apply xf;exact cAo)|(apply yq;exact cRa)|(apply jk <;> intro h)|(apply qk;exact rfl;apply wh;exact cAo)|(apply qk;exact rfl;apply wa;exact cAo)|(apply qk;exact rfl;apply pk_f;exact cRa)|(apply qc;exact rfl;apply cd_f;exact cRa)|(apply qc;exact rfl;apply cd_d <;> intro h)|(apply zl;(iterate 3 exact rfl))|(apply zh;exact rfl;exact rfl;exact qz (by omega) (by omega))|(apply vr;(iterate 3 exact rfl);exact cAs)|apply qu|apply zz|apply qt)
 all_goals first
  |exact⟨k+1,⟨by omega,(qlm (by omega)).2 ⟨h1,by simp only [ye,decide_eq_true_eq];omega⟩,ja ⟨rfl,rfl,trivial⟩⟩,by omega⟩
  |exact qn rfl (q6 rfl) ⟨congrArg Iv (congrArg Nat.cast (qhl hk h1 (fun hlt=>by simp only [ye,decide_eq_false_iff_not];omega)).symm),_,rfl⟩
def qao (c:UInt8):Bool:=decide (48≤c.toNat∧c.toNat≤57∨97≤c.toNat∧c.toNat≤102)
theorem qvb {p:UInt8→Bool} {l:List UInt8} {k n:Nat} (hk:k≤l.length) (hn:k≤n) (h1:∀ c∈l.take k,p c=true) (h2:k<l.length→k<n→p (l.getD k 0)=false):((l.take n).takeWhile p).length=k:=by
 have hlen:(l.take n).length=min n l.length:=by simp
 refine qhl (by omega) (fun c hc=>h1 c ?_) (fun h=>?_)
 ·rwa [List.take_take,Nat.min_eq_left hn] at hc
 ·have h3:k<l.length:=by omega
  have h4:k<n:=by omega
  have e:(l.take n).getD k 0=l.getD k 0:=by simp [List.getD,List.getElem?_take,h4]
  rw [e]
  exact h2 h3 h4
theorem zct (l:List UInt8) (st:List AObj) (hl:l.length<4294967281):qo E 115 [Sv l] st fun r st'=>r=Iv ((l.take 8).takeWhile qao).length∧st'=st:=by
 refine qv (qr _) (qp Tryz.func115 rfl (Nat.le_of_ble_eq_true rfl) ?_)
 repeat' (first|apply qm|apply qx|apply qe|apply qg|apply qf)
 refine j5 (fun (k:Nat) s=>k≤l.length∧k≤8∧(∀ c∈l.take k,qao c=true)∧StA [(0,Sv l),(3,Iv k)] (st++[]) [] s) (fun k=>l.length - k) 0 ⟨by omega,by omega,by simp,ja ⟨rfl,rfl,trivial⟩⟩ ?_
 rintro k _ ⟨hk,hk8,h1,t,rfl⟩
 repeat' (first|apply qm|apply qx|apply qe|apply qg|apply qj|apply qf|(apply qq;(iterate 3 exact rfl))|(apply qw;(iterate 4 exact rfl))|(apply wu;exact cAo)|(apply vj;exact cAo)|(apply vo;exact cAo)|(apply xf;exact cAo)|(apply qay;(iterate 4 exact rfl))|(apply qgf;exact cRa)|(apply yq;exact cRa)|(apply jk <;> intro h)|(apply qk;exact rfl;apply wh;exact cAo)|(apply qk;exact rfl;apply wa;exact cAo)|(apply qk;exact rfl;apply pk_f;exact cRa)|(apply qc;exact rfl;apply cd_t;exact cRa)|(apply qc;exact rfl;apply cd_f;exact cRa)|(apply qc;exact rfl;apply cd_d <;> intro h)|(apply zl;(iterate 3 exact rfl))|(apply zh;exact rfl;exact rfl;exact qz (by omega) (by omega))|(apply vr;(iterate 3 exact rfl);exact cAs)|apply qu|apply zz|apply qt)
 all_goals first
  |exact⟨k+1,⟨by omega,by omega,(qlm (by omega)).2 ⟨h1,by simp only [qao,decide_eq_true_eq];omega⟩,ja ⟨rfl,rfl,trivial⟩⟩,by omega⟩
  |exact qn rfl (q6 rfl) ⟨congrArg Iv (congrArg Nat.cast (qvb hk hk8 h1 (fun hlt hl8=>by simp only [qao,decide_eq_false_iff_not];omega)).symm),_,rfl⟩
end Go.Proofs.YtmoklbacdkmkaaaGreatDoor
namespace Go.Pl
open Go
def decV (l:qa):Nat:=l.foldl (fun a c=>10 * a+(c.toNat - 48)) 0
theorem qnv (l:qa) (c:UInt8):decV (l++[c])=10 * decV l+(c.toNat - 48):=by simp [decV]
theorem wy:∀ (n u:Nat),u≤n→∀ c∈Lib.decDigits u,48≤c.toNat∧c.toNat≤57
 |n,u,hn,c,hc=>by
  by_cases h:u<10
  ·rw [Lib.decDigits_one h] at hc
   simp only [List.mem_singleton] at hc
   subst hc
   rw [UInt8.toNat_ofNat']
   omega
  ·rw [xy h,List.mem_append] at hc
   cases n with
   |zero=>omega
   |succ n=>
    rcases hc with hc|hc
    ·exact wy n (u / 10) (by omega) c hc
    ·exact wy n (u % 10) (by omega) c hc
theorem qqo:∀ (n u:Nat),u≤n→decV (Lib.decDigits u)=u
 |n,u,hn=>by
  have key:∀ d,d<10→Lib.decDigits d=[UInt8.ofNat (48+d)]∧(UInt8.ofNat (48+d)).toNat - 48=d:=fun d hd=>by
   refine⟨Lib.decDigits_one hd,?_⟩
   rw [UInt8.toNat_ofNat']
   omega
  by_cases h:u<10
  ·obtain⟨e1,e2⟩:=key u h
   rw [e1]
   exact (Nat.zero_add _).trans e2
  ·cases n with
   |zero=>omega
   |succ n=>
    obtain⟨e1,e2⟩:=key (u % 10) (by omega)
    rw [xy h,e1,qnv,qqo n (u / 10) (by omega),e2]
    omega
theorem qeo (u:Nat):1≤(Lib.decDigits u).length:=by
 rw [Lib.decDigits_length]
 exact Lib.nDigits_pos u
theorem qex {v:Int} (h:v<0):Lib.itoa v=45::Lib.decDigits v.natAbs:=by
 unfold Lib.itoa
 rw [if_pos h]
theorem qey {v:Int} (h:0≤v):Lib.itoa v=Lib.decDigits v.toNat:=by
 unfold Lib.itoa
 rw [if_neg (by omega)]
theorem q3u (v:Int):1≤(Lib.itoa v).length:=by
 by_cases h:v<0
 ·rw [qex h];simp
 ·rw [qey (by omega)];exact qeo _
theorem qj1 {v:Int} (h1 : -9223372036854775808≤v) (h2:v≤9223372036854775807):(Lib.itoa v).length≤20:=by
 by_cases h:v<0
 ·rw [qex h,List.length_cons,Lib.decDigits_length]
  have:=qdw 18 v.natAbs (by omega)
  omega
 ·rw [qey (by omega),Lib.decDigits_length]
  have:=qdw 18 v.toNat (by omega)
  omega
theorem qwn:∀ (a:Nat) (l m:qa) (b:Nat),Lib.parseUint10 a l = .ok b→Lib.parseUint10 a (l++m)=Lib.parseUint10 b m
 |a,[],m,b,h=>by
  simp only [Lib.parseUint10,Lib.NumEnd.ok.injEq] at h
  subst h;rfl
 |a,c::l,m,b,h=>by
  simp only [List.cons_append,Lib.parseUint10] at h ⊢
  split at h
  ·rename_i hd
   rw [if_pos hd]
   split at h
   ·cases h
   ·rename_i h1
    rw [if_neg h1]
    split at h
    ·cases h
    ·rename_i h2
     rw [if_neg h2]
     exact qwn _ l m b h
  ·cases h
theorem qmi:∀ (n u:Nat),u≤n→u≤9223372036854775808→Lib.parseUint10 0 (Lib.decDigits u) = .ok u
 |n,u,hn,hu=>by
  have key:∀ (a d:Nat),a≤922337203685477580→d<10→Lib.parseUint10 a (Lib.decDigits d) = .ok (a * 10+d):=by
   intro a d ha hd
   have e:(UInt8.ofNat (48+d)).toNat=48+d:=by rw [UInt8.toNat_ofNat'];omega
   rw [Lib.decDigits_one hd]
   simp only [Lib.parseUint10,e]
   rw [if_pos (by omega),if_neg (by omega),if_neg (by omega)]
   congr 1
   omega
  by_cases h:u<10
  ·have:=key 0 u (by omega) h
   simpa using this
  ·cases n with
   |zero=>omega
   |succ n=>
    rw [xy h,qwn 0 _ _ (u / 10) (qmi n (u / 10) (by omega) (by omega)),key _ _ (by omega) (by omega)]
    congr 1
    omega
theorem qlq {v:Int} (h1 : -9223372036854775808≤v) (h2:v≤9223372036854775807):Lib.atoiAll (Lib.itoa v) = .ok v:=by
 by_cases h:v<0
 ·have hp:=qmi v.natAbs v.natAbs (Nat.le_refl _) (by omega)
  rw [qex h]
  have hm:Lib.parseMag (Lib.decDigits v.natAbs) = .ok v.natAbs:=by
   unfold Lib.parseMag
   rw [if_neg (fun e=>by have:=qeo v.natAbs;rw [e] at this;simp at this)]
   exact hp
  have e45:(45:UInt8).toNat=45:=rfl
  simp only [Lib.atoiAll,e45]
  rw [if_pos (Or.inr trivial),hm]
  simp only [not_true,false_and,if_false,true_and]
  rw [if_neg (by omega)]
  simp only [if_true]
  congr 1
  omega
 ·have hp:=qmi v.toNat v.toNat (Nat.le_refl _) (by omega)
  have hd:=wy v.toNat v.toNat (Nat.le_refl _)
  rw [qey (by omega)]
  cases hl:Lib.decDigits v.toNat with
  |nil=>have:=qeo v.toNat;rw [hl] at this;simp at this
  |cons c r=>
   rw [hl] at hp hd
   have hc:=hd c (by simp)
   simp only [Lib.atoiAll]
   have g1:¬ (c.toNat=43∨c.toNat=45):=by omega
   rw [if_neg g1]
   have hm:Lib.parseMag (c::r) = .ok v.toNat:=by unfold Lib.parseMag;rw [if_neg (by simp)];exact hp
   rw [hm]
   have g2:¬ c.toNat=45:=by omega
   simp only [g2,not_false_iff,true_and,false_and,if_false]
   rw [if_neg (by omega)]
   congr 1
   omega
def numZ (l:qa):Option Int:=
 match Lib.atoiAll l with
 | .ok v=>if Lib.itoa v=l then some v else none
 | _=>none
theorem qfc {v:Int} (h1 : -9223372036854775808≤v) (h2:v≤9223372036854775807):numZ (Lib.itoa v)=some v:=by
 unfold numZ
 rw [qlq h1 h2]
 simp
theorem qj7 {l:qa} {v:Int} (h:numZ l=some v):l=Lib.itoa v∧-9223372036854775808≤v∧v≤9223372036854775807:=by
 unfold numZ at h
 split at h
 ·rename_i u hu
  split at h
  ·rename_i he
   simp only [Option.some.injEq] at h
   subst h
   exact⟨he.symm,atoiAll_bounds hu⟩
  ·simp at h
 ·simp at h
theorem qoe {l:qa} (h:∀ v,-9223372036854775808≤v→v≤9223372036854775807→l≠Lib.itoa v):numZ l=none:=by
 cases hn:numZ l with
 |none=>rfl
 |some v=>
  obtain⟨h1,h2,h3⟩:=qj7 hn
  exact absurd h1 (h v h2 h3)
end Go.Pl
namespace Go.Proofs.YtmoklbacdkmkaaaGreatDoor
open Go Go.Av Go.RowKit Go.Proofs Go.Pl
theorem qer (v:Int) (st:List AObj) (h1 : -9223372036854775808≤v) (h2:v≤9223372036854775807):qo E 157 [Iv v] st fun r st'=>r=Sv (Lib.itoa v)∧st'=st:=by
 by_cases hneg:v<0
 ·refine qv (qr _) (qp Tryz.func157 rfl (Nat.le_of_ble_eq_true rfl) ?_)
  have hl:=qeu (u:=v.natAbs) (by omega)
  have hk:IntKind.u64.wrap (-(v+1))=((v.natAbs - 1:Nat):Int):=by
   rw [show -(v+1)=((v.natAbs - 1:Nat):Int) by omega]
   exact qlh (by omega)
  have hk2:IntKind.u64.wrap (((v.natAbs - 1:Nat):Int)+1)=((v.natAbs:Nat):Int):=by
   rw [show ((v.natAbs - 1:Nat):Int)+1=((v.natAbs:Nat):Int) by omega]
   exact qlh (by omega)
  repeat' (first|apply qm|apply qe|apply qg|apply qj|apply qf|(apply qq;(iterate 3 exact rfl))|(apply qc;exact rfl;apply kz;exact cAo)|(apply z7;exact rfl;exact rfl;exact cOs)|(apply zh;exact rfl;exact rfl;exact qz (by omega) (by omega))|apply qt|(apply qyi;exact rfl;exact (show IntKind.i64.wrap (0 - (v+1)) = -(v+1) from by rw [qz (by omega) (by omega)];omega))|(apply qdq;(iterate 3 exact rfl);exact hk)|(apply zh;exact rfl;exact rfl;exact hk2)|(apply qi;exact Tryz.call204;exact qid (v.natAbs+1) v.natAbs (by omega) (by omega) _))
  exact qn rfl (q6 rfl) ⟨congrArg Sv (qex hneg).symm,_,rfl⟩
 ·obtain⟨k,rfl⟩:=Int.eq_ofNat_of_zero_le (by omega:0≤v)
  exact q04 k st (by omega)
theorem qox (x:Int):IntKind.i64.wrap x=(x+9223372036854775808) % 18446744073709551616 - 9223372036854775808:=by
 simp [IntKind.wrap,IntKind.bits,IntKind.signed]
 split <;> omega
theorem q0f (V d:Nat) (n:Int) (hn:n=IntKind.i64.wrap (-(V:Int))):IntKind.i64.wrap (IntKind.i64.wrap (10 * n) - (d:Int))=IntKind.i64.wrap (-((10 * V+d:Nat):Int)):=by
 rw [hn]
 simp only [qox]
 omega
theorem q33 (V:Nat):IntKind.i64.wrap (0 - IntKind.i64.wrap (-(V:Int)))=IntKind.i64.wrap (V:Int):=by
 simp only [qox]
 omega
theorem qdo (x:Int) : -9223372036854775808≤IntKind.i64.wrap x∧IntKind.i64.wrap x≤9223372036854775807:=by
 rw [qox]
 omega
theorem sub8 {c:Nat} (h:48≤c) (h2:c<256):IntKind.u8.wrap ((c:Int) - 48)=((c - 48:Nat):Int):=by
 simp [IntKind.wrap,IntKind.bits,IntKind.signed]
 omega
def numA (l:qa):AV:=match numZ l with|some v=>.tu [Iv v,Bv true]|none=>.tu [Iv 0,Bv false]
theorem q8r (l:qa):Pure (numA l):=by
 unfold numA
 split <;> exact qka _ _
theorem qci {l:qa} (h:numZ l=none):numA l = .tu [Iv 0,Bv false]:=by unfold numA;rw [h]
theorem qod {l:qa} {v:Int} (h:numZ l=some v):numA l = .tu [Iv v,Bv true]:=by unfold numA;rw [h]
theorem qwf {l:qa} {v:Int} (h:l=Lib.itoa v):(v<0→(l.getD 0 0).toNat=45∧l.drop 1=Lib.decDigits v.natAbs)∧(0≤v→(l.getD 0 0).toNat≠45∧l=Lib.decDigits v.toNat):=by
 subst h
 refine⟨fun h=>?_,fun h=>?_⟩
 ·rw [qex h];exact⟨rfl,rfl⟩
 ·rw [qey h]
  refine⟨?_,rfl⟩
  have hp:=qeo v.toNat
  have hd:=wy v.toNat v.toNat (Nat.le_refl _)
  cases hl:Lib.decDigits v.toNat with
  |nil=>rw [hl] at hp;simp at hp
  |cons c r=>
   rw [hl] at hd
   have:=hd c (by simp)
   simp
   omega
def sgn (l:qa):Nat:=if (l.getD 0 0).toNat=45 then 1 else 0
theorem qko {l:qa} {v:Int} (h:l=Lib.itoa v):l.drop (sgn l)=Lib.decDigits v.natAbs:=by
 obtain⟨h1,h2⟩:=qwf h
 unfold sgn
 by_cases hv:v<0
 ·obtain⟨a,b⟩:=h1 hv
  rw [if_pos a,b]
 ·obtain⟨a,b⟩:=h2 (by omega)
  rw [if_neg a,List.drop_zero,show v.natAbs=v.toNat by omega]
  exact b
theorem qo6 {l:qa} {k:Nat} (hk:k<l.length) (hs:sgn l≤k) (hd:¬ (48≤(l.getD k 0).toNat∧(l.getD k 0).toNat≤57)):numZ l=none:=by
 refine qoe fun v h1 h2 h=>?_
 have e:=qko h
 have hm:l.getD k 0∈l.drop (sgn l):=by
  rw [show l.getD k 0=l[k] by simp [List.getD,hk]]
  rw [List.mem_drop_iff_getElem]
  exact⟨k - sgn l,by omega,by congr 1;omega⟩
 rw [e] at hm
 exact hd (wy _ _ (Nat.le_refl _) _ hm)
def numW (l:qa):Int:=if (l.getD 0 0).toNat=45 then IntKind.i64.wrap (-(decV (l.drop 1):Int)) else IntKind.i64.wrap (decV l:Int)
theorem ze8 {l:qa} {v:Int} (h:l=Lib.itoa v) (h1 : -9223372036854775808≤v) (h2:v≤9223372036854775807):numW l=v:=by
 obtain⟨g1,g2⟩:=qwf h
 unfold numW
 by_cases hv:v<0
 ·obtain⟨a,b⟩:=g1 hv
  rw [if_pos a,b,qqo _ _ (Nat.le_refl _),qz (by omega) (by omega)]
  omega
 ·obtain⟨a,b⟩:=g2 (by omega)
  rw [if_neg a,b,qqo _ _ (Nat.le_refl _),qz (by omega) (by omega)]
  omega
theorem q32 {l:qa} {n:Int} (h:n=numW l) (he:Lib.itoa n=l):numZ l=some n:=by
 have hr : -9223372036854775808≤n∧n≤9223372036854775807:=by
  rw [h];unfold numW;split <;> exact qdo _
 rw [← he,qfc hr.1 hr.2]
theorem q31 {l:qa} {n:Int} (h:n=numW l) (he:¬ Lib.itoa n=l):numZ l=none:=
 qoe fun v h1 h2 hv=>he (by rw [h,ze8 hv h1 h2];exact hv.symm)
theorem qlf {l:qa} {k a:Nat} (h:k<l.length) (ha:a≤k):(l.take (k+1)).drop a=(l.take k).drop a++[l.getD k 0]:=by
 rw [qbt h,List.drop_append_of_le_length (by simp;omega)]
theorem qqb (l:List UInt8) (st:List AObj) (hl:l.length<4294967281):qo E 106 [Sv l] st fun r st'=>r=numA l∧st'=st:=by
 refine qv (q8r l) (qp Tryz.func106 rfl (Nat.le_of_ble_eq_true rfl) ?_)
 by_cases hbad:l.length<1∨20<l.length
 ·have hz:numZ l=none:=qoe fun v h1 h2 h=>by
   have g1:=q3u v
   have g2:=qj1 h1 h2
   rw [← h] at g1 g2
   omega
  repeat' (first|apply qm|apply qe|apply qg|apply qj|apply qf|(apply qq;(iterate 3 exact rfl))|(apply qw;(iterate 4 exact rfl))|(apply vj;exact cAo)|(apply vo;exact cAo)|(apply jk <;> intro h)|(apply qk;exact rfl;apply wh;exact cAo)|(apply qk;exact rfl;apply wa;exact cAo)|(apply qc;exact rfl;apply kz;exact cAo)|(apply qc;exact rfl;apply cd_t;exact cRa)|(apply zl;(iterate 3 exact rfl))|apply qt)
  all_goals first
   |(exfalso;omega)
   |exact qn rfl (kc rfl) ⟨(qci hz).symm,_,rfl⟩
 have hb1:1≤l.length:=by omega
 have hb2:l.length≤20:=by omega
 repeat' (first|apply qm|apply qx|apply qe|apply qg|apply qj|apply qf|(apply qq;(iterate 3 exact rfl))|(apply qw;(iterate 4 exact rfl))|(apply vj;exact cAo)|(apply qk;exact rfl;apply wa;exact cAo)|(apply qc;exact rfl;apply ku;exact cAo)|(apply qc;exact rfl;apply cd_d <;> intro h)|(apply zl;(iterate 3 exact rfl))|(apply vr;(iterate 3 exact rfl);exact cAs)|apply qu)
 ·have h45:((l.getD 0 0).toNat:Int)=45:=by assumption
  have hs:sgn l=1:=if_pos (by omega)
  refine j5 (fun (k:Nat) s=>1≤k∧k≤l.length∧StA [(0,Sv l),(4,Iv 1),(5,Iv (IntKind.i64.wrap (-(decV ((l.take k).drop 1):Int)))),(6,Iv k)] (st++[]) [] s) (fun k=>l.length - k) 1 ⟨by omega,by omega,ja ⟨rfl,rfl,by simp [List.drop_eq_nil_of_le,decV,IntKind.wrap];rfl,rfl,trivial⟩⟩ ?_
  rintro k _ ⟨hk1,hk,t,rfl⟩
  generalize hn:IntKind.i64.wrap (-(decV ((l.take k).drop 1):Int))=n
  have hc:=UInt8.toNat_lt (l.getD k 0)
  have hr : -9223372036854775808≤n∧n≤9223372036854775807:=hn▸qdo _
  have hr2:=qdo (0 - n)
  repeat' (first|apply qm|apply qx|apply qe|apply qg|apply qj|apply qf|(apply qq;(iterate 3 exact rfl))|(apply jh;(iterate 3 exact rfl))|(apply qw;(iterate 4 exact rfl))|(apply vj;exact cAo)|(apply vo;exact cAo)|(apply jk <;> intro h)|(apply qk;exact rfl;apply wh;exact cAo)|(apply qk;exact rfl;apply wa;exact cAo)|(apply qc;exact rfl;apply ku;exact cAo)|(apply qc;exact rfl;apply cd_t;exact cRa)|(apply qc;exact rfl;apply cd_d <;> intro h)|(apply zl;(iterate 3 exact rfl))|(apply zh;exact rfl;exact rfl;exact qz (by omega) (by omega))|(apply vr;(iterate 3 exact rfl);exact cAs)|apply qu|apply zz|apply qt|(apply qf7;(iterate 3 exact rfl))|(apply xc;exact rfl;exact rfl;exact sub8 (by omega) (by omega))|(apply xc;exact rfl;exact rfl;exact q0f _ _ _ hn.symm)|(apply qdq;(iterate 3 exact rfl);exact qz (by omega) (by omega))|(apply qi;exact Tryz.call157;exact qer _ _ (by omega) (by omega)))
  ·exact qn rfl (kc rfl) ⟨(qci (qo6 (k:=k) (by omega) (by omega) (by omega))).symm,_,rfl⟩
  ·exact qn rfl (kc rfl) ⟨(qci (qo6 (k:=k) (by omega) (by omega) (by omega))).symm,_,rfl⟩
  ·refine⟨k+1,⟨by omega,by omega,ja ⟨rfl,rfl,congrArg Iv ?_,rfl,trivial⟩⟩,by omega⟩
   rw [qlf (by omega) hk1,qnv]
  ·have e:k=l.length:=by omega
   subst e
   rw [List.take_length] at hn
   have hw:n=numW l:=by unfold numW;rw [if_pos (by omega)];rw [← hn]
   exact qn rfl (kc rfl) ⟨(qci (q31 hw (by assumption))).symm,_,rfl⟩
  ·have e:k=l.length:=by omega
   subst e
   rw [List.take_length] at hn
   have hw:n=numW l:=by unfold numW;rw [if_pos (by omega)];rw [← hn]
   exact qn rfl (kc rfl) ⟨(qod (q32 hw (Classical.not_not.1 (by assumption)))).symm,_,rfl⟩
 ·have h45:¬ ((l.getD 0 0).toNat:Int)=45:=by assumption
  have hs:sgn l=0:=if_neg (by omega)
  refine j5 (fun (k:Nat) s=>0≤k∧k≤l.length∧StA [(0,Sv l),(4,Iv 0),(5,Iv (IntKind.i64.wrap (-(decV ((l.take k).drop 0):Int)))),(6,Iv k)] (st++[]) [] s) (fun k=>l.length - k) 0 ⟨by omega,by omega,ja ⟨rfl,rfl,by simp [List.drop_eq_nil_of_le,decV,IntKind.wrap];rfl,rfl,trivial⟩⟩ ?_
  rintro k _ ⟨hk1,hk,t,rfl⟩
  generalize hn:IntKind.i64.wrap (-(decV ((l.take k).drop 0):Int))=n
  have hc:=UInt8.toNat_lt (l.getD k 0)
  have hr : -9223372036854775808≤n∧n≤9223372036854775807:=hn▸qdo _
  have hr2:=qdo (0 - n)
  repeat' (first|apply qm|apply qx|apply qe|apply qg|apply qj|apply qf|(apply qq;(iterate 3 exact rfl))|(apply jh;(iterate 3 exact rfl))|(apply qw;(iterate 4 exact rfl))|(apply vj;exact cAo)|(apply vo;exact cAo)|(apply jk <;> intro h)|(apply qk;exact rfl;apply wh;exact cAo)|(apply qk;exact rfl;apply wa;exact cAo)|(apply qc;exact rfl;apply kz;exact cAo)|(apply qc;exact rfl;apply cd_t;exact cRa)|(apply qc;exact rfl;apply cd_d <;> intro h)|(apply zl;(iterate 3 exact rfl))|(apply zh;exact rfl;exact rfl;exact qz (by omega) (by omega))|(apply vr;(iterate 3 exact rfl);exact cAs)|apply qu|apply zz|apply qt|(apply qf7;(iterate 3 exact rfl))|(apply xc;exact rfl;exact rfl;exact sub8 (by omega) (by omega))|(apply xc;exact rfl;exact rfl;exact q0f _ _ _ hn.symm)|(apply qdq;(iterate 3 exact rfl);exact qz (by omega) (by omega))|(apply qyi;exact rfl;exact rfl)|(apply qi;exact Tryz.call157;exact qer _ _ (by omega) (by omega)))
  ·exact qn rfl (kc rfl) ⟨(qci (qo6 (k:=k) (by omega) (by omega) (by omega))).symm,_,rfl⟩
  ·exact qn rfl (kc rfl) ⟨(qci (qo6 (k:=k) (by omega) (by omega) (by omega))).symm,_,rfl⟩
  ·refine⟨k+1,⟨by omega,by omega,ja ⟨rfl,rfl,congrArg Iv ?_,rfl,trivial⟩⟩,by omega⟩
   rw [qlf (by omega) hk1,qnv]
  ·have e:k=l.length:=by omega
   subst e
   rw [List.take_length] at hn
   have hw:IntKind.i64.wrap (0 - n)=numW l:=by unfold numW;rw [if_neg (by omega)];rw [← hn,List.drop_zero,q33]
   exact qn rfl (kc rfl) ⟨(qci (q31 hw (by assumption))).symm,_,rfl⟩
  ·have e:k=l.length:=by omega
   subst e
   rw [List.take_length] at hn
   have hw:IntKind.i64.wrap (0 - n)=numW l:=by unfold numW;rw [if_neg (by omega)];rw [← hn,List.drop_zero,q33]
   exact qn rfl (kc rfl) ⟨(qod (q32 hw (Classical.not_not.1 (by assumption)))).symm,_,rfl⟩
theorem qdm (l:List UInt8) (v:Int) (st:List AObj) (hl:l.length<4294967281) (h:numZ l=some v):qo E 106 [Sv l] st fun r st'=>r = .tu [Iv v,Bv true]∧st'=st:=by
 have:=qqb l st hl
 rw [qod h] at this
 exact this
theorem qf2 (l:List UInt8) (st:List AObj) (hl:l.length<4294967281) (h:numZ l=none):qo E 106 [Sv l] st fun r st'=>r = .tu [Iv 0,Bv false]∧st'=st:=by
 have:=qqb l st hl
 rw [qci h] at this
 exact this
theorem qxw (x:BitVec 32):x &&& 2147483648#32≠0#32↔x.toNat / 2147483648=1:=by
 have e:2147483648#32=BitVec.twoPow 32 31:=by decide
 have h:=x.isLt
 rw [e,BitVec.and_twoPow,BitVec.getLsbD,Nat.testBit_eq_decide_div_mod_eq]
 by_cases hb:x.toNat / 2 ^ 31 % 2=1
 ·simp only [hb,decide_true,if_true]
  constructor
  ·intro _;omega
  ·intro _;decide
 ·simp only [hb,decide_false]
  constructor
  ·intro h';exact absurd rfl h'
  ·intro h';omega
theorem q53 (x:BitVec 32):x.msb=true↔x.toNat / 2147483648=1:=by
 rw [BitVec.msb_eq_decide]
 have h:=x.isLt
 simp
 omega
theorem qjt (x:BitVec 32):qbg x=(x <<< 1) ^^^ (if x.msb then 79764919#32 else 0#32):=by
 unfold qbg
 by_cases h:x.msb=true
 ·rw [if_pos ((qxw x).2 ((q53 x).1 h)),if_pos h]
 ·rw [if_neg (fun h'=>h ((q53 x).2 ((qxw x).1 h'))),if_neg h,BitVec.xor_zero]
theorem q5e (a b:BitVec 32):qbg (a ^^^ b)=qbg a ^^^ qbg b:=by
 rw [qjt,qjt,qjt,BitVec.msb_xor,BitVec.shiftLeft_xor_distrib]
 cases a.msb <;> cases b.msb <;> simp only [Bool.xor_false,Bool.xor_true,Bool.not_true,Bool.not_false,Bool.false_eq_true,if_true,if_false,BitVec.xor_zero]
 ·rw [BitVec.xor_assoc]
 ·rw [BitVec.xor_assoc,BitVec.xor_comm (b <<< 1),BitVec.xor_assoc]
 ·rw [BitVec.xor_assoc (a <<< 1),BitVec.xor_comm 79764919#32,BitVec.xor_assoc (b <<< 1),BitVec.xor_self,BitVec.xor_zero]
theorem qps (n:Nat) (a b:BitVec 32):w7 n (a ^^^ b)=w7 n a ^^^ w7 n b:=by
 induction n with
 |zero=>rfl
 |succ n ih=>simp only [w7,ih,q5e]
theorem qkk:∀ (n:Nat) (x:BitVec 32),n≤31→x.toNat<2 ^ (32 - n)→w7 n x=x <<< n
 | 0,x,_,_=>by simp [w7]
 |n+1,x,hn,h=>by
  have hp:2 ^ (32 - n)=2 * 2 ^ (32 - (n+1)):=by rw [show 32 - n=(32 - (n+1))+1 by omega,Nat.pow_succ,Nat.mul_comm]
  simp only [w7]
  rw [qkk n x (by omega) (by omega),qjt]
  have hm:(x <<< n).msb=false:=by
   cases hb:(x <<< n).msb with
   |false=>rfl
   |true=>
    have h1:=(q53 _).1 hb
    have h2:(x <<< n).toNat<2147483648:=by
     rw [BitVec.toNat_shiftLeft,Nat.shiftLeft_eq]
     refine Nat.lt_of_le_of_lt (Nat.mod_le _ _) ?_
     have h3:x.toNat * 2 ^ n<2 ^ (32 - (n+1)) * 2 ^ n:=Nat.mul_lt_mul_of_pos_right h (Nat.two_pow_pos n)
     rw [← Nat.pow_add,show 32 - (n+1)+n=31 by omega] at h3
     exact h3
    omega
  rw [hm]
  simp only [Bool.false_eq_true,if_false,BitVec.xor_zero]
  rw [← BitVec.shiftLeft_add]
theorem zfv (x:BitVec 32):x=((x >>> 28) <<< 28) ^^^ ((x.setWidth 28).setWidth 32):=by
 apply BitVec.eq_of_getLsbD_eq
 intro i hi
 simp only [BitVec.getLsbD_xor,BitVec.getLsbD_shiftLeft,BitVec.getLsbD_ushiftRight,BitVec.getLsbD_setWidth]
 by_cases h:i<28
 ·simp [h,hi]
 ·simp [h,hi,show 28+(i - 28)=i by omega]
theorem qvw (x:BitVec 32) (n:Nat):crcN x n=w7 4 (x ^^^ (BitVec.ofNat 32 n <<< 28)):=by
 have hl:((x.setWidth 28).setWidth 32).toNat<2 ^ (32 - 4):=by
  simp only [BitVec.toNat_setWidth]
  exact Nat.lt_of_le_of_lt (Nat.mod_le _ _) (Nat.mod_lt _ (by decide))
 have hs:((x.setWidth 28).setWidth 32) <<< 4=x <<< 4:=by
  apply BitVec.eq_of_getLsbD_eq
  intro i hi
  simp only [BitVec.getLsbD_shiftLeft,BitVec.getLsbD_setWidth]
  by_cases h:i<4
  ·simp [h]
  ·simp [h,hi,show i - 4<28 by omega,show i - 4<32 by omega]
 have e:x ^^^ (BitVec.ofNat 32 n <<< 28)=(((x >>> 28) ^^^ BitVec.ofNat 32 n) <<< 28) ^^^ ((x.setWidth 28).setWidth 32):=by
  rw [BitVec.shiftLeft_xor_distrib,BitVec.xor_assoc,BitVec.xor_comm (BitVec.ofNat 32 n <<< 28),← BitVec.xor_assoc,← zfv x]
 rw [e,qps,qkk 4 _ (by omega) hl,hs,crcN,rowT,BitVec.ofNat_toNat,BitVec.setWidth_eq,BitVec.xor_comm]
theorem q2c (m n:Nat) (x:BitVec 32):w7 (m+n) x=w7 m (w7 n x):=by
 induction m with
 |zero=>simp [w7]
 |succ m ih=>rw [Nat.succ_add];simp only [w7,ih]
theorem q19 (c:UInt8):BitVec.ofNat 32 c.toNat <<< 24=(BitVec.ofNat 32 (c.toNat / 16) <<< 28) ^^^ (BitVec.ofNat 32 (c.toNat % 16) <<< 24):=by
 have key:∀ n:Fin 256,BitVec.ofNat 32 n.val <<< 24=(BitVec.ofNat 32 (n.val / 16) <<< 28) ^^^ (BitVec.ofNat 32 (n.val % 16) <<< 24):=by decide +kernel
 exact key ⟨c.toNat,UInt8.toNat_lt c⟩
theorem q7v (x:BitVec 32) (c:UInt8):crcP x c=w7 8 (x ^^^ (BitVec.ofNat 32 c.toNat <<< 24)):=by
 have hl:(BitVec.ofNat 32 (c.toNat % 16) <<< 24).toNat<2 ^ (32 - 4):=by
  have key:∀ n:Fin 16,(BitVec.ofNat 32 n.val <<< 24).toNat<2 ^ (32 - 4):=by decide +kernel
  exact key ⟨c.toNat % 16,Nat.mod_lt _ (by decide)⟩
 rw [show (8:Nat)=4+4 by rfl,q2c,q19,← BitVec.xor_assoc,qps 4 (x ^^^ _),qkk 4 _ (by omega) hl,← BitVec.shiftLeft_add,crcP,qvw,qvw]
theorem qw4 (x:BitVec 32):IntKind.u32.wrap (4294967295 - (x.toNat:Int))=((~~~x).toNat:Int):=by
 have h:=x.isLt
 have e:(4294967295 - (x.toNat:Int))=(((~~~x).toNat:Nat):Int):=by rw [BitVec.toNat_not];omega
 rw [e]
 exact qf5 _
theorem q3z (x:BitVec 32) (k n:Nat) (m:Int) (hm:m=((2 ^ n:Nat):Int)):IntKind.u32.wrap ((x.toNat:Int) * m)=((x <<< n).toNat:Int):=by
 rw [hm,← Int.natCast_mul,qgo,BitVec.toNat_shiftLeft,Nat.shiftLeft_eq]
theorem zcs (x:BitVec 32) (l:List UInt8) (st:List AObj) (hl:l.length<4294967281):qo E 181 [Wv x,Sv l] st fun r st'=>r=Wv (addP x l)∧st'=st:=by
 refine qv (qr _) (qp Tryz.func181 rfl (Nat.le_of_ble_eq_true rfl) ?_)
 repeat' (first|apply qm|apply qx|apply qe|apply qg|apply qj|apply qf|(apply xc;exact rfl;exact rfl;exact qw4 _))
 refine j5 (fun (k:Nat) s=>k≤l.length∧StA [(1,Sv l),(5,Wv ((l.take k).foldl crcP (~~~ x))),(6,Iv k)] (st++[]) [] s) (fun k=>l.length - k) 0 ⟨by omega,ja ⟨rfl,rfl,rfl,trivial⟩⟩ ?_
 rintro k _ ⟨hk,t,rfl⟩
 generalize hx:(l.take k).foldl crcP (~~~ x)=y
 have hc:=UInt8.toNat_lt (l.getD k 0)
 repeat' (first|apply qm|apply qx|apply qe|apply qg|apply qj|apply qf|(apply qq;(iterate 3 exact rfl))|(apply qc;exact rfl;apply cd_d <;> intro h)|(apply zl;(iterate 3 exact rfl))|(apply vr;(iterate 3 exact rfl);exact cAs)|(apply qdr;exact rfl;exact rfl;(first|exact j6 _|exact rfl);first|exact j6 _|exact rfl)|apply qu|apply zz|apply qt|(apply qrs;(iterate 3 exact rfl);omega)|(apply qf7;exact rfl;exact rfl;exact q3z _ 0 24 _ rfl)|(apply xc;exact rfl;exact rfl;exact qw4 _))
 ·generalize hcc:l.getD k 0=c at *
  generalize hz:y ^^^ (BitVec.ofNat 32 c.toNat <<< 24)=z
  refine j5 (fun (j:Nat) s=>j≤8∧StA [(1,Sv l),(5,Wv (w7 j z)),(6,Iv k),(7,Iv j)] (st++[]) [] s) (fun j=>8 - j) 0 ⟨by omega,ja ⟨rfl,rfl,rfl,rfl,trivial⟩⟩ ?_
  rintro j _ ⟨hj,t2,rfl⟩
  generalize hq:w7 j z=q
  have hql:=q.isLt
  repeat' (first|apply qm|apply qx|apply qe|apply qg|apply qj|apply qf|(apply qq;(iterate 3 exact rfl))|(apply qc;exact rfl;apply cd_d <;> intro h)|(apply zh;exact rfl;exact rfl;exact qz (by omega) (by omega))|(apply qdr;exact rfl;exact rfl;(first|exact j6 _|exact rfl);first|exact j6 _|exact rfl)|apply qu|apply zz|(apply qnh (n:=2147483648);exact rfl;exact rfl;omega;exact qvj (by omega))|(apply qf7;exact rfl;exact rfl;exact q3z _ 0 1 _ rfl))
  ·refine⟨j+1,⟨by omega,ja ⟨rfl,?_,rfl,rfl,trivial⟩⟩,by omega⟩
   refine congrArg Wv (?_:_=qbg _)
   rw [hq]
   unfold qbg
   rw [if_pos ((qxw q).2 (by omega))]
   rfl
  ·refine⟨j+1,⟨by omega,ja ⟨rfl,?_,rfl,rfl,trivial⟩⟩,by omega⟩
   refine congrArg Wv (?_:_=qbg _)
   rw [hq]
   unfold qbg
   rw [if_neg (fun h'=>absurd ((qxw q).1 h') (by omega))]
  ·have e:j=8:=by omega
   subst e
   refine⟨k+1,⟨by omega,ja ⟨rfl,?_,rfl,trivial⟩⟩,by omega⟩
   refine congrArg Wv (?_:q=_)
   rw [qbt (by omega),List.foldl_append,hx,hcc]
   show q=crcP y c
   rw [q7v,hz,hq]
 ·have e:k=l.length:=by omega
  subst e
  refine qn rfl (q6 rfl) ⟨congrArg Wv (?_:_=_),_,rfl⟩
  unfold addP
  rw [← hx,List.take_length]
theorem zcu (l:List UInt8) (st:List AObj) (hl:l.length<4294967281):qo E 120 [Sv l] st fun r st'=>r=Wv (addP 0 l)∧st'=st:=by
 refine qv (qr _) (qp Tryz.func120 rfl (Nat.le_of_ble_eq_true rfl) ?_)
 repeat' (first|apply qm|apply qe|apply qg|apply qj|apply qf|apply qt|(apply qi;exact Tryz.call181;exact zcs 0 _ _ hl))
 exact qn rfl (q6 rfl) ⟨rfl,_,rfl⟩
theorem zbq (x:BitVec 32) {j:Nat} (hj:j<8):figP x j=hexL.getD ((x >>> (4 * (7 - j))).toNat % 16) 0:=by
 unfold figP
 have e:((x >>> (4 * (7 - j))) &&& BitVec.ofInt 32 15).toNat=(x >>> (4 * (7 - j))).toNat % 16:=by
  rw [BitVec.toNat_and]
  exact Nat.and_two_pow_sub_one_eq_mod _ 4
 rw [e]
 rfl
theorem q8k {n:Nat} (h:n<16):(hexL.take (n+1)).drop n=[hexL.getD n 0]:=by
 have key:∀ i:Fin 16,(hexL.take (i.val+1)).drop i.val=[hexL.getD i.val 0]:=by decide +kernel
 exact key ⟨n,h⟩
theorem q5r (x:BitVec 32) {k:Nat} (h:k<8):(xz x 8).drop (8 - (k+1))=figP x (7 - k)::(xz x 8).drop (8 - k):=by
 have hlen:(xz x 8).length=8:=by simp [xz]
 rw [List.drop_eq_getElem_cons (by omega),show 8 - (k+1)+1=8 - k by omega]
 congr 1
 simp [xz,show 8 - (k+1)=7 - k by omega]
theorem q9i (x:BitVec 32) (st:List AObj):qo E 119 [Wv x] st fun r st'=>r=Sv (xz x 8)∧st'=st:=by
 refine qv (qr _) (qp Tryz.func119 rfl (Nat.le_of_ble_eq_true rfl) ?_)
 have hlen:(xz x 8).length=8:=by simp [xz]
 repeat' (first|apply qm|apply qx|apply qe|apply qg|apply qf)
 refine j5 (fun (k:Nat) s=>k≤8∧StA [(0,Wv (x >>> (4 * k))),(3,Sv ((xz x 8).drop (8 - k))),(4,Iv k)] (st++[]) [] s) (fun k=>8 - k) 0 ⟨by omega,ja ⟨by simp;rfl,by simp [hlen];rfl,rfl,trivial⟩⟩ ?_
 rintro k _ ⟨hk,t,rfl⟩
 have hn:(x >>> (4 * k)).toNat % 16<16:=Nat.mod_lt _ (by decide)
 have hd:((xz x 8).drop (8 - k)).length=k:=by simp [hlen];omega
 generalize hq:x >>> (4 * k)=q at *
 have hql:=q.isLt
 repeat' (first|apply qm|apply qx|apply qe|apply qg|apply qj|apply qf|(apply qq;(iterate 3 exact rfl))|(apply qc;exact rfl;apply cd_d <;> intro h)|(apply z7;exact rfl;exact rfl;exact cOs)|(apply zh;exact rfl;exact rfl;exact qz (by omega) (by omega))|(apply qg5;(iterate 4 exact rfl);exact cAs;exact cAs)|apply qu|apply zz|apply qt|(apply qvm (n:=16);exact rfl;exact rfl;omega)|(apply qnh (n:=16);exact rfl;exact rfl;omega;exact qvj (by omega))|(apply qvl (n:=1);exact rfl;exact rfl;exact qvj (by omega)))
 ·refine⟨k+1,⟨by omega,ja ⟨?_,?_,rfl,trivial⟩⟩,by omega⟩
  ·refine congrArg (fun n:Nat=>AV.v (.int .u32 (n:Int))) (?_:q.toNat / 16=(x >>> (4 * (k+1))).toNat)
   rw [show 4 * (k+1)=4 * k+4 by omega,BitVec.shiftRight_add,hq,BitVec.toNat_ushiftRight,Nat.shiftRight_eq_div_pow]
  ·refine congrArg Sv (?_:(hexL.take (q.toNat % 16+1)).drop (q.toNat % 16)++_=_)
   rw [q5r x (by omega),q8k hn,zbq x (by omega),show 4 * (7 - (7 - k))=4 * k by omega,hq]
   rfl
 ·have e:k=8:=by omega
  subst e
  exact qn rfl (q6 rfl) ⟨congrArg Sv (by simp),_,rfl⟩
end Go.Proofs.YtmoklbacdkmkaaaGreatDoor
namespace Go.Pl
open Go
def sp:Bool→qa→Bool
 | _,[]=>true
 |f,c::l=>(!f ||decide (c=32)) && sp (decide (c=10)) l
theorem qnb:∀ l,sp false l=sp true (past 10 l)
 | []=>rfl
 |c::l=>by
  by_cases h:c=10
  ·subst h;simp [sp,past,upto]
  ·have e:past 10 (c::l)=past 10 l:=by simp [past,upto,h]
   rw [e,← qnb l]
   simp [sp,h]
theorem q1h {l:qa} (h:l≠[]):sp true l=(decide ([32] <+: upto 10 l) && sp true (past 10 l)):=by
 cases l with
 |nil=>exact absurd rfl h
 |cons c r=>
  by_cases hc:c=10
  ·subst hc;simp [sp,upto]
  ·have e:past 10 (c::r)=past 10 r:=by simp [past,upto,hc]
   have e2:upto 10 (c::r)=c::upto 10 r:=by simp [upto,hc]
   rw [e,e2,← qnb]
   simp [sp,hc,eq_comm]
theorem qmb:∀ (n:Nat) (l:qa),l.length≤n→((∀ x∈zq l,[32] <+: x.1)↔sp true l=true)
 | 0,l,h=>by
  have:l=[]:=List.length_eq_zero_iff.1 (by omega)
  subst this
  simp [vt,sp]
 |n+1,l,h=>by
  by_cases hl:l=[]
  ·subst hl;simp [vt,sp]
  ·rw [wp hl,q1h hl,Bool.and_eq_true,← qmb n (past 10 l) (by have:=w9 (c:=10) hl;omega)]
   simp only [List.mem_cons,forall_eq_or_imp,decide_eq_true_eq]
theorem qda (l:qa):(vg [32] l).2=sp true l:=by
 unfold vg
 by_cases h:sp true l=true
 ·rw [if_pos ((qmb _ l (Nat.le_refl _)).2 h),h]
 ·rw [if_neg (fun h'=>h ((qmb _ l (Nat.le_refl _)).1 h'))]
  simp only [Bool.not_eq_true] at h
  rw [h]
theorem q9w:∀ (f:Bool) (l m:qa),sp f (l++m)=true→sp f l=true
 | _,[],_,_=>rfl
 |f,c::l,m,h=>by
  simp only [List.cons_append,sp,Bool.and_eq_true] at h ⊢
  exact⟨h.1,q9w _ l m h.2⟩
def qds (f:Bool) (l:qa):Bool:=match l.getLast? with|none=>f|some c=>decide (c=10)
theorem q5o (f:Bool) (c:UInt8) (l:qa):qds f (c::l)=qds (decide (c=10)) l:=by
 cases l with
 |nil=>simp [qds]
 |cons b l=>
  unfold qds
  rw [List.getLast?_cons_cons]
  cases hb:(b::l).getLast? with
  |none=>simp at hb
  |some x=>rfl
theorem qoq:∀ (f:Bool) (l m:qa),sp f (l++m)=(sp f l && sp (qds f l) m)
 |f,[],m=>by simp [sp,qds]
 |f,c::l,m=>by
  simp only [List.cons_append,sp]
  rw [qoq _ l m,q5o,Bool.and_assoc]
theorem qjz (l:qa):yi l↔2≤l.length∧l.length≤50000∧l.getLast? = some 10∧sp true l=true:=by
 unfold yi
 rw [qda]
theorem qen:∀ (n u:Nat),u≤n→∀ c∈Lib.decDigits u,48≤c.toNat∧c.toNat≤57
 |n,u,hn,c,hc=>by
  by_cases h:u<10
  ·rw [Lib.decDigits_one h] at hc
   simp only [List.mem_singleton] at hc
   subst hc
   rw [UInt8.toNat_ofNat']
   omega
  ·rw [xy h,List.mem_append] at hc
   cases n with
   |zero=>omega
   |succ n=>
    rcases hc with hc|hc
    ·exact qen n (u / 10) (by omega) c hc
    ·exact qen n (u % 10) (by omega) c hc
theorem qew (n:Nat):Lib.itoa (n:Int)=Lib.decDigits n:=by
 unfold Lib.itoa
 rw [if_neg (by omega)]
 simp
theorem qqz (n:Nat):∀ c∈Lib.itoa (n:Int),48≤c.toNat∧c.toNat≤57:=by
 rw [qew]
 exact qen n n (Nat.le_refl _)
theorem qy2 (u:Nat):Lib.decDigits u≠[]:=by
 intro h
 have:=congrArg List.length h
 rw [Lib.decDigits_length] at this
 have:=Lib.nDigits_pos u
 simp at *
 omega
theorem qwm:∀ (a:Nat) (l m:qa) (b:Nat),Lib.parseUint10 a l = .ok b→Lib.parseUint10 a (l++m)=Lib.parseUint10 b m
 |a,[],m,b,h=>by
  simp only [Lib.parseUint10,Lib.NumEnd.ok.injEq] at h
  subst h;rfl
 |a,c::l,m,b,h=>by
  simp only [List.cons_append,Lib.parseUint10] at h ⊢
  split at h
  ·rename_i hd
   rw [if_pos hd]
   split at h
   ·cases h
   ·rename_i h1
    rw [if_neg h1]
    split at h
    ·cases h
    ·rename_i h2
     rw [if_neg h2]
     exact qwm _ l m b h
  ·cases h
theorem qwo:∀ (n u:Nat),u≤n→u<1000000000000000000→Lib.parseUint10 0 (Lib.decDigits u) = .ok u
 |n,u,hn,hu=>by
  have key:∀ (a d:Nat),a<100000000000000000→d<10→Lib.parseUint10 a (Lib.decDigits d) = .ok (a * 10+d):=by
   intro a d ha hd
   have e:(UInt8.ofNat (48+d)).toNat=48+d:=by rw [UInt8.toNat_ofNat'];omega
   rw [Lib.decDigits_one hd]
   simp only [Lib.parseUint10,e]
   rw [if_pos (by omega),if_neg (by omega),if_neg (by omega)]
   congr 1
   omega
  by_cases h:u<10
  ·have:=key 0 u (by omega) h
   simpa using this
  ·cases n with
   |zero=>omega
   |succ n=>
    rw [xy h,qwm 0 _ _ (u / 10) (qwo n (u / 10) (by omega) (by omega)),key _ _ (by omega) (by omega)]
    congr 1
    omega
theorem q7f {n:Nat} (h:n<1000000000000000000):Lib.atoiAll (Lib.itoa (n:Int)) = .ok (n:Int):=by
 have hp:=qwo n n (Nat.le_refl _) h
 have hd:=qen n n (Nat.le_refl _)
 rw [qew]
 cases hl:Lib.decDigits n with
 |nil=>exact absurd hl (qy2 n)
 |cons c r=>
  rw [hl] at hp hd
  have hc:=hd c (by simp)
  simp only [Lib.atoiAll]
  have h1:¬ (c.toNat=43∨c.toNat=45):=by omega
  rw [if_neg h1]
  have hm:Lib.parseMag (c::r) = .ok n:=by unfold Lib.parseMag;rw [if_neg (by simp)];exact hp
  rw [hm]
  have h2:¬ c.toNat=45:=by omega
  simp only [h2,not_false_iff,true_and,false_and,if_false]
  rw [if_neg (by omega)]
theorem qb8 {n:Nat} (h1:1≤n) (h2:n≤50000):ke (Lib.itoa (n:Int))=n:=by
 have:=qs8 (q7f (n:=n) (by omega))
 rw [if_pos ⟨rfl,by omega,by omega⟩] at this
 omega
theorem qb1 {l:qa} {n:Nat} (h:ke l=n) (hn:1≤n):l=Lib.itoa (n:Int):=by
 unfold ke at h
 split at h
 ·split at h
  ·rename_i v _ hv
   have:v=(n:Int):=by omega
   rw [← this,hv.1]
  ·omega
 ·omega
theorem qk3:∀ (n u j:Nat),u≤n→1≤u→1≤j→j≤(Lib.decDigits u).length→∃ m,1≤m∧m≤u∧(Lib.decDigits u).take j=Lib.decDigits m
 |n,u,j,hn,hu,hj,hl=>by
  by_cases h:u<10
  ·refine⟨u,hu,Nat.le_refl _,?_⟩
   rw [Lib.decDigits_one h] at hl ⊢
   simp only [List.length_singleton] at hl
   have:j=1:=by omega
   subst this
   rfl
  ·cases n with
   |zero=>omega
   |succ n=>
    rw [xy h] at hl ⊢
    have h1:(Lib.decDigits (u % 10)).length=1:=by rw [Lib.decDigits_one (by omega)];rfl
    rw [List.length_append,h1] at hl
    by_cases hj2:j≤(Lib.decDigits (u / 10)).length
    ·obtain⟨m,m1,m2,m3⟩:=qk3 n (u / 10) j (by omega) (by omega) hj hj2
     exact⟨m,m1,by omega,by rw [List.take_append_of_le_length hj2,m3]⟩
    ·refine⟨u,hu,Nat.le_refl _,?_⟩
     rw [List.take_of_length_le (by rw [List.length_append,h1];omega),← xy h]
end Go.Pl
namespace Go.Proofs.YtmoklbacdkmkaaaGreatDoor
open Go Go.Pl
def v8 (n:Nat) (fig:qa):qa:=q8++(Lib.itoa n++32::fig)
theorem zbs (n:Nat) (fig:qa):qgv n fig=v8 n fig++[10]:=by simp [qgv,v8,q8]
theorem qdx (n:Nat) {c:UInt8} (h:¬ (48≤c.toNat∧c.toNat≤57)):c∉Lib.itoa (n:Int):=fun hc=>h (qqz n c hc)
theorem qn4 {f:qa} (h:wo f) {c:UInt8} (hc:c∉hexL):c∉f:=fun h'=>hc (h c h')
theorem qbm (n:Nat) {fig:qa} (h:wo fig):10∉v8 n fig:=by
 unfold v8
 simp only [List.mem_append,List.mem_cons,not_or]
 exact⟨by decide,qdx n (by decide),by decide,qn4 h (by decide)⟩
theorem qib (l:qa):Lib.trimPrefix (q8++l) q8=l:=by
 rw [qcw (List.prefix_append _ _),List.drop_left]
theorem q0l {n:Nat} {fig:qa} (h2:2≤n) (hn:n≤50000) (hf:fig.length=8) (hx:wo fig):z8 (v8 n fig)=(n,fig,true):=by
 unfold z8 v8
 have h32:32∉Lib.itoa (n:Int):=qdx n (by decide)
 rw [qib,vu fig h32,xk fig h32,qb8 (by omega) hn]
 rw [decide_eq_true ⟨List.prefix_append _ _,by simp,h2,hf,hx⟩]
theorem qtf {n:Nat} {fig:qa} (r:qa) (h2:2≤n) (hn:n≤50000) (hf:fig.length=8) (hx:wo fig) :
  ze (v8 n fig++10::r)=if r.length<n then (xq r ((n:Int) - r.length),[],0)
   else if yi (r.take n) then w6 (r.drop n) (r.take n) fig (qc3 n) else (3,[],0):=by
 have hm:10∈v8 n fig++10::r:=by simp
 have h10:=qbm n hx
 unfold ze
 rw [if_pos hm,vu r h10,xk r h10,q0l h2 hn hf hx]
 simp only [if_true]
structure qt4 (n:Nat) (fig body:qa):Prop where
 two:2≤n
 most:n≤50000
 len:body.length=n
 good:yi body
 figs:fig.length=8
 hex:wo fig
def recL (n:Nat) (fig body:qa):qa:=v8 n fig++10::(body++yl n)
theorem qo9 (l:qa):recF l=recL l.length (sumF l) l:=by
 unfold recF recL
 rw [zbs]
 simp
theorem qfd {l a b:qa} (h:l <+: a++b):l <+: a∨∃ r,l=a++r∧r <+: b:=by
 rcases Nat.le_total l.length a.length with hl|hl
 ·exact .inl (List.prefix_of_prefix_length_le h (List.prefix_append _ _) hl)
 ·obtain⟨r,hr⟩:=List.prefix_of_prefix_length_le (List.prefix_append a b) h hl
  exact .inr ⟨r,hr.symm,by rw [← hr] at h;exact (List.prefix_append_right_inj a).1 h⟩
theorem qij {a b:qa} {c:UInt8} (h:a <+: b) (hc:c∉b):c∉a:=fun h'=>hc (h.subset h')
theorem q5w {a b:qa} (h:a <+: b) (hb:wo b):wo a:=fun c hc=>hb c (h.subset hc)
theorem qoi {n:Nat} {fig l:qa} (h2:2≤n) (hn:n≤50000) (hf:fig.length=8) (hx:wo fig) (h:l <+: v8 n fig):xj l=true:=by
 unfold v8 at h
 rcases qfd h with h | ⟨t,rfl,ht⟩
 ·unfold xj
  by_cases hb:q8 <+: l
  ·have e:l=q8:=(h.eq_of_length_le hb.length_le)
   rw [if_pos hb,e]
   decide
  ·rw [if_neg hb]
   exact decide_eq_true h
 ·unfold xj
  rw [if_pos (List.prefix_append _ _)]
  have ed:(q8++t).drop 7=t:=by rw [show (7:Nat)=q8.length by rfl,List.drop_left]
  rw [ed]
  have h32:32∉Lib.itoa (n:Int):=qdx n (by decide)
  rcases qfd ht with ht | ⟨r,rfl,hr⟩
  ·have h3:32∉t:=qij ht h32
   rw [ww h3]
   have hp:past 32 t=[]:=by unfold past;rw [ww h3];simp
   rw [hp]
   refine decide_eq_true ⟨fun h'=>h3 h'.1,fun h'=>?_,by simp,by intro c hc;simp at hc⟩
   obtain⟨hne,h0⟩:=h'
   rw [qew] at ht
   have hpos:1≤t.length:=List.length_pos_iff.2 hne
   obtain⟨m,m1,m2,m3⟩:=qk3 n n t.length (Nat.le_refl _) (by omega) hpos ht.length_le
   rw [← List.prefix_iff_eq_take.1 ht,← qew] at m3
   rw [m3,qb8 m1 (by omega)] at h0
   omega
  ·cases r with
   |nil=>
    rw [List.append_nil,ww h32]
    have hp:past 32 (Lib.itoa (n:Int))=[]:=by unfold past;rw [ww h32];simp
    rw [hp,qb8 (by omega) hn]
    exact decide_eq_true ⟨fun h'=>h32 h'.1,fun h'=>by omega,by simp,by intro c hc;simp at hc⟩
   |cons c r=>
    obtain⟨rfl,hr2⟩:=List.cons_prefix_cons.1 hr
    rw [vu r h32,xk r h32,qb8 (by omega) hn]
    exact decide_eq_true ⟨fun h'=>by omega,fun h'=>by omega,by have:=hr2.length_le;omega,q5w hr2 hx⟩
theorem q2q {n:Nat} {r body:qa} (hg:yi body) (hl:body.length=n) (hr:r <+: body) (hlt:r.length<n):xq r ((n:Int) - r.length)=2:=by
 obtain⟨g1,g2,g3,g4⟩:=(qjz body).1 hg
 obtain⟨m,rfl⟩:=hr
 unfold xq
 rw [qda]
 rw [qoq,Bool.and_eq_true] at g4
 refine if_pos ⟨g4.1,?_⟩
 rintro⟨h1,h2⟩
 have hm:m.length=1:=by simp at hl;omega
 obtain⟨c,rfl⟩:=List.length_eq_one_iff.1 hm
 rw [List.getLast?_append] at g3
 simp at g3
 subst g3
 have hf:qds true r=true:=by
  unfold qds
  rcases h1 with rfl|h1
  ·rfl
  ·rw [h1];rfl
 rw [hf] at g4
 simp [sp] at g4
theorem zfb {n:Nat} {fig body l:qa} (R:qt4 n fig body) (h:l <+: recL n fig body) (hl:l.length<(recL n fig body).length):ze l=(2,[],0):=by
 obtain⟨h2,hn,hlen,hg,hf,hx⟩:=R
 unfold recL at h hl
 rcases qfd h with h | ⟨r,rfl,hr⟩
 ·have h10:10∉l:=qij h (qbm n hx)
  unfold ze
  rw [if_neg h10,if_pos (qoi h2 hn hf hx h)]
 ·cases r with
  |nil=>
   rw [List.append_nil]
   unfold ze
   rw [if_neg (qbm n hx),if_pos (qoi h2 hn hf hx (List.prefix_refl _))]
  |cons c r=>
   obtain⟨rfl,hr2⟩:=List.cons_prefix_cons.1 hr
   rw [qtf r h2 hn hf hx]
   rcases qfd hr2 with hr | ⟨q,rfl,hq⟩
   ·by_cases hlt:r.length<n
    ·rw [if_pos hlt,q2q hg hlen hr hlt]
    ·have e:r=body:=hr.eq_of_length_le (by omega)
     subst e
     rw [if_neg hlt,← hlen,List.take_length,if_pos hg,List.drop_length]
     unfold w6
     rw [if_pos ⟨by rw [qa1];simp,by simp⟩]
   ·rw [if_neg (by simp;omega),← hlen,List.take_left,List.drop_left,if_pos hg]
    unfold w6
    rw [if_pos ⟨by simp at hl;rw [hlen];omega,by rw [hlen];exact hq⟩]
theorem qtd (f:qa) (hl:f.length≤8) (hx:wo f):∃ g:qa,g.length=8∧wo g∧f <+: g:=
 ⟨f++List.replicate (8 - f.length) 48,by simp;omega,fun c hc=>by
  rw [List.mem_append,List.mem_replicate] at hc
  rcases hc with hc | ⟨_,rfl⟩
  ·exact hx c hc
  ·decide,List.prefix_append _ _⟩
theorem qu5:∀ (k:Nat),sp false (List.replicate k 97++[10])=true
 | 0=>by simp [sp]
 |k+1=>by rw [List.replicate_succ,List.cons_append];simp only [sp];exact by simpa using qu5 k
theorem qyu {n:Nat} {r:qa} (hn:n≤50000) (hlt:r.length<n) (h2:2≤n) (hp:xq r ((n:Int) - r.length)=2):∃ body:qa,body.length=n∧yi body∧r <+: body:=by
 unfold xq at hp
 split at hp
 ·rename_i h
  obtain⟨hs,hfr⟩:=h
  rw [qda] at hs
  by_cases hf:r=[]∨r.getLast? = some 10
  ·have hk:r.length+2≤n:=by
    rcases Nat.lt_or_ge (r.length+1) n with h|h
    ·omega
    ·exact absurd ⟨hf,by omega⟩ hfr
   refine⟨r++(32::(List.replicate (n - r.length - 2) 97++[10])),by simp;omega,?_,List.prefix_append _ _⟩
   rw [qjz]
   refine⟨by simp;omega,by simp;omega,by simp [List.getLast?_append,List.getLast?_cons],?_⟩
   rw [qoq,hs]
   simp only [sp,Bool.true_and]
   have:=qu5 (n - r.length - 2)
   simpa using this
  ·refine⟨r++(List.replicate (n - r.length - 1) 97++[10]),by simp;omega,?_,List.prefix_append _ _⟩
   rw [qjz]
   refine⟨by simp;omega,by simp;omega,by simp [List.getLast?_append],?_⟩
   rw [qoq,hs]
   have e:qds true r=false:=by
    unfold qds
    cases hq:r.getLast? with
    |none=>exact absurd (.inl (List.getLast?_eq_none_iff.1 hq)) hf
    |some c=>
     refine decide_eq_false fun h=>hf (.inr ?_)
     rw [hq,h]
   rw [e,qu5]
   rfl
 ·simp at hp
theorem qfi {n:Nat} (h2:2≤n) (hn:n≤50000):∃ body:qa,body.length=n∧yi body:=by
 obtain⟨b,h1,h3,_⟩:=qyu (n:=n) (r:=[]) hn (by simp;omega) h2 (by
  unfold xq
  rw [qda]
  rw [if_pos ⟨rfl,by rintro⟨_,h⟩;simp at h;omega⟩])
 exact⟨b,h1,h3⟩
theorem qhj {a b c:qa} (h:a <+: b):a <+: b++c:=h.trans (List.prefix_append _ _)
theorem qfa {n:Nat} {fig body l:qa} (h:l <+: v8 n fig):l <+: recL n fig body∧l.length<(recL n fig body).length:=by
 refine⟨qhj h,?_⟩
 have:=h.length_le
 unfold recL
 simp
 omega
theorem ze9 {l:qa} (h:(ze l).1=2):∃ n fig body,qt4 n fig body∧l <+: recL n fig body∧l.length<(recL n fig body).length:=by
 unfold ze at h
 split at h
 ·rename_i h10
  split at h
  ·rename_i ho
   generalize hr:past 10 l=r at *
   have hl:=v7 h10
   rw [hr] at hl
   generalize hu:upto 10 l=u at *
   -- the first line
   have hop:u=v8 (z8 u).1 (z8 u).2.1∧2≤(z8 u).1∧(z8 u).1≤50000∧(z8 u).2.1.length=8∧wo (z8 u).2.1:=by
    simp only [z8,decide_eq_true_eq] at ho ⊢
    obtain⟨o1,o2,o3,o4,o5⟩:=ho
    refine⟨?_,o3,y8 _,o4,o5⟩
    obtain⟨t,rfl⟩:=o1
    rw [qib] at *
    have:=qb1 rfl (Nat.le_trans (by decide) o3)
    unfold v8
    rw [← this,← v7 o2]
   generalize (z8 u).1=n at *
   generalize (z8 u).2.1=fig at *
   obtain⟨rfl,h2,hn,hf,hx⟩:=hop
   split at h
   ·rename_i hlt
    obtain⟨body,b1,b2,b3⟩:=qyu hn hlt h2 h
    refine⟨n,fig,body,⟨h2,hn,b1,b2,hf,hx⟩,?_,?_⟩
    ·rw [hl]
     unfold recL
     rw [List.prefix_append_right_inj,List.cons_prefix_cons]
     exact⟨rfl,qhj b3⟩
    ·rw [hl]
     unfold recL
     have:=b3.length_le
     have:=qa1 n
     simp
     omega
   ·rename_i hge
    split at h
    ·rename_i hg
     have hlen:(r.take n).length=n:=by simp;omega
     refine⟨n,fig,r.take n,⟨h2,hn,hlen,hg,hf,hx⟩,?_⟩
     unfold w6 at h
     rw [hlen] at h
     split at h
     ·rename_i hc
      rw [hl]
      unfold recL
      constructor
      ·rw [List.prefix_append_right_inj,List.cons_prefix_cons]
       refine⟨rfl,?_⟩
       conv=>lhs;rw [← List.take_append_drop n r]
       rw [List.prefix_append_right_inj]
       exact hc.2
      ·have:=hc.1
       simp at this ⊢
       omega
     ·split at h <;> simp at h
    ·simp at h
  ·simp at h
 ·rename_i h10
  split at h
  ·rename_i ho
   unfold xj at ho
   split at ho
   ·rename_i hb
    obtain⟨t,rfl⟩:=hb
    have ed:(q8++t).drop 7=t:=by rw [show (7:Nat)=q8.length by rfl,List.drop_left]
    rw [ed] at ho
    obtain⟨o1,o2,o3,o4⟩:=of_decide_eq_true ho
    by_cases h32:32∈t
    ·have hn2:2≤ke (upto 32 t):=by
      rcases Nat.lt_or_ge (ke (upto 32 t)) 2 with h|h
      ·exact absurd ⟨h32,h⟩ o1
      ·exact h
     obtain⟨fig,f1,f2,f3⟩:=qtd _ o3 o4
     obtain⟨body,b1,b2⟩:=qfi hn2 (y8 _)
     refine⟨_,fig,body,⟨hn2,y8 _,b1,b2,f1,f2⟩,qfa ?_⟩
     unfold v8
     rw [List.prefix_append_right_inj]
     conv=>lhs;rw [v7 h32]
     rw [qb1 (l:=upto 32 t) rfl (by omega)]
     rw [qb8 (by omega) (y8 _),List.prefix_append_right_inj,List.cons_prefix_cons]
     exact⟨rfl,f3⟩
    ·rw [ww h32] at o2
     by_cases ht:t=[]
     ·subst ht
      obtain⟨body,b1,b2⟩:=qfi (n:=2) (by omega) (by omega)
      refine⟨2,List.replicate 8 48,body,⟨by omega,by omega,b1,b2,by simp,by decide⟩,qfa ?_⟩
      unfold v8
      simp
     ·have hpos:1≤ke t:=by
       rcases Nat.eq_zero_or_pos (ke t) with h|h
       ·exact absurd ⟨ht,h⟩ o2
       ·exact h
      have hle:=y8 t
      have ht2:=qb1 (l:=t) rfl hpos
      generalize ke t=m at *
      subst ht2
      by_cases hm:m=1
      ·subst hm
       obtain⟨body,b1,b2⟩:=qfi (n:=10) (by omega) (by omega)
       refine⟨10,List.replicate 8 48,body,⟨by omega,by omega,b1,b2,by simp,by decide⟩,qfa ?_⟩
       unfold v8
       rw [List.prefix_append_right_inj]
       have e1:Lib.itoa ((1:Nat):Int)=[49]:=by rw [qew,Lib.decDigits_one (by decide)];rfl
       have e2:Lib.itoa ((10:Nat):Int)=[49,48]:=by rw [qew,xy (by decide),Lib.decDigits_one (by decide),Lib.decDigits_one (by decide)];rfl
       rw [e1,e2]
       exact⟨_,rfl⟩
      ·obtain⟨body,b1,b2⟩:=qfi (n:=m) (by omega) (by omega)
       refine⟨m,List.replicate 8 48,body,⟨by omega,by omega,b1,b2,by simp,by decide⟩,qfa ?_⟩
       unfold v8
       rw [List.prefix_append_right_inj]
       exact List.prefix_append _ _
   ·rename_i hb
    have hp:=of_decide_eq_true ho
    obtain⟨body,b1,b2⟩:=qfi (n:=2) (by omega) (by omega)
    refine⟨2,List.replicate 8 48,body,⟨by omega,by omega,b1,b2,by simp,by decide⟩,qfa ?_⟩
    unfold v8
    exact qhj hp
  ·simp at h
theorem q2h (s:BitVec 32):wo (xz s 8):=by
 intro c hc
 simp only [xz,List.mem_map] at hc
 obtain⟨j,_,rfl⟩:=hc
 unfold figP
 have h:=Go.Av.and15_lt (s >>> (4 * (7 - j)))
 generalize ((s >>> (4 * (7 - j))) &&& BitVec.ofInt 32 15).toNat=k at h
 have key:∀ i:Fin 16,([48,49,50,51,52,53,54,55,56,57,97,98,99,100,101,102]:qa).getD i.val 0∈hexL:=by decide
 exact key ⟨k,h⟩
theorem q2s (b:qa) (h:yi b):((recF b).length:Int)=qc3 b.length:=by
 obtain⟨g1,g2,_⟩:=h
 unfold recF qc3
 rw [if_neg (by omega)]
 simp only [List.length_append,qdg,qkv]
 simp
end Go.Proofs.YtmoklbacdkmkaaaGreatDoor
namespace Go.Proofs.YtmoklbacdkmkaaaGreatDoor
open Go Go.Av Go.RowKit Go.Proofs Go.Pl
theorem q79 {l:qa} {k:Nat} (hk:k<l.length):qds true (l.take k)=decide (k=0∨l.getD (k - 1) 0=10):=by
 cases k with
 |zero=>simp [qds]
 |succ k=>
  rw [qbt (by omega)]
  simp [qds,List.getLast?_append]
theorem q4e {l:qa} {k:Nat} (hk:k<l.length):sp true (l.take (k+1))=(sp true (l.take k) && (!decide (k=0∨l.getD (k - 1) 0=10) ||decide (l.getD k 0=32))):=by
 rw [qbt hk,qoq,q79 hk]
 simp [sp]
theorem zhb {l:qa} {k:Nat} (hk:k<l.length) (h1:k=0∨l.getD (k - 1) 0=10) (h2:l.getD k 0≠32):sp true l=false:=by
 cases h:sp true l with
 |false=>rfl
 |true=>
  have e:=q9w true (l.take (k+1)) (l.drop (k+1)) (by rw [List.take_append_drop];exact h)
  rw [q4e hk,decide_eq_true h1,decide_eq_false h2] at e
  simp at e
theorem zhp {l:qa} {k:Nat} (hk:k<l.length) (h1:sp true (l.take k)=true) (h2:(k=0∨l.getD (k - 1) 0=10)→l.getD k 0=32):sp true (l.take (k+1))=true:=by
 rw [q4e hk,h1]
 by_cases h:k=0∨l.getD (k - 1) 0=10
 ·rw [decide_eq_true h,decide_eq_true (h2 h)];rfl
 ·rw [decide_eq_false h];rfl
theorem qtl (l:List UInt8) (st:List AObj) (hl:l.length<4294967281):qo E 116 [Sv l] st fun r st'=>r=Bv (sp true l)∧st'=st:=by
 refine qv (qr _) (qp Tryz.func116 rfl (Nat.le_of_ble_eq_true rfl) ?_)
 repeat' (first|apply qm|apply qx|apply qe|apply qg|apply qf)
 refine j5 (fun (k:Nat) s=>k≤l.length∧sp true (l.take k)=true∧StA [(0,Sv l),(3,Iv k)] (st++[]) [] s) (fun k=>l.length - k) 0 ⟨by omega,by simp [sp],ja ⟨rfl,rfl,trivial⟩⟩ ?_
 rintro k _ ⟨hk,h1,t,rfl⟩
 repeat' (first|apply qm|apply qx|apply qe|apply qg|apply qj|apply qf|(apply qq;(iterate 3 exact rfl))|(apply qw;(iterate 4 exact rfl))|(apply wu;exact cAo)|(apply vj;exact cAo)|(apply vo;exact cAo)|(apply xf;exact cAo)|(apply qbz;exact cRa)|(apply jk <;> intro h)|(apply qk;exact rfl;apply wh;exact cAo)|(apply qk;exact rfl;apply wa;exact cAo)|(apply qk;exact rfl;apply pk_t;exact cRa)|(apply qc;exact rfl;apply cd_f;exact cRa)|(apply qc;exact rfl;apply cd_d <;> intro h)|(apply zl;(iterate 3 exact rfl))|(apply zh;exact rfl;exact rfl;exact qz (by omega) (by omega))|(apply xc;exact rfl;exact rfl;exact qz (by omega) (by omega))|(apply vr;(iterate 3 exact rfl);exact cAs)|apply qu|apply zz|apply qt|(apply qgr;(iterate 3 exact rfl);omega;omega))
 all_goals
  have e1:((k:Int) - 1).toNat=k - 1:=by omega
  simp only [e1,qt0,qa4,Classical.not_not] at *
 all_goals first
  |exact qn rfl (q6 rfl) ⟨congrArg Bv (zhb (k:=k) (by omega) (by first|(left;omega)|(right;assumption)) (by assumption)).symm,_,rfl⟩
  |exact⟨k+1,⟨by omega,zhp (by omega) h1 (by first|(intro _;assumption)|(rintro (h|h);omega;contradiction)),ja ⟨rfl,rfl,trivial⟩⟩,by omega⟩
  |skip
 have e:k=l.length:=by omega
 subst e
 rw [List.take_length] at h1
 exact qn rfl (q6 rfl) ⟨congrArg Bv h1.symm,_,rfl⟩
theorem q9j (l:List UInt8) (st:List AObj) (hl:l.length<4294967281):qo E 117 [Sv l] st fun r st'=>r=Bv (decide (yi l))∧st'=st:=by
 refine qv (qr _) (qp Tryz.func117 rfl (Nat.le_of_ble_eq_true rfl) ?_)
 repeat' (first|apply qm|apply qe|apply qg|apply qj|apply qf|(apply qq;(iterate 3 exact rfl))|(apply qw;(iterate 4 exact rfl))|(apply wu;exact cAo)|(apply xf;exact cAo)|(apply yq;exact cRa)|(apply jk <;> intro h)|(apply qk;exact rfl;apply wh;exact cAo)|(apply qk;exact rfl;apply wa;exact cAo)|(apply qk;exact rfl;apply pk_f;exact cRa)|(apply zl;(iterate 3 exact rfl))|(apply xc;exact rfl;exact rfl;exact qz (by omega) (by omega))|apply qt|(apply qgr;(iterate 3 exact rfl);omega;omega)|(apply qi;exact Tryz.call116;exact qtl _ _ hl))
 all_goals
  have g:=qjz l
  have g2:1≤l.length→(l.getLast? = some 10↔((l.getD ((l.length:Int) - 1).toNat 0).toNat:Int)=10):=fun h=>by
   have e:((l.length:Int) - 1).toNat=l.length - 1:=by omega
   rw [e,qa4,List.getLast?_eq_getElem?]
   simp [List.getD,show l.length - 1<l.length by omega]
  refine qn rfl (q6 rfl) ⟨congrArg Bv (?_:_=decide (yi l)),_,rfl⟩
 ·have e:yi l↔sp true l=true:=by rw [g];exact⟨fun h=>h.2.2.2,fun h=>⟨by omega,by omega,(g2 (by omega)).2 (by assumption),h⟩⟩
  simp [e]
 ·exact (decide_eq_false fun h=>by rw [g] at h;exact absurd ((g2 (by omega)).1 h.2.2.1) (by assumption)).symm
 ·exact (decide_eq_false fun h=>by rw [g] at h;omega).symm
 ·exact (decide_eq_false fun h=>by rw [g] at h;omega).symm
theorem qp9 (n:Nat) (f:List UInt8) (st:List AObj) (hn:n≤9223372036854775807) (hf:f.length<4294967281):qo E 118 [Iv n,Sv f] st fun r st'=>r = .tu [Sv (qgv n f),Sv (yl n)]∧st'=st:=by
 refine qv (qka _ _) (qp Tryz.func118 rfl (Nat.le_of_ble_eq_true rfl) ?_)
 have h1:=qdi n hn
 repeat' (first|apply qm|apply qe|apply qg|apply qj|apply qf|(apply z7;exact rfl;exact rfl;exact cOs)|apply qt|(apply qi;exact Tryz.call157;exact qer _ _ (by omega) (by omega)))
 exact qn rfl (kc rfl) ⟨zhs (by simp [qgv,yl]),_,rfl⟩
theorem q20 (n:Int) (st:List AObj):qo E 121 [Iv n] st fun r st'=>r=Iv (qc3 n)∧st'=st:=by
 refine qv (qr _) (qp Tryz.func121 rfl (Nat.le_of_ble_eq_true rfl) ?_)
 by_cases hr:n<2∨50000<n
 ·skip
  repeat' (first|apply qm|apply qe|apply qg|apply qj|apply qf|(apply qq;(iterate 3 exact rfl))|(apply qw;(iterate 4 exact rfl))|(apply vj;exact cAo)|(apply vo;exact cAo)|(apply jk <;> intro h)|(apply qk;exact rfl;apply wh;exact cAo)|(apply qk;exact rfl;apply wa;exact cAo)|(apply qc;exact rfl;apply kz;exact cAo)|(apply qc;exact rfl;apply cd_t;exact cRa)|apply qt)
  all_goals refine qn rfl (q6 rfl) ⟨congrArg Iv (?_:_=_),_,rfl⟩
  all_goals first|exact (if_pos hr).symm|omega
 ·obtain⟨k,rfl⟩:=Int.eq_ofNat_of_zero_le (by omega:0≤n)
  have h1:=qdi k (by omega)
  have h2:=qdg k [48,48,48,48,48,48,48,48]
  have h3:=qa1 k
  have h4:([48,48,48,48,48,48,48,48]:List UInt8).length=8:=rfl
  repeat' (first|apply qm|apply qe|apply qg|apply qj|apply qf|(apply zf;exact rfl;exact rfl)|(apply qq;(iterate 3 exact rfl))|(apply qw;(iterate 4 exact rfl))|(apply vj;exact cAo)|(apply qk;exact rfl;apply wa;exact cAo)|(apply qc;exact rfl;apply ku;exact cAo)|(apply zl;(iterate 3 exact rfl))|(apply zh;exact rfl;exact rfl;exact qz (by omega) (by omega))|apply qu|apply qt|(apply qi;exact Tryz.call118;exact qp9 k [48,48,48,48,48,48,48,48] _ (by omega) (by decide)))
  refine qn rfl (q6 rfl) ⟨congrArg Iv (?_:_=_),_,rfl⟩
  unfold qc3
  rw [if_neg hr]
  rfl
theorem q3r {l:qa} (h:0<l.length):l.head? = some 37↔((l.getD 0 0).toNat:Int)=37:=by
 cases l with
 |nil=>simp at h
 |cons c l=>
  simp only [List.head?_cons,Option.some.injEq,List.getD_cons_zero]
  exact (zht _).symm
theorem q0y (l:List UInt8) (st:List AObj) (hl:l.length<4294967281):qo E 62 [Sv l] st fun r st'=>r=Bv (decide (l.head? = some 37∧qy l=5))∧st'=st:=by
 refine qv (qr _) (qp Tryz.func62 rfl (Nat.le_of_ble_eq_true rfl) ?_)
 repeat' (first|apply qm|apply qe|apply qg|apply qj|apply qf|(apply qq;(iterate 3 exact rfl))|(apply qw;(iterate 4 exact rfl))|(apply wu;exact cAo)|(apply xf;exact cAo)|(apply yq;exact cRa)|(apply jk <;> intro h)|(apply qk;exact rfl;apply wh;exact cAo)|(apply qk;exact rfl;apply wa;exact cAo)|(apply qk;exact rfl;apply pk_f;exact cRa)|(apply zl;(iterate 3 exact rfl))|(apply vr;(iterate 3 exact rfl);exact cAs)|apply qt|(apply qi;exact Tryz.call108;exact qff _ _ hl))
 all_goals refine qn rfl (q6 rfl) ⟨congrArg Bv (?_:_=decide (l.head? = some 37∧qy l=5)),_,rfl⟩
 ·have e:l.head? = some 37:=(q3r (by omega)).2 (by assumption)
  simp [e]
 ·exact (decide_eq_false fun h=>absurd ((q3r (by omega)).1 h.1) (by assumption)).symm
 ·have e:l=[]:=List.length_eq_zero_iff.1 (by omega)
  subst e
  rfl
end Go.Proofs.YtmoklbacdkmkaaaGreatDoor
namespace Go.Proofs.YtmoklbacdkmkaaaGreatDoor
open Go Go.Pl
theorem qgs:(10:UInt8)∉q8:=by decide
theorem qs9 {l:qa} (h1:10∈l→(z8 (upto 10 l)).2.2=false) (h2:10∉l→xj l=false):ze l=(3,[],0):=by
 unfold ze
 by_cases h:10∈l
 ·rw [if_pos h,if_neg (by rw [h1 h];simp)]
 ·rw [if_neg h,if_neg (by rw [h2 h];simp)]
theorem zde (c:UInt8) (l:qa):upto c l <+: l:=by
 rw [← qfk c l]
 exact List.take_prefix _ _
theorem R1 {l:qa} (hl:l.length≤7) (h:l <+: q8):ze l=(2,[],0):=by
 have h10:10∉l:=qij h qgs
 unfold ze
 rw [if_neg h10,if_pos ?_]
 unfold xj
 by_cases hb:q8 <+: l
 ·rw [if_pos hb,h.eq_of_length_le hb.length_le];decide
 ·rw [if_neg hb];exact decide_eq_true h
theorem R2 {l:qa} (hl:l.length≤7) (h:¬ l <+: q8):ze l=(3,[],0):=by
 refine qs9 (fun h10=>decide_eq_false fun h'=>?_) (fun h10=>?_)
 ·have:=h'.1.length_le
  have:=qd7 h10
  have e:q8.length=7:=rfl
  omega
 ·unfold xj
  by_cases hb:q8 <+: l
  ·have:=hb.eq_of_length_le hl
   exact absurd (this▸List.prefix_refl _) h
  ·rw [if_neg hb];exact decide_eq_false h
theorem R3 {l:qa} (hl:7<l.length) (h:¬ q8 <+: l):ze l=(3,[],0):=by
 refine qs9 (fun h10=>decide_eq_false fun h'=>h (h'.1.trans (zde 10 l))) (fun h10=>?_)
 unfold xj
 rw [if_neg h]
 refine decide_eq_false fun h'=>?_
 have:=h'.length_le
 have e:q8.length=7:=rfl
 omega
theorem qju {n:Nat} {s r:qa} {c:UInt8} (hc:ye c=false) (h:s=Lib.itoa (n:Int)++c::r):s.takeWhile ye=Lib.itoa (n:Int):=by
 subst h
 have hd:=qqz n
 rw [List.takeWhile_append_of_pos (fun x hx=>by simp only [ye,decide_eq_true_eq];exact hd x hx),List.takeWhile_cons_of_neg (by simp [hc]),List.append_nil]
theorem qvi {p:UInt8→Bool} {l:qa}:l.takeWhile p=l↔∀ c∈l,p c=true:=by
 induction l with
 |nil=>simp
 |cons b l ih=>
  by_cases h:p b=true
  ·rw [List.takeWhile_cons_of_pos h];simp [ih,h]
  ·rw [List.takeWhile_cons_of_neg h];simp [h]
theorem zbe {n:Nat}:(Lib.itoa (n:Int)).takeWhile ye=Lib.itoa (n:Int):=by
 rw [qvi]
 intro x hx
 simp only [ye,decide_eq_true_eq]
 exact qqz n x hx
theorem qvc {p:UInt8→Bool} (s:qa):s.take (s.takeWhile p).length=s.takeWhile p:=by
 induction s with
 |nil=>rfl
 |cons b s ih=>
  by_cases h:p b=true
  ·rw [List.takeWhile_cons_of_pos h];simp [ih]
  ·rw [List.takeWhile_cons_of_neg h];rfl
theorem qnz {s:qa} (hs:s≠[]) (h:ze (q8++s)≠(3,[],0)):∃ n:Nat,1≤n∧n≤50000∧s.takeWhile ye=Lib.itoa (n:Int)∧(s=Lib.itoa (n:Int)∨2≤n∧∃ r,s=Lib.itoa (n:Int)++32::r∧(10∉r→r.length≤8∧wo r)∧(10∈r→(upto 10 r).length=8∧wo (upto 10 r))):=by
 have e10:10∈q8++s↔10∈s:=by simp [qgs]
 have ed:(q8++s).drop 7=s:=by rw [show (7:Nat)=q8.length by rfl,List.drop_left]
 by_cases h10:10∈s
 ·have ho:(z8 (upto 10 (q8++s))).2.2=true:=by
   cases hq:(z8 (upto 10 (q8++s))).2.2 with
   |true=>rfl
   |false=>exact absurd (qs9 (fun _=>hq) (fun h'=>absurd (e10.2 h10) h')) h
  have eu:upto 10 (q8++s)=q8++upto 10 s:=by
   conv=>lhs;rw [v7 h10,← List.append_assoc]
   exact vu _ (by simp [qgs,y7])
  rw [eu] at ho
  simp only [z8,decide_eq_true_eq,qib] at ho
  obtain⟨_,o2,o3,o4,o5⟩:=ho
  have hn:=qb1 (l:=upto 32 (upto 10 s)) rfl (by omega)
  have hle:=y8 (upto 32 (upto 10 s))
  generalize ke (upto 32 (upto 10 s))=n at *
  have e1:=v7 o2
  rw [hn] at e1
  have e2:=v7 h10
  generalize hf:past 32 (upto 10 s)=f at *
  have hf10:10∉f:=by
   have:=y7 10 s
   rw [e1] at this
   simp only [List.mem_append,List.mem_cons,not_or] at this
   exact this.2.2
  rw [e1,List.append_assoc,List.cons_append] at e2
  refine⟨n,by omega,hle,qju (by decide) e2,.inr ⟨o3,_,e2,fun h'=>absurd (by simp:(10:UInt8)∈f++10::past 10 s) h',fun _=>?_⟩⟩
  rw [vu _ hf10]
  exact⟨o4,o5⟩
 ·have ho:xj (q8++s)=true:=by
   cases hq:xj (q8++s) with
   |true=>rfl
   |false=>exact absurd (qs9 (fun h'=>absurd (e10.1 h') h10) (fun _=>hq)) h
  unfold xj at ho
  rw [if_pos (List.prefix_append _ _),ed] at ho
  obtain⟨o1,o2,o3,o4⟩:=of_decide_eq_true ho
  by_cases h32:32∈s
  ·have hn2:2≤ke (upto 32 s):=by
    rcases Nat.lt_or_ge (ke (upto 32 s)) 2 with h|h
    ·exact absurd ⟨h32,h⟩ o1
    ·exact h
   have hn:=qb1 (l:=upto 32 s) rfl (by omega)
   have hle:=y8 (upto 32 s)
   generalize ke (upto 32 s)=n at *
   have e1:=v7 h32
   rw [hn] at e1
   refine⟨n,by omega,hle,qju (by decide) e1,.inr ⟨hn2,_,e1,fun _=>⟨o3,o4⟩,fun h'=>absurd (e1▸by simp [h']:(10:UInt8)∈s) h10⟩⟩
  ·rw [ww h32] at o2
   have hpos:1≤ke s:=by
    rcases Nat.eq_zero_or_pos (ke s) with h|h
    ·exact absurd ⟨hs,h⟩ o2
    ·exact h
   have hn:=qb1 (l:=s) rfl hpos
   have hle:=y8 s
   generalize ke s=n at *
   subst hn
   exact⟨n,hpos,hle,zbe,.inl rfl⟩
theorem qzz {m n:Nat} (hm:m≤50000) (hn:n≤50000) (h:Lib.itoa (m:Int)=Lib.itoa (n:Int)):m=n:=by
 have:=congrArg numZ h
 rw [qfc (by omega) (by omega),qfc (by omega) (by omega)] at this
 simp at this
 omega
theorem q5x {n:Nat} (h:n≤50000):(Lib.itoa (n:Int)).length≤5:=by
 rw [qew,Lib.decDigits_length]
 exact qdw 4 n (by omega)
theorem R5 {s:qa} (hs:s≠[]) (h:∀ n:Nat,1≤n→n≤50000→s.takeWhile ye≠Lib.itoa (n:Int)):ze (q8++s)=(3,[],0):=by
 refine Classical.byContradiction fun hc=>?_
 obtain⟨n,h1,h2,h3,_⟩:=qnz hs hc
 exact h n h1 h2 h3
theorem R6 {n:Nat} (h1:1≤n) (h2:n≤50000):ze (q8++Lib.itoa (n:Int))=(2,[],0):=by
 have h32:32∉Lib.itoa (n:Int):=qdx n (by decide)
 have h10:10∉q8++Lib.itoa (n:Int):=by
  simp only [List.mem_append,not_or]
  exact⟨qgs,qdx n (by decide)⟩
 have ed:(q8++Lib.itoa (n:Int)).drop 7=Lib.itoa (n:Int):=by rw [show (7:Nat)=q8.length by rfl,List.drop_left]
 unfold ze
 rw [if_neg h10,if_pos ?_]
 unfold xj
 rw [if_pos (List.prefix_append _ _),ed,ww h32,qb8 h1 h2]
 have hp:past 32 (Lib.itoa (n:Int))=[]:=by unfold past;rw [ww h32];simp
 rw [hp]
 exact decide_eq_true ⟨fun h'=>h32 h'.1,fun h'=>by omega,by simp,by intro c hc;simp at hc⟩
theorem R7 {n:Nat} {c:UInt8} {r:qa} (h2:n≤50000) (hd:ye c=false) (h:c≠32∨n<2):ze (q8++(Lib.itoa (n:Int)++c::r))=(3,[],0):=by
 refine Classical.byContradiction fun hc=>?_
 obtain⟨m,m1,m2,m3,m4⟩:=qnz (by simp) hc
 rw [qju hd rfl] at m3
 have e:=qzz h2 m2 m3
 subst e
 rcases m4 with m4 | ⟨m4,r2,m5,_⟩
 ·have:=congrArg List.length m4
  simp at this
 ·rw [List.append_cancel_left_eq,List.cons.injEq] at m5
  rcases h with h|h
  ·exact h m5.1
  ·omega
theorem q35 {n:Nat} {r:qa} (h1:2≤n) (h2:n≤50000) (h:¬ ((10∉r→r.length≤8∧wo r)∧(10∈r→(upto 10 r).length=8∧wo (upto 10 r)))):ze (q8++(Lib.itoa (n:Int)++32::r))=(3,[],0):=by
 refine Classical.byContradiction fun hc=>?_
 obtain⟨m,m1,m2,m3,m4⟩:=qnz (by simp) hc
 rw [qju (by decide) rfl] at m3
 have e:=qzz h2 m2 m3
 subst e
 rcases m4 with m4 | ⟨m4,r2,m5,m6,m7⟩
 ·have:=congrArg List.length m4
  simp at this
 ·rw [List.append_cancel_left_eq,List.cons.injEq] at m5
  obtain⟨_,rfl⟩:=m5
  exact h ⟨m6,m7⟩
theorem qo0 (c:UInt8):qao c=true↔c∈hexL:=by
 have key:∀ i:Fin 256,qao (UInt8.ofNat i.val)=true↔UInt8.ofNat i.val∈hexL:=by decide +kernel
 have:=key ⟨c.toNat,UInt8.toNat_lt c⟩
 simpa using this
theorem zah {p:UInt8→Bool} {l:qa} (h:(l.takeWhile p).length=l.length):∀ c∈l,p c=true:=by
 have e:l.takeWhile p=l:=(List.takeWhile_prefix p).eq_of_length h
 rwa [qvi] at e
theorem R8 {n:Nat} {r:qa} (h1:2≤n) (h2:n≤50000) (h:((r.take 8).takeWhile qao).length=r.length):ze (q8++(Lib.itoa (n:Int)++32::r))=(2,[],0):=by
 have hle:((r.take 8).takeWhile qao).length≤(r.take 8).length:=(List.takeWhile_prefix qao).length_le
 have hl:r.length≤8:=by simp at hle;omega
 rw [List.take_of_length_le hl] at h
 have hx:wo r:=fun c hc=>(qo0 c).1 (zah h c hc)
 obtain⟨fig,f1,f2,f3⟩:=qtd r hl hx
 obtain⟨body,b1,b2⟩:=qfi h1 h2
 have R:qt4 n fig body:=⟨h1,h2,b1,b2,f1,f2⟩
 have hp:=qfa (n:=n) (fig:=fig) (body:=body) (l:=q8++(Lib.itoa (n:Int)++32::r)) (by
  unfold v8
  rw [List.prefix_append_right_inj,List.prefix_append_right_inj,List.cons_prefix_cons]
  exact⟨rfl,f3⟩)
 exact zfb R hp.1 hp.2
theorem zai {p:UInt8→Bool} {l m:qa} (hm:m <+: l) (h:∀ c∈m,p c=true):m.length≤(l.takeWhile p).length:=by
 obtain⟨r,rfl⟩:=hm
 rw [List.takeWhile_append_of_pos h]
 simp
theorem R9 {n:Nat} {r:qa} (h1:2≤n) (h2:n≤50000) (hne:((r.take 8).takeWhile qao).length≠r.length) (h:((r.take 8).takeWhile qao).length<8):ze (q8++(Lib.itoa (n:Int)++32::r))=(3,[],0):=by
 refine q35 h1 h2 fun ⟨g1,g2⟩=>?_
 by_cases h10:10∈r
 ·obtain⟨a,b⟩:=g2 h10
  have hp:upto 10 r <+: r.take 8:=by
   have e:r.take 8=upto 10 r:=by rw [← a,qfk]
   rw [e]
   exact List.prefix_refl _
  have:=zai (p:=qao) hp (fun c hc=>(qo0 c).2 (b c hc))
  omega
 ·obtain⟨a,b⟩:=g1 h10
  rw [List.take_of_length_le a] at hne
  have e:r.takeWhile qao=r:=by rw [qvi];exact fun c hc=>(qo0 c).2 (b c hc)
  exact hne (by rw [e])
theorem R10 {n:Nat} {r:qa} (h1:2≤n) (h2:n≤50000) (hl:8<r.length) (h:r.getD 8 0≠10):ze (q8++(Lib.itoa (n:Int)++32::r))=(3,[],0):=by
 refine q35 h1 h2 fun ⟨g1,g2⟩=>?_
 by_cases h10:10∈r
 ·obtain⟨a,b⟩:=g2 h10
  have e:=v7 h10
  apply h
  rw [e,List.getD,List.getElem?_append_right (by omega),a]
  rfl
 ·have:=(g1 h10).1
  omega
theorem R11 {n:Nat} {r:qa} (hl:8<r.length) (h:r.getD 8 0=10) (hx:((r.take 8).takeWhile qao).length=8) :
  q8++(Lib.itoa (n:Int)++32::r)=v8 n (r.take 8)++10::r.drop 9∧(r.take 8).length=8∧wo (r.take 8):=by
 have h8:(r.take 8).length=8:=by simp;omega
 refine⟨?_,h8,fun c hc=>(qo0 c).1 (zah (by rw [hx,h8]) c hc)⟩
 have e:r=r.take 8++10::r.drop 9:=by
  conv=>lhs;rw [← List.take_append_drop 8 r]
  rw [List.drop_eq_getElem_cons hl]
  congr 2
  simpa [List.getD,hl] using h
 unfold v8
 conv=>lhs;rw [e]
 simp
end Go.Proofs.YtmoklbacdkmkaaaGreatDoor
namespace Go.Proofs.YtmoklbacdkmkaaaGreatDoor
open Go Go.Av Go.RowKit Go.Proofs Go.Pl
structure qfn (l S:qa) (K n:Nat):Prop where
 hl:l=q8++S
 hK:(S.takeWhile ye).length=K
 hD:S.take K=Lib.itoa (n:Int)
 h1:1≤n
 h2:n≤50000
theorem qfn.split {l S:qa} {K n:Nat} (A:qfn l S K n) (h:K<S.length):S=Lib.itoa (n:Int)++S.getD K 0::S.drop (K+1)∧ye (S.getD K 0)=false:=by
 have e:S=S.take K++S.getD K 0::S.drop (K+1):=by
  conv=>lhs;rw [← List.take_append_drop K S]
  rw [List.drop_eq_getElem_cons h]
  congr 2
  simp [List.getD,h]
 refine⟨by rw [← A.hD];exact e,?_⟩
 cases hc:ye (S.getD K 0) with
 |false=>rfl
 |true=>
  have hp:S.take (K+1) <+: S:=List.take_prefix _ _
  have:=zai (p:=ye) hp (fun c hc'=>by
   rw [qbt h,List.mem_append,List.mem_singleton] at hc'
   rcases hc' with hc'|rfl
   ·rw [← A.hK,qvc] at hc'
    have ha:=List.all_takeWhile (p:=ye) (l:=S)
    rw [List.all_eq_true] at ha
    exact ha c hc'
   ·exact hc)
  rw [A.hK] at this
  simp at this
  omega
theorem qfn.l6 {l S:qa} {K n:Nat} (A:qfn l S K n) (h:K=S.length):ze l=(2,[],0):=by
 have e:S=Lib.itoa (n:Int):=by rw [← A.hD,h,List.take_length]
 rw [A.hl,e]
 exact R6 A.h1 A.h2
theorem qfn.l7 {l S:qa} {K n:Nat} (A:qfn l S K n) (h:K<S.length) (hc:S.getD K 0≠32∨n<2):ze l=(3,[],0):=by
 obtain⟨e,hd⟩:=A.split h
 rw [A.hl,e]
 exact R7 A.h2 hd hc
theorem qfn.at32 {l S R:qa} {K n:Nat} (A:qfn l S K n) (h:K<S.length) (hc:S.getD K 0=32) (hR:S.drop (K+1)=R):l=q8++(Lib.itoa (n:Int)++32::R):=by
 obtain⟨e,hd⟩:=A.split h
 rw [hc,hR] at e
 rw [A.hl,← e]
theorem qfn.l11 {l S R T:qa} {K n:Nat} (A:qfn l S K n) (h:K<S.length) (hc:S.getD K 0=32) (hR:S.drop (K+1)=R) (h2:2≤n) (hl:8<R.length) (h8:R.getD 8 0=10) (hx:((R.take 8).takeWhile qao).length=8) (hT:R.drop 9=T) :
  ze l=if T.length<n then (xq T ((n:Int) - T.length),[],0) else if yi (T.take n) then w6 (T.drop n) (T.take n) (R.take 8) (qc3 n) else (3,[],0):=by
 rw [A.at32 h hc hR]
 obtain⟨e,g1,g2⟩:=R11 (n:=n) hl h8 hx
 rw [e,hT]
 exact qtf _ h2 A.h2 g1 g2
theorem qi5 {l m:List UInt8} (st:List AObj) (hl:l.length<4294967281) (h:m <+: l):qo E 113 [Sv l,Sv m] st fun r st'=>r=Bv true∧st'=st:=by
 have:=qf1 l m st hl
 rw [decide_eq_true h] at this
 exact this
theorem q0x {l m:List UInt8} (st:List AObj) (hl:l.length<4294967281) (h:¬ m <+: l):qo E 113 [Sv l,Sv m] st fun r st'=>r=Bv false∧st'=st:=by
 have:=qf1 l m st hl
 rw [decide_eq_false h] at this
 exact this
set_option maxHeartbeats 4000000 in
theorem q6n (l:List UInt8) (st:List AObj) (hl:l.length<4294967281) (hb:l.length≤7∨¬ q8 <+: l):qo E 64 [Sv l] st fun r st'=>r = .tu [Iv (ze l).1,Sv (ze l).2.1,Iv (ze l).2.2]∧st'=st:=by
 refine qv (qbp _ _ _) (qp Tryz.func64 rfl (Nat.le_of_ble_eq_true rfl) ?_)
 by_cases h7:l.length≤7
 ·skip
  repeat' (first|apply qm|apply qe|apply qg|apply qj|apply qf|(apply qq;(iterate 3 exact rfl))|(apply qc;exact rfl;apply kz;exact cAo)|(apply qc;exact rfl;apply cd_d <;> intro h)|(apply zl;(iterate 3 exact rfl))|apply qu|apply qt|(apply qi;exact Tryz.call112;exact qlb l q8 _ (by decide)))
  all_goals refine qn rfl (xx rfl) ⟨qtz (?_:_=ze l),_,rfl⟩
  ·exact (R1 h7 (by assumption)).symm
  ·exact (R2 h7 (by assumption)).symm
 ·have hb2:¬ q8 <+: l:=hb.resolve_left h7
  repeat' (first|apply qm|apply qe|apply qg|apply qj|apply qf|(apply qq;(iterate 3 exact rfl))|(apply z6;exact rfl)|(apply qc;exact rfl;apply ku;exact cAo)|(apply qc;exact rfl;apply qjr;exact cRa)|(apply zl;(iterate 3 exact rfl))|apply qu|apply qt|(apply qi;exact Tryz.call113;exact q0x (m:=q8) _ hl hb2))
  all_goals refine qn rfl (xx rfl) ⟨qtz (?_:_=ze l),_,rfl⟩
  all_goals exact (R3 (by omega) hb2).symm
theorem qhk {l:List UInt8} {k:Nat} (st:List AObj) (hl:l.length<4294967281) (h:(l.takeWhile ye).length=k):qo E 114 [Sv l] st fun r st'=>r=Iv k∧st'=st:=by
 subst h
 exact q03 l st hl
theorem q9k {l:List UInt8} {k:Nat} (st:List AObj) (hl:l.length<4294967281) (h:((l.take 8).takeWhile qao).length=k):qo E 115 [Sv l] st fun r st'=>r=Iv k∧st'=st:=by
 subst h
 exact zct l st hl
theorem qvh {l b:List UInt8} {k n:Int} (h:ze l=(k,b,n)):AV.tu [Iv k,Sv b,Iv n] = .tu [Iv (ze l).1,Sv (ze l).2.1,Iv (ze l).2.2]:=by rw [h]
set_option maxHeartbeats 8000000 in
theorem q6o (l S:List UInt8) (K:Nat) (st:List AObj) (hl:l.length<4294967281) (h7:7<l.length) (hb:l=q8++S) (hK:(S.takeWhile ye).length=K) (hn:∀ n:Nat,1≤n→n≤50000→S.takeWhile ye≠Lib.itoa (n:Int)):qo E 64 [Sv l] st fun r st'=>r = .tu [Iv (ze l).1,Sv (ze l).2.1,Iv (ze l).2.2]∧st'=st:=by
 have hS:l.drop 7=S:=by rw [hb,show (7:Nat)=q8.length by rfl,List.drop_left]
 have hSl:S.length=l.length - 7:=by rw [← hS];simp
 have hbp:q8 <+: l:=⟨S,hb.symm⟩
 have hne:S≠[]:=fun e=>by rw [e] at hSl;simp at hSl;omega
 have hKle:K≤S.length:=hK▸(List.takeWhile_prefix ye).length_le
 have hD:S.take K=S.takeWhile ye:=by rw [← hK,qvc]
 have hr:ze l=(3,[],0):=hb▸R5 hne hn
 refine qv (qbp _ _ _) (qp Tryz.func64 rfl (Nat.le_of_ble_eq_true rfl) ?_)
 cases hz:numZ (S.take K) with
 |none=>
  repeat' (first|(apply qfo (n:=7) hS;(iterate 3 exact rfl);omega)|apply qm|apply qe|apply qg|apply qj|apply qf|(apply zf;exact rfl;exact rfl)|(apply qq;(iterate 3 exact rfl))|(apply z6;exact rfl)|(apply qw;(iterate 4 exact rfl))|(apply qbl;exact cRa)|(apply qar;exact cRa)|(apply qk;exact rfl;apply qh5;exact cRa)|(apply qk;exact rfl;apply pk_t;exact cRa)|(apply qc;exact rfl;apply ku;exact cAo)|(apply qc;exact rfl;apply qhv;exact cRa)|(apply qc;exact rfl;apply cd_t;exact cRa)|(apply qc;exact rfl;apply cd_d <;> intro h)|(apply zl;(iterate 3 exact rfl))|(apply qbd;(iterate 3 exact rfl);exact cAs)|apply qu|apply qt|(apply qi;exact Tryz.call113;exact qi5 (m:=q8) _ hl hbp)|(apply qi;exact Tryz.call114;exact qhk _ (by omega) hK)|(apply qi;exact Tryz.call106;exact qf2 _ _ (by simp;omega) hz))
  all_goals first
   |(exfalso;omega)
   |contradiction
   |exact qn rfl (xx rfl) ⟨qvh hr,_,rfl⟩
 |some v=>
  have hv:=qj7 hz
  have hv2:¬ (1≤v∧v≤50000):=fun h=>hn v.toNat (by omega) (by omega) (by rw [← hD,hv.1,Int.toNat_of_nonneg (by omega)])
  repeat' (first|(apply qfo (n:=7) hS;(iterate 3 exact rfl);omega)|apply qm|apply qe|apply qg|apply qj|apply qf|(apply zf;exact rfl;exact rfl)|(apply qq;(iterate 3 exact rfl))|(apply z6;exact rfl)|(apply qw;(iterate 4 exact rfl))|(apply vj;exact cAo)|(apply vo;exact cAo)|(apply qaq;exact cRa)|(apply jk <;> intro h)|(apply qk;exact rfl;apply wh;exact cAo)|(apply qk;exact rfl;apply wa;exact cAo)|(apply qk;exact rfl;apply qfz;exact cRa)|(apply qc;exact rfl;apply kz;exact cAo)|(apply qc;exact rfl;apply ku;exact cAo)|(apply qc;exact rfl;apply qhv;exact cRa)|(apply qc;exact rfl;apply cd_t;exact cRa)|(apply qc;exact rfl;apply cd_d <;> intro h)|(apply zl;(iterate 3 exact rfl))|(apply qbd;(iterate 3 exact rfl);exact cAs)|apply qu|apply qt|(apply qi;exact Tryz.call113;exact qi5 (m:=q8) _ hl hbp)|(apply qi;exact Tryz.call114;exact qhk _ (by omega) hK)|(apply qi;exact Tryz.call106;exact qdm _ v _ (by simp;omega) hz))
  all_goals first
   |(exfalso;omega)
   |contradiction
   |exact qn rfl (xx rfl) ⟨qvh hr,_,rfl⟩
theorem qux {T:qa} {lack:Int} (h1:sp true T=true) (h2:T.length=0→2≤lack) (h3:T.getLast? = some 10→2≤lack):xq T lack=2:=by
 unfold xq
 rw [qda]
 refine if_pos ⟨h1,?_⟩
 rintro⟨h|h,h'⟩
 ·have:=h2 (by rw [h];rfl)
  omega
 ·have:=h3 h
  omega
theorem q0q {T:qa} {lack:Int} (h:sp true T=false):xq T lack=3:=by
 unfold xq
 rw [qda]
 exact if_neg fun h'=>by rw [h] at h';simp at h'
theorem zcf {T:qa} {lack:Int} (h1:T.getLast? = some 10) (h2:lack<2):xq T lack=3:=by
 unfold xq
 exact if_neg fun h'=>h'.2 ⟨.inr h1,h2⟩
theorem q3v {T:qa} (h:T.length≠0):T.getLast? = some 10↔T.getD ((T.length:Int) - 1).toNat 0=10:=by
 have e:((T.length:Int) - 1).toNat=T.length - 1:=by omega
 rw [e,List.getLast?_eq_getElem?]
 simp [List.getD,show T.length - 1<T.length by omega]
theorem zd9 {U B f:qa} {z:Int} (h1:¬ U.length<(yl B.length).length) (h2:yl B.length <+: U) (h3:f=sumF B):w6 U B f z=(1,B,z):=by
 unfold w6
 rw [if_neg (fun h=>h1 h.1),if_pos ⟨h2,h3⟩]
theorem zea {U B f:qa} {z:Int} (h1:U.length<(yl B.length).length) (h2:U <+: yl B.length):w6 U B f z=(2,[],0):=by
 unfold w6
 rw [if_pos ⟨h1,h2⟩]
theorem qui {U B f:qa} {z:Int} (h1:¬ (U.length<(yl B.length).length∧U <+: yl B.length)) (h2:¬ (yl B.length <+: U∧f=sumF B)):w6 U B f z=(3,[],0):=by
 unfold w6
 rw [if_neg h1,if_neg h2]
set_option maxHeartbeats 16000000 in
theorem q6p (l S R T:List UInt8) (K H n:Nat) (st:List AObj) (hl:l.length<4294967281) (h7:7<l.length) (A:qfn l S K n) (hR:S.drop (K+1)=R) (hH:((R.take 8).takeWhile qao).length=H) (hT:R.drop 9=T):qo E 64 [Sv l] st fun r st'=>r = .tu [Iv (ze l).1,Sv (ze l).2.1,Iv (ze l).2.2]∧st'=st:=by
 have hb:=A.hl
 have hK:=A.hK
 have hn1:=A.h1
 have hn2:=A.h2
 have hS:l.drop 7=S:=by rw [hb,show (7:Nat)=q8.length by rfl,List.drop_left]
 have hSl:S.length=l.length - 7:=by rw [← hS];simp
 have hbp:q8 <+: l:=⟨S,hb.symm⟩
 have hKle:K≤S.length:=hK▸(List.takeWhile_prefix ye).length_le
 have hz:numZ (S.take K)=some (n:Int):=by rw [A.hD];exact qfc (by omega) (by omega)
 have hK5:K≤5:=by
  have h1:=q5x hn2
  have h2:=congrArg List.length A.hD
  simp at h2
  omega
 have hRl:R.length=S.length - (K+1):=by rw [← hR];simp
 have hH8:H≤8:=by
  have:=(List.takeWhile_prefix qao (l:=R.take 8)).length_le
  rw [hH] at this
  simp at this
  omega
 have hHR:H≤R.length:=by
  have:=(List.takeWhile_prefix qao (l:=R.take 8)).length_le
  rw [hH] at this
  simp at this
  omega
 have hTl:T.length=R.length - 9:=by rw [← hT];simp
 have hfl:(R.take 8).length≤8:=by simp;omega
 have hBl:(T.take n).length≤T.length:=by simp;omega
 have ht:=qa1 n
 have hi:=qdi n (by omega)
 refine qv (qbp _ _ _) (qp Tryz.func64 rfl (Nat.le_of_ble_eq_true rfl) ?_)
 repeat' (first|(apply qfo (n:=7) hS;(iterate 3 exact rfl);omega)|(apply qfo (n:=K+1) hR;(iterate 3 exact rfl);omega)|(apply qfo (n:=9) hT;(iterate 3 exact rfl);omega)|apply qm|apply qe|apply qg|apply qj|apply qf|(apply zf;exact rfl;exact rfl)|(apply qq;(iterate 3 exact rfl))|(apply jh;(iterate 3 exact rfl))|(apply z6;exact rfl)|(apply qw;(iterate 4 exact rfl))|(apply wu;exact cAo)|(apply vj;exact cAo)|(apply vo;exact cAo)|(apply xf;exact cAo)|(apply qay;(iterate 4 exact rfl))|(apply qaq;exact cRa)|(apply qbl;exact cRa)|(apply qhz <;> intro h)|(apply qbz;exact cRa)|(apply jk <;> intro h)|(apply qk;exact rfl;apply wh;exact cAo)|(apply qk;exact rfl;apply wa;exact cAo)|(apply qk;exact rfl;apply qh5;exact cRa)|(apply qk;exact rfl;apply qfz;exact cRa)|(apply qk;exact rfl;apply pk_t;exact cRa)|(apply qc;exact rfl;apply ku;exact cAo)|(apply qc;exact rfl;apply qhv;exact cRa)|(apply qc;exact rfl;apply cd_n <;> intro h)|(apply qc;exact rfl;apply cd_t;exact cRa)|(apply qc;exact rfl;apply cd_f;exact cRa)|(apply qc;exact rfl;apply cd_d <;> intro h)|(apply zl;(iterate 3 exact rfl))|(apply zh;exact rfl;exact rfl;exact qz (by omega) (by omega))|(apply xc;exact rfl;exact rfl;exact qz (by omega) (by omega))|(apply vr;(iterate 3 exact rfl);exact cAs)|(apply qbd;(iterate 3 exact rfl);exact cAs)|(apply qe3;(iterate 3 exact rfl);exact cAs)|apply qu|apply qt|(apply qgr;(iterate 3 exact rfl);omega;omega)|(apply qi;exact Tryz.call113;exact qi5 (l:=l) (m:=q8) _ hl hbp)|(apply qi;exact Tryz.call113;exact qf1 _ (yl n) _ (by simp;omega))|(apply qi;exact Tryz.call112;exact qlb _ (yl n) _ (by omega))|(apply qi;exact Tryz.call114;exact qhk _ (by omega) hK)|(apply qi;exact Tryz.call115;exact q9k _ (by omega) hH)|(apply qi;exact Tryz.call106;exact qdm _ n _ (by simp;omega) hz)|(apply qi;exact Tryz.call116;exact qtl _ _ (by omega))|(apply qi;exact Tryz.call117;exact q9j _ _ (by omega))|(apply qi;exact Tryz.call118;exact qp9 n (R.take 8) _ (by omega) (by omega))|(apply qi;exact Tryz.call120;exact zcu _ _ (by omega))|(apply qi;exact Tryz.call119;exact q9i _ _)|(apply qi;exact Tryz.call121;exact q20 _ _))
 all_goals
  refine qn rfl (xx rfl) ⟨qvh (?_:ze l=_),_,rfl⟩
  try simp only [Classical.not_not,qt0,qa4,decide_eq_true_eq,decide_eq_false_iff_not] at *
 ·exact A.l6 (by omega)
 ·exact A.l7 (by omega) (.inl (by assumption))
 ·exact A.l7 (by omega) (.inr (by omega))
 ·rw [A.at32 (by omega) (by assumption) hR]
  exact R8 (by omega) hn2 (by omega)
 ·rw [A.at32 (by omega) (by assumption) hR]
  exact R9 (by omega) hn2 (by omega) (by omega)
 ·rw [A.at32 (by omega) (by assumption) hR]
  exact R10 (by omega) hn2 (by omega) (by assumption)
 ·rw [A.l11 (by omega) (by assumption) hR (by omega) (by omega) (by assumption) (by omega) hT,if_pos (by omega),qux (by assumption) (by omega) (fun _=>by omega)]
 ·rw [A.l11 (by omega) (by assumption) hR (by omega) (by omega) (by assumption) (by omega) hT,if_pos (by omega),q0q (by assumption)]
 ·rw [A.l11 (by omega) (by assumption) hR (by omega) (by omega) (by assumption) (by omega) hT,if_pos (by omega),zcf ((q3v (by omega)).2 (by assumption)) (by omega)]
 ·rw [A.l11 (by omega) (by assumption) hR (by omega) (by omega) (by assumption) (by omega) hT,if_pos (by omega),qux (by assumption) (by omega) (fun _=>by omega)]
 ·rw [A.l11 (by omega) (by assumption) hR (by omega) (by omega) (by assumption) (by omega) hT,if_pos (by omega),qux (by assumption) (by omega) (fun h=>absurd ((q3v (by omega)).1 h) (by assumption))]
 ·rw [A.l11 (by omega) (by assumption) hR (by omega) (by omega) (by assumption) (by omega) hT,if_pos (by omega),q0q (by assumption)]
 all_goals have hBn:(T.take n).length=n:=by simp;omega
 ·rw [A.l11 (by omega) (by assumption) hR (by omega) (by omega) (by assumption) (by omega) hT,if_neg (by omega),if_neg (by assumption)]
 ·rw [A.l11 (by omega) (by assumption) hR (by omega) (by omega) (by assumption) (by omega) hT,if_neg (by omega),if_pos (by assumption)]
  exact zea (by rw [hBn];omega) (by rw [hBn];assumption)
 ·rw [A.l11 (by omega) (by assumption) hR (by omega) (by omega) (by assumption) (by omega) hT,if_neg (by omega),if_pos (by assumption)]
  exact qui (by rw [hBn];exact fun h=>absurd h.2 (by assumption)) (by rw [hBn];intro h;have:=h.1.length_le;omega)
 ·rw [A.l11 (by omega) (by assumption) hR (by omega) (by omega) (by assumption) (by omega) hT,if_neg (by omega),if_pos (by assumption)]
  exact qui (by rw [hBn];intro h;omega) (by rw [hBn];exact fun h=>absurd h.2.symm (by assumption))
 ·rw [A.l11 (by omega) (by assumption) hR (by omega) (by omega) (by assumption) (by omega) hT,if_neg (by omega),if_pos (by assumption)]
  exact zd9 (by rw [hBn];omega) (by rw [hBn];assumption) (by symm;assumption)
 ·rw [A.l11 (by omega) (by assumption) hR (by omega) (by omega) (by assumption) (by omega) hT,if_neg (by omega),if_pos (by assumption)]
  exact qui (by rw [hBn];intro h;omega) (by rw [hBn];exact fun h=>absurd h.1 (by assumption))
theorem q9n (l:List UInt8) (st:List AObj) (hl:l.length<4294967281):qo E 64 [Sv l] st fun r st'=>r = .tu [Iv (ze l).1,Sv (ze l).2.1,Iv (ze l).2.2]∧st'=st:=by
 by_cases hb:l.length≤7∨¬ q8 <+: l
 ·exact q6n l st hl hb
 have h7:7<l.length:=by omega
 have hbp:q8 <+: l:=Classical.not_not.1 fun h=>hb (.inr h)
 obtain⟨S,hS⟩:=hbp
 by_cases hn:∃ n:Nat,1≤n∧n≤50000∧S.takeWhile ye=Lib.itoa (n:Int)
 ·obtain⟨n,h1,h2,h3⟩:=hn
  exact q6p l S _ _ _ _ n st hl h7 ⟨hS.symm,rfl,by rw [qvc];exact h3,h1,h2⟩ rfl rfl rfl
 ·exact q6o l S _ st hl h7 hS.symm rfl (fun n h1 h2 h3=>hn ⟨n,h1,h2,h3⟩)
theorem q9e (l:List UInt8) (st:List AObj) (hl:l.length<4294967281) (hg:yi l):qo E 76 [Sv l] st fun r st'=>r = .tu [Sv (recF l),.v .nilIface]∧st'=st:=by
 have h:=zcr l st hl
 unfold qfe at h
 rw [if_pos hg] at h
 exact h
theorem q6f {b:List UInt8} (h:yi b):(recF b).length≤b.length+61∧1≤(recF b).length:=by
 have h1:=qdi b.length (by have:=h.2.1;omega)
 unfold recF
 simp only [List.length_append,qdg,qkv,qa1]
 omega
end Go.Proofs.YtmoklbacdkmkaaaGreatDoor
namespace Go.Av
open Go Go.RowKit
def StE (L:List (Nat×AV)) (st loc:List AObj) (s:AS):Prop:=∃ t ext,s=⟨puts t L,((st++loc)++ext)++[],[]⟩
theorem xv {t:Nat→AV} {L:List (Nat×AV)} {st loc loc' ext new:List AObj} (h:HasL t L) (e:loc'=loc):StE L st loc ⟨t,((st++loc')++ext)++new,[]⟩:=
 ⟨t,ext++new,by rw [qik h,e];simp⟩
theorem qce {t:Nat→AV} {L:List (Nat×AV)} {st loc st':List AObj} (h:HasL t L) (e:st'=st++loc):StE L st loc ⟨t,st',[]⟩:=
 ⟨t,[],by rw [qik h,e];simp⟩
theorem ya (st loc ext new:List AObj):∃ x,((st++loc)++ext)++new=st++x:=⟨loc++ext++new,by simp⟩
theorem qau {st loc ext new:List AObj} {k:Nat} {x:AObj} (h:loc[k]? = some x):(((st++loc)++ext)++new)[st.length+k]? = some x:=by
 have hk:=lt_of_getElem? h
 rw [List.append_assoc,List.append_assoc,List.getElem?_append_right (Nat.le_add_right _ _),Nat.add_sub_cancel_left,List.getElem?_append_left hk]
 exact h
theorem qd5 {st loc ext new:List AObj} {k:Nat} (x:AObj) (hk:k<loc.length):(((st++loc)++ext)++new).set (st.length+k) x=((st++loc.set k x)++ext)++new:=by
 rw [List.append_assoc,List.append_assoc,List.set_append_right _ _ (Nat.le_add_right _ _),Nat.add_sub_cancel_left,List.set_append_left _ _ hk]
 simp
theorem qkb {G:Gh} {sz:Nat} {xs:List AV} {tip:Option Nat} {v:Value} (h:Rel G (.sl sz xs tip) v):Rel G (.sl sz xs none) v:=by
 cases h with
 |sl0 _ _ base cap ht=>exact .sl0 sz none base cap (by simp)
 |sl _ _ _ b off cap pub hp hw hlen hr ht hcap=>exact .sl sz xs none b off cap pub hp hw hlen hr (fun t ht=>by simp at ht) hcap
theorem qbs {G:Gh} {sz:Nat} {v:Value} (h:Rel G zk v):Rel G (.sl sz [] none) v:=by
 cases h
 exact .sl0 sz none none 0 (by simp)
section
variable {E : Env} {rd : Option Nat} {N : Nat} {ops : Array Oper} {K : AS → Prop} {s : AS} {rest : List Oper} {d : Option Tmp} {T : TypeId} {p : String} {af : Array Edge}
theorem wr {fn:Func} {r r':AV} (h:ARes E fn s r) (hw:∀ (G:Gh) (v:Value),Rel G r v→Rel G r' v):ARes E fn s r':=
 ⟨fun B0 w0 G a w hL hI=>let ⟨v,h1,h2⟩:=h.run B0 w0 G a w hL hI;⟨v,h1,hw G v h2⟩⟩
theorem qr2 {fn:Func} {t:Tmp} {sz:Nat} {xs:List AV} {tip:Option Nat} (hr:fn.results = #[.tmp t]) (hx:ql fn.ntmps s (.tmp t) = .sl sz xs tip):ARes E fn s (.sl sz xs none):=
 wr (q6 hr) fun G v h=>by rw [hx] at h;exact qkb h
theorem qag {x y:Operand} {t u T':TypeId} {sz bytes k n m:Nat} {xs ys zs:List AV} {tip:Option Nat} {st loc ext new:List AObj} (hs:s.st=((st++loc)++ext)++new) (hx:ql N s x = .sl sz xs (some (st.length+k))) (hy:ql N s y = .sl sz ys tip) (ho:loc[k]? = some (.tip n sz T')) (hn:xs.length=n)
  (ht:E.P.underlying t=some (.slice T')) (hu:E.P.underlying u=some (.slice T')) (hT:x7 E.P T' sz bytes) (hone:jy (flat ys)=true) (hm:ys.length=m) (h63:n+m≤maxLen) (hb:(n+m) * bytes≤140737488355328) (hz:xs++ys=zs)
  (h:AOps E rd N ops rest K (AS.put ⟨s.t,((st++loc.set k (.tip (n+m) sz T'))++ext)++new,s.df⟩ d (.sl sz zs (some (st.length+k))))):AOps E rd N ops (⟨d,.call ⟨.builtin .append,#[x,y],#[t,u]⟩,T,p,af,none⟩::rest) K s:=by
 subst hz
 have hk:=lt_of_getElem? ho
 exact qpj hx hy (by rw [hs];exact qau ho) hn ht hu hT hone hm h63 hb (by rw [hs,qd5 _ hk];exact h)
theorem qm1 {x:Operand} {t:TypeId} {sz:Nat} {agg:Bool} {st loc ext new:List AObj} {k ver off:Nat} {T':TypeId} {cs:List AV} {r:AV} (hs:s.st=((st++loc)++ext)++new) (hx:ql N s x = .bx (st.length+k) ver off) (ho:loc[k]? = some (.cells ver T' cs)) (ht:tyOf E.P t=some (sz,agg)) (hr:jw sz agg off cs=some r)
  (h:AOps E rd N ops rest K (s.put d r)):AOps E rd N ops (⟨d,.load t x,T,p,af,none⟩::rest) K s:=
 kv hx (by rw [hs];exact qau ho) ht hr h
end
end Go.Av
namespace Go.Pl
open Go
def q5 (l:qa):List qa:=
 if h:10∈l then upto 10 l::q5 (past 10 l) else [l]
 termination_by l.length
 decreasing_by exact w9 (fun e=>by rw [e] at h;simp at h)
theorem yg {l:qa} (h:10∈l):q5 l=upto 10 l::q5 (past 10 l):=by rw [q5,dif_pos h]
theorem yh {l:qa} (h:10∉l):q5 l=[l]:=by rw [q5,dif_neg h]
theorem q4f:∀ (n:Nat) (l:qa),l.length≤n→Lib.splitK [10] 0 (Lib.count l [10]) l=q5 l
 |n,l,hn=>by
  by_cases h:10∈l
  ·have hi:=qsw 10 l h
   have hne:l≠[]:=fun e=>by rw [e] at h;simp at h
   have hlt:=w9 (c:=10) hne
   rw [yg h,Lib.count_hit (i:=(upto 10 l).length) (by simp) hi,Nat.add_comm,Lib.splitK]
   rw [if_neg (by rw [hi];simp),hi]
   cases n with
   |zero=>exact absurd (List.length_eq_zero_iff.1 (by omega)) hne
   |succ n=>
    have:=q4f n (past 10 l) (by omega)
    simp only [Int.toNat_natCast,Nat.add_zero,List.length_cons,List.length_nil,Nat.zero_add,qfk]
    rw [show List.drop ((upto 10 l).length+1) l=past 10 l from rfl,this]
  ·have hi:Lib.index l [10] = -1:=by
    have:=Lib.index_ge l [10]
    have h2:¬ 0≤Lib.index l [10]:=fun h'=>h ((qdh l 10).1 h')
    omega
   rw [yh h,Lib.count_miss hi]
   rfl
theorem qb4:∀ (n:Nat) (l:qa),l.length≤n→(q5 l).length≤l.length+1
 |n,l,hn=>by
  by_cases h:10∈l
  ·have hne:l≠[]:=fun e=>by rw [e] at h;simp at h
   have hlt:=w9 (c:=10) hne
   rw [yg h]
   cases n with
   |zero=>exact absurd (List.length_eq_zero_iff.1 (by omega)) hne
   |succ n=>
    have:=qb4 n (past 10 l) (by omega)
    simp only [List.length_cons]
    omega
  ·rw [yh h];simp
theorem qhh:∀ (n:Nat) (l:qa),l.length≤n→∀ x∈q5 l,x.length≤l.length∧10∉x
 |n,l,hn,x,hx=>by
  by_cases h:10∈l
  ·have hne:l≠[]:=fun e=>by rw [e] at h;simp at h
   have hlt:=w9 (c:=10) hne
   rw [yg h,List.mem_cons] at hx
   rcases hx with rfl|hx
   ·exact⟨ko 10 l,y7 10 l⟩
   ·cases n with
    |zero=>exact absurd (List.length_eq_zero_iff.1 (by omega)) hne
    |succ n=>
     have:=qhh n (past 10 l) (by omega) x hx
     exact⟨by omega,this.2⟩
  ·rw [yh h,List.mem_singleton] at hx
   subst hx
   exact⟨Nat.le_refl _,h⟩
end Go.Pl
namespace Go.Proofs.YtmoklbacdkmkaaaGreatDoor
open Go Go.Av Go.RowKit Go.Proofs Go.Pl
theorem qnc {f:FuncId} {st:List AObj} {args:List AV} {vals:Array Value} {xs:List qa} {T:TypeId} (ha:args=vals.toList.map .v) (hne:xs≠[])
  (h:∀ B0 w0 w,E.L B0 w0→Below B0 w0 w→Calls E.P f vals w fun e w'=>e = .returned (.slice (some ⟨w.heap.size,0,none⟩) xs.length xs.length)∧w'=w.alloc (.cells (xs.map fun l=>Value.string ⟨l.toArray⟩).toArray T)) :
  qo E f args st fun r st'=>r = .sl 1 (xs.map fun l=>Sv l) none∧st'=st:=by
 subst ha
 refine⟨fun B0 w0 G vs w hL hA hR=>?_⟩
 have hv:vs=vals:=by
  have hs:vs.size=vals.size:=by have:=hR.1;simpa using this.symm
  apply Array.ext hs
  intro i h1 h2
  have:=hR.2 i (.v vals[i]) vs[i] (by simp [h2]) (by simp [h1])
  generalize vs[i]=y at this
  cases this
  rfl
 subst hv
 refine (h B0 w0 w hL hA.below).mono ?_
 rintro e w' ⟨rfl,rfl⟩
 obtain⟨hle,hA'⟩:=hA.newPub T (xs.map fun l=>Value.string ⟨l.toArray⟩).toArray (0,0) (xs.map fun l=>Value.string ⟨l.toArray⟩) (fun i y hy=>by simpa using hy)
 refine⟨_,_,_,st,rfl,hle,hA',?_,rfl,rfl⟩
 have hfl:flat (xs.map fun l=>Sv l)=xs.map fun l=>Sv l:=by
  clear hne h hle hA'
  induction xs with
  |nil=>rfl
  |cons a xs ih=>rw [List.map_cons,qbj,ih];rfl
 have:=Rel.sl (G:=G.publish w.heap.size (xs.map fun l=>Value.string ⟨l.toArray⟩)) 1 (xs.map fun l=>Sv l) none w.heap.size 0 xs.length (xs.map fun l=>Value.string ⟨l.toArray⟩) (by simp [Gh.publish]) (fun x hx=>by
  simp only [List.mem_map] at hx
  obtain⟨l,_,rfl⟩:=hx
  rfl) (by rw [hfl];simp) (fun i x y h1 h2=>by
  rw [hfl,List.getElem?_map] at h1
  rw [Nat.zero_add,List.getElem?_map] at h2
  cases hx:xs[i]? with
  |none=>rw [hx] at h1;simp at h1
  |some l=>
   rw [hx] at h1 h2
   simp at h1 h2
   subst h1;subst h2
   exact .v _) (fun t ht=>by simp at ht) (by simp)
 simpa using this
theorem q9y (l:List UInt8) (st:List AObj) (hl:l.length<4294967281):qo E 154 [Sv l,Sv [10]] st fun r st'=>r = .sl 1 ((q5 l).map fun x=>Sv x) none∧st'=st:=by
 have hd:=Lib.splitB_data ⟨#[10]⟩ 0 (Lib.countB ⟨l.toArray⟩ ⟨#[10]⟩) ⟨l.toArray⟩
 have hs:Lib.splitK [10] 0 (Lib.count l [10]) l=q5 l:=q4f _ l (Nat.le_refl _)
 have hn:=Lib.splitB_all ⟨#[10]⟩ (by simp [ByteArray.size]) 0 _ ⟨l.toArray⟩ rfl
 have hd2:(Lib.splitB ⟨#[10]⟩ 0 (Lib.countB ⟨l.toArray⟩ ⟨#[10]⟩) ⟨l.toArray⟩).map (·.data.toList)=q5 l:=hd.trans hs
 have hlen:(q5 l).length=Lib.countB ⟨l.toArray⟩ ⟨#[10]⟩+1:=by rw [← hd2,List.length_map,hn]
 refine qnc (T:=9) (vals:= #[.string ⟨l.toArray⟩,.string ⟨#[10]⟩]) rfl (fun e=>by rw [e] at hlen;simp at hlen) fun _ _ w hL hb=>(Tryz.strings_Split_shaped ⟨l.toArray⟩ ⟨#[10]⟩ w (hL w hb).shaped (by simpa [ByteArray.size] using hl) (by simp [ByteArray.size])).mono fun e w' ⟨h1,h2⟩=>?_
 refine⟨by rw [h1,hlen],?_⟩
 rw [h2,← hd2,List.map_map]
 rfl
end Go.Proofs.YtmoklbacdkmkaaaGreatDoor
namespace Go.Av
open Go Go.RowKit
section
variable {E : Env} {N : Nat} {ops : Array Oper} {K : AS → Prop} {s : AS} {rest : List Oper} {d : Option Tmp} {T : TypeId} {p : String} {af : Array Edge}
theorem qr0 {x:Operand} {t:TypeId} {sz:Nat} {agg:Bool} {o ver off:Nat} {T':TypeId} {cs:List AV} {r:AV} (hx:ql N s x = .bx o ver off) (ho:s.st[o]? = some (.cells ver T' cs)) (ht:tyOf E.P t=some (sz,agg)) (hr:jw sz agg off cs=some r)
  (h:AQ E N ops rest K (s.put d r)):AQ E N ops (⟨d,.load t x,T,p,af,none⟩::rest) K s:=by
 refine qel rfl nofun fun B0 w0 G a w _ hI=>?_
 have he:=hI.eval_of hx
 generalize hv:a.eval x=v at he
 cases he with
 |bx _ _ _ b hn hv' hb=>
  obtain⟨_,h1,h2,h3,c,h4,h5,h6⟩:=hI.agree.ob o _ ho
  have hb:=hb h1
  subst hb
  have hlt:(G.ob o).blk<w.heap.size:=by
   rcases Nat.lt_or_ge (G.ob o).blk w.heap.size with h'|h'
   ·exact h'
   ·rw [Array.getElem?_eq_none h'] at h4;simp at h4
  -- the value is read out of the cells, whatever is drawn behind them
  have key:∀ w',Below w.heap.size w w'→∃ v,(loadVar t ⟨(G.ob o).blk,off,none⟩).run E.P w' = .ok v w'∧Rel G r v:=fun w' hw'=>by
   have h4':w'.heap[(G.ob o).blk]? = some (.cells c T' (0,0)):=by rw [hw'.block _ hlt];exact h4
   exact qav (w:=w') (G:=G) (b:=(G.ob o).blk) (off:=off) (off':=off) ht (fun i x hx hi=>by
    obtain⟨y,hy⟩:=we hx (Nat.le_of_eq h5)
    refine⟨y,?_,h6 i x y hx hy⟩
    simp [World.cell?,h4',show off+(i - off)=i by omega,hy]) hr
  have hsame:∀ w',Below w.heap.size w w'→∀ v,(loadVar t ⟨(G.ob o).blk,off,none⟩).run E.P w = .ok v w→(loadVar t ⟨(G.ob o).blk,off,none⟩).run E.P w' = .ok v w':=fun w' hw' v hr1=>by
   obtain⟨i1,i2⟩:=vc ht w
   obtain⟨j1,j2⟩:=vc ht w'
   have hc:∀ k,w'.cell? ⟨(G.ob o).blk,k,none⟩=w.cell? ⟨(G.ob o).blk,k,none⟩:=fun k=>by simp [World.cell?,hw'.block _ hlt]
   obtain⟨v',h1',_⟩:=key w' hw'
   rw [h1']
   congr 1
   cases agg with
   |false=>
    simp only [jw,cond_false] at hr
    obtain⟨y,hy⟩:=we hr (Nat.le_of_eq h5)
    have e1:w.cell? ⟨(G.ob o).blk,off,none⟩=some y:=by simp [World.cell?,h4,hy]
    have e2:w'.cell? ⟨(G.ob o).blk,off,none⟩=some y:=by rw [hc,e1]
    simp [loadVar,i2,run_load,e1] at hr1
    simp [loadVar,j2,run_load,e2] at h1'
    rw [← h1',hr1]
   |true=>
    simp only [jw,cond_true] at hr
    cases hb2:Nat.ble (off+sz) cs.length with
    |false=>rw [hb2] at hr;simp at hr
    |true=>
     have hle:off+sz≤cs.length:=Nat.le_of_ble_eq_true hb2
     have e1:∀ j,j<sz→w.cell? ⟨(G.ob o).blk,off+j,none⟩=some (c.getD (off+j) undef):=fun j hj=>by
      have:off+j<c.size:=by omega
      simp [World.cell?,h4,this]
     have e2:∀ j,j<sz→w'.cell? ⟨(G.ob o).blk,off+j,none⟩=some (c.getD (off+j) undef):=fun j hj=>by rw [hc,e1 j hj]
     have l1:=run_loadCells (P:=E.P) (w:=w) ⟨(G.ob o).blk,off,none⟩ sz (fun j=>c.getD (off+j) undef) (fun j hj=>by rw [Addr.add_lit];exact e1 j hj)
     have l2:=run_loadCells (P:=E.P) (w:=w') ⟨(G.ob o).blk,off,none⟩ sz (fun j=>c.getD (off+j) undef) (fun j hj=>by rw [Addr.add_lit];exact e2 j hj)
     simp [loadVar,i1,i2,l1] at hr1
     simp [loadVar,j1,j2,l2] at h1'
     rw [← h1',hr1]
  obtain⟨v,hrun,hR⟩:=key w (Below.refl _ _)
  exact⟨v,r,fun w' hw'=>by simp only [execOp,hv,Instr.loadAt,Instr.sureAddr];simp [hsame w' hw' v hrun],hR,h⟩
theorem qqh {f:FuncId} {xs:Array Operand} {ts:Array TypeId} {args:List AV} {r:AV} {v:Value} (hok:qxs E) (hrun:∀ vs w,(callFunc f vs).run E.P w = .ok (.enter f vs) w)
  (hxs:xs.toList.map (ql N s)=args) (hp:∀ x∈args,Pure x) (hs:Sure r v) (hpr:∀ G,Rel G r v) (hc:qo E f args [] fun a st1=>a=r∧st1=[])
  (h:AQ E N ops rest K (s.put d r)):AQ E N ops (⟨d,.call ⟨.value (.func f),xs,ts⟩,T,p,af,none⟩::rest) K s:=by
 refine⟨fun B0 w0 G a w hL hI Q hQ=>?_⟩
 refine⟨fun _ _ _ _=>trivial,?_⟩
 simp only [Region.wanted]
 refine⟨v,fun w' hw'=>?_,?_⟩
 ·have hr:(execOp a.eval ⟨d,.call ⟨.value (.func f),xs,ts⟩,T,p,af,none⟩).run E.P w' = .ok (.enter f (xs.map a.eval)) w':=by
   have he:a.eval (.func f) = .func (.func f) #[] #[]:=rfl
   generalize a.eval = ρ at he
   simp [execOp,resolve,Deferred.ofValue,he,invoke,hrun]
  have hrl:=qdn hI xs
  rw [hxs] at hrl
  unfold Oper.quietAtIn
  rw [hr]
  refine⟨rfl,fun h=>by simp [fw,Fence.wide] at h,qfs ?_⟩
  have hb:Below B0 w0 w':=hI.agree.below.trans (hw'.mono hI.agree.hB)
  have hB:B0≤w'.heap.size:=Nat.le_trans hI.agree.hB hw'.size
  have hA':=hI.agree.fresh hw'
  refine (hc.run w'.heap.size w' ⟨G.pub,G.ob,0⟩ (xs.map a.eval) w' (hok B0 w0 w' hL hb hB) ⟨Below.refl _ _,Nat.le_refl _,rfl,hA'.pub,nofun,nofun⟩ ⟨hrl.1,fun i x y hx hy=>?_⟩).mono ?_
  ·exact hp x (List.mem_of_getElem? hx) G _ y (fun b vs hb=>⟨[],by simpa using hb⟩) (hrl.2 i x y hx hy)
  ·rintro e w'' ⟨u,G',r',st',rfl,hG,hA,hR,rfl,rfl⟩
   rw [hs G' u hR]
   exact⟨rfl,hw'.trans (hA.below.mono hw'.size)⟩
 ·refine h.run B0 w0 G _ w hL (hI.put (.refl G) hI.agree d (hpr G)) Q fun s' a' hI' hst hK=>hQ s' a' hI' ?_ hK
  rw [hst]
  cases d <;> rfl
end
end Go.Av
namespace Go.Av
open Go Go.RowKit
section
variable {E : Env} {rd : Option Nat} {N : Nat} {ops : Array Oper} {K : AS → Prop} {s : AS} {rest : List Oper} {d : Option Tmp} {T : TypeId} {p : String} {af : Array Edge}
theorem qpm {x:Operand} {t:TypeId} {sz:Nat} {agg:Bool} {st loc:List AObj} {k ver off:Nat} {T':TypeId} {cs:List AV} {r:AV} (hs:s.st=st++loc) (hx:ql N s x = .bx (st.length+k) ver off) (ho:loc[k]? = some (.cells ver T' cs)) (ht:tyOf E.P t=some (sz,agg)) (hr:jw sz agg off cs=some r)
  (h:AQ E N ops rest K (s.put d r)):AQ E N ops (⟨d,.load t x,T,p,af,none⟩::rest) K s:=
 qr0 hx (by rw [hs];exact jl ho) ht hr h
end
end Go.Av
namespace Go.Proofs.YtmoklbacdkmkaaaGreatDoor
open Go Go.Av Go.RowKit Go.Proofs Go.Pl
structure qgp where
 kind:Int
 key:qa
 text:qa
 lo:Int
 hi:Int
abbrev FldV:=qa×qa
@[reducible] def fldA (f : FldV) : AV := .ag [Sv f.1, Sv f.2]
@[reducible] def jq (l : List FldV) : AV := .sl 2 (l.map fldA) none
def zdk (r:qgp):Prop:=1≤r.kind∧r.kind≤7∧(r.kind=6∨y6 r.key)
instance (r:qgp):Decidable (zdk r):=inferInstanceAs (Decidable (_∧_∧_))
def q4m (l:qa):List qa:=if l=[] then [] else q5 l
theorem q9b (xs:List qa):Pure (.sl 1 (xs.map fun x=>Sv x) none):=qa9 fun x hx=>by
 simp only [List.mem_map] at hx
 obtain⟨l,_,rfl⟩:=hx
 intro y hy
 simp [AV.cells] at hy
 subst hy
 exact qr _
def qpd (r:qgp) (n:Int):Prop:=r.lo≤n∧n≤r.hi
instance (r:qgp) (n:Int):Decidable (qpd r n):=inferInstanceAs (Decidable (_∧_))
def q34 (r:qgp) (l:qa):Prop:=∃ n,numZ l=some n∧qpd r n
instance (r:qgp) (l:qa):Decidable (q34 r l):=
 match h:numZ l with
 |some n=>decidable_of_iff (qpd r n) ⟨fun h'=>⟨n,h,h'⟩,fun ⟨m,h1,h2⟩=>by rw [h] at h1;cases h1;exact h2⟩
 |none=>.isFalse fun ⟨m,h1,_⟩=>by rw [h] at h1;cases h1
def zaa (r:qgp) (f:FldV):Prop:=
 (r.kind=3→f.1=r.key→q34 r f.2)∧(r.kind=4→f.1=r.key→f.2∈q4m r.text)∧(r.kind=5→f.1=r.key→qpd r f.2.length)∧(r.kind=6→f.1∈q4m r.text)
instance (r:qgp) (f:FldV):Decidable (zaa r f):=inferInstanceAs (Decidable (_∧_∧_∧_))
def zaj (key:qa) (xs:List FldV):List qa:=(xs.filter fun f=>f.1=key).map Prod.snd
def zd7 (r:qgp) (xs:List FldV):Prop:=zdk r∧((r.kind=1∧(zaj r.key xs).length=0)∨(r.kind=2∧1<(zaj r.key xs).length)∨(r.kind≠1∧r.kind≠2∧xs.any (fun f=> !decide (zaa r f))=true))
instance (r:qgp) (xs:List FldV):Decidable (zd7 r xs):=inferInstanceAs (Decidable (_∧(_∨_∨_)))
end Go.Proofs.YtmoklbacdkmkaaaGreatDoor
namespace Go.Av
open Go Go.RowKit Go.WideShapes Go.ChangeShapes Go.Deep
def RelK (G:Gh) (us:List AV) (cs:List Value):Prop:=us.length=cs.length∧∀ (i:Nat) (x:AV) (y:Value),us[i]? = some x→cs[i]? = some y→Rel G x y
theorem RelK.one {G:Gh} {a:AV} {v:Value} (h:RelK G [a] [v]):Rel G a v:=h.2 0 a v rfl rfl
def One (S:AV→Prop):Prop:=∀ a,S a→a.cells=[a]
end Go.Av
namespace Go.Proofs.YtmoklbacdkmkaaaGreatDoor
open Go Go.Av Go.RowKit Go.Proofs Go.Pl
theorem qks (l w:List UInt8) (st:List AObj):qo E 122 [Sv l,Sv w] st fun r st'=>r=Bv (decide (w <+: l))∧st'=st:=by
 refine qv (qr _) (qp Tryz.func122 rfl (Nat.le_of_ble_eq_true rfl) ?_)
 repeat' (first|apply qm|apply qe|apply qg|apply qj|apply qf|(apply qq;(iterate 3 exact rfl))|(apply jh;(iterate 3 exact rfl))|(apply qw;(iterate 4 exact rfl))|(apply wu;exact cAo)|(apply xf;exact cAo)|(apply jk <;> intro h)|(apply qk;exact rfl;apply wh;exact cAo)|(apply qk;exact rfl;apply wa;exact cAo)|(apply zl;(iterate 3 exact rfl))|(apply qbd;(iterate 3 exact rfl);exact cAs)|apply qt)
 all_goals refine qn rfl (q6 rfl) ⟨congrArg Bv (?_:(_:Bool)=_),_,rfl⟩
 ·have e:w <+: l↔l.take w.length=w:=by
   rw [List.prefix_iff_eq_take]
   exact⟨fun h=>h.symm,fun h=>h.symm⟩
  exact decide_eq_decide.2 e.symm
 ·refine (decide_eq_false fun h=>?_).symm
  have:=h.length_le
  omega
structure qs where
 kind:Int
 id:Int
 fields:List FldV
@[reducible] def jb (e : qs) : AV := .ag [Iv e.kind, Iv e.id, jq e.fields]
def yj (k:Int):qa:=if k=1 then [32,114,101,112,108,97,99,101,32] else if k=2 then [32,100,101,108,101,116,101,32] else if k=3 then [32,105,110,115,101,114,116,32] else []
def j9 (e:qs):qa:=if 1≤e.kind∧e.kind≤3 then yj e.kind++Lib.itoa e.id else []
theorem qw0 (e:qs) (st:List AObj) (h1 : -9223372036854775808≤e.id) (h2:e.id≤9223372036854775807):qo E 123 [jb e] st fun r st'=>r=Sv (j9 e)∧st'=st:=by
 refine qv (qr _) (qp Tryz.func123 rfl (Nat.le_of_ble_eq_true rfl) ?_)
 have hn:=Lib.itoa_length_le e.id h1 h2
 repeat' (first|apply qm|apply qe|apply qg|apply qf|(apply qq;(iterate 3 exact rfl))|(apply qc;exact rfl;apply cd_d <;> intro h)|(apply z7;exact rfl;exact rfl;exact cOs)|(apply qax;(iterate 4 exact rfl))|(apply zg;(iterate 3 exact rfl))|(apply jd;(iterate 5 exact rfl))|apply qu|apply qt|(apply qi;exact Tryz.call157;exact qer _ _ h1 h2))
 all_goals refine qn rfl (q6 rfl) ⟨congrArg (fun l:qa=>Sv l) (?_:_=j9 e),_,rfl⟩
 all_goals simp_all [j9,yj]
 all_goals omega
def qbx (k:Int):qa:=if k=1 then [114,101,112,108,97,99,101] else if k=2 then [100,101,108,101,116,101] else if k=3 then [105,110,115,101,114,116] else []
theorem qt2 (k:Int) (st:List AObj):qo E 191 [Iv k] st fun r st'=>r=Sv (qbx k)∧st'=st:=by
 refine qv (qr _) (qp Tryz.func191 rfl (Nat.le_of_ble_eq_true rfl) ?_)
 repeat' (first|apply qm|apply qx|apply qe|apply qg|apply qj|apply qf|(apply qq;(iterate 3 exact rfl))|(apply qc;exact rfl;apply cd_d <;> intro h)|apply qu|apply qt)
 all_goals refine qn rfl (q6 rfl) ⟨congrArg (fun l:qa=>Sv l) (?_:_=qbx k),_,rfl⟩
 all_goals simp_all [qbx]
theorem zam (k:Int):(qbx k).length≤7:=by
 unfold qbx
 repeat' split
 all_goals simp
theorem q2g (k:Int):yj k=if qbx k=[] then [] else [32]++qbx k++[32]:=by
 unfold yj qbx
 repeat' split
 all_goals simp_all
theorem zan (k:Int):qbx k=[]↔¬ (1≤k∧k≤3):=by
 unfold qbx
 repeat' split
 all_goals simp_all
 omega
theorem zgs (e:qs) (st:List AObj) (h1 : -9223372036854775808≤e.id) (h2:e.id≤9223372036854775807):qo E 137 [jb e] st fun r st'=>r=Sv (j9 e)∧st'=st:=by
 refine qv (qr _) (qp Tryz.func137 rfl (Nat.le_of_ble_eq_true rfl) ?_)
 have hn:=Lib.itoa_length_le e.id h1 h2
 have hw:=zam e.kind
 have ho:=q2g e.kind
 have hz:=zan e.kind
 repeat' (first|apply qm|apply qe|apply qg|apply qj|apply qf|(apply jh;(iterate 3 exact rfl))|(apply qc;exact rfl;apply cd_d <;> intro h)|(apply z7;exact rfl;exact rfl;exact cOs)|(apply qax;(iterate 4 exact rfl))|(apply zg;(iterate 3 exact rfl))|(apply jd;(iterate 5 exact rfl))|apply qu|apply qt|(apply qi;exact Tryz.call191;exact qt2 _ _)|(apply qi;exact Tryz.call155;exact qn5 _ _ h1 h2))
 all_goals refine qn rfl (q6 rfl) ⟨congrArg (fun l:qa=>Sv l) (?_:_=j9 e),_,rfl⟩
 all_goals unfold j9
 ·rw [if_neg (by simp_all)]
 ·rw [if_pos (by simp_all),ho,if_neg (by assumption)]
end Go.Proofs.YtmoklbacdkmkaaaGreatDoor
namespace Go.Av
open Go Go.RowKit
def noop (o:Oper):Oper:={ o with op:=.move (.const undef),guard:=none }
section
variable {F : Fence} {n : Nat} {P : Program} {ops ops' : Array Oper} {md : Region.Mode} {C : World → Prop} {Q : Exit → Act → World → Prop} {k : Nat} {o : Oper}
theorem qk7 {listed:Array Bool}:∀ k,listed.getD k true=false→∃ j,j≤k∧listed.getD j true=false∧∀ i,i<j→listed.getD i true=true:=by
 intro k
 induction k using Nat.strongRecOn with
 | _ k ih=>
  intro h
  by_cases hall:∀ i,i<k→listed.getD i true=true
  ·exact⟨k,Nat.le_refl _,h,hall⟩
  ·have ⟨i,hi⟩:=Classical.not_forall.1 hall
   have ⟨hi1,hi2⟩:=Classical.not_imp.1 hi
   obtain⟨j,h1,h2,h3⟩:=ih i hi1 (by simpa using hi2)
   exact⟨j,by omega,h2,h3⟩
theorem qxk {listed:Array Bool} {i:Nat} (h:listed.getD i true=true) (hi:i<listed.size):listed.getD i false=true:=by
 simp [Array.getD,hi] at h ⊢
 exact h
theorem q2f {listed:Array Bool} {i:Nat} (h:listed.getD i true=false) (h2:listed.getD i false=true):False:=by
 unfold Array.getD at h h2
 by_cases hi:i<listed.size
 ·rw [dif_pos hi] at h h2
  rw [h] at h2
  cases h2
 ·rw [dif_neg hi] at h
  cases h
theorem qp8 {listed:Array Bool} {j:Nat} (hsz:listed.size=ops.size) (hord:∀ (j:Nat) o,ops[j]? = some o→∀ e∈o.after,e.on<j) (hj:listed.getD j true=false) (hall:∀ i,i<j→listed.getD i true=true):j∈Region.ready md ops listed:=by
 have hlt:j<listed.size:=by
  rcases Nat.lt_or_ge j listed.size with h|h
  ·exact h
  ·simp [Array.getD,Nat.not_lt.2 h] at hj
 rw [mem_ready]
 have ho:ops[j]? = some ops[j]:=Array.getElem?_eq_getElem (by omega)
 exact⟨hj,_,ho,fun e he _=>qxk (hall _ (hord j _ ho e he)) (by have:=hord j _ ho e he;omega)⟩
theorem qmn {listed:Array Bool} (hs:ops.size=ops'.size) (hk:ops[k]? = some o) (hk':ops'[k]? = some (noop o)) (hoth:∀ j,j≠k→ops'[j]? = ops[j]?):Region.ready md ops' listed=Region.ready md ops listed:=by
 unfold Region.ready
 rw [hs]
 refine List.filter_congr fun i _=>?_
 by_cases h:i=k
 ·subst h;rw [hk,hk'];rfl
 ·rw [hoth i h]
theorem q1v (hd:o.dst=none) (hk:ops[k]? = some o) (hk':ops'[k]? = some (noop o)) (hoth:∀ j,j≠k→ops'[j]? = ops[j]?) (t:Array Value):yielded ops' t=yielded ops t:=by
 funext j
 unfold yielded
 by_cases h:j=k
 ·subst h;rw [hk,hk'];simp [noop,hd]
 ·rw [hoth j h]
theorem qow (hro:F.round=none) (hsz:ops.size=ops'.size) (hk:ops[k]? = some o) (hk':ops'[k]? = some (noop o)) (hoth:∀ j,j≠k→ops'[j]? = ops[j]?) (hd:o.dst=none)
  (hord:∀ (j:Nat) o,ops[j]? = some o→∀ e∈o.after,e.on<j) (hcov:∀ j,j<ops.size→j≠k→∃ e∈o.after,Region.binds md e=true∧e.on=j) :
  ∀ (fuel:Nat) (listed:Array Bool) (a:Act) (w:World),C w→listed.size=ops.size→listed.getD k true=false→wpAnyQIn F n P md ops' C (fun a=>∀ w,C w→wpOpIn F n P ops Q k (Q .normal) a w) fuel listed a→wpAnyIn F n P md ops Q fuel listed a w
 | 0,listed,a,w,hC,hs,hun,h=>by
  have ⟨j,_,h2,h3⟩:=qk7 k hun
  have:=qp8 (md:=md) hs hord h2 h3
  rw [← qmn hsz hk hk' hoth,h.1] at this
  cases this
 |fuel+1,listed,a,w,hC,hs,hun,h=>by
  obtain⟨hq1,hq2⟩:=h
  rw [qmn hsz hk hk' hoth] at hq1 hq2
  refine⟨fun h0=>?_,fun i hi=>?_⟩
  ·have ⟨j,_,h2,h3⟩:=qk7 k hun
   have:=qp8 (md:=md) hs hord h2 h3
   rw [h0] at this
   cases this
  ·have hqi:=hq2 i hi
   by_cases hik:i=k
   ·subst hik
    obtain⟨_,o',ho',hall⟩:=mem_ready.1 hi
    rw [hk] at ho'
    cases ho'
    have hr:Region.ready md ops (listed.setIfInBounds i true)=[]:=by
     rw [List.eq_nil_iff_forall_not_mem]
     intro j hj
     obtain⟨hju,oj,hoj,_⟩:=mem_ready.1 hj
     have hjs:j<ops.size:=by
      rcases Nat.lt_or_ge j ops.size with h|h
      ·exact h
      ·rw [Array.getElem?_eq_none h] at hoj;cases hoj
     by_cases hji:j=i
     ·subst hji
      simp [Array.getD,hs,hjs] at hju
     ·obtain⟨e,he,hb,heq⟩:=hcov j hjs hji
      have h5:=hall e he hb
      rw [heq] at h5
      rw [getD_set_ne true (Ne.symm hji)] at hju
      exact q2f hju h5
    unfold qOpIn at hqi
    rw [hk'] at hqi
    simp only at hqi
    have hqe:=hqi.2
    have hwn:Region.wanted (noop o) (yielded ops' a.tmps)=true:=by simp [noop,Region.wanted]
    rw [if_pos hwn] at hqe
    obtain⟨v,_,hK⟩:=hqe
    have hput:a.put (noop o).dst v=a:=by simp [noop,hd,Act.put]
    rw [hput] at hK
    have hQ':∀ w,C w→wpOpIn F n P ops Q i (Q .normal) a w:=by
     cases fuel with
     |zero=>exact hK.2
     |succ fuel=>exact hK.1 (by rw [qmn hsz hk hk' hoth];exact hr)
    exact wpOpIn_mono (fun a' w' h'=>wpAnyIn_done hr h' _) (hQ' w hC)
   ·have he:qOpIn F n P ops C i (wpAnyQIn F n P md ops' C (fun a=>∀ w,C w→wpOpIn F n P ops Q k (Q .normal) a w) fuel (listed.setIfInBounds i true)) a:=by
     unfold qOpIn at hqi ⊢
     rw [hoth i hik] at hqi
     rw [← q1v hd hk hk' hoth]
     exact hqi
    refine wpOpIn_of_qOpIn hro hC (fun a' w' hC' hX=>qow hro hsz hk hk' hoth hd hord hcov fuel _ a' w' hC' (by simpa using hs) ?_ hX) he
    rw [getD_set_ne true hik]
    exact hun
def qfj {α : Type}:List α→Option (List α×α)
 | []=>none
 | [x]=>some ([],x)
 |x::y::r=>match qfj (y::r) with
  |some (l,o)=>some (x::l,o)
  |none=>none
theorem qor {α : Type}:∀ {L l:List α} {o : α},qfj L=some (l,o)→L=l++[o]
 | [],_,_,h=>by simp [qfj] at h
 | [x],_,_,h=>by simp [qfj] at h;obtain⟨rfl,rfl⟩:=h;rfl
 |x::y::r,l,o,h=>by
  unfold qfj at h
  split at h
  ·rename_i l' o' he
   simp only [Option.some.injEq,Prod.mk.injEq] at h
   obtain⟨rfl,rfl⟩:=h
   rw [qor he]
   rfl
  ·simp at h
def q3l (o:Oper) (k:Nat):Bool:=(List.range k).all fun j=>o.after.toList.any fun e=>Region.binds .any e && Nat.beq e.on j
def q0m (ops:List Oper):Bool:=(List.range ops.length).all fun j=>match ops[j]? with|some o=>o.after.toList.all fun e=>Nat.blt e.on j|none=>true
end
section
variable {E : Env} {N : Nat} {s : AS}
theorem qvp {id:Nat} {L l:List Oper} {o:Oper} {Q:Exit→AS→Prop} (hsp:qfj L=some (l,o)) (hd:o.dst=none) (hcov:q3l o l.length=true) (hord:q0m L=true) (hm:E.P.follows .mixedOrders=true) (hB:Region.lexB .any (l++[noop o]).toArray=true)
  (h:AQ E N (l++[noop o]).toArray l (fun s'=>AOps E none N L.toArray [o] (Q .normal) s') s):AWp E none N (.region id L.toArray true) Q s:=by
 have hLe:=qor hsp
 subst hLe
 refine⟨fun B0 w0 G a w hL hI=>?_⟩
 have hB2:=hB
 simp only [Region.lexB,Bool.and_eq_true] at hB2
 have hk:(l++[o]).toArray[l.length]? = some o:=by simp
 have hk':(l++[noop o]).toArray[l.length]? = some (noop o):=by simp
 have hoth:∀ j,j≠l.length→(l++[noop o]).toArray[j]? = (l++[o]).toArray[j]?:=fun j hj=>by
  simp only [List.getElem?_toArray]
  rcases Nat.lt_or_ge j l.length with h|h
  ·rw [List.getElem?_append_left h,List.getElem?_append_left h]
  ·rw [List.getElem?_eq_none (by simp;omega),List.getElem?_eq_none (by simp;omega)]
 have hordP:∀ (j:Nat) o',(l++[o]).toArray[j]? = some o'→∀ e∈o'.after,e.on<j:=fun j o' hj e he=>by
  simp only [q0m,List.all_eq_true,List.mem_range] at hord
  simp only [List.getElem?_toArray] at hj
  have h1:=hord j (lt_of_getElem? hj)
  rw [hj] at h1
  simp only at h1
  have h2:=List.all_eq_true.1 h1 e (by simpa using he)
  exact Nat.le_of_ble_eq_true h2
 have hcovP:∀ j,j<(l++[o]).toArray.size→j≠l.length→∃ e∈o.after,Region.binds .any e=true∧e.on=j:=fun j hj hne=>by
  simp only [q3l,List.all_eq_true,List.mem_range] at hcov
  have h1:=hcov j (by simp at hj;omega)
  obtain⟨e,he,h2⟩:=List.any_eq_true.1 h1
  simp only [Bool.and_eq_true] at h2
  exact⟨e,by simpa using he,h2.1,Nat.eq_of_beq_eq_true h2.2⟩
 have hBl:Below w.heap.size w { w with drawn:=w.drawn+1 }:=⟨rfl,rfl,rfl,Nat.le_refl _,fun _ _=>rfl⟩
 refine wpIn_region_any hm (qow (C:=fun w'=>Below w.heap.size w w') (ops':=(l++[noop o]).toArray) (k:=l.length) rfl (by simp) hk hk' hoth hd hordP hcovP _ _ _ _ hBl (by simp) (by simp [Array.getD]) ?_)
 have hq:wpQuietIn (fw none) 0 E.P (l++[noop o]).toArray (fun w'=>Below w.heap.size w w') (fun a=>∀ w',Below w.heap.size w w'→wpOpIn (fw none) 0 E.P (l++[o]).toArray (fun e a' w'=>∃ (G':Gh) (s':AS),G.le G'∧Inv B0 w0 N G' s' a' w'∧Q e s') l.length (fun a' w'=>∃ (G':Gh) (s':AS),G.le G'∧Inv B0 w0 N G' s' a' w'∧Q .normal s') a w') (l++[noop o]) a:=by
  have step:∀ (l1:List Oper) (a:Act) (X:Act→Prop),wpQuietIn (fw none) 0 E.P (l++[noop o]).toArray (fun w'=>Below w.heap.size w w') X l1 a→wpQuietIn (fw none) 0 E.P (l++[noop o]).toArray (fun w'=>Below w.heap.size w w') X (l1++[noop o]) a:=by
   intro l1
   induction l1 with
   |nil=>
    intro a X hX
    refine⟨fun _ _ _ hf=>?_,?_⟩
    ·simp [Oper.about,noop] at hf
    ·have hwn:Region.wanted (noop o) (yielded (l++[noop o]).toArray a.tmps)=true:=by simp [noop,Region.wanted]
     rw [if_pos hwn]
     refine⟨undef,fun w' _=>?_,?_⟩
     ·unfold Oper.quietAtIn
      simp [noop,execOp,Oper.quietUponIn,Act.eval]
     ·have hput:a.put (noop o).dst undef=a:=by simp [noop,hd,Act.put]
      rw [hput]
      exact hX
   |cons o1 l1 ih=>
    intro a X hX
    refine⟨hX.1,?_⟩
    have h2:=hX.2
    split
    ·rename_i hw
     rw [if_pos hw] at h2
     obtain⟨v,h3,h4⟩:=h2
     exact⟨v,h3,ih _ _ h4⟩
    ·rename_i hw
     rw [if_neg hw] at h2
     exact ih _ _ h2
  refine step l a _ (h.run B0 w0 G a w hL hI _ fun s' a' hI' hst hks w' hw'=>?_)
  have hI2:Inv B0 w0 N G s' a' w':=⟨hI'.agree.fresh hw',hI'.defers,hI'.size,hI'.tmps⟩
  have hr:=hks.run B0 w0 G a' w' hL hI2 (fun e a' w'=>∃ (G':Gh) (s':AS),G.le G'∧Inv B0 w0 N G' s' a' w'∧Q e s') (fun G' s'' a'' w'' hG hI3 hQ=>⟨G',s'',hG,hI3,hQ⟩)
  unfold wpOpIn
  rw [hk]
  exact hr
 have:=wpAnyQIn_lex (F:=fw none) (n:=0) (C:=fun w'=>Below w.heap.size w w') (md:=.any) hB2.1 (l++[noop o]) 0 (Array.replicate (l++[noop o]).length false) a (by simp) (by simpa using hB2.2) hq
 simpa using this
variable {ops : Array Oper} {K : AS → Prop} {rest : List Oper} {d : Option Tmp} {T : TypeId} {p : String} {af : Array Edge}
theorem qjk {x y:Operand} {t t':TypeId} {m n:List UInt8} (hx:ql N s x=Sv m) (hy:ql N s y=Sv n) (hl:m.length+n.length<9223372036854775808)
  (h:AQ E N ops rest K (s.put d (Sv (m++n)))):AQ E N ops (⟨d,.binOp .add t x y t',T,p,af,none⟩::rest) K s:=
 qbe _ rfl nofun (fun a w he=>by
  simp only [execOp,he _ _ hx,he _ _ hy,eqGuard_at_string,binOp,Op.stringOp,qaw,qvn,IntKind.max_i64]
  rw [if_neg (by omega)]
  simp) h
theorem qni {x y:Operand} {t e:TypeId} {sz:Nat} {agg:Bool} {xs:List AV} {tip:Option Nat} {k:IntKind} {i:Int} {n:Nat} {z:AV} (hx:ql N s x = .sl sz xs tip) (hy:ql N s y = .v (.int k i)) (hu:E.P.underlying t=some (.slice e)) (ht:tyOf E.P e=some (sz,agg)) (hi:i=n) (hz:xs[n]? = some z)
  (h:AQ E N ops rest K (s.put d (.pp z.cells))):AQ E N ops (⟨d,.indexAddr t x y,T,p,af,none⟩::rest) K s:=by
 refine qel rfl nofun fun B0 w0 G a w _ hI=>?_
 subst hi
 have he:=hI.eval_of hx
 have hey:=hI.evalv hy
 generalize hv:a.eval x=v at he
 have hlt:=lt_of_getElem? hz
 cases he with
 |sl0=>simp at hz
 |sl _ _ _ b off cap pub hp hw hlen hrel htip hcap=>
  have hzs:z.cells.length=sz:=hw z (List.mem_of_getElem? hz)
  have hfl:=zr hw
  have hle:(n+1) * sz≤xs.length * sz:=Nat.mul_le_mul_right _ hlt
  rw [Nat.succ_mul] at hle
  refine⟨.pointer (some ⟨b,off+n * sz,none⟩),.pp z.cells,fun w' _=>?_,?_,h⟩
  ·generalize a.eval = ρ at hv hey
   simp only [execOp,hv,hey]
   simp [Instr.indexAt,asIntOf,run_underlying hu,hlt,(vc ht w').1,Addr.add_lit]
  ·refine .pp _ b _ pub hp (by omega) fun j q r h1 h2=>?_
   have hj:j<sz:=by have:=lt_of_getElem? h1;omega
   have hf:=ql1 hw hz j hj
   exact hrel (n * sz+j) q r (by rw [hf];exact h1) (by rw [← h2];congr 1;omega)
theorem qjm {x y:Operand} {t e:TypeId} {sz:Nat} {agg:Bool} {o ver off len cp:Nat} {k:IntKind} {i:Int} {n:Nat} (hx:ql N s x = .os o ver off len cp) (hy:ql N s y = .v (.int k i)) (hu:E.P.underlying t=some (.slice e)) (ht:tyOf E.P e=some (sz,agg)) (hi:i=n) (hn:n<len)
  (h:AQ E N ops rest K (s.put d (.bx o ver (off+n * sz)))):AQ E N ops (⟨d,.indexAddr t x y,T,p,af,none⟩::rest) K s:=by
 refine qel rfl nofun fun B0 w0 G a w _ hI=>?_
 subst hi
 have he:=hI.eval_of hx
 have hey:=hI.evalv hy
 generalize hv:a.eval x=v at he
 cases he with
 |os _ _ _ _ b cap hn' hver hb=>
  refine⟨.pointer (some ⟨b,off+n * sz,none⟩),_,fun w' _=>?_,.bx o ver _ b hn' hver hb,h⟩
  generalize a.eval = ρ at hv hey
  simp only [execOp,hv,hey]
  simp [Instr.indexAt,asIntOf,run_underlying hu,hn,(vc ht w').1,Addr.add_lit]
theorem qrz {t:TypeId} {x:Operand} {f off sz:Nat} {agg:Bool} {o ver q:Nat} (hx:ql N s x = .bx o ver q) (hf:qa6 E.P t f=some (off,sz,agg)) (hsz:Nat.beq sz 0=false)
  (h:AQ E N ops rest K (s.put d (.bx o ver (q+off)))):AQ E N ops (⟨d,.fieldAddr t x f,T,p,af,none⟩::rest) K s:=by
 refine qel rfl nofun fun B0 w0 G a w _ hI=>?_
 have he:=hI.eval_of hx
 generalize hv:a.eval x=v at he
 cases he with
 |bx _ _ _ b hn hv' hb=>
  have hs:sz≠0:=fun e=>by subst e;simp at hsz
  exact⟨_,_,fun w' _=>by simp only [execOp,hv];simp [qg0 hf hs],.bx o ver _ b hn hv' hb,h⟩
theorem qjl {t:TypeId} {x:Operand} {f off sz:Nat} {agg:Bool} {cs:List AV} (hx:ql N s x = .pp cs) (hf:qa6 E.P t f=some (off,sz,agg)) (hsz:Nat.beq sz 0=false) (hle:Nat.ble off cs.length=true)
  (h:AQ E N ops rest K (s.put d (.pp (cs.drop off)))):AQ E N ops (⟨d,.fieldAddr t x f,T,p,af,none⟩::rest) K s:=by
 refine qel rfl nofun fun B0 w0 G a w _ hI=>?_
 have he:=hI.eval_of hx
 generalize hv:a.eval x=v at he
 cases he with
 |pp _ b q pub hp hlen hrel=>
  have hs:sz≠0:=fun e=>by subst e;simp at hsz
  have ho:off≤cs.length:=Nat.le_of_ble_eq_true hle
  refine⟨.pointer (some ⟨b,q+off,none⟩),_,fun w' _=>by simp only [execOp,hv];simp [qg0 hf hs],?_,h⟩
  exact .pp _ b (q+off) pub hp (by simp;omega) fun i x y h1 h2=>hrel (off+i) x y (by simpa using h1) (by rw [← h2];congr 1;omega)
theorem qlp {x:Operand} {t:TypeId} {sz:Nat} {agg:Bool} {cs:List AV} {r:AV} (hx:ql N s x = .pp cs) (ht:tyOf E.P t=some (sz,agg)) (hr:jw sz agg 0 cs=some r)
  (h:AQ E N ops rest K (s.put d r)):AQ E N ops (⟨d,.load t x,T,p,af,none⟩::rest) K s:=by
 refine qel rfl nofun fun B0 w0 G a w _ hI=>?_
 have he:=hI.eval_of hx
 generalize hv:a.eval x=v at he
 cases he with
 |pp _ b off pub hp hlen hrel=>
  obtain⟨c,T',fz,hc,hcc⟩:=hI.agree.pub b pub hp
  have hlt:b<w.heap.size:=hI.agree.pub_lt hp
  have key:∀ w',Below w.heap.size w w'→∃ v,(loadVar t ⟨b,off,none⟩).run E.P w' = .ok v w'∧Rel G r v:=fun w' hw'=>by
   have h4':w'.heap[b]? = some (.cells c T' fz):=by rw [hw'.block _ hlt];exact hc
   exact qav (w:=w') (G:=G) (b:=b) (off:=off) ht (fun i x hx _=>by
    have hi:=lt_of_getElem? hx
    have hy:pub[off+i]? = some (pub[off+i]'(by omega)):=List.getElem?_eq_getElem (by omega)
    refine⟨_,?_,hrel i x _ hx hy⟩
    simp [World.cell?,h4',hcc _ _ hy]) hr
  have hg:∀ w',Below w.heap.size w w'→∀ j,j<cs.length→w'.cell? ⟨b,off+j,none⟩=some (pub.getD (off+j) undef):=fun w' hw' j hj=>by
   have h4':w'.heap[b]? = some (.cells c T' fz):=by rw [hw'.block _ hlt];exact hc
   have hlt2:off+j<pub.length:=by omega
   have hy:pub[off+j]? = some (pub.getD (off+j) undef):=by simp [List.getD,hlt2]
   simp [World.cell?,h4',hcc _ _ hy]
  have hsame:∀ w',Below w.heap.size w w'→∀ v,(loadVar t ⟨b,off,none⟩).run E.P w = .ok v w→(loadVar t ⟨b,off,none⟩).run E.P w' = .ok v w':=fun w' hw' v hr1=>by
   obtain⟨i1,i2⟩:=vc ht w
   obtain⟨j1,j2⟩:=vc ht w'
   obtain⟨v',h1',_⟩:=key w' hw'
   rw [h1']
   congr 1
   cases agg with
   |false=>
    simp only [jw,cond_false] at hr
    have h0:=lt_of_getElem? hr
    have e1:=hg w (Below.refl _ _) 0 h0
    have e2:=hg w' hw' 0 h0
    rw [Nat.add_zero] at e1 e2
    simp [loadVar,i2,run_load,e1] at hr1
    simp [loadVar,j2,run_load,e2] at h1'
    rw [← h1',hr1]
   |true=>
    simp only [jw,cond_true] at hr
    cases hb2:Nat.ble (0+sz) cs.length with
    |false=>rw [hb2] at hr;simp at hr
    |true=>
     have hle:0+sz≤cs.length:=Nat.le_of_ble_eq_true hb2
     have l1:=run_loadCells (P:=E.P) (w:=w) ⟨b,off,none⟩ sz (fun j=>pub.getD (off+j) undef) (fun j hj=>by rw [Addr.add_lit];exact hg w (Below.refl _ _) j (by omega))
     have l2:=run_loadCells (P:=E.P) (w:=w') ⟨b,off,none⟩ sz (fun j=>pub.getD (off+j) undef) (fun j hj=>by rw [Addr.add_lit];exact hg w' hw' j (by omega))
     simp [loadVar,i1,i2,l1] at hr1
     simp [loadVar,j1,j2,l2] at h1'
     rw [← h1',hr1]
  obtain⟨v,hrun,hR⟩:=key w (Below.refl _ _)
  exact⟨v,r,fun w' hw'=>by simp only [execOp,hv,Instr.loadAt,Instr.sureAddr];simp [hsame w' hw' v hrun],hR,h⟩
theorem q7c {x y:Operand} {t t':TypeId} {k:IntKind} {m n r:Int} (hx:ql N s x = .v (.int k m)) (hy:ql N s y = .v (.int k n)) (hr:k.wrap (m - n)=r)
  (h:AQ E N ops rest K (s.put d (.v (.int k r)))):AQ E N ops (⟨d,.binOp .sub t x y t',T,p,af,none⟩::rest) K s:=
 qbe _ rfl nofun (fun a w he=>by rw [← hr];simp [execOp,he _ _ hx,he _ _ hy,eqGuard_at_int,binOp,Op.intArith]) h
theorem q3h {x y z:Operand} {t:TypeId} {k k':IntKind} {l:List UInt8} {i j:Nat} (hx:ql N s x=Sv l) (hy:ql N s y = .v (.int k' (i:Int))) (hz:ql N s z = .v (.int k (j:Int))) (hu:E.P.underlying t=some .string) (h1:i≤j) (h2:j≤l.length)
  (h:AQ E N ops rest K (s.put d (Sv ((l.take j).drop i)))):AQ E N ops (⟨d,.slice t x (some y) (some z) none,T,p,af,none⟩::rest) K s:=
 qqi (i:=i) (j:=j) hx hu ⟨_,hy⟩ ⟨_,hz⟩ (by omega) (by omega) (by omega) (by simpa using h)
theorem q3f {x:Operand} {ts:Array TypeId} {t0 e:TypeId} {v:AV} {n:Nat} (hx:ql N s x=v) (hl:lenA v=some n) (ht:ts[0]? = some t0) (hu:E.P.underlying t0=some (.slice e))
  (h:AQ E N ops rest K (s.put d (Iv n))):AQ E N ops (⟨d,.call ⟨.builtin .len,#[x],ts⟩,T,p,af,none⟩::rest) K s:=by
 refine qel rfl nofun fun B0 w0 G a w _ hI=>?_
 have he:=hI.eval_of hx
 have key:∃ b c,a.eval x = .slice b n c:=by
  generalize a.eval x=u at he
  cases he <;> simp [lenA] at hl
  case v y=>
   cases u <;> simp at hl
   subst hl
   exact⟨_,_,rfl⟩
  case sl0=>subst hl;exact⟨_,_,rfl⟩
  case sl=>subst hl;exact⟨_,_,rfl⟩
  case os=>subst hl;exact⟨_,_,rfl⟩
 obtain⟨b,c,hv⟩:=key
 refine⟨.int .i64 n,Iv n,fun w' _=>?_,.v _,h⟩
 generalize a.eval = ρ at hv
 simp [execOp,resolve,invoke,builtin,Builtin.len_,hv,ht,run_underlying hu,goInt]
theorem qpn {x:Operand} {t:TypeId} {sz:Nat} {agg:Bool} {st loc ext new:List AObj} {k ver off:Nat} {T':TypeId} {cs:List AV} {r:AV} (hs:s.st=((st++loc)++ext)++new) (hx:ql N s x = .bx (st.length+k) ver off) (ho:loc[k]? = some (.cells ver T' cs)) (ht:tyOf E.P t=some (sz,agg)) (hr:jw sz agg off cs=some r)
  (h:AQ E N ops rest K (s.put d r)):AQ E N ops (⟨d,.load t x,T,p,af,none⟩::rest) K s:=
 qr0 hx (by rw [hs];exact qau ho) ht hr h
end
end Go.Av
namespace Go.Av
open Go Go.RowKit
section
variable {B0 : Nat} {w0 : World} {G : Gh} {st : List AObj} {w : World}
theorem zi.pubOb (h:zi B0 w0 G st w) {o ver:Nat} {T:TypeId} {cs:List AV} (ho:st[o]? = some (.cells ver T cs)) :
  ∃ vs:List Value,G.le (G.publish (G.ob o).blk vs)∧zi B0 w0 (G.publish (G.ob o).blk vs) (st.set o .dead) w∧(G.ob o).ver=ver∧(G.publish (G.ob o).blk vs).pub (G.ob o).blk=some vs∧cs.length=vs.length ∧
   ∀ (i:Nat) (x:AV) (y:Value),cs[i]? = some x→vs[i]? = some y→Rel (G.publish (G.ob o).blk vs) x y:=by
 obtain⟨h0,h1,h2,h3,c,h4,h5,h6⟩:=h.ob o _ ho
 have hle:G.le (G.publish (G.ob o).blk c.toList):=G.le_publish _ _ [] [] (.inl h3)
 refine⟨c.toList,hle,?_,h1,by simp [Gh.publish],by simpa using h5,fun i x y hx hy=>(h6 i x y hx (by simpa using hy)).mono hle⟩
 have key:∀ (k:Nat) (x:AObj),(st.set o .dead)[k]? = some x→x = .dead∨(k≠o∧st[k]? = some x):=fun k x hx=>by
  rcases getElem?_set' _ _ _ _ _ hx with⟨_,e⟩|e
  ·exact .inl e
  ·exact .inr e
 refine⟨h.below,h.hB,by simp [h.n,Gh.publish],fun b vs hb=>?_,fun k x hx=>?_,fun k k' x x' hne hx hx' hl hl'=>?_⟩
 ·simp only [Gh.publish] at hb
  by_cases e:b=(G.ob o).blk
  ·rw [if_pos e] at hb
   cases hb
   subst e
   exact⟨c,T,(0,0),h4,fun i y hy=>by simpa using hy⟩
  ·rw [if_neg e] at hb
   exact h.pub b vs hb
 ·rcases key k x hx with rfl | ⟨hk,hx⟩
  ·trivial
  ·refine (h.ob k x hx).mono hle rfl (fun hl=>?_) (fun _=>rfl)
   have:=h.sep k o x _ hk hx ho hl trivial
   simp [Gh.publish,this]
 ·rcases key k x hx with rfl | ⟨hk,hx⟩
  ·exact hl.elim
  ·rcases key k' x' hx' with rfl | ⟨hk',hx'⟩
   ·exact hl'.elim
   ·exact h.sep k k' x x' hne hx hx' hl hl'
end
section
variable {E : Env} {rd : Option Nat} {N : Nat} {ops : Array Oper} {K : AS → Prop} {s : AS} {rest : List Oper} {d : Option Tmp} {T : TypeId} {p : String} {af : Array Edge}
theorem Inv.pub {B0:Nat} {w0:World} {G:Gh} {a:Act} {w:World} (h:Inv B0 w0 N G s a w) {i o ver:Nat} {T':TypeId} {cs:List AV} (hi:s.t i = .bx o ver 0) (ho:s.st[o]? = some (.cells ver T' cs)) :
  ∃ G',G.le G'∧Inv B0 w0 N G' ⟨Av.put s.t i (.pp cs),s.st.set o .dead,s.df⟩ a w:=by
 obtain⟨vs,hle,hA,hv,hp,hl,hr⟩:=h.agree.pubOb ho
 refine⟨_,hle,hA,h.defers_mono hle,h.size,fun j y hy=>?_⟩
 have hj:=h.tmps j y hy
 by_cases e:j=i
 ·subst e
  simp only [wv]
  rw [hi] at hj
  cases hj with
  |bx _ _ _ b hn hv' hb=>
   have hb:=hb hv
   subst hb
   exact .pp cs _ 0 vs hp (by omega) fun k x y hx hy=>hr k x y hx (by simpa using hy)
 ·simp only
  rw [yw _ _ _ _ e]
  exact hj.mono hle
theorem qat {x y:Operand} {t:TypeId} {sz:Nat} {agg:Bool} {st loc loc' ext new:List AObj} {k ver off:Nat} {T':TypeId} {cs xs:List AV} {r:AV} (hs:s.st=((st++loc)++ext)++new) (hx:ql N s x = .bx (st.length+k) ver off) (hy:ql N s y=r) (ho:loc[k]? = some (.cells ver T' cs)) (ht:tyOf E.P t=some (sz,agg))
  (hok:r.okc=true) (hc:r.cells=xs) (hsz:Nat.beq xs.length sz=true) (h1:jy xs=true) (hfit:Nat.ble (off+sz) cs.length=true) (hl:loc'=loc.set k (.cells ver T' (zv cs off xs)))
  (h:AOps E rd N ops rest K (AS.put ⟨s.t,((st++loc')++ext)++new,s.df⟩ d (.v undef))):AOps E rd N ops (⟨d,.store t x y,T,p,af,none⟩::rest) K s:=by
 have hk:=lt_of_getElem? ho
 exact yo hx hy (by rw [hs];exact qau ho) ht hok hc hsz h1 hfit (by rw [hs,qd5 _ hk,← hl];exact h)
end
theorem y5 {α : Type} (l:List α) (a : α):(l++[a]).length=l.length+1:=by simp
theorem qc1 {α : Type} (l:List α) (a : α):Iv ((l.length:Int)+1)=Iv ((l++[a]).length:Nat):=by rw [y5];rfl
theorem qq1 {α : Type} (l:List α) (a : α):Iv ((l.length:Int)+1+1)=Iv (((l++[a]).length:Nat)+1):=by rw [y5];rfl
theorem qja {α : Type} {sz:Nat} {tip:Option Nat} (x0:AV) (g : α→AV) (pre:List α) (a : α) (v:AV) (h:v=g a):AV.sl sz ((x0::pre.map g)++[v]) tip=AV.sl sz (x0::(pre++[a]).map g) tip:=by rw [List.map_append,h];rfl
theorem q1x {E:Env} {rd:Option Nat} {N:Nat} {ops:Array Oper} {K:AS→Prop} {s:AS} {rest:List Oper} {d:Option Tmp} {T:TypeId} {p:String} {af:Array Edge} {t:TypeId} {st loc:List AObj} {cs:List AV} {n:Nat} (hst:s.st=st++loc) (hn:st.length=n) (hz:qif E.P t=some cs)
  (h:AOps E rd N ops rest K (AS.put ⟨s.t,st++(loc++[.cells 0 t cs]),s.df⟩ d (.bx (n+loc.length) 0 0))):AOps E rd N ops (⟨d,.alloc t,T,p,af,none⟩::rest) K s:=by
 subst hn
 exact jg hst hz h
theorem qrx {E:Env} {rd:Option Nat} {N:Nat} {ops:Array Oper} {K:AS→Prop} {s:AS} {rest:List Oper} {d:Option Tmp} {T:TypeId} {p:String} {af:Array Edge} {x y:Operand} {t:TypeId} {sz:Nat} {agg:Bool} {st loc ext new:List AObj} {k ver off:Nat} {T':TypeId} {cs xs:List AV} {r:AV} (hs:s.st=((st++loc)++ext)++new) (hx:ql N s x = .bx (st.length+k) ver off) (hy:ql N s y=r) (ho:loc[k]? = some (.cells ver T' cs)) (ht:tyOf E.P t=some (sz,agg))
  (hok:r.okc=true) (hc:r.cells=xs) (hsz:xs.length=sz) (h1:jy xs=true) (hfit:off+sz≤cs.length)
  (h:AOps E rd N ops rest K (AS.put ⟨s.t,((st++loc.set k (.cells ver T' (zv cs off xs)))++ext)++new,s.df⟩ d (.v undef))):AOps E rd N ops (⟨d,.store t x y,T,p,af,none⟩::rest) K s:=by
 have hk:=lt_of_getElem? ho
 exact qfr hx hy (by rw [hs];exact qau ho) ht hok hc hsz (by simpa [jy] using h1) hfit (by rw [hs,qd5 _ hk];exact h)
theorem yp {E:Env} {rd:Option Nat} {N:Nat} {c:Code} {Q:Exit→AS→Prop} {s:AS} {α : Type} (xs:List α) (I:List α→AS→Prop) (h0:I [] s) (hend:∀ s,I xs s→AWp E rd N c (qx4 (fun _=>False) Q) s)
  (hstep:∀ pre a rest s,xs=pre++a::rest→I pre s→AWp E rd N c (qx4 (fun s'=>I (pre++[a]) s') Q) s):AWp E rd N (.loop c) Q s:=by
 refine j5 (fun (x:List α×List α) s=>xs=x.1++x.2∧I x.1 s) (fun x=>x.2.length) ([],xs) ⟨rfl,h0⟩ ?_
 rintro⟨pre,rest⟩ s ⟨hx,hi⟩
 cases rest with
 |nil=>
  simp only [List.append_nil] at hx
  subst hx
  refine (hend s hi).mono fun e s' h=>?_
  cases e with
  |normal=>exact h.elim
  | _=>exact h
 |cons a rest=>
  refine (hstep pre a rest s hx hi).mono fun e s' h=>?_
  cases e with
  |normal=>exact⟨(pre++[a],rest),⟨by rw [hx];simp,h⟩,by simp⟩
  | _=>exact h
theorem qxe {E:Env} {fn:Func} {R:AV→List AObj→Prop} {s:AS} {st loc ext new:List AObj} {k:Nat} {ds:List Nat} (hs:s.st=((st++loc)++ext)++new) (hd:s.df=(st.length+k)::ds) (ho:loc[k]? = some .dfr) (h:ARet E fn R ⟨s.t,((st++loc.set k .dead)++ext)++new,ds⟩):ARet E fn R s:=
 qnj hd (by rw [hs];exact qau ho) (by rw [hs,qd5 _ (lt_of_getElem? ho)];exact h)
@[reducible] def q9r (F : LoopState → Option Code → AObj) (st : List AObj) (own : AObj) (I : List AObj → Prop) (D : Code → List AObj → Prop) : Exit → AS → Prop
 | .normal,s=>∃ l ext new,s.st=((st++(l++[.dfr,F .busy none,own]))++ext)++new∧I l
 | .ret,s=>∃ l ext new,s.st=((st++(l++[.dfr,F .busy none,own]))++ext)++new∧D .ret l
 | .exit id,s=>∃ l ext new,s.st=((st++(l++[.dfr,F .busy none,own]))++ext)++new∧D (.exit id) l
 | _,_=>False
theorem q13 {E:Env} {o:Nat} {xs:List AV} {st st':List AObj} {R:Bool→List AObj→Prop} (e:st=st') (h:yu E o xs st R):yu E o xs st' R:=e▸h
theorem qdf {st l ext:List AObj} {a b c:AObj} {n:Nat} (hl:l.length=n):(((st++(l++[a,b,c]))++ext))[st.length+(n+1)]? = some b:=by
 subst hl
 rw [List.append_assoc,List.append_assoc,List.getElem?_append_right (by omega),Nat.add_sub_cancel_left,List.getElem?_append_right (by omega)]
 simp
theorem qfh {st l ext:List AObj} {a b c y:AObj} {n:Nat} (hl:l.length=n):((st++(l++[a,b,c]))++ext).set (st.length+(n+1)) y=(st++(l++[a,y,c]))++ext:=by
 subst hl
 rw [List.append_assoc,List.append_assoc,List.set_append_right _ _ (by omega),Nat.add_sub_cancel_left,List.set_append_right _ _ (by omega)]
 simp
theorem za0 {E:Env} {N:Nat} {t:Nat→AV} {ps:Array Tmp} {asg body:Code} {st l ext:List AObj} {own:AObj} {n:Nat} {xs:List AV} {F:LoopState→Option Code→AObj} {I:List AObj→Prop} {D:Code→List AObj→Prop} (hF:qli F N t ps asg body) (hl:l.length=n) (hps:ps.size=xs.length)
  (hI:∀ l,I l→l.length=n) (hD:∀ c l,D c l→l.length=n)
  (h:∀ rd,AWp E (some rd) N asg (only fun s1=>∃ new,s1.st=((st++(l++[.dfr,F .ready none,own]))++ext)++new∧s1.df=[]∧AWp E (some rd) N body (q9r F st own I D) ⟨s1.t,((st++(l++[.dfr,F .busy none,own]))++ext)++new,[]⟩) ⟨qkd t (ps.toList.zip xs),((st++(l++[.dfr,F .ready none,own]))++ext)++[],[]⟩) :
  yu E (st.length+(n+1)) xs ((st++(l++[.dfr,F .ready none,own]))++ext) fun b st2=>∃ l' ext',(b=true→st2=(st++(l'++[.dfr,F .ready none,own]))++ext'∧I l')∧(b=false→∃ c,st2=(st++(l'++[.dfr,F .done (some c),own]))++ext'∧D c l'):=by
 refine qqk hF (qdf hl) hps fun rd=>?_
 have h:=h rd
 rw [List.append_nil] at h
 refine h.mono fun e s1 hq=>?_
 cases e with
 |normal=>
  obtain⟨new,h1,h2,h3⟩:=hq
  refine⟨by rw [h1,List.append_assoc];exact qdf hl,h2,?_⟩
  have e:s1.st.set (st.length+(n+1)) (F .busy none)=((st++(l++[.dfr,F .busy none,own]))++ext)++new:=by
   rw [h1,List.append_assoc,qfh hl,List.append_assoc _ ext]
  rw [e]
  refine h3.mono fun e s2 hq2=>?_
  cases e with
  |normal=>
   obtain⟨l',ext',new',k1,k2⟩:=hq2
   exact⟨by rw [k1,List.append_assoc];exact qdf (hI _ k2),l',ext'++new',fun _=>⟨by rw [k1,List.append_assoc,qfh (hI _ k2)],k2⟩,nofun⟩
  |ret=>
   obtain⟨l',ext',new',k1,k2⟩:=hq2
   exact⟨by rw [k1,List.append_assoc];exact qdf (hD _ _ k2),l',ext'++new',nofun,fun _=>⟨_,by rw [k1,List.append_assoc,qfh (hD _ _ k2)],k2⟩⟩
  |exit id=>
   obtain⟨l',ext',new',k1,k2⟩:=hq2
   exact⟨by rw [k1,List.append_assoc];exact qdf (hD _ _ k2),l',ext'++new',nofun,fun _=>⟨_,by rw [k1,List.append_assoc,qfh (hD _ _ k2)],k2⟩⟩
  | _=>exact hq2.elim
 | _=>exact hq.elim
end Go.Av
namespace Go.Pl
open Go Go.Proofs
abbrev Fld:=qa×qa
def qby (s:qa):Prop:=∀ c∈s,wd c
instance (s:qa):Decidable (qby s):=inferInstanceAs (Decidable (∀ c∈s,wd c))
def vh (s:qa):qa:=if qby s∨s.head? = some 46 then 46::s else s
def jm (key p:qa):qa:=key++[58]++if p=[] then [] else [32]++p
def zt (f:Fld):List qa:=jm f.1 ((q5 f.2).headD [])::(q5 f.2).tail.map fun s=>[32]++vh s
def zj (ls:List qa):qa:=ls.flatMap fun s=>s++[10]
def zo (xs:List Fld):qa:=xs.flatMap fun f=>zj (zt f)
def kw (f:Fld):Int:=if ¬ y6 f.1 then 5 else if 1000<f.2.length then 6 else 0
def jz (f:Fld):Prop:=y6 f.1∧f.2.length≤1000
instance (f:Fld):Decidable (jz f):=inferInstanceAs (Decidable (_∧_))
theorem qcz (f:Fld):kw f=0↔jz f:=by
 unfold kw jz
 by_cases h:y6 f.1
 ·by_cases h2:1000<f.2.length
  ·simp [h,h2]
  ·simp [h,h2];omega
 ·simp [h]
def kg (c:UInt8) (l:qa):qa:=if l.head? = some c then l.drop 1 else l
theorem qvg (c:UInt8) (l:qa):Lib.trimPrefix l [c]=kg c l:=by
 unfold Lib.trimPrefix kg
 rw [qm5]
 simp
def qbu (l:qa) (r:List qa):qa:=kg 32 (ju l)++r.flatMap fun s=>[10]++kg 46 (s.drop 1)
def qrk (ls:List qa):Prop:=ls≠[]∧qy (ls.headD [])=4∧∀ s∈ls.tail,qy s=3
instance (ls:List qa):Decidable (qrk ls):=inferInstanceAs (Decidable (_∧_∧_))
def zn (ls:List qa):Fld×Int:=
 if qrk ls then
  if 1000<(qbu (ls.headD []) ls.tail).length then (([],[]),6) else ((z4 (ls.headD []),qbu (ls.headD []) ls.tail),0)
 else (([],[]),2)
theorem qfy (l:qa):q5 l≠[]:=by
 by_cases h:10∈l
 ·rw [yg h];simp
 ·rw [yh h];simp
theorem qmj (l:qa):q5 l=(q5 l).headD []::(q5 l).tail:=by
 cases h:q5 l with
 |nil=>exact absurd h (qfy l)
 |cons a r=>rfl
theorem qh4:∀ (n:Nat) (l:qa),l.length≤n→(q5 l).headD []++(q5 l).tail.flatMap (fun s=>[10]++s)=l
 |n,l,hn=>by
  by_cases h:10∈l
  ·rw [yg h]
   have hne:l≠[]:=fun e=>by subst e;simp at h
   have hlt:=w9 (c:=10) hne
   cases n with
   |zero=>omega
   |succ n=>
    have ih:=qh4 n (past 10 l) (by omega)
    simp only [List.headD_cons,List.tail_cons]
    rw [qmj (past 10 l)]
    simp only [List.flatMap_cons]
    rw [List.append_assoc,ih]
    have:=v7 h
    simp [← this]
  ·rw [yh h];simp
theorem qdz (l:qa):∀ x∈q5 l,10∉x:=fun x hx=>(qhh l.length l (Nat.le_refl _) x hx).2
theorem qek (l:qa):∀ x∈q5 l,x.length≤l.length:=fun x hx=>(qhh l.length l (Nat.le_refl _) x hx).1
theorem qqv (l:qa):(q5 l).headD []∈q5 l:=by
 have h:=qfy l
 cases e:q5 l with
 |nil=>exact absurd e h
 |cons a r=>simp
theorem q3b (s:qa):kg 46 (vh s)=s:=by
 unfold vh kg
 by_cases h:qby s∨s.head? = some 46
 ·rw [if_pos h];simp
 ·rw [if_neg h,if_neg (fun h'=>h (.inr h'))]
theorem qu9 (s:qa):¬ qby (vh s):=by
 unfold vh
 by_cases h:qby s∨s.head? = some 46
 ·rw [if_pos h]
  intro h'
  have:=h' 46 (by simp)
  revert this;decide
 ·rw [if_neg h]
  exact fun h'=>h (.inl h')
theorem qtw {s:qa} (h:10∉s):10∉vh s:=by
 unfold vh
 split
 ·simp [h]
 ·exact h
theorem qot (s:qa):(vh s).length≤s.length+1:=by
 unfold vh
 split <;> simp
theorem qwh (s:qa) (h:10∉s):qy ([32]++vh s)=3:=by
 have hn:=qtw h
 have hb:=qu9 s
 unfold qy
 have h10:10∉([32]++vh s):=by simp [hn]
 rw [if_neg h10,if_neg (fun h'=>hb fun c hc=>h' c (by simp [hc])),if_neg (by simp),if_pos ⟨32,by simp,.inl rfl⟩]
theorem qkp {k r:qa} (h:58∉k):z4 (k++[58]++r)=k:=by
 unfold z4
 induction k with
 |nil=>simp
 |cons a k ih=>
  simp only [List.mem_cons,not_or] at h
  have:(58:UInt8)≠a:=h.1
  simp only [List.cons_append,List.takeWhile_cons]
  rw [if_pos (by simpa using fun e=>this e.symm)]
  rw [ih h.2]
theorem q1c {k r:qa} (h:58∉k):ju (k++[58]++r)=r:=by
 unfold ju
 rw [qkp h]
 rw [List.drop_append_of_le_length (by simp)]
 simp
theorem qj4 {k:qa} (h:y6 k):∃ c,k.head? = some c∧¬ wd c∧c≠35:=by
 obtain⟨h1,h2,h3,h4,h5,h6⟩:=h
 cases k with
 |nil=>exact absurd rfl h1
 |cons a r=>exact⟨a,rfl,fun hb=>h3 ⟨a,rfl,hb⟩,fun e=>h4 (by simp [e])⟩
theorem qwg {k p:qa} (h:y6 k) (hp:10∉p):qy (jm k p)=4:=by
 obtain⟨c,hc,hb,h35⟩:=qj4 h
 have hk10:10∉k:=h.2.2.2.2.2
 have hk58:58∉k:=h.2.2.2.2.1
 have hh:(jm k p).head? = some c:=by
  unfold jm
  cases k with
  |nil=>simp at hc
  |cons a r=>simpa using hc
 have e:jm k p=k++[58]++(if p=[] then [] else [32]++p):=rfl
 have h10:10∉jm k p:=by
  rw [e]
  split <;> simp [hk10,hp]
 have hmem:c∈jm k p:=List.mem_of_head? hh
 unfold qy
 rw [if_neg h10,if_neg (fun h'=>hb (h' c hmem)),if_neg (by rw [hh];simpa using h35),if_neg (fun ⟨d,hd,hd'⟩=>by rw [hh] at hd;cases hd;exact hb hd')]
 rw [if_pos]
 refine⟨by rw [e];simp,?_⟩
 rw [e,qkp hk58]
 exact h
theorem q8j (k p:qa) (h:58∉k):kg 32 (ju (jm k p))=p:=by
 unfold jm
 rw [q1c h]
 by_cases hp:p=[]
 ·rw [if_pos hp];simp [kg,hp]
 ·rw [if_neg hp];simp [kg]
theorem qm6 {f:Fld} (h:jz f):zn (zt f)=(f,0):=by
 obtain⟨hk,hv⟩:=h
 have hk58:58∉f.1:=hk.2.2.2.2.1
 have h10:=qdz f.2
 have hval:qbu (jm f.1 ((q5 f.2).headD [])) ((q5 f.2).tail.map fun s=>[32]++vh s)=f.2:=by
  unfold qbu
  rw [q8j _ _ hk58]
  have:((q5 f.2).tail.map fun s=>[32]++vh s).flatMap (fun s=>[10]++kg 46 (s.drop 1))=(q5 f.2).tail.flatMap (fun s=>[10]++s):=by
   rw [List.flatMap_map]
   congr 1
   funext s
   simp [q3b]
  rw [this,qh4 _ _ (Nat.le_refl _)]
 unfold zn zt
 rw [if_pos]
 ·simp only [List.headD_cons,List.tail_cons]
  refine (if_neg (by rw [hval];omega)).trans ?_
  have:z4 (jm f.1 ((q5 f.2).headD []))=f.1:=qkp hk58
  rw [this,hval]
 ·refine⟨by simp,?_,?_⟩
  ·simp only [List.headD_cons]
   exact qwg hk (h10 _ (qqv _))
  ·intro s hs
   simp only [List.tail_cons,List.mem_map] at hs
   obtain⟨x,hx,rfl⟩:=hs
   exact qwh x (h10 x (List.mem_of_mem_tail hx))
end Go.Pl
namespace Go.Av
open Go Go.RowKit
section
variable {E : Env} {rd : Option Nat} {N : Nat} {ops : Array Oper} {K : AS → Prop} {s : AS} {rest : List Oper} {d : Option Tmp} {T : TypeId} {p : String} {af : Array Edge}
theorem x4 {t e:TypeId} {len sz:Nat} {agg:Bool} {parts:Array (Nat×Operand)} {zs cs:List AV} {st loc:List AObj} (hst:s.st=st++loc) (hu:E.P.underlying t=some (.slice e)) (ht:tyOf E.P e=some (sz,agg)) (hz:qf6 E.P e len=some zs)
  (hf:qco (fun i=>some (i * sz,sz)) zs (v6 N s parts)=some cs) (hsz:Nat.ble (len * sz) 16777216=true)
  (h:AOps E rd N ops rest K (AS.put ⟨s.t,st++(loc++[.cells 0 e cs]),s.df⟩ d (.os (st.length+loc.length) 0 0 len len))):AOps E rd N ops (⟨d,.buildSlice t len parts,T,p,af,none⟩::rest) K s:=by
 refine zb rfl (za nofun fun B0 w0 G a w _ hI=>?_)
 obtain⟨c',hrun,h2⟩:=qkz (d:=d) (T:=T) (p:=p) (af:=af) hI hu ht hz hf hsz
 have hA:=hI.agree.newCells e c' cs h2.1 h2.2
 have hn:=hI.agree.n
 rw [hst] at hA hn
 simp only [List.append_assoc,List.length_append] at hA hn
 exact⟨_,_,_,_,_,hrun,G.le_new _ _ _ _,hA,.os _ _ _ _ _ _ (by simp [Gh.new,hn]) (Nat.zero_le _) (fun _=>by simp [Gh.new,hn]),h⟩
theorem zi.ownTip {B0:Nat} {w0:World} {G:Gh} {st:List AObj} {w:World} (h:zi B0 w0 G st w) {o sz len cap:Nat} {T:TypeId} {cs:List AV} {xs:List AV} (ho:st[o]? = some (.cells 0 T cs)) (hc:cs.length=cap * sz) (hlen:xs.length=len) (h0:0<len) (hle:len≤cap) (hcm:cap≤maxLen) (hw:∀ x∈xs,x.cells.length=sz) (hfl:flat xs=cs.take (len * sz)) :
  ∃ G',G.le G'∧zi B0 w0 G' (st.set o (.tip len sz T)) w∧Rel G' (.sl sz xs (some o)) (.slice (some ⟨(G.ob o).blk,0,none⟩) len cap):=by
 subst hlen
 have hon:=lt_of_getElem? ho
 obtain⟨g0,g1,g2,g3,c,g4,g5,g6⟩:=h.ob o _ ho
 have hle1:G.le (G.publish (G.ob o).blk (c.toList.take (xs.length * sz))):=G.le_publish _ _ [] [] (.inl g3)
 -- dead, published
 have key:∀ (k:Nat) (x:AObj),(st.set o .dead)[k]? = some x→x = .dead∨(k≠o∧st[k]? = some x):=fun k x hx=>by
  rcases getElem?_set' _ _ _ _ _ hx with⟨_,e⟩|e
  ·exact .inl e
  ·exact .inr e
 have hA1:zi B0 w0 (G.publish (G.ob o).blk (c.toList.take (xs.length * sz))) (st.set o .dead) w:=by
  refine⟨h.below,h.hB,by simp [h.n,Gh.publish],fun b vs hb=>?_,fun k x hx=>?_,fun k k' x x' hne hx hx' hl hl'=>?_⟩
  ·simp only [Gh.publish] at hb
   by_cases e:b=(G.ob o).blk
   ·rw [if_pos e] at hb
    cases hb
    subst e
    refine⟨c,T,(0,0),g4,fun i y hy=>?_⟩
    rw [List.getElem?_take] at hy
    split at hy
    ·simpa using hy
    ·simp at hy
   ·rw [if_neg e] at hb
    exact h.pub b vs hb
  ·rcases key k x hx with rfl | ⟨hk,hx⟩
   ·trivial
   ·refine (h.ob k x hx).mono hle1 rfl (fun hl=>?_) (fun _=>rfl)
    have:=h.sep k o x _ hk hx ho hl trivial
    simp [Gh.publish,this]
  ·rcases key k x hx with rfl | ⟨hk,hx⟩
   ·exact hl.elim
   ·rcases key k' x' hx' with rfl | ⟨hk',hx'⟩
    ·exact hl'.elim
    ·exact h.sep k k' x x' hne hx hx' hl hl'
 have hvl:(c.toList.take (xs.length * sz)).length=xs.length * sz:=by
  have:xs.length * sz≤cap * sz:=Nat.mul_le_mul_right _ hle
  simp
  omega
 obtain⟨hle2,hA2⟩:=hA1.setTip (t:=o) (n:=0) (n':=xs.length) (k:=(G.ob o).blk) (cap:=c.size) (sz:=sz) (T:=T) (c:=c) (vs:=c.toList.take (xs.length * sz)) (by simp [hon]) g0 g1 h0 g4 (by simp [Gh.publish]) hvl rfl g2 (fun k x hx hl=>by
  rcases key k x hx with rfl | ⟨hk,hx⟩
  ·exact hl.elim
  ·exact h.sep k o x _ hk hx ho hl trivial)
 rw [List.set_set] at hA2
 refine⟨_,hle1.trans hle2,hA2,?_⟩
 have hgn:o<G.n:=by rw [h.n];exact hon
 refine .sl sz xs (some o) (G.ob o).blk 0 cap (c.toList.take (xs.length * sz)) (by simp [Gh.setOb,Gh.publish]) hw (by rw [hfl,hvl];simp;omega) (fun i x y h1 h2=>?_) (fun t ht=>?_) (by omega)
 ·rw [hfl] at h1
  rw [Nat.zero_add] at h2
  rw [List.getElem?_take] at h1 h2
  split at h1
  ·rename_i hi
   rw [if_pos hi] at h2
   exact ((g6 i x y h1 (by simpa using h2)).mono hle1).mono hle2
  ·simp at h1
 ·simp only [Option.some.injEq] at ht
  subst ht
  refine⟨by simpa [Gh.setOb,Gh.publish] using hgn,by omega,by simp [Gh.setOb],fun _=>⟨by simp [Gh.setOb],rfl,by simp [Gh.setOb,← g5,hc],hcm,by omega⟩⟩
theorem Inv.osTip {B0:Nat} {w0:World} {G:Gh} {a:Act} {w:World} (h:Inv B0 w0 N G s a w) {i o sz len cap:Nat} {T':TypeId} {cs xs:List AV} (hi:s.t i = .os o 0 0 len cap) (ho:s.st[o]? = some (.cells 0 T' cs)) (hc:cs.length=cap * sz) (hlen:xs.length=len) (h0:0<len) (hle:len≤cap) (hcm:cap≤maxLen) (hw:∀ x∈xs,x.cells.length=sz) (hfl:flat xs=cs.take (len * sz)) :
  ∃ G',G.le G'∧Inv B0 w0 N G' ⟨Av.put s.t i (.sl sz xs (some o)),s.st.set o (.tip len sz T'),s.df⟩ a w:=by
 obtain⟨G',hG,hA,hR⟩:=h.agree.ownTip ho hc hlen h0 hle hcm hw hfl
 obtain⟨_,g1,_⟩:=h.agree.ob o _ ho
 refine⟨G',hG,hA,h.defers_mono hG,h.size,fun j y hy=>?_⟩
 have hj:=h.tmps j y hy
 by_cases e:j=i
 ·subst e
  simp only [wv]
  rw [hi] at hj
  cases hj with
  |os _ _ _ _ b _ hn hv hb=>
   have hb:=hb g1
   subst hb
   exact hR
 ·simp only
  rw [yw _ _ _ _ e]
  exact hj.mono hG
theorem qnl {c:Code} {Q:Exit→AS→Prop} (i:Nat) {o sz len cap:Nat} {T':TypeId} {cs xs:List AV} (hi:s.t i = .os o 0 0 len cap) (ho:s.st[o]? = some (.cells 0 T' cs)) (hc:cs.length=cap * sz) (hlen:xs.length=len) (h0:0<len) (hle:len≤cap) (hcm:cap≤maxLen) (hw:∀ x∈xs,x.cells.length=sz) (hfl:flat xs=cs.take (len * sz))
  (h:AWp E rd N c Q ⟨Av.put s.t i (.sl sz xs (some o)),s.st.set o (.tip len sz T'),s.df⟩):AWp E rd N c Q s:=
 ⟨fun B0 w0 G a w hL hI=>let ⟨G1,h1,h2⟩:=hI.osTip hi ho hc hlen h0 hle hcm hw hfl;wpIn_mono (h.run B0 w0 _ a w hL h2) fun _ _ _ ⟨G',s',hG,k1,k2⟩=>⟨G',s',h1.trans hG,k1,k2⟩⟩
theorem q4x {l:List Oper} (i:Nat) {o sz len cap:Nat} {T':TypeId} {cs xs:List AV} (hi:s.t i = .os o 0 0 len cap) (ho:s.st[o]? = some (.cells 0 T' cs)) (hc:cs.length=cap * sz) (hlen:xs.length=len) (h0:0<len) (hle:len≤cap) (hcm:cap≤maxLen) (hw:∀ x∈xs,x.cells.length=sz) (hfl:flat xs=cs.take (len * sz))
  (h:AOps E rd N ops l K ⟨Av.put s.t i (.sl sz xs (some o)),s.st.set o (.tip len sz T'),s.df⟩):AOps E rd N ops l K s:=
 ⟨fun B0 w0 G a w hL hI Q hQ=>let ⟨G1,h1,h2⟩:=hI.osTip hi ho hc hlen h0 hle hcm hw hfl;h.run B0 w0 _ a w hL h2 Q fun G' s' a' w' hG k1 k2=>hQ G' s' a' w' (h1.trans hG) k1 k2⟩
theorem Inv.osPub {B0:Nat} {w0:World} {G:Gh} {a:Act} {w:World} (h:Inv B0 w0 N G s a w) {i o ver off sz len cap:Nat} {T':TypeId} {cs xs:List AV} (hi:s.t i = .os o ver off len cap) (ho:s.st[o]? = some (.cells ver T' cs)) (hlen:xs.length=len) (hle:len≤cap) (hw:∀ x∈xs,x.cells.length=sz) (hin:off+len * sz≤cs.length) (hfl:flat xs=(cs.drop off).take (len * sz)) :
  ∃ G',G.le G'∧Inv B0 w0 N G' ⟨Av.put s.t i (.sl sz xs none),s.st.set o .dead,s.df⟩ a w:=by
 obtain⟨vs,hle1,hA,hv,hp,hl,hr⟩:=h.agree.pubOb ho
 refine⟨_,hle1,hA,h.defers_mono hle1,h.size,fun j y hy=>?_⟩
 have hj:=h.tmps j y hy
 by_cases e:j=i
 ·subst e
  simp only [wv]
  rw [hi] at hj
  cases hj with
  |os _ _ _ _ b _ hn hv' hb=>
   have hb:=hb hv
   subst hb
   rw [← hlen]
   refine .sl sz xs none _ off cap vs hp hw (by rw [hfl];simp;omega) (fun k x y hx hy=>?_) (fun t ht=>by simp at ht) (by omega)
   rw [hfl,List.getElem?_take] at hx
   split at hx
   ·rw [List.getElem?_drop] at hx
    exact hr _ x y hx hy
   ·simp at hx
 ·simp only
  rw [yw _ _ _ _ e]
  exact hj.mono hle1
theorem q7a {l:List Oper} (i:Nat) {x r:AV} (hi:s.t i=x) (hw:∀ G v,Rel G x v→Rel G r v) (h:AOps E rd N ops l K ⟨Av.put s.t i r,s.st,s.df⟩):AOps E rd N ops l K s:=
 ⟨fun B0 w0 G a w hL hI Q hQ=>h.run B0 w0 G a w hL ⟨hI.agree,hI.defers,hI.size,fun j y hy=>by
  have hj:=hI.tmps j y hy
  by_cases e:j=i
  ·subst e;simp only [wv];rw [hi] at hj;exact hw G y hj
  ·simp only;rw [yw _ _ _ _ e];exact hj⟩ Q hQ⟩
theorem qts {P:Program} {t e:TypeId} {sz:Nat} {agg:Bool} (hu:P.underlying t=some (.slice e)) (ht:tyOf P e=some (sz,agg)) (a:Option Addr) (len cap:Nat) (lo hi:Option Value) (i j:Nat) (w:World)
  (hlo:match lo with|none=>i=0|some v=>∃ k,v = .int k (i:Int)) (hhi:match hi with|none=>j=len|some v=>(∃ k,v = .int k (j:Int))∧j≤cap) (h1:i≤j) :
  (Instr.slice t (.slice a len cap) lo hi none).run P w = .ok (.slice (if cap=i then a else a.map (·.add (i * sz))) (j - i) (cap - i)) w:=by
 have hs:=(vc ht w).1
 cases lo with
 |none=>
  simp only at hlo
  subst hlo
  cases hi with
  |none=>
   simp only at hhi
   subst hhi
   simp [Instr.slice,run_underlying hu,Instr.sliceBounds,hs]
  |some v=>
   obtain⟨⟨k,rfl⟩,h2⟩:=hhi
   simp [Instr.slice,run_underlying hu,Instr.sliceBounds,Instr.sliceBound,asIntOf,hs,h2]
 |some u=>
  obtain⟨k',rfl⟩:=hlo
  cases hi with
  |none=>
   simp only at hhi
   subst hhi
   simp [Instr.slice,run_underlying hu,Instr.sliceBounds,Instr.sliceBound,asIntOf,hs,h1]
  |some v=>
   obtain⟨⟨k,rfl⟩,h2⟩:=hhi
   simp [Instr.slice,run_underlying hu,Instr.sliceBounds,Instr.sliceBound,asIntOf,hs,h1,h2]
theorem qto {G:Gh} {sz:Nat} {xs:List AV} {tip:Option Nat} {a:Option Addr} {len cap:Nat} (h:Rel G (.sl sz xs tip) (.slice a len cap)) {i j:Nat} (h1:i≤j) (h2:j≤xs.length) :
  len=xs.length∧len≤cap∧Rel G (.sl sz ((xs.take j).drop i) none) (.slice (if cap=i then a else a.map (·.add (i * sz))) (j - i) (cap - i)):=by
 cases h with
 |sl0=>
  simp at h2
  subst h2
  have:i=0:=by omega
  subst this
  refine⟨rfl,Nat.zero_le _,?_⟩
  simp
  exact .sl0 sz none _ _ (by simp)
 |sl _ _ _ b off cap pub hp hw hlen hr ht hcap=>
  refine⟨rfl,hcap,?_⟩
  have hl:((xs.take j).drop i).length=j - i:=by simp;omega
  by_cases hji:j=i
  ·subst hji
   have e:(xs.take j).drop j=[]:=List.length_eq_zero_iff.1 (by rw [hl];omega)
   rw [e,Nat.sub_self]
   exact .sl0 sz none _ _ (by simp)
  ·have hne:cap≠i:=by omega
   rw [if_neg hne]
   simp only [Option.map_some]
   have hadd:Addr.add ⟨b,off,none⟩ (i * sz)=⟨b,off+i * sz,none⟩:=Addr.add_lit ..
   rw [hadd,← hl]
   have hw':∀ x∈(xs.take j).drop i,x.cells.length=sz:=fun x hx=>hw x (List.mem_of_mem_take (List.mem_of_mem_drop hx))
   have hfx:(flat xs).length=xs.length * sz:=zr hw
   have hsplit:flat xs=flat (xs.take i)++flat ((xs.take j).drop i)++flat (xs.drop j):=by
    have e:xs.take i++(xs.take j).drop i=xs.take j:=by
     conv=>rhs;rw [← List.take_append_drop i (xs.take j),List.take_take,Nat.min_eq_left h1]
    rw [← xu,← xu,e,List.take_append_drop]
   have hti:(flat (xs.take i)).length=i * sz:=by
    rw [zr (fun x hx=>hw x (List.mem_of_mem_take hx)),List.length_take,Nat.min_eq_left (by omega)]
   have hmid:(flat ((xs.take j).drop i)).length=(j - i) * sz:=by rw [zr hw',hl]
   refine .sl sz _ none b (off+i * sz) (cap - i) pub hp hw' ?_ (fun k x y hx hy=>?_) (fun t ht=>by simp at ht) (by rw [hl];omega)
   ·have:=congrArg List.length hsplit
    simp only [List.length_append] at this
    omega
   ·refine hr (i * sz+k) x y ?_ (by rw [← hy];congr 1;omega)
    have hk:=lt_of_getElem? hx
    rw [hsplit,List.append_assoc,List.getElem?_append_right (by omega),hti,Nat.add_sub_cancel_left,List.getElem?_append_left hk]
    exact hx
theorem q1z {x:Operand} {t e:TypeId} {lo hi:Option Operand} {sz:Nat} {agg:Bool} {xs ys:List AV} {tip:Option Nat} {i j:Nat} (hx:ql N s x = .sl sz xs tip) (hu:E.P.underlying t=some (.slice e)) (ht:tyOf E.P e=some (sz,agg))
  (hlo:match lo with|none=>i=0|some y=>∃ k,ql N s y = .v (.int k (i:Int))) (hhi:match hi with|none=>j=xs.length|some y=>∃ k,ql N s y = .v (.int k (j:Int))) (h1:i≤j) (h2:j≤xs.length) (hy:(xs.take j).drop i=ys)
  (h:AOps E rd N ops rest K (s.put d (.sl sz ys none))):AOps E rd N ops (⟨d,.slice t x lo hi none,T,p,af,none⟩::rest) K s:=by
 subst hy
 refine zb rfl (za nofun fun B0 w0 G a w _ hI=>?_)
 have he:=hI.eval_of hx
 generalize hv:a.eval x=v at he
 have hsl:∃ b len cap,v = .slice b len cap:=by cases he <;> exact⟨_,_,_,rfl⟩
 obtain⟨b,len,cap,rfl⟩:=hsl
 obtain⟨hl,hlc,hr⟩:=qto he h1 h2
 refine⟨_,w,G,_,s.st,?_,.refl G,hI.agree,hr,h⟩
 have hrun:=qts hu ht b len cap (lo.map a.eval) (hi.map a.eval) i j w (by
  cases lo with
  |none=>exact hlo
  |some y=>obtain⟨k,hy⟩:=hlo;exact⟨k,hI.evalv hy⟩) (by
  cases hi with
  |none=>simp only at hhi;simp only [Option.map_none];omega
  |some y=>obtain⟨k,hy⟩:=hhi;exact⟨⟨k,hI.evalv hy⟩,by omega⟩) h1
 generalize a.eval = ρ at hv hrun
 simp only [execOp,hv]
 simp [Instr.sliceAt,run_underlying hu,hrun]
theorem qf8 {x y:Operand} {t e:TypeId} {sz:Nat} {agg:Bool} {xs ys:List AV} {tip:Option Nat} {k:IntKind} {i:Nat} (hx:ql N s x = .sl sz xs tip) (hy:ql N s y = .v (.int k (i:Int))) (hu:E.P.underlying t=some (.slice e)) (ht:tyOf E.P e=some (sz,agg)) (h1:i≤xs.length) (hz:xs.drop i=ys)
  (h:AOps E rd N ops rest K (s.put d (.sl sz ys none))):AOps E rd N ops (⟨d,.slice t x (some y) none none,T,p,af,none⟩::rest) K s:=
 q1z (i:=i) (j:=xs.length) hx hu ht ⟨k,hy⟩ rfl h1 (Nat.le_refl _) (by rw [List.take_length];exact hz) h
end
end Go.Av
