/- Contracts and plain facts that the closing text leans on (part 3). No condition of their own beyond those that each states. -/
import Derived.Test.YtihlchbgjdkmpaaGreatDoorK2
import Derived.Lib.SplitLaws
import Derived.Shelf.Strings.SplitShaped
import Derived.Deep.Slices
import Derived.Deep.Fields
import Derived.WideKeyArgs
import Derived.Lib.ItoaLen
set_option maxRecDepth 100000
set_option linter.unusedVariables false
set_option linter.unusedSimpArgs false
open Array renaming getD→Zn,getElem?_eq_none→Zu
open Bool renaming and_eq_true→Qr,false_eq_true→Xb
open Int renaming eq_ofNat_of_zero_le→Zq
open List renaming append_assoc→Qb,prefix_append_right_inj→Qc,prefix_append→Qe,cons_append→Qf,take_length→Qg,drop_left→Qh,cons_prefix_cons→Qi,takeWhile_prefix→Qj,length_eq_zero_iff→Qk,replicate→Ql,mem_append→Qm,getElem?_append_right→Qn,take_append_drop→Qq,getLast?_append→Qs,takeWhile_cons_of_pos→Qt,takeWhile_cons_of_neg→Qu,drop_eq_getElem_cons→Qv,append_nil→Qw,getElem?_append_left→Qx,getD→Qy,mem_singleton→Qz,length_append→Za,prefix_iff_eq_take→Zb,take_of_length_le→Zc,mem_cons→Zd,length_cons→Ze,all_eq_true→Zf,set_append_right→Zg,prefix_of_prefix_length_le→Zh,drop_append_of_le_length→Zi,takeWhile_append_of_pos→Zj,append_cancel_left_eq→Zk,getLast?_eq_getElem?→Zm,prefix_refl→Zo,mem_map→Zp,headD_cons→Zr,drop_eq_nil_of_le→Zs,length→Zt,drop_zero→Zv,getElem?_toArray→Zw,getElem?_eq_none→Zx,tail_cons→Zy,mem_of_getElem?→Zz,getElem?_map→Xe,take_prefix→Xg,take_left→Xk,mem_range→Xo,range→Xt
open List.cons renaming injEq→Xj
open Nat renaming le_of_ble_eq_true→Qa,le_refl→Qd,add_sub_cancel_left→Qo,lt_or_ge→Qp,zero_add→Xa,lt_of_le_of_lt→Xc,eq_zero_or_pos→Xd,shiftLeft_eq→Xf,le_add_right→Xh,mod_lt→Xi,ble→Xl,beq→Xm,le_trans→Xp,add_zero→Xq,le_of_eq→Xr,mod_le→Xs,cast→Xu
open Option.some renaming injEq→Zl
open Prod.mk renaming injEq→Xv
namespace Go.Proofs.YtihlchbgjdkmpaaGreatDoor
open Go Go.Av Go.RowKit Go.Proofs Go.Pl
theorem qkq:∀(n u:Nat),u<n->u<18446744073709551616->∀st,qr E 98 [.v (.int .u64 (u:Int))] st λr st'=>r=Sv (Lib.decDigits u)∧st'=st
 |0,_,h,_,_=>absurd h (Nat.not_lt_zero _)
 |n+1,u,hu,h64,st=>by
  refine q5 (qt _) (qs Tryz.func98 rfl (Qa rfl) ?_);have bt:=qgb (u:=u / 10) Om;have mt:=qgb (u:=u%10) Om;by_cases g9:u<10
  .skip
   repeat' (first|apply qq|apply qh|apply qj|apply ql|apply qi|(apply qv;(iterate 3 exact rfl))|(apply qe;exact rfl;apply vo;exact cAo)|(apply qgo;(iterate 4 exact rfl);exact cAs;exact cAs)|apply qw|(apply qzs (n:=1);exact rfl;exact rfl;exact qn4 Om))
   exact qo rfl (q7 rfl) ⟨congrArg Sv (q76 g9),_,rfl⟩
  .have ih1:=qkq n (u / 10) Om Om
   have ih2:=qkq n (u%10) Om Om;repeat' (first|apply qq|apply qh|apply qj|apply ql|apply qi|(apply qv;(iterate 3 exact rfl))|(apply qe;exact rfl;apply v8;exact cAo)|(apply jy;exact rfl;exact rfl;exact cOs)|apply qz|apply qw|(apply qqd (n:=10);exact rfl;exact rfl;omega;exact qn4 Om)|(apply qzu (n:=10);exact rfl;exact rfl;omega)|(apply qm;exact Tryz.call98;exact ih1 _)|(apply qm;exact Tryz.call98;exact ih2 _))
   exact qo rfl (q7 rfl) ⟨congrArg Sv (yq g9).symm,_,rfl⟩
theorem qrp(k:Nat)(st:List AObj)(hk:k<=9223372036854775807):qr E 56 [Iv k] st λr st'=>r=Sv (Lib.itoa k)∧st'=st:=by
 refine q5 (qt _) (qs Tryz.func56 rfl (Qa rfl) ?_);have hneg:¬(k:Int)<0:=Om
 repeat' (first|apply qq|apply qh|apply qj|apply ql|apply qi|(apply qv;(iterate 3 exact rfl))|(apply qe;exact rfl;apply v8;exact cAo)|apply qz|apply qw|(apply qe5;(iterate 3 exact rfl);exact qn4 Om)|(apply qm;exact Tryz.call98;exact qkq (k+1) k Om Om _))
 exact qo rfl (q7 rfl) ⟨congrArg Sv (by unfold Lib.itoa;rw[if_neg hneg];simp),_,rfl⟩
theorem qhy(l m:List UInt8)(st:List AObj)(hl:l.length<4294967281):qr E 182 [Sv l,Sv m] st λr st'=>r=Bv (decide (m<+:l))∧st'=st:=by
 refine q5 (qt _) (qs Tryz.func182 rfl (Qa rfl) ?_);repeat' (first|apply qq|apply qh|apply qj|apply ql|apply qi|(apply qv;(iterate 3 exact rfl))|(apply jo;(iterate 3 exact rfl))|(apply qx;(iterate 4 exact rfl))|(apply xf;exact cAo)|(apply xu;exact cAo)|(apply jn<;>intro h)|(apply qk;exact rfl;apply w7;exact cAo)|(apply qk;exact rfl;apply wt;exact cAo)|(apply zu;(iterate 3 exact rfl))|(apply qbt;(iterate 3 exact rfl);exact cAs)|apply qw)
 all_goals refine qo rfl (q7 rfl) ⟨congrArg Bv (?_:_=_),_,rfl⟩
 .have e:l.take m.length=m↔m<+:l:=by rw[Zb];exact eq_comm
  simp[e]
 .have:¬m<+:l:=λh=>by have:=h.length_le;omega
  simp[this]
theorem qny(l m:List UInt8)(st:List AObj)(hl:m.length<4294967281):qr E 181 [Sv l,Sv m] st λr st'=>r=Bv (decide (l<+:m))∧st'=st:=by
 refine q5 (qt _) (qs Tryz.func181 rfl (Qa rfl) ?_);repeat' (first|apply qq|apply qh|apply qj|apply ql|apply qi|apply qw|(apply qm;exact Tryz.call182;exact qhy _ _ _ hl))
 exact qo rfl (q7 rfl) ⟨rfl,_,rfl⟩
theorem qjz{p:UInt8->Bool}:∀{l:List UInt8}{k:Nat},k<=l.length->(∀c∈l.take k,p c=true)->(k<l.length->p (l.getD k 0)=false)->(l.takeWhile p).length=k
 | [],k,hk,_,_=>by simp at hk;simp[hk]
 |b::l,0,_,_,h=>by
  have:=h Sx;simp at this
  simp[this]
 |b::l,k+1,hk,h1,h2=>by
  have hb:p b=true:=h1 b Sx;rw[Qt hb,Ze,qjz (k:=k) (by simpa using hk) (λc hc=>h1 c (by simp[hc])) (λh=>by have:=h2 (by simpa using h);simpa using this)]
def y5(c:UInt8):Bool:=decide (48<=c.toNat∧c.toNat<=57)
theorem q6n(l:List UInt8)(st:List AObj)(hl:l.length<4294967281):qr E 183 [Sv l] st λr st'=>r=Iv (l.takeWhile y5).length∧st'=st:=by
 refine q5 (qt _) (qs Tryz.func183 rfl (Qa rfl) ?_);repeat' (first|apply qq|apply q6|apply qh|apply qj|apply qi)
 refine jt (λ(k:Nat)s=>k<=l.length∧(∀c∈l.take k,y5 c=true)∧StA [(0,Sv l),(3,Iv k)] (st++[]) [] s) (λk=>l.length-k) 0 ⟨Om,Sx,z7 ⟨rfl,rfl,trivial⟩⟩ ?_;rintro k _ ⟨hk,h1,t,rfl⟩;repeat' (first|apply qq|apply q6|apply qh|apply qj|apply ql|apply qi|(apply qv;(iterate 3 exact rfl))|(apply qx;(iterate 4 exact rfl))|(apply xf;exact cAo)|(apply xu;exact cAo)|(apply xq;exact cRa)|(apply jn<;>intro h)|(apply qk;exact rfl;apply w7;exact cAo)|(apply qk;exact rfl;apply wt;exact cAo)|(apply qk;exact rfl;apply pk_f;exact cRa)|(apply qe;exact rfl;apply cd_f;exact cRa)|(apply qe;exact rfl;apply cd_d<;>intro h)|(apply zu;(iterate 3 exact rfl))|(apply zo;exact rfl;exact rfl;exact q8 Om Om)|(apply wm;(iterate 3 exact rfl);exact cAs)|apply qz|apply jd|apply qw)
 all_goals first
  |exact⟨k+1,⟨Om,(qn6 Om).2 ⟨h1,by simp only[y5,decide_eq_true_eq];omega⟩,z7 ⟨rfl,rfl,trivial⟩⟩,Om⟩
  |exact qo rfl (q7 rfl) ⟨congrArg Iv (congrArg Xu (qjz hk h1 (λd8=>by simp only[y5,decide_eq_false_iff_not];omega)).symm),_,rfl⟩
def qbq(c:UInt8):Bool:=decide (48<=c.toNat∧c.toNat<=57∨97<=c.toNat∧c.toNat<=102)
theorem qzh{p:UInt8->Bool}{l:List UInt8}{k n:Nat}(hk:k<=l.length)(hn:k<=n)(h1:∀c∈l.take k,p c=true)(h2:k<l.length->k<n->p (l.getD k 0)=false):((l.take n).takeWhile p).length=k:=by
 have d5:(l.take n).length=min n l.length:=Sx
 refine qjz Om (λc hc=>h1 c ?_) (λh=>?_)
 .rwa [List.take_take,Nat.min_eq_left hn]at hc
 .have h3:k<l.length:=by omega
  have h4:k<n:=Om
  have e:(l.take n).getD k 0=l.getD k 0:=by simp[Qy,List.getElem?_take,h4]
  rw[e];exact h2 h3 h4
theorem zj0(l:List UInt8)(st:List AObj)(hl:l.length<4294967281):qr E 184 [Sv l] st λr st'=>r=Iv ((l.take 8).takeWhile qbq).length∧st'=st:=by
 refine q5 (qt _) (qs Tryz.func184 rfl (Qa rfl) ?_);repeat' (first|apply qq|apply q6|apply qh|apply qj|apply qi)
 refine jt (λ(k:Nat)s=>k<=l.length∧k<=8∧(∀c∈l.take k,qbq c=true)∧StA [(0,Sv l),(3,Iv k)] (st++[]) [] s) (λk=>l.length-k) 0 ⟨Om,Om,Sx,z7 ⟨rfl,rfl,trivial⟩⟩ ?_;rintro k _ ⟨hk,hk8,h1,t,rfl⟩;repeat' (first|apply qq|apply q6|apply qh|apply qj|apply ql|apply qi|(apply qv;(iterate 3 exact rfl))|(apply qx;(iterate 4 exact rfl))|(apply xf;exact cAo)|(apply wc;exact cAo)|(apply wg;exact cAo)|(apply xu;exact cAo)|(apply qaw;(iterate 4 exact rfl))|(apply qet;exact cRa)|(apply xq;exact cRa)|(apply jn<;>intro h)|(apply qk;exact rfl;apply w7;exact cAo)|(apply qk;exact rfl;apply wt;exact cAo)|(apply qk;exact rfl;apply pk_f;exact cRa)|(apply qe;exact rfl;apply cd_t;exact cRa)|(apply qe;exact rfl;apply cd_f;exact cRa)|(apply qe;exact rfl;apply cd_d<;>intro h)|(apply zu;(iterate 3 exact rfl))|(apply zo;exact rfl;exact rfl;exact q8 Om Om)|(apply wm;(iterate 3 exact rfl);exact cAs)|apply qz|apply jd|apply qw)
 all_goals first
  |exact⟨k+1,⟨Om,Om,(qn6 Om).2 ⟨h1,by simp only[qbq,decide_eq_true_eq];omega⟩,z7 ⟨rfl,rfl,trivial⟩⟩,Om⟩
  |exact qo rfl (q7 rfl) ⟨congrArg Iv (congrArg Xu (qzh hk hk8 h1 (λd8 hl8=>by simp only[qbq,decide_eq_false_iff_not];omega)).symm),_,rfl⟩
end Go.Proofs.YtihlchbgjdkmpaaGreatDoor
namespace Go.Pl
open Go
def decV(l:qc):Nat:=l.foldl (λa c=>10*a+(c.toNat-48)) 0
theorem qqq(l:qc)(c:UInt8):decV (l++[c])=10*decV l+(c.toNat-48):=by simp[decV]
theorem x2:∀(n u:Nat),u<=n->∀c∈Lib.decDigits u,48<=c.toNat∧c.toNat<=57
 |n,u,hn,c,hc=>by
  by_cases h:u<10
  .rw[Lib.decDigits_one h]at hc
   simp only[Qz]at hc;subst hc;rw[UInt8.toNat_ofNat'];omega
  .rw[yq h,Qm]at hc
   cases n with
   |zero=>omega
   |succ n=>
    rcases hc with hc|hc
    .exact x2 n (u / 10) Om c hc
    .exact x2 n (u%10) Om c hc
theorem que:∀(n u:Nat),u<=n->decV (Lib.decDigits u)=u
 |n,u,hn=>by
  have key:∀d,d<10->Lib.decDigits d=[UInt8.ofNat (48+d)]∧(UInt8.ofNat (48+d)).toNat-48=d:=λd hd=>by
   refine⟨Lib.decDigits_one hd,?_⟩;rw[UInt8.toNat_ofNat'];omega
  by_cases h:u<10
  .obtain⟨e1,e2⟩:=key u h
   rw[e1];exact(Xa _).trans e2
  .cases n with
   |zero=>omega
   |succ n=>
    obtain⟨e1,e2⟩:=key (u%10) Om;rw[yq h,e1,qqq,que n (u / 10) Om,e2];omega
theorem qf7(u:Nat):1<=(Lib.decDigits u).length:=by
 rw[Lib.decDigits_length];exact Lib.nDigits_pos u
theorem qgf{v:Int}(h:v<0):Lib.itoa v=45::Lib.decDigits v.natAbs:=by
 unfold Lib.itoa;rw[if_pos h]
theorem qgg{v:Int}(h:0<=v):Lib.itoa v=Lib.decDigits v.toNat:=by
 unfold Lib.itoa;rw[if_neg Om]
theorem q95(v:Int):1<=(Lib.itoa v).length:=by
 by_cases h:v<0
 .rw[qgf h];simp
 .rw[qgg Om];exact qf7 _
theorem qmd{v:Int}(h1: -9223372036854775808<=v)(h2:v<=9223372036854775807):(Lib.itoa v).length<=20:=by
 by_cases h:v<0
 .rw[qgf h,Ze,Lib.decDigits_length]
  have:=qd2 18 v.natAbs Om;omega
 .rw[qgg Om,Lib.decDigits_length]
  have:=qd2 18 v.toNat Om;omega
theorem q1d:∀(a:Nat)(l m:qc)(b:Nat),Lib.parseUint10 a l=.ok b->Lib.parseUint10 a (l++m)=Lib.parseUint10 b m
 |a,[],m,b,h=>by
  simp only[Lib.parseUint10,Lib.NumEnd.ok.injEq]at h
  subst h;rfl
 |a,c::l,m,b,h=>by
  simp only[Qf,Lib.parseUint10]at h⊢;split at h
  .rename_i hd
   rw[if_pos hd];split at h
   .cases h
   .rename_i h1
    rw[if_neg h1];split at h
    .cases h
    .rename_i h2
     rw[if_neg h2];exact q1d _ l m b h
  .cases h
theorem qo8:∀(n u:Nat),u<=n->u<=9223372036854775808->Lib.parseUint10 0 (Lib.decDigits u)=.ok u
 |n,u,hn,hu=>by
  have key:∀(a d:Nat),a<=922337203685477580->d<10->Lib.parseUint10 a (Lib.decDigits d)=.ok (a*10+d):=by
   intro a d ha hd;have e:(UInt8.ofNat (48+d)).toNat=48+d:=by rw[UInt8.toNat_ofNat'];omega
   rw[Lib.decDigits_one hd];simp only[Lib.parseUint10,e];rw[if_pos Om,if_neg Om,if_neg Om];congr 1;omega
  by_cases h:u<10
  .have:=key 0 u Om h
   simpa using this
  .cases n with
   |zero=>omega
   |succ n=>
    rw[yq h,q1d 0 _ _ (u / 10) (qo8 n (u / 10) Om Om),key _ _ Om Om];congr 1;omega
theorem qn9{v:Int}(h1: -9223372036854775808<=v)(h2:v<=9223372036854775807):Lib.atoiAll (Lib.itoa v)=.ok v:=by
 by_cases h:v<0
 .have hp:=qo8 v.natAbs v.natAbs (Qd _) Om
  rw[qgf h]
  have hm:Lib.parseMag (Lib.decDigits v.natAbs)=.ok v.natAbs:=by
   unfold Lib.parseMag;rw[if_neg (λe=>by have:=qf7 v.natAbs;rw[e]at this;simp at this)];exact hp
  have e45:(45:UInt8).toNat=45:=rfl;simp only[Lib.atoiAll,e45];rw[if_pos (Or.inr trivial),hm];simp only[not_true,false_and,if_false,true_and];rw[if_neg Om];simp only[if_true];congr 1;omega
 .have hp:=qo8 v.toNat v.toNat (Qd _) Om
  have hd:=x2 v.toNat v.toNat (Qd _);rw[qgg Om]
  cases hl:Lib.decDigits v.toNat with
  |nil=>have:=qf7 v.toNat;rw[hl]at this;simp at this
  |cons c r=>
   rw[hl]at hp hd;have hc:=hd c Sx;simp only[Lib.atoiAll];have g1:¬(c.toNat=43∨c.toNat=45):=Om
   rw[if_neg g1];have hm:Lib.parseMag (c::r)=.ok v.toNat:=by unfold Lib.parseMag;rw[if_neg Sx];exact hp
   rw[hm];have g2:¬c.toNat=45:=Om
   simp only[g2,not_false_iff,true_and,false_and,if_false];rw[if_neg Om];congr 1;omega
def numZ(l:qc):Option Int:=
 match Lib.atoiAll l with
 |.ok v=>if Lib.itoa v=l then some v else none
 |_=>none
theorem qg1{v:Int}(h1: -9223372036854775808<=v)(h2:v<=9223372036854775807):numZ (Lib.itoa v)=some v:=by
 unfold numZ;rw[qn9 h1 h2];simp
theorem qml{l:qc}{v:Int}(h:numZ l=some v):l=Lib.itoa v∧-9223372036854775808<=v∧v<=9223372036854775807:=by
 unfold numZ at h;split at h
 .rename_i u hu
  split at h
  .rename_i he
   simp only[Zl]at h;subst h;exact⟨he.symm,atoiAll_bounds hu⟩
  .simp at h
 .simp at h
theorem qrc{l:qc}(h:∀v,-9223372036854775808<=v->v<=9223372036854775807->l≠Lib.itoa v):numZ l=none:=by
 cases hn:numZ l with
 |none=>rfl
 |some v=>
  obtain⟨h1,h2,h3⟩:=qml hn;exact absurd h1 (h v h2 h3)
end Go.Pl
namespace Go.Proofs.YtihlchbgjdkmpaaGreatDoor
open Go Go.Av Go.RowKit Go.Proofs Go.Pl
theorem qal(v:Int)(st:List AObj)(h1: -9223372036854775808<=v)(h2:v<=9223372036854775807):qr E 56 [Iv v] st λr st'=>r=Sv (Lib.itoa v)∧st'=st:=by
 by_cases hneg:v<0
 .refine q5 (qt _) (qs Tryz.func56 rfl (Qa rfl) ?_)
  have hl:=qgb (u:=v.natAbs) Om
  have hk:IntKind.u64.wrap (-(v+1))=((v.natAbs-1:Nat):Int):=by
   rw[show -(v+1)=((v.natAbs-1:Nat):Int)by omega];exact qn4 Om
  have s4:IntKind.u64.wrap (((v.natAbs-1:Nat):Int)+1)=((v.natAbs:Nat):Int):=by
   rw[show((v.natAbs-1:Nat):Int)+1=((v.natAbs:Nat):Int)by omega];exact qn4 Om
  repeat' (first|apply qq|apply qh|apply qj|apply ql|apply qi|(apply qv;(iterate 3 exact rfl))|(apply qe;exact rfl;apply vo;exact cAo)|(apply jy;exact rfl;exact rfl;exact cOs)|(apply zo;exact rfl;exact rfl;exact q8 Om Om)|apply qw|(apply q3l;exact rfl;exact(show IntKind.i64.wrap (0-(v+1))= -(v+1) from by rw[q8 Om Om];omega))|(apply qe5;(iterate 3 exact rfl);exact hk)|(apply zo;exact rfl;exact rfl;exact s4)|(apply qm;exact Tryz.call98;exact qkq (v.natAbs+1) v.natAbs Om Om _))
  exact qo rfl (q7 rfl) ⟨congrArg Sv (qgf hneg).symm,_,rfl⟩
 .obtain⟨k,rfl⟩:=Zq (by omega:0<=v)
  exact qrp k st Om
theorem qr4(x:Int):IntKind.i64.wrap x=(x+9223372036854775808)%18446744073709551616-9223372036854775808:=by
 simp[IntKind.wrap,IntKind.bits,IntKind.signed];split <;>omega
theorem q5q(V d:Nat)(n:Int)(hn:n=IntKind.i64.wrap (-(V:Int))):IntKind.i64.wrap (IntKind.i64.wrap (10*n)-(d:Int))=IntKind.i64.wrap (-((10*V+d:Nat):Int)):=by
 rw[hn];simp only[qr4];omega
theorem zah(V:Nat):IntKind.i64.wrap (0-IntKind.i64.wrap (-(V:Int)))=IntKind.i64.wrap (V:Int):=by
 simp only[qr4];omega
theorem qe2(x:Int): -9223372036854775808<=IntKind.i64.wrap x∧IntKind.i64.wrap x<=9223372036854775807:=by
 rw[qr4];omega
theorem sub8{c:Nat}(h:48<=c)(h2:c<256):IntKind.u8.wrap ((c:Int)-48)=((c-48:Nat):Int):=by
 simp[IntKind.wrap,IntKind.bits,IntKind.signed];omega
def numA(l:qc):AV:=match numZ l with|some v=>.tu [Iv v,Bv true]|none=>.tu [Iv 0,Bv false]
theorem zfj(l:qc):Pure (numA l):=by
 unfold numA;split <;>exact qmq _ _
theorem qdv{l:qc}(h:numZ l=none):numA l=.tu [Iv 0,Bv false]:=by unfold numA;rw[h]
theorem qrb{l:qc}{v:Int}(h:numZ l=some v):numA l=.tu [Iv v,Bv true]:=by unfold numA;rw[h]
theorem q0y{l:qc}{v:Int}(h:l=Lib.itoa v):(v<0->(l.getD 0 0).toNat=45∧l.drop 1=Lib.decDigits v.natAbs)∧(0<=v->(l.getD 0 0).toNat≠45∧l=Lib.decDigits v.toNat):=by
 subst h;refine⟨λh=>?_,λh=>?_⟩
 .rw[qgf h];exact⟨rfl,rfl⟩
 .rw[qgg h]
  refine⟨?_,rfl⟩;have hp:=qf7 v.toNat;have hd:=x2 v.toNat v.toNat (Qd _)
  cases hl:Lib.decDigits v.toNat with
  |nil=>rw[hl]at hp;simp at hp
  |cons c r=>
   rw[hl]at hd;have:=hd c Sx;simp;omega
def sgn(l:qc):Nat:=if(l.getD 0 0).toNat=45 then 1 else 0
theorem qm3{l:qc}{v:Int}(h:l=Lib.itoa v):l.drop (sgn l)=Lib.decDigits v.natAbs:=by
 obtain⟨h1,h2⟩:=q0y h;unfold sgn;by_cases hv:v<0
 .obtain⟨a,b⟩:=h1 hv
  rw[if_pos a,b]
 .obtain⟨a,b⟩:=h2 Om
  rw[if_neg a,Zv,show v.natAbs=v.toNat by omega];exact b
theorem qsj{l:qc}{k:Nat}(hk:k<l.length)(hs:sgn l<=k)(hd:¬(48<=(l.getD k 0).toNat∧(l.getD k 0).toNat<=57)):numZ l=none:=by
 refine qrc λv h1 h2 h=>?_;have e:=qm3 h
 have hm:l.getD k 0∈l.drop (sgn l):=by
  rw[show l.getD k 0=l[k]by simp[Qy,hk]];rw[List.mem_drop_iff_getElem];exact⟨k-sgn l,Om,by congr 1;omega⟩
 rw[e]at hm;exact hd (x2 _ _ (Qd _) _ hm)
def numW(l:qc):Int:=if(l.getD 0 0).toNat=45 then IntKind.i64.wrap (-(decV (l.drop 1):Int))else IntKind.i64.wrap (decV l:Int)
theorem zmm{l:qc}{v:Int}(h:l=Lib.itoa v)(h1: -9223372036854775808<=v)(h2:v<=9223372036854775807):numW l=v:=by
 obtain⟨g1,g2⟩:=q0y h;unfold numW;by_cases hv:v<0
 .obtain⟨a,b⟩:=g1 hv
  rw[if_pos a,b,que _ _ (Qd _),q8 Om Om];omega
 .obtain⟨a,b⟩:=g2 Om
  rw[if_neg a,b,que _ _ (Qd _),q8 Om Om];omega
theorem zag{l:qc}{n:Int}(h:n=numW l)(he:Lib.itoa n=l):numZ l=some n:=by
 have hr: -9223372036854775808<=n∧n<=9223372036854775807:=by
  rw[h];unfold numW;split <;>exact qe2 _
 rw[<-he,qg1 hr.1 hr.2]
theorem zaf{l:qc}{n:Int}(h:n=numW l)(he:¬Lib.itoa n=l):numZ l=none:=
 qrc λv h1 h2 hv=>he (by rw[h,zmm hv h1 h2];exact hv.symm)
theorem qn2{l:qc}{k a:Nat}(h:k<l.length)(ha:a<=k):(l.take (k+1)).drop a=(l.take k).drop a++[l.getD k 0]:=by
 rw[qbw h,Zi So]
theorem qtu(l:List UInt8)(st:List AObj)(hl:l.length<4294967281):qr E 175 [Sv l] st λr st'=>r=numA l∧st'=st:=by
 refine q5 (zfj l) (qs Tryz.func175 rfl (Qa rfl) ?_);by_cases dr:l.length<1∨20<l.length
 .have hz:numZ l=none:=qrc λv h1 h2 h=>by
   have g1:=q95 v;have g2:=qmd h1 h2;rw[<-h]at g1 g2;omega
  repeat' (first|apply qq|apply qh|apply qj|apply ql|apply qi|(apply qv;(iterate 3 exact rfl))|(apply qx;(iterate 4 exact rfl))|(apply wc;exact cAo)|(apply wg;exact cAo)|(apply jn<;>intro h)|(apply qk;exact rfl;apply w7;exact cAo)|(apply qk;exact rfl;apply wt;exact cAo)|(apply qe;exact rfl;apply vo;exact cAo)|(apply qe;exact rfl;apply cd_t;exact cRa)|(apply zu;(iterate 3 exact rfl))|apply qw)
  all_goals first
   |(exfalso;omega)
   |exact qo rfl (kw rfl) ⟨(qdv hz).symm,_,rfl⟩
 have r6:1<=l.length:=Om
 have t6:l.length<=20:=Om
 repeat' (first|apply qq|apply q6|apply qh|apply qj|apply ql|apply qi|(apply qv;(iterate 3 exact rfl))|(apply qx;(iterate 4 exact rfl))|(apply wc;exact cAo)|(apply qk;exact rfl;apply wt;exact cAo)|(apply qe;exact rfl;apply v8;exact cAo)|(apply qe;exact rfl;apply cd_d<;>intro h)|(apply zu;(iterate 3 exact rfl))|(apply wm;(iterate 3 exact rfl);exact cAs)|apply qz)
 .have h45:((l.getD 0 0).toNat:Int)=45:=by assumption
  have hs:sgn l=1:=if_pos Om;refine jt (λ(k:Nat)s=>1<=k∧k<=l.length∧StA [(0,Sv l),(4,Iv 1),(5,Iv (IntKind.i64.wrap (-(decV ((l.take k).drop 1):Int)))),(6,Iv k)] (st++[]) [] s) (λk=>l.length-k) 1 ⟨Om,Om,z7 ⟨rfl,rfl,by simp[Zs,decV,IntKind.wrap];rfl,rfl,trivial⟩⟩ ?_;rintro k _ ⟨br,hk,t,rfl⟩;generalize hn:IntKind.i64.wrap (-(decV ((l.take k).drop 1):Int))=n;have hc:=UInt8.toNat_lt (l.getD k 0);have hr: -9223372036854775808<=n∧n<=9223372036854775807:=hn▸qe2 _;have hr2:=qe2 (0-n);repeat' (first|apply qq|apply q6|apply qh|apply qj|apply ql|apply qi|(apply qv;(iterate 3 exact rfl))|(apply jo;(iterate 3 exact rfl))|(apply qx;(iterate 4 exact rfl))|(apply wc;exact cAo)|(apply wg;exact cAo)|(apply jn<;>intro h)|(apply qk;exact rfl;apply w7;exact cAo)|(apply qk;exact rfl;apply wt;exact cAo)|(apply qe;exact rfl;apply v8;exact cAo)|(apply qe;exact rfl;apply cd_t;exact cRa)|(apply qe;exact rfl;apply cd_d<;>intro h)|(apply zu;(iterate 3 exact rfl))|(apply zo;exact rfl;exact rfl;exact q8 Om Om)|(apply wm;(iterate 3 exact rfl);exact cAs)|apply qz|apply jd|apply qw|(apply qh7;(iterate 3 exact rfl))|(apply ww;exact rfl;exact rfl;exact sub8 Om Om)|(apply ww;exact rfl;exact rfl;exact q5q _ _ _ hn.symm)|(apply qe5;(iterate 3 exact rfl);exact q8 Om Om)|(apply qm;exact Tryz.call56;exact qal _ _ Om Om))
  .exact qo rfl (kw rfl) ⟨(qdv (qsj (k:=k) Om Om Om)).symm,_,rfl⟩
  .exact qo rfl (kw rfl) ⟨(qdv (qsj (k:=k) Om Om Om)).symm,_,rfl⟩
  .refine⟨k+1,⟨Om,Om,z7 ⟨rfl,rfl,congrArg Iv ?_,rfl,trivial⟩⟩,Om⟩
   rw[qn2 Om br,qqq]
  .have e:k=l.length:=by omega
   subst e;rw[Qg]at hn;have hw:n=numW l:=by unfold numW;rw[if_pos Om];rw[<-hn]
   exact qo rfl (kw rfl) ⟨(qdv (zaf hw (by assumption))).symm,_,rfl⟩
  .have e:k=l.length:=by omega
   subst e;rw[Qg]at hn;have hw:n=numW l:=by unfold numW;rw[if_pos Om];rw[<-hn]
   exact qo rfl (kw rfl) ⟨(qrb (zag hw (Classical.not_not.1 (by assumption)))).symm,_,rfl⟩
 .have h45:¬((l.getD 0 0).toNat:Int)=45:=by assumption
  have hs:sgn l=0:=if_neg Om;refine jt (λ(k:Nat)s=>0<=k∧k<=l.length∧StA [(0,Sv l),(4,Iv 0),(5,Iv (IntKind.i64.wrap (-(decV ((l.take k).drop 0):Int)))),(6,Iv k)] (st++[]) [] s) (λk=>l.length-k) 0 ⟨Om,Om,z7 ⟨rfl,rfl,by simp[Zs,decV,IntKind.wrap];rfl,rfl,trivial⟩⟩ ?_;rintro k _ ⟨br,hk,t,rfl⟩;generalize hn:IntKind.i64.wrap (-(decV ((l.take k).drop 0):Int))=n;have hc:=UInt8.toNat_lt (l.getD k 0);have hr: -9223372036854775808<=n∧n<=9223372036854775807:=hn▸qe2 _;have hr2:=qe2 (0-n);repeat' (first|apply qq|apply q6|apply qh|apply qj|apply ql|apply qi|(apply qv;(iterate 3 exact rfl))|(apply jo;(iterate 3 exact rfl))|(apply qx;(iterate 4 exact rfl))|(apply wc;exact cAo)|(apply wg;exact cAo)|(apply jn<;>intro h)|(apply qk;exact rfl;apply w7;exact cAo)|(apply qk;exact rfl;apply wt;exact cAo)|(apply qe;exact rfl;apply vo;exact cAo)|(apply qe;exact rfl;apply cd_t;exact cRa)|(apply qe;exact rfl;apply cd_d<;>intro h)|(apply zu;(iterate 3 exact rfl))|(apply zo;exact rfl;exact rfl;exact q8 Om Om)|(apply wm;(iterate 3 exact rfl);exact cAs)|apply qz|apply jd|apply qw|(apply qh7;(iterate 3 exact rfl))|(apply ww;exact rfl;exact rfl;exact sub8 Om Om)|(apply ww;exact rfl;exact rfl;exact q5q _ _ _ hn.symm)|(apply qe5;(iterate 3 exact rfl);exact q8 Om Om)|(apply q3l;exact rfl;exact rfl)|(apply qm;exact Tryz.call56;exact qal _ _ Om Om))
  .exact qo rfl (kw rfl) ⟨(qdv (qsj (k:=k) Om Om Om)).symm,_,rfl⟩
  .exact qo rfl (kw rfl) ⟨(qdv (qsj (k:=k) Om Om Om)).symm,_,rfl⟩
  .refine⟨k+1,⟨Om,Om,z7 ⟨rfl,rfl,congrArg Iv ?_,rfl,trivial⟩⟩,Om⟩
   rw[qn2 Om br,qqq]
  .have e:k=l.length:=by omega
   subst e;rw[Qg]at hn;have hw:IntKind.i64.wrap (0-n)=numW l:=by unfold numW;rw[if_neg Om];rw[<-hn,Zv,zah]
   exact qo rfl (kw rfl) ⟨(qdv (zaf hw (by assumption))).symm,_,rfl⟩
  .have e:k=l.length:=by omega
   subst e;rw[Qg]at hn;have hw:IntKind.i64.wrap (0-n)=numW l:=by unfold numW;rw[if_neg Om];rw[<-hn,Zv,zah]
   exact qo rfl (kw rfl) ⟨(qrb (zag hw (Classical.not_not.1 (by assumption)))).symm,_,rfl⟩
theorem qe0(l:List UInt8)(v:Int)(st:List AObj)(hl:l.length<4294967281)(h:numZ l=some v):qr E 175 [Sv l] st λr st'=>r=.tu [Iv v,Bv true]∧st'=st:=by
 have:=qtu l st hl;rw[qrb h]at this;exact this
theorem qhz(l:List UInt8)(st:List AObj)(hl:l.length<4294967281)(h:numZ l=none):qr E 175 [Sv l] st λr st'=>r=.tu [Iv 0,Bv false]∧st'=st:=by
 have:=qtu l st hl;rw[qdv h]at this;exact this
theorem q2q(x:BitVec 32):x&&& 2147483648#32≠0#32↔x.toNat / 2147483648=1:=by
 have e:2147483648#32=BitVec.twoPow 32 31:=by decide
 have h:=x.isLt;rw[e,BitVec.and_twoPow,BitVec.getLsbD,Nat.testBit_eq_decide_div_mod_eq];by_cases hb:x.toNat / 2^31%2=1
 .simp only[hb,decide_true,if_true]
  constructor
  .intro _;omega
  .intro _;decide
 .simp only[hb,decide_false]
  constructor
  .intro h';exact absurd rfl h'
  .intro h';omega
theorem zcn(x:BitVec 32):x.msb=true↔x.toNat / 2147483648=1:=by
 rw[BitVec.msb_eq_decide];have h:=x.isLt;simp;omega
theorem ql4(x:BitVec 32):qcn x=(x<<<1)^^^(if x.msb then 79764919#32 else 0#32):=by
 unfold qcn;by_cases h:x.msb=true
 .rw[if_pos ((q2q x).2 ((zcn x).1 h)),if_pos h]
 .rw[if_neg (λh'=>h ((zcn x).2 ((q2q x).1 h'))),if_neg h,BitVec.xor_zero]
theorem zbx(a b:BitVec 32):qcn (a^^^b)=qcn a^^^qcn b:=by
 rw[ql4,ql4,ql4,BitVec.msb_xor,BitVec.shiftLeft_xor_distrib]
 cases a.msb<;>cases b.msb<;>simp only[Bool.xor_false,Bool.xor_true,Bool.not_true,Bool.not_false,Xb,if_true,if_false,BitVec.xor_zero]
 .rw[BitVec.xor_assoc]
 .rw[BitVec.xor_assoc,BitVec.xor_comm (b<<<1),BitVec.xor_assoc]
 .rw[BitVec.xor_assoc (a<<<1),BitVec.xor_comm 79764919#32,BitVec.xor_assoc (b<<<1),BitVec.xor_self,BitVec.xor_zero]
theorem qs6(n:Nat)(a b:BitVec 32):x5 n (a^^^b)=x5 n a^^^x5 n b:=by
 induction n with
 |zero=>rfl
 |succ n ih=>simp only[x5,ih,zbx]
theorem qm0:∀(n:Nat)(x:BitVec 32),n<=31->x.toNat<2^(32-n)->x5 n x=x<<<n
 |0,x,_,_=>by simp[x5]
 |n+1,x,hn,h=>by
  have hp:2^(32-n)=2*2^(32-(n+1)):=by rw[show 32-n=(32-(n+1))+1 by omega,Nat.pow_succ,Nat.mul_comm]
  simp only[x5];rw[qm0 n x Om Om,ql4]
  have hm:(x<<<n).msb=false:=by
   cases hb:(x<<<n).msb with
   |false=>rfl
   |true=>
    have h1:=(zcn _).1 hb
    have h2:(x<<<n).toNat<2147483648:=by
     rw[BitVec.toNat_shiftLeft,Xf];refine Xc (Xs _ _) ?_;have h3:x.toNat*2^n<2^(32-(n+1))*2^n:=Nat.mul_lt_mul_of_pos_right h (Nat.two_pow_pos n);rw[<-Nat.pow_add,show 32-(n+1)+n=31 by omega]at h3;exact h3
    omega
  rw[hm];simp only[Xb,if_false,BitVec.xor_zero];rw[<-BitVec.shiftLeft_add]
theorem zm8(x:BitVec 32):x=((x>>>28)<<<28)^^^((x.setWidth 28).setWidth 32):=by
 apply BitVec.eq_of_getLsbD_eq;intro i hi;simp only[BitVec.getLsbD_xor,BitVec.getLsbD_shiftLeft,BitVec.getLsbD_ushiftRight,BitVec.getLsbD_setWidth];by_cases h:i<28
 .simp[h,hi]
 .simp[h,hi,show 28+(i-28)=i by omega]
theorem qz8(x:BitVec 32)(n:Nat):crcN x n=x5 4 (x^^^(BitVec.ofNat 32 n<<<28)):=by
 have hl:((x.setWidth 28).setWidth 32).toNat<2^(32-4):=by
  simp only[BitVec.toNat_setWidth];exact Xc (Xs _ _) (Xi _ (by decide))
 have hs:((x.setWidth 28).setWidth 32)<<<4=x<<<4:=by
  apply BitVec.eq_of_getLsbD_eq;intro i hi;simp only[BitVec.getLsbD_shiftLeft,BitVec.getLsbD_setWidth];by_cases h:i<4
  .simp[h]
  .simp[h,hi,show i-4<28 by omega,show i-4<32 by omega]
 have e:x^^^(BitVec.ofNat 32 n<<<28)=(((x>>>28)^^^BitVec.ofNat 32 n)<<<28)^^^((x.setWidth 28).setWidth 32):=by
  rw[BitVec.shiftLeft_xor_distrib,BitVec.xor_assoc,BitVec.xor_comm (BitVec.ofNat 32 n<<<28),<-BitVec.xor_assoc,<-zm8 x]
 rw[e,qs6,qm0 4 _ Om hl,hs,crcN,rowT,BitVec.ofNat_toNat,BitVec.setWidth_eq,BitVec.xor_comm]
theorem q74(m n:Nat)(x:BitVec 32):x5 (m+n) x=x5 m (x5 n x):=by
 induction m with
 |zero=>simp[x5]
 |succ m ih=>rw[Nat.succ_add];simp only[x5,ih]
theorem q71(c:UInt8):BitVec.ofNat 32 c.toNat<<<24=(BitVec.ofNat 32 (c.toNat / 16)<<<28)^^^(BitVec.ofNat 32 (c.toNat%16)<<<24):=by
 have key:∀n:Fin 256,BitVec.ofNat 32 n.val<<<24=(BitVec.ofNat 32 (n.val / 16)<<<28)^^^(BitVec.ofNat 32 (n.val%16)<<<24):=by decide +kernel
 exact key ⟨c.toNat,UInt8.toNat_lt c⟩
theorem zej(x:BitVec 32)(c:UInt8):crcP x c=x5 8 (x^^^(BitVec.ofNat 32 c.toNat<<<24)):=by
 have hl:(BitVec.ofNat 32 (c.toNat%16)<<<24).toNat<2^(32-4):=by
  have key:∀n:Fin 16,(BitVec.ofNat 32 n.val<<<24).toNat<2^(32-4):=by decide +kernel
  exact key ⟨c.toNat%16,Xi _ (by decide)⟩
 rw[show(8:Nat)=4+4 by rfl,q74,q71,<-BitVec.xor_assoc,qs6 4 (x^^^_),qm0 4 _ Om hl,<-BitVec.shiftLeft_add,crcP,qz8,qz8]
theorem q1y(x:BitVec 32):IntKind.u32.wrap (4294967295-(x.toNat:Int))=((~~~x).toNat:Int):=by
 have h:=x.isLt;have e:(4294967295-(x.toNat:Int))=(((~~~x).toNat:Nat):Int):=by rw[BitVec.toNat_not];omega
 rw[e];exact qh4 _
theorem zad(x:BitVec 32)(k n:Nat)(m:Int)(hm:m=((2^n:Nat):Int)):IntKind.u32.wrap ((x.toNat:Int)*m)=((x<<<n).toNat:Int):=by
 rw[hm,<-Int.natCast_mul,qik,BitVec.toNat_shiftLeft,Xf]
theorem zjz(x:BitVec 32)(l:List UInt8)(st:List AObj)(hl:l.length<4294967281):qr E 136 [Wv x,Sv l] st λr st'=>r=Wv (addP x l)∧st'=st:=by
 refine q5 (qt _) (qs Tryz.func136 rfl (Qa rfl) ?_);repeat' (first|apply qq|apply q6|apply qh|apply qj|apply ql|apply qi|(apply ww;exact rfl;exact rfl;exact q1y _))
 refine jt (λ(k:Nat)s=>k<=l.length∧StA [(1,Sv l),(5,Wv ((l.take k).foldl crcP (~~~ x))),(6,Iv k)] (st++[]) [] s) (λk=>l.length-k) 0 ⟨Om,z7 ⟨rfl,rfl,rfl,trivial⟩⟩ ?_;rintro k _ ⟨hk,t,rfl⟩;generalize hx:(l.take k).foldl crcP (~~~ x)=y;have hc:=UInt8.toNat_lt (l.getD k 0);repeat' (first|apply qq|apply q6|apply qh|apply qj|apply ql|apply qi|(apply qv;(iterate 3 exact rfl))|(apply qe;exact rfl;apply cd_d<;>intro h)|(apply zu;(iterate 3 exact rfl))|(apply wm;(iterate 3 exact rfl);exact cAs)|(apply qdy;exact rfl;exact rfl;(first|exact jg _|exact rfl);first|exact jg _|exact rfl)|apply qz|apply jd|apply qw|(apply qvq;(iterate 3 exact rfl);omega)|(apply qh7;exact rfl;exact rfl;exact zad _ 0 24 _ rfl)|(apply ww;exact rfl;exact rfl;exact q1y _))
 .generalize sf:l.getD k 0=c at *
  generalize hz:y^^^(BitVec.ofNat 32 c.toNat<<<24)=z;refine jt (λ(j:Nat)s=>j<=8∧StA [(1,Sv l),(5,Wv (x5 j z)),(6,Iv k),(7,Iv j)] (st++[]) [] s) (λj=>8-j) 0 ⟨Om,z7 ⟨rfl,rfl,rfl,rfl,trivial⟩⟩ ?_;rintro j _ ⟨hj,t2,rfl⟩;generalize hq:x5 j z=q;have hql:=q.isLt;repeat' (first|apply qq|apply q6|apply qh|apply qj|apply ql|apply qi|(apply qv;(iterate 3 exact rfl))|(apply qe;exact rfl;apply cd_d<;>intro h)|(apply zo;exact rfl;exact rfl;exact q8 Om Om)|(apply qdy;exact rfl;exact rfl;(first|exact jg _|exact rfl);first|exact jg _|exact rfl)|apply qz|apply jd|(apply qqd (n:=2147483648);exact rfl;exact rfl;omega;exact qzp Om)|(apply qh7;exact rfl;exact rfl;exact zad _ 0 1 _ rfl))
  .refine⟨j+1,⟨Om,z7 ⟨rfl,?_,rfl,rfl,trivial⟩⟩,Om⟩
   refine congrArg Wv (?_:_=qcn _);rw[hq];unfold qcn;rw[if_pos ((q2q q).2 Om)];rfl
  .refine⟨j+1,⟨Om,z7 ⟨rfl,?_,rfl,rfl,trivial⟩⟩,Om⟩
   refine congrArg Wv (?_:_=qcn _);rw[hq];unfold qcn;rw[if_neg (λh'=>absurd ((q2q q).1 h') Om)]
  .have e:j=8:=by omega
   subst e;refine⟨k+1,⟨Om,z7 ⟨rfl,?_,rfl,trivial⟩⟩,Om⟩;refine congrArg Wv (?_:q=_);rw[qbw Om,List.foldl_append,hx,sf]
   show q=crcP y c
   rw[zej,hz,hq]
 .have e:k=l.length:=by omega
  subst e;refine qo rfl (q7 rfl) ⟨congrArg Wv (?_:_=_),_,rfl⟩;unfold addP;rw[<-hx,Qg]
theorem q6r(l:List UInt8)(st:List AObj)(hl:l.length<4294967281):qr E 88 [Sv l] st λr st'=>r=Wv (addP 0 l)∧st'=st:=by
 refine q5 (qt _) (qs Tryz.func88 rfl (Qa rfl) ?_);repeat' (first|apply qq|apply qh|apply qj|apply ql|apply qi|apply qw|(apply qm;exact Tryz.call136;exact zjz 0 _ _ hl))
 exact qo rfl (q7 rfl) ⟨rfl,_,rfl⟩
theorem zio(x:BitVec 32){j:Nat}(hj:j<8):figP x j=hexL.getD ((x>>>(4*(7-j))).toNat%16) 0:=by
 unfold figP
 have e:((x>>>(4*(7-j)))&&& BitVec.ofInt 32 15).toNat=(x>>>(4*(7-j))).toNat%16:=by
  rw[BitVec.toNat_and];exact Nat.and_two_pow_sub_one_eq_mod _ 4
 rw[e];rfl
theorem ze6{n:Nat}(h:n<16):(hexL.take (n+1)).drop n=[hexL.getD n 0]:=by
 have key:∀i:Fin 16,(hexL.take (i.val+1)).drop i.val=[hexL.getD i.val 0]:=by decide +kernel
 exact key ⟨n,h⟩
theorem zb8(x:BitVec 32){k:Nat}(h:k<8):(x3 x 8).drop (8-(k+1))=figP x (7-k)::(x3 x 8).drop (8-k):=by
 have d5:(x3 x 8).length=8:=by simp[x3]
 rw[Qv Om,show 8-(k+1)+1=8-k by omega];congr 1;simp[x3,show 8-(k+1)=7-k by omega]
theorem q1o(x:BitVec 32)(st:List AObj):qr E 87 [Wv x] st λr st'=>r=Sv (x3 x 8)∧st'=st:=by
 refine q5 (qt _) (qs Tryz.func87 rfl (Qa rfl) ?_);have d5:(x3 x 8).length=8:=by simp[x3]
 repeat' (first|apply qq|apply q6|apply qh|apply qj|apply qi)
 refine jt (λ(k:Nat)s=>k<=8∧StA [(0,Wv (x>>>(4*k))),(3,Sv ((x3 x 8).drop (8-k))),(4,Iv k)] (st++[]) [] s) (λk=>8-k) 0 ⟨Om,z7 ⟨by simp;rfl,by simp[d5];rfl,rfl,trivial⟩⟩ ?_;rintro k _ ⟨hk,t,rfl⟩;have hn:(x>>>(4*k)).toNat%16<16:=Xi _ (by decide);have hd:((x3 x 8).drop (8-k)).length=k:=by simp[d5];omega
 generalize hq:x>>>(4*k)=q at *;have hql:=q.isLt;repeat' (first|apply qq|apply q6|apply qh|apply qj|apply ql|apply qi|(apply qv;(iterate 3 exact rfl))|(apply qe;exact rfl;apply cd_d<;>intro h)|(apply jy;exact rfl;exact rfl;exact cOs)|(apply zo;exact rfl;exact rfl;exact q8 Om Om)|(apply qgo;(iterate 4 exact rfl);exact cAs;exact cAs)|apply qz|apply jd|apply qw|(apply qzu (n:=16);exact rfl;exact rfl;omega)|(apply qqd (n:=16);exact rfl;exact rfl;omega;exact qzp Om)|(apply qzs (n:=1);exact rfl;exact rfl;exact qzp Om))
 .refine⟨k+1,⟨Om,z7 ⟨?_,?_,rfl,trivial⟩⟩,Om⟩
  .refine congrArg (λn:Nat=>AV.v (.int .u32 (n:Int))) (?_:q.toNat / 16=(x>>>(4*(k+1))).toNat)
   rw[show 4*(k+1)=4*k+4 by omega,BitVec.shiftRight_add,hq,BitVec.toNat_ushiftRight,Nat.shiftRight_eq_div_pow]
  .refine congrArg Sv (?_:(hexL.take (q.toNat%16+1)).drop (q.toNat%16)++_=_)
   rw[zb8 x Om,ze6 hn,zio x Om,show 4*(7-(7-k))=4*k by omega,hq];rfl
 .have e:k=8:=by omega
  subst e;exact qo rfl (q7 rfl) ⟨congrArg Sv Sx,_,rfl⟩
end Go.Proofs.YtihlchbgjdkmpaaGreatDoor
namespace Go.Pl
open Go
def sp:Bool->qc->Bool
 |_,[]=>true
 |f,c::l=>(!f||decide (c=32))&&sp (decide (c=10)) l
theorem qp7:∀l,sp false l=sp true (past 10 l)
 | []=>rfl
 |c::l=>by
  by_cases h:c=10
  .subst h;simp[sp,past,upto]
  .have e:past 10 (c::l)=past 10 l:=by simp[past,upto,h]
   rw[e,<-qp7 l];simp[sp,h]
theorem q65{l:qc}(h:l≠[]):sp true l=(decide ([32]<+:upto 10 l)&&sp true (past 10 l)):=by
 cases l with
 |nil=>exact absurd rfl h
 |cons c r=>
  by_cases hc:c=10
  .subst hc;simp[sp,upto]
  .have e:past 10 (c::r)=past 10 r:=by simp[past,upto,hc]
   have e2:upto 10 (c::r)=c::upto 10 r:=by simp[upto,hc]
   rw[e,e2,<-qp7];simp[sp,hc,eq_comm]
theorem qow:∀(n:Nat)(l:qc),l.length<=n->((∀x∈zp l,[32]<+:x.1)↔sp true l=true)
 |0,l,h=>by
  have:l=[]:=Qk.1 Om;subst this
  simp[vu,sp]
 |n+1,l,h=>by
  by_cases hl:l=[]
  .subst hl;simp[vu,sp]
  .rw[wh hl,q65 hl,Qr,<-qow n (past 10 l) (by have:=xp (c:=10) hl;omega)]
   simp only[Zd,forall_eq_or_imp,decide_eq_true_eq]
theorem qeo(l:qc):(v6 [32] l).2=sp true l:=by
 unfold v6;by_cases h:sp true l=true
 .rw[if_pos ((qow _ l (Qd _)).2 h),h]
 .rw[if_neg (λh'=>h ((qow _ l (Qd _)).1 h'))]
  simp only[Bool.not_eq_true]at h;rw[h]
theorem zgq:∀(f:Bool)(l m:qc),sp f (l++m)=true->sp f l=true
 |_,[],_,_=>rfl
 |f,c::l,m,h=>by
  simp only[Qf,sp,Qr]at h⊢;exact⟨h.1,zgq _ l m h.2⟩
def qfa(f:Bool)(l:qc):Bool:=match l.getLast? with|none=>f|some c=>decide (c=10)
theorem zb4(f:Bool)(c:UInt8)(l:qc):qfa f (c::l)=qfa (decide (c=10)) l:=by
 cases l with
 |nil=>simp[qfa]
 |cons b l=>
  unfold qfa;rw[List.getLast?_cons_cons]
  cases hb:(b::l).getLast? with
  |none=>simp at hb
  |some x=>rfl
theorem qrv:∀(f:Bool)(l m:qc),sp f (l++m)=(sp f l&&sp (qfa f l) m)
 |f,[],m=>by simp[sp,qfa]
 |f,c::l,m=>by
  simp only[Qf,sp];rw[qrv _ l m,zb4,Bool.and_assoc]
theorem qmb(l:qc):yr l↔2<=l.length∧l.length<=50000∧l.getLast?=some 10∧sp true l=true:=by
 unfold yr;rw[qeo]
theorem qf6:∀(n u:Nat),u<=n->∀c∈Lib.decDigits u,48<=c.toNat∧c.toNat<=57
 |n,u,hn,c,hc=>by
  by_cases h:u<10
  .rw[Lib.decDigits_one h]at hc
   simp only[Qz]at hc;subst hc;rw[UInt8.toNat_ofNat'];omega
  .rw[yq h,Qm]at hc
   cases n with
   |zero=>omega
   |succ n=>
    rcases hc with hc|hc
    .exact qf6 n (u / 10) Om c hc
    .exact qf6 n (u%10) Om c hc
theorem qge(n:Nat):Lib.itoa (n:Int)=Lib.decDigits n:=by
 unfold Lib.itoa;rw[if_neg Om];simp
theorem qur(n:Nat):∀c∈Lib.itoa (n:Int),48<=c.toNat∧c.toNat<=57:=by
 rw[qge];exact qf6 n n (Qd _)
theorem q34(u:Nat):Lib.decDigits u≠[]:=by
 intro h;have:=congrArg Zt h;rw[Lib.decDigits_length]at this;have:=Lib.nDigits_pos u;simp at *;omega
theorem q1c:∀(a:Nat)(l m:qc)(b:Nat),Lib.parseUint10 a l=.ok b->Lib.parseUint10 a (l++m)=Lib.parseUint10 b m
 |a,[],m,b,h=>by
  simp only[Lib.parseUint10,Lib.NumEnd.ok.injEq]at h
  subst h;rfl
 |a,c::l,m,b,h=>by
  simp only[Qf,Lib.parseUint10]at h⊢;split at h
  .rename_i hd
   rw[if_pos hd];split at h
   .cases h
   .rename_i h1
    rw[if_neg h1];split at h
    .cases h
    .rename_i h2
     rw[if_neg h2];exact q1c _ l m b h
  .cases h
theorem q1e:∀(n u:Nat),u<=n->u<1000000000000000000->Lib.parseUint10 0 (Lib.decDigits u)=.ok u
 |n,u,hn,hu=>by
  have key:∀(a d:Nat),a<100000000000000000->d<10->Lib.parseUint10 a (Lib.decDigits d)=.ok (a*10+d):=by
   intro a d ha hd;have e:(UInt8.ofNat (48+d)).toNat=48+d:=by rw[UInt8.toNat_ofNat'];omega
   rw[Lib.decDigits_one hd];simp only[Lib.parseUint10,e];rw[if_pos Om,if_neg Om,if_neg Om];congr 1;omega
  by_cases h:u<10
  .have:=key 0 u Om h
   simpa using this
  .cases n with
   |zero=>omega
   |succ n=>
    rw[yq h,q1c 0 _ _ (u / 10) (q1e n (u / 10) Om Om),key _ _ Om Om];congr 1;omega
theorem zd1{n:Nat}(h:n<1000000000000000000):Lib.atoiAll (Lib.itoa (n:Int))=.ok (n:Int):=by
 have hp:=q1e n n (Qd _) h;have hd:=qf6 n n (Qd _);rw[qge]
 cases hl:Lib.decDigits n with
 |nil=>exact absurd hl (q34 n)
 |cons c r=>
  rw[hl]at hp hd;have hc:=hd c Sx;simp only[Lib.atoiAll];have h1:¬(c.toNat=43∨c.toNat=45):=Om
  rw[if_neg h1];have hm:Lib.parseMag (c::r)=.ok n:=by unfold Lib.parseMag;rw[if_neg Sx];exact hp
  rw[hm];have h2:¬c.toNat=45:=Om
  simp only[h2,not_false_iff,true_and,false_and,if_false];rw[if_neg Om]
theorem qdm{n:Nat}(h1:1<=n)(h2:n<=50000):kz (Lib.itoa (n:Int))=n:=by
 have:=qw9 (zd1 (n:=n) Om);rw[if_pos ⟨rfl,Om,Om⟩]at this;omega
theorem qdb{l:qc}{n:Nat}(h:kz l=n)(hn:1<=n):l=Lib.itoa (n:Int):=by
 unfold kz at h;split at h
 .split at h
  .rename_i v _ hv
   have:v=(n:Int):=Om
   rw[<-this,hv.1]
  .omega
 .omega
theorem qnm:∀(n u j:Nat),u<=n->1<=u->1<=j->j<=(Lib.decDigits u).length->∃m,1<=m∧m<=u∧(Lib.decDigits u).take j=Lib.decDigits m
 |n,u,j,hn,hu,hj,hl=>by
  by_cases h:u<10
  .refine⟨u,hu,Qd _,?_⟩
   rw[Lib.decDigits_one h]at hl⊢;simp only[List.length_singleton]at hl;have:j=1:=Om
   subst this;rfl
  .cases n with
   |zero=>omega
   |succ n=>
    rw[yq h]at hl⊢;have h1:(Lib.decDigits (u%10)).length=1:=by rw[Lib.decDigits_one Om];rfl
    rw[Za,h1]at hl;by_cases hj2:j<=(Lib.decDigits (u / 10)).length
    .obtain⟨m,m1,m2,m3⟩:=qnm n (u / 10) j Om Om hj hj2
     exact⟨m,m1,Om,by rw[List.take_append_of_le_length hj2,m3]⟩
    .refine⟨u,hu,Qd _,?_⟩
     rw[Zc (by rw[Za,h1];omega),<-yq h]
end Go.Pl
namespace Go.Proofs.YtihlchbgjdkmpaaGreatDoor
open Go Go.Pl
def wr(n:Nat)(fig:qc):qc:=zf++(Lib.itoa n++32::fig)
theorem zir(n:Nat)(fig:qc):qiz n fig=wr n fig++[10]:=by simp[qiz,wr,zf]
theorem qfe(n:Nat){c:UInt8}(h:¬(48<=c.toNat∧c.toNat<=57)):c∉Lib.itoa (n:Int):=λhc=>h (qur n c hc)
theorem qq0{f:qc}(h:xk f){c:UInt8}(hc:c∉hexL):c∉f:=λh'=>hc (h c h')
theorem qcq(n:Nat){fig:qc}(h:xk fig):10∉wr n fig:=by
 unfold wr;simp only[Qm,Zd,not_or];exact⟨by decide,qfe n (by decide),by decide,qq0 h (by decide)⟩
theorem qko(l:qc):Lib.trimPrefix (zf++l) zf=l:=by
 rw[qea (Qe _ _),Qh]
theorem q5z{n:Nat}{fig:qc}(h2:2<=n)(hn:n<=50000)(hf:fig.length=8)(hx:xk fig):jh (wr n fig)=(n,fig,true):=by
 unfold jh wr;have mj:32∉Lib.itoa (n:Int):=qfe n (by decide);rw[qko,v7 fig mj,xv fig mj,qdm Om hn];rw[decide_eq_true ⟨Qe _ _,Sx,h2,hf,hx⟩]
theorem qpd{n:Nat}{fig:qc}(r:qc)(h2:2<=n)(hn:n<=50000)(hf:fig.length=8)(hx:xk fig):
  zi (wr n fig++10::r)=if r.length<n then(yl r ((n:Int)-r.length),[],0)
   else if yr (r.take n)then xo (r.drop n) (r.take n) fig (qeg n)else(3,[],0):=by
 have hm:10∈wr n fig++10::r:=Sx
 have g9:=qcq n hx;unfold zi;rw[if_pos hm,v7 r g9,xv r g9,q5z h2 hn hf hx];simp only[if_true]
structure qr7 (n:Nat) (fig body:qc):Prop where
 two:2<=n
 most:n<=50000
 len:body.length=n
 good:yr body
 figs:fig.length=8
 hex:xk fig
def recL(n:Nat)(fig body:qc):qc:=wr n fig++10::(body++qae n)
theorem qnx(l:qc):recF l=recL l.length (sumF l) l:=by
 unfold recF recL;rw[zir];simp
theorem qg2{l a b:qc}(h:l<+:a++b):l<+:a∨∃r,l=a++r∧r<+:b:=by
 rcases Nat.le_total l.length a.length with hl|hl
 .exact .inl (Zh h (Qe _ _) hl)
 .obtain⟨r,hr⟩:=Zh (Qe a b) h hl
  exact .inr ⟨r,hr.symm,by rw[<-hr]at h;exact(Qc a).1 h⟩
theorem qkt{a b:qc}{c:UInt8}(h:a<+:b)(hc:c∉b):c∉a:=λh'=>hc (h.subset h')
theorem zce{a b:qc}(h:a<+:b)(hb:xk b):xk a:=λc hc=>hb c (h.subset hc)
theorem qrg{n:Nat}{fig l:qc}(h2:2<=n)(hn:n<=50000)(hf:fig.length=8)(hx:xk fig)(h:l<+:wr n fig):yh l=true:=by
 unfold wr at h;rcases qg2 h with h|⟨t,rfl,ht⟩
 .unfold yh
  by_cases hb:zf<+:l
  .have e:l=zf:=(h.eq_of_length_le hb.length_le)
   rw[if_pos hb,e];decide
  .rw[if_neg hb]
   exact decide_eq_true h
 .unfold yh
  rw[if_pos (Qe _ _)];have ed:(zf++t).drop 7=t:=by rw[show(7:Nat)=zf.length by rfl,Qh]
  rw[ed];have mj:32∉Lib.itoa (n:Int):=qfe n (by decide);rcases qg2 ht with ht|⟨r,rfl,hr⟩
  .have h3:32∉t:=qkt ht mj
   rw[xx h3];have hp:past 32 t=[]:=by unfold past;rw[xx h3];simp
   rw[hp];refine decide_eq_true ⟨λh'=>h3 h'.1,λh'=>?_,Sx,by intro c hc;simp at hc⟩;obtain⟨b9,h0⟩:=h';rw[qge]at ht;have cz:1<=t.length:=List.length_pos_iff.2 b9;obtain⟨m,m1,m2,m3⟩:=qnm n n t.length (Qd _) Om cz ht.length_le;rw[<-Zb.1 ht,<-qge]at m3;rw[m3,qdm m1 Om]at h0;omega
  .cases r with
   |nil=>
    rw[Qw,xx mj];have hp:past 32 (Lib.itoa (n:Int))=[]:=by unfold past;rw[xx mj];simp
    rw[hp,qdm Om hn]
    exact decide_eq_true ⟨λh'=>mj h'.1,λh'=>by omega,Sx,by intro c hc;simp at hc⟩
   |cons c r=>
    obtain⟨rfl,hr2⟩:=Qi.1 hr;rw[v7 r mj,xv r mj,qdm Om hn];exact decide_eq_true ⟨λh'=>by omega,λh'=>by omega,by have:=hr2.length_le;omega,zce hr2 hx⟩
theorem q8n{n:Nat}{r body:qc}(hg:yr body)(hl:body.length=n)(hr:r<+:body)(d8:r.length<n):yl r ((n:Int)-r.length)=2:=by
 obtain⟨g1,g2,g3,g4⟩:=(qmb body).1 hg;obtain⟨m,rfl⟩:=hr;unfold yl;rw[qeo];rw[qrv,Qr]at g4;refine if_pos ⟨g4.1,?_⟩;rintro⟨h1,h2⟩;have hm:m.length=1:=by simp at hl;omega
 obtain⟨c,rfl⟩:=List.length_eq_one_iff.1 hm;rw[Qs]at g3;simp at g3;subst g3
 have hf:qfa true r=true:=by
  unfold qfa;rcases h1 with rfl|h1
  .rfl
  .rw[h1];rfl
 rw[hf]at g4;simp[sp]at g4
theorem zmp{n:Nat}{fig body l:qc}(R:qr7 n fig body)(h:l<+:recL n fig body)(hl:l.length<(recL n fig body).length):zi l=(2,[],0):=by
 obtain⟨h2,hn,d5,hg,hf,hx⟩:=R;unfold recL at h hl;rcases qg2 h with h|⟨r,rfl,hr⟩
 .have g9:10∉l:=qkt h (qcq n hx)
  unfold zi;rw[if_neg g9,if_pos (qrg h2 hn hf hx h)]
 .cases r with
  |nil=>
   rw[Qw];unfold zi
   rw[if_neg (qcq n hx),if_pos (qrg h2 hn hf hx (Zo _))]
  |cons c r=>
   obtain⟨rfl,hr2⟩:=Qi.1 hr;rw[qpd r h2 hn hf hx];rcases qg2 hr2 with hr|⟨q,rfl,hq⟩
   .by_cases d8:r.length<n
    .rw[if_pos d8,q8n hg d5 hr d8]
    .have e:r=body:=hr.eq_of_length_le Om
     subst e;rw[if_neg d8,<-d5,Qg,if_pos hg,List.drop_length];unfold xo;rw[if_pos ⟨by rw[qbb];simp,Sx⟩]
   .rw[if_neg So,<-d5,Xk,Qh,if_pos hg]
    unfold xo;rw[if_pos ⟨by simp at hl;rw[d5];omega,by rw[d5];exact hq⟩]
theorem qxg(f:qc)(hl:f.length<=8)(hx:xk f):∃g:qc,g.length=8∧xk g∧f<+:g:=
 ⟨f++Ql (8-f.length) 48,So,λc hc=>by
  rw[Qm,List.mem_replicate]at hc;rcases hc with hc|⟨_,rfl⟩
  .exact hx c hc
  .decide,Qe _ _⟩
theorem qzb:∀(k:Nat),sp false (Ql k 97++[10])=true
 |0=>by simp[sp]
 |k+1=>by rw[List.replicate_succ,Qf];simp only[sp];exact by simpa using qzb k
theorem q3w{n:Nat}{r:qc}(hn:n<=50000)(d8:r.length<n)(h2:2<=n)(hp:yl r ((n:Int)-r.length)=2):∃body:qc,body.length=n∧yr body∧r<+:body:=by
 unfold yl at hp;split at hp
 .rename_i h
  obtain⟨hs,hfr⟩:=h;rw[qeo]at hs;by_cases hf:r=[]∨r.getLast?=some 10
  .have hk:r.length+2<=n:=by
    rcases Qp (r.length+1) n with h|h
    .omega
    .exact absurd ⟨hf,Om⟩ hfr
   refine⟨r++(32::(Ql (n-r.length-2) 97++[10])),So,?_,Qe _ _⟩;rw[qmb];refine⟨So,So,by simp[Qs,List.getLast?_cons],?_⟩;rw[qrv,hs];simp only[sp,Bool.true_and];have:=qzb (n-r.length-2)
   simpa using this
  .refine⟨r++(Ql (n-r.length-1) 97++[10]),So,?_,Qe _ _⟩
   rw[qmb];refine⟨So,So,by simp[Qs],?_⟩;rw[qrv,hs]
   have e:qfa true r=false:=by
    unfold qfa
    cases hq:r.getLast? with
    |none=>exact absurd (.inl (List.getLast?_eq_none_iff.1 hq)) hf
    |some c=>
     refine decide_eq_false λh=>hf (.inr ?_);rw[hq,h]
   rw[e,qzb];rfl
 .simp at hp
theorem qg8{n:Nat}(h2:2<=n)(hn:n<=50000):∃body:qc,body.length=n∧yr body:=by
 obtain⟨b,h1,h3,_⟩:=q3w (n:=n) (r:=[]) hn So h2 (by
  unfold yl;rw[qeo]
  rw[if_pos ⟨rfl,by rintro⟨_,h⟩;simp at h;omega⟩])
 exact⟨b,h1,h3⟩
theorem qjx{a b c:qc}(h:a<+:b):a<+:b++c:=h.trans (Qe _ _)
theorem qgz{n:Nat}{fig body l:qc}(h:l<+:wr n fig):l<+:recL n fig body∧l.length<(recL n fig body).length:=by
 refine⟨qjx h,?_⟩;have:=h.length_le;unfold recL;simp;omega
theorem zmn{l:qc}(h:(zi l).1=2):∃n fig body,qr7 n fig body∧l<+:recL n fig body∧l.length<(recL n fig body).length:=by
 unfold zi at h;split at h
 .rename_i g9
  split at h
  .rename_i ho
   generalize hr:past 10 l=r at *;have hl:=wl g9;rw[hr]at hl;generalize hu:upto 10 l=u at *
   -- the first line
   have hop:u=wr (jh u).1 (jh u).2.1∧2<=(jh u).1∧(jh u).1<=50000∧(jh u).2.1.length=8∧xk (jh u).2.1:=by
    simp only[jh,decide_eq_true_eq]at ho⊢;obtain⟨o1,o2,o3,o4,o5⟩:=ho;refine⟨?_,o3,qa3 _,o4,o5⟩;obtain⟨t,rfl⟩:=o1;rw[qko]at *;have:=qdb rfl (Xp (by decide) o3);unfold wr;rw[<-this,<-wl o2]
   generalize(jh u).1=n at *;generalize(jh u).2.1=fig at *;obtain⟨rfl,h2,hn,hf,hx⟩:=hop;split at h
   .rename_i d8
    obtain⟨body,b1,b2,b3⟩:=q3w hn d8 h2 h;refine⟨n,fig,body,⟨h2,hn,b1,b2,hf,hx⟩,?_,?_⟩
    .rw[hl]
     unfold recL;rw[Qc,Qi];exact⟨rfl,qjx b3⟩
    .rw[hl]
     unfold recL;have:=b3.length_le;have:=qbb n;simp;omega
   .rename_i fp
    split at h
    .rename_i hg
     have d5:(r.take n).length=n:=So
     refine⟨n,fig,r.take n,⟨h2,hn,d5,hg,hf,hx⟩,?_⟩;unfold xo at h;rw[d5]at h;split at h
     .rename_i hc
      rw[hl];unfold recL;constructor
      .rw[Qc,Qi]
       refine⟨rfl,?_⟩
       conv=>lhs;rw[<-Qq n r]
       rw[Qc];exact hc.2
      .have:=hc.1
       simp at this⊢;omega
     .split at h<;>simp at h
    .simp at h
  .simp at h
 .rename_i g9
  split at h
  .rename_i ho
   unfold yh at ho;split at ho
   .rename_i hb
    obtain⟨t,rfl⟩:=hb;have ed:(zf++t).drop 7=t:=by rw[show(7:Nat)=zf.length by rfl,Qh]
    rw[ed]at ho;obtain⟨o1,o2,o3,o4⟩:=of_decide_eq_true ho;by_cases mj:32∈t
    .have nz:2<=kz (upto 32 t):=by
      rcases Qp (kz (upto 32 t)) 2 with h|h
      .exact absurd ⟨mj,h⟩ o1
      .exact h
     obtain⟨fig,f1,f2,f3⟩:=qxg _ o3 o4;obtain⟨body,b1,b2⟩:=qg8 nz (qa3 _);refine⟨_,fig,body,⟨nz,qa3 _,b1,b2,f1,f2⟩,qgz ?_⟩;unfold wr;rw[Qc]
     conv=>lhs;rw[wl mj]
     rw[qdb (l:=upto 32 t) rfl Om];rw[qdm Om (qa3 _),Qc,Qi];exact⟨rfl,f3⟩
    .rw[xx mj]at o2
     by_cases ht:t=[]
     .subst ht
      obtain⟨body,b1,b2⟩:=qg8 (n:=2) Om Om;refine⟨2,Ql 8 48,body,⟨Om,Om,b1,b2,Sx,by decide⟩,qgz ?_⟩;unfold wr;simp
     .have cz:1<=kz t:=by
       rcases Xd (kz t)with h|h
       .exact absurd ⟨ht,h⟩ o2
       .exact h
      have d7:=qa3 t;have ht2:=qdb (l:=t) rfl cz;generalize kz t=m at *;subst ht2;by_cases hm:m=1
      .subst hm
       obtain⟨body,b1,b2⟩:=qg8 (n:=10) Om Om;refine⟨10,Ql 8 48,body,⟨Om,Om,b1,b2,Sx,by decide⟩,qgz ?_⟩;unfold wr;rw[Qc];have e1:Lib.itoa ((1:Nat):Int)=[49]:=by rw[qge,Lib.decDigits_one (by decide)];rfl
       have e2:Lib.itoa ((10:Nat):Int)=[49,48]:=by rw[qge,yq (by decide),Lib.decDigits_one (by decide),Lib.decDigits_one (by decide)];rfl
       rw[e1,e2];exact⟨_,rfl⟩
      .obtain⟨body,b1,b2⟩:=qg8 (n:=m) Om Om
       refine⟨m,Ql 8 48,body,⟨Om,Om,b1,b2,Sx,by decide⟩,qgz ?_⟩;unfold wr;rw[Qc];exact Qe _ _
   .rename_i hb
    have hp:=of_decide_eq_true ho;obtain⟨body,b1,b2⟩:=qg8 (n:=2) Om Om;refine⟨2,Ql 8 48,body,⟨Om,Om,b1,b2,Sx,by decide⟩,qgz ?_⟩;unfold wr;exact qjx hp
  .simp at h
theorem qth(s:BitVec 32):xk (x3 s 8):=by
 intro c hc;simp only[x3,Zp]at hc;obtain⟨j,_,rfl⟩:=hc;unfold figP;have h:=Go.Av.and15_lt (s>>>(4*(7-j)));generalize((s>>>(4*(7-j)))&&& BitVec.ofInt 32 15).toNat=k at h;have key:∀i:Fin 16,([48,49,50,51,52,53,54,55,56,57,97,98,99,100,101,102]:qc).getD i.val 0∈hexL:=by decide
 exact key ⟨k,h⟩
theorem zcz{b:qc}(h:yr b):qr7 b.length (sumF b) b:=⟨h.1,h.2.1,rfl,h,qja b,qth _⟩
theorem qts(b:qc)(h:yr b):((recF b).length:Int)=qeg b.length:=by
 obtain⟨g1,g2,_⟩:=h;unfold recF qeg;rw[if_neg Om];simp only[Za,qdk,qja];simp
theorem zjx{b:qc}(m:qc)(h:yr b):zi (recF b++m)=(1,b,((recF b).length:Int)):=by
 have R:=zcz h;rw[qts b h,qnx];unfold recL;rw[Qb,Qf,Qb,qpd _ R.two R.most R.figs R.hex,if_neg Sx,Xk,Qh,if_pos h];unfold xo;rw[if_neg (by simp;intro h;omega),if_pos ⟨Qe _ _,rfl⟩]
end Go.Proofs.YtihlchbgjdkmpaaGreatDoor
namespace Go.Proofs.YtihlchbgjdkmpaaGreatDoor
open Go Go.Av Go.RowKit Go.Proofs Go.Pl
theorem zet{l:qc}{k:Nat}(hk:k<l.length):qfa true (l.take k)=decide (k=0∨l.getD (k-1) 0=10):=by
 cases k with
 |zero=>simp[qfa]
 |succ k=>
  rw[qbw Om];simp[qfa,Qs]
theorem zau{l:qc}{k:Nat}(hk:k<l.length):sp true (l.take (k+1))=(sp true (l.take k)&&(!decide (k=0∨l.getD (k-1) 0=10)||decide (l.getD k 0=32))):=by
 rw[qbw hk,qrv,zet hk];simp[sp]
theorem zos{l:qc}{k:Nat}(hk:k<l.length)(h1:k=0∨l.getD (k-1) 0=10)(h2:l.getD k 0≠32):sp true l=false:=by
 cases h:sp true l with
 |false=>rfl
 |true=>
  have e:=zgq true (l.take (k+1)) (l.drop (k+1)) (by rw[Qq];exact h);rw[zau hk,decide_eq_true h1,decide_eq_false h2]at e;simp at e
theorem zpb{l:qc}{k:Nat}(hk:k<l.length)(h1:sp true (l.take k)=true)(h2:(k=0∨l.getD (k-1) 0=10)->l.getD k 0=32):sp true (l.take (k+1))=true:=by
 rw[zau hk,h1];by_cases h:k=0∨l.getD (k-1) 0=10
 .rw[decide_eq_true h,decide_eq_true (h2 h)];rfl
 .rw[decide_eq_false h];rfl
theorem qxq(l:List UInt8)(st:List AObj)(hl:l.length<4294967281):qr E 185 [Sv l] st λr st'=>r=Bv (sp true l)∧st'=st:=by
 refine q5 (qt _) (qs Tryz.func185 rfl (Qa rfl) ?_);repeat' (first|apply qq|apply q6|apply qh|apply qj|apply qi)
 refine jt (λ(k:Nat)s=>k<=l.length∧sp true (l.take k)=true∧StA [(0,Sv l),(3,Iv k)] (st++[]) [] s) (λk=>l.length-k) 0 ⟨Om,by simp[sp],z7 ⟨rfl,rfl,trivial⟩⟩ ?_;rintro k _ ⟨hk,h1,t,rfl⟩;repeat' (first|apply qq|apply q6|apply qh|apply qj|apply ql|apply qi|(apply qv;(iterate 3 exact rfl))|(apply qx;(iterate 4 exact rfl))|(apply xf;exact cAo)|(apply wc;exact cAo)|(apply wg;exact cAo)|(apply xu;exact cAo)|(apply qaa;exact cRa)|(apply jn<;>intro h)|(apply qk;exact rfl;apply w7;exact cAo)|(apply qk;exact rfl;apply wt;exact cAo)|(apply qk;exact rfl;apply pk_t;exact cRa)|(apply qe;exact rfl;apply cd_f;exact cRa)|(apply qe;exact rfl;apply cd_d<;>intro h)|(apply zu;(iterate 3 exact rfl))|(apply zo;exact rfl;exact rfl;exact q8 Om Om)|(apply ww;exact rfl;exact rfl;exact q8 Om Om)|(apply wm;(iterate 3 exact rfl);exact cAs)|apply qz|apply jd|apply qw|(apply qip;(iterate 3 exact rfl);omega;omega))
 all_goals
  have e1:((k:Int)-1).toNat=k-1:=Om
  simp only[e1,qx8,qcb,Classical.not_not]at *
 all_goals first
  |exact qo rfl (q7 rfl) ⟨congrArg Bv (zos (k:=k) Om (by first|(left;omega)|(right;assumption)) (by assumption)).symm,_,rfl⟩
  |exact⟨k+1,⟨Om,zpb Om h1 (by first|(intro _;assumption)|(rintro(h|h);omega;contradiction)),z7 ⟨rfl,rfl,trivial⟩⟩,Om⟩
  |skip
 have e:k=l.length:=Om
 subst e;rw[Qg]at h1;exact qo rfl (q7 rfl) ⟨congrArg Bv h1.symm,_,rfl⟩
theorem zgb(l:List UInt8)(st:List AObj)(hl:l.length<4294967281):qr E 186 [Sv l] st λr st'=>r=Bv (decide (yr l))∧st'=st:=by
 refine q5 (qt _) (qs Tryz.func186 rfl (Qa rfl) ?_);repeat' (first|apply qq|apply qh|apply qj|apply ql|apply qi|(apply qv;(iterate 3 exact rfl))|(apply qx;(iterate 4 exact rfl))|(apply xf;exact cAo)|(apply xu;exact cAo)|(apply xq;exact cRa)|(apply jn<;>intro h)|(apply qk;exact rfl;apply w7;exact cAo)|(apply qk;exact rfl;apply wt;exact cAo)|(apply qk;exact rfl;apply pk_f;exact cRa)|(apply zu;(iterate 3 exact rfl))|(apply ww;exact rfl;exact rfl;exact q8 Om Om)|apply qw|(apply qip;(iterate 3 exact rfl);omega;omega)|(apply qm;exact Tryz.call185;exact qxq _ _ hl))
 all_goals
  have g:=qmb l
  have g2:1<=l.length->(l.getLast?=some 10↔((l.getD ((l.length:Int)-1).toNat 0).toNat:Int)=10):=λh=>by
   have e:((l.length:Int)-1).toNat=l.length-1:=Om
   rw[e,qcb,Zm];simp[Qy,show l.length-1<l.length by omega]
  refine qo rfl (q7 rfl) ⟨congrArg Bv (?_:_=decide (yr l)),_,rfl⟩
 .have e:yr l↔sp true l=true:=by rw[g];exact⟨λh=>h.2.2.2,λh=>⟨Om,Om,(g2 Om).2 (by assumption),h⟩⟩
  simp[e]
 .exact(decide_eq_false λh=>by rw[g]at h;exact absurd ((g2 Om).1 h.2.2.1) (by assumption)).symm
 .exact(decide_eq_false λh=>by rw[g]at h;omega).symm
 .exact(decide_eq_false λh=>by rw[g]at h;omega).symm
theorem qna(n:Nat)(f:List UInt8)(st:List AObj)(hn:n<=9223372036854775807)(hf:f.length<4294967281):qr E 86 [Iv n,Sv f] st λr st'=>r=.tu [Sv (qiz n f),Sv (qae n)]∧st'=st:=by
 refine q5 (qmq _ _) (qs Tryz.func86 rfl (Qa rfl) ?_);have h1:=qbl n hn;repeat' (first|apply qq|apply qh|apply qj|apply ql|apply qi|(apply jy;exact rfl;exact rfl;exact cOs)|apply qw|(apply qm;exact Tryz.call56;exact qal _ _ Om Om))
 exact qo rfl (kw rfl) ⟨zpf (by simp[qiz,qae]),_,rfl⟩
theorem q8x(l:List UInt8)(st:List AObj)(hl:l.length<=50000):qr E 48 [Sv l] st λr st'=>r=Sv (recF l)∧st'=st:=by
 refine q5 (qt _) (qs Tryz.func48 rfl (Qa rfl) ?_);have h1:=qbl l.length Om;have h2:=qdk l.length (x3 (addP 0 l) 8);have h3:=qbb l.length;have h4:(x3 (addP 0 l) 8).length=8:=by simp[x3]
 repeat' (first|(apply q39;first|apply qq|apply q6|apply qh|(apply qe;exact rfl;apply vo;exact cAo)|(apply qe;exact rfl;apply v8;exact cAo)|(apply qe;exact rfl;apply qit;exact cRa)|(apply qe;exact rfl;apply qis;exact cRa)|(apply qe;exact rfl;apply cd_n<;>intro h)|(apply qe;exact rfl;apply cd_t;exact cRa)|(apply qe;exact rfl;apply cd_f;exact cRa)|(apply qe;exact rfl;apply cd_d<;>intro h)|(apply qe;exact rfl;apply cd_s<;>intro h)|(apply qky;exact rfl;kernel_rfl)|apply qz|apply jd|apply qw)|(apply qwf;first|(apply qx;(iterate 4 exact rfl))|(apply qaw;(iterate 4 exact rfl)))|(apply q9s;first|(apply xf;exact cAo)|(apply wc;exact cAo)|(apply wg;exact cAo)|(apply xu;exact cAo)|(apply qqy;exact cRa)|(apply qaj;exact cRa)|(apply qbp;exact cRa)|(apply qon;exact cRa)|(apply qhr<;>intro h)|(apply qaa;exact cRa)|(apply qet;exact cRa)|(apply qa8;exact cRa)|(apply xq;exact cRa)|(apply jn<;>intro h)|(apply qgd<;>intro h))|(apply q9r;first|apply qjf|(apply qyg;(iterate 4 exact rfl))|(apply q3s;exact rfl;exact rfl;exact q8 Om Om)|(apply qyi;(iterate 4 exact rfl);exact cAs;exact cAs)|(apply qmz;(iterate 5 exact rfl))|(apply qje;exact rfl;exact rfl;exact cOs)|(apply qj5;(iterate 3 exact rfl))|(apply qmy;(iterate 5 exact rfl))|(apply qhl;(iterate 4 exact rfl))|(apply qlx;(iterate 3 exact rfl))|(apply q3r;(iterate 3 exact rfl);exact cAs)|(apply qyh;exact rfl;exact rfl)|(apply qt5;exact rfl;exact rfl)|(apply qt7;(iterate 3 exact rfl);omega)|(apply qqe;(iterate 3 exact rfl))|apply qgq|apply qjd|(apply qvw;exact rfl;exact rfl;exact q8 Om Om)|(apply q9e;(iterate 3 exact rfl))|(apply qr9;(iterate 3 exact rfl);exact cAs)|(apply qr8;(iterate 3 exact rfl);exact cAs)|(apply qn8;exact rfl;exact rfl))|(apply qwe;first|(apply qv;(iterate 3 exact rfl))|(apply jo;(iterate 3 exact rfl))|(apply jy;exact rfl;exact rfl;exact cOs)|(apply zo;exact rfl;exact rfl;exact q8 Om Om)|(apply ww;exact rfl;exact rfl;exact q8 Om Om)|(apply xj;exact rfl;exact rfl)|(apply wd;exact rfl;exact rfl)|(apply qbg;exact rfl;exact rfl)|(apply qd9;exact rfl;exact rfl)|(apply qbi;(iterate 3 exact rfl))|(apply qf3;(iterate 3 exact rfl))|(apply qdy;exact rfl;exact rfl;(first|exact jg _|exact rfl);first|exact jg _|exact rfl)|(apply qj3;exact rfl;exact rfl;(first|exact jg _|exact rfl);first|exact jg _|exact rfl)|(apply qzt;exact rfl;exact rfl;(first|exact jg _|exact rfl);first|exact jg _|exact rfl)|(apply qe6;(iterate 3 exact rfl))|(apply qhi;(iterate 3 exact rfl)))|(apply q0j;first|(apply jq;(iterate 3 exact rfl))|(apply qjt;(iterate 5 exact rfl))|(apply jr;(iterate 5 exact rfl)))|(apply q0k;first|(apply qn7;exact rfl)|(apply ja;exact rfl)|(apply qhg;exact rfl))|(apply qwg;first|(apply qbt;(iterate 3 exact rfl);exact cAs)|(apply qgn;(iterate 3 exact rfl);exact cAs)|(apply qgo;(iterate 4 exact rfl);exact cAs;exact cAs)|(apply qh8;(iterate 4 exact rfl);(first|assumption|omega|exact Nat.succ_le_succ (Nat.zero_le _)|(simp;omega));exact rfl))|(apply q0i;first|(apply zu;(iterate 3 exact rfl))|(apply jp;(iterate 4 exact rfl)))|(apply qnn;first|(apply zl;(iterate 3 exact rfl))|(apply yf;(iterate 4 exact rfl)))|(apply qwh;first|(apply qe7;(iterate 11 exact rfl))|(apply jc;(iterate 11 exact rfl)))|(apply q4a;first|apply qj|apply ql|apply qi|(apply zg;exact rfl;exact rfl)|(apply qk;exact rfl;apply w7;exact cAo)|(apply qk;exact rfl;apply wt;exact cAo)|(apply qk;exact rfl;apply qi4;exact cRa)|(apply qk;exact rfl;apply qfi;exact cRa)|(apply qk;exact rfl;apply pk_t;exact cRa)|(apply qk;exact rfl;apply pk_f;exact cRa)|(apply vq;exact rfl;exact rfl)|apply qf2|(apply j7;exact rfl;exact rfl)|(apply qb1;(iterate 4 exact rfl))|(apply qj4;(iterate 3 exact rfl))|(apply wm;(iterate 3 exact rfl);exact cAs)|(apply yb;(iterate 3 exact rfl))|(apply we;(iterate 9 exact rfl))|(apply wv;exact rfl;exact rfl)|(apply qio;(iterate 4 exact rfl);(first|assumption|omega|decide);exact rfl)|(apply qch;(iterate 4 exact rfl);first|assumption|omega|decide))|(apply qm;exact Tryz.call88;exact q6r _ _ Om)|(apply qm;exact Tryz.call87;exact q1o _ _)|(apply qm;exact Tryz.call86;exact qna l.length (x3 (addP 0 l) 8) _ Om Om))
 exact qo rfl (q7 rfl) ⟨rfl,_,rfl⟩
theorem q8u(n:Int)(st:List AObj):qr E 85 [Iv n] st λr st'=>r=Iv (qeg n)∧st'=st:=by
 refine q5 (qt _) (qs Tryz.func85 rfl (Qa rfl) ?_);by_cases hr:n<2∨50000<n
 .skip
  repeat' (first|apply qq|apply qh|apply qj|apply ql|apply qi|(apply qv;(iterate 3 exact rfl))|(apply qx;(iterate 4 exact rfl))|(apply wc;exact cAo)|(apply wg;exact cAo)|(apply jn<;>intro h)|(apply qk;exact rfl;apply w7;exact cAo)|(apply qk;exact rfl;apply wt;exact cAo)|(apply qe;exact rfl;apply vo;exact cAo)|(apply qe;exact rfl;apply cd_t;exact cRa)|apply qw)
  all_goals refine qo rfl (q7 rfl) ⟨congrArg Iv (?_:_=_),_,rfl⟩
  all_goals first|exact(if_pos hr).symm|omega
 .obtain⟨k,rfl⟩:=Zq (by omega:0<=n)
  have h1:=qbl k Om;have h2:=qdk k [48,48,48,48,48,48,48,48];have h3:=qbb k;have h4:([48,48,48,48,48,48,48,48]:List UInt8).length=8:=rfl;repeat' (first|apply qq|apply qh|apply qj|apply ql|apply qi|(apply zg;exact rfl;exact rfl)|(apply qv;(iterate 3 exact rfl))|(apply qx;(iterate 4 exact rfl))|(apply wc;exact cAo)|(apply qk;exact rfl;apply wt;exact cAo)|(apply qe;exact rfl;apply v8;exact cAo)|(apply zu;(iterate 3 exact rfl))|(apply zo;exact rfl;exact rfl;exact q8 Om Om)|apply qz|apply qw|(apply qm;exact Tryz.call86;exact qna k [48,48,48,48,48,48,48,48] _ Om (by decide)))
  refine qo rfl (q7 rfl) ⟨congrArg Iv (?_:_=_),_,rfl⟩;unfold qeg;rw[if_neg hr];rfl
theorem q9x{l:qc}(h:0<l.length):l.head?=some 37↔((l.getD 0 0).toNat:Int)=37:=by
 cases l with
 |nil=>simp at h
 |cons c l=>
  simp only[List.head?_cons,Zl,List.getD_cons_zero];exact(zpg _).symm
theorem q6i(l:List UInt8)(st:List AObj)(hl:l.length<4294967281):qr E 127 [Sv l] st λr st'=>r=Bv (decide (l.head?=some 37∧qy l=5))∧st'=st:=by
 refine q5 (qt _) (qs Tryz.func127 rfl (Qa rfl) ?_);repeat' (first|apply qq|apply qh|apply qj|apply ql|apply qi|(apply qv;(iterate 3 exact rfl))|(apply qx;(iterate 4 exact rfl))|(apply xf;exact cAo)|(apply xu;exact cAo)|(apply xq;exact cRa)|(apply jn<;>intro h)|(apply qk;exact rfl;apply w7;exact cAo)|(apply qk;exact rfl;apply wt;exact cAo)|(apply qk;exact rfl;apply pk_f;exact cRa)|(apply zu;(iterate 3 exact rfl))|(apply wm;(iterate 3 exact rfl);exact cAs)|apply qw|(apply qm;exact Tryz.call177;exact qjo _ _ hl))
 all_goals refine qo rfl (q7 rfl) ⟨congrArg Bv (?_:_=decide (l.head?=some 37∧qy l=5)),_,rfl⟩
 .have e:l.head?=some 37:=(q9x Om).2 (by assumption)
  simp[e]
 .exact(decide_eq_false λh=>absurd ((q9x Om).1 h.1) (by assumption)).symm
 .have e:l=[]:=Qk.1 Om
  subst e;rfl
end Go.Proofs.YtihlchbgjdkmpaaGreatDoor
namespace Go.Proofs.YtihlchbgjdkmpaaGreatDoor
open Go Go.Pl
theorem qir:(10:UInt8)∉zf:=by decide
theorem qxa{l:qc}(h1:10∈l->(jh (upto 10 l)).2.2=false)(h2:10∉l->yh l=false):zi l=(3,[],0):=by
 unfold zi;by_cases h:10∈l
 .rw[if_pos h,if_neg (by rw[h1 h];simp)]
 .rw[if_neg h,if_neg (by rw[h2 h];simp)]
theorem zks(c:UInt8)(l:qc):upto c l<+:l:=by
 rw[<-qha c l];exact Xg _ _
theorem R1{l:qc}(hl:l.length<=7)(h:l<+:zf):zi l=(2,[],0):=by
 have g9:10∉l:=qkt h qir;unfold zi;rw[if_neg g9,if_pos ?_];unfold yh;by_cases hb:zf<+:l
 .rw[if_pos hb,h.eq_of_length_le hb.length_le];decide
 .rw[if_neg hb];exact decide_eq_true h
theorem R2{l:qc}(hl:l.length<=7)(h:¬l<+:zf):zi l=(3,[],0):=by
 refine qxa (λg9=>decide_eq_false λh'=>?_) (λg9=>?_)
 .have:=h'.1.length_le
  have:=qfs g9;have e:zf.length=7:=rfl;omega
 .unfold yh
  by_cases hb:zf<+:l
  .have:=hb.eq_of_length_le hl
   exact absurd (this▸Zo _) h
  .rw[if_neg hb];exact decide_eq_false h
theorem R3{l:qc}(hl:7<l.length)(h:¬zf<+:l):zi l=(3,[],0):=by
 refine qxa (λg9=>decide_eq_false λh'=>h (h'.1.trans (zks 10 l))) (λg9=>?_);unfold yh;rw[if_neg h];refine decide_eq_false λh'=>?_;have:=h'.length_le;have e:zf.length=7:=rfl;omega
theorem ql5{n:Nat}{s r:qc}{c:UInt8}(hc:y5 c=false)(h:s=Lib.itoa (n:Int)++c::r):s.takeWhile y5=Lib.itoa (n:Int):=by
 subst h;have hd:=qur n;rw[Zj (λx hx=>by simp only[y5,decide_eq_true_eq];exact hd x hx),Qu (by simp[hc]),Qw]
theorem qzo{p:UInt8->Bool}{l:qc}:l.takeWhile p=l↔∀c∈l,p c=true:=by
 induction l with
 |nil=>simp
 |cons b l ih=>
  by_cases h:p b=true
  .rw[Qt h];simp[ih,h]
  .rw[Qu h];simp[h]
theorem zia{n:Nat}:(Lib.itoa (n:Int)).takeWhile y5=Lib.itoa (n:Int):=by
 rw[qzo];intro x hx;simp only[y5,decide_eq_true_eq];exact qur n x hx
theorem qzi{p:UInt8->Bool}(s:qc):s.take (s.takeWhile p).length=s.takeWhile p:=by
 induction s with
 |nil=>rfl
 |cons b s ih=>
  by_cases h:p b=true
  .rw[Qt h];simp[ih]
  .rw[Qu h];rfl
theorem qqv{s:qc}(hs:s≠[])(h:zi (zf++s)≠(3,[],0)):∃n:Nat,1<=n∧n<=50000∧s.takeWhile y5=Lib.itoa (n:Int)∧(s=Lib.itoa (n:Int)∨2<=n∧∃r,s=Lib.itoa (n:Int)++32::r∧(10∉r->r.length<=8∧xk r)∧(10∈r->(upto 10 r).length=8∧xk (upto 10 r))):=by
 have e10:10∈zf++s↔10∈s:=by simp[qir]
 have ed:(zf++s).drop 7=s:=by rw[show(7:Nat)=zf.length by rfl,Qh]
 by_cases g9:10∈s
 .have ho:(jh (upto 10 (zf++s))).2.2=true:=by
   cases hq:(jh (upto 10 (zf++s))).2.2 with
   |true=>rfl
   |false=>exact absurd (qxa (λ_=>hq) (λh'=>absurd (e10.2 g9) h')) h
  have eu:upto 10 (zf++s)=zf++upto 10 s:=by
   conv=>lhs;rw[wl g9,<-Qb]
   exact v7 _ (by simp[qir,yu])
  rw[eu]at ho;simp only[jh,decide_eq_true_eq,qko]at ho;obtain⟨_,o2,o3,o4,o5⟩:=ho;have hn:=qdb (l:=upto 32 (upto 10 s)) rfl Om;have d7:=qa3 (upto 32 (upto 10 s));generalize kz (upto 32 (upto 10 s))=n at *;have e1:=wl o2;rw[hn]at e1;have e2:=wl g9;generalize hf:past 32 (upto 10 s)=f at *
  have hf10:10∉f:=by
   have:=yu 10 s;rw[e1]at this;simp only[Qm,Zd,not_or]at this;exact this.2.2
  rw[e1,Qb,Qf]at e2;refine⟨n,Om,d7,ql5 (by decide) e2,.inr ⟨o3,_,e2,λh'=>absurd (by simp:(10:UInt8)∈f++10::past 10 s) h',λ_=>?_⟩⟩;rw[v7 _ hf10];exact⟨o4,o5⟩
 .have ho:yh (zf++s)=true:=by
   cases hq:yh (zf++s)with
   |true=>rfl
   |false=>exact absurd (qxa (λh'=>absurd (e10.1 h') g9) (λ_=>hq)) h
  unfold yh at ho;rw[if_pos (Qe _ _),ed]at ho;obtain⟨o1,o2,o3,o4⟩:=of_decide_eq_true ho;by_cases mj:32∈s
  .have nz:2<=kz (upto 32 s):=by
    rcases Qp (kz (upto 32 s)) 2 with h|h
    .exact absurd ⟨mj,h⟩ o1
    .exact h
   have hn:=qdb (l:=upto 32 s) rfl Om;have d7:=qa3 (upto 32 s);generalize kz (upto 32 s)=n at *;have e1:=wl mj;rw[hn]at e1;refine⟨n,Om,d7,ql5 (by decide) e1,.inr ⟨nz,_,e1,λ_=>⟨o3,o4⟩,λh'=>absurd (e1▸by simp[h']:(10:UInt8)∈s) g9⟩⟩
  .rw[xx mj]at o2
   have cz:1<=kz s:=by
    rcases Xd (kz s)with h|h
    .exact absurd ⟨hs,h⟩ o2
    .exact h
   have hn:=qdb (l:=s) rfl cz;have d7:=qa3 s;generalize kz s=n at *;subst hn;exact⟨n,cz,d7,zia,.inl rfl⟩
theorem q47{m n:Nat}(hm:m<=50000)(hn:n<=50000)(h:Lib.itoa (m:Int)=Lib.itoa (n:Int)):m=n:=by
 have:=congrArg numZ h;rw[qg1 Om Om,qg1 Om Om]at this;simp at this;omega
theorem zcf{n:Nat}(h:n<=50000):(Lib.itoa (n:Int)).length<=5:=by
 rw[qge,Lib.decDigits_length];exact qd2 4 n Om
theorem R5{s:qc}(hs:s≠[])(h:∀n:Nat,1<=n->n<=50000->s.takeWhile y5≠Lib.itoa (n:Int)):zi (zf++s)=(3,[],0):=by
 refine Classical.byContradiction λhc=>?_;obtain⟨n,h1,h2,h3,_⟩:=qqv hs hc;exact h n h1 h2 h3
theorem R6{n:Nat}(h1:1<=n)(h2:n<=50000):zi (zf++Lib.itoa (n:Int))=(2,[],0):=by
 have mj:32∉Lib.itoa (n:Int):=qfe n (by decide)
 have g9:10∉zf++Lib.itoa (n:Int):=by
  simp only[Qm,not_or];exact⟨qir,qfe n (by decide)⟩
 have ed:(zf++Lib.itoa (n:Int)).drop 7=Lib.itoa (n:Int):=by rw[show(7:Nat)=zf.length by rfl,Qh]
 unfold zi;rw[if_neg g9,if_pos ?_];unfold yh;rw[if_pos (Qe _ _),ed,xx mj,qdm h1 h2];have hp:past 32 (Lib.itoa (n:Int))=[]:=by unfold past;rw[xx mj];simp
 rw[hp];exact decide_eq_true ⟨λh'=>mj h'.1,λh'=>by omega,Sx,by intro c hc;simp at hc⟩
theorem R7{n:Nat}{c:UInt8}{r:qc}(h2:n<=50000)(hd:y5 c=false)(h:c≠32∨n<2):zi (zf++(Lib.itoa (n:Int)++c::r))=(3,[],0):=by
 refine Classical.byContradiction λhc=>?_;obtain⟨m,m1,m2,m3,m4⟩:=qqv Sx hc;rw[ql5 hd rfl]at m3;have e:=q47 h2 m2 m3;subst e;rcases m4 with m4|⟨m4,r2,m5,_⟩
 .have:=congrArg Zt m4
  simp at this
 .rw[Zk,Xj]at m5
  rcases h with h|h
  .exact h m5.1
  .omega
theorem zaj{n:Nat}{r:qc}(h1:2<=n)(h2:n<=50000)(h:¬((10∉r->r.length<=8∧xk r)∧(10∈r->(upto 10 r).length=8∧xk (upto 10 r)))):zi (zf++(Lib.itoa (n:Int)++32::r))=(3,[],0):=by
 refine Classical.byContradiction λhc=>?_;obtain⟨m,m1,m2,m3,m4⟩:=qqv Sx hc;rw[ql5 (by decide) rfl]at m3;have e:=q47 h2 m2 m3;subst e;rcases m4 with m4|⟨m4,r2,m5,m6,m7⟩
 .have:=congrArg Zt m4
  simp at this
 .rw[Zk,Xj]at m5
  obtain⟨_,rfl⟩:=m5;exact h ⟨m6,m7⟩
theorem qsd(c:UInt8):qbq c=true↔c∈hexL:=by
 have key:∀i:Fin 256,qbq (UInt8.ofNat i.val)=true↔UInt8.ofNat i.val∈hexL:=by decide +kernel
 have:=key ⟨c.toNat,UInt8.toNat_lt c⟩
 simpa using this
theorem zhb{p:UInt8->Bool}{l:qc}(h:(l.takeWhile p).length=l.length):∀c∈l,p c=true:=by
 have e:l.takeWhile p=l:=(Qj p).eq_of_length h
 rwa [qzo]at e
theorem R8{n:Nat}{r:qc}(h1:2<=n)(h2:n<=50000)(h:((r.take 8).takeWhile qbq).length=r.length):zi (zf++(Lib.itoa (n:Int)++32::r))=(2,[],0):=by
 have d7:((r.take 8).takeWhile qbq).length<=(r.take 8).length:=(Qj qbq).length_le;have hl:r.length<=8:=by simp at d7;omega
 rw[Zc hl]at h;have hx:xk r:=λc hc=>(qsd c).1 (zhb h c hc);obtain⟨fig,f1,f2,f3⟩:=qxg r hl hx;obtain⟨body,b1,b2⟩:=qg8 h1 h2;have R:qr7 n fig body:=⟨h1,h2,b1,b2,f1,f2⟩
 have hp:=qgz (n:=n) (fig:=fig) (body:=body) (l:=zf++(Lib.itoa (n:Int)++32::r)) (by
  unfold wr;rw[Qc,Qc,Qi]
  exact⟨rfl,f3⟩)
 exact zmp R hp.1 hp.2
theorem zhc{p:UInt8->Bool}{l m:qc}(hm:m<+:l)(h:∀c∈m,p c=true):m.length<=(l.takeWhile p).length:=by
 obtain⟨r,rfl⟩:=hm;rw[Zj h];simp
theorem R9{n:Nat}{r:qc}(h1:2<=n)(h2:n<=50000)(b9:((r.take 8).takeWhile qbq).length≠r.length)(h:((r.take 8).takeWhile qbq).length<8):zi (zf++(Lib.itoa (n:Int)++32::r))=(3,[],0):=by
 refine zaj h1 h2 λ⟨g1,g2⟩=>?_;by_cases g9:10∈r
 .obtain⟨a,b⟩:=g2 g9
  have hp:upto 10 r<+:r.take 8:=by
   have e:r.take 8=upto 10 r:=by rw[<-a,qha]
   rw[e];exact Zo _
  have:=zhc (p:=qbq) hp (λc hc=>(qsd c).2 (b c hc));omega
 .obtain⟨a,b⟩:=g1 g9
  rw[Zc a]at b9;have e:r.takeWhile qbq=r:=by rw[qzo];exactλc hc=>(qsd c).2 (b c hc)
  exact b9 (by rw[e])
theorem R10{n:Nat}{r:qc}(h1:2<=n)(h2:n<=50000)(hl:8<r.length)(h:r.getD 8 0≠10):zi (zf++(Lib.itoa (n:Int)++32::r))=(3,[],0):=by
 refine zaj h1 h2 λ⟨g1,g2⟩=>?_;by_cases g9:10∈r
 .obtain⟨a,b⟩:=g2 g9
  have e:=wl g9;apply h;rw[e,Qy,Qn Om,a];rfl
 .have:=(g1 g9).1
  omega
theorem R11{n:Nat}{r:qc}(hl:8<r.length)(h:r.getD 8 0=10)(hx:((r.take 8).takeWhile qbq).length=8):
  zf++(Lib.itoa (n:Int)++32::r)=wr n (r.take 8)++10::r.drop 9∧(r.take 8).length=8∧xk (r.take 8):=by
 have h8:(r.take 8).length=8:=So
 refine⟨?_,h8,λc hc=>(qsd c).1 (zhb (by rw[hx,h8]) c hc)⟩
 have e:r=r.take 8++10::r.drop 9:=by
  conv=>lhs;rw[<-Qq 8 r]
  rw[Qv hl];congr 2
  simpa[Qy,hl]using h
 unfold wr
 conv=>lhs;rw[e]
 simp
end Go.Proofs.YtihlchbgjdkmpaaGreatDoor
namespace Go.Proofs.YtihlchbgjdkmpaaGreatDoor
open Go Go.Av Go.RowKit Go.Proofs Go.Pl
structure qhc (l S:qc) (K n:Nat):Prop where
 hl:l=zf++S
 hK:(S.takeWhile y5).length=K
 hD:S.take K=Lib.itoa (n:Int)
 h1:1<=n
 h2:n<=50000
theorem qhc.split{l S:qc}{K n:Nat}(A:qhc l S K n)(h:K<S.length):S=Lib.itoa (n:Int)++S.getD K 0::S.drop (K+1)∧y5 (S.getD K 0)=false:=by
 have e:S=S.take K++S.getD K 0::S.drop (K+1):=by
  conv=>lhs;rw[<-Qq K S]
  rw[Qv h];congr 2;simp[Qy,h]
 refine⟨by rw[<-A.hD];exact e,?_⟩
 cases hc:y5 (S.getD K 0)with
 |false=>rfl
 |true=>
  have hp:S.take (K+1)<+:S:=Xg _ _
  have:=zhc (p:=y5) hp (λc sd=>by
   rw[qbw h,Qm,Qz]at sd;rcases sd with sd|rfl
   .rw[<-A.hK,qzi]at sd
    have ha:=List.all_takeWhile (p:=y5) (l:=S);rw[Zf]at ha;exact ha c sd
   .exact hc)
  rw[A.hK]at this;simp at this;omega
theorem qhc.l6{l S:qc}{K n:Nat}(A:qhc l S K n)(h:K=S.length):zi l=(2,[],0):=by
 have e:S=Lib.itoa (n:Int):=by rw[<-A.hD,h,Qg]
 rw[A.hl,e];exact R6 A.h1 A.h2
theorem qhc.l7{l S:qc}{K n:Nat}(A:qhc l S K n)(h:K<S.length)(hc:S.getD K 0≠32∨n<2):zi l=(3,[],0):=by
 obtain⟨e,hd⟩:=A.split h;rw[A.hl,e];exact R7 A.h2 hd hc
theorem qhc.at32{l S R:qc}{K n:Nat}(A:qhc l S K n)(h:K<S.length)(hc:S.getD K 0=32)(hR:S.drop (K+1)=R):l=zf++(Lib.itoa (n:Int)++32::R):=by
 obtain⟨e,hd⟩:=A.split h;rw[hc,hR]at e;rw[A.hl,<-e]
theorem qhc.l11{l S R T:qc}{K n:Nat}(A:qhc l S K n)(h:K<S.length)(hc:S.getD K 0=32)(hR:S.drop (K+1)=R)(h2:2<=n)(hl:8<R.length)(h8:R.getD 8 0=10)(hx:((R.take 8).takeWhile qbq).length=8)(hT:R.drop 9=T):
  zi l=if T.length<n then(yl T ((n:Int)-T.length),[],0)else if yr (T.take n)then xo (T.drop n) (T.take n) (R.take 8) (qeg n)else(3,[],0):=by
 rw[A.at32 h hc hR];obtain⟨e,g1,g2⟩:=R11 (n:=n) hl h8 hx;rw[e,hT];exact qpd _ h2 A.h2 g1 g2
theorem qli{l m:List UInt8}(st:List AObj)(hl:l.length<4294967281)(h:m<+:l):qr E 182 [Sv l,Sv m] st λr st'=>r=Bv true∧st'=st:=by
 have:=qhy l m st hl;rw[decide_eq_true h]at this;exact this
theorem q6h{l m:List UInt8}(st:List AObj)(hl:l.length<4294967281)(h:¬m<+:l):qr E 182 [Sv l,Sv m] st λr st'=>r=Bv false∧st'=st:=by
 have:=qhy l m st hl;rw[decide_eq_false h]at this;exact this
set_option maxHeartbeats 4000000 in
theorem zc7(l:List UInt8)(st:List AObj)(hl:l.length<4294967281)(hb:l.length<=7∨¬zf<+:l):qr E 129 [Sv l] st λr st'=>r=.tu [Iv (zi l).1,Sv (zi l).2.1,Iv (zi l).2.2]∧st'=st:=by
 refine q5 (qcu _ _ _) (qs Tryz.func129 rfl (Qa rfl) ?_);by_cases h7:l.length<=7
 .skip
  repeat' (first|apply qq|apply qh|apply qj|apply ql|apply qi|(apply qv;(iterate 3 exact rfl))|(apply qe;exact rfl;apply vo;exact cAo)|(apply qe;exact rfl;apply cd_d<;>intro h)|(apply zu;(iterate 3 exact rfl))|apply qz|apply qw|(apply qm;exact Tryz.call181;exact qny l zf _ (by decide)))
  all_goals refine qo rfl (yo rfl) ⟨qx7 (?_:_=zi l),_,rfl⟩
  .exact(R1 h7 (by assumption)).symm
  .exact(R2 h7 (by assumption)).symm
 .have t6:¬zf<+:l:=hb.resolve_left h7
  repeat' (first|apply qq|apply qh|apply qj|apply ql|apply qi|(apply qv;(iterate 3 exact rfl))|(apply ja;exact rfl)|(apply qe;exact rfl;apply v8;exact cAo)|(apply qe;exact rfl;apply qit;exact cRa)|(apply zu;(iterate 3 exact rfl))|apply qz|apply qw|(apply qm;exact Tryz.call182;exact q6h (m:=zf) _ hl t6))
  all_goals refine qo rfl (yo rfl) ⟨qx7 (?_:_=zi l),_,rfl⟩
  all_goals exact(R3 Om t6).symm
theorem qjy{l:List UInt8}{k:Nat}(st:List AObj)(hl:l.length<4294967281)(h:(l.takeWhile y5).length=k):qr E 183 [Sv l] st λr st'=>r=Iv k∧st'=st:=by
 subst h;exact q6n l st hl
theorem zgc{l:List UInt8}{k:Nat}(st:List AObj)(hl:l.length<4294967281)(h:((l.take 8).takeWhile qbq).length=k):qr E 184 [Sv l] st λr st'=>r=Iv k∧st'=st:=by
 subst h;exact zj0 l st hl
theorem qzn{l b:List UInt8}{k n:Int}(h:zi l=(k,b,n)):AV.tu [Iv k,Sv b,Iv n]=.tu [Iv (zi l).1,Sv (zi l).2.1,Iv (zi l).2.2]:=by rw[h]
set_option maxHeartbeats 8000000 in
theorem zc8(l S:List UInt8)(K:Nat)(st:List AObj)(hl:l.length<4294967281)(h7:7<l.length)(hb:l=zf++S)(hK:(S.takeWhile y5).length=K)(hn:∀n:Nat,1<=n->n<=50000->S.takeWhile y5≠Lib.itoa (n:Int)):qr E 129 [Sv l] st λr st'=>r=.tu [Iv (zi l).1,Sv (zi l).2.1,Iv (zi l).2.2]∧st'=st:=by
 have hS:l.drop 7=S:=by rw[hb,show(7:Nat)=zf.length by rfl,Qh]
 have hSl:S.length=l.length-7:=by rw[<-hS];simp
 have hbp:zf<+:l:=⟨S,hb.symm⟩;have b9:S≠[]:=λe=>by rw[e]at hSl;simp at hSl;omega
 have hKle:K<=S.length:=hK▸(Qj y5).length_le;have hD:S.take K=S.takeWhile y5:=by rw[<-hK,qzi]
 have hr:zi l=(3,[],0):=hb▸R5 b9 hn;refine q5 (qcu _ _ _) (qs Tryz.func129 rfl (Qa rfl) ?_)
 cases hz:numZ (S.take K)with
 |none=>
  repeat' (first|(apply qhh (n:=7) hS;(iterate 3 exact rfl);omega)|apply qq|apply qh|apply qj|apply ql|apply qi|(apply zg;exact rfl;exact rfl)|(apply qv;(iterate 3 exact rfl))|(apply ja;exact rfl)|(apply qx;(iterate 4 exact rfl))|(apply qbp;exact cRa)|(apply qa8;exact cRa)|(apply qk;exact rfl;apply qi4;exact cRa)|(apply qk;exact rfl;apply pk_t;exact cRa)|(apply qe;exact rfl;apply v8;exact cAo)|(apply qe;exact rfl;apply qis;exact cRa)|(apply qe;exact rfl;apply cd_t;exact cRa)|(apply qe;exact rfl;apply cd_d<;>intro h)|(apply zu;(iterate 3 exact rfl))|(apply qbt;(iterate 3 exact rfl);exact cAs)|apply qz|apply qw|(apply qm;exact Tryz.call182;exact qli (m:=zf) _ hl hbp)|(apply qm;exact Tryz.call183;exact qjy _ Om hK)|(apply qm;exact Tryz.call175;exact qhz _ _ So hz))
  all_goals first
   |(exfalso;omega)
   |contradiction
   |exact qo rfl (yo rfl) ⟨qzn hr,_,rfl⟩
 |some v=>
  have hv:=qml hz;have rj:¬(1<=v∧v<=50000):=λh=>hn v.toNat Om Om (by rw[<-hD,hv.1,Int.toNat_of_nonneg Om]);repeat' (first|(apply qhh (n:=7) hS;(iterate 3 exact rfl);omega)|apply qq|apply qh|apply qj|apply ql|apply qi|(apply zg;exact rfl;exact rfl)|(apply qv;(iterate 3 exact rfl))|(apply ja;exact rfl)|(apply qx;(iterate 4 exact rfl))|(apply wc;exact cAo)|(apply wg;exact cAo)|(apply qaj;exact cRa)|(apply jn<;>intro h)|(apply qk;exact rfl;apply w7;exact cAo)|(apply qk;exact rfl;apply wt;exact cAo)|(apply qk;exact rfl;apply qfi;exact cRa)|(apply qe;exact rfl;apply vo;exact cAo)|(apply qe;exact rfl;apply v8;exact cAo)|(apply qe;exact rfl;apply qis;exact cRa)|(apply qe;exact rfl;apply cd_t;exact cRa)|(apply qe;exact rfl;apply cd_d<;>intro h)|(apply zu;(iterate 3 exact rfl))|(apply qbt;(iterate 3 exact rfl);exact cAs)|apply qz|apply qw|(apply qm;exact Tryz.call182;exact qli (m:=zf) _ hl hbp)|(apply qm;exact Tryz.call183;exact qjy _ Om hK)|(apply qm;exact Tryz.call175;exact qe0 _ v _ So hz))
  all_goals first
   |(exfalso;omega)
   |contradiction
   |exact qo rfl (yo rfl) ⟨qzn hr,_,rfl⟩
theorem qy2{T:qc}{lack:Int}(h1:sp true T=true)(h2:T.length=0->2<=lack)(h3:T.getLast?=some 10->2<=lack):yl T lack=2:=by
 unfold yl;rw[qeo];refine if_pos ⟨h1,?_⟩;rintro⟨h|h,h'⟩
 .have:=h2 (by rw[h];rfl)
  omega
 .have:=h3 h
  omega
theorem q56{T:qc}{lack:Int}(h:sp true T=false):yl T lack=3:=by
 unfold yl;rw[qeo];exact if_neg λh'=>by rw[h]at h';simp at h'
theorem zjl{T:qc}{lack:Int}(h1:T.getLast?=some 10)(h2:lack<2):yl T lack=3:=by
 unfold yl;exact if_neg λh'=>h'.2 ⟨.inr h1,h2⟩
theorem q98{T:qc}(h:T.length≠0):T.getLast?=some 10↔T.getD ((T.length:Int)-1).toNat 0=10:=by
 have e:((T.length:Int)-1).toNat=T.length-1:=Om
 rw[e,Zm];simp[Qy,show T.length-1<T.length by omega]
theorem zll{U B f:qc}{z:Int}(h1:¬U.length<(qae B.length).length)(h2:qae B.length<+:U)(h3:f=sumF B):xo U B f z=(1,B,z):=by
 unfold xo;rw[if_neg (λh=>h1 h.1),if_pos ⟨h2,h3⟩]
theorem zlm{U B f:qc}{z:Int}(h1:U.length<(qae B.length).length)(h2:U<+:qae B.length):xo U B f z=(2,[],0):=by
 unfold xo;rw[if_pos ⟨h1,h2⟩]
theorem qyq{U B f:qc}{z:Int}(h1:¬(U.length<(qae B.length).length∧U<+:qae B.length))(h2:¬(qae B.length<+:U∧f=sumF B)):xo U B f z=(3,[],0):=by
 unfold xo;rw[if_neg h1,if_neg h2]
set_option maxHeartbeats 16000000 in
theorem zc9(l S R T:List UInt8)(K H n:Nat)(st:List AObj)(hl:l.length<4294967281)(h7:7<l.length)(A:qhc l S K n)(hR:S.drop (K+1)=R)(hH:((R.take 8).takeWhile qbq).length=H)(hT:R.drop 9=T):qr E 129 [Sv l] st λr st'=>r=.tu [Iv (zi l).1,Sv (zi l).2.1,Iv (zi l).2.2]∧st'=st:=by
 have hb:=A.hl;have hK:=A.hK;have hn1:=A.h1;have nz:=A.h2;have hS:l.drop 7=S:=by rw[hb,show(7:Nat)=zf.length by rfl,Qh]
 have hSl:S.length=l.length-7:=by rw[<-hS];simp
 have hbp:zf<+:l:=⟨S,hb.symm⟩;have hKle:K<=S.length:=hK▸(Qj y5).length_le;have hz:numZ (S.take K)=some (n:Int):=by rw[A.hD];exact qg1 Om Om
 have hK5:K<=5:=by
  have h1:=zcf nz;have h2:=congrArg Zt A.hD;simp at h2;omega
 have hRl:R.length=S.length-(K+1):=by rw[<-hR];simp
 have hH8:H<=8:=by
  have:=(Qj qbq (l:=R.take 8)).length_le;rw[hH]at this;simp at this;omega
 have hHR:H<=R.length:=by
  have:=(Qj qbq (l:=R.take 8)).length_le;rw[hH]at this;simp at this;omega
 have hTl:T.length=R.length-9:=by rw[<-hT];simp
 have o7:(R.take 8).length<=8:=So
 have hBl:(T.take n).length<=T.length:=So
 have ht:=qbb n;have hi:=qbl n Om;refine q5 (qcu _ _ _) (qs Tryz.func129 rfl (Qa rfl) ?_);repeat' (first|(apply qhh (n:=7) hS;(iterate 3 exact rfl);omega)|(apply qhh (n:=K+1) hR;(iterate 3 exact rfl);omega)|(apply qhh (n:=9) hT;(iterate 3 exact rfl);omega)|apply qq|apply qh|apply qj|apply ql|apply qi|(apply zg;exact rfl;exact rfl)|(apply qv;(iterate 3 exact rfl))|(apply jo;(iterate 3 exact rfl))|(apply ja;exact rfl)|(apply qx;(iterate 4 exact rfl))|(apply xf;exact cAo)|(apply wc;exact cAo)|(apply wg;exact cAo)|(apply xu;exact cAo)|(apply qaw;(iterate 4 exact rfl))|(apply qaj;exact cRa)|(apply qbp;exact cRa)|(apply qhr<;>intro h)|(apply qaa;exact cRa)|(apply jn<;>intro h)|(apply qk;exact rfl;apply w7;exact cAo)|(apply qk;exact rfl;apply wt;exact cAo)|(apply qk;exact rfl;apply qi4;exact cRa)|(apply qk;exact rfl;apply qfi;exact cRa)|(apply qk;exact rfl;apply pk_t;exact cRa)|(apply qe;exact rfl;apply v8;exact cAo)|(apply qe;exact rfl;apply qis;exact cRa)|(apply qe;exact rfl;apply cd_n<;>intro h)|(apply qe;exact rfl;apply cd_t;exact cRa)|(apply qe;exact rfl;apply cd_f;exact cRa)|(apply qe;exact rfl;apply cd_d<;>intro h)|(apply zu;(iterate 3 exact rfl))|(apply zo;exact rfl;exact rfl;exact q8 Om Om)|(apply ww;exact rfl;exact rfl;exact q8 Om Om)|(apply wm;(iterate 3 exact rfl);exact cAs)|(apply qbt;(iterate 3 exact rfl);exact cAs)|(apply qgn;(iterate 3 exact rfl);exact cAs)|apply qz|apply qw|(apply qip;(iterate 3 exact rfl);omega;omega)|(apply qm;exact Tryz.call182;exact qli (l:=l) (m:=zf) _ hl hbp)|(apply qm;exact Tryz.call182;exact qhy _ (qae n) _ So)|(apply qm;exact Tryz.call181;exact qny _ (qae n) _ Om)|(apply qm;exact Tryz.call183;exact qjy _ Om hK)|(apply qm;exact Tryz.call184;exact zgc _ Om hH)|(apply qm;exact Tryz.call175;exact qe0 _ n _ So hz)|(apply qm;exact Tryz.call185;exact qxq _ _ Om)|(apply qm;exact Tryz.call186;exact zgb _ _ Om)|(apply qm;exact Tryz.call86;exact qna n (R.take 8) _ Om Om)|(apply qm;exact Tryz.call88;exact q6r _ _ Om)|(apply qm;exact Tryz.call87;exact q1o _ _)|(apply qm;exact Tryz.call85;exact q8u _ _))
 all_goals
  refine qo rfl (yo rfl) ⟨qzn (?_:zi l=_),_,rfl⟩
  try simp only[Classical.not_not,qx8,qcb,decide_eq_true_eq,decide_eq_false_iff_not]at *
 .exact A.l6 Om
 .exact A.l7 Om (.inl (by assumption))
 .exact A.l7 Om (.inr Om)
 .rw[A.at32 Om (by assumption) hR]
  exact R8 Om nz Om
 .rw[A.at32 Om (by assumption) hR]
  exact R9 Om nz Om Om
 .rw[A.at32 Om (by assumption) hR]
  exact R10 Om nz Om (by assumption)
 .rw[A.l11 Om (by assumption) hR Om Om (by assumption) Om hT,if_pos Om,qy2 (by assumption) Om (λ_=>by omega)]
 .rw[A.l11 Om (by assumption) hR Om Om (by assumption) Om hT,if_pos Om,q56 (by assumption)]
 .rw[A.l11 Om (by assumption) hR Om Om (by assumption) Om hT,if_pos Om,zjl ((q98 Om).2 (by assumption)) Om]
 .rw[A.l11 Om (by assumption) hR Om Om (by assumption) Om hT,if_pos Om,qy2 (by assumption) Om (λ_=>by omega)]
 .rw[A.l11 Om (by assumption) hR Om Om (by assumption) Om hT,if_pos Om,qy2 (by assumption) Om (λh=>absurd ((q98 Om).1 h) (by assumption))]
 .rw[A.l11 Om (by assumption) hR Om Om (by assumption) Om hT,if_pos Om,q56 (by assumption)]
 all_goals have tz:(T.take n).length=n:=So
 .rw[A.l11 Om (by assumption) hR Om Om (by assumption) Om hT,if_neg Om,if_neg (by assumption)]
 .rw[A.l11 Om (by assumption) hR Om Om (by assumption) Om hT,if_neg Om,if_pos (by assumption)]
  exact zlm (by rw[tz];omega) (by rw[tz];assumption)
 .rw[A.l11 Om (by assumption) hR Om Om (by assumption) Om hT,if_neg Om,if_pos (by assumption)]
  exact qyq (by rw[tz];exactλh=>absurd h.2 (by assumption)) (by rw[tz];intro h;have:=h.1.length_le;omega)
 .rw[A.l11 Om (by assumption) hR Om Om (by assumption) Om hT,if_neg Om,if_pos (by assumption)]
  exact qyq (by rw[tz];intro h;omega) (by rw[tz];exactλh=>absurd h.2.symm (by assumption))
 .rw[A.l11 Om (by assumption) hR Om Om (by assumption) Om hT,if_neg Om,if_pos (by assumption)]
  exact zll (by rw[tz];omega) (by rw[tz];assumption) (by symm;assumption)
 .rw[A.l11 Om (by assumption) hR Om Om (by assumption) Om hT,if_neg Om,if_pos (by assumption)]
  exact qyq (by rw[tz];intro h;omega) (by rw[tz];exactλh=>absurd h.1 (by assumption))
theorem zgf(l:List UInt8)(st:List AObj)(hl:l.length<4294967281):qr E 129 [Sv l] st λr st'=>r=.tu [Iv (zi l).1,Sv (zi l).2.1,Iv (zi l).2.2]∧st'=st:=by
 by_cases hb:l.length<=7∨¬zf<+:l
 .exact zc7 l st hl hb
 have h7:7<l.length:=Om
 have hbp:zf<+:l:=Classical.not_not.1 λh=>hb (.inr h);obtain⟨S,hS⟩:=hbp;by_cases hn:∃n:Nat,1<=n∧n<=50000∧S.takeWhile y5=Lib.itoa (n:Int)
 .obtain⟨n,h1,h2,h3⟩:=hn
  exact zc9 l S _ _ _ _ n st hl h7 ⟨hS.symm,rfl,by rw[qzi];exact h3,h1,h2⟩ rfl rfl rfl
 .exact zc8 l S _ st hl h7 hS.symm rfl (λn h1 h2 h3=>hn ⟨n,h1,h2,h3⟩)
theorem zf6(l:List UInt8)(st:List AObj)(hl:l.length<4294967281)(hg:yr l):qr E 61 [Sv l] st λr st'=>r=.tu [Sv (recF l),.v .nilIface]∧st'=st:=by
 have h:=zjy l st hl;unfold qg5 at h;rw[if_pos hg]at h;exact h
theorem zcy{b:List UInt8}(h:yr b):(recF b).length<=b.length+61∧1<=(recF b).length:=by
 have h1:=qbl b.length (by have:=h.2.1;omega);unfold recF;simp only[Za,qdk,qja,qbb];omega
end Go.Proofs.YtihlchbgjdkmpaaGreatDoor
namespace Go.Av
open Go Go.RowKit
def StE(L:List (Nat×AV))(st loc:List AObj)(s:AS):Prop:=∃t ext,s=⟨puts t L,((st++loc)++ext)++[],[]⟩
theorem qb7{t:Nat->AV}{L:List (Nat×AV)}{st loc loc' ext new:List AObj}(h:HasL t L)(e:loc'=loc):StE L st loc ⟨t,((st++loc')++ext)++new,[]⟩:=
 ⟨t,ext++new,by rw[qku h,e];simp⟩
theorem qfq{t:Nat->AV}{L:List (Nat×AV)}{st loc st':List AObj}(h:HasL t L)(e:st'=st++loc):StE L st loc ⟨t,st',[]⟩:=
 ⟨t,[],by rw[qku h,e];simp⟩
theorem qbx(st loc ext new:List AObj):∃x,((st++loc)++ext)++new=st++x:=⟨loc++ext++new,Sx⟩
theorem qby{st loc ext new:List AObj}{k:Nat}{x:AObj}(h:loc[k]?=some x):(((st++loc)++ext)++new)[st.length+k]?=some x:=by
 have hk:=lt_of_getElem? h;rw[Qb,Qb,Qn (Xh _ _),Qo,Qx hk];exact h
theorem qfo{st loc ext new:List AObj}{k:Nat}(x:AObj)(hk:k<loc.length):(((st++loc)++ext)++new).set (st.length+k) x=((st++loc.set k x)++ext)++new:=by
 rw[Qb,Qb,Zg _ _ (Xh _ _),Qo,List.set_append_left _ _ hk];simp
theorem qmr{G:Gh}{sz:Nat}{xs:List AV}{tip:Option Nat}{v:Value}(h:Rel G (.sl sz xs tip) v):Rel G (.sl sz xs none) v:=by
 cases h with
 |sl0 _ _ base cap ht=>exact .sl0 sz none base cap Sx
 |sl _ _ _ b off cap pub hp hw d5 hr ht p9=>exact .sl sz xs none b off cap pub hp hw d5 hr (λt ht=>by simp at ht) p9
theorem qcx{G:Gh}{sz:Nat}{v:Value}(h:Rel G zn v):Rel G (.sl sz [] none) v:=by
 cases h
 exact .sl0 sz none none 0 Sx
section
variable {E : Env} {rd : Option Nat} {N : Nat} {ops : Array Oper} {K : AS → Prop} {s : AS} {rest : List Oper} {d : Option Tmp} {T : TypeId} {p : String} {af : Array Edge}
theorem x8{fn:Func}{r r':AV}(h:ARes E fn s r)(hw:∀(G:Gh)(v:Value),Rel G r v->Rel G r' v):ARes E fn s r':=
 ⟨λB0 w0 G a w hL hI=>let ⟨v,h1,h2⟩:=h.run B0 w0 G a w hL hI;⟨v,h1,hw G v h2⟩⟩
theorem qvz{fn:Func}{t:Tmp}{sz:Nat}{xs:List AV}{tip:Option Nat}(hr:fn.results= #[.tmp t])(hx:qn fn.ntmps s (.tmp t)=.sl sz xs tip):ARes E fn s (.sl sz xs none):=
 x8 (q7 hr) λG v h=>by rw[hx]at h;exact qmr h
theorem qhf{x y:Operand}{t u T':TypeId}{sz bytes k n m:Nat}{xs ys zs:List AV}{tip:Option Nat}{st loc ext new:List AObj}(hs:s.st=((st++loc)++ext)++new)(hx:qn N s x=.sl sz xs (some (st.length+k)))(hy:qn N s y=.sl sz ys tip)(ho:loc[k]?=some (.tip n sz T'))(hn:xs.length=n)
  (ht:E.P.underlying t=some (.slice T')) (hu:E.P.underlying u=some (.slice T')) (hT:yw E.P T' sz bytes) (i9:ke (flat ys)=true) (hm:ys.length=m) (t7:n+m<=maxLen) (hb:(n+m)*bytes<=140737488355328) (hz:xs++ys=zs)
  (h:AOps E rd N ops rest K (AS.put ⟨s.t,((st++loc.set k (.tip (n+m) sz T'))++ext)++new,s.df⟩ d (.sl sz zs (some (st.length+k))))):AOps E rd N ops (⟨d,.call ⟨.builtin .append,#[x,y],#[t,u]⟩,T,p,af,none⟩::rest) K s:=by
 subst hz;have hk:=lt_of_getElem? ho;exact qsy hx hy (by rw[hs];exact qby ho) hn ht hu hT i9 hm t7 hb (by rw[hs,qfo _ hk];exact h)
theorem qjt{x:Operand}{t:TypeId}{sz:Nat}{agg:Bool}{st loc ext new:List AObj}{k ver off:Nat}{T':TypeId}{cs:List AV}{r:AV}(hs:s.st=((st++loc)++ext)++new)(hx:qn N s x=.bx (st.length+k) ver off)(ho:loc[k]?=some (.cells ver T' cs))(ht:tyOf E.P t=some (sz,agg))(hr:kf sz agg off cs=some r)
  (h:AOps E rd N ops rest K (s.put d r)):AOps E rd N ops (⟨d,.load t x,T,p,af,none⟩::rest) K s:=
 vb hx (by rw[hs];exact qby ho) ht hr h
end
end Go.Av
namespace Go.Pl
open Go
def zb(l:qc):List qc:=
 if h:10∈l then upto 10 l::zb (past 10 l)else [l]
 termination_by l.length
 decreasing_by exact xp (λe=>by rw[e]at h;simp at h)
theorem y7{l:qc}(h:10∈l):zb l=upto 10 l::zb (past 10 l):=by rw[zb,dif_pos h]
theorem y8{l:qc}(h:10∉l):zb l=[l]:=by rw[zb,dif_neg h]
theorem zav:∀(n:Nat)(l:qc),l.length<=n->Lib.splitK [10] 0 (Lib.count l [10]) l=zb l
 |n,l,hn=>by
  by_cases h:10∈l
  .have hi:=qwz 10 l h
   have b9:l≠[]:=λe=>by rw[e]at h;simp at h
   have d8:=xp (c:=10) b9;rw[y7 h,Lib.count_hit (i:=(upto 10 l).length) Sx hi,Nat.add_comm,Lib.splitK];rw[if_neg (by rw[hi];simp),hi]
   cases n with
   |zero=>exact absurd (Qk.1 Om) b9
   |succ n=>
    have:=zav n (past 10 l) Om;simp only[Int.toNat_natCast,Xq,Ze,List.length_nil,Xa,qha];rw[show List.drop ((upto 10 l).length+1) l=past 10 l from rfl,this]
  .have hi:Lib.index l [10]= -1:=by
    have:=Lib.index_ge l [10];have h2:¬0<=Lib.index l [10]:=λh'=>h ((qev l 10).1 h');omega
   rw[y8 h,Lib.count_miss hi];rfl
theorem qdf:∀(n:Nat)(l:qc),l.length<=n->(zb l).length<=l.length+1
 |n,l,hn=>by
  by_cases h:10∈l
  .have b9:l≠[]:=λe=>by rw[e]at h;simp at h
   have d8:=xp (c:=10) b9;rw[y7 h]
   cases n with
   |zero=>exact absurd (Qk.1 Om) b9
   |succ n=>
    have:=qdf n (past 10 l) Om;simp only[Ze];omega
  .rw[y8 h];simp
theorem qjw:∀(n:Nat)(l:qc),l.length<=n->∀x∈zb l,x.length<=l.length∧10∉x
 |n,l,hn,x,hx=>by
  by_cases h:10∈l
  .have b9:l≠[]:=λe=>by rw[e]at h;simp at h
   have d8:=xp (c:=10) b9;rw[y7 h,Zd]at hx;rcases hx with rfl|hx
   .exact⟨vk 10 l,yu 10 l⟩
   .cases n with
    |zero=>exact absurd (Qk.1 Om) b9
    |succ n=>
     have:=qjw n (past 10 l) Om x hx;exact⟨Om,this.2⟩
  .rw[y8 h,Qz]at hx
   subst hx;exact⟨Qd _,h⟩
end Go.Pl
namespace Go.Proofs.YtihlchbgjdkmpaaGreatDoor
open Go Go.Av Go.RowKit Go.Proofs Go.Pl
theorem qh6{f:FuncId}{st:List AObj}{args:List AV}{vals:Array Value}{xs:List qc}{T:TypeId}(ha:args=vals.toList.map .v)(b9:xs≠[])
  (h:∀B0 w0 w,E.L B0 w0->Below B0 w0 w->Calls E.P f vals w λe w'=>e=.returned (.slice (some ⟨w.heap.size,0,none⟩) xs.length xs.length)∧w'=w.alloc (.cells (xs.map λl=>Value.string ⟨l.toArray⟩).toArray T)):
  qr E f args st λr st'=>r=.sl 1 (xs.map λl=>Sv l) none∧st'=st:=by
 subst ha;refine⟨λB0 w0 G vs w hL hA hR=>?_⟩
 have hv:vs=vals:=by
  have hs:vs.size=vals.size:=by have:=hR.1;simpa using this.symm
  apply Array.ext hs;intro i h1 h2;have:=hR.2 i (.v vals[i]) vs[i] (by simp[h2]) (by simp[h1]);generalize vs[i]=y at this
  cases this
  rfl
 subst hv;refine(h B0 w0 w hL hA.below).mono ?_;rintro e w' ⟨rfl,rfl⟩;obtain⟨d7,hA'⟩:=hA.newPub T (xs.map λl=>Value.string ⟨l.toArray⟩).toArray (0,0) (xs.map λl=>Value.string ⟨l.toArray⟩) (λi y hy=>by simpa using hy);refine⟨_,_,_,st,rfl,d7,hA',?_,rfl,rfl⟩
 have o7:flat (xs.map λl=>Sv l)=xs.map λl=>Sv l:=by
  clear b9 h d7 hA'
  induction xs with
  |nil=>rfl
  |cons a xs ih=>rw[List.map_cons,qcp,ih];rfl
 have:=Rel.sl (G:=G.publish w.heap.size (xs.map λl=>Value.string ⟨l.toArray⟩)) 1 (xs.map λl=>Sv l) none w.heap.size 0 xs.length (xs.map λl=>Value.string ⟨l.toArray⟩) (by simp[Gh.publish]) (λx hx=>by
  simp only[Zp]at hx;obtain⟨l,_,rfl⟩:=hx
  rfl) (by rw[o7];simp) (λi x y h1 h2=>by
  rw[o7,Xe]at h1;rw[Xa,Xe]at h2
  cases hx:xs[i]?with
  |none=>rw[hx]at h1;simp at h1
  |some l=>
   rw[hx]at h1 h2;simp at h1 h2;subst h1;subst h2
   exact .v _) (λt ht=>by simp at ht) Sx
 simpa using this
theorem zgs(l:List UInt8)(st:List AObj)(hl:l.length<4294967281):qr E 96 [Sv l,Sv [10]] st λr st'=>r=.sl 1 ((zb l).map λx=>Sv x) none∧st'=st:=by
 have hd:=Lib.splitB_data ⟨#[10]⟩ 0 (Lib.countB ⟨l.toArray⟩ ⟨#[10]⟩) ⟨l.toArray⟩;have hs:Lib.splitK [10] 0 (Lib.count l [10]) l=zb l:=zav _ l (Qd _);have hn:=Lib.splitB_all ⟨#[10]⟩ (by simp[ByteArray.size]) 0 _ ⟨l.toArray⟩ rfl;have hd2:(Lib.splitB ⟨#[10]⟩ 0 (Lib.countB ⟨l.toArray⟩ ⟨#[10]⟩) ⟨l.toArray⟩).map (·.data.toList)=zb l:=hd.trans hs;have d5:(zb l).length=Lib.countB ⟨l.toArray⟩ ⟨#[10]⟩+1:=by rw[<-hd2,List.length_map,hn]
 refine qh6 (T:=9) (vals:= #[.string ⟨l.toArray⟩,.string ⟨#[10]⟩]) rfl (λe=>by rw[e]at d5;simp at d5) λ_ _ w hL hb=>(Tryz.strings_Split_shaped ⟨l.toArray⟩ ⟨#[10]⟩ w (hL w hb).shaped (by simpa[ByteArray.size]using hl) (by simp[ByteArray.size])).mono λe w' ⟨h1,h2⟩=>?_;refine⟨by rw[h1,d5],?_⟩;rw[h2,<-hd2,List.map_map];rfl
end Go.Proofs.YtihlchbgjdkmpaaGreatDoor
namespace Go.Av
open Go Go.RowKit
section
variable {E : Env} {N : Nat} {ops : Array Oper} {K : AS → Prop} {s : AS} {rest : List Oper} {d : Option Tmp} {T : TypeId} {p : String} {af : Array Edge}
theorem qvx{x:Operand}{t:TypeId}{sz:Nat}{agg:Bool}{o ver off:Nat}{T':TypeId}{cs:List AV}{r:AV}(hx:qn N s x=.bx o ver off)(ho:s.st[o]?=some (.cells ver T' cs))(ht:tyOf E.P t=some (sz,agg))(hr:kf sz agg off cs=some r)
  (h:AQ E N ops rest K (s.put d r)):AQ E N ops (⟨d,.load t x,T,p,af,none⟩::rest) K s:=by
 refine qf4 rfl nofun λB0 w0 G a w _ hI=>?_;have he:=hI.eval_of hx;generalize hv:a.eval x=v at he
 cases he with
 |bx _ _ _ b hn dk hb=>
  obtain⟨_,h1,h2,h3,c,h4,h5,h6⟩:=hI.agree.ob o _ ho;have hb:=hb h1;subst hb
  have d8:(G.ob o).blk<w.heap.size:=by
   rcases Qp (G.ob o).blk w.heap.size with h'|h'
   .exact h'
   .rw[Zu h']at h4;simp at h4
  -- the value is read out of the cells, whatever is drawn behind them
  have key:∀w',Below w.heap.size w w'->∃v,(loadVar t ⟨(G.ob o).blk,off,none⟩).run E.P w'=.ok v w'∧Rel G r v:=λw' p8=>by
   have h4':w'.heap[(G.ob o).blk]?=some (.cells c T' (0,0)):=by rw[p8.block _ d8];exact h4
   exact qbz (w:=w') (G:=G) (b:=(G.ob o).blk) (off:=off) (off':=off) ht (λi x hx hi=>by
    obtain⟨y,hy⟩:=wz hx (Xr h5);refine⟨y,?_,h6 i x y hx hy⟩
    simp[World.cell?,h4',show off+(i-off)=i by omega,hy]) hr
  have pd:∀w',Below w.heap.size w w'->∀v,(loadVar t ⟨(G.ob o).blk,off,none⟩).run E.P w=.ok v w->(loadVar t ⟨(G.ob o).blk,off,none⟩).run E.P w'=.ok v w':=λw' p8 v hr1=>by
   obtain⟨i1,i2⟩:=vw ht w;obtain⟨j1,j2⟩:=vw ht w';have hc:∀k,w'.cell? ⟨(G.ob o).blk,k,none⟩=w.cell? ⟨(G.ob o).blk,k,none⟩:=λk=>by simp[World.cell?,p8.block _ d8]
   obtain⟨v',h1',_⟩:=key w' p8;rw[h1'];congr 1
   cases agg with
   |false=>
    simp only[kf,cond_false]at hr;obtain⟨y,hy⟩:=wz hr (Xr h5);have e1:w.cell? ⟨(G.ob o).blk,off,none⟩=some y:=by simp[World.cell?,h4,hy]
    have e2:w'.cell? ⟨(G.ob o).blk,off,none⟩=some y:=by rw[hc,e1]
    simp[loadVar,i2,run_load,e1]at hr1;simp[loadVar,j2,run_load,e2]at h1'
    rw[<-h1',hr1]
   |true=>
    simp only[kf,cond_true]at hr
    cases t6:Xl (off+sz) cs.length with
    |false=>rw[t6]at hr;simp at hr
    |true=>
     have d7:off+sz<=cs.length:=Qa t6
     have e1:∀j,j<sz->w.cell? ⟨(G.ob o).blk,off+j,none⟩=some (c.getD (off+j) undef):=λj hj=>by
      have:off+j<c.size:=Om
      simp[World.cell?,h4,this]
     have e2:∀j,j<sz->w'.cell? ⟨(G.ob o).blk,off+j,none⟩=some (c.getD (off+j) undef):=λj hj=>by rw[hc,e1 j hj]
     have l1:=run_loadCells (P:=E.P) (w:=w) ⟨(G.ob o).blk,off,none⟩ sz (λj=>c.getD (off+j) undef) (λj hj=>by rw[Addr.add_lit];exact e1 j hj);have l2:=run_loadCells (P:=E.P) (w:=w') ⟨(G.ob o).blk,off,none⟩ sz (λj=>c.getD (off+j) undef) (λj hj=>by rw[Addr.add_lit];exact e2 j hj);simp[loadVar,i1,i2,l1]at hr1;simp[loadVar,j1,j2,l2]at h1';rw[<-h1',hr1]
  obtain⟨v,a8,hR⟩:=key w (Below.refl _ _);exact⟨v,r,λw' p8=>by simp only[execOp,hv,Instr.loadAt,Instr.sureAddr];simp[pd w' p8 v a8],hR,h⟩
theorem qt6{f:FuncId}{xs:Array Operand}{ts:Array TypeId}{args:List AV}{r:AV}{v:Value}(hok:qvg E)(a8:∀vs w,(callFunc f vs).run E.P w=.ok (.enter f vs) w)
  (ng:xs.toList.map (qn N s)=args) (hp:∀x∈args,Pure x) (hs:Sure r v) (hpr:∀G,Rel G r v) (hc:qr E f args [] λa st1=>a=r∧st1=[])
  (h:AQ E N ops rest K (s.put d r)):AQ E N ops (⟨d,.call ⟨.value (.func f),xs,ts⟩,T,p,af,none⟩::rest) K s:=by
 refine⟨λB0 w0 G a w hL hI Q hQ=>?_⟩;refine⟨λ_ _ _ _=>trivial,?_⟩;simp only[Region.wanted];refine⟨v,λw' p8=>?_,?_⟩
 .have hr:(execOp a.eval ⟨d,.call ⟨.value (.func f),xs,ts⟩,T,p,af,none⟩).run E.P w'=.ok (.enter f (xs.map a.eval)) w':=by
   have he:a.eval (.func f)=.func (.func f) #[] #[]:=rfl;generalize a.eval=ρ at he;simp[execOp,resolve,Deferred.ofValue,he,invoke,a8]
  have dj:=qe1 hI xs;rw[ng]at dj;unfold Oper.quietAtIn;rw[hr];refine⟨rfl,λh=>by simp[fw,Fence.wide]at h,qhn ?_⟩;have hb:Below B0 w0 w':=hI.agree.below.trans (p8.mono hI.agree.hB);have hB:B0<=w'.heap.size:=Xp hI.agree.hB p8.size;have hA':=hI.agree.fresh p8;refine(hc.run w'.heap.size w' ⟨G.pub,G.ob,0⟩ (xs.map a.eval) w' (hok B0 w0 w' hL hb hB) ⟨Below.refl _ _,Qd _,rfl,hA'.pub,nofun,nofun⟩ ⟨dj.1,λi x y hx hy=>?_⟩).mono ?_
  .exact hp x (Zz hx) G _ y (λb vs hb=>⟨[],by simpa using hb⟩) (dj.2 i x y hx hy)
  .rintro e w'' ⟨u,G',r',st',rfl,hG,hA,hR,rfl,rfl⟩
   rw[hs G' u hR];exact⟨rfl,p8.trans (hA.below.mono p8.size)⟩
 .refine h.run B0 w0 G _ w hL (hI.put (.refl G) hI.agree d (hpr G)) Q λs' a' s6 e8 hK=>hQ s' a' s6 ?_ hK
  rw[e8]
  cases d<;>rfl
end
end Go.Av
namespace Go.Av
open Go Go.RowKit
section
variable {E : Env} {rd : Option Nat} {N : Nat} {ops : Array Oper} {K : AS → Prop} {s : AS} {rest : List Oper} {d : Option Tmp} {T : TypeId} {p : String} {af : Array Edge}
theorem qmy{x:Operand}{t:TypeId}{sz:Nat}{agg:Bool}{st loc:List AObj}{k ver off:Nat}{T':TypeId}{cs:List AV}{r:AV}(hs:s.st=st++loc)(hx:qn N s x=.bx (st.length+k) ver off)(ho:loc[k]?=some (.cells ver T' cs))(ht:tyOf E.P t=some (sz,agg))(hr:kf sz agg off cs=some r)
  (h:AQ E N ops rest K (s.put d r)):AQ E N ops (⟨d,.load t x,T,p,af,none⟩::rest) K s:=
 qvx hx (by rw[hs];exact j9 ho) ht hr h
end
end Go.Av
namespace Go.Proofs.YtihlchbgjdkmpaaGreatDoor
open Go Go.Av Go.RowKit Go.Proofs Go.Pl
structure qej where
 kind:Int
 key:qc
 text:qc
 lo:Int
 hi:Int
abbrev FldV:=qc×qc
@[reducible] def fldA (f : FldV) : AV := .ag [Sv f.1, Sv f.2]
@[reducible] def jl (l : List FldV) : AV := .sl 2 (l.map fldA) none
def zkw(r:qej):Prop:=1<=r.kind∧r.kind<=7∧(r.kind=6∨qa2 r.key)
instance (r:qej):Decidable (zkw r):=inferInstanceAs (Decidable (_∧_∧_))
def za3(l:qc):List qc:=if l=[]then []else zb l
theorem zf3(xs:List qc):Pure (.sl 1 (xs.map λx=>Sv x) none):=qaz λx hx=>by
 simp only[Zp]at hx;obtain⟨l,_,rfl⟩:=hx;intro y hy;simp[AV.cells]at hy;subst hy;exact qt _
def qss(r:qej)(n:Int):Prop:=r.lo<=n∧n<=r.hi
instance (r:qej)(n:Int):Decidable (qss r n):=inferInstanceAs (Decidable (_∧_))
def zai(r:qej)(l:qc):Prop:=∃n,numZ l=some n∧qss r n
instance (r:qej)(l:qc):Decidable (zai r l):=
 match h:numZ l with
 |some n=>decidable_of_iff (qss r n) ⟨λh'=>⟨n,h,h'⟩,λ⟨m,h1,h2⟩=>by rw[h]at h1;cases h1;exact h2⟩
 |none=>.isFalse λ⟨m,h1,_⟩=>by rw[h]at h1;cases h1
def q7b(r:qej)(f:FldV):Prop:=
 (r.kind=3->f.1=r.key->zai r f.2)∧(r.kind=4->f.1=r.key->f.2∈za3 r.text)∧(r.kind=5->f.1=r.key->qss r f.2.length)∧(r.kind=6->f.1∈za3 r.text)
instance (r:qej)(f:FldV):Decidable (q7b r f):=inferInstanceAs (Decidable (_∧_∧_∧_))
def qr2(key:qc)(xs:List FldV):List qc:=(xs.filter λf=>f.1=key).map Prod.snd
def zlj(r:qej)(xs:List FldV):Prop:=zkw r∧((r.kind=1∧(qr2 r.key xs).length=0)∨(r.kind=2∧1<(qr2 r.key xs).length)∨(r.kind≠1∧r.kind≠2∧xs.any (λf=> !decide (q7b r f))=true))
instance (r:qej)(xs:List FldV):Decidable (zlj r xs):=inferInstanceAs (Decidable (_∧(_∨_∨_)))
def badR(r:qej)(f:FldV):Bool:= !decide (q7b r f)
def cntR(r:qej)(xs:List FldV):Nat:=if r.kind=6 then 0 else(qr2 r.key xs).length
end Go.Proofs.YtihlchbgjdkmpaaGreatDoor
namespace Go.Av
open Go Go.RowKit Go.WideShapes Go.ChangeShapes Go.Deep
def RelK(G:Gh)(us:List AV)(cs:List Value):Prop:=us.length=cs.length∧∀(i:Nat)(x:AV)(y:Value),us[i]?=some x->cs[i]?=some y->Rel G x y
theorem RelK.one{G:Gh}{a:AV}{v:Value}(h:RelK G [a] [v]):Rel G a v:=h.2 0 a v rfl rfl
def One(S:AV->Prop):Prop:=∀a,S a->a.cells=[a]
def fieldsOf(P:Program)(t:TypeId):Array Field:=match P.underlying t with|some (.struct fs)=>fs|_=> #[]
end Go.Av
namespace Go.Proofs.YtihlchbgjdkmpaaGreatDoor
open Go Go.Av Go.RowKit Go.Proofs Go.Pl
theorem qnb(l w:List UInt8)(st:List AObj):qr E 187 [Sv l,Sv w] st λr st'=>r=Bv (decide (w<+:l))∧st'=st:=by
 refine q5 (qt _) (qs Tryz.func187 rfl (Qa rfl) ?_);repeat' (first|apply qq|apply qh|apply qj|apply ql|apply qi|(apply qv;(iterate 3 exact rfl))|(apply jo;(iterate 3 exact rfl))|(apply qx;(iterate 4 exact rfl))|(apply xf;exact cAo)|(apply xu;exact cAo)|(apply jn<;>intro h)|(apply qk;exact rfl;apply w7;exact cAo)|(apply qk;exact rfl;apply wt;exact cAo)|(apply zu;(iterate 3 exact rfl))|(apply qbt;(iterate 3 exact rfl);exact cAs)|apply qw)
 all_goals refine qo rfl (q7 rfl) ⟨congrArg Bv (?_:(_:Bool)=_),_,rfl⟩
 .have e:w<+:l↔l.take w.length=w:=by
   rw[Zb];exact⟨λh=>h.symm,λh=>h.symm⟩
  exact decide_eq_decide.2 e.symm
 .refine(decide_eq_false λh=>?_).symm
  have:=h.length_le;omega
structure qp where
 kind:Int
 id:Int
 fields:List FldV
@[reducible] def zz (e : qp) : AV := .ag [Iv e.kind, Iv e.id, jl e.fields]
def qab(k:Int):qc:=if k=1 then [32,114,101,112,108,97,99,101,32]else if k=2 then [32,100,101,108,101,116,101,32]else if k=3 then [32,105,110,115,101,114,116,32]else []
def km(e:qp):qc:=if 1<=e.kind∧e.kind<=3 then qab e.kind++Lib.itoa e.id else []
theorem q1p(e:qp)(st:List AObj)(h1: -9223372036854775808<=e.id)(h2:e.id<=9223372036854775807):qr E 89 [zz e] st λr st'=>r=Sv (km e)∧st'=st:=by
 refine q5 (qt _) (qs Tryz.func89 rfl (Qa rfl) ?_);have hn:=Lib.itoa_length_le e.id h1 h2;repeat' (first|apply qq|apply qh|apply qj|apply qi|(apply qv;(iterate 3 exact rfl))|(apply qe;exact rfl;apply cd_d<;>intro h)|(apply jy;exact rfl;exact rfl;exact cOs)|(apply qb1;(iterate 4 exact rfl))|(apply zl;(iterate 3 exact rfl))|(apply jr;(iterate 5 exact rfl))|apply qz|apply qw|(apply qm;exact Tryz.call56;exact qal _ _ h1 h2))
 all_goals refine qo rfl (q7 rfl) ⟨congrArg (λl:qc=>Sv l) (?_:_=km e),_,rfl⟩
 all_goals simp_all[km,qab]
 all_goals omega
def qc3(k:Int):qc:=if k=1 then [114,101,112,108,97,99,101]else if k=2 then [100,101,108,101,116,101]else if k=3 then [105,110,115,101,114,116]else []
theorem qya(k:Int)(st:List AObj):qr E 145 [Iv k] st λr st'=>r=Sv (qc3 k)∧st'=st:=by
 refine q5 (qt _) (qs Tryz.func145 rfl (Qa rfl) ?_);repeat' (first|apply qq|apply q6|apply qh|apply qj|apply ql|apply qi|(apply qv;(iterate 3 exact rfl))|(apply qe;exact rfl;apply cd_d<;>intro h)|apply qz|apply qw)
 all_goals refine qo rfl (q7 rfl) ⟨congrArg (λl:qc=>Sv l) (?_:_=qc3 k),_,rfl⟩
 all_goals simp_all[qc3]
theorem zhf(k:Int):(qc3 k).length<=7:=by
 unfold qc3;repeat' split
 all_goals simp
theorem q8b(k:Int):qab k=if qc3 k=[]then []else [32]++qc3 k++[32]:=by
 unfold qab qc3;repeat' split
 all_goals simp_all
theorem zhg(k:Int):qc3 k=[]↔¬(1<=k∧k<=3):=by
 unfold qc3;repeat' split
 all_goals simp_all
 omega
theorem zn5(e:qp)(st:List AObj)(h1: -9223372036854775808<=e.id)(h2:e.id<=9223372036854775807):qr E 102 [zz e] st λr st'=>r=Sv (km e)∧st'=st:=by
 refine q5 (qt _) (qs Tryz.func102 rfl (Qa rfl) ?_);have hn:=Lib.itoa_length_le e.id h1 h2;have hw:=zhf e.kind;have ho:=q8b e.kind;have hz:=zhg e.kind;repeat' (first|apply qq|apply qh|apply qj|apply ql|apply qi|(apply jo;(iterate 3 exact rfl))|(apply qe;exact rfl;apply cd_d<;>intro h)|(apply jy;exact rfl;exact rfl;exact cOs)|(apply qb1;(iterate 4 exact rfl))|(apply zl;(iterate 3 exact rfl))|(apply jr;(iterate 5 exact rfl))|apply qz|apply qw|(apply qm;exact Tryz.call145;exact qya _ _)|(apply qm;exact Tryz.call54;exact qlb _ _ h1 h2))
 all_goals refine qo rfl (q7 rfl) ⟨congrArg (λl:qc=>Sv l) (?_:_=km e),_,rfl⟩
 all_goals unfold km
 .rw[if_neg (by simp_all)]
 .rw[if_pos (by simp_all),ho,if_neg (by assumption)]
end Go.Proofs.YtihlchbgjdkmpaaGreatDoor
namespace Go.Av
open Go Go.RowKit
def noop(o:Oper):Oper:={o with op:=.move (.const undef),guard:=none}
section
variable {F : Fence} {n : Nat} {P : Program} {ops ops' : Array Oper} {md : Region.Mode} {C : World → Prop} {Q : Exit → Act → World → Prop} {k : Nat} {o : Oper}
theorem qns{listed:Array Bool}:∀k,listed.getD k true=false->∃j,j<=k∧listed.getD j true=false∧∀i,i<j->listed.getD i true=true:=by
 intro k
 induction k using Nat.strongRecOn with
 |_ k ih=>
  intro h;by_cases bm:∀i,i<k->listed.getD i true=true
  .exact⟨k,Qd _,h,bm⟩
  .have ⟨i,hi⟩:=Classical.not_forall.1 bm
   have ⟨hi1,ld⟩:=Classical.not_imp.1 hi;obtain⟨j,h1,h2,h3⟩:=ih i hi1 (by simpa using ld);exact⟨j,Om,h2,h3⟩
theorem q2g{listed:Array Bool}{i:Nat}(h:listed.getD i true=true)(hi:i<listed.size):listed.getD i false=true:=by
 simp[Zn,hi]at h⊢;exact h
theorem q8a{listed:Array Bool}{i:Nat}(h:listed.getD i true=false)(h2:listed.getD i false=true):False:=by
 unfold Zn at h h2;by_cases hi:i<listed.size
 .rw[dif_pos hi]at h h2
  rw[h]at h2
  cases h2
 .rw[dif_neg hi]at h
  cases h
theorem qtr{listed:Array Bool}{j:Nat}(m8:listed.size=ops.size)(pm:∀(j:Nat)o,ops[j]?=some o->∀e∈o.after,e.on<j)(hj:listed.getD j true=false)(bm:∀i,i<j->listed.getD i true=true):j∈Region.ready md ops listed:=by
 have d8:j<listed.size:=by
  rcases Qp j listed.size with h|h
  .exact h
  .simp[Zn,Nat.not_lt.2 h]at hj
 rw[mem_ready];have ho:ops[j]?=some ops[j]:=Array.getElem?_eq_getElem Om;exact⟨hj,_,ho,λe he _=>q2g (bm _ (pm j _ ho e he)) (by have:=pm j _ ho e he;omega)⟩
theorem qpe{listed:Array Bool}(hs:ops.size=ops'.size)(hk:ops[k]?=some o)(u6:ops'[k]?=some (noop o))(o9:∀j,j≠k->ops'[j]?=ops[j]?):Region.ready md ops' listed=Region.ready md ops listed:=by
 unfold Region.ready;rw[hs];refine List.filter_congr λi _=>?_;by_cases h:i=k
 .subst h;rw[hk,u6];rfl
 .rw[o9 i h]
theorem q7k(hd:o.dst=none)(hk:ops[k]?=some o)(u6:ops'[k]?=some (noop o))(o9:∀j,j≠k->ops'[j]?=ops[j]?)(t:Array Value):yielded ops' t=yielded ops t:=by
 funext j;unfold yielded;by_cases h:j=k
 .subst h;rw[hk,u6];simp[noop,hd]
 .rw[o9 j h]
theorem qr3(hro:F.round=none)(m8:ops.size=ops'.size)(hk:ops[k]?=some o)(u6:ops'[k]?=some (noop o))(o9:∀j,j≠k->ops'[j]?=ops[j]?)(hd:o.dst=none)
  (pm:∀(j:Nat)o,ops[j]?=some o->∀e∈o.after,e.on<j) (hcov:∀j,j<ops.size->j≠k->∃e∈o.after,Region.binds md e=true∧e.on=j):
  ∀(fuel:Nat)(listed:Array Bool)(a:Act)(w:World),C w->listed.size=ops.size->listed.getD k true=false->wpAnyQIn F n P md ops' C (λa=>∀w,C w->wpOpIn F n P ops Q k (Q .normal) a w) fuel listed a->wpAnyIn F n P md ops Q fuel listed a w
 |0,listed,a,w,hC,hs,u7,h=>by
  have ⟨j,_,h2,h3⟩:=qns k u7;have:=qtr (md:=md) hs pm h2 h3;rw[<-qpe m8 hk u6 o9,h.1]at this
  cases this
 |fuel+1,listed,a,w,hC,hs,u7,h=>by
  obtain⟨hq1,r9⟩:=h;rw[qpe m8 hk u6 o9]at hq1 r9;refine⟨λh0=>?_,λi hi=>?_⟩
  .have ⟨j,_,h2,h3⟩:=qns k u7
   have:=qtr (md:=md) hs pm h2 h3;rw[h0]at this
   cases this
  .have hqi:=r9 i hi
   by_cases hik:i=k
   .subst hik
    obtain⟨_,o',e7,bm⟩:=mem_ready.1 hi;rw[hk]at e7
    cases e7
    have hr:Region.ready md ops (listed.setIfInBounds i true)=[]:=by
     rw[List.eq_nil_iff_forall_not_mem];intro j hj;obtain⟨hju,oj,hoj,_⟩:=mem_ready.1 hj
     have hjs:j<ops.size:=by
      rcases Qp j ops.size with h|h
      .exact h
      .rw[Zu h]at hoj;cases hoj
     by_cases dv:j=i
     .subst dv
      simp[Zn,hs,hjs]at hju
     .obtain⟨e,he,hb,heq⟩:=hcov j hjs dv
      have h5:=bm e he hb;rw[heq]at h5;rw[getD_set_ne true (Ne.symm dv)]at hju;exact q8a hju h5
    unfold qOpIn at hqi;rw[u6]at hqi;simp only at hqi;have hqe:=hqi.2;have hwn:Region.wanted (noop o) (yielded ops' a.tmps)=true:=by simp[noop,Region.wanted]
    rw[if_pos hwn]at hqe;obtain⟨v,_,hK⟩:=hqe;have hput:a.put (noop o).dst v=a:=by simp[noop,hd,Act.put]
    rw[hput]at hK
    have hQ':∀w,C w->wpOpIn F n P ops Q i (Q .normal) a w:=by
     cases fuel with
     |zero=>exact hK.2
     |succ fuel=>exact hK.1 (by rw[qpe m8 hk u6 o9];exact hr)
    exact wpOpIn_mono (λa' w' h'=>wpAnyIn_done hr h' _) (hQ' w hC)
   .have he:qOpIn F n P ops C i (wpAnyQIn F n P md ops' C (λa=>∀w,C w->wpOpIn F n P ops Q k (Q .normal) a w) fuel (listed.setIfInBounds i true)) a:=by
     unfold qOpIn at hqi⊢;rw[o9 i hik]at hqi;rw[<-q7k hd hk u6 o9];exact hqi
    refine wpOpIn_of_qOpIn hro hC (λa' w' hC' hX=>qr3 hro m8 hk u6 o9 hd pm hcov fuel _ a' w' hC' (by simpa using hs) ?_ hX) he;rw[getD_set_ne true hik];exact u7
def qg9{α:Type}:List α->Option (List α×α)
 | []=>none
 | [x]=>some ([],x)
 |x::y::r=>match qg9 (y::r)with
  |some (l,o)=>some (x::l,o)
  |none=>none
theorem qrw{α:Type}:∀{L l:List α}{o:α},qg9 L=some (l,o)->L=l++[o]
 | [],_,_,h=>by simp[qg9]at h
 | [x],_,_,h=>by simp[qg9]at h;obtain⟨rfl,rfl⟩:=h;rfl
 |x::y::r,l,o,h=>by
  unfold qg9 at h;split at h
  .rename_i l' o' he
   simp only[Zl,Xv]at h;obtain⟨rfl,rfl⟩:=h;rw[qrw he];rfl
  .simp at h
def q9l(o:Oper)(k:Nat):Bool:=(Xt k).all λj=>o.after.toList.any λe=>Region.binds .any e&&Xm e.on j
def q50(ops:List Oper):Bool:=(Xt ops.length).all λj=>match ops[j]?with|some o=>o.after.toList.all λe=>Nat.blt e.on j|none=>true
end
section
variable {E : Env} {N : Nat} {s : AS}
theorem qzy{id:Nat}{L l:List Oper}{o:Oper}{Q:Exit->AS->Prop}(r8:qg9 L=some (l,o))(hd:o.dst=none)(hcov:q9l o l.length=true)(pm:q50 L=true)(hm:E.P.follows .mixedOrders=true)(hB:Region.lexB .any (l++[noop o]).toArray=true)
  (h:AQ E N (l++[noop o]).toArray l (λs'=>AOps E none N L.toArray [o] (Q .normal) s') s):AWp E none N (.region id L.toArray true) Q s:=by
 have hLe:=qrw r8;subst hLe;refine⟨λB0 w0 G a w hL hI=>?_⟩;have lz:=hB;simp only[Region.lexB,Qr]at lz;have hk:(l++[o]).toArray[l.length]?=some o:=Sx
 have u6:(l++[noop o]).toArray[l.length]?=some (noop o):=Sx
 have o9:∀j,j≠l.length->(l++[noop o]).toArray[j]?=(l++[o]).toArray[j]?:=λj hj=>by
  simp only[Zw];rcases Qp j l.length with h|h
  .rw[Qx h,Qx h]
  .rw[Zx So,Zx So]
 have hordP:∀(j:Nat)o',(l++[o]).toArray[j]?=some o'->∀e∈o'.after,e.on<j:=λj o' hj e he=>by
  simp only[q50,Zf,Xo]at pm;simp only[Zw]at hj;have h1:=pm j (lt_of_getElem? hj);rw[hj]at h1;simp only at h1;have h2:=Zf.1 h1 e (by simpa using he);exact Qa h2
 have hcovP:∀j,j<(l++[o]).toArray.size->j≠l.length->∃e∈o.after,Region.binds .any e=true∧e.on=j:=λj hj b9=>by
  simp only[q9l,Zf,Xo]at hcov;have h1:=hcov j (by simp at hj;omega);obtain⟨e,he,h2⟩:=List.any_eq_true.1 h1;simp only[Qr]at h2;exact⟨e,by simpa using he,h2.1,Nat.eq_of_beq_eq_true h2.2⟩
 have hBl:Below w.heap.size w {w with drawn:=w.drawn+1}:=⟨rfl,rfl,rfl,Qd _,λ_ _=>rfl⟩;refine wpIn_region_any hm (qr3 (C:=λw'=>Below w.heap.size w w') (ops':=(l++[noop o]).toArray) (k:=l.length) rfl Sx hk u6 o9 hd hordP hcovP _ _ _ _ hBl Sx (by simp[Zn]) ?_)
 have hq:wpQuietIn (fw none) 0 E.P (l++[noop o]).toArray (λw'=>Below w.heap.size w w') (λa=>∀w',Below w.heap.size w w'->wpOpIn (fw none) 0 E.P (l++[o]).toArray (λe a' w'=>∃(G':Gh)(s':AS),G.le G'∧Inv B0 w0 N G' s' a' w'∧Q e s') l.length (λa' w'=>∃(G':Gh)(s':AS),G.le G'∧Inv B0 w0 N G' s' a' w'∧Q .normal s') a w') (l++[noop o]) a:=by
  have step:∀(l1:List Oper)(a:Act)(X:Act->Prop),wpQuietIn (fw none) 0 E.P (l++[noop o]).toArray (λw'=>Below w.heap.size w w') X l1 a->wpQuietIn (fw none) 0 E.P (l++[noop o]).toArray (λw'=>Below w.heap.size w w') X (l1++[noop o]) a:=by
   intro l1
   induction l1 with
   |nil=>
    intro a X hX;refine⟨λ_ _ _ hf=>?_,?_⟩
    .simp[Oper.about,noop]at hf
    .have hwn:Region.wanted (noop o) (yielded (l++[noop o]).toArray a.tmps)=true:=by simp[noop,Region.wanted]
     rw[if_pos hwn];refine⟨undef,λw' _=>?_,?_⟩
     .unfold Oper.quietAtIn
      simp[noop,execOp,Oper.quietUponIn,Act.eval]
     .have hput:a.put (noop o).dst undef=a:=by simp[noop,hd,Act.put]
      rw[hput]
      exact hX
   |cons o1 l1 ih=>
    intro a X hX;refine⟨hX.1,?_⟩;have h2:=hX.2;split
    .rename_i hw
     rw[if_pos hw]at h2;obtain⟨v,h3,h4⟩:=h2;exact⟨v,h3,ih _ _ h4⟩
    .rename_i hw
     rw[if_neg hw]at h2;exact ih _ _ h2
  refine step l a _ (h.run B0 w0 G a w hL hI _ λs' a' s6 e8 lg w' p8=>?_);have sn:Inv B0 w0 N G s' a' w':=⟨s6.agree.fresh p8,s6.defers,s6.size,s6.tmps⟩;have hr:=lg.run B0 w0 G a' w' hL sn (λe a' w'=>∃(G':Gh)(s':AS),G.le G'∧Inv B0 w0 N G' s' a' w'∧Q e s') (λG' s'' a'' w'' hG hI3 hQ=>⟨G',s'',hG,hI3,hQ⟩);unfold wpOpIn;rw[hk];exact hr
 have:=wpAnyQIn_lex (F:=fw none) (n:=0) (C:=λw'=>Below w.heap.size w w') (md:=.any) lz.1 (l++[noop o]) 0 (Array.replicate (l++[noop o]).length false) a Sx (by simpa using lz.2) hq
 simpa using this
variable {ops : Array Oper} {K : AS → Prop} {rest : List Oper} {d : Option Tmp} {T : TypeId} {p : String} {af : Array Edge}
theorem qje{x y:Operand}{t t':TypeId}{m n:List UInt8}(hx:qn N s x=Sv m)(hy:qn N s y=Sv n)(hl:m.length+n.length<9223372036854775808)
  (h:AQ E N ops rest K (s.put d (Sv (m++n)))):AQ E N ops (⟨d,.binOp .add t x y t',T,p,af,none⟩::rest) K s:=
 qcj _ rfl nofun (λa w he=>by
  simp only[execOp,he _ _ hx,he _ _ hy,eqGuard_at_string,binOp,Op.stringOp,qb0,qzx,IntKind.max_i64];rw[if_neg Om]
  simp) h
theorem qqf{x y:Operand}{t e:TypeId}{sz:Nat}{agg:Bool}{xs:List AV}{tip:Option Nat}{k:IntKind}{i:Int}{n:Nat}{z:AV}(hx:qn N s x=.sl sz xs tip)(hy:qn N s y=.v (.int k i))(hu:E.P.underlying t=some (.slice e))(ht:tyOf E.P e=some (sz,agg))(hi:i=n)(hz:xs[n]?=some z)
  (h:AQ E N ops rest K (s.put d (.pp z.cells))):AQ E N ops (⟨d,.indexAddr t x y,T,p,af,none⟩::rest) K s:=by
 refine qf4 rfl nofun λB0 w0 G a w _ hI=>?_;subst hi;have he:=hI.eval_of hx;have fb:=hI.evalv hy;generalize hv:a.eval x=v at he;have d8:=lt_of_getElem? hz
 cases he with
 |sl0=>simp at hz
 |sl _ _ _ b off cap pub hp hw d5 i7 htip p9=>
  have pf:z.cells.length=sz:=hw z (Zz hz);have o7:=zw hw;have d7:(n+1)*sz<=xs.length*sz:=Nat.mul_le_mul_right _ d8;rw[Nat.succ_mul]at d7;refine⟨.pointer (some ⟨b,off+n*sz,none⟩),.pp z.cells,λw' _=>?_,?_,h⟩
  .generalize a.eval=ρ at hv fb
   simp only[execOp,hv,fb];simp[Instr.indexAt,asIntOf,run_underlying hu,d8,(vw ht w').1,Addr.add_lit]
  .refine .pp _ b _ pub hp Om λj q r h1 h2=>?_
   have hj:j<sz:=by have:=lt_of_getElem? h1;omega
   have hf:=qol hw hz j hj;exact i7 (n*sz+j) q r (by rw[hf];exact h1) (by rw[<-h2];congr 1;omega)
theorem qly{x y:Operand}{t e:TypeId}{sz:Nat}{agg:Bool}{o ver off len cp:Nat}{k:IntKind}{i:Int}{n:Nat}(hx:qn N s x=.os o ver off len cp)(hy:qn N s y=.v (.int k i))(hu:E.P.underlying t=some (.slice e))(ht:tyOf E.P e=some (sz,agg))(hi:i=n)(hn:n<len)
  (h:AQ E N ops rest K (s.put d (.bx o ver (off+n*sz)))):AQ E N ops (⟨d,.indexAddr t x y,T,p,af,none⟩::rest) K s:=by
 refine qf4 rfl nofun λB0 w0 G a w _ hI=>?_;subst hi;have he:=hI.eval_of hx;have fb:=hI.evalv hy;generalize hv:a.eval x=v at he
 cases he with
 |os _ _ _ _ b cap nw cn hb=>
  refine⟨.pointer (some ⟨b,off+n*sz,none⟩),_,λw' _=>?_,.bx o ver _ b nw cn hb,h⟩;generalize a.eval=ρ at hv fb;simp only[execOp,hv,fb];simp[Instr.indexAt,asIntOf,run_underlying hu,hn,(vw ht w').1,Addr.add_lit]
theorem qlx{t:TypeId}{x:Operand}{f off sz:Nat}{agg:Bool}{o ver q:Nat}(hx:qn N s x=.bx o ver q)(hf:qce E.P t f=some (off,sz,agg))(m8:Xm sz 0=false)
  (h:AQ E N ops rest K (s.put d (.bx o ver (q+off)))):AQ E N ops (⟨d,.fieldAddr t x f,T,p,af,none⟩::rest) K s:=by
 refine qf4 rfl nofun λB0 w0 G a w _ hI=>?_;have he:=hI.eval_of hx;generalize hv:a.eval x=v at he
 cases he with
 |bx _ _ _ b hn dk hb=>
  have hs:sz≠0:=λe=>by subst e;simp at m8
  exact⟨_,_,λw' _=>by simp only[execOp,hv];simp[qi7 hf hs],.bx o ver _ b hn dk hb,h⟩
theorem qhl{t:TypeId}{x:Operand}{f off sz:Nat}{agg:Bool}{cs:List AV}(hx:qn N s x=.pp cs)(hf:qce E.P t f=some (off,sz,agg))(m8:Xm sz 0=false)(d7:Xl off cs.length=true)
  (h:AQ E N ops rest K (s.put d (.pp (cs.drop off)))):AQ E N ops (⟨d,.fieldAddr t x f,T,p,af,none⟩::rest) K s:=by
 refine qf4 rfl nofun λB0 w0 G a w _ hI=>?_;have he:=hI.eval_of hx;generalize hv:a.eval x=v at he
 cases he with
 |pp _ b q pub hp d5 i7=>
  have hs:sz≠0:=λe=>by subst e;simp at m8
  have ho:off<=cs.length:=Qa d7;refine⟨.pointer (some ⟨b,q+off,none⟩),_,λw' _=>by simp only[execOp,hv];simp[qi7 hf hs],?_,h⟩;exact .pp _ b (q+off) pub hp So λi x y h1 h2=>i7 (off+i) x y (by simpa using h1) (by rw[<-h2];congr 1;omega)
theorem qj5{x:Operand}{t:TypeId}{sz:Nat}{agg:Bool}{cs:List AV}{r:AV}(hx:qn N s x=.pp cs)(ht:tyOf E.P t=some (sz,agg))(hr:kf sz agg 0 cs=some r)
  (h:AQ E N ops rest K (s.put d r)):AQ E N ops (⟨d,.load t x,T,p,af,none⟩::rest) K s:=by
 refine qf4 rfl nofun λB0 w0 G a w _ hI=>?_;have he:=hI.eval_of hx;generalize hv:a.eval x=v at he
 cases he with
 |pp _ b off pub hp d5 i7=>
  obtain⟨c,T',fz,hc,sf⟩:=hI.agree.pub b pub hp;have d8:b<w.heap.size:=hI.agree.pub_lt hp
  have key:∀w',Below w.heap.size w w'->∃v,(loadVar t ⟨b,off,none⟩).run E.P w'=.ok v w'∧Rel G r v:=λw' p8=>by
   have h4':w'.heap[b]?=some (.cells c T' fz):=by rw[p8.block _ d8];exact hc
   exact qbz (w:=w') (G:=G) (b:=b) (off:=off) ht (λi x hx _=>by
    have hi:=lt_of_getElem? hx;have hy:pub[off+i]?=some (pub[off+i]'(by omega)):=List.getElem?_eq_getElem Om;refine⟨_,?_,i7 i x _ hx hy⟩
    simp[World.cell?,h4',sf _ _ hy]) hr
  have hg:∀w',Below w.heap.size w w'->∀j,j<cs.length->w'.cell? ⟨b,off+j,none⟩=some (pub.getD (off+j) undef):=λw' p8 j hj=>by
   have h4':w'.heap[b]?=some (.cells c T' fz):=by rw[p8.block _ d8];exact hc
   have hlt2:off+j<pub.length:=Om
   have hy:pub[off+j]?=some (pub.getD (off+j) undef):=by simp[Qy,hlt2]
   simp[World.cell?,h4',sf _ _ hy]
  have pd:∀w',Below w.heap.size w w'->∀v,(loadVar t ⟨b,off,none⟩).run E.P w=.ok v w->(loadVar t ⟨b,off,none⟩).run E.P w'=.ok v w':=λw' p8 v hr1=>by
   obtain⟨i1,i2⟩:=vw ht w;obtain⟨j1,j2⟩:=vw ht w';obtain⟨v',h1',_⟩:=key w' p8;rw[h1'];congr 1
   cases agg with
   |false=>
    simp only[kf,cond_false]at hr;have h0:=lt_of_getElem? hr;have e1:=hg w (Below.refl _ _) 0 h0;have e2:=hg w' p8 0 h0;rw[Xq]at e1 e2;simp[loadVar,i2,run_load,e1]at hr1;simp[loadVar,j2,run_load,e2]at h1'
    rw[<-h1',hr1]
   |true=>
    simp only[kf,cond_true]at hr
    cases t6:Xl (0+sz) cs.length with
    |false=>rw[t6]at hr;simp at hr
    |true=>
     have d7:0+sz<=cs.length:=Qa t6;have l1:=run_loadCells (P:=E.P) (w:=w) ⟨b,off,none⟩ sz (λj=>pub.getD (off+j) undef) (λj hj=>by rw[Addr.add_lit];exact hg w (Below.refl _ _) j Om);have l2:=run_loadCells (P:=E.P) (w:=w') ⟨b,off,none⟩ sz (λj=>pub.getD (off+j) undef) (λj hj=>by rw[Addr.add_lit];exact hg w' p8 j Om);simp[loadVar,i1,i2,l1]at hr1;simp[loadVar,j1,j2,l2]at h1';rw[<-h1',hr1]
  obtain⟨v,a8,hR⟩:=key w (Below.refl _ _);exact⟨v,r,λw' p8=>by simp only[execOp,hv,Instr.loadAt,Instr.sureAddr];simp[pd w' p8 v a8],hR,h⟩
theorem q3s{x y:Operand}{t t':TypeId}{k:IntKind}{m n r:Int}(hx:qn N s x=.v (.int k m))(hy:qn N s y=.v (.int k n))(hr:k.wrap (m-n)=r)
  (h:AQ E N ops rest K (s.put d (.v (.int k r)))):AQ E N ops (⟨d,.binOp .sub t x y t',T,p,af,none⟩::rest) K s:=
 qcj _ rfl nofun (λa w he=>by rw[<-hr];simp[execOp,he _ _ hx,he _ _ hy,eqGuard_at_int,binOp,Op.intArith]) h
theorem qyi{x y z:Operand}{t:TypeId}{k k':IntKind}{l:List UInt8}{i j:Nat}(hx:qn N s x=Sv l)(hy:qn N s y=.v (.int k' (i:Int)))(hz:qn N s z=.v (.int k (j:Int)))(hu:E.P.underlying t=some .string)(h1:i<=j)(h2:j<=l.length)
  (h:AQ E N ops rest K (s.put d (Sv ((l.take j).drop i)))):AQ E N ops (⟨d,.slice t x (some y) (some z) none,T,p,af,none⟩::rest) K s:=
 qt8 (i:=i) (j:=j) hx hu ⟨_,hy⟩ ⟨_,hz⟩ Om Om Om (by simpa using h)
theorem qyg{x:Operand}{ts:Array TypeId}{t0 e:TypeId}{v:AV}{n:Nat}(hx:qn N s x=v)(hl:lenA v=some n)(ht:ts[0]?=some t0)(hu:E.P.underlying t0=some (.slice e))
  (h:AQ E N ops rest K (s.put d (Iv n))):AQ E N ops (⟨d,.call ⟨.builtin .len,#[x],ts⟩,T,p,af,none⟩::rest) K s:=by
 refine qf4 rfl nofun λB0 w0 G a w _ hI=>?_;have he:=hI.eval_of hx
 have key:∃b c,a.eval x=.slice b n c:=by
  generalize a.eval x=u at he
  cases he<;>simp[lenA]at hl
  case v y=>
   cases u<;>simp at hl
   subst hl;exact⟨_,_,rfl⟩
  case sl0=>subst hl;exact⟨_,_,rfl⟩
  case sl=>subst hl;exact⟨_,_,rfl⟩
  case os=>subst hl;exact⟨_,_,rfl⟩
 obtain⟨b,c,hv⟩:=key;refine⟨.int .i64 n,Iv n,λw' _=>?_,.v _,h⟩;generalize a.eval=ρ at hv;simp[execOp,resolve,invoke,builtin,Builtin.len_,hv,ht,run_underlying hu,goInt]
theorem qmz{x:Operand}{t:TypeId}{sz:Nat}{agg:Bool}{st loc ext new:List AObj}{k ver off:Nat}{T':TypeId}{cs:List AV}{r:AV}(hs:s.st=((st++loc)++ext)++new)(hx:qn N s x=.bx (st.length+k) ver off)(ho:loc[k]?=some (.cells ver T' cs))(ht:tyOf E.P t=some (sz,agg))(hr:kf sz agg off cs=some r)
  (h:AQ E N ops rest K (s.put d r)):AQ E N ops (⟨d,.load t x,T,p,af,none⟩::rest) K s:=
 qvx hx (by rw[hs];exact qby ho) ht hr h
end
end Go.Av
namespace Go.Av
open Go Go.RowKit
section
variable {B0 : Nat} {w0 : World} {G : Gh} {st : List AObj} {w : World}
theorem zm.pubOb(h:zm B0 w0 G st w){o ver:Nat}{T:TypeId}{cs:List AV}(ho:st[o]?=some (.cells ver T cs)):
  ∃vs:List Value,G.le (G.publish (G.ob o).blk vs)∧zm B0 w0 (G.publish (G.ob o).blk vs) (st.set o .dead) w∧(G.ob o).ver=ver∧(G.publish (G.ob o).blk vs).pub (G.ob o).blk=some vs∧cs.length=vs.length∧
   ∀(i:Nat)(x:AV)(y:Value),cs[i]?=some x->vs[i]?=some y->Rel (G.publish (G.ob o).blk vs) x y:=by
 obtain⟨h0,h1,h2,h3,c,h4,h5,h6⟩:=h.ob o _ ho;have d7:G.le (G.publish (G.ob o).blk c.toList):=G.le_publish _ _ [] [] (.inl h3);refine⟨c.toList,d7,?_,h1,by simp[Gh.publish],by simpa using h5,λi x y hx hy=>(h6 i x y hx (by simpa using hy)).mono d7⟩
 have key:∀(k:Nat)(x:AObj),(st.set o .dead)[k]?=some x->x=.dead∨(k≠o∧st[k]?=some x):=λk x hx=>by
  rcases getElem?_set' _ _ _ _ _ hx with⟨_,e⟩|e
  .exact .inl e
  .exact .inr e
 refine⟨h.below,h.hB,by simp[h.n,Gh.publish],λb vs hb=>?_,λk x hx=>?_,λk k' x x' b9 hx i4 hl bj=>?_⟩
 .simp only[Gh.publish]at hb
  by_cases e:b=(G.ob o).blk
  .rw[if_pos e]at hb
   cases hb
   subst e;exact⟨c,T,(0,0),h4,λi y hy=>by simpa using hy⟩
  .rw[if_neg e]at hb
   exact h.pub b vs hb
 .rcases key k x hx with rfl |⟨hk,hx⟩
  .trivial
  .refine(h.ob k x hx).mono d7 rfl (λhl=>?_) (λ_=>rfl)
   have:=h.sep k o x _ hk hx ho hl trivial;simp[Gh.publish,this]
 .rcases key k x hx with rfl |⟨hk,hx⟩
  .exact hl.elim
  .rcases key k' x' i4 with rfl |⟨u6,i4⟩
   .exact bj.elim
   .exact h.sep k k' x x' b9 hx i4 hl bj
end
section
variable {E : Env} {rd : Option Nat} {N : Nat} {ops : Array Oper} {K : AS → Prop} {s : AS} {rest : List Oper} {d : Option Tmp} {T : TypeId} {p : String} {af : Array Edge}
theorem Inv.pub{B0:Nat}{w0:World}{G:Gh}{a:Act}{w:World}(h:Inv B0 w0 N G s a w){i o ver:Nat}{T':TypeId}{cs:List AV}(hi:s.t i=.bx o ver 0)(ho:s.st[o]?=some (.cells ver T' cs)):
  ∃G',G.le G'∧Inv B0 w0 N G' ⟨Av.put s.t i (.pp cs),s.st.set o .dead,s.df⟩ a w:=by
 obtain⟨vs,d7,hA,hv,hp,hl,hr⟩:=h.agree.pubOb ho;refine⟨_,d7,hA,h.defers_mono d7,h.size,λj y hy=>?_⟩;have hj:=h.tmps j y hy;by_cases e:j=i
 .subst e
  simp only[xw];rw[hi]at hj
  cases hj with
  |bx _ _ _ b hn dk hb=>
   have hb:=hb hv;subst hb;exact .pp cs _ 0 vs hp Om λk x y hx hy=>hr k x y hx (by simpa using hy)
 .simp only
  rw[qat _ _ _ _ e];exact hj.mono d7
theorem qe7{x y:Operand}{t:TypeId}{sz:Nat}{agg:Bool}{st loc loc' ext new:List AObj}{k ver off:Nat}{T':TypeId}{cs xs:List AV}{r:AV}(hs:s.st=((st++loc)++ext)++new)(hx:qn N s x=.bx (st.length+k) ver off)(hy:qn N s y=r)(ho:loc[k]?=some (.cells ver T' cs))(ht:tyOf E.P t=some (sz,agg))
  (hok:r.okc=true) (hc:r.cells=xs) (m8:Xm xs.length sz=true) (h1:ke xs=true) (i8:Xl (off+sz) cs.length=true) (hl:loc'=loc.set k (.cells ver T' (z6 cs off xs)))
  (h:AOps E rd N ops rest K (AS.put ⟨s.t,((st++loc')++ext)++new,s.df⟩ d (.v undef))):AOps E rd N ops (⟨d,.store t x y,T,p,af,none⟩::rest) K s:=by
 have hk:=lt_of_getElem? ho;exact qai hx hy (by rw[hs];exact qby ho) ht hok hc m8 h1 i8 (by rw[hs,qfo _ hk,<-hl];exact h)
end
theorem qd6{α:Type}(l:List α)(a:α):(l++[a]).length=l.length+1:=Sx
theorem qid{α:Type}(l:List α)(a:α):Iv ((l.length:Int)+1)=Iv ((l++[a]).length:Nat):=by rw[qd6];rfl
theorem zkf{α:Type}{sz:Nat}{tip:Option Nat}(x0:AV)(g:α->AV)(pre:List α)(a:α)(v:AV)(h:v=g a):AV.sl sz ((x0::pre.map g)++[v]) tip=AV.sl sz (x0::(pre++[a]).map g) tip:=by rw[List.map_append,h];rfl
theorem q7n{E:Env}{rd:Option Nat}{N:Nat}{ops:Array Oper}{K:AS->Prop}{s:AS}{rest:List Oper}{d:Option Tmp}{T:TypeId}{p:String}{af:Array Edge}{t:TypeId}{st loc:List AObj}{cs:List AV}{n:Nat}(e8:s.st=st++loc)(hn:st.length=n)(hz:qkr E.P t=some cs)
  (h:AOps E rd N ops rest K (AS.put ⟨s.t,st++(loc++[.cells 0 t cs]),s.df⟩ d (.bx (n+loc.length) 0 0))):AOps E rd N ops (⟨d,.alloc t,T,p,af,none⟩::rest) K s:=by
 subst hn;exact j7 e8 hz h
theorem qvu{E:Env}{rd:Option Nat}{N:Nat}{ops:Array Oper}{K:AS->Prop}{s:AS}{rest:List Oper}{d:Option Tmp}{T:TypeId}{p:String}{af:Array Edge}{x y:Operand}{t:TypeId}{sz:Nat}{agg:Bool}{st loc ext new:List AObj}{k ver off:Nat}{T':TypeId}{cs xs:List AV}{r:AV}(hs:s.st=((st++loc)++ext)++new)(hx:qn N s x=.bx (st.length+k) ver off)(hy:qn N s y=r)(ho:loc[k]?=some (.cells ver T' cs))(ht:tyOf E.P t=some (sz,agg))
  (hok:r.okc=true) (hc:r.cells=xs) (m8:xs.length=sz) (h1:ke xs=true) (i8:off+sz<=cs.length)
  (h:AOps E rd N ops rest K (AS.put ⟨s.t,((st++loc.set k (.cells ver T' (z6 cs off xs)))++ext)++new,s.df⟩ d (.v undef))):AOps E rd N ops (⟨d,.store t x y,T,p,af,none⟩::rest) K s:=by
 have hk:=lt_of_getElem? ho;exact qhk hx hy (by rw[hs];exact qby ho) ht hok hc m8 (by simpa[ke]using h1) i8 (by rw[hs,qfo _ hk];exact h)
theorem qck{E:Env}{rd:Option Nat}{N:Nat}{c:Code}{Q:Exit->AS->Prop}{s:AS}{α:Type}(xs:List α)(I:List α->AS->Prop)(h0:I [] s)(fm:∀s,I xs s->AWp E rd N c (q2y (λ_=>False) Q) s)
  (hstep:∀pre a rest s,xs=pre++a::rest->I pre s->AWp E rd N c (q2y (λs'=>I (pre++[a]) s') Q) s):AWp E rd N (.loop c) Q s:=by
 refine jt (λ(x:List α×List α)s=>xs=x.1++x.2∧I x.1 s) (λx=>x.2.length) ([],xs) ⟨rfl,h0⟩ ?_;rintro⟨pre,rest⟩ s ⟨hx,hi⟩
 cases rest with
 |nil=>
  simp only[Qw]at hx;subst hx;refine(fm s hi).mono λe s' h=>?_
  cases e with
  |normal=>exact h.elim
  |_=>exact h
 |cons a rest=>
  refine(hstep pre a rest s hx hi).mono λe s' h=>?_
  cases e with
  |normal=>exact⟨(pre++[a],rest),⟨by rw[hx];simp,h⟩,Sx⟩
  |_=>exact h
theorem q19{E:Env}{fn:Func}{R:AV->List AObj->Prop}{s:AS}{st loc ext new:List AObj}{k:Nat}{ds:List Nat}(hs:s.st=((st++loc)++ext)++new)(hd:s.df=(st.length+k)::ds)(ho:loc[k]?=some .dfr)(h:ARet E fn R ⟨s.t,((st++loc.set k .dead)++ext)++new,ds⟩):ARet E fn R s:=
 qqg hd (by rw[hs];exact qby ho) (by rw[hs,qfo _ (lt_of_getElem? ho)];exact h)
@[reducible] def zgi (F : LoopState → Option Code → AObj) (st : List AObj) (own : AObj) (I : List AObj → Prop) (D : Code → List AObj → Prop) : Exit → AS → Prop
 |.normal,s=>∃l ext new,s.st=((st++(l++[.dfr,F .busy none,own]))++ext)++new∧I l
 |.ret,s=>∃l ext new,s.st=((st++(l++[.dfr,F .busy none,own]))++ext)++new∧D .ret l
 |.exit id,s=>∃l ext new,s.st=((st++(l++[.dfr,F .busy none,own]))++ext)++new∧D (.exit id) l
 |_,_=>False
theorem q7u{E:Env}{o:Nat}{xs:List AV}{st st':List AObj}{R:Bool->List AObj->Prop}(e:st=st')(h:yv E o xs st R):yv E o xs st' R:=e▸h
theorem qeu{st l ext:List AObj}{a b c:AObj}{n:Nat}(hl:l.length=n):(((st++(l++[a,b,c]))++ext))[st.length+(n+1)]?=some b:=by
 subst hl;rw[Qb,Qb,Qn Om,Qo,Qn Om];simp
theorem qg7{st l ext:List AObj}{a b c y:AObj}{n:Nat}(hl:l.length=n):((st++(l++[a,b,c]))++ext).set (st.length+(n+1)) y=(st++(l++[a,y,c]))++ext:=by
 subst hl;rw[Qb,Qb,Zg _ _ Om,Qo,Zg _ _ Om];simp
theorem zhv{E:Env}{N:Nat}{t:Nat->AV}{ps:Array Tmp}{asg body:Code}{st l ext:List AObj}{own:AObj}{n:Nat}{xs:List AV}{F:LoopState->Option Code->AObj}{I:List AObj->Prop}{D:Code->List AObj->Prop}(hF:qls F N t ps asg body)(hl:l.length=n)(hps:ps.size=xs.length)
  (hI:∀l,I l->l.length=n) (hD:∀c l,D c l->l.length=n)
  (h:∀rd,AWp E (some rd) N asg (only λs1=>∃new,s1.st=((st++(l++[.dfr,F .ready none,own]))++ext)++new∧s1.df=[]∧AWp E (some rd) N body (zgi F st own I D) ⟨s1.t,((st++(l++[.dfr,F .busy none,own]))++ext)++new,[]⟩) ⟨qms t (ps.toList.zip xs),((st++(l++[.dfr,F .ready none,own]))++ext)++[],[]⟩):
  yv E (st.length+(n+1)) xs ((st++(l++[.dfr,F .ready none,own]))++ext) λb st2=>∃l' ext',(b=true->st2=(st++(l'++[.dfr,F .ready none,own]))++ext'∧I l')∧(b=false->∃c,st2=(st++(l'++[.dfr,F .done (some c),own]))++ext'∧D c l'):=by
 refine qoa hF (qeu hl) hps λrd=>?_;have h:=h rd;rw[Qw]at h;refine h.mono λe s1 hq=>?_
 cases e with
 |normal=>
  obtain⟨new,h1,h2,h3⟩:=hq;refine⟨by rw[h1,Qb];exact qeu hl,h2,?_⟩
  have e:s1.st.set (st.length+(n+1)) (F .busy none)=((st++(l++[.dfr,F .busy none,own]))++ext)++new:=by
   rw[h1,Qb,qg7 hl,Qb _ ext]
  rw[e];refine h3.mono λe s2 r9=>?_
  cases e with
  |normal=>
   obtain⟨l',ext',new',k1,k2⟩:=r9
   exact⟨by rw[k1,Qb];exact qeu (hI _ k2),l',ext'++new',λ_=>⟨by rw[k1,Qb,qg7 (hI _ k2)],k2⟩,nofun⟩
  |ret=>
   obtain⟨l',ext',new',k1,k2⟩:=r9
   exact⟨by rw[k1,Qb];exact qeu (hD _ _ k2),l',ext'++new',nofun,λ_=>⟨_,by rw[k1,Qb,qg7 (hD _ _ k2)],k2⟩⟩
  |exit id=>
   obtain⟨l',ext',new',k1,k2⟩:=r9
   exact⟨by rw[k1,Qb];exact qeu (hD _ _ k2),l',ext'++new',nofun,λ_=>⟨_,by rw[k1,Qb,qg7 (hD _ _ k2)],k2⟩⟩
  |_=>exact r9.elim
 |_=>exact hq.elim
end Go.Av
namespace Go.Pl
open Go Go.Proofs
abbrev Fld:=qc×qc
def qc4(s:qc):Prop:=∀c∈s,wy c
instance (s:qc):Decidable (qc4 s):=inferInstanceAs (Decidable (∀c∈s,wy c))
def wj(s:qc):qc:=if qc4 s∨s.head?=some 46 then 46::s else s
def kl(key p:qc):qc:=key++[58]++if p=[]then []else [32]++p
def zq(f:Fld):List qc:=kl f.1 ((zb f.2).headD [])::(zb f.2).tail.map λs=>[32]++wj s
def zk(ls:List qc):qc:=ls.flatMap λs=>s++[10]
def zy(xs:List Fld):qc:=xs.flatMap λf=>zk (zq f)
def vh(f:Fld):Int:=if¬qa2 f.1 then 5 else if 1000<f.2.length then 6 else 0
def ki(f:Fld):Prop:=qa2 f.1∧f.2.length<=1000
instance (f:Fld):Decidable (ki f):=inferInstanceAs (Decidable (_∧_))
theorem qc5(f:Fld):vh f=0↔ki f:=by
 unfold vh ki;by_cases h:qa2 f.1
 .by_cases h2:1000<f.2.length
  .simp[h,h2]
  .simp[h,h2];omega
 .simp[h]
def w9(c:UInt8)(l:qc):qc:=if l.head?=some c then l.drop 1 else l
theorem qzm(c:UInt8)(l:qc):Lib.trimPrefix l [c]=w9 c l:=by
 unfold Lib.trimPrefix w9;rw[qpz];simp
def qb8(l:qc)(r:List qc):qc:=w9 32 (vc l)++r.flatMap λs=>[10]++w9 46 (s.drop 1)
def qve(ls:List qc):Prop:=ls≠[]∧qy (ls.headD [])=4∧∀s∈ls.tail,qy s=3
instance (ls:List qc):Decidable (qve ls):=inferInstanceAs (Decidable (_∧_∧_))
def zv(ls:List qc):Fld×Int:=
 if qve ls then
  if 1000<(qb8 (ls.headD []) ls.tail).length then(([],[]),6)else((jf (ls.headD []),qb8 (ls.headD []) ls.tail),0)
 else(([],[]),2)
theorem qhw(l:qc):zb l≠[]:=by
 by_cases h:10∈l
 .rw[y7 h];simp
 .rw[y8 h];simp
theorem qo9(l:qc):zb l=(zb l).headD []::(zb l).tail:=by
 cases h:zb l with
 |nil=>exact absurd h (qhw l)
 |cons a r=>rfl
theorem qki:∀(n:Nat)(l:qc),l.length<=n->(zb l).headD []++(zb l).tail.flatMap (λs=>[10]++s)=l
 |n,l,hn=>by
  by_cases h:10∈l
  .rw[y7 h]
   have b9:l≠[]:=λe=>by subst e;simp at h
   have d8:=xp (c:=10) b9
   cases n with
   |zero=>omega
   |succ n=>
    have ih:=qki n (past 10 l) Om;simp only[Zr,Zy];rw[qo9 (past 10 l)];simp only[List.flatMap_cons];rw[Qb,ih];have:=wl h;simp[<-this]
  .rw[y8 h];simp
theorem qfh(l:qc):∀x∈zb l,10∉x:=λx hx=>(qjw l.length l (Qd _) x hx).2
theorem qf1(l:qc):∀x∈zb l,x.length<=l.length:=λx hx=>(qjw l.length l (Qd _) x hx).1
theorem qul(l:qc):(zb l).headD []∈zb l:=by
 have h:=qhw l
 cases e:zb l with
 |nil=>exact absurd e h
 |cons a r=>simp
theorem q89(s:qc):w9 46 (wj s)=s:=by
 unfold wj w9;by_cases h:qc4 s∨s.head?=some 46
 .rw[if_pos h];simp
 .rw[if_neg h,if_neg (λh'=>h (.inr h'))]
theorem qzf(s:qc):¬qc4 (wj s):=by
 unfold wj;by_cases h:qc4 s∨s.head?=some 46
 .rw[if_pos h]
  intro h';have:=h' 46 Sx;revert this;decide
 .rw[if_neg h]
  exactλh'=>h (.inl h')
theorem qx3{s:qc}(h:10∉s):10∉wj s:=by
 unfold wj;split
 .simp[h]
 .exact h
theorem q1x(s:qc):(wj s).length<=s.length+1:=by
 unfold wj;split <;>simp
theorem q00(s:qc)(h:10∉s):qy ([32]++wj s)=3:=by
 have hn:=qx3 h;have hb:=qzf s;unfold qy;have g9:10∉([32]++wj s):=by simp[hn]
 rw[if_neg g9,if_neg (λh'=>hb λc hc=>h' c (by simp[hc])),if_neg Sx,if_pos ⟨32,Sx,.inl rfl⟩]
theorem qm4{k r:qc}(h:58∉k):jf (k++[58]++r)=k:=by
 unfold jf
 induction k with
 |nil=>simp
 |cons a k ih=>
  simp only[Zd,not_or]at h;have:(58:UInt8)≠a:=h.1;simp only[Qf,List.takeWhile_cons];rw[if_pos (by simpa usingλe=>this e.symm)];rw[ih h.2]
theorem q6x{k r:qc}(h:58∉k):vc (k++[58]++r)=r:=by
 unfold vc;rw[qm4 h];rw[Zi Sx];simp
theorem qmg{k:qc}(h:qa2 k):∃c,k.head?=some c∧¬wy c∧c≠35:=by
 obtain⟨h1,h2,h3,h4,h5,h6⟩:=h
 cases k with
 |nil=>exact absurd rfl h1
 |cons a r=>exact⟨a,rfl,λhb=>h3 ⟨a,rfl,hb⟩,λe=>h4 (by simp[e])⟩
theorem q0z{k p:qc}(h:qa2 k)(hp:10∉p):qy (kl k p)=4:=by
 obtain⟨c,hc,hb,h35⟩:=qmg h;have hk10:10∉k:=h.2.2.2.2.2;have hk58:58∉k:=h.2.2.2.2.1
 have hh:(kl k p).head?=some c:=by
  unfold kl
  cases k with
  |nil=>simp at hc
  |cons a r=>simpa using hc
 have e:kl k p=k++[58]++(if p=[]then []else [32]++p):=rfl
 have g9:10∉kl k p:=by
  rw[e];split <;>simp[hk10,hp]
 have td:c∈kl k p:=List.mem_of_head? hh;unfold qy;rw[if_neg g9,if_neg (λh'=>hb (h' c td)),if_neg (by rw[hh];simpa using h35),if_neg (λ⟨d,hd,dt⟩=>by rw[hh]at hd;cases hd;exact hb dt)];rw[if_pos];refine⟨by rw[e];simp,?_⟩;rw[e,qm4 hk58];exact h
theorem ze5(k p:qc)(h:58∉k):w9 32 (vc (kl k p))=p:=by
 unfold kl;rw[q6x h];by_cases hp:p=[]
 .rw[if_pos hp];simp[w9,hp]
 .rw[if_neg hp];simp[w9]
theorem qp0{f:Fld}(h:ki f):zv (zq f)=(f,0):=by
 obtain⟨hk,hv⟩:=h;have hk58:58∉f.1:=hk.2.2.2.2.1;have g9:=qfh f.2
 have tw:qb8 (kl f.1 ((zb f.2).headD [])) ((zb f.2).tail.map λs=>[32]++wj s)=f.2:=by
  unfold qb8;rw[ze5 _ _ hk58]
  have:((zb f.2).tail.map λs=>[32]++wj s).flatMap (λs=>[10]++w9 46 (s.drop 1))=(zb f.2).tail.flatMap (λs=>[10]++s):=by
   rw[List.flatMap_map];congr 1;funext s;simp[q89]
  rw[this,qki _ _ (Qd _)]
 unfold zv zq;rw[if_pos]
 .simp only[Zr,Zy]
  refine(if_neg (by rw[tw];omega)).trans ?_;have:jf (kl f.1 ((zb f.2).headD []))=f.1:=qm4 hk58;rw[this,tw]
 .refine⟨Sx,?_,?_⟩
  .simp only[Zr]
   exact q0z hk (g9 _ (qul _))
  .intro s hs
   simp only[Zy,Zp]at hs;obtain⟨x,hx,rfl⟩:=hs;exact q00 x (g9 x (List.mem_of_mem_tail hx))
end Go.Pl
