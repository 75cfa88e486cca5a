/- Contracts and plain facts that the closing text leans on (part 3). No condition of their own beyond those that each states. -/
import Derived.Test.YtlekheifonaipaaGreatDoorK2
import Derived.Lib.SplitLaws
import Derived.Shelf.Strings.SplitShaped
import Derived.Deep.Slices
import Derived.Deep.Fields
import Derived.WideKeyArgs
import Derived.Lib.ItoaLen
set_option maxRecDepth 100000
set_option linter.unusedVariables false
set_option linter.unusedSimpArgs false
open Array renaming getD→Zm,getElem?_eq_none→Zr
open Bool renaming and_eq_true→Qs,false_eq_true→Zx
open Int renaming eq_ofNat_of_zero_le→Zo
open List renaming append_assoc→Qb,prefix_append_right_inj→Qc,prefix_append→Qd,take_length→Qf,drop_left→Qg,cons_prefix_cons→Qh,takeWhile_prefix→Qi,length_eq_zero_iff→Qj,cons_append→Qk,replicate→Ql,mem_append→Qm,getElem?_append_right→Qn,take_append_drop→Qq,getD→Qr,getLast?_append→Qt,takeWhile_cons_of_pos→Qu,takeWhile_cons_of_neg→Qv,drop_eq_getElem_cons→Qw,append_nil→Qx,getElem?_append_left→Qy,mem_singleton→Qz,length_append→Za,prefix_iff_eq_take→Zb,take_of_length_le→Zc,length_cons→Zd,all_eq_true→Ze,set_append_right→Zf,prefix_of_prefix_length_le→Zg,takeWhile_append_of_pos→Zh,mem_cons→Zi,append_cancel_left_eq→Zj,getLast?_eq_getElem?→Zl,prefix_refl→Zn,drop_eq_nil_of_le→Zp,length→Zq,drop_zero→Zs,getElem?_toArray→Zt,getElem?_eq_none→Zu,mem_of_getElem?→Zv,mem_map→Xa,getElem?_map→Xb,take_prefix→Xd,take_left→Xh,mem_range→Xk,range→Xq
open List.cons renaming injEq→Xg
open Nat renaming le_of_ble_eq_true→Qa,le_refl→Qe,add_sub_cancel_left→Qo,lt_or_ge→Qp,zero_add→Zw,lt_of_le_of_lt→Zy,eq_zero_or_pos→Zz,shiftLeft_eq→Xc,le_add_right→Xe,mod_lt→Xf,ble→Xi,beq→Xj,le_trans→Xl,add_zero→Xm,le_of_eq→Xo,mod_le→Xp,cast→Xr
open Option.some renaming injEq→Zk
open Prod.mk renaming injEq→Xs
namespace Go.Proofs.YtlekheifonaipaaGreatDoor
open Go Go.Av Go.RowKit Go.Proofs Go.Pl
theorem qk0:∀(n u:Nat),u<n->u<18446744073709551616->∀st,qp E 148 [.v (.int .u64 (u:Int))] st λr st'=>r=Sv (Lib.decDigits u)∧st'=st
 |0,_,h,_,_=>absurd h (Nat.not_lt_zero _)
 |n+1,u,hu,h64,st=>by
  refine qz (qr _) (qq Tryz.func148 rfl (Qa rfl) ?_);have br:=qgh (u:=u / 10) Om;have pm:=qgh (u:=u%10) Om;by_cases i3:u<10
  .skip
   repeat' (first|apply qo|apply qf|apply qh|apply qj|apply qg|(apply qt;rfl;rfl;rfl)|(apply qc;rfl;apply va;exact cAo)|(apply qgv;rfl;rfl;rfl;rfl;exact cAs;exact cAs)|apply qu|(apply q0k (n:=1);rfl;rfl;exact qoa Om))
   exact qn rfl (q5 rfl) ⟨congrArg Sv (q81 i3),_,rfl⟩
  .have ih1:=qk0 n (u / 10) Om Om
   have ih2:=qk0 n (u%10) Om Om;repeat' (first|apply qo|apply qf|apply qh|apply qj|apply qg|(apply qt;rfl;rfl;rfl)|(apply qc;rfl;apply vq;exact cAo)|(apply jz;rfl;rfl;exact cOs)|apply qv|apply qu|(apply qqr (n:=10);rfl;rfl;omega;exact qoa Om)|(apply q0m (n:=10);rfl;rfl;omega)|(apply qk;exact Tryz.call148;exact ih1 _)|(apply qk;exact Tryz.call148;exact ih2 _))
   exact qn rfl (q5 rfl) ⟨congrArg Sv (yv i3).symm,_,rfl⟩
theorem q7l(k:Nat)(st:List AObj)(hk:k<=9223372036854775807):qp E 101 [Iv k] st λr st'=>r=Sv (Lib.itoa k)∧st'=st:=by
 refine qz (qr _) (qq Tryz.func101 rfl (Qa rfl) ?_);have hneg:¬(k:Int)<0:=Om
 repeat' (first|apply qo|apply qf|apply qh|apply qj|apply qg|(apply qt;rfl;rfl;rfl)|(apply qc;rfl;apply vq;exact cAo)|apply qv|apply qu|(apply qe6;rfl;rfl;rfl;exact qoa Om)|(apply qk;exact Tryz.call148;exact qk0 (k+1) k Om Om _))
 exact qn rfl (q5 rfl) ⟨congrArg Sv (by unfold Lib.itoa;rw[if_neg hneg];simp),_,rfl⟩
theorem qh2(l m:List UInt8)(st:List AObj)(hl:l.length<4294967281):qp E 139 [Sv l,Sv m] st λr st'=>r=Bv (decide (m<+:l))∧st'=st:=by
 refine qz (qr _) (qq Tryz.func139 rfl (Qa rfl) ?_);repeat' (first|apply qo|apply qf|apply qh|apply qj|apply qg|(apply qt;rfl;rfl;rfl)|(apply jp;rfl;rfl;rfl)|(apply qw;rfl;rfl;rfl;rfl)|(apply xd;exact cAo)|(apply xv;exact cAo)|(apply jo<;>intro h)|(apply qi;rfl;apply w6;exact cAo)|(apply qi;rfl;apply wu;exact cAo)|(apply zr;rfl;rfl;rfl)|(apply qbw;rfl;rfl;rfl;exact cAs)|apply qu)
 all_goals refine qn rfl (q5 rfl) ⟨congrArg Bv (?_:_=_),_,rfl⟩
 .have e:l.take m.length=m↔m<+:l:=by rw[Zb];exact eq_comm
  simp[e]
 .have:¬m<+:l:=λh=>by have:=h.length_le;omega
  simp[this]
theorem qn2(l m:List UInt8)(st:List AObj)(hl:m.length<4294967281):qp E 138 [Sv l,Sv m] st λr st'=>r=Bv (decide (l<+:m))∧st'=st:=by
 refine qz (qr _) (qq Tryz.func138 rfl (Qa rfl) ?_);repeat' (first|apply qo|apply qf|apply qh|apply qj|apply qg|apply qu|(apply qk;exact Tryz.call139;exact qh2 _ _ _ hl))
 exact qn rfl (q5 rfl) ⟨rfl,_,rfl⟩
theorem qj9{p:UInt8->Bool}:∀{l:List UInt8}{k:Nat},k<=l.length->(∀c∈l.take k,p c=true)->(k<l.length->p (l.getD k 0)=false)->(l.takeWhile p).length=k
 | [],k,hk,_,_=>by simp at hk;simp[hk]
 |b::l,0,_,_,h=>by
  have:=h Sx;simp at this
  simp[this]
 |b::l,k+1,hk,h1,h2=>by
  have hb:p b=true:=h1 b Sx;rw[Qu hb,Zd,qj9 (k:=k) (by simpa using hk) (λc hc=>h1 c (by simp[hc])) (λh=>by have:=h2 (by simpa using h);simpa using this)]
def y9(c:UInt8):Bool:=decide (48<=c.toNat∧c.toNat<=57)
theorem q7k(l:List UInt8)(st:List AObj)(hl:l.length<4294967281):qp E 140 [Sv l] st λr st'=>r=Iv (l.takeWhile y9).length∧st'=st:=by
 refine qz (qr _) (qq Tryz.func140 rfl (Qa rfl) ?_);repeat' (first|apply qo|apply qy|apply qf|apply qh|apply qg)
 refine jr (λ(k:Nat)s=>k<=l.length∧(∀c∈l.take k,y9 c=true)∧StA [(0,Sv l),(3,Iv k)] (st++[]) [] s) (λk=>l.length-k) 0 ⟨Om,Sx,z6 ⟨rfl,rfl,trivial⟩⟩ ?_;rintro k _ ⟨hk,h1,t,rfl⟩;repeat' (first|apply qo|apply qy|apply qf|apply qh|apply qj|apply qg|(apply qt;rfl;rfl;rfl)|(apply qw;rfl;rfl;rfl;rfl)|(apply xd;exact cAo)|(apply xv;exact cAo)|(apply xu;exact cRa)|(apply jo<;>intro h)|(apply qi;rfl;apply w6;exact cAo)|(apply qi;rfl;apply wu;exact cAo)|(apply qi;rfl;apply pk_f;exact cRa)|(apply qc;rfl;apply cd_f;exact cRa)|(apply qc;rfl;apply cd_d<;>intro h)|(apply zr;rfl;rfl;rfl)|(apply zn;rfl;rfl;exact q6 Om Om)|(apply wp;rfl;rfl;rfl;exact cAs)|apply qv|apply z7|apply qu)
 all_goals first
  |exact⟨k+1,⟨Om,(qod Om).2 ⟨h1,by simp only[y9,decide_eq_true_eq];omega⟩,z6 ⟨rfl,rfl,trivial⟩⟩,Om⟩
  |exact qn rfl (q5 rfl) ⟨congrArg Iv (congrArg Xr (qj9 hk h1 (λd9=>by simp only[y9,decide_eq_false_iff_not];omega)).symm),_,rfl⟩
def qbt(c:UInt8):Bool:=decide (48<=c.toNat∧c.toNat<=57∨97<=c.toNat∧c.toNat<=102)
theorem qz9{p:UInt8->Bool}{l:List UInt8}{k n:Nat}(hk:k<=l.length)(hn:k<=n)(h1:∀c∈l.take k,p c=true)(h2:k<l.length->k<n->p (l.getD k 0)=false):((l.take n).takeWhile p).length=k:=by
 have d5:(l.take n).length=min n l.length:=Sx
 refine qj9 Om (λc hc=>h1 c ?_) (λh=>?_)
 .rwa [List.take_take,Nat.min_eq_left hn]at hc
 .have h3:k<l.length:=by omega
  have h4:k<n:=Om
  have e:(l.take n).getD k 0=l.getD k 0:=by simp[Qr,List.getElem?_take,h4]
  rw[e];exact h2 h3 h4
theorem zks(l:List UInt8)(st:List AObj)(hl:l.length<4294967281):qp E 141 [Sv l] st λr st'=>r=Iv ((l.take 8).takeWhile qbt).length∧st'=st:=by
 refine qz (qr _) (qq Tryz.func141 rfl (Qa rfl) ?_);repeat' (first|apply qo|apply qy|apply qf|apply qh|apply qg)
 refine jr (λ(k:Nat)s=>k<=l.length∧k<=8∧(∀c∈l.take k,qbt c=true)∧StA [(0,Sv l),(3,Iv k)] (st++[]) [] s) (λk=>l.length-k) 0 ⟨Om,Om,Sx,z6 ⟨rfl,rfl,trivial⟩⟩ ?_;rintro k _ ⟨hk,hk8,h1,t,rfl⟩;repeat' (first|apply qo|apply qy|apply qf|apply qh|apply qj|apply qg|(apply qt;rfl;rfl;rfl)|(apply qw;rfl;rfl;rfl;rfl)|(apply xd;exact cAo)|(apply wg;exact cAo)|(apply wj;exact cAo)|(apply xv;exact cAo)|(apply qaz;rfl;rfl;rfl;rfl)|(apply qew;exact cRa)|(apply xu;exact cRa)|(apply jo<;>intro h)|(apply qi;rfl;apply w6;exact cAo)|(apply qi;rfl;apply wu;exact cAo)|(apply qi;rfl;apply pk_f;exact cRa)|(apply qc;rfl;apply cd_t;exact cRa)|(apply qc;rfl;apply cd_f;exact cRa)|(apply qc;rfl;apply cd_d<;>intro h)|(apply zr;rfl;rfl;rfl)|(apply zn;rfl;rfl;exact q6 Om Om)|(apply wp;rfl;rfl;rfl;exact cAs)|apply qv|apply z7|apply qu)
 all_goals first
  |exact⟨k+1,⟨Om,Om,(qod Om).2 ⟨h1,by simp only[qbt,decide_eq_true_eq];omega⟩,z6 ⟨rfl,rfl,trivial⟩⟩,Om⟩
  |exact qn rfl (q5 rfl) ⟨congrArg Iv (congrArg Xr (qz9 hk hk8 h1 (λd9 hl8=>by simp only[qbt,decide_eq_false_iff_not];omega)).symm),_,rfl⟩
end Go.Proofs.YtlekheifonaipaaGreatDoor
namespace Go.Pl
open Go
def decV(l:qa):Nat:=l.foldl (λa c=>10*a+(c.toNat-48)) 0
theorem qq3(l:qa)(c:UInt8):decV (l++[c])=10*decV l+(c.toNat-48):=by simp[decV]
theorem x3:∀(n u:Nat),u<=n->∀c∈Lib.decDigits u,48<=c.toNat∧c.toNat<=57
 |n,u,hn,c,hc=>by
  by_cases h:u<10
  .rw[Lib.decDigits_one h]at hc
   simp only[Qz]at hc;subst hc;rw[UInt8.toNat_ofNat'];omega
  .rw[yv h,Qm]at hc
   cases n with
   |zero=>omega
   |succ n=>
    rcases hc with hc|hc
    .exact x3 n (u / 10) Om c hc
    .exact x3 n (u%10) Om c hc
theorem quv:∀(n u:Nat),u<=n->decV (Lib.decDigits u)=u
 |n,u,hn=>by
  have key:∀d,d<10->Lib.decDigits d=[UInt8.ofNat (48+d)]∧(UInt8.ofNat (48+d)).toNat-48=d:=λd hd=>by
   refine⟨Lib.decDigits_one hd,?_⟩;rw[UInt8.toNat_ofNat'];omega
  by_cases h:u<10
  .obtain⟨e1,e2⟩:=key u h
   rw[e1];exact(Zw _).trans e2
  .cases n with
   |zero=>omega
   |succ n=>
    obtain⟨e1,e2⟩:=key (u%10) Om;rw[yv h,e1,qq3,quv n (u / 10) Om,e2];omega
theorem qf9(u:Nat):1<=(Lib.decDigits u).length:=by
 rw[Lib.decDigits_length];exact Lib.nDigits_pos u
theorem qgl{v:Int}(h:v<0):Lib.itoa v=45::Lib.decDigits v.natAbs:=by
 unfold Lib.itoa;rw[if_pos h]
theorem qgm{v:Int}(h:0<=v):Lib.itoa v=Lib.decDigits v.toNat:=by
 unfold Lib.itoa;rw[if_neg Om]
theorem zaz(v:Int):1<=(Lib.itoa v).length:=by
 by_cases h:v<0
 .rw[qgl h];simp
 .rw[qgm Om];exact qf9 _
theorem qmg{v:Int}(h1: -9223372036854775808<=v)(h2:v<=9223372036854775807):(Lib.itoa v).length<=20:=by
 by_cases h:v<0
 .rw[qgl h,Zd,Lib.decDigits_length]
  have:=qfh 18 v.natAbs Om;omega
 .rw[qgm Om,Lib.decDigits_length]
  have:=qfh 18 v.toNat Om;omega
theorem q15:∀(a:Nat)(l m:qa)(b:Nat),Lib.parseUint10 a l=.ok b->Lib.parseUint10 a (l++m)=Lib.parseUint10 b m
 |a,[],m,b,h=>by
  simp only[Lib.parseUint10,Lib.NumEnd.ok.injEq]at h
  subst h;rfl
 |a,c::l,m,b,h=>by
  simp only[Qk,Lib.parseUint10]at h⊢;split at h
  .rename_i hd
   rw[if_pos hd];split at h
   .cases h
   .rename_i h1
    rw[if_neg h1];split at h
    .cases h
    .rename_i h2
     rw[if_neg h2];exact q15 _ l m b h
  .cases h
theorem qpj:∀(n u:Nat),u<=n->u<=9223372036854775808->Lib.parseUint10 0 (Lib.decDigits u)=.ok u
 |n,u,hn,hu=>by
  have key:∀(a d:Nat),a<=922337203685477580->d<10->Lib.parseUint10 a (Lib.decDigits d)=.ok (a*10+d):=by
   intro a d ha hd;have e:(UInt8.ofNat (48+d)).toNat=48+d:=by rw[UInt8.toNat_ofNat'];omega
   rw[Lib.decDigits_one hd];simp only[Lib.parseUint10,e];rw[if_pos Om,if_neg Om,if_neg Om];congr 1;omega
  by_cases h:u<10
  .have:=key 0 u Om h
   simpa using this
  .cases n with
   |zero=>omega
   |succ n=>
    rw[yv h,q15 0 _ _ (u / 10) (qpj n (u / 10) Om Om),key _ _ Om Om];congr 1;omega
theorem qoh{v:Int}(h1: -9223372036854775808<=v)(h2:v<=9223372036854775807):Lib.atoiAll (Lib.itoa v)=.ok v:=by
 by_cases h:v<0
 .have hp:=qpj v.natAbs v.natAbs (Qe _) Om
  rw[qgl h]
  have hm:Lib.parseMag (Lib.decDigits v.natAbs)=.ok v.natAbs:=by
   unfold Lib.parseMag;rw[if_neg (λe=>by have:=qf9 v.natAbs;rw[e]at this;simp at this)];exact hp
  have e45:(45:UInt8).toNat=45:=rfl;simp only[Lib.atoiAll,e45];rw[if_pos (Or.inr trivial),hm];simp only[not_true,false_and,if_false,true_and];rw[if_neg Om];simp only[if_true];congr 1;omega
 .have hp:=qpj v.toNat v.toNat (Qe _) Om
  have hd:=x3 v.toNat v.toNat (Qe _);rw[qgm Om]
  cases hl:Lib.decDigits v.toNat with
  |nil=>have:=qf9 v.toNat;rw[hl]at this;simp at this
  |cons c r=>
   rw[hl]at hp hd;have hc:=hd c Sx;simp only[Lib.atoiAll];have g1:¬(c.toNat=43∨c.toNat=45):=Om
   rw[if_neg g1];have hm:Lib.parseMag (c::r)=.ok v.toNat:=by unfold Lib.parseMag;rw[if_neg Sx];exact hp
   rw[hm];have g2:¬c.toNat=45:=Om
   simp only[g2,not_false_iff,true_and,false_and,if_false];rw[if_neg Om];congr 1;omega
def numZ(l:qa):Option Int:=
 match Lib.atoiAll l with
 |.ok v=>if Lib.itoa v=l then some v else none
 |_=>none
theorem qg5{v:Int}(h1: -9223372036854775808<=v)(h2:v<=9223372036854775807):numZ (Lib.itoa v)=some v:=by
 unfold numZ;rw[qoh h1 h2];simp
theorem qmn{l:qa}{v:Int}(h:numZ l=some v):l=Lib.itoa v∧-9223372036854775808<=v∧v<=9223372036854775807:=by
 unfold numZ at h;split at h
 .rename_i u hu
  split at h
  .rename_i he
   simp only[Zk]at h;subst h;exact⟨he.symm,atoiAll_bounds hu⟩
  .simp at h
 .simp at h
theorem qrq{l:qa}(h:∀v,-9223372036854775808<=v->v<=9223372036854775807->l≠Lib.itoa v):numZ l=none:=by
 cases hn:numZ l with
 |none=>rfl
 |some v=>
  obtain⟨h1,h2,h3⟩:=qmn hn;exact absurd h1 (h v h2 h3)
end Go.Pl
namespace Go.Proofs.YtlekheifonaipaaGreatDoor
open Go Go.Av Go.RowKit Go.Proofs Go.Pl
theorem qgd(v:Int)(st:List AObj)(h1: -9223372036854775808<=v)(h2:v<=9223372036854775807):qp E 101 [Iv v] st λr st'=>r=Sv (Lib.itoa v)∧st'=st:=by
 by_cases hneg:v<0
 .refine qz (qr _) (qq Tryz.func101 rfl (Qa rfl) ?_)
  have hl:=qgh (u:=v.natAbs) Om
  have hk:IntKind.u64.wrap (-(v+1))=((v.natAbs-1:Nat):Int):=by
   rw[show -(v+1)=((v.natAbs-1:Nat):Int)by omega];exact qoa Om
  have s8:IntKind.u64.wrap (((v.natAbs-1:Nat):Int)+1)=((v.natAbs:Nat):Int):=by
   rw[show((v.natAbs-1:Nat):Int)+1=((v.natAbs:Nat):Int)by omega];exact qoa Om
  repeat' (first|apply qo|apply qf|apply qh|apply qj|apply qg|(apply qt;rfl;rfl;rfl)|(apply qc;rfl;apply va;exact cAo)|(apply jz;rfl;rfl;exact cOs)|(apply zn;rfl;rfl;exact q6 Om Om)|apply qu|(apply q4j;rfl;exact(show IntKind.i64.wrap (0-(v+1))= -(v+1) from by rw[q6 Om Om];omega))|(apply qe6;rfl;rfl;rfl;exact hk)|(apply zn;rfl;rfl;exact s8)|(apply qk;exact Tryz.call148;exact qk0 (v.natAbs+1) v.natAbs Om Om _))
  exact qn rfl (q5 rfl) ⟨congrArg Sv (qgl hneg).symm,_,rfl⟩
 .obtain⟨k,rfl⟩:=Zo (by omega:0<=v)
  exact q7l k st Om
theorem qsf(x:Int):IntKind.i64.wrap x=(x+9223372036854775808)%18446744073709551616-9223372036854775808:=by
 simp[IntKind.wrap,IntKind.bits,IntKind.signed];split <;>omega
theorem q6l(V d:Nat)(n:Int)(hn:n=IntKind.i64.wrap (-(V:Int))):IntKind.i64.wrap (IntKind.i64.wrap (10*n)-(d:Int))=IntKind.i64.wrap (-((10*V+d:Nat):Int)):=by
 rw[hn];simp only[qsf];omega
theorem zbb(V:Nat):IntKind.i64.wrap (0-IntKind.i64.wrap (-(V:Int)))=IntKind.i64.wrap (V:Int):=by
 simp only[qsf];omega
theorem qe4(x:Int): -9223372036854775808<=IntKind.i64.wrap x∧IntKind.i64.wrap x<=9223372036854775807:=by
 rw[qsf];omega
theorem sub8{c:Nat}(h:48<=c)(h2:c<256):IntKind.u8.wrap ((c:Int)-48)=((c-48:Nat):Int):=by
 simp[IntKind.wrap,IntKind.bits,IntKind.signed];omega
def numA(l:qa):AV:=match numZ l with|some v=>.tu [Iv v,Bv true]|none=>.tu [Iv 0,Bv false]
theorem zgc(l:qa):Pure (numA l):=by
 unfold numA;split <;>exact qms _ _
theorem qdu{l:qa}(h:numZ l=none):numA l=.tu [Iv 0,Bv false]:=by unfold numA;rw[h]
theorem qrp{l:qa}{v:Int}(h:numZ l=some v):numA l=.tu [Iv v,Bv true]:=by unfold numA;rw[h]
theorem q1q{l:qa}{v:Int}(h:l=Lib.itoa v):(v<0->(l.getD 0 0).toNat=45∧l.drop 1=Lib.decDigits v.natAbs)∧(0<=v->(l.getD 0 0).toNat≠45∧l=Lib.decDigits v.toNat):=by
 subst h;refine⟨λh=>?_,λh=>?_⟩
 .rw[qgl h];exact⟨rfl,rfl⟩
 .rw[qgm h]
  refine⟨?_,rfl⟩;have hp:=qf9 v.toNat;have hd:=x3 v.toNat v.toNat (Qe _)
  cases hl:Lib.decDigits v.toNat with
  |nil=>rw[hl]at hp;simp at hp
  |cons c r=>
   rw[hl]at hd;have:=hd c Sx;simp;omega
def sgn(l:qa):Nat:=if(l.getD 0 0).toNat=45 then 1 else 0
theorem qm6{l:qa}{v:Int}(h:l=Lib.itoa v):l.drop (sgn l)=Lib.decDigits v.natAbs:=by
 obtain⟨h1,h2⟩:=q1q h;unfold sgn;by_cases hv:v<0
 .obtain⟨a,b⟩:=h1 hv
  rw[if_pos a,b]
 .obtain⟨a,b⟩:=h2 Om
  rw[if_neg a,Zs,show v.natAbs=v.toNat by omega];exact b
theorem qsu{l:qa}{k:Nat}(hk:k<l.length)(hs:sgn l<=k)(hd:¬(48<=(l.getD k 0).toNat∧(l.getD k 0).toNat<=57)):numZ l=none:=by
 refine qrq λv h1 h2 h=>?_;have e:=qm6 h
 have hm:l.getD k 0∈l.drop (sgn l):=by
  rw[show l.getD k 0=l[k]by simp[Qr,hk]];rw[List.mem_drop_iff_getElem];exact⟨k-sgn l,Om,by congr 1;omega⟩
 rw[e]at hm;exact hd (x3 _ _ (Qe _) _ hm)
def numW(l:qa):Int:=if(l.getD 0 0).toNat=45 then IntKind.i64.wrap (-(decV (l.drop 1):Int))else IntKind.i64.wrap (decV l:Int)
theorem zne{l:qa}{v:Int}(h:l=Lib.itoa v)(h1: -9223372036854775808<=v)(h2:v<=9223372036854775807):numW l=v:=by
 obtain⟨g1,g2⟩:=q1q h;unfold numW;by_cases hv:v<0
 .obtain⟨a,b⟩:=g1 hv
  rw[if_pos a,b,quv _ _ (Qe _),q6 Om Om];omega
 .obtain⟨a,b⟩:=g2 Om
  rw[if_neg a,b,quv _ _ (Qe _),q6 Om Om];omega
theorem zba{l:qa}{n:Int}(h:n=numW l)(he:Lib.itoa n=l):numZ l=some n:=by
 have hr: -9223372036854775808<=n∧n<=9223372036854775807:=by
  rw[h];unfold numW;split <;>exact qe4 _
 rw[<-he,qg5 hr.1 hr.2]
theorem za9{l:qa}{n:Int}(h:n=numW l)(he:¬Lib.itoa n=l):numZ l=none:=
 qrq λv h1 h2 hv=>he (by rw[h,zne hv h1 h2];exact hv.symm)
theorem qn8{l:qa}{k a:Nat}(h:k<l.length)(ha:a<=k):(l.take (k+1)).drop a=(l.take k).drop a++[l.getD k 0]:=by
 rw[qbz h,List.drop_append_of_le_length So]
theorem qt6(l:List UInt8)(st:List AObj)(hl:l.length<4294967281):qp E 132 [Sv l] st λr st'=>r=numA l∧st'=st:=by
 refine qz (zgc l) (qq Tryz.func132 rfl (Qa rfl) ?_);by_cases dt:l.length<1∨20<l.length
 .have hz:numZ l=none:=qrq λv h1 h2 h=>by
   have g1:=zaz v;have g2:=qmg h1 h2;rw[<-h]at g1 g2;omega
  repeat' (first|apply qo|apply qf|apply qh|apply qj|apply qg|(apply qt;rfl;rfl;rfl)|(apply qw;rfl;rfl;rfl;rfl)|(apply wg;exact cAo)|(apply wj;exact cAo)|(apply jo<;>intro h)|(apply qi;rfl;apply w6;exact cAo)|(apply qi;rfl;apply wu;exact cAo)|(apply qc;rfl;apply va;exact cAo)|(apply qc;rfl;apply cd_t;exact cRa)|(apply zr;rfl;rfl;rfl)|apply qu)
  all_goals first
   |(exfalso;omega)
   |exact qn rfl (kw rfl) ⟨(qdu hz).symm,_,rfl⟩
 have p9:1<=l.length:=Om
 have t8:l.length<=20:=Om
 repeat' (first|apply qo|apply qy|apply qf|apply qh|apply qj|apply qg|(apply qt;rfl;rfl;rfl)|(apply qw;rfl;rfl;rfl;rfl)|(apply wg;exact cAo)|(apply qi;rfl;apply wu;exact cAo)|(apply qc;rfl;apply vq;exact cAo)|(apply qc;rfl;apply cd_d<;>intro h)|(apply zr;rfl;rfl;rfl)|(apply wp;rfl;rfl;rfl;exact cAs)|apply qv)
 .have h45:((l.getD 0 0).toNat:Int)=45:=by assumption
  have hs:sgn l=1:=if_pos Om;refine jr (λ(k:Nat)s=>1<=k∧k<=l.length∧StA [(0,Sv l),(4,Iv 1),(5,Iv (IntKind.i64.wrap (-(decV ((l.take k).drop 1):Int)))),(6,Iv k)] (st++[]) [] s) (λk=>l.length-k) 1 ⟨Om,Om,z6 ⟨rfl,rfl,by simp[Zp,decV,IntKind.wrap];rfl,rfl,trivial⟩⟩ ?_;rintro k _ ⟨bn,hk,t,rfl⟩;generalize hn:IntKind.i64.wrap (-(decV ((l.take k).drop 1):Int))=n;have hc:=UInt8.toNat_lt (l.getD k 0);have hr: -9223372036854775808<=n∧n<=9223372036854775807:=hn▸qe4 _;have hr2:=qe4 (0-n);repeat' (first|apply qo|apply qy|apply qf|apply qh|apply qj|apply qg|(apply qt;rfl;rfl;rfl)|(apply jp;rfl;rfl;rfl)|(apply qw;rfl;rfl;rfl;rfl)|(apply wg;exact cAo)|(apply wj;exact cAo)|(apply jo<;>intro h)|(apply qi;rfl;apply w6;exact cAo)|(apply qi;rfl;apply wu;exact cAo)|(apply qc;rfl;apply vq;exact cAo)|(apply qc;rfl;apply cd_t;exact cRa)|(apply qc;rfl;apply cd_d<;>intro h)|(apply zr;rfl;rfl;rfl)|(apply zn;rfl;rfl;exact q6 Om Om)|(apply wp;rfl;rfl;rfl;exact cAs)|apply qv|apply z7|apply qu|(apply qia;rfl;rfl;rfl)|(apply wx;rfl;rfl;exact sub8 Om Om)|(apply wx;rfl;rfl;exact q6l _ _ _ hn.symm)|(apply qe6;rfl;rfl;rfl;exact q6 Om Om)|(apply qk;exact Tryz.call101;exact qgd _ _ Om Om))
  .exact qn rfl (kw rfl) ⟨(qdu (qsu (k:=k) Om Om Om)).symm,_,rfl⟩
  .exact qn rfl (kw rfl) ⟨(qdu (qsu (k:=k) Om Om Om)).symm,_,rfl⟩
  .refine⟨k+1,⟨Om,Om,z6 ⟨rfl,rfl,congrArg Iv ?_,rfl,trivial⟩⟩,Om⟩
   rw[qn8 Om bn,qq3]
  .have e:k=l.length:=by omega
   subst e;rw[Qf]at hn;have hw:n=numW l:=by unfold numW;rw[if_pos Om];rw[<-hn]
   exact qn rfl (kw rfl) ⟨(qdu (za9 hw (by assumption))).symm,_,rfl⟩
  .have e:k=l.length:=by omega
   subst e;rw[Qf]at hn;have hw:n=numW l:=by unfold numW;rw[if_pos Om];rw[<-hn]
   exact qn rfl (kw rfl) ⟨(qrp (zba hw (Classical.not_not.1 (by assumption)))).symm,_,rfl⟩
 .have h45:¬((l.getD 0 0).toNat:Int)=45:=by assumption
  have hs:sgn l=0:=if_neg Om;refine jr (λ(k:Nat)s=>0<=k∧k<=l.length∧StA [(0,Sv l),(4,Iv 0),(5,Iv (IntKind.i64.wrap (-(decV ((l.take k).drop 0):Int)))),(6,Iv k)] (st++[]) [] s) (λk=>l.length-k) 0 ⟨Om,Om,z6 ⟨rfl,rfl,by simp[Zp,decV,IntKind.wrap];rfl,rfl,trivial⟩⟩ ?_;rintro k _ ⟨bn,hk,t,rfl⟩;generalize hn:IntKind.i64.wrap (-(decV ((l.take k).drop 0):Int))=n;have hc:=UInt8.toNat_lt (l.getD k 0);have hr: -9223372036854775808<=n∧n<=9223372036854775807:=hn▸qe4 _;have hr2:=qe4 (0-n);repeat' (first|apply qo|apply qy|apply qf|apply qh|apply qj|apply qg|(apply qt;rfl;rfl;rfl)|(apply jp;rfl;rfl;rfl)|(apply qw;rfl;rfl;rfl;rfl)|(apply wg;exact cAo)|(apply wj;exact cAo)|(apply jo<;>intro h)|(apply qi;rfl;apply w6;exact cAo)|(apply qi;rfl;apply wu;exact cAo)|(apply qc;rfl;apply va;exact cAo)|(apply qc;rfl;apply cd_t;exact cRa)|(apply qc;rfl;apply cd_d<;>intro h)|(apply zr;rfl;rfl;rfl)|(apply zn;rfl;rfl;exact q6 Om Om)|(apply wp;rfl;rfl;rfl;exact cAs)|apply qv|apply z7|apply qu|(apply qia;rfl;rfl;rfl)|(apply wx;rfl;rfl;exact sub8 Om Om)|(apply wx;rfl;rfl;exact q6l _ _ _ hn.symm)|(apply qe6;rfl;rfl;rfl;exact q6 Om Om)|(apply q4j;rfl;rfl)|(apply qk;exact Tryz.call101;exact qgd _ _ Om Om))
  .exact qn rfl (kw rfl) ⟨(qdu (qsu (k:=k) Om Om Om)).symm,_,rfl⟩
  .exact qn rfl (kw rfl) ⟨(qdu (qsu (k:=k) Om Om Om)).symm,_,rfl⟩
  .refine⟨k+1,⟨Om,Om,z6 ⟨rfl,rfl,congrArg Iv ?_,rfl,trivial⟩⟩,Om⟩
   rw[qn8 Om bn,qq3]
  .have e:k=l.length:=by omega
   subst e;rw[Qf]at hn;have hw:IntKind.i64.wrap (0-n)=numW l:=by unfold numW;rw[if_neg Om];rw[<-hn,Zs,zbb]
   exact qn rfl (kw rfl) ⟨(qdu (za9 hw (by assumption))).symm,_,rfl⟩
  .have e:k=l.length:=by omega
   subst e;rw[Qf]at hn;have hw:IntKind.i64.wrap (0-n)=numW l:=by unfold numW;rw[if_neg Om];rw[<-hn,Zs,zbb]
   exact qn rfl (kw rfl) ⟨(qrp (zba hw (Classical.not_not.1 (by assumption)))).symm,_,rfl⟩
theorem qe2(l:List UInt8)(v:Int)(st:List AObj)(hl:l.length<4294967281)(h:numZ l=some v):qp E 132 [Sv l] st λr st'=>r=.tu [Iv v,Bv true]∧st'=st:=by
 have:=qt6 l st hl;rw[qrp h]at this;exact this
theorem qh3(l:List UInt8)(st:List AObj)(hl:l.length<4294967281)(h:numZ l=none):qp E 132 [Sv l] st λr st'=>r=.tu [Iv 0,Bv false]∧st'=st:=by
 have:=qt6 l st hl;rw[qdu h]at this;exact this
theorem q3o(x:BitVec 32):x&&& 2147483648#32≠0#32↔x.toNat / 2147483648=1:=by
 have e:2147483648#32=BitVec.twoPow 32 31:=by decide
 have h:=x.isLt;rw[e,BitVec.and_twoPow,BitVec.getLsbD,Nat.testBit_eq_decide_div_mod_eq];by_cases hb:x.toNat / 2^31%2=1
 .simp only[hb,decide_true,if_true]
  constructor
  .intro _;omega
  .intro _;decide
 .simp only[hb,decide_false]
  constructor
  .intro h';exact absurd rfl h'
  .intro h';omega
theorem zdf(x:BitVec 32):x.msb=true↔x.toNat / 2147483648=1:=by
 rw[BitVec.msb_eq_decide];have h:=x.isLt;simp;omega
theorem ql8(x:BitVec 32):qcn x=(x<<<1)^^^(if x.msb then 79764919#32 else 0#32):=by
 unfold qcn;by_cases h:x.msb=true
 .rw[if_pos ((q3o x).2 ((zdf x).1 h)),if_pos h]
 .rw[if_neg (λh'=>h ((zdf x).2 ((q3o x).1 h'))),if_neg h,BitVec.xor_zero]
theorem zcr(a b:BitVec 32):qcn (a^^^b)=qcn a^^^qcn b:=by
 rw[ql8,ql8,ql8,BitVec.msb_xor,BitVec.shiftLeft_xor_distrib]
 cases a.msb<;>cases b.msb<;>simp only[Bool.xor_false,Bool.xor_true,Bool.not_true,Bool.not_false,Zx,if_true,if_false,BitVec.xor_zero]
 .rw[BitVec.xor_assoc]
 .rw[BitVec.xor_assoc,BitVec.xor_comm (b<<<1),BitVec.xor_assoc]
 .rw[BitVec.xor_assoc (a<<<1),BitVec.xor_comm 79764919#32,BitVec.xor_assoc (b<<<1),BitVec.xor_self,BitVec.xor_zero]
theorem qtj(n:Nat)(a b:BitVec 32):x6 n (a^^^b)=x6 n a^^^x6 n b:=by
 induction n with
 |zero=>rfl
 |succ n ih=>simp only[x6,ih,zcr]
theorem qm3:∀(n:Nat)(x:BitVec 32),n<=31->x.toNat<2^(32-n)->x6 n x=x<<<n
 |0,x,_,_=>by simp[x6]
 |n+1,x,hn,h=>by
  have hp:2^(32-n)=2*2^(32-(n+1)):=by rw[show 32-n=(32-(n+1))+1 by omega,Nat.pow_succ,Nat.mul_comm]
  simp only[x6];rw[qm3 n x Om Om,ql8]
  have hm:(x<<<n).msb=false:=by
   cases hb:(x<<<n).msb with
   |false=>rfl
   |true=>
    have h1:=(zdf _).1 hb
    have h2:(x<<<n).toNat<2147483648:=by
     rw[BitVec.toNat_shiftLeft,Xc];refine Zy (Xp _ _) ?_;have h3:x.toNat*2^n<2^(32-(n+1))*2^n:=Nat.mul_lt_mul_of_pos_right h (Nat.two_pow_pos n);rw[<-Nat.pow_add,show 32-(n+1)+n=31 by omega]at h3;exact h3
    omega
  rw[hm];simp only[Zx,if_false,BitVec.xor_zero];rw[<-BitVec.shiftLeft_add]
theorem zny(x:BitVec 32):x=((x>>>28)<<<28)^^^((x.setWidth 28).setWidth 32):=by
 apply BitVec.eq_of_getLsbD_eq;intro i hi;simp only[BitVec.getLsbD_xor,BitVec.getLsbD_shiftLeft,BitVec.getLsbD_ushiftRight,BitVec.getLsbD_setWidth];by_cases h:i<28
 .simp[h,hi]
 .simp[h,hi,show 28+(i-28)=i by omega]
theorem q01(x:BitVec 32)(n:Nat):crcN x n=x6 4 (x^^^(BitVec.ofNat 32 n<<<28)):=by
 have hl:((x.setWidth 28).setWidth 32).toNat<2^(32-4):=by
  simp only[BitVec.toNat_setWidth];exact Zy (Xp _ _) (Xf _ (by decide))
 have hs:((x.setWidth 28).setWidth 32)<<<4=x<<<4:=by
  apply BitVec.eq_of_getLsbD_eq;intro i hi;simp only[BitVec.getLsbD_shiftLeft,BitVec.getLsbD_setWidth];by_cases h:i<4
  .simp[h]
  .simp[h,hi,show i-4<28 by omega,show i-4<32 by omega]
 have e:x^^^(BitVec.ofNat 32 n<<<28)=(((x>>>28)^^^BitVec.ofNat 32 n)<<<28)^^^((x.setWidth 28).setWidth 32):=by
  rw[BitVec.shiftLeft_xor_distrib,BitVec.xor_assoc,BitVec.xor_comm (BitVec.ofNat 32 n<<<28),<-BitVec.xor_assoc,<-zny x]
 rw[e,qtj,qm3 4 _ Om hl,hs,crcN,rowT,BitVec.ofNat_toNat,BitVec.setWidth_eq,BitVec.xor_comm]
theorem q8z(m n:Nat)(x:BitVec 32):x6 (m+n) x=x6 m (x6 n x):=by
 induction m with
 |zero=>simp[x6]
 |succ m ih=>rw[Nat.succ_add];simp only[x6,ih]
theorem q8w(c:UInt8):BitVec.ofNat 32 c.toNat<<<24=(BitVec.ofNat 32 (c.toNat / 16)<<<28)^^^(BitVec.ofNat 32 (c.toNat%16)<<<24):=by
 have key:∀n:Fin 256,BitVec.ofNat 32 n.val<<<24=(BitVec.ofNat 32 (n.val / 16)<<<28)^^^(BitVec.ofNat 32 (n.val%16)<<<24):=by decide +kernel
 exact key ⟨c.toNat,UInt8.toNat_lt c⟩
theorem zfd(x:BitVec 32)(c:UInt8):crcP x c=x6 8 (x^^^(BitVec.ofNat 32 c.toNat<<<24)):=by
 have hl:(BitVec.ofNat 32 (c.toNat%16)<<<24).toNat<2^(32-4):=by
  have key:∀n:Fin 16,(BitVec.ofNat 32 n.val<<<24).toNat<2^(32-4):=by decide +kernel
  exact key ⟨c.toNat%16,Xf _ (by decide)⟩
 rw[show(8:Nat)=4+4 by rfl,q8z,q8w,<-BitVec.xor_assoc,qtj 4 (x^^^_),qm3 4 _ Om hl,<-BitVec.shiftLeft_add,crcP,q01,q01]
theorem q2s(x:BitVec 32):IntKind.u32.wrap (4294967295-(x.toNat:Int))=((~~~x).toNat:Int):=by
 have h:=x.isLt;have e:(4294967295-(x.toNat:Int))=(((~~~x).toNat:Nat):Int):=by rw[BitVec.toNat_not];omega
 rw[e];exact qh7 _
theorem za7(x:BitVec 32)(k n:Nat)(m:Int)(hm:m=((2^n:Nat):Int)):IntKind.u32.wrap ((x.toNat:Int)*m)=((x<<<n).toNat:Int):=by
 rw[hm,<-Int.natCast_mul,qir,BitVec.toNat_shiftLeft,Xc]
theorem zkr(x:BitVec 32)(l:List UInt8)(st:List AObj)(hl:l.length<4294967281):qp E 102 [Wv x,Sv l] st λr st'=>r=Wv (addP x l)∧st'=st:=by
 refine qz (qr _) (qq Tryz.func102 rfl (Qa rfl) ?_);repeat' (first|apply qo|apply qy|apply qf|apply qh|apply qj|apply qg|(apply wx;rfl;rfl;exact q2s _))
 refine jr (λ(k:Nat)s=>k<=l.length∧StA [(1,Sv l),(5,Wv ((l.take k).foldl crcP (~~~ x))),(6,Iv k)] (st++[]) [] s) (λk=>l.length-k) 0 ⟨Om,z6 ⟨rfl,rfl,rfl,trivial⟩⟩ ?_;rintro k _ ⟨hk,t,rfl⟩;generalize hx:(l.take k).foldl crcP (~~~ x)=y;have hc:=UInt8.toNat_lt (l.getD k 0);repeat' (first|apply qo|apply qy|apply qf|apply qh|apply qj|apply qg|(apply qt;rfl;rfl;rfl)|(apply qc;rfl;apply cd_d<;>intro h)|(apply zr;rfl;rfl;rfl)|(apply wp;rfl;rfl;rfl;exact cAs)|(apply qdx;rfl;rfl;(first|exact ji _|rfl);first|exact ji _|rfl)|apply qv|apply z7|apply qu|(apply qwe;rfl;rfl;rfl;omega)|(apply qia;rfl;rfl;exact za7 _ 0 24 _ rfl)|(apply wx;rfl;rfl;exact q2s _))
 .generalize sn:l.getD k 0=c at *
  generalize hz:y^^^(BitVec.ofNat 32 c.toNat<<<24)=z;refine jr (λ(j:Nat)s=>j<=8∧StA [(1,Sv l),(5,Wv (x6 j z)),(6,Iv k),(7,Iv j)] (st++[]) [] s) (λj=>8-j) 0 ⟨Om,z6 ⟨rfl,rfl,rfl,rfl,trivial⟩⟩ ?_;rintro j _ ⟨hj,t2,rfl⟩;generalize hq:x6 j z=q;have hql:=q.isLt;repeat' (first|apply qo|apply qy|apply qf|apply qh|apply qj|apply qg|(apply qt;rfl;rfl;rfl)|(apply qc;rfl;apply cd_d<;>intro h)|(apply zn;rfl;rfl;exact q6 Om Om)|(apply qdx;rfl;rfl;(first|exact ji _|rfl);first|exact ji _|rfl)|apply qv|apply z7|(apply qqr (n:=2147483648);rfl;rfl;omega;exact q0h Om)|(apply qia;rfl;rfl;exact za7 _ 0 1 _ rfl))
  .refine⟨j+1,⟨Om,z6 ⟨rfl,?_,rfl,rfl,trivial⟩⟩,Om⟩
   refine congrArg Wv (?_:_=qcn _);rw[hq];unfold qcn;rw[if_pos ((q3o q).2 Om)];rfl
  .refine⟨j+1,⟨Om,z6 ⟨rfl,?_,rfl,rfl,trivial⟩⟩,Om⟩
   refine congrArg Wv (?_:_=qcn _);rw[hq];unfold qcn;rw[if_neg (λh'=>absurd ((q3o q).1 h') Om)]
  .have e:j=8:=by omega
   subst e;refine⟨k+1,⟨Om,z6 ⟨rfl,?_,rfl,trivial⟩⟩,Om⟩;refine congrArg Wv (?_:q=_);rw[qbz Om,List.foldl_append,hx,sn]
   show q=crcP y c
   rw[zfd,hz,hq]
 .have e:k=l.length:=by omega
  subst e;refine qn rfl (q5 rfl) ⟨congrArg Wv (?_:_=_),_,rfl⟩;unfold addP;rw[<-hx,Qf]
theorem q7p(l:List UInt8)(st:List AObj)(hl:l.length<4294967281):qp E 59 [Sv l] st λr st'=>r=Wv (addP 0 l)∧st'=st:=by
 refine qz (qr _) (qq Tryz.func59 rfl (Qa rfl) ?_);repeat' (first|apply qo|apply qf|apply qh|apply qj|apply qg|apply qu|(apply qk;exact Tryz.call102;exact zkr 0 _ _ hl))
 exact qn rfl (q5 rfl) ⟨rfl,_,rfl⟩
theorem zjg(x:BitVec 32){j:Nat}(hj:j<8):figP x j=hexL.getD ((x>>>(4*(7-j))).toNat%16) 0:=by
 unfold figP
 have e:((x>>>(4*(7-j)))&&& BitVec.ofInt 32 15).toNat=(x>>>(4*(7-j))).toNat%16:=by
  rw[BitVec.toNat_and];exact Nat.and_two_pow_sub_one_eq_mod _ 4
 rw[e];rfl
theorem zf0{n:Nat}(h:n<16):(hexL.take (n+1)).drop n=[hexL.getD n 0]:=by
 have key:∀i:Fin 16,(hexL.take (i.val+1)).drop i.val=[hexL.getD i.val 0]:=by decide +kernel
 exact key ⟨n,h⟩
theorem zc1(x:BitVec 32){k:Nat}(h:k<8):(x4 x 8).drop (8-(k+1))=figP x (7-k)::(x4 x 8).drop (8-k):=by
 have d5:(x4 x 8).length=8:=by simp[x4]
 rw[Qw Om,show 8-(k+1)+1=8-k by omega];congr 1;simp[x4,show 8-(k+1)=7-k by omega]
theorem q2g(x:BitVec 32)(st:List AObj):qp E 58 [Wv x] st λr st'=>r=Sv (x4 x 8)∧st'=st:=by
 refine qz (qr _) (qq Tryz.func58 rfl (Qa rfl) ?_);have d5:(x4 x 8).length=8:=by simp[x4]
 repeat' (first|apply qo|apply qy|apply qf|apply qh|apply qg)
 refine jr (λ(k:Nat)s=>k<=8∧StA [(0,Wv (x>>>(4*k))),(3,Sv ((x4 x 8).drop (8-k))),(4,Iv k)] (st++[]) [] s) (λk=>8-k) 0 ⟨Om,z6 ⟨by simp;rfl,by simp[d5];rfl,rfl,trivial⟩⟩ ?_;rintro k _ ⟨hk,t,rfl⟩;have hn:(x>>>(4*k)).toNat%16<16:=Xf _ (by decide);have hd:((x4 x 8).drop (8-k)).length=k:=by simp[d5];omega
 generalize hq:x>>>(4*k)=q at *;have hql:=q.isLt;repeat' (first|apply qo|apply qy|apply qf|apply qh|apply qj|apply qg|(apply qt;rfl;rfl;rfl)|(apply qc;rfl;apply cd_d<;>intro h)|(apply jz;rfl;rfl;exact cOs)|(apply zn;rfl;rfl;exact q6 Om Om)|(apply qgv;rfl;rfl;rfl;rfl;exact cAs;exact cAs)|apply qv|apply z7|apply qu|(apply q0m (n:=16);rfl;rfl;omega)|(apply qqr (n:=16);rfl;rfl;omega;exact q0h Om)|(apply q0k (n:=1);rfl;rfl;exact q0h Om))
 .refine⟨k+1,⟨Om,z6 ⟨?_,?_,rfl,trivial⟩⟩,Om⟩
  .refine congrArg (λn:Nat=>AV.v (.int .u32 (n:Int))) (?_:q.toNat / 16=(x>>>(4*(k+1))).toNat)
   rw[show 4*(k+1)=4*k+4 by omega,BitVec.shiftRight_add,hq,BitVec.toNat_ushiftRight,Nat.shiftRight_eq_div_pow]
  .refine congrArg Sv (?_:(hexL.take (q.toNat%16+1)).drop (q.toNat%16)++_=_)
   rw[zc1 x Om,zf0 hn,zjg x Om,show 4*(7-(7-k))=4*k by omega,hq];rfl
 .have e:k=8:=by omega
  subst e;exact qn rfl (q5 rfl) ⟨congrArg Sv Sx,_,rfl⟩
end Go.Proofs.YtlekheifonaipaaGreatDoor
namespace Go.Pl
open Go
def sp:Bool->qa->Bool
 |_,[]=>true
 |f,c::l=>(!f||decide (c=32))&&sp (decide (c=10)) l
theorem qqk:∀l,sp false l=sp true (past 10 l)
 | []=>rfl
 |c::l=>by
  by_cases h:c=10
  .subst h;simp[sp,past,upto]
  .have e:past 10 (c::l)=past 10 l:=by simp[past,upto,h]
   rw[e,<-qqk l];simp[sp,h]
theorem q72{l:qa}(h:l≠[]):sp true l=(decide ([32]<+:upto 10 l)&&sp true (past 10 l)):=by
 cases l with
 |nil=>exact absurd rfl h
 |cons c r=>
  by_cases hc:c=10
  .subst hc;simp[sp,upto]
  .have e:past 10 (c::r)=past 10 r:=by simp[past,upto,hc]
   have e2:upto 10 (c::r)=c::upto 10 r:=by simp[upto,hc]
   rw[e,e2,<-qqk];simp[sp,hc,eq_comm]
theorem qo7:∀(n:Nat)(l:qa),l.length<=n->((∀x∈zo l,[32]<+:x.1)↔sp true l=true)
 |0,l,h=>by
  have:l=[]:=Qj.1 Om;subst this
  simp[vv,sp]
 |n+1,l,h=>by
  by_cases hl:l=[]
  .subst hl;simp[vv,sp]
  .rw[wl hl,q72 hl,Qs,<-qo7 n (past 10 l) (by have:=xq (c:=10) hl;omega)]
   simp only[Zi,forall_eq_or_imp,decide_eq_true_eq]
theorem qes(l:qa):(v7 [32] l).2=sp true l:=by
 unfold v7;by_cases h:sp true l=true
 .rw[if_pos ((qo7 _ l (Qe _)).2 h),h]
 .rw[if_neg (λh'=>h ((qo7 _ l (Qe _)).1 h'))]
  simp only[Bool.not_eq_true]at h;rw[h]
theorem zhj:∀(f:Bool)(l m:qa),sp f (l++m)=true->sp f l=true
 |_,[],_,_=>rfl
 |f,c::l,m,h=>by
  simp only[Qk,sp,Qs]at h⊢;exact⟨h.1,zhj _ l m h.2⟩
def qfd(f:Bool)(l:qa):Bool:=match l.getLast? with|none=>f|some c=>decide (c=10)
theorem zcy(f:Bool)(c:UInt8)(l:qa):qfd f (c::l)=qfd (decide (c=10)) l:=by
 cases l with
 |nil=>simp[qfd]
 |cons b l=>
  unfold qfd;rw[List.getLast?_cons_cons]
  cases hb:(b::l).getLast? with
  |none=>simp at hb
  |some x=>rfl
theorem qr6:∀(f:Bool)(l m:qa),sp f (l++m)=(sp f l&&sp (qfd f l) m)
 |f,[],m=>by simp[sp,qfd]
 |f,c::l,m=>by
  simp only[Qk,sp];rw[qr6 _ l m,zcy,Bool.and_assoc]
theorem qme(l:qa):yw l↔2<=l.length∧l.length<=50000∧l.getLast?=some 10∧sp true l=true:=by
 unfold yw;rw[qes]
theorem qf8:∀(n u:Nat),u<=n->∀c∈Lib.decDigits u,48<=c.toNat∧c.toNat<=57
 |n,u,hn,c,hc=>by
  by_cases h:u<10
  .rw[Lib.decDigits_one h]at hc
   simp only[Qz]at hc;subst hc;rw[UInt8.toNat_ofNat'];omega
  .rw[yv h,Qm]at hc
   cases n with
   |zero=>omega
   |succ n=>
    rcases hc with hc|hc
    .exact qf8 n (u / 10) Om c hc
    .exact qf8 n (u%10) Om c hc
theorem qgk(n:Nat):Lib.itoa (n:Int)=Lib.decDigits n:=by
 unfold Lib.itoa;rw[if_neg Om];simp
theorem qu7(n:Nat):∀c∈Lib.itoa (n:Int),48<=c.toNat∧c.toNat<=57:=by
 rw[qgk];exact qf8 n n (Qe _)
theorem q42(u:Nat):Lib.decDigits u≠[]:=by
 intro h;have:=congrArg Zq h;rw[Lib.decDigits_length]at this;have:=Lib.nDigits_pos u;simp at *;omega
theorem q14:∀(a:Nat)(l m:qa)(b:Nat),Lib.parseUint10 a l=.ok b->Lib.parseUint10 a (l++m)=Lib.parseUint10 b m
 |a,[],m,b,h=>by
  simp only[Lib.parseUint10,Lib.NumEnd.ok.injEq]at h
  subst h;rfl
 |a,c::l,m,b,h=>by
  simp only[Qk,Lib.parseUint10]at h⊢;split at h
  .rename_i hd
   rw[if_pos hd];split at h
   .cases h
   .rename_i h1
    rw[if_neg h1];split at h
    .cases h
    .rename_i h2
     rw[if_neg h2];exact q14 _ l m b h
  .cases h
theorem q16:∀(n u:Nat),u<=n->u<1000000000000000000->Lib.parseUint10 0 (Lib.decDigits u)=.ok u
 |n,u,hn,hu=>by
  have key:∀(a d:Nat),a<100000000000000000->d<10->Lib.parseUint10 a (Lib.decDigits d)=.ok (a*10+d):=by
   intro a d ha hd;have e:(UInt8.ofNat (48+d)).toNat=48+d:=by rw[UInt8.toNat_ofNat'];omega
   rw[Lib.decDigits_one hd];simp only[Lib.parseUint10,e];rw[if_pos Om,if_neg Om,if_neg Om];congr 1;omega
  by_cases h:u<10
  .have:=key 0 u Om h
   simpa using this
  .cases n with
   |zero=>omega
   |succ n=>
    rw[yv h,q14 0 _ _ (u / 10) (q16 n (u / 10) Om Om),key _ _ Om Om];congr 1;omega
theorem zeu{n:Nat}(h:n<1000000000000000000):Lib.atoiAll (Lib.itoa (n:Int))=.ok (n:Int):=by
 have hp:=q16 n n (Qe _) h;have hd:=qf8 n n (Qe _);rw[qgk]
 cases hl:Lib.decDigits n with
 |nil=>exact absurd hl (q42 n)
 |cons c r=>
  rw[hl]at hp hd;have hc:=hd c Sx;simp only[Lib.atoiAll];have h1:¬(c.toNat=43∨c.toNat=45):=Om
  rw[if_neg h1];have hm:Lib.parseMag (c::r)=.ok n:=by unfold Lib.parseMag;rw[if_neg Sx];exact hp
  rw[hm];have h2:¬c.toNat=45:=Om
  simp only[h2,not_false_iff,true_and,false_and,if_false];rw[if_neg Om]
theorem qdk{n:Nat}(h1:1<=n)(h2:n<=50000):kz (Lib.itoa (n:Int))=n:=by
 have:=qxz (zeu (n:=n) Om);rw[if_pos ⟨rfl,Om,Om⟩]at this;omega
theorem qc9{l:qa}{n:Nat}(h:kz l=n)(hn:1<=n):l=Lib.itoa (n:Int):=by
 unfold kz at h;split at h
 .split at h
  .rename_i v _ hv
   have:v=(n:Int):=Om
   rw[<-this,hv.1]
  .omega
 .omega
theorem qnq:∀(n u j:Nat),u<=n->1<=u->1<=j->j<=(Lib.decDigits u).length->∃m,1<=m∧m<=u∧(Lib.decDigits u).take j=Lib.decDigits m
 |n,u,j,hn,hu,hj,hl=>by
  by_cases h:u<10
  .refine⟨u,hu,Qe _,?_⟩
   rw[Lib.decDigits_one h]at hl⊢;simp only[List.length_singleton]at hl;have:j=1:=Om
   subst this;rfl
  .cases n with
   |zero=>omega
   |succ n=>
    rw[yv h]at hl⊢;have h1:(Lib.decDigits (u%10)).length=1:=by rw[Lib.decDigits_one Om];rfl
    rw[Za,h1]at hl;by_cases hj2:j<=(Lib.decDigits (u / 10)).length
    .obtain⟨m,m1,m2,m3⟩:=qnq n (u / 10) j Om Om hj hj2
     exact⟨m,m1,Om,by rw[List.take_append_of_le_length hj2,m3]⟩
    .refine⟨u,hu,Qe _,?_⟩
     rw[Zc (by rw[Za,h1];omega),<-yv h]
end Go.Pl
namespace Go.Proofs.YtlekheifonaipaaGreatDoor
open Go Go.Pl
def wt(n:Nat)(fig:qa):qa:=zb++(Lib.itoa n++32::fig)
theorem zji(n:Nat)(fig:qa):qi8 n fig=wt n fig++[10]:=by simp[qi8,wt,zb]
theorem qfi(n:Nat){c:UInt8}(h:¬(48<=c.toNat∧c.toNat<=57)):c∉Lib.itoa (n:Int):=λhc=>h (qu7 n c hc)
theorem qre{f:qa}(h:xj f){c:UInt8}(hc:c∉hexL):c∉f:=λh'=>hc (h c h')
theorem qcq(n:Nat){fig:qa}(h:xj fig):10∉wt n fig:=by
 unfold wt;simp only[Qm,Zi,not_or];exact⟨by decide,qfi n (by decide),by decide,qre h (by decide)⟩
theorem qky(l:qa):Lib.trimPrefix (zb++l) zb=l:=by
 rw[qd9 (Qd _ _),Qg]
theorem q6w{n:Nat}{fig:qa}(h2:2<=n)(hn:n<=50000)(hf:fig.length=8)(hx:xj fig):jj (wt n fig)=(n,fig,true):=by
 unfold jj wt;have mj:32∉Lib.itoa (n:Int):=qfi n (by decide);rw[qky,v8 fig mj,xw fig mj,qdk Om hn];rw[decide_eq_true ⟨Qd _ _,Sx,h2,hf,hx⟩]
theorem qpo{n:Nat}{fig:qa}(r:qa)(h2:2<=n)(hn:n<=50000)(hf:fig.length=8)(hx:xj fig):
  zi (wt n fig++10::r)=if r.length<n then(yq r ((n:Int)-r.length),[],0)
   else if yw (r.take n)then xo (r.drop n) (r.take n) fig (qeh n)else(3,[],0):=by
 have hm:10∈wt n fig++10::r:=Sx
 have i3:=qcq n hx;unfold zi;rw[if_pos hm,v8 r i3,xw r i3,q6w h2 hn hf hx];simp only[if_true]
structure qsh (n:Nat) (fig body:qa):Prop where
 two:2<=n
 most:n<=50000
 len:body.length=n
 good:yw body
 figs:fig.length=8
 hex:xj fig
def recL(n:Nat)(fig body:qa):qa:=wt n fig++10::(body++qai n)
theorem qn1(l:qa):recF l=recL l.length (sumF l) l:=by
 unfold recF recL;rw[zji];simp
theorem qg6{l a b:qa}(h:l<+:a++b):l<+:a∨∃r,l=a++r∧r<+:b:=by
 rcases Nat.le_total l.length a.length with hl|hl
 .exact .inl (Zg h (Qd _ _) hl)
 .obtain⟨r,hr⟩:=Zg (Qd a b) h hl
  exact .inr ⟨r,hr.symm,by rw[<-hr]at h;exact(Qc a).1 h⟩
theorem qk3{a b:qa}{c:UInt8}(h:a<+:b)(hc:c∉b):c∉a:=λh'=>hc (h.subset h')
theorem zc6{a b:qa}(h:a<+:b)(hb:xj b):xj a:=λc hc=>hb c (h.subset hc)
theorem qru{n:Nat}{fig l:qa}(h2:2<=n)(hn:n<=50000)(hf:fig.length=8)(hx:xj fig)(h:l<+:wt n fig):yn l=true:=by
 unfold wt at h;rcases qg6 h with h|⟨t,rfl,ht⟩
 .unfold yn
  by_cases hb:zb<+:l
  .have e:l=zb:=(h.eq_of_length_le hb.length_le)
   rw[if_pos hb,e];decide
  .rw[if_neg hb]
   exact decide_eq_true h
 .unfold yn
  rw[if_pos (Qd _ _)];have ed:(zb++t).drop 7=t:=by rw[show(7:Nat)=zb.length by rfl,Qg]
  rw[ed];have mj:32∉Lib.itoa (n:Int):=qfi n (by decide);rcases qg6 ht with ht|⟨r,rfl,hr⟩
  .have h3:32∉t:=qk3 ht mj
   rw[xy h3];have hp:past 32 t=[]:=by unfold past;rw[xy h3];simp
   rw[hp];refine decide_eq_true ⟨λh'=>h3 h'.1,λh'=>?_,Sx,by intro c hc;simp at hc⟩;obtain⟨b9,h0⟩:=h';rw[qgk]at ht;have cx:1<=t.length:=List.length_pos_iff.2 b9;obtain⟨m,m1,m2,m3⟩:=qnq n n t.length (Qe _) Om cx ht.length_le;rw[<-Zb.1 ht,<-qgk]at m3;rw[m3,qdk m1 Om]at h0;omega
  .cases r with
   |nil=>
    rw[Qx,xy mj];have hp:past 32 (Lib.itoa (n:Int))=[]:=by unfold past;rw[xy mj];simp
    rw[hp,qdk Om hn]
    exact decide_eq_true ⟨λh'=>mj h'.1,λh'=>by omega,Sx,by intro c hc;simp at hc⟩
   |cons c r=>
    obtain⟨rfl,hr2⟩:=Qh.1 hr;rw[v8 r mj,xw r mj,qdk Om hn];exact decide_eq_true ⟨λh'=>by omega,λh'=>by omega,by have:=hr2.length_le;omega,zc6 hr2 hx⟩
theorem q9j{n:Nat}{r body:qa}(hg:yw body)(hl:body.length=n)(hr:r<+:body)(d9:r.length<n):yq r ((n:Int)-r.length)=2:=by
 obtain⟨g1,g2,g3,g4⟩:=(qme body).1 hg;obtain⟨m,rfl⟩:=hr;unfold yq;rw[qes];rw[qr6,Qs]at g4;refine if_pos ⟨g4.1,?_⟩;rintro⟨h1,h2⟩;have hm:m.length=1:=by simp at hl;omega
 obtain⟨c,rfl⟩:=List.length_eq_one_iff.1 hm;rw[Qt]at g3;simp at g3;subst g3
 have hf:qfd true r=true:=by
  unfold qfd;rcases h1 with rfl|h1
  .rfl
  .rw[h1];rfl
 rw[hf]at g4;simp[sp]at g4
theorem zng{n:Nat}{fig body l:qa}(R:qsh n fig body)(h:l<+:recL n fig body)(hl:l.length<(recL n fig body).length):zi l=(2,[],0):=by
 obtain⟨h2,hn,d5,hg,hf,hx⟩:=R;unfold recL at h hl;rcases qg6 h with h|⟨r,rfl,hr⟩
 .have i3:10∉l:=qk3 h (qcq n hx)
  unfold zi;rw[if_neg i3,if_pos (qru h2 hn hf hx h)]
 .cases r with
  |nil=>
   rw[Qx];unfold zi
   rw[if_neg (qcq n hx),if_pos (qru h2 hn hf hx (Zn _))]
  |cons c r=>
   obtain⟨rfl,hr2⟩:=Qh.1 hr;rw[qpo r h2 hn hf hx];rcases qg6 hr2 with hr|⟨q,rfl,hq⟩
   .by_cases d9:r.length<n
    .rw[if_pos d9,q9j hg d5 hr d9]
    .have e:r=body:=hr.eq_of_length_le Om
     subst e;rw[if_neg d9,<-d5,Qf,if_pos hg,List.drop_length];unfold xo;rw[if_pos ⟨by rw[qbe];simp,Sx⟩]
   .rw[if_neg So,<-d5,Xh,Qg,if_pos hg]
    unfold xo;rw[if_pos ⟨by simp at hl;rw[d5];omega,by rw[d5];exact hq⟩]
theorem qx6(f:qa)(hl:f.length<=8)(hx:xj f):∃g:qa,g.length=8∧xj g∧f<+:g:=
 ⟨f++Ql (8-f.length) 48,So,λc hc=>by
  rw[Qm,List.mem_replicate]at hc;rcases hc with hc|⟨_,rfl⟩
  .exact hx c hc
  .decide,Qd _ _⟩
theorem qz4:∀(k:Nat),sp false (Ql k 97++[10])=true
 |0=>by simp[sp]
 |k+1=>by rw[List.replicate_succ,Qk];simp only[sp];exact by simpa using qz4 k
theorem q4w{n:Nat}{r:qa}(hn:n<=50000)(d9:r.length<n)(h2:2<=n)(hp:yq r ((n:Int)-r.length)=2):∃body:qa,body.length=n∧yw body∧r<+:body:=by
 unfold yq at hp;split at hp
 .rename_i h
  obtain⟨hs,hfr⟩:=h;rw[qes]at hs;by_cases hf:r=[]∨r.getLast?=some 10
  .have hk:r.length+2<=n:=by
    rcases Qp (r.length+1) n with h|h
    .omega
    .exact absurd ⟨hf,Om⟩ hfr
   refine⟨r++(32::(Ql (n-r.length-2) 97++[10])),So,?_,Qd _ _⟩;rw[qme];refine⟨So,So,by simp[Qt,List.getLast?_cons],?_⟩;rw[qr6,hs];simp only[sp,Bool.true_and];have:=qz4 (n-r.length-2)
   simpa using this
  .refine⟨r++(Ql (n-r.length-1) 97++[10]),So,?_,Qd _ _⟩
   rw[qme];refine⟨So,So,by simp[Qt],?_⟩;rw[qr6,hs]
   have e:qfd true r=false:=by
    unfold qfd
    cases hq:r.getLast? with
    |none=>exact absurd (.inl (List.getLast?_eq_none_iff.1 hq)) hf
    |some c=>
     refine decide_eq_false λh=>hf (.inr ?_);rw[hq,h]
   rw[e,qz4];rfl
 .simp at hp
theorem qhc{n:Nat}(h2:2<=n)(hn:n<=50000):∃body:qa,body.length=n∧yw body:=by
 obtain⟨b,h1,h3,_⟩:=q4w (n:=n) (r:=[]) hn So h2 (by
  unfold yq;rw[qes]
  rw[if_pos ⟨rfl,by rintro⟨_,h⟩;simp at h;omega⟩])
 exact⟨b,h1,h3⟩
theorem qj6{a b c:qa}(h:a<+:b):a<+:b++c:=h.trans (Qd _ _)
theorem qg3{n:Nat}{fig body l:qa}(h:l<+:wt n fig):l<+:recL n fig body∧l.length<(recL n fig body).length:=by
 refine⟨qj6 h,?_⟩;have:=h.length_le;unfold recL;simp;omega
theorem znf{l:qa}(h:(zi l).1=2):∃n fig body,qsh n fig body∧l<+:recL n fig body∧l.length<(recL n fig body).length:=by
 unfold zi at h;split at h
 .rename_i i3
  split at h
  .rename_i ho
   generalize hr:past 10 l=r at *;have hl:=wo i3;rw[hr]at hl;generalize hu:upto 10 l=u at *
   -- the first line
   have hop:u=wt (jj u).1 (jj u).2.1∧2<=(jj u).1∧(jj u).1<=50000∧(jj u).2.1.length=8∧xj (jj u).2.1:=by
    simp only[jj,decide_eq_true_eq]at ho⊢;obtain⟨o1,o2,o3,o4,o5⟩:=ho;refine⟨?_,o3,qa7 _,o4,o5⟩;obtain⟨t,rfl⟩:=o1;rw[qky]at *;have:=qc9 rfl (Xl (by decide) o3);unfold wt;rw[<-this,<-wo o2]
   generalize(jj u).1=n at *;generalize(jj u).2.1=fig at *;obtain⟨rfl,h2,hn,hf,hx⟩:=hop;split at h
   .rename_i d9
    obtain⟨body,b1,b2,b3⟩:=q4w hn d9 h2 h;refine⟨n,fig,body,⟨h2,hn,b1,b2,hf,hx⟩,?_,?_⟩
    .rw[hl]
     unfold recL;rw[Qc,Qh];exact⟨rfl,qj6 b3⟩
    .rw[hl]
     unfold recL;have:=b3.length_le;have:=qbe n;simp;omega
   .rename_i ft
    split at h
    .rename_i hg
     have d5:(r.take n).length=n:=So
     refine⟨n,fig,r.take n,⟨h2,hn,d5,hg,hf,hx⟩,?_⟩;unfold xo at h;rw[d5]at h;split at h
     .rename_i hc
      rw[hl];unfold recL;constructor
      .rw[Qc,Qh]
       refine⟨rfl,?_⟩
       conv=>lhs;rw[<-Qq n r]
       rw[Qc];exact hc.2
      .have:=hc.1
       simp at this⊢;omega
     .split at h<;>simp at h
    .simp at h
  .simp at h
 .rename_i i3
  split at h
  .rename_i ho
   unfold yn at ho;split at ho
   .rename_i hb
    obtain⟨t,rfl⟩:=hb;have ed:(zb++t).drop 7=t:=by rw[show(7:Nat)=zb.length by rfl,Qg]
    rw[ed]at ho;obtain⟨o1,o2,o3,o4⟩:=of_decide_eq_true ho;by_cases mj:32∈t
    .have nz:2<=kz (upto 32 t):=by
      rcases Qp (kz (upto 32 t)) 2 with h|h
      .exact absurd ⟨mj,h⟩ o1
      .exact h
     obtain⟨fig,f1,f2,f3⟩:=qx6 _ o3 o4;obtain⟨body,b1,b2⟩:=qhc nz (qa7 _);refine⟨_,fig,body,⟨nz,qa7 _,b1,b2,f1,f2⟩,qg3 ?_⟩;unfold wt;rw[Qc]
     conv=>lhs;rw[wo mj]
     rw[qc9 (l:=upto 32 t) rfl Om];rw[qdk Om (qa7 _),Qc,Qh];exact⟨rfl,f3⟩
    .rw[xy mj]at o2
     by_cases ht:t=[]
     .subst ht
      obtain⟨body,b1,b2⟩:=qhc (n:=2) Om Om;refine⟨2,Ql 8 48,body,⟨Om,Om,b1,b2,Sx,by decide⟩,qg3 ?_⟩;unfold wt;simp
     .have cx:1<=kz t:=by
       rcases Zz (kz t)with h|h
       .exact absurd ⟨ht,h⟩ o2
       .exact h
      have d7:=qa7 t;have ht2:=qc9 (l:=t) rfl cx;generalize kz t=m at *;subst ht2;by_cases hm:m=1
      .subst hm
       obtain⟨body,b1,b2⟩:=qhc (n:=10) Om Om;refine⟨10,Ql 8 48,body,⟨Om,Om,b1,b2,Sx,by decide⟩,qg3 ?_⟩;unfold wt;rw[Qc];have e1:Lib.itoa ((1:Nat):Int)=[49]:=by rw[qgk,Lib.decDigits_one (by decide)];rfl
       have e2:Lib.itoa ((10:Nat):Int)=[49,48]:=by rw[qgk,yv (by decide),Lib.decDigits_one (by decide),Lib.decDigits_one (by decide)];rfl
       rw[e1,e2];exact⟨_,rfl⟩
      .obtain⟨body,b1,b2⟩:=qhc (n:=m) Om Om
       refine⟨m,Ql 8 48,body,⟨Om,Om,b1,b2,Sx,by decide⟩,qg3 ?_⟩;unfold wt;rw[Qc];exact Qd _ _
   .rename_i hb
    have hp:=of_decide_eq_true ho;obtain⟨body,b1,b2⟩:=qhc (n:=2) Om Om;refine⟨2,Ql 8 48,body,⟨Om,Om,b1,b2,Sx,by decide⟩,qg3 ?_⟩;unfold wt;exact qj6 hp
  .simp at h
theorem qtu(s:BitVec 32):xj (x4 s 8):=by
 intro c hc;simp only[x4,Xa]at hc;obtain⟨j,_,rfl⟩:=hc;unfold figP;have h:=Go.Av.and15_lt (s>>>(4*(7-j)));generalize((s>>>(4*(7-j)))&&& BitVec.ofInt 32 15).toNat=k at h;have key:∀i:Fin 16,([48,49,50,51,52,53,54,55,56,57,97,98,99,100,101,102]:qa).getD i.val 0∈hexL:=by decide
 exact key ⟨k,h⟩
theorem zdr{b:qa}(h:yw b):qsh b.length (sumF b) b:=⟨h.1,h.2.1,rfl,h,qjj b,qtu _⟩
theorem qne(b:qa)(h:yw b):((recF b).length:Int)=qeh b.length:=by
 obtain⟨g1,g2,_⟩:=h;unfold recF qeh;rw[if_neg Om];simp only[Za,qdi,qjj];simp
theorem zkp{b:qa}(m:qa)(h:yw b):zi (recF b++m)=(1,b,((recF b).length:Int)):=by
 have R:=zdr h;rw[qne b h,qn1];unfold recL;rw[Qb,Qk,Qb,qpo _ R.two R.most R.figs R.hex,if_neg Sx,Xh,Qg,if_pos h];unfold xo;rw[if_neg (by simp;intro h;omega),if_pos ⟨Qd _ _,rfl⟩]
end Go.Proofs.YtlekheifonaipaaGreatDoor
namespace Go.Proofs.YtlekheifonaipaaGreatDoor
open Go Go.Av Go.RowKit Go.Proofs Go.Pl
theorem zfn{l:qa}{k:Nat}(hk:k<l.length):qfd true (l.take k)=decide (k=0∨l.getD (k-1) 0=10):=by
 cases k with
 |zero=>simp[qfd]
 |succ k=>
  rw[qbz Om];simp[qfd,Qt]
theorem zbq{l:qa}{k:Nat}(hk:k<l.length):sp true (l.take (k+1))=(sp true (l.take k)&&(!decide (k=0∨l.getD (k-1) 0=10)||decide (l.getD k 0=32))):=by
 rw[qbz hk,qr6,zfn hk];simp[sp]
theorem zpe{l:qa}{k:Nat}(hk:k<l.length)(h1:k=0∨l.getD (k-1) 0=10)(h2:l.getD k 0≠32):sp true l=false:=by
 cases h:sp true l with
 |false=>rfl
 |true=>
  have e:=zhj true (l.take (k+1)) (l.drop (k+1)) (by rw[Qq];exact h);rw[zbq hk,decide_eq_true h1,decide_eq_false h2]at e;simp at e
theorem zpv{l:qa}{k:Nat}(hk:k<l.length)(h1:sp true (l.take k)=true)(h2:(k=0∨l.getD (k-1) 0=10)->l.getD k 0=32):sp true (l.take (k+1))=true:=by
 rw[zbq hk,h1];by_cases h:k=0∨l.getD (k-1) 0=10
 .rw[decide_eq_true h,decide_eq_true (h2 h)];rfl
 .rw[decide_eq_false h];rfl
theorem qyg(l:List UInt8)(st:List AObj)(hl:l.length<4294967281):qp E 142 [Sv l] st λr st'=>r=Bv (sp true l)∧st'=st:=by
 refine qz (qr _) (qq Tryz.func142 rfl (Qa rfl) ?_);repeat' (first|apply qo|apply qy|apply qf|apply qh|apply qg)
 refine jr (λ(k:Nat)s=>k<=l.length∧sp true (l.take k)=true∧StA [(0,Sv l),(3,Iv k)] (st++[]) [] s) (λk=>l.length-k) 0 ⟨Om,by simp[sp],z6 ⟨rfl,rfl,trivial⟩⟩ ?_;rintro k _ ⟨hk,h1,t,rfl⟩;repeat' (first|apply qo|apply qy|apply qf|apply qh|apply qj|apply qg|(apply qt;rfl;rfl;rfl)|(apply qw;rfl;rfl;rfl;rfl)|(apply xd;exact cAo)|(apply wg;exact cAo)|(apply wj;exact cAo)|(apply xv;exact cAo)|(apply qaf;exact cRa)|(apply jo<;>intro h)|(apply qi;rfl;apply w6;exact cAo)|(apply qi;rfl;apply wu;exact cAo)|(apply qi;rfl;apply pk_t;exact cRa)|(apply qc;rfl;apply cd_f;exact cRa)|(apply qc;rfl;apply cd_d<;>intro h)|(apply zr;rfl;rfl;rfl)|(apply zn;rfl;rfl;exact q6 Om Om)|(apply wx;rfl;rfl;exact q6 Om Om)|(apply wp;rfl;rfl;rfl;exact cAs)|apply qv|apply z7|apply qu|(apply qix;rfl;rfl;rfl;omega;omega))
 all_goals
  have e1:((k:Int)-1).toNat=k-1:=Om
  simp only[e1,qy1,qcd,Classical.not_not]at *
 all_goals first
  |exact qn rfl (q5 rfl) ⟨congrArg Bv (zpe (k:=k) Om (by first|(left;omega)|(right;assumption)) (by assumption)).symm,_,rfl⟩
  |exact⟨k+1,⟨Om,zpv Om h1 (by first|(intro _;assumption)|(rintro(h|h);omega;contradiction)),z6 ⟨rfl,rfl,trivial⟩⟩,Om⟩
  |skip
 have e:k=l.length:=Om
 subst e;rw[Qf]at h1;exact qn rfl (q5 rfl) ⟨congrArg Bv h1.symm,_,rfl⟩
theorem zg5(l:List UInt8)(st:List AObj)(hl:l.length<4294967281):qp E 143 [Sv l] st λr st'=>r=Bv (decide (yw l))∧st'=st:=by
 refine qz (qr _) (qq Tryz.func143 rfl (Qa rfl) ?_);repeat' (first|apply qo|apply qf|apply qh|apply qj|apply qg|(apply qt;rfl;rfl;rfl)|(apply qw;rfl;rfl;rfl;rfl)|(apply xd;exact cAo)|(apply xv;exact cAo)|(apply xu;exact cRa)|(apply jo<;>intro h)|(apply qi;rfl;apply w6;exact cAo)|(apply qi;rfl;apply wu;exact cAo)|(apply qi;rfl;apply pk_f;exact cRa)|(apply zr;rfl;rfl;rfl)|(apply wx;rfl;rfl;exact q6 Om Om)|apply qu|(apply qix;rfl;rfl;rfl;omega;omega)|(apply qk;exact Tryz.call142;exact qyg _ _ hl))
 all_goals
  have g:=qme l
  have g2:1<=l.length->(l.getLast?=some 10↔((l.getD ((l.length:Int)-1).toNat 0).toNat:Int)=10):=λh=>by
   have e:((l.length:Int)-1).toNat=l.length-1:=Om
   rw[e,qcd,Zl];simp[Qr,show l.length-1<l.length by omega]
  refine qn rfl (q5 rfl) ⟨congrArg Bv (?_:_=decide (yw l)),_,rfl⟩
 .have e:yw l↔sp true l=true:=by rw[g];exact⟨λh=>h.2.2.2,λh=>⟨Om,Om,(g2 Om).2 (by assumption),h⟩⟩
  simp[e]
 .exact(decide_eq_false λh=>by rw[g]at h;exact absurd ((g2 Om).1 h.2.2.1) (by assumption)).symm
 .exact(decide_eq_false λh=>by rw[g]at h;omega).symm
 .exact(decide_eq_false λh=>by rw[g]at h;omega).symm
theorem qnf(n:Nat)(f:List UInt8)(st:List AObj)(hn:n<=9223372036854775807)(hf:f.length<4294967281):qp E 57 [Iv n,Sv f] st λr st'=>r=.tu [Sv (qi8 n f),Sv (qai n)]∧st'=st:=by
 refine qz (qms _ _) (qq Tryz.func57 rfl (Qa rfl) ?_);have h1:=qd0 n hn;repeat' (first|apply qo|apply qf|apply qh|apply qj|apply qg|(apply jz;rfl;rfl;exact cOs)|apply qu|(apply qk;exact Tryz.call101;exact qgd _ _ Om Om))
 exact qn rfl (kw rfl) ⟨zpy (by simp[qi8,qai]),_,rfl⟩
theorem qt8(l:List UInt8)(st:List AObj)(hl:l.length<=50000):qp E 27 [Sv l] st λr st'=>r=Sv (recF l)∧st'=st:=by
 refine qz (qr _) (qq Tryz.func27 rfl (Qa rfl) ?_);have h1:=qd0 l.length Om;have h2:=qdi l.length (x4 (addP 0 l) 8);have h3:=qbe l.length;have h4:(x4 (addP 0 l) 8).length=8:=by simp[x4]
 repeat' (first|(apply q47;first|apply qo|apply qy|apply qf|(apply qc;rfl;apply va;exact cAo)|(apply qc;rfl;apply vq;exact cAo)|(apply qc;rfl;apply qi3;exact cRa)|(apply qc;rfl;apply qi2;exact cRa)|(apply qc;rfl;apply cd_n<;>intro h)|(apply qc;rfl;apply cd_t;exact cRa)|(apply qc;rfl;apply cd_f;exact cRa)|(apply qc;rfl;apply cd_d<;>intro h)|(apply qc;rfl;apply cd_s<;>intro h)|(apply qgg;rfl;kernel_rfl)|apply qv|apply z7|apply qu)|(apply qw5;first|(apply qw;rfl;rfl;rfl;rfl)|(apply qaz;rfl;rfl;rfl;rfl))|(apply zal;first|(apply xd;exact cAo)|(apply wg;exact cAo)|(apply wj;exact cAo)|(apply xv;exact cAo)|(apply qrc;exact cRa)|(apply qao;exact cRa)|(apply qbs;exact cRa)|(apply qow;exact cRa)|(apply qhu<;>intro h)|(apply qaf;exact cRa)|(apply qew;exact cRa)|(apply qbb;exact cRa)|(apply xu;exact cRa)|(apply jo<;>intro h)|(apply qgj<;>intro h))|(apply zak;first|apply qfv|(apply qy9;rfl;rfl;rfl;rfl)|(apply q4q;rfl;rfl;exact q6 Om Om)|(apply qzb;rfl;rfl;rfl;rfl;exact cAs;exact cAs)|(apply qm2;(iterate 5 rfl))|(apply qjn;rfl;rfl;exact cOs)|(apply qe9;rfl;rfl;rfl)|(apply qm1;(iterate 5 rfl))|(apply qhp;rfl;rfl;rfl;rfl)|(apply ql0;rfl;rfl;rfl)|(apply q4p;rfl;rfl;rfl;exact cAs)|(apply qza;rfl;rfl)|(apply quj;rfl;rfl)|(apply qul;rfl;rfl;rfl;omega)|(apply qqs;rfl;rfl;rfl)|apply qea|apply qjm|(apply qwk;rfl;rfl;exact q6 Om Om)|(apply q97;rfl;rfl;rfl)|(apply qsj;rfl;rfl;rfl;exact cAs)|(apply qsi;rfl;rfl;rfl;exact cAs)|(apply qof;rfl;rfl))|(apply qw4;first|(apply qt;rfl;rfl;rfl)|(apply jp;rfl;rfl;rfl)|(apply jz;rfl;rfl;exact cOs)|(apply zn;rfl;rfl;exact q6 Om Om)|(apply wx;rfl;rfl;exact q6 Om Om)|(apply xi;rfl;rfl)|(apply wh;rfl;rfl)|(apply qbj;rfl;rfl)|(apply qd8;rfl;rfl)|(apply qbl;rfl;rfl;rfl)|(apply qf6;rfl;rfl;rfl)|(apply qdx;rfl;rfl;(first|exact ji _|rfl);first|exact ji _|rfl)|(apply qkd;rfl;rfl;(first|exact ji _|rfl);first|exact ji _|rfl)|(apply q0l;rfl;rfl;(first|exact ji _|rfl);first|exact ji _|rfl)|(apply qe7;rfl;rfl;rfl)|(apply qhm;rfl;rfl;rfl))|(apply q1c;first|(apply jq;rfl;rfl;rfl)|(apply qj1;(iterate 5 rfl))|(apply jt;(iterate 5 rfl)))|(apply q1d;first|(apply qoe;rfl)|(apply ja;rfl)|(apply qhk;rfl))|(apply qw6;first|(apply qbw;rfl;rfl;rfl;exact cAs)|(apply qgu;rfl;rfl;rfl;exact cAs)|(apply qgv;rfl;rfl;rfl;rfl;exact cAs;exact cAs)|(apply qib;rfl;rfl;rfl;rfl;(first|assumption|omega|exact Nat.succ_le_succ (Nat.zero_le _)|(simp;omega));rfl))|(apply q1b;first|(apply zr;rfl;rfl;rfl)|(apply jk;rfl;rfl;rfl;rfl))|(apply qnr;first|(apply zk;rfl;rfl;rfl)|(apply yl;rfl;rfl;rfl;rfl))|(apply qw7;first|(apply qe8;(iterate 11 rfl))|(apply jc;(iterate 11 rfl)))|(apply q48;first|apply qh|apply qj|apply qg|(apply zf;rfl;rfl)|(apply qi;rfl;apply w6;exact cAo)|(apply qi;rfl;apply wu;exact cAo)|(apply qi;rfl;apply qjb;exact cRa)|(apply qi;rfl;apply qfm;exact cRa)|(apply qi;rfl;apply pk_t;exact cRa)|(apply qi;rfl;apply pk_f;exact cRa)|(apply vr;rfl;rfl)|apply qf5|(apply j7;rfl;rfl)|(apply qb4;rfl;rfl;rfl;rfl)|(apply qke;rfl;rfl;rfl)|(apply wp;rfl;rfl;rfl;exact cAs)|(apply yf;rfl;rfl;rfl)|(apply wi;(iterate 9 rfl))|(apply ww;rfl;rfl)|(apply qiw;rfl;rfl;rfl;rfl;(first|assumption|omega|decide);rfl)|(apply qch;rfl;rfl;rfl;rfl;first|assumption|omega|decide))|(apply qk;exact Tryz.call59;exact q7p _ _ Om)|(apply qk;exact Tryz.call58;exact q2g _ _)|(apply qk;exact Tryz.call57;exact qnf l.length (x4 (addP 0 l) 8) _ Om Om))
 exact qn rfl (q5 rfl) ⟨rfl,_,rfl⟩
theorem qt5(n:Int)(st:List AObj):qp E 55 [Iv n] st λr st'=>r=Iv (qeh n)∧st'=st:=by
 refine qz (qr _) (qq Tryz.func55 rfl (Qa rfl) ?_);by_cases hr:n<2∨50000<n
 .skip
  repeat' (first|apply qo|apply qf|apply qh|apply qj|apply qg|(apply qt;rfl;rfl;rfl)|(apply qw;rfl;rfl;rfl;rfl)|(apply wg;exact cAo)|(apply wj;exact cAo)|(apply jo<;>intro h)|(apply qi;rfl;apply w6;exact cAo)|(apply qi;rfl;apply wu;exact cAo)|(apply qc;rfl;apply va;exact cAo)|(apply qc;rfl;apply cd_t;exact cRa)|apply qu)
  all_goals refine qn rfl (q5 rfl) ⟨congrArg Iv (?_:_=_),_,rfl⟩
  all_goals first|exact(if_pos hr).symm|omega
 .obtain⟨k,rfl⟩:=Zo (by omega:0<=n)
  have h1:=qd0 k Om;have h2:=qdi k [48,48,48,48,48,48,48,48];have h3:=qbe k;have h4:([48,48,48,48,48,48,48,48]:List UInt8).length=8:=rfl;repeat' (first|apply qo|apply qf|apply qh|apply qj|apply qg|(apply zf;rfl;rfl)|(apply qt;rfl;rfl;rfl)|(apply qw;rfl;rfl;rfl;rfl)|(apply wg;exact cAo)|(apply qi;rfl;apply wu;exact cAo)|(apply qc;rfl;apply vq;exact cAo)|(apply zr;rfl;rfl;rfl)|(apply zn;rfl;rfl;exact q6 Om Om)|apply qv|apply qu|(apply qk;exact Tryz.call57;exact qnf k [48,48,48,48,48,48,48,48] _ Om (by decide)))
  refine qn rfl (q5 rfl) ⟨congrArg Iv (?_:_=_),_,rfl⟩;unfold qeh;rw[if_neg hr];rfl
theorem zar{l:qa}(h:0<l.length):l.head?=some 37↔((l.getD 0 0).toNat:Int)=37:=by
 cases l with
 |nil=>simp at h
 |cons c l=>
  simp only[List.head?_cons,Zk,List.getD_cons_zero];exact(zpz _).symm
theorem q7f(l:List UInt8)(st:List AObj)(hl:l.length<4294967281):qp E 91 [Sv l] st λr st'=>r=Bv (decide (l.head?=some 37∧qx l=5))∧st'=st:=by
 refine qz (qr _) (qq Tryz.func91 rfl (Qa rfl) ?_);repeat' (first|apply qo|apply qf|apply qh|apply qj|apply qg|(apply qt;rfl;rfl;rfl)|(apply qw;rfl;rfl;rfl;rfl)|(apply xd;exact cAo)|(apply xv;exact cAo)|(apply xu;exact cRa)|(apply jo<;>intro h)|(apply qi;rfl;apply w6;exact cAo)|(apply qi;rfl;apply wu;exact cAo)|(apply qi;rfl;apply pk_f;exact cRa)|(apply zr;rfl;rfl;rfl)|(apply wp;rfl;rfl;rfl;exact cAs)|apply qu|(apply qk;exact Tryz.call134;exact qjx _ _ hl))
 all_goals refine qn rfl (q5 rfl) ⟨congrArg Bv (?_:_=decide (l.head?=some 37∧qx l=5)),_,rfl⟩
 .have e:l.head?=some 37:=(zar Om).2 (by assumption)
  simp[e]
 .exact(decide_eq_false λh=>absurd ((zar Om).1 h.1) (by assumption)).symm
 .have e:l=[]:=Qj.1 Om
  subst e;rfl
end Go.Proofs.YtlekheifonaipaaGreatDoor
namespace Go.Proofs.YtlekheifonaipaaGreatDoor
open Go Go.Pl
theorem qi1:(10:UInt8)∉zb:=by decide
theorem qx0{l:qa}(h1:10∈l->(jj (upto 10 l)).2.2=false)(h2:10∉l->yn l=false):zi l=(3,[],0):=by
 unfold zi;by_cases h:10∈l
 .rw[if_pos h,if_neg (by rw[h1 h];simp)]
 .rw[if_neg h,if_neg (by rw[h2 h];simp)]
theorem zlj(c:UInt8)(l:qa):upto c l<+:l:=by
 rw[<-qhf c l];exact Xd _ _
theorem R1{l:qa}(hl:l.length<=7)(h:l<+:zb):zi l=(2,[],0):=by
 have i3:10∉l:=qk3 h qi1;unfold zi;rw[if_neg i3,if_pos ?_];unfold yn;by_cases hb:zb<+:l
 .rw[if_pos hb,h.eq_of_length_le hb.length_le];decide
 .rw[if_neg hb];exact decide_eq_true h
theorem R2{l:qa}(hl:l.length<=7)(h:¬l<+:zb):zi l=(3,[],0):=by
 refine qx0 (λi3=>decide_eq_false λh'=>?_) (λi3=>?_)
 .have:=h'.1.length_le
  have:=qft i3;have e:zb.length=7:=rfl;omega
 .unfold yn
  by_cases hb:zb<+:l
  .have:=hb.eq_of_length_le hl
   exact absurd (this▸Zn _) h
  .rw[if_neg hb];exact decide_eq_false h
theorem R3{l:qa}(hl:7<l.length)(h:¬zb<+:l):zi l=(3,[],0):=by
 refine qx0 (λi3=>decide_eq_false λh'=>h (h'.1.trans (zlj 10 l))) (λi3=>?_);unfold yn;rw[if_neg h];refine decide_eq_false λh'=>?_;have:=h'.length_le;have e:zb.length=7:=rfl;omega
theorem ql9{n:Nat}{s r:qa}{c:UInt8}(hc:y9 c=false)(h:s=Lib.itoa (n:Int)++c::r):s.takeWhile y9=Lib.itoa (n:Int):=by
 subst h;have hd:=qu7 n;rw[Zh (λx hx=>by simp only[y9,decide_eq_true_eq];exact hd x hx),Qv (by simp[hc]),Qx]
theorem q0g{p:UInt8->Bool}{l:qa}:l.takeWhile p=l↔∀c∈l,p c=true:=by
 induction l with
 |nil=>simp
 |cons b l ih=>
  by_cases h:p b=true
  .rw[Qu h];simp[ih,h]
  .rw[Qv h];simp[h]
theorem zi3{n:Nat}:(Lib.itoa (n:Int)).takeWhile y9=Lib.itoa (n:Int):=by
 rw[q0g];intro x hx;simp only[y9,decide_eq_true_eq];exact qu7 n x hx
theorem q0a{p:UInt8->Bool}(s:qa):s.take (s.takeWhile p).length=s.takeWhile p:=by
 induction s with
 |nil=>rfl
 |cons b s ih=>
  by_cases h:p b=true
  .rw[Qu h];simp[ih]
  .rw[Qv h];rfl
theorem qq8{s:qa}(hs:s≠[])(h:zi (zb++s)≠(3,[],0)):∃n:Nat,1<=n∧n<=50000∧s.takeWhile y9=Lib.itoa (n:Int)∧(s=Lib.itoa (n:Int)∨2<=n∧∃r,s=Lib.itoa (n:Int)++32::r∧(10∉r->r.length<=8∧xj r)∧(10∈r->(upto 10 r).length=8∧xj (upto 10 r))):=by
 have e10:10∈zb++s↔10∈s:=by simp[qi1]
 have ed:(zb++s).drop 7=s:=by rw[show(7:Nat)=zb.length by rfl,Qg]
 by_cases i3:10∈s
 .have ho:(jj (upto 10 (zb++s))).2.2=true:=by
   cases hq:(jj (upto 10 (zb++s))).2.2 with
   |true=>rfl
   |false=>exact absurd (qx0 (λ_=>hq) (λh'=>absurd (e10.2 i3) h')) h
  have eu:upto 10 (zb++s)=zb++upto 10 s:=by
   conv=>lhs;rw[wo i3,<-Qb]
   exact v8 _ (by simp[qi1,yy])
  rw[eu]at ho;simp only[jj,decide_eq_true_eq,qky]at ho;obtain⟨_,o2,o3,o4,o5⟩:=ho;have hn:=qc9 (l:=upto 32 (upto 10 s)) rfl Om;have d7:=qa7 (upto 32 (upto 10 s));generalize kz (upto 32 (upto 10 s))=n at *;have e1:=wo o2;rw[hn]at e1;have e2:=wo i3;generalize hf:past 32 (upto 10 s)=f at *
  have hf10:10∉f:=by
   have:=yy 10 s;rw[e1]at this;simp only[Qm,Zi,not_or]at this;exact this.2.2
  rw[e1,Qb,Qk]at e2;refine⟨n,Om,d7,ql9 (by decide) e2,.inr ⟨o3,_,e2,λh'=>absurd (by simp:(10:UInt8)∈f++10::past 10 s) h',λ_=>?_⟩⟩;rw[v8 _ hf10];exact⟨o4,o5⟩
 .have ho:yn (zb++s)=true:=by
   cases hq:yn (zb++s)with
   |true=>rfl
   |false=>exact absurd (qx0 (λh'=>absurd (e10.1 h') i3) (λ_=>hq)) h
  unfold yn at ho;rw[if_pos (Qd _ _),ed]at ho;obtain⟨o1,o2,o3,o4⟩:=of_decide_eq_true ho;by_cases mj:32∈s
  .have nz:2<=kz (upto 32 s):=by
    rcases Qp (kz (upto 32 s)) 2 with h|h
    .exact absurd ⟨mj,h⟩ o1
    .exact h
   have hn:=qc9 (l:=upto 32 s) rfl Om;have d7:=qa7 (upto 32 s);generalize kz (upto 32 s)=n at *;have e1:=wo mj;rw[hn]at e1;refine⟨n,Om,d7,ql9 (by decide) e1,.inr ⟨nz,_,e1,λ_=>⟨o3,o4⟩,λh'=>absurd (e1▸by simp[h']:(10:UInt8)∈s) i3⟩⟩
  .rw[xy mj]at o2
   have cx:1<=kz s:=by
    rcases Zz (kz s)with h|h
    .exact absurd ⟨hs,h⟩ o2
    .exact h
   have hn:=qc9 (l:=s) rfl cx;have d7:=qa7 s;generalize kz s=n at *;subst hn;exact⟨n,cx,d7,zi3,.inl rfl⟩
theorem q55{m n:Nat}(hm:m<=50000)(hn:n<=50000)(h:Lib.itoa (m:Int)=Lib.itoa (n:Int)):m=n:=by
 have:=congrArg numZ h;rw[qg5 Om Om,qg5 Om Om]at this;simp at this;omega
theorem zc7{n:Nat}(h:n<=50000):(Lib.itoa (n:Int)).length<=5:=by
 rw[qgk,Lib.decDigits_length];exact qfh 4 n Om
theorem R5{s:qa}(hs:s≠[])(h:∀n:Nat,1<=n->n<=50000->s.takeWhile y9≠Lib.itoa (n:Int)):zi (zb++s)=(3,[],0):=by
 refine Classical.byContradiction λhc=>?_;obtain⟨n,h1,h2,h3,_⟩:=qq8 hs hc;exact h n h1 h2 h3
theorem R6{n:Nat}(h1:1<=n)(h2:n<=50000):zi (zb++Lib.itoa (n:Int))=(2,[],0):=by
 have mj:32∉Lib.itoa (n:Int):=qfi n (by decide)
 have i3:10∉zb++Lib.itoa (n:Int):=by
  simp only[Qm,not_or];exact⟨qi1,qfi n (by decide)⟩
 have ed:(zb++Lib.itoa (n:Int)).drop 7=Lib.itoa (n:Int):=by rw[show(7:Nat)=zb.length by rfl,Qg]
 unfold zi;rw[if_neg i3,if_pos ?_];unfold yn;rw[if_pos (Qd _ _),ed,xy mj,qdk h1 h2];have hp:past 32 (Lib.itoa (n:Int))=[]:=by unfold past;rw[xy mj];simp
 rw[hp];exact decide_eq_true ⟨λh'=>mj h'.1,λh'=>by omega,Sx,by intro c hc;simp at hc⟩
theorem R7{n:Nat}{c:UInt8}{r:qa}(h2:n<=50000)(hd:y9 c=false)(h:c≠32∨n<2):zi (zb++(Lib.itoa (n:Int)++c::r))=(3,[],0):=by
 refine Classical.byContradiction λhc=>?_;obtain⟨m,m1,m2,m3,m4⟩:=qq8 Sx hc;rw[ql9 hd rfl]at m3;have e:=q55 h2 m2 m3;subst e;rcases m4 with m4|⟨m4,r2,m5,_⟩
 .have:=congrArg Zq m4
  simp at this
 .rw[Zj,Xg]at m5
  rcases h with h|h
  .exact h m5.1
  .omega
theorem zbd{n:Nat}{r:qa}(h1:2<=n)(h2:n<=50000)(h:¬((10∉r->r.length<=8∧xj r)∧(10∈r->(upto 10 r).length=8∧xj (upto 10 r)))):zi (zb++(Lib.itoa (n:Int)++32::r))=(3,[],0):=by
 refine Classical.byContradiction λhc=>?_;obtain⟨m,m1,m2,m3,m4⟩:=qq8 Sx hc;rw[ql9 (by decide) rfl]at m3;have e:=q55 h2 m2 m3;subst e;rcases m4 with m4|⟨m4,r2,m5,m6,m7⟩
 .have:=congrArg Zq m4
  simp at this
 .rw[Zj,Xg]at m5
  obtain⟨_,rfl⟩:=m5;exact h ⟨m6,m7⟩
theorem qso(c:UInt8):qbt c=true↔c∈hexL:=by
 have key:∀i:Fin 256,qbt (UInt8.ofNat i.val)=true↔UInt8.ofNat i.val∈hexL:=by decide +kernel
 have:=key ⟨c.toNat,UInt8.toNat_lt c⟩
 simpa using this
theorem zh3{p:UInt8->Bool}{l:qa}(h:(l.takeWhile p).length=l.length):∀c∈l,p c=true:=by
 have e:l.takeWhile p=l:=(Qi p).eq_of_length h
 rwa [q0g]at e
theorem R8{n:Nat}{r:qa}(h1:2<=n)(h2:n<=50000)(h:((r.take 8).takeWhile qbt).length=r.length):zi (zb++(Lib.itoa (n:Int)++32::r))=(2,[],0):=by
 have d7:((r.take 8).takeWhile qbt).length<=(r.take 8).length:=(Qi qbt).length_le;have hl:r.length<=8:=by simp at d7;omega
 rw[Zc hl]at h;have hx:xj r:=λc hc=>(qso c).1 (zh3 h c hc);obtain⟨fig,f1,f2,f3⟩:=qx6 r hl hx;obtain⟨body,b1,b2⟩:=qhc h1 h2;have R:qsh n fig body:=⟨h1,h2,b1,b2,f1,f2⟩
 have hp:=qg3 (n:=n) (fig:=fig) (body:=body) (l:=zb++(Lib.itoa (n:Int)++32::r)) (by
  unfold wt;rw[Qc,Qc,Qh]
  exact⟨rfl,f3⟩)
 exact zng R hp.1 hp.2
theorem zh4{p:UInt8->Bool}{l m:qa}(hm:m<+:l)(h:∀c∈m,p c=true):m.length<=(l.takeWhile p).length:=by
 obtain⟨r,rfl⟩:=hm;rw[Zh h];simp
theorem R9{n:Nat}{r:qa}(h1:2<=n)(h2:n<=50000)(b9:((r.take 8).takeWhile qbt).length≠r.length)(h:((r.take 8).takeWhile qbt).length<8):zi (zb++(Lib.itoa (n:Int)++32::r))=(3,[],0):=by
 refine zbd h1 h2 λ⟨g1,g2⟩=>?_;by_cases i3:10∈r
 .obtain⟨a,b⟩:=g2 i3
  have hp:upto 10 r<+:r.take 8:=by
   have e:r.take 8=upto 10 r:=by rw[<-a,qhf]
   rw[e];exact Zn _
  have:=zh4 (p:=qbt) hp (λc hc=>(qso c).2 (b c hc));omega
 .obtain⟨a,b⟩:=g1 i3
  rw[Zc a]at b9;have e:r.takeWhile qbt=r:=by rw[q0g];exactλc hc=>(qso c).2 (b c hc)
  exact b9 (by rw[e])
theorem R10{n:Nat}{r:qa}(h1:2<=n)(h2:n<=50000)(hl:8<r.length)(h:r.getD 8 0≠10):zi (zb++(Lib.itoa (n:Int)++32::r))=(3,[],0):=by
 refine zbd h1 h2 λ⟨g1,g2⟩=>?_;by_cases i3:10∈r
 .obtain⟨a,b⟩:=g2 i3
  have e:=wo i3;apply h;rw[e,Qr,Qn Om,a];rfl
 .have:=(g1 i3).1
  omega
theorem R11{n:Nat}{r:qa}(hl:8<r.length)(h:r.getD 8 0=10)(hx:((r.take 8).takeWhile qbt).length=8):
  zb++(Lib.itoa (n:Int)++32::r)=wt n (r.take 8)++10::r.drop 9∧(r.take 8).length=8∧xj (r.take 8):=by
 have h8:(r.take 8).length=8:=So
 refine⟨?_,h8,λc hc=>(qso c).1 (zh3 (by rw[hx,h8]) c hc)⟩
 have e:r=r.take 8++10::r.drop 9:=by
  conv=>lhs;rw[<-Qq 8 r]
  rw[Qw hl];congr 2
  simpa[Qr,hl]using h
 unfold wt
 conv=>lhs;rw[e]
 simp
end Go.Proofs.YtlekheifonaipaaGreatDoor
namespace Go.Proofs.YtlekheifonaipaaGreatDoor
open Go Go.Av Go.RowKit Go.Proofs Go.Pl
structure qhg (l S:qa) (K n:Nat):Prop where
 hl:l=zb++S
 hK:(S.takeWhile y9).length=K
 hD:S.take K=Lib.itoa (n:Int)
 h1:1<=n
 h2:n<=50000
theorem qhg.split{l S:qa}{K n:Nat}(A:qhg l S K n)(h:K<S.length):S=Lib.itoa (n:Int)++S.getD K 0::S.drop (K+1)∧y9 (S.getD K 0)=false:=by
 have e:S=S.take K++S.getD K 0::S.drop (K+1):=by
  conv=>lhs;rw[<-Qq K S]
  rw[Qw h];congr 2;simp[Qr,h]
 refine⟨by rw[<-A.hD];exact e,?_⟩
 cases hc:y9 (S.getD K 0)with
 |false=>rfl
 |true=>
  have hp:S.take (K+1)<+:S:=Xd _ _
  have:=zh4 (p:=y9) hp (λc sm=>by
   rw[qbz h,Qm,Qz]at sm;rcases sm with sm|rfl
   .rw[<-A.hK,q0a]at sm
    have ha:=List.all_takeWhile (p:=y9) (l:=S);rw[Ze]at ha;exact ha c sm
   .exact hc)
  rw[A.hK]at this;simp at this;omega
theorem qhg.l6{l S:qa}{K n:Nat}(A:qhg l S K n)(h:K=S.length):zi l=(2,[],0):=by
 have e:S=Lib.itoa (n:Int):=by rw[<-A.hD,h,Qf]
 rw[A.hl,e];exact R6 A.h1 A.h2
theorem qhg.l7{l S:qa}{K n:Nat}(A:qhg l S K n)(h:K<S.length)(hc:S.getD K 0≠32∨n<2):zi l=(3,[],0):=by
 obtain⟨e,hd⟩:=A.split h;rw[A.hl,e];exact R7 A.h2 hd hc
theorem qhg.at32{l S R:qa}{K n:Nat}(A:qhg l S K n)(h:K<S.length)(hc:S.getD K 0=32)(hR:S.drop (K+1)=R):l=zb++(Lib.itoa (n:Int)++32::R):=by
 obtain⟨e,hd⟩:=A.split h;rw[hc,hR]at e;rw[A.hl,<-e]
theorem qhg.l11{l S R T:qa}{K n:Nat}(A:qhg l S K n)(h:K<S.length)(hc:S.getD K 0=32)(hR:S.drop (K+1)=R)(h2:2<=n)(hl:8<R.length)(h8:R.getD 8 0=10)(hx:((R.take 8).takeWhile qbt).length=8)(hT:R.drop 9=T):
  zi l=if T.length<n then(yq T ((n:Int)-T.length),[],0)else if yw (T.take n)then xo (T.drop n) (T.take n) (R.take 8) (qeh n)else(3,[],0):=by
 rw[A.at32 h hc hR];obtain⟨e,g1,g2⟩:=R11 (n:=n) hl h8 hx;rw[e,hT];exact qpo _ h2 A.h2 g1 g2
theorem qln{l m:List UInt8}(st:List AObj)(hl:l.length<4294967281)(h:m<+:l):qp E 139 [Sv l,Sv m] st λr st'=>r=Bv true∧st'=st:=by
 have:=qh2 l m st hl;rw[decide_eq_true h]at this;exact this
theorem q7e{l m:List UInt8}(st:List AObj)(hl:l.length<4294967281)(h:¬m<+:l):qp E 139 [Sv l,Sv m] st λr st'=>r=Bv false∧st'=st:=by
 have:=qh2 l m st hl;rw[decide_eq_false h]at this;exact this
set_option maxHeartbeats 4000000 in
theorem zdy(l:List UInt8)(st:List AObj)(hl:l.length<4294967281)(hb:l.length<=7∨¬zb<+:l):qp E 93 [Sv l] st λr st'=>r=.tu [Iv (zi l).1,Sv (zi l).2.1,Iv (zi l).2.2]∧st'=st:=by
 refine qz (qct _ _ _) (qq Tryz.func93 rfl (Qa rfl) ?_);by_cases h7:l.length<=7
 .skip
  repeat' (first|apply qo|apply qf|apply qh|apply qj|apply qg|(apply qt;rfl;rfl;rfl)|(apply qc;rfl;apply va;exact cAo)|(apply qc;rfl;apply cd_d<;>intro h)|(apply zr;rfl;rfl;rfl)|apply qv|apply qu|(apply qk;exact Tryz.call138;exact qn2 l zb _ (by decide)))
  all_goals refine qn rfl (yu rfl) ⟨qy0 (?_:_=zi l),_,rfl⟩
  .exact(R1 h7 (by assumption)).symm
  .exact(R2 h7 (by assumption)).symm
 .have t8:¬zb<+:l:=hb.resolve_left h7
  repeat' (first|apply qo|apply qf|apply qh|apply qj|apply qg|(apply qt;rfl;rfl;rfl)|(apply ja;rfl)|(apply qc;rfl;apply vq;exact cAo)|(apply qc;rfl;apply qi3;exact cRa)|(apply zr;rfl;rfl;rfl)|apply qv|apply qu|(apply qk;exact Tryz.call139;exact q7e (m:=zb) _ hl t8))
  all_goals refine qn rfl (yu rfl) ⟨qy0 (?_:_=zi l),_,rfl⟩
  all_goals exact(R3 Om t8).symm
theorem qj7{l:List UInt8}{k:Nat}(st:List AObj)(hl:l.length<4294967281)(h:(l.takeWhile y9).length=k):qp E 140 [Sv l] st λr st'=>r=Iv k∧st'=st:=by
 subst h;exact q7k l st hl
theorem zg6{l:List UInt8}{k:Nat}(st:List AObj)(hl:l.length<4294967281)(h:((l.take 8).takeWhile qbt).length=k):qp E 141 [Sv l] st λr st'=>r=Iv k∧st'=st:=by
 subst h;exact zks l st hl
theorem q0f{l b:List UInt8}{k n:Int}(h:zi l=(k,b,n)):AV.tu [Iv k,Sv b,Iv n]=.tu [Iv (zi l).1,Sv (zi l).2.1,Iv (zi l).2.2]:=by rw[h]
set_option maxHeartbeats 8000000 in
theorem zdz(l S:List UInt8)(K:Nat)(st:List AObj)(hl:l.length<4294967281)(h7:7<l.length)(hb:l=zb++S)(hK:(S.takeWhile y9).length=K)(hn:∀n:Nat,1<=n->n<=50000->S.takeWhile y9≠Lib.itoa (n:Int)):qp E 93 [Sv l] st λr st'=>r=.tu [Iv (zi l).1,Sv (zi l).2.1,Iv (zi l).2.2]∧st'=st:=by
 have hS:l.drop 7=S:=by rw[hb,show(7:Nat)=zb.length by rfl,Qg]
 have hSl:S.length=l.length-7:=by rw[<-hS];simp
 have hbp:zb<+:l:=⟨S,hb.symm⟩;have b9:S≠[]:=λe=>by rw[e]at hSl;simp at hSl;omega
 have hKle:K<=S.length:=hK▸(Qi y9).length_le;have hD:S.take K=S.takeWhile y9:=by rw[<-hK,q0a]
 have hr:zi l=(3,[],0):=hb▸R5 b9 hn;refine qz (qct _ _ _) (qq Tryz.func93 rfl (Qa rfl) ?_)
 cases hz:numZ (S.take K)with
 |none=>
  repeat' (first|(apply qhl (n:=7) hS;rfl;rfl;rfl;omega)|apply qo|apply qf|apply qh|apply qj|apply qg|(apply zf;rfl;rfl)|(apply qt;rfl;rfl;rfl)|(apply ja;rfl)|(apply qw;rfl;rfl;rfl;rfl)|(apply qbs;exact cRa)|(apply qbb;exact cRa)|(apply qi;rfl;apply qjb;exact cRa)|(apply qi;rfl;apply pk_t;exact cRa)|(apply qc;rfl;apply vq;exact cAo)|(apply qc;rfl;apply qi2;exact cRa)|(apply qc;rfl;apply cd_t;exact cRa)|(apply qc;rfl;apply cd_d<;>intro h)|(apply zr;rfl;rfl;rfl)|(apply qbw;rfl;rfl;rfl;exact cAs)|apply qv|apply qu|(apply qk;exact Tryz.call139;exact qln (m:=zb) _ hl hbp)|(apply qk;exact Tryz.call140;exact qj7 _ Om hK)|(apply qk;exact Tryz.call132;exact qh3 _ _ So hz))
  all_goals first
   |(exfalso;omega)
   |contradiction
   |exact qn rfl (yu rfl) ⟨q0f hr,_,rfl⟩
 |some v=>
  have hv:=qmn hz;have rp:¬(1<=v∧v<=50000):=λh=>hn v.toNat Om Om (by rw[<-hD,hv.1,Int.toNat_of_nonneg Om]);repeat' (first|(apply qhl (n:=7) hS;rfl;rfl;rfl;omega)|apply qo|apply qf|apply qh|apply qj|apply qg|(apply zf;rfl;rfl)|(apply qt;rfl;rfl;rfl)|(apply ja;rfl)|(apply qw;rfl;rfl;rfl;rfl)|(apply wg;exact cAo)|(apply wj;exact cAo)|(apply qao;exact cRa)|(apply jo<;>intro h)|(apply qi;rfl;apply w6;exact cAo)|(apply qi;rfl;apply wu;exact cAo)|(apply qi;rfl;apply qfm;exact cRa)|(apply qc;rfl;apply va;exact cAo)|(apply qc;rfl;apply vq;exact cAo)|(apply qc;rfl;apply qi2;exact cRa)|(apply qc;rfl;apply cd_t;exact cRa)|(apply qc;rfl;apply cd_d<;>intro h)|(apply zr;rfl;rfl;rfl)|(apply qbw;rfl;rfl;rfl;exact cAs)|apply qv|apply qu|(apply qk;exact Tryz.call139;exact qln (m:=zb) _ hl hbp)|(apply qk;exact Tryz.call140;exact qj7 _ Om hK)|(apply qk;exact Tryz.call132;exact qe2 _ v _ So hz))
  all_goals first
   |(exfalso;omega)
   |contradiction
   |exact qn rfl (yu rfl) ⟨q0f hr,_,rfl⟩
theorem qzv{T:qa}{lack:Int}(h1:sp true T=true)(h2:T.length=0->2<=lack)(h3:T.getLast?=some 10->2<=lack):yq T lack=2:=by
 unfold yq;rw[qes];refine if_pos ⟨h1,?_⟩;rintro⟨h|h,h'⟩
 .have:=h2 (by rw[h];rfl)
  omega
 .have:=h3 h
  omega
theorem q63{T:qa}{lack:Int}(h:sp true T=false):yq T lack=3:=by
 unfold yq;rw[qes];exact if_neg λh'=>by rw[h]at h';simp at h'
theorem zkc{T:qa}{lack:Int}(h1:T.getLast?=some 10)(h2:lack<2):yq T lack=3:=by
 unfold yq;exact if_neg λh'=>h'.2 ⟨.inr h1,h2⟩
theorem za2{T:qa}(h:T.length≠0):T.getLast?=some 10↔T.getD ((T.length:Int)-1).toNat 0=10:=by
 have e:((T.length:Int)-1).toNat=T.length-1:=Om
 rw[e,Zl];simp[Qr,show T.length-1<T.length by omega]
theorem zmb{U B f:qa}{z:Int}(h1:¬U.length<(qai B.length).length)(h2:qai B.length<+:U)(h3:f=sumF B):xo U B f z=(1,B,z):=by
 unfold xo;rw[if_neg (λh=>h1 h.1),if_pos ⟨h2,h3⟩]
theorem zmc{U B f:qa}{z:Int}(h1:U.length<(qai B.length).length)(h2:U<+:qai B.length):xo U B f z=(2,[],0):=by
 unfold xo;rw[if_pos ⟨h1,h2⟩]
theorem qzi{U B f:qa}{z:Int}(h1:¬(U.length<(qai B.length).length∧U<+:qai B.length))(h2:¬(qai B.length<+:U∧f=sumF B)):xo U B f z=(3,[],0):=by
 unfold xo;rw[if_neg h1,if_neg h2]
set_option maxHeartbeats 16000000 in
theorem zd0(l S R T:List UInt8)(K H n:Nat)(st:List AObj)(hl:l.length<4294967281)(h7:7<l.length)(A:qhg l S K n)(hR:S.drop (K+1)=R)(hH:((R.take 8).takeWhile qbt).length=H)(hT:R.drop 9=T):qp E 93 [Sv l] st λr st'=>r=.tu [Iv (zi l).1,Sv (zi l).2.1,Iv (zi l).2.2]∧st'=st:=by
 have hb:=A.hl;have hK:=A.hK;have hn1:=A.h1;have nz:=A.h2;have hS:l.drop 7=S:=by rw[hb,show(7:Nat)=zb.length by rfl,Qg]
 have hSl:S.length=l.length-7:=by rw[<-hS];simp
 have hbp:zb<+:l:=⟨S,hb.symm⟩;have hKle:K<=S.length:=hK▸(Qi y9).length_le;have hz:numZ (S.take K)=some (n:Int):=by rw[A.hD];exact qg5 Om Om
 have hK5:K<=5:=by
  have h1:=zc7 nz;have h2:=congrArg Zq A.hD;simp at h2;omega
 have hRl:R.length=S.length-(K+1):=by rw[<-hR];simp
 have hH8:H<=8:=by
  have:=(Qi qbt (l:=R.take 8)).length_le;rw[hH]at this;simp at this;omega
 have hHR:H<=R.length:=by
  have:=(Qi qbt (l:=R.take 8)).length_le;rw[hH]at this;simp at this;omega
 have hTl:T.length=R.length-9:=by rw[<-hT];simp
 have o8:(R.take 8).length<=8:=So
 have hBl:(T.take n).length<=T.length:=So
 have ht:=qbe n;have hi:=qd0 n Om;refine qz (qct _ _ _) (qq Tryz.func93 rfl (Qa rfl) ?_);repeat' (first|(apply qhl (n:=7) hS;rfl;rfl;rfl;omega)|(apply qhl (n:=K+1) hR;rfl;rfl;rfl;omega)|(apply qhl (n:=9) hT;rfl;rfl;rfl;omega)|apply qo|apply qf|apply qh|apply qj|apply qg|(apply zf;rfl;rfl)|(apply qt;rfl;rfl;rfl)|(apply jp;rfl;rfl;rfl)|(apply ja;rfl)|(apply qw;rfl;rfl;rfl;rfl)|(apply xd;exact cAo)|(apply wg;exact cAo)|(apply wj;exact cAo)|(apply xv;exact cAo)|(apply qaz;rfl;rfl;rfl;rfl)|(apply qao;exact cRa)|(apply qbs;exact cRa)|(apply qhu<;>intro h)|(apply qaf;exact cRa)|(apply jo<;>intro h)|(apply qi;rfl;apply w6;exact cAo)|(apply qi;rfl;apply wu;exact cAo)|(apply qi;rfl;apply qjb;exact cRa)|(apply qi;rfl;apply qfm;exact cRa)|(apply qi;rfl;apply pk_t;exact cRa)|(apply qc;rfl;apply vq;exact cAo)|(apply qc;rfl;apply qi2;exact cRa)|(apply qc;rfl;apply cd_n<;>intro h)|(apply qc;rfl;apply cd_t;exact cRa)|(apply qc;rfl;apply cd_f;exact cRa)|(apply qc;rfl;apply cd_d<;>intro h)|(apply zr;rfl;rfl;rfl)|(apply zn;rfl;rfl;exact q6 Om Om)|(apply wx;rfl;rfl;exact q6 Om Om)|(apply wp;rfl;rfl;rfl;exact cAs)|(apply qbw;rfl;rfl;rfl;exact cAs)|(apply qgu;rfl;rfl;rfl;exact cAs)|apply qv|apply qu|(apply qix;rfl;rfl;rfl;omega;omega)|(apply qk;exact Tryz.call139;exact qln (l:=l) (m:=zb) _ hl hbp)|(apply qk;exact Tryz.call139;exact qh2 _ (qai n) _ So)|(apply qk;exact Tryz.call138;exact qn2 _ (qai n) _ Om)|(apply qk;exact Tryz.call140;exact qj7 _ Om hK)|(apply qk;exact Tryz.call141;exact zg6 _ Om hH)|(apply qk;exact Tryz.call132;exact qe2 _ n _ So hz)|(apply qk;exact Tryz.call142;exact qyg _ _ Om)|(apply qk;exact Tryz.call143;exact zg5 _ _ Om)|(apply qk;exact Tryz.call57;exact qnf n (R.take 8) _ Om Om)|(apply qk;exact Tryz.call59;exact q7p _ _ Om)|(apply qk;exact Tryz.call58;exact q2g _ _)|(apply qk;exact Tryz.call55;exact qt5 _ _))
 all_goals
  refine qn rfl (yu rfl) ⟨q0f (?_:zi l=_),_,rfl⟩
  try simp only[Classical.not_not,qy1,qcd,decide_eq_true_eq,decide_eq_false_iff_not]at *
 .exact A.l6 Om
 .exact A.l7 Om (.inl (by assumption))
 .exact A.l7 Om (.inr Om)
 .rw[A.at32 Om (by assumption) hR]
  exact R8 Om nz Om
 .rw[A.at32 Om (by assumption) hR]
  exact R9 Om nz Om Om
 .rw[A.at32 Om (by assumption) hR]
  exact R10 Om nz Om (by assumption)
 .rw[A.l11 Om (by assumption) hR Om Om (by assumption) Om hT,if_pos Om,qzv (by assumption) Om (λ_=>by omega)]
 .rw[A.l11 Om (by assumption) hR Om Om (by assumption) Om hT,if_pos Om,q63 (by assumption)]
 .rw[A.l11 Om (by assumption) hR Om Om (by assumption) Om hT,if_pos Om,zkc ((za2 Om).2 (by assumption)) Om]
 .rw[A.l11 Om (by assumption) hR Om Om (by assumption) Om hT,if_pos Om,qzv (by assumption) Om (λ_=>by omega)]
 .rw[A.l11 Om (by assumption) hR Om Om (by assumption) Om hT,if_pos Om,qzv (by assumption) Om (λh=>absurd ((za2 Om).1 h) (by assumption))]
 .rw[A.l11 Om (by assumption) hR Om Om (by assumption) Om hT,if_pos Om,q63 (by assumption)]
 all_goals have hBn:(T.take n).length=n:=So
 .rw[A.l11 Om (by assumption) hR Om Om (by assumption) Om hT,if_neg Om,if_neg (by assumption)]
 .rw[A.l11 Om (by assumption) hR Om Om (by assumption) Om hT,if_neg Om,if_pos (by assumption)]
  exact zmc (by rw[hBn];omega) (by rw[hBn];assumption)
 .rw[A.l11 Om (by assumption) hR Om Om (by assumption) Om hT,if_neg Om,if_pos (by assumption)]
  exact qzi (by rw[hBn];exactλh=>absurd h.2 (by assumption)) (by rw[hBn];intro h;have:=h.1.length_le;omega)
 .rw[A.l11 Om (by assumption) hR Om Om (by assumption) Om hT,if_neg Om,if_pos (by assumption)]
  exact qzi (by rw[hBn];intro h;omega) (by rw[hBn];exactλh=>absurd h.2.symm (by assumption))
 .rw[A.l11 Om (by assumption) hR Om Om (by assumption) Om hT,if_neg Om,if_pos (by assumption)]
  exact zmb (by rw[hBn];omega) (by rw[hBn];assumption) (by symm;assumption)
 .rw[A.l11 Om (by assumption) hR Om Om (by assumption) Om hT,if_neg Om,if_pos (by assumption)]
  exact qzi (by rw[hBn];intro h;omega) (by rw[hBn];exactλh=>absurd h.1 (by assumption))
theorem zg9(l:List UInt8)(st:List AObj)(hl:l.length<4294967281):qp E 93 [Sv l] st λr st'=>r=.tu [Iv (zi l).1,Sv (zi l).2.1,Iv (zi l).2.2]∧st'=st:=by
 by_cases hb:l.length<=7∨¬zb<+:l
 .exact zdy l st hl hb
 have h7:7<l.length:=Om
 have hbp:zb<+:l:=Classical.not_not.1 λh=>hb (.inr h);obtain⟨S,hS⟩:=hbp;by_cases hn:∃n:Nat,1<=n∧n<=50000∧S.takeWhile y9=Lib.itoa (n:Int)
 .obtain⟨n,h1,h2,h3⟩:=hn
  exact zd0 l S _ _ _ _ n st hl h7 ⟨hS.symm,rfl,by rw[q0a];exact h3,h1,h2⟩ rfl rfl rfl
 .exact zdz l S _ st hl h7 hS.symm rfl (λn h1 h2 h3=>hn ⟨n,h1,h2,h3⟩)
theorem zgz(l:List UInt8)(st:List AObj)(hl:l.length<4294967281)(hg:yw l):qp E 31 [Sv l] st λr st'=>r=.tu [Sv (recF l),.v .nilIface]∧st'=st:=by
 have h:=zkq l st hl;unfold qg9 at h;rw[if_pos hg]at h;exact h
theorem qyb{b:List UInt8}(h:yw b):(recF b).length<=b.length+61∧1<=(recF b).length:=by
 have h1:=qd0 b.length (by have:=h.2.1;omega);unfold recF;simp only[Za,qdi,qjj,qbe];omega
end Go.Proofs.YtlekheifonaipaaGreatDoor
namespace Go.Av
open Go Go.RowKit
def StE(L:List (Nat×AV))(st loc:List AObj)(s:AS):Prop:=∃t ext,s=⟨puts t L,((st++loc)++ext)++[],[]⟩
theorem qbq{t:Nat->AV}{L:List (Nat×AV)}{st loc loc' ext new:List AObj}(h:HasL t L)(e:loc'=loc):StE L st loc ⟨t,((st++loc')++ext)++new,[]⟩:=
 ⟨t,ext++new,by rw[qk4 h,e];simp⟩
theorem qek{t:Nat->AV}{L:List (Nat×AV)}{st loc st':List AObj}(h:HasL t L)(e:st'=st++loc):StE L st loc ⟨t,st',[]⟩:=
 ⟨t,[],by rw[qk4 h,e];simp⟩
theorem qa0(st loc ext new:List AObj):∃x,((st++loc)++ext)++new=st++x:=⟨loc++ext++new,Sx⟩
theorem qb1{st loc ext new:List AObj}{k:Nat}{x:AObj}(h:loc[k]?=some x):(((st++loc)++ext)++new)[st.length+k]?=some x:=by
 have hk:=lt_of_getElem? h;rw[Qb,Qb,Qn (Xe _ _),Qo,Qy hk];exact h
theorem qfr{st loc ext new:List AObj}{k:Nat}(x:AObj)(hk:k<loc.length):(((st++loc)++ext)++new).set (st.length+k) x=((st++loc.set k x)++ext)++new:=by
 rw[Qb,Qb,Zf _ _ (Xe _ _),Qo,List.set_append_left _ _ hk];simp
theorem qmt{G:Gh}{sz:Nat}{xs:List AV}{tip:Option Nat}{v:Value}(h:Rel G (.sl sz xs tip) v):Rel G (.sl sz xs none) v:=by
 cases h with
 |sl0 _ _ base cap ht=>exact .sl0 sz none base cap Sx
 |sl _ _ _ b off cap pub hp hw d5 hr ht r6=>exact .sl sz xs none b off cap pub hp hw d5 hr (λt ht=>by simp at ht) r6
theorem qcw{G:Gh}{sz:Nat}{v:Value}(h:Rel G zm v):Rel G (.sl sz [] none) v:=by
 cases h
 exact .sl0 sz none none 0 Sx
section
variable {E : Env} {rd : Option Nat} {N : Nat} {ops : Array Oper} {K : AS → Prop} {s : AS} {rest : List Oper} {d : Option Tmp} {T : TypeId} {p : String} {af : Array Edge}
theorem ya{fn:Func}{r r':AV}(h:ARes E fn s r)(hw:∀(G:Gh)(v:Value),Rel G r v->Rel G r' v):ARes E fn s r':=
 ⟨λB0 w0 G a w hL hI=>let ⟨v,h1,h2⟩:=h.run B0 w0 G a w hL hI;⟨v,h1,hw G v h2⟩⟩
theorem qwn{fn:Func}{t:Tmp}{sz:Nat}{xs:List AV}{tip:Option Nat}(hr:fn.results= #[.tmp t])(hx:ql fn.ntmps s (.tmp t)=.sl sz xs tip):ARes E fn s (.sl sz xs none):=
 ya (q5 hr) λG v h=>by rw[hx]at h;exact qmt h
theorem qhj{x y:Operand}{t u T':TypeId}{sz bytes k n m:Nat}{xs ys zs:List AV}{tip:Option Nat}{st loc ext new:List AObj}(hs:s.st=((st++loc)++ext)++new)(hx:ql N s x=.sl sz xs (some (st.length+k)))(hy:ql N s y=.sl sz ys tip)(ho:loc[k]?=some (.tip n sz T'))(hn:xs.length=n)
  (ht:E.P.underlying t=some (.slice T')) (hu:E.P.underlying u=some (.slice T')) (hT:y0 E.P T' sz bytes) (m9:kc (flat ys)=true) (hm:ys.length=m) (u7:n+m<=maxLen) (hb:(n+m)*bytes<=140737488355328) (hz:xs++ys=zs)
  (h:AOps E rd N ops rest K (AS.put ⟨s.t,((st++loc.set k (.tip (n+m) sz T'))++ext)++new,s.df⟩ d (.sl sz zs (some (st.length+k))))):AOps E rd N ops (⟨d,.call ⟨.builtin .append,#[x,y],#[t,u]⟩,T,p,af,none⟩::rest) K s:=by
 subst hz;have hk:=lt_of_getElem? ho;exact qs9 hx hy (by rw[hs];exact qb1 ho) hn ht hu hT m9 hm u7 hb (by rw[hs,qfr _ hk];exact h)
theorem qj1{x:Operand}{t:TypeId}{sz:Nat}{agg:Bool}{st loc ext new:List AObj}{k ver off:Nat}{T':TypeId}{cs:List AV}{r:AV}(hs:s.st=((st++loc)++ext)++new)(hx:ql N s x=.bx (st.length+k) ver off)(ho:loc[k]?=some (.cells ver T' cs))(ht:tyOf E.P t=some (sz,agg))(hr:ke sz agg off cs=some r)
  (h:AOps E rd N ops rest K (s.put d r)):AOps E rd N ops (⟨d,.load t x,T,p,af,none⟩::rest) K s:=
 vc hx (by rw[hs];exact qb1 ho) ht hr h
end
end Go.Av
namespace Go.Pl
open Go
def za(l:qa):List qa:=
 if h:10∈l then upto 10 l::za (past 10 l)else [l]
 termination_by l.length
 decreasing_by exact xq (λe=>by rw[e]at h;simp at h)
theorem qab{l:qa}(h:10∈l):za l=upto 10 l::za (past 10 l):=by rw[za,dif_pos h]
theorem qac{l:qa}(h:10∉l):za l=[l]:=by rw[za,dif_neg h]
theorem zbr:∀(n:Nat)(l:qa),l.length<=n->Lib.splitK [10] 0 (Lib.count l [10]) l=za l
 |n,l,hn=>by
  by_cases h:10∈l
  .have hi:=qxo 10 l h
   have b9:l≠[]:=λe=>by rw[e]at h;simp at h
   have d9:=xq (c:=10) b9;rw[qab h,Lib.count_hit (i:=(upto 10 l).length) Sx hi,Nat.add_comm,Lib.splitK];rw[if_neg (by rw[hi];simp),hi]
   cases n with
   |zero=>exact absurd (Qj.1 Om) b9
   |succ n=>
    have:=zbr n (past 10 l) Om;simp only[Int.toNat_natCast,Xm,Zd,List.length_nil,Zw,qhf];rw[show List.drop ((upto 10 l).length+1) l=past 10 l from rfl,this]
  .have hi:Lib.index l [10]= -1:=by
    have:=Lib.index_ge l [10];have h2:¬0<=Lib.index l [10]:=λh'=>h ((qey l 10).1 h');omega
   rw[qac h,Lib.count_miss hi];rfl
theorem qdd:∀(n:Nat)(l:qa),l.length<=n->(za l).length<=l.length+1
 |n,l,hn=>by
  by_cases h:10∈l
  .have b9:l≠[]:=λe=>by rw[e]at h;simp at h
   have d9:=xq (c:=10) b9;rw[qab h]
   cases n with
   |zero=>exact absurd (Qj.1 Om) b9
   |succ n=>
    have:=qdd n (past 10 l) Om;simp only[Zd];omega
  .rw[qac h];simp
theorem qj5:∀(n:Nat)(l:qa),l.length<=n->∀x∈za l,x.length<=l.length∧10∉x
 |n,l,hn,x,hx=>by
  by_cases h:10∈l
  .have b9:l≠[]:=λe=>by rw[e]at h;simp at h
   have d9:=xq (c:=10) b9;rw[qab h,Zi]at hx;rcases hx with rfl|hx
   .exact⟨vl 10 l,yy 10 l⟩
   .cases n with
    |zero=>exact absurd (Qj.1 Om) b9
    |succ n=>
     have:=qj5 n (past 10 l) Om x hx;exact⟨Om,this.2⟩
  .rw[qac h,Qz]at hx
   subst hx;exact⟨Qe _,h⟩
end Go.Pl
namespace Go.Proofs.YtlekheifonaipaaGreatDoor
open Go Go.Av Go.RowKit Go.Proofs Go.Pl
theorem qql{f:FuncId}{st:List AObj}{args:List AV}{vals:Array Value}{xs:List qa}{T:TypeId}(ha:args=vals.toList.map .v)(b9:xs≠[])
  (h:∀B0 w0 w,E.L B0 w0->Below B0 w0 w->Calls E.P f vals w λe w'=>e=.returned (.slice (some ⟨w.heap.size,0,none⟩) xs.length xs.length)∧w'=w.alloc (.cells (xs.map λl=>Value.string ⟨l.toArray⟩).toArray T)):
  qp E f args st λr st'=>r=.sl 1 (xs.map λl=>Sv l) none∧st'=st:=by
 subst ha;refine⟨λB0 w0 G vs w hL hA hR=>?_⟩
 have hv:vs=vals:=by
  have hs:vs.size=vals.size:=by have:=hR.1;simpa using this.symm
  apply Array.ext hs;intro i h1 h2;have:=hR.2 i (.v vals[i]) vs[i] (by simp[h2]) (by simp[h1]);generalize vs[i]=y at this
  cases this
  rfl
 subst hv;refine(h B0 w0 w hL hA.below).mono ?_;rintro e w' ⟨rfl,rfl⟩;obtain⟨d7,hA'⟩:=hA.newPub T (xs.map λl=>Value.string ⟨l.toArray⟩).toArray (0,0) (xs.map λl=>Value.string ⟨l.toArray⟩) (λi y hy=>by simpa using hy);refine⟨_,_,_,st,rfl,d7,hA',?_,rfl,rfl⟩
 have o8:flat (xs.map λl=>Sv l)=xs.map λl=>Sv l:=by
  clear b9 h d7 hA'
  induction xs with
  |nil=>rfl
  |cons a xs ih=>rw[List.map_cons,qcp,ih];rfl
 have:=Rel.sl (G:=G.publish w.heap.size (xs.map λl=>Value.string ⟨l.toArray⟩)) 1 (xs.map λl=>Sv l) none w.heap.size 0 xs.length (xs.map λl=>Value.string ⟨l.toArray⟩) (by simp[Gh.publish]) (λx hx=>by
  simp only[Xa]at hx;obtain⟨l,_,rfl⟩:=hx
  rfl) (by rw[o8];simp) (λi x y h1 h2=>by
  rw[o8,Xb]at h1;rw[Zw,Xb]at h2
  cases hx:xs[i]?with
  |none=>rw[hx]at h1;simp at h1
  |some l=>
   rw[hx]at h1 h2;simp at h1 h2;subst h1;subst h2
   exact .v _) (λt ht=>by simp at ht) Sx
 simpa using this
theorem zhl(l:List UInt8)(st:List AObj)(hl:l.length<4294967281):qp E 171 [Sv l,Sv [10]] st λr st'=>r=.sl 1 ((za l).map λx=>Sv x) none∧st'=st:=by
 have hd:=Lib.splitB_data ⟨#[10]⟩ 0 (Lib.countB ⟨l.toArray⟩ ⟨#[10]⟩) ⟨l.toArray⟩;have hs:Lib.splitK [10] 0 (Lib.count l [10]) l=za l:=zbr _ l (Qe _);have hn:=Lib.splitB_all ⟨#[10]⟩ (by simp[ByteArray.size]) 0 _ ⟨l.toArray⟩ rfl;have hd2:(Lib.splitB ⟨#[10]⟩ 0 (Lib.countB ⟨l.toArray⟩ ⟨#[10]⟩) ⟨l.toArray⟩).map (·.data.toList)=za l:=hd.trans hs;have d5:(za l).length=Lib.countB ⟨l.toArray⟩ ⟨#[10]⟩+1:=by rw[<-hd2,List.length_map,hn]
 refine qql (T:=9) (vals:= #[.string ⟨l.toArray⟩,.string ⟨#[10]⟩]) rfl (λe=>by rw[e]at d5;simp at d5) λ_ _ w hL hb=>(Tryz.strings_Split_shaped ⟨l.toArray⟩ ⟨#[10]⟩ w (hL w hb).shaped (by simpa[ByteArray.size]using hl) (by simp[ByteArray.size])).mono λe w' ⟨h1,h2⟩=>?_;refine⟨by rw[h1,d5],?_⟩;rw[h2,<-hd2,List.map_map];rfl
end Go.Proofs.YtlekheifonaipaaGreatDoor
namespace Go.Av
open Go Go.RowKit
section
variable {E : Env} {N : Nat} {ops : Array Oper} {K : AS → Prop} {s : AS} {rest : List Oper} {d : Option Tmp} {T : TypeId} {p : String} {af : Array Edge}
theorem qwl{x:Operand}{t:TypeId}{sz:Nat}{agg:Bool}{o ver off:Nat}{T':TypeId}{cs:List AV}{r:AV}(hx:ql N s x=.bx o ver off)(ho:s.st[o]?=some (.cells ver T' cs))(ht:tyOf E.P t=some (sz,agg))(hr:ke sz agg off cs=some r)
  (h:AQ E N ops rest K (s.put d r)):AQ E N ops (⟨d,.load t x,T,p,af,none⟩::rest) K s:=by
 refine qfa rfl nofun λB0 w0 G a w _ hI=>?_;have he:=hI.eval_of hx;generalize hv:a.eval x=v at he
 cases he with
 |bx _ _ _ b hn dk hb=>
  obtain⟨_,h1,h2,h3,c,h4,h5,h6⟩:=hI.agree.ob o _ ho;have hb:=hb h1;subst hb
  have d9:(G.ob o).blk<w.heap.size:=by
   rcases Qp (G.ob o).blk w.heap.size with h'|h'
   .exact h'
   .rw[Zr h']at h4;simp at h4
  -- the value is read out of the cells, whatever is drawn behind them
  have key:∀w',Below w.heap.size w w'->∃v,(loadVar t ⟨(G.ob o).blk,off,none⟩).run E.P w'=.ok v w'∧Rel G r v:=λw' p8=>by
   have h4':w'.heap[(G.ob o).blk]?=some (.cells c T' (0,0)):=by rw[p8.block _ d9];exact h4
   exact qb2 (w:=w') (G:=G) (b:=(G.ob o).blk) (off:=off) (off':=off) ht (λi x hx hi=>by
    obtain⟨y,hy⟩:=wz hx (Xo h5);refine⟨y,?_,h6 i x y hx hy⟩
    simp[World.cell?,h4',show off+(i-off)=i by omega,hy]) hr
  have pf:∀w',Below w.heap.size w w'->∀v,(loadVar t ⟨(G.ob o).blk,off,none⟩).run E.P w=.ok v w->(loadVar t ⟨(G.ob o).blk,off,none⟩).run E.P w'=.ok v w':=λw' p8 v hr1=>by
   obtain⟨i1,i2⟩:=vp ht w;obtain⟨j1,j2⟩:=vp ht w';have hc:∀k,w'.cell? ⟨(G.ob o).blk,k,none⟩=w.cell? ⟨(G.ob o).blk,k,none⟩:=λk=>by simp[World.cell?,p8.block _ d9]
   obtain⟨v',h1',_⟩:=key w' p8;rw[h1'];congr 1
   cases agg with
   |false=>
    simp only[ke,cond_false]at hr;obtain⟨y,hy⟩:=wz hr (Xo h5);have e1:w.cell? ⟨(G.ob o).blk,off,none⟩=some y:=by simp[World.cell?,h4,hy]
    have e2:w'.cell? ⟨(G.ob o).blk,off,none⟩=some y:=by rw[hc,e1]
    simp[loadVar,i2,run_load,e1]at hr1;simp[loadVar,j2,run_load,e2]at h1'
    rw[<-h1',hr1]
   |true=>
    simp only[ke,cond_true]at hr
    cases t8:Xi (off+sz) cs.length with
    |false=>rw[t8]at hr;simp at hr
    |true=>
     have d7:off+sz<=cs.length:=Qa t8
     have e1:∀j,j<sz->w.cell? ⟨(G.ob o).blk,off+j,none⟩=some (c.getD (off+j) undef):=λj hj=>by
      have:off+j<c.size:=Om
      simp[World.cell?,h4,this]
     have e2:∀j,j<sz->w'.cell? ⟨(G.ob o).blk,off+j,none⟩=some (c.getD (off+j) undef):=λj hj=>by rw[hc,e1 j hj]
     have l1:=run_loadCells (P:=E.P) (w:=w) ⟨(G.ob o).blk,off,none⟩ sz (λj=>c.getD (off+j) undef) (λj hj=>by rw[Addr.add_lit];exact e1 j hj);have l2:=run_loadCells (P:=E.P) (w:=w') ⟨(G.ob o).blk,off,none⟩ sz (λj=>c.getD (off+j) undef) (λj hj=>by rw[Addr.add_lit];exact e2 j hj);simp[loadVar,i1,i2,l1]at hr1;simp[loadVar,j1,j2,l2]at h1';rw[<-h1',hr1]
  obtain⟨v,a8,hR⟩:=key w (Below.refl _ _);exact⟨v,r,λw' p8=>by simp only[execOp,hv,Instr.loadAt,Instr.sureAddr];simp[pf w' p8 v a8],hR,h⟩
theorem quk{f:FuncId}{xs:Array Operand}{ts:Array TypeId}{args:List AV}{r:AV}{v:Value}(hok:qv3 E)(a8:∀vs w,(callFunc f vs).run E.P w=.ok (.enter f vs) w)
  (nc:xs.toList.map (ql N s)=args) (hp:∀x∈args,Pure x) (hs:Sure r v) (hpr:∀G,Rel G r v) (hc:qp E f args [] λa st1=>a=r∧st1=[])
  (h:AQ E N ops rest K (s.put d r)):AQ E N ops (⟨d,.call ⟨.value (.func f),xs,ts⟩,T,p,af,none⟩::rest) K s:=by
 refine⟨λB0 w0 G a w hL hI Q hQ=>?_⟩;refine⟨λ_ _ _ _=>trivial,?_⟩;simp only[Region.wanted];refine⟨v,λw' p8=>?_,?_⟩
 .have hr:(execOp a.eval ⟨d,.call ⟨.value (.func f),xs,ts⟩,T,p,af,none⟩).run E.P w'=.ok (.enter f (xs.map a.eval)) w':=by
   have he:a.eval (.func f)=.func (.func f) #[] #[]:=rfl;generalize a.eval=ρ at he;simp[execOp,resolve,Deferred.ofValue,he,invoke,a8]
  have dg:=qe3 hI xs;rw[nc]at dg;unfold Oper.quietAtIn;rw[hr];refine⟨rfl,λh=>by simp[fw,Fence.wide]at h,qhr ?_⟩;have hb:Below B0 w0 w':=hI.agree.below.trans (p8.mono hI.agree.hB);have hB:B0<=w'.heap.size:=Xl hI.agree.hB p8.size;have hA':=hI.agree.fresh p8;refine(hc.run w'.heap.size w' ⟨G.pub,G.ob,0⟩ (xs.map a.eval) w' (hok B0 w0 w' hL hb hB) ⟨Below.refl _ _,Qe _,rfl,hA'.pub,nofun,nofun⟩ ⟨dg.1,λi x y hx hy=>?_⟩).mono ?_
  .exact hp x (Zv hx) G _ y (λb vs hb=>⟨[],by simpa using hb⟩) (dg.2 i x y hx hy)
  .rintro e w'' ⟨u,G',r',st',rfl,hG,hA,hR,rfl,rfl⟩
   rw[hs G' u hR];exact⟨rfl,p8.trans (hA.below.mono p8.size)⟩
 .refine h.run B0 w0 G _ w hL (hI.put (.refl G) hI.agree d (hpr G)) Q λs' a' s9 e7 hK=>hQ s' a' s9 ?_ hK
  rw[e7]
  cases d<;>rfl
end
end Go.Av
namespace Go.Av
open Go Go.RowKit
section
variable {E : Env} {rd : Option Nat} {N : Nat} {ops : Array Oper} {K : AS → Prop} {s : AS} {rest : List Oper} {d : Option Tmp} {T : TypeId} {p : String} {af : Array Edge}
theorem qm1{x:Operand}{t:TypeId}{sz:Nat}{agg:Bool}{st loc:List AObj}{k ver off:Nat}{T':TypeId}{cs:List AV}{r:AV}(hs:s.st=st++loc)(hx:ql N s x=.bx (st.length+k) ver off)(ho:loc[k]?=some (.cells ver T' cs))(ht:tyOf E.P t=some (sz,agg))(hr:ke sz agg off cs=some r)
  (h:AQ E N ops rest K (s.put d r)):AQ E N ops (⟨d,.load t x,T,p,af,none⟩::rest) K s:=
 qwl hx (by rw[hs];exact j9 ho) ht hr h
end
end Go.Av
namespace Go.Proofs.YtlekheifonaipaaGreatDoor
open Go Go.Av Go.RowKit Go.Proofs Go.Pl
structure qen where
 kind:Int
 key:qa
 text:qa
 lo:Int
 hi:Int
abbrev FldV:=qa×qa
@[reducible] def fldA (f : FldV) : AV := .ag [Sv f.1, Sv f.2]
@[reducible] def jd (l : List FldV) : AV := .sl 2 (l.map fldA) none
def zln(r:qen):Prop:=1<=r.kind∧r.kind<=7∧(r.kind=6∨qa6 r.key)
instance (r:qen):Decidable (zln r):=inferInstanceAs (Decidable (_∧_∧_))
def zbz(l:qa):List qa:=if l=[]then []else za l
theorem zgw(xs:List qa):Pure (.sl 1 (xs.map λx=>Sv x) none):=qbi λx hx=>by
 simp only[Xa]at hx;obtain⟨l,_,rfl⟩:=hx;intro y hy;simp[AV.cells]at hy;subst hy;exact qr _
def qs2(r:qen)(n:Int):Prop:=r.lo<=n∧n<=r.hi
instance (r:qen)(n:Int):Decidable (qs2 r n):=inferInstanceAs (Decidable (_∧_))
def zbc(r:qen)(l:qa):Prop:=∃n,numZ l=some n∧qs2 r n
instance (r:qen)(l:qa):Decidable (zbc r l):=
 match h:numZ l with
 |some n=>decidable_of_iff (qs2 r n) ⟨λh'=>⟨n,h,h'⟩,λ⟨m,h1,h2⟩=>by rw[h]at h1;cases h1;exact h2⟩
 |none=>.isFalse λ⟨m,h1,_⟩=>by rw[h]at h1;cases h1
def q78(r:qen)(f:FldV):Prop:=
 (r.kind=3->f.1=r.key->zbc r f.2)∧(r.kind=4->f.1=r.key->f.2∈zbz r.text)∧(r.kind=5->f.1=r.key->qs2 r f.2.length)∧(r.kind=6->f.1∈zbz r.text)
instance (r:qen)(f:FldV):Decidable (q78 r f):=inferInstanceAs (Decidable (_∧_∧_∧_))
theorem qou{xs:List FldV}{k:Nat}(hk:k<xs.length):(xs.map fldA)[k]?=some (fldA (xs.getD k ([],[]))):=by
 simp[Qr,hk]
def qsd(key:qa)(xs:List FldV):List qa:=(xs.filter λf=>f.1=key).map Prod.snd
def zl9(r:qen)(xs:List FldV):Prop:=zln r∧((r.kind=1∧(qsd r.key xs).length=0)∨(r.kind=2∧1<(qsd r.key xs).length)∨(r.kind≠1∧r.kind≠2∧xs.any (λf=> !decide (q78 r f))=true))
instance (r:qen)(xs:List FldV):Decidable (zl9 r xs):=inferInstanceAs (Decidable (_∧(_∨_∨_)))
def badR(r:qen)(f:FldV):Bool:= !decide (q78 r f)
def cntR(r:qen)(xs:List FldV):Nat:=if r.kind=6 then 0 else(qsd r.key xs).length
end Go.Proofs.YtlekheifonaipaaGreatDoor
namespace Go.Av
open Go Go.RowKit Go.WideShapes Go.ChangeShapes Go.Deep
def RelK(G:Gh)(us:List AV)(cs:List Value):Prop:=us.length=cs.length∧∀(i:Nat)(x:AV)(y:Value),us[i]?=some x->cs[i]?=some y->Rel G x y
theorem RelK.one{G:Gh}{a:AV}{v:Value}(h:RelK G [a] [v]):Rel G a v:=h.2 0 a v rfl rfl
def One(S:AV->Prop):Prop:=∀a,S a->a.cells=[a]
def fieldsOf(P:Program)(t:TypeId):Array Field:=match P.underlying t with|some (.struct fs)=>fs|_=> #[]
end Go.Av
namespace Go.Proofs.YtlekheifonaipaaGreatDoor
open Go Go.Av Go.RowKit Go.Proofs Go.Pl
theorem qng(l w:List UInt8)(st:List AObj):qp E 144 [Sv l,Sv w] st λr st'=>r=Bv (decide (w<+:l))∧st'=st:=by
 refine qz (qr _) (qq Tryz.func144 rfl (Qa rfl) ?_);repeat' (first|apply qo|apply qf|apply qh|apply qj|apply qg|(apply qt;rfl;rfl;rfl)|(apply jp;rfl;rfl;rfl)|(apply qw;rfl;rfl;rfl;rfl)|(apply xd;exact cAo)|(apply xv;exact cAo)|(apply jo<;>intro h)|(apply qi;rfl;apply w6;exact cAo)|(apply qi;rfl;apply wu;exact cAo)|(apply zr;rfl;rfl;rfl)|(apply qbw;rfl;rfl;rfl;exact cAs)|apply qu)
 all_goals refine qn rfl (q5 rfl) ⟨congrArg Bv (?_:(_:Bool)=_),_,rfl⟩
 .have e:w<+:l↔l.take w.length=w:=by
   rw[Zb];exact⟨λh=>h.symm,λh=>h.symm⟩
  exact decide_eq_decide.2 e.symm
 .refine(decide_eq_false λh=>?_).symm
  have:=h.length_le;omega
structure qm where
 kind:Int
 id:Int
 fields:List FldV
@[reducible] def zt (e : qm) : AV := .ag [Iv e.kind, Iv e.id, jd e.fields]
def qag(k:Int):qa:=if k=1 then [32,114,101,112,108,97,99,101,32]else if k=2 then [32,100,101,108,101,116,101,32]else if k=3 then [32,105,110,115,101,114,116,32]else []
def km(e:qm):qa:=if 1<=e.kind∧e.kind<=3 then qag e.kind++Lib.itoa e.id else []
theorem q2h(e:qm)(st:List AObj)(h1: -9223372036854775808<=e.id)(h2:e.id<=9223372036854775807):qp E 60 [zt e] st λr st'=>r=Sv (km e)∧st'=st:=by
 refine qz (qr _) (qq Tryz.func60 rfl (Qa rfl) ?_);have hn:=Lib.itoa_length_le e.id h1 h2;repeat' (first|apply qo|apply qf|apply qh|apply qg|(apply qt;rfl;rfl;rfl)|(apply qc;rfl;apply cd_d<;>intro h)|(apply jz;rfl;rfl;exact cOs)|(apply qb4;rfl;rfl;rfl;rfl)|(apply zk;rfl;rfl;rfl)|(apply jt;(iterate 5 rfl))|apply qv|apply qu|(apply qk;exact Tryz.call101;exact qgd _ _ h1 h2))
 all_goals refine qn rfl (q5 rfl) ⟨congrArg (λl:qa=>Sv l) (?_:_=km e),_,rfl⟩
 all_goals simp_all[km,qag]
 all_goals omega
def qc1(k:Int):qa:=if k=1 then [114,101,112,108,97,99,101]else if k=2 then [100,101,108,101,116,101]else if k=3 then [105,110,115,101,114,116]else []
theorem qy3(k:Int)(st:List AObj):qp E 116 [Iv k] st λr st'=>r=Sv (qc1 k)∧st'=st:=by
 refine qz (qr _) (qq Tryz.func116 rfl (Qa rfl) ?_);repeat' (first|apply qo|apply qy|apply qf|apply qh|apply qj|apply qg|(apply qt;rfl;rfl;rfl)|(apply qc;rfl;apply cd_d<;>intro h)|apply qv|apply qu)
 all_goals refine qn rfl (q5 rfl) ⟨congrArg (λl:qa=>Sv l) (?_:_=qc1 k),_,rfl⟩
 all_goals simp_all[qc1]
theorem zh6(k:Int):(qc1 k).length<=7:=by
 unfold qc1;repeat' split
 all_goals simp
theorem q87(k:Int):qag k=if qc1 k=[]then []else [32]++qc1 k++[32]:=by
 unfold qag qc1;repeat' split
 all_goals simp_all
theorem zh7(k:Int):qc1 k=[]↔¬(1<=k∧k<=3):=by
 unfold qc1;repeat' split
 all_goals simp_all
 omega
theorem zov(e:qm)(st:List AObj)(h1: -9223372036854775808<=e.id)(h2:e.id<=9223372036854775807):qp E 70 [zt e] st λr st'=>r=Sv (km e)∧st'=st:=by
 refine qz (qr _) (qq Tryz.func70 rfl (Qa rfl) ?_);have hn:=Lib.itoa_length_le e.id h1 h2;have hw:=zh6 e.kind;have ho:=q87 e.kind;have hz:=zh7 e.kind;repeat' (first|apply qo|apply qf|apply qh|apply qj|apply qg|(apply jp;rfl;rfl;rfl)|(apply qc;rfl;apply cd_d<;>intro h)|(apply jz;rfl;rfl;exact cOs)|(apply qb4;rfl;rfl;rfl;rfl)|(apply zk;rfl;rfl;rfl)|(apply jt;(iterate 5 rfl))|apply qv|apply qu|(apply qk;exact Tryz.call116;exact qy3 _ _)|(apply qk;exact Tryz.call117;exact qrf _ _ h1 h2))
 all_goals refine qn rfl (q5 rfl) ⟨congrArg (λl:qa=>Sv l) (?_:_=km e),_,rfl⟩
 all_goals unfold km
 .rw[if_neg (by simp_all)]
 .rw[if_pos (by simp_all),ho,if_neg (by assumption)]
end Go.Proofs.YtlekheifonaipaaGreatDoor
namespace Go.Av
open Go Go.RowKit
def noop(o:Oper):Oper:={o with op:=.move (.const undef),guard:=none}
section
variable {F : Fence} {n : Nat} {P : Program} {ops ops' : Array Oper} {md : Region.Mode} {C : World → Prop} {Q : Exit → Act → World → Prop} {k : Nat} {o : Oper}
theorem qnx{listed:Array Bool}:∀k,listed.getD k true=false->∃j,j<=k∧listed.getD j true=false∧∀i,i<j->listed.getD i true=true:=by
 intro k
 induction k using Nat.strongRecOn with
 |_ k ih=>
  intro h;by_cases bm:∀i,i<k->listed.getD i true=true
  .exact⟨k,Qe _,h,bm⟩
  .have ⟨i,hi⟩:=Classical.not_forall.1 bm
   have ⟨hi1,lj⟩:=Classical.not_imp.1 hi;obtain⟨j,h1,h2,h3⟩:=ih i hi1 (by simpa using lj);exact⟨j,Om,h2,h3⟩
theorem q3c{listed:Array Bool}{i:Nat}(h:listed.getD i true=true)(hi:i<listed.size):listed.getD i false=true:=by
 simp[Zm,hi]at h⊢;exact h
theorem q86{listed:Array Bool}{i:Nat}(h:listed.getD i true=false)(h2:listed.getD i false=true):False:=by
 unfold Zm at h h2;by_cases hi:i<listed.size
 .rw[dif_pos hi]at h h2
  rw[h]at h2
  cases h2
 .rw[dif_neg hi]at h
  cases h
theorem qt3{listed:Array Bool}{j:Nat}(o6:listed.size=ops.size)(pq:∀(j:Nat)o,ops[j]?=some o->∀e∈o.after,e.on<j)(hj:listed.getD j true=false)(bm:∀i,i<j->listed.getD i true=true):j∈Region.ready md ops listed:=by
 have d9:j<listed.size:=by
  rcases Qp j listed.size with h|h
  .exact h
  .simp[Zm,Nat.not_lt.2 h]at hj
 rw[mem_ready];have ho:ops[j]?=some ops[j]:=Array.getElem?_eq_getElem Om;exact⟨hj,_,ho,λe he _=>q3c (bm _ (pq j _ ho e he)) (by have:=pq j _ ho e he;omega)⟩
theorem qpp{listed:Array Bool}(hs:ops.size=ops'.size)(hk:ops[k]?=some o)(bg:ops'[k]?=some (noop o))(p6:∀j,j≠k->ops'[j]?=ops[j]?):Region.ready md ops' listed=Region.ready md ops listed:=by
 unfold Region.ready;rw[hs];refine List.filter_congr λi _=>?_;by_cases h:i=k
 .subst h;rw[hk,bg];rfl
 .rw[p6 i h]
theorem q8h(hd:o.dst=none)(hk:ops[k]?=some o)(bg:ops'[k]?=some (noop o))(p6:∀j,j≠k->ops'[j]?=ops[j]?)(t:Array Value):yielded ops' t=yielded ops t:=by
 funext j;unfold yielded;by_cases h:j=k
 .subst h;rw[hk,bg];simp[noop,hd]
 .rw[p6 j h]
theorem qse(hro:F.round=none)(o6:ops.size=ops'.size)(hk:ops[k]?=some o)(bg:ops'[k]?=some (noop o))(p6:∀j,j≠k->ops'[j]?=ops[j]?)(hd:o.dst=none)
  (pq:∀(j:Nat)o,ops[j]?=some o->∀e∈o.after,e.on<j) (hcov:∀j,j<ops.size->j≠k->∃e∈o.after,Region.binds md e=true∧e.on=j):
  ∀(fuel:Nat)(listed:Array Bool)(a:Act)(w:World),C w->listed.size=ops.size->listed.getD k true=false->wpAnyQIn F n P md ops' C (λa=>∀w,C w->wpOpIn F n P ops Q k (Q .normal) a w) fuel listed a->wpAnyIn F n P md ops Q fuel listed a w
 |0,listed,a,w,hC,hs,bf,h=>by
  have ⟨j,_,h2,h3⟩:=qnx k bf;have:=qt3 (md:=md) hs pq h2 h3;rw[<-qpp o6 hk bg p6,h.1]at this
  cases this
 |fuel+1,listed,a,w,hC,hs,bf,h=>by
  obtain⟨hq1,s4⟩:=h;rw[qpp o6 hk bg p6]at hq1 s4;refine⟨λh0=>?_,λi hi=>?_⟩
  .have ⟨j,_,h2,h3⟩:=qnx k bf
   have:=qt3 (md:=md) hs pq h2 h3;rw[h0]at this
   cases this
  .have hqi:=s4 i hi
   by_cases hik:i=k
   .subst hik
    obtain⟨_,o',e8,bm⟩:=mem_ready.1 hi;rw[hk]at e8
    cases e8
    have hr:Region.ready md ops (listed.setIfInBounds i true)=[]:=by
     rw[List.eq_nil_iff_forall_not_mem];intro j hj;obtain⟨hju,oj,hoj,_⟩:=mem_ready.1 hj
     have hjs:j<ops.size:=by
      rcases Qp j ops.size with h|h
      .exact h
      .rw[Zr h]at hoj;cases hoj
     by_cases dw:j=i
     .subst dw
      simp[Zm,hs,hjs]at hju
     .obtain⟨e,he,hb,heq⟩:=hcov j hjs dw
      have h5:=bm e he hb;rw[heq]at h5;rw[getD_set_ne true (Ne.symm dw)]at hju;exact q86 hju h5
    unfold qOpIn at hqi;rw[bg]at hqi;simp only at hqi;have hqe:=hqi.2;have hwn:Region.wanted (noop o) (yielded ops' a.tmps)=true:=by simp[noop,Region.wanted]
    rw[if_pos hwn]at hqe;obtain⟨v,_,hK⟩:=hqe;have hput:a.put (noop o).dst v=a:=by simp[noop,hd,Act.put]
    rw[hput]at hK
    have hQ':∀w,C w->wpOpIn F n P ops Q i (Q .normal) a w:=by
     cases fuel with
     |zero=>exact hK.2
     |succ fuel=>exact hK.1 (by rw[qpp o6 hk bg p6];exact hr)
    exact wpOpIn_mono (λa' w' h'=>wpAnyIn_done hr h' _) (hQ' w hC)
   .have he:qOpIn F n P ops C i (wpAnyQIn F n P md ops' C (λa=>∀w,C w->wpOpIn F n P ops Q k (Q .normal) a w) fuel (listed.setIfInBounds i true)) a:=by
     unfold qOpIn at hqi⊢;rw[p6 i hik]at hqi;rw[<-q8h hd hk bg p6];exact hqi
    refine wpOpIn_of_qOpIn hro hC (λa' w' hC' hX=>qse hro o6 hk bg p6 hd pq hcov fuel _ a' w' hC' (by simpa using hs) ?_ hX) he;rw[getD_set_ne true hik];exact bf
def qhd{α:Type}:List α->Option (List α×α)
 | []=>none
 | [x]=>some ([],x)
 |x::y::r=>match qhd (y::r)with
  |some (l,o)=>some (x::l,o)
  |none=>none
theorem qr7{α:Type}:∀{L l:List α}{o:α},qhd L=some (l,o)->L=l++[o]
 | [],_,_,h=>by simp[qhd]at h
 | [x],_,_,h=>by simp[qhd]at h;obtain⟨rfl,rfl⟩:=h;rfl
 |x::y::r,l,o,h=>by
  unfold qhd at h;split at h
  .rename_i l' o' he
   simp only[Zk,Xs]at h;obtain⟨rfl,rfl⟩:=h;rw[qr7 he];rfl
  .simp at h
def zae(o:Oper)(k:Nat):Bool:=(Xq k).all λj=>o.after.toList.any λe=>Region.binds .any e&&Xj e.on j
def q6x(ops:List Oper):Bool:=(Xq ops.length).all λj=>match ops[j]?with|some o=>o.after.toList.all λe=>Nat.blt e.on j|none=>true
end
section
variable {E : Env} {N : Nat} {s : AS}
theorem q0r{id:Nat}{L l:List Oper}{o:Oper}{Q:Exit->AS->Prop}(r9:qhd L=some (l,o))(hd:o.dst=none)(hcov:zae o l.length=true)(pq:q6x L=true)(hm:E.P.follows .mixedOrders=true)(hB:Region.lexB .any (l++[noop o]).toArray=true)
  (h:AQ E N (l++[noop o]).toArray l (λs'=>AOps E none N L.toArray [o] (Q .normal) s') s):AWp E none N (.region id L.toArray true) Q s:=by
 have hLe:=qr7 r9;subst hLe;refine⟨λB0 w0 G a w hL hI=>?_⟩;have ml:=hB;simp only[Region.lexB,Qs]at ml;have hk:(l++[o]).toArray[l.length]?=some o:=Sx
 have bg:(l++[noop o]).toArray[l.length]?=some (noop o):=Sx
 have p6:∀j,j≠l.length->(l++[noop o]).toArray[j]?=(l++[o]).toArray[j]?:=λj hj=>by
  simp only[Zt];rcases Qp j l.length with h|h
  .rw[Qy h,Qy h]
  .rw[Zu So,Zu So]
 have hordP:∀(j:Nat)o',(l++[o]).toArray[j]?=some o'->∀e∈o'.after,e.on<j:=λj o' hj e he=>by
  simp only[q6x,Ze,Xk]at pq;simp only[Zt]at hj;have h1:=pq j (lt_of_getElem? hj);rw[hj]at h1;simp only at h1;have h2:=Ze.1 h1 e (by simpa using he);exact Qa h2
 have hcovP:∀j,j<(l++[o]).toArray.size->j≠l.length->∃e∈o.after,Region.binds .any e=true∧e.on=j:=λj hj b9=>by
  simp only[zae,Ze,Xk]at hcov;have h1:=hcov j (by simp at hj;omega);obtain⟨e,he,h2⟩:=List.any_eq_true.1 h1;simp only[Qs]at h2;exact⟨e,by simpa using he,h2.1,Nat.eq_of_beq_eq_true h2.2⟩
 have hBl:Below w.heap.size w {w with drawn:=w.drawn+1}:=⟨rfl,rfl,rfl,Qe _,λ_ _=>rfl⟩;refine wpIn_region_any hm (qse (C:=λw'=>Below w.heap.size w w') (ops':=(l++[noop o]).toArray) (k:=l.length) rfl Sx hk bg p6 hd hordP hcovP _ _ _ _ hBl Sx (by simp[Zm]) ?_)
 have hq:wpQuietIn (fw none) 0 E.P (l++[noop o]).toArray (λw'=>Below w.heap.size w w') (λa=>∀w',Below w.heap.size w w'->wpOpIn (fw none) 0 E.P (l++[o]).toArray (λe a' w'=>∃(G':Gh)(s':AS),G.le G'∧Inv B0 w0 N G' s' a' w'∧Q e s') l.length (λa' w'=>∃(G':Gh)(s':AS),G.le G'∧Inv B0 w0 N G' s' a' w'∧Q .normal s') a w') (l++[noop o]) a:=by
  have step:∀(l1:List Oper)(a:Act)(X:Act->Prop),wpQuietIn (fw none) 0 E.P (l++[noop o]).toArray (λw'=>Below w.heap.size w w') X l1 a->wpQuietIn (fw none) 0 E.P (l++[noop o]).toArray (λw'=>Below w.heap.size w w') X (l1++[noop o]) a:=by
   intro l1
   induction l1 with
   |nil=>
    intro a X hX;refine⟨λ_ _ _ hf=>?_,?_⟩
    .simp[Oper.about,noop]at hf
    .have hwn:Region.wanted (noop o) (yielded (l++[noop o]).toArray a.tmps)=true:=by simp[noop,Region.wanted]
     rw[if_pos hwn];refine⟨undef,λw' _=>?_,?_⟩
     .unfold Oper.quietAtIn
      simp[noop,execOp,Oper.quietUponIn,Act.eval]
     .have hput:a.put (noop o).dst undef=a:=by simp[noop,hd,Act.put]
      rw[hput]
      exact hX
   |cons o1 l1 ih=>
    intro a X hX;refine⟨hX.1,?_⟩;have h2:=hX.2;split
    .rename_i hw
     rw[if_pos hw]at h2;obtain⟨v,h3,h4⟩:=h2;exact⟨v,h3,ih _ _ h4⟩
    .rename_i hw
     rw[if_neg hw]at h2;exact ih _ _ h2
  refine step l a _ (h.run B0 w0 G a w hL hI _ λs' a' s9 e7 lk w' p8=>?_);have tb:Inv B0 w0 N G s' a' w':=⟨s9.agree.fresh p8,s9.defers,s9.size,s9.tmps⟩;have hr:=lk.run B0 w0 G a' w' hL tb (λe a' w'=>∃(G':Gh)(s':AS),G.le G'∧Inv B0 w0 N G' s' a' w'∧Q e s') (λG' s'' a'' w'' hG hI3 hQ=>⟨G',s'',hG,hI3,hQ⟩);unfold wpOpIn;rw[hk];exact hr
 have:=wpAnyQIn_lex (F:=fw none) (n:=0) (C:=λw'=>Below w.heap.size w w') (md:=.any) ml.1 (l++[noop o]) 0 (Array.replicate (l++[noop o]).length false) a Sx (by simpa using ml.2) hq
 simpa using this
variable {ops : Array Oper} {K : AS → Prop} {rest : List Oper} {d : Option Tmp} {T : TypeId} {p : String} {af : Array Edge}
theorem qjn{x y:Operand}{t t':TypeId}{m n:List UInt8}(hx:ql N s x=Sv m)(hy:ql N s y=Sv n)(hl:m.length+n.length<9223372036854775808)
  (h:AQ E N ops rest K (s.put d (Sv (m++n)))):AQ E N ops (⟨d,.binOp .add t x y t',T,p,af,none⟩::rest) K s:=
 qcj _ rfl nofun (λa w he=>by
  simp only[execOp,he _ _ hx,he _ _ hy,eqGuard_at_string,binOp,Op.stringOp,qb3,q0p,IntKind.max_i64];rw[if_neg Om]
  simp) h
theorem qdh{x y:Operand}{t e:TypeId}{sz:Nat}{agg:Bool}{xs:List AV}{tip:Option Nat}{k:IntKind}{i:Int}{n:Nat}{z:AV}(hx:ql N s x=.sl sz xs tip)(hy:ql N s y=.v (.int k i))(hu:E.P.underlying t=some (.slice e))(ht:tyOf E.P e=some (sz,agg))(hi:i=n)(hz:xs[n]?=some z)
  (h:AQ E N ops rest K (s.put d (.pp z.cells))):AQ E N ops (⟨d,.indexAddr t x y,T,p,af,none⟩::rest) K s:=by
 refine qfa rfl nofun λB0 w0 G a w _ hI=>?_;subst hi;have he:=hI.eval_of hx;have dj:=hI.evalv hy;generalize hv:a.eval x=v at he;have d9:=lt_of_getElem? hz
 cases he with
 |sl0=>simp at hz
 |sl _ _ _ b off cap pub hp hw d5 i6 htip r6=>
  have pj:z.cells.length=sz:=hw z (Zv hz);have o8:=zv hw;have d7:(n+1)*sz<=xs.length*sz:=Nat.mul_le_mul_right _ d9;rw[Nat.succ_mul]at d7;refine⟨.pointer (some ⟨b,off+n*sz,none⟩),.pp z.cells,λw' _=>?_,?_,h⟩
  .generalize a.eval=ρ at hv dj
   simp only[execOp,hv,dj];simp[Instr.indexAt,asIntOf,run_underlying hu,d9,(vp ht w').1,Addr.add_lit]
  .refine .pp _ b _ pub hp Om λj q r h1 h2=>?_
   have hj:j<sz:=by have:=lt_of_getElem? h1;omega
   have hf:=qot hw hz j hj;exact i6 (n*sz+j) q r (by rw[hf];exact h1) (by rw[<-h2];congr 1;omega)
theorem ql1{x y:Operand}{t e:TypeId}{sz:Nat}{agg:Bool}{o ver off len cp:Nat}{k:IntKind}{i:Int}{n:Nat}(hx:ql N s x=.os o ver off len cp)(hy:ql N s y=.v (.int k i))(hu:E.P.underlying t=some (.slice e))(ht:tyOf E.P e=some (sz,agg))(hi:i=n)(hn:n<len)
  (h:AQ E N ops rest K (s.put d (.bx o ver (off+n*sz)))):AQ E N ops (⟨d,.indexAddr t x y,T,p,af,none⟩::rest) K s:=by
 refine qfa rfl nofun λB0 w0 G a w _ hI=>?_;subst hi;have he:=hI.eval_of hx;have dj:=hI.evalv hy;generalize hv:a.eval x=v at he
 cases he with
 |os _ _ _ _ b cap nw cj hb=>
  refine⟨.pointer (some ⟨b,off+n*sz,none⟩),_,λw' _=>?_,.bx o ver _ b nw cj hb,h⟩;generalize a.eval=ρ at hv dj;simp only[execOp,hv,dj];simp[Instr.indexAt,asIntOf,run_underlying hu,hn,(vp ht w').1,Addr.add_lit]
theorem ql0{t:TypeId}{x:Operand}{f off sz:Nat}{agg:Bool}{o ver q:Nat}(hx:ql N s x=.bx o ver q)(hf:qce E.P t f=some (off,sz,agg))(o6:Xj sz 0=false)
  (h:AQ E N ops rest K (s.put d (.bx o ver (q+off)))):AQ E N ops (⟨d,.fieldAddr t x f,T,p,af,none⟩::rest) K s:=by
 refine qfa rfl nofun λB0 w0 G a w _ hI=>?_;have he:=hI.eval_of hx;generalize hv:a.eval x=v at he
 cases he with
 |bx _ _ _ b hn dk hb=>
  have hs:sz≠0:=λe=>by subst e;simp at o6
  exact⟨_,_,λw' _=>by simp only[execOp,hv];simp[qjg hf hs],.bx o ver _ b hn dk hb,h⟩
theorem qhp{t:TypeId}{x:Operand}{f off sz:Nat}{agg:Bool}{cs:List AV}(hx:ql N s x=.pp cs)(hf:qce E.P t f=some (off,sz,agg))(o6:Xj sz 0=false)(d7:Xi off cs.length=true)
  (h:AQ E N ops rest K (s.put d (.pp (cs.drop off)))):AQ E N ops (⟨d,.fieldAddr t x f,T,p,af,none⟩::rest) K s:=by
 refine qfa rfl nofun λB0 w0 G a w _ hI=>?_;have he:=hI.eval_of hx;generalize hv:a.eval x=v at he
 cases he with
 |pp _ b q pub hp d5 i6=>
  have hs:sz≠0:=λe=>by subst e;simp at o6
  have ho:off<=cs.length:=Qa d7;refine⟨.pointer (some ⟨b,q+off,none⟩),_,λw' _=>by simp only[execOp,hv];simp[qjg hf hs],?_,h⟩;exact .pp _ b (q+off) pub hp So λi x y h1 h2=>i6 (off+i) x y (by simpa using h1) (by rw[<-h2];congr 1;omega)
theorem qe9{x:Operand}{t:TypeId}{sz:Nat}{agg:Bool}{cs:List AV}{r:AV}(hx:ql N s x=.pp cs)(ht:tyOf E.P t=some (sz,agg))(hr:ke sz agg 0 cs=some r)
  (h:AQ E N ops rest K (s.put d r)):AQ E N ops (⟨d,.load t x,T,p,af,none⟩::rest) K s:=by
 refine qfa rfl nofun λB0 w0 G a w _ hI=>?_;have he:=hI.eval_of hx;generalize hv:a.eval x=v at he
 cases he with
 |pp _ b off pub hp d5 i6=>
  obtain⟨c,T',fz,hc,sn⟩:=hI.agree.pub b pub hp;have d9:b<w.heap.size:=hI.agree.pub_lt hp
  have key:∀w',Below w.heap.size w w'->∃v,(loadVar t ⟨b,off,none⟩).run E.P w'=.ok v w'∧Rel G r v:=λw' p8=>by
   have h4':w'.heap[b]?=some (.cells c T' fz):=by rw[p8.block _ d9];exact hc
   exact qb2 (w:=w') (G:=G) (b:=b) (off:=off) ht (λi x hx _=>by
    have hi:=lt_of_getElem? hx;have hy:pub[off+i]?=some (pub[off+i]'(by omega)):=List.getElem?_eq_getElem Om;refine⟨_,?_,i6 i x _ hx hy⟩
    simp[World.cell?,h4',sn _ _ hy]) hr
  have hg:∀w',Below w.heap.size w w'->∀j,j<cs.length->w'.cell? ⟨b,off+j,none⟩=some (pub.getD (off+j) undef):=λw' p8 j hj=>by
   have h4':w'.heap[b]?=some (.cells c T' fz):=by rw[p8.block _ d9];exact hc
   have hlt2:off+j<pub.length:=Om
   have hy:pub[off+j]?=some (pub.getD (off+j) undef):=by simp[Qr,hlt2]
   simp[World.cell?,h4',sn _ _ hy]
  have pf:∀w',Below w.heap.size w w'->∀v,(loadVar t ⟨b,off,none⟩).run E.P w=.ok v w->(loadVar t ⟨b,off,none⟩).run E.P w'=.ok v w':=λw' p8 v hr1=>by
   obtain⟨i1,i2⟩:=vp ht w;obtain⟨j1,j2⟩:=vp ht w';obtain⟨v',h1',_⟩:=key w' p8;rw[h1'];congr 1
   cases agg with
   |false=>
    simp only[ke,cond_false]at hr;have h0:=lt_of_getElem? hr;have e1:=hg w (Below.refl _ _) 0 h0;have e2:=hg w' p8 0 h0;rw[Xm]at e1 e2;simp[loadVar,i2,run_load,e1]at hr1;simp[loadVar,j2,run_load,e2]at h1'
    rw[<-h1',hr1]
   |true=>
    simp only[ke,cond_true]at hr
    cases t8:Xi (0+sz) cs.length with
    |false=>rw[t8]at hr;simp at hr
    |true=>
     have d7:0+sz<=cs.length:=Qa t8;have l1:=run_loadCells (P:=E.P) (w:=w) ⟨b,off,none⟩ sz (λj=>pub.getD (off+j) undef) (λj hj=>by rw[Addr.add_lit];exact hg w (Below.refl _ _) j Om);have l2:=run_loadCells (P:=E.P) (w:=w') ⟨b,off,none⟩ sz (λj=>pub.getD (off+j) undef) (λj hj=>by rw[Addr.add_lit];exact hg w' p8 j Om);simp[loadVar,i1,i2,l1]at hr1;simp[loadVar,j1,j2,l2]at h1';rw[<-h1',hr1]
  obtain⟨v,a8,hR⟩:=key w (Below.refl _ _);exact⟨v,r,λw' p8=>by simp only[execOp,hv,Instr.loadAt,Instr.sureAddr];simp[pf w' p8 v a8],hR,h⟩
theorem q4q{x y:Operand}{t t':TypeId}{k:IntKind}{m n r:Int}(hx:ql N s x=.v (.int k m))(hy:ql N s y=.v (.int k n))(hr:k.wrap (m-n)=r)
  (h:AQ E N ops rest K (s.put d (.v (.int k r)))):AQ E N ops (⟨d,.binOp .sub t x y t',T,p,af,none⟩::rest) K s:=
 qcj _ rfl nofun (λa w he=>by rw[<-hr];simp[execOp,he _ _ hx,he _ _ hy,eqGuard_at_int,binOp,Op.intArith]) h
theorem qzb{x y z:Operand}{t:TypeId}{k k':IntKind}{l:List UInt8}{i j:Nat}(hx:ql N s x=Sv l)(hy:ql N s y=.v (.int k' (i:Int)))(hz:ql N s z=.v (.int k (j:Int)))(hu:E.P.underlying t=some .string)(h1:i<=j)(h2:j<=l.length)
  (h:AQ E N ops rest K (s.put d (Sv ((l.take j).drop i)))):AQ E N ops (⟨d,.slice t x (some y) (some z) none,T,p,af,none⟩::rest) K s:=
 qum (i:=i) (j:=j) hx hu ⟨_,hy⟩ ⟨_,hz⟩ Om Om Om (by simpa using h)
theorem qy9{x:Operand}{ts:Array TypeId}{t0 e:TypeId}{v:AV}{n:Nat}(hx:ql N s x=v)(hl:lenA v=some n)(ht:ts[0]?=some t0)(hu:E.P.underlying t0=some (.slice e))
  (h:AQ E N ops rest K (s.put d (Iv n))):AQ E N ops (⟨d,.call ⟨.builtin .len,#[x],ts⟩,T,p,af,none⟩::rest) K s:=by
 refine qfa rfl nofun λB0 w0 G a w _ hI=>?_;have he:=hI.eval_of hx
 have key:∃b c,a.eval x=.slice b n c:=by
  generalize a.eval x=u at he
  cases he<;>simp[lenA]at hl
  case v y=>
   cases u<;>simp at hl
   subst hl;exact⟨_,_,rfl⟩
  case sl0=>subst hl;exact⟨_,_,rfl⟩
  case sl=>subst hl;exact⟨_,_,rfl⟩
  case os=>subst hl;exact⟨_,_,rfl⟩
 obtain⟨b,c,hv⟩:=key;refine⟨.int .i64 n,Iv n,λw' _=>?_,.v _,h⟩;generalize a.eval=ρ at hv;simp[execOp,resolve,invoke,builtin,Builtin.len_,hv,ht,run_underlying hu,goInt]
theorem qm2{x:Operand}{t:TypeId}{sz:Nat}{agg:Bool}{st loc ext new:List AObj}{k ver off:Nat}{T':TypeId}{cs:List AV}{r:AV}(hs:s.st=((st++loc)++ext)++new)(hx:ql N s x=.bx (st.length+k) ver off)(ho:loc[k]?=some (.cells ver T' cs))(ht:tyOf E.P t=some (sz,agg))(hr:ke sz agg off cs=some r)
  (h:AQ E N ops rest K (s.put d r)):AQ E N ops (⟨d,.load t x,T,p,af,none⟩::rest) K s:=
 qwl hx (by rw[hs];exact qb1 ho) ht hr h
end
end Go.Av
namespace Go.Av
open Go Go.RowKit
section
variable {B0 : Nat} {w0 : World} {G : Gh} {st : List AObj} {w : World}
theorem zl.pubOb(h:zl B0 w0 G st w){o ver:Nat}{T:TypeId}{cs:List AV}(ho:st[o]?=some (.cells ver T cs)):
  ∃vs:List Value,G.le (G.publish (G.ob o).blk vs)∧zl B0 w0 (G.publish (G.ob o).blk vs) (st.set o .dead) w∧(G.ob o).ver=ver∧(G.publish (G.ob o).blk vs).pub (G.ob o).blk=some vs∧cs.length=vs.length∧
   ∀(i:Nat)(x:AV)(y:Value),cs[i]?=some x->vs[i]?=some y->Rel (G.publish (G.ob o).blk vs) x y:=by
 obtain⟨h0,h1,h2,h3,c,h4,h5,h6⟩:=h.ob o _ ho;have d7:G.le (G.publish (G.ob o).blk c.toList):=G.le_publish _ _ [] [] (.inl h3);refine⟨c.toList,d7,?_,h1,by simp[Gh.publish],by simpa using h5,λi x y hx hy=>(h6 i x y hx (by simpa using hy)).mono d7⟩
 have key:∀(k:Nat)(x:AObj),(st.set o .dead)[k]?=some x->x=.dead∨(k≠o∧st[k]?=some x):=λk x hx=>by
  rcases getElem?_set' _ _ _ _ _ hx with⟨_,e⟩|e
  .exact .inl e
  .exact .inr e
 refine⟨h.below,h.hB,by simp[h.n,Gh.publish],λb vs hb=>?_,λk x hx=>?_,λk k' x x' b9 hx i4 hl bj=>?_⟩
 .simp only[Gh.publish]at hb
  by_cases e:b=(G.ob o).blk
  .rw[if_pos e]at hb
   cases hb
   subst e;exact⟨c,T,(0,0),h4,λi y hy=>by simpa using hy⟩
  .rw[if_neg e]at hb
   exact h.pub b vs hb
 .rcases key k x hx with rfl |⟨hk,hx⟩
  .trivial
  .refine(h.ob k x hx).mono d7 rfl (λhl=>?_) (λ_=>rfl)
   have:=h.sep k o x _ hk hx ho hl trivial;simp[Gh.publish,this]
 .rcases key k x hx with rfl |⟨hk,hx⟩
  .exact hl.elim
  .rcases key k' x' i4 with rfl |⟨bg,i4⟩
   .exact bj.elim
   .exact h.sep k k' x x' b9 hx i4 hl bj
end
section
variable {E : Env} {rd : Option Nat} {N : Nat} {ops : Array Oper} {K : AS → Prop} {s : AS} {rest : List Oper} {d : Option Tmp} {T : TypeId} {p : String} {af : Array Edge}
theorem Inv.pub{B0:Nat}{w0:World}{G:Gh}{a:Act}{w:World}(h:Inv B0 w0 N G s a w){i o ver:Nat}{T':TypeId}{cs:List AV}(hi:s.t i=.bx o ver 0)(ho:s.st[o]?=some (.cells ver T' cs)):
  ∃G',G.le G'∧Inv B0 w0 N G' ⟨Av.put s.t i (.pp cs),s.st.set o .dead,s.df⟩ a w:=by
 obtain⟨vs,d7,hA,hv,hp,hl,hr⟩:=h.agree.pubOb ho;refine⟨_,d7,hA,h.defers_mono d7,h.size,λj y hy=>?_⟩;have hj:=h.tmps j y hy;by_cases e:j=i
 .subst e
  simp only[xx];rw[hi]at hj
  cases hj with
  |bx _ _ _ b hn dk hb=>
   have hb:=hb hv;subst hb;exact .pp cs _ 0 vs hp Om λk x y hx hy=>hr k x y hx (by simpa using hy)
 .simp only
  rw[qax _ _ _ _ e];exact hj.mono d7
theorem qe8{x y:Operand}{t:TypeId}{sz:Nat}{agg:Bool}{st loc loc' ext new:List AObj}{k ver off:Nat}{T':TypeId}{cs xs:List AV}{r:AV}(hs:s.st=((st++loc)++ext)++new)(hx:ql N s x=.bx (st.length+k) ver off)(hy:ql N s y=r)(ho:loc[k]?=some (.cells ver T' cs))(ht:tyOf E.P t=some (sz,agg))
  (hok:r.okc=true) (hc:r.cells=xs) (o6:Xj xs.length sz=true) (h1:kc xs=true) (i9:Xi (off+sz) cs.length=true) (hl:loc'=loc.set k (.cells ver T' (z4 cs off xs)))
  (h:AOps E rd N ops rest K (AS.put ⟨s.t,((st++loc')++ext)++new,s.df⟩ d (.v undef))):AOps E rd N ops (⟨d,.store t x y,T,p,af,none⟩::rest) K s:=by
 have hk:=lt_of_getElem? ho;exact qan hx hy (by rw[hs];exact qb1 ho) ht hok hc o6 h1 i9 (by rw[hs,qfr _ hk,<-hl];exact h)
end
theorem qd6{α:Type}(l:List α)(a:α):(l++[a]).length=l.length+1:=Sx
theorem qii{α:Type}(l:List α)(a:α):Iv ((l.length:Int)+1)=Iv ((l++[a]).length:Nat):=by rw[qd6];rfl
theorem zk7{α:Type}{sz:Nat}{tip:Option Nat}(x0:AV)(g:α->AV)(pre:List α)(a:α)(v:AV)(h:v=g a):AV.sl sz ((x0::pre.map g)++[v]) tip=AV.sl sz (x0::(pre++[a]).map g) tip:=by rw[List.map_append,h];rfl
theorem q8j{E:Env}{rd:Option Nat}{N:Nat}{ops:Array Oper}{K:AS->Prop}{s:AS}{rest:List Oper}{d:Option Tmp}{T:TypeId}{p:String}{af:Array Edge}{t:TypeId}{st loc:List AObj}{cs:List AV}{n:Nat}(e7:s.st=st++loc)(hn:st.length=n)(hz:qh8 E.P t=some cs)
  (h:AOps E rd N ops rest K (AS.put ⟨s.t,st++(loc++[.cells 0 t cs]),s.df⟩ d (.bx (n+loc.length) 0 0))):AOps E rd N ops (⟨d,.alloc t,T,p,af,none⟩::rest) K s:=by
 subst hn;exact j7 e7 hz h
theorem qwi{E:Env}{rd:Option Nat}{N:Nat}{ops:Array Oper}{K:AS->Prop}{s:AS}{rest:List Oper}{d:Option Tmp}{T:TypeId}{p:String}{af:Array Edge}{x y:Operand}{t:TypeId}{sz:Nat}{agg:Bool}{st loc ext new:List AObj}{k ver off:Nat}{T':TypeId}{cs xs:List AV}{r:AV}(hs:s.st=((st++loc)++ext)++new)(hx:ql N s x=.bx (st.length+k) ver off)(hy:ql N s y=r)(ho:loc[k]?=some (.cells ver T' cs))(ht:tyOf E.P t=some (sz,agg))
  (hok:r.okc=true) (hc:r.cells=xs) (o6:xs.length=sz) (h1:kc xs=true) (i9:off+sz<=cs.length)
  (h:AOps E rd N ops rest K (AS.put ⟨s.t,((st++loc.set k (.cells ver T' (z4 cs off xs)))++ext)++new,s.df⟩ d (.v undef))):AOps E rd N ops (⟨d,.store t x y,T,p,af,none⟩::rest) K s:=by
 have hk:=lt_of_getElem? ho;exact qho hx hy (by rw[hs];exact qb1 ho) ht hok hc o6 (by simpa[kc]using h1) i9 (by rw[hs,qfr _ hk];exact h)
theorem qck{E:Env}{rd:Option Nat}{N:Nat}{c:Code}{Q:Exit->AS->Prop}{s:AS}{α:Type}(xs:List α)(I:List α->AS->Prop)(h0:I [] s)(fp:∀s,I xs s->AWp E rd N c (q3w (λ_=>False) Q) s)
  (hstep:∀pre a rest s,xs=pre++a::rest->I pre s->AWp E rd N c (q3w (λs'=>I (pre++[a]) s') Q) s):AWp E rd N (.loop c) Q s:=by
 refine jr (λ(x:List α×List α)s=>xs=x.1++x.2∧I x.1 s) (λx=>x.2.length) ([],xs) ⟨rfl,h0⟩ ?_;rintro⟨pre,rest⟩ s ⟨hx,hi⟩
 cases rest with
 |nil=>
  simp only[Qx]at hx;subst hx;refine(fp s hi).mono λe s' h=>?_
  cases e with
  |normal=>exact h.elim
  |_=>exact h
 |cons a rest=>
  refine(hstep pre a rest s hx hi).mono λe s' h=>?_
  cases e with
  |normal=>exact⟨(pre++[a],rest),⟨by rw[hx];simp,h⟩,Sx⟩
  |_=>exact h
theorem q25{E:Env}{fn:Func}{R:AV->List AObj->Prop}{s:AS}{st loc ext new:List AObj}{k:Nat}{ds:List Nat}(hs:s.st=((st++loc)++ext)++new)(hd:s.df=(st.length+k)::ds)(ho:loc[k]?=some .dfr)(h:ARet E fn R ⟨s.t,((st++loc.set k .dead)++ext)++new,ds⟩):ARet E fn R s:=
 qqt hd (by rw[hs];exact qb1 ho) (by rw[hs,qfr _ (lt_of_getElem? ho)];exact h)
@[reducible] def zhc (F : LoopState → Option Code → AObj) (st : List AObj) (own : AObj) (I : List AObj → Prop) (D : Code → List AObj → Prop) : Exit → AS → Prop
 |.normal,s=>∃l ext new,s.st=((st++(l++[.dfr,F .busy none,own]))++ext)++new∧I l
 |.ret,s=>∃l ext new,s.st=((st++(l++[.dfr,F .busy none,own]))++ext)++new∧D .ret l
 |.exit id,s=>∃l ext new,s.st=((st++(l++[.dfr,F .busy none,own]))++ext)++new∧D (.exit id) l
 |_,_=>False
theorem q8r{E:Env}{o:Nat}{xs:List AV}{st st':List AObj}{R:Bool->List AObj->Prop}(e:st=st')(h:yz E o xs st R):yz E o xs st' R:=e▸h
theorem qex{st l ext:List AObj}{a b c:AObj}{n:Nat}(hl:l.length=n):(((st++(l++[a,b,c]))++ext))[st.length+(n+1)]?=some b:=by
 subst hl;rw[Qb,Qb,Qn Om,Qo,Qn Om];simp
theorem qhb{st l ext:List AObj}{a b c y:AObj}{n:Nat}(hl:l.length=n):((st++(l++[a,b,c]))++ext).set (st.length+(n+1)) y=(st++(l++[a,y,c]))++ext:=by
 subst hl;rw[Qb,Qb,Zf _ _ Om,Qo,Zf _ _ Om];simp
theorem zim{E:Env}{N:Nat}{t:Nat->AV}{ps:Array Tmp}{asg body:Code}{st l ext:List AObj}{own:AObj}{n:Nat}{xs:List AV}{F:LoopState->Option Code->AObj}{I:List AObj->Prop}{D:Code->List AObj->Prop}(hF:qlw F N t ps asg body)(hl:l.length=n)(hps:ps.size=xs.length)
  (hI:∀l,I l->l.length=n) (hD:∀c l,D c l->l.length=n)
  (h:∀rd,AWp E (some rd) N asg (only λs1=>∃new,s1.st=((st++(l++[.dfr,F .ready none,own]))++ext)++new∧s1.df=[]∧AWp E (some rd) N body (zhc F st own I D) ⟨s1.t,((st++(l++[.dfr,F .busy none,own]))++ext)++new,[]⟩) ⟨qmu t (ps.toList.zip xs),((st++(l++[.dfr,F .ready none,own]))++ext)++[],[]⟩):
  yz E (st.length+(n+1)) xs ((st++(l++[.dfr,F .ready none,own]))++ext) λb st2=>∃l' ext',(b=true->st2=(st++(l'++[.dfr,F .ready none,own]))++ext'∧I l')∧(b=false->∃c,st2=(st++(l'++[.dfr,F .done (some c),own]))++ext'∧D c l'):=by
 refine qoi hF (qex hl) hps λrd=>?_;have h:=h rd;rw[Qx]at h;refine h.mono λe s1 hq=>?_
 cases e with
 |normal=>
  obtain⟨new,h1,h2,h3⟩:=hq;refine⟨by rw[h1,Qb];exact qex hl,h2,?_⟩
  have e:s1.st.set (st.length+(n+1)) (F .busy none)=((st++(l++[.dfr,F .busy none,own]))++ext)++new:=by
   rw[h1,Qb,qhb hl,Qb _ ext]
  rw[e];refine h3.mono λe s2 s4=>?_
  cases e with
  |normal=>
   obtain⟨l',ext',new',k1,k2⟩:=s4
   exact⟨by rw[k1,Qb];exact qex (hI _ k2),l',ext'++new',λ_=>⟨by rw[k1,Qb,qhb (hI _ k2)],k2⟩,nofun⟩
  |ret=>
   obtain⟨l',ext',new',k1,k2⟩:=s4
   exact⟨by rw[k1,Qb];exact qex (hD _ _ k2),l',ext'++new',nofun,λ_=>⟨_,by rw[k1,Qb,qhb (hD _ _ k2)],k2⟩⟩
  |exit id=>
   obtain⟨l',ext',new',k1,k2⟩:=s4
   exact⟨by rw[k1,Qb];exact qex (hD _ _ k2),l',ext'++new',nofun,λ_=>⟨_,by rw[k1,Qb,qhb (hD _ _ k2)],k2⟩⟩
  |_=>exact s4.elim
 |_=>exact hq.elim
end Go.Av
