/- Contracts and plain facts that the closing text leans on (part 3). No condition of their own beyond those that each states. -/
import Derived.Test.YtapblfabkbdgcaaGreatDoorK2
import Derived.Lib.SplitLaws
import Derived.Shelf.Strings.SplitShaped
import Derived.Deep.Slices
import Derived.Deep.Fields
import Derived.WideKeyArgs
import Derived.Lib.ItoaLen
set_option maxRecDepth 100000
set_option linter.unusedVariables false
set_option linter.unusedSimpArgs false
namespace Go.Proofs.YtapblfabkbdgcaaGreatDoor
open Go Go.Av Go.RowKit Go.Proofs Go.Pl
theorem qxq (x:BitVec 32):x &&& 2147483648#32≠0#32↔x.toNat / 2147483648=1:=by
 have e:2147483648#32=BitVec.twoPow 32 31:=by decide
 have h:=x.isLt;rw [e,BitVec.and_twoPow,BitVec.getLsbD,Nat.testBit_eq_decide_div_mod_eq];by_cases hb:x.toNat / 2 ^ 31 % 2=1
 ·simp only [hb,decide_true,if_true]
  constructor
  ·intro _;omega
  ·intro _;decide
 ·simp only [hb,decide_false]
  constructor
  ·intro h';exact absurd rfl h'
  ·intro h';omega
theorem q6p (x:BitVec 32):x.msb=true↔x.toNat / 2147483648=1:=by
 rw [BitVec.msb_eq_decide];have h:=x.isLt;simp;omega
theorem qi3 (x:BitVec 32):qa3 x=(x <<< 1) ^^^ (if x.msb then 79764919#32 else 0#32):=by
 unfold qa3;by_cases h:x.msb=true
 ·rw [if_pos ((qxq x).2 ((q6p x).1 h)),if_pos h]
 ·rw [if_neg (fun h'=>h ((q6p x).2 ((qxq x).1 h'))),if_neg h,BitVec.xor_zero]
theorem q51 (a b:BitVec 32):qa3 (a ^^^ b)=qa3 a ^^^ qa3 b:=by
 rw [qi3,qi3,qi3,BitVec.msb_xor,BitVec.shiftLeft_xor_distrib]
 cases a.msb <;> cases b.msb <;> simp only [Bool.xor_false,Bool.xor_true,Bool.not_true,Bool.not_false,Bool.false_eq_true,if_true,if_false,BitVec.xor_zero]
 ·rw [BitVec.xor_assoc]
 ·rw [BitVec.xor_assoc,BitVec.xor_comm (b <<< 1),BitVec.xor_assoc]
 ·rw [BitVec.xor_assoc (a <<< 1),BitVec.xor_comm 79764919#32,BitVec.xor_assoc (b <<< 1),BitVec.xor_self,BitVec.xor_zero]
theorem qpb (n:Nat) (a b:BitVec 32):wr n (a ^^^ b)=wr n a ^^^ wr n b:=by
 induction n with
 |zero=>rfl
 |succ n ih=>simp only [wr,ih,q51]
theorem qjw:∀ (n:Nat) (x:BitVec 32),n≤31→x.toNat<2 ^ (32 - n)→wr n x=x <<< n
 | 0,x,_,_=>by simp [wr]
 |n+1,x,hn,h=>by
  have hp:2 ^ (32 - n)=2 * 2 ^ (32 - (n+1)):=by rw [show 32 - n=(32 - (n+1))+1 by omega,Nat.pow_succ,Nat.mul_comm]
  simp only [wr];rw [qjw n x (by omega) (by omega),qi3]
  have hm:(x <<< n).msb=false:=by
   cases hb:(x <<< n).msb with
   |false=>rfl
   |true=>
    have h1:=(q6p _).1 hb
    have h2:(x <<< n).toNat<2147483648:=by
     rw [BitVec.toNat_shiftLeft,Nat.shiftLeft_eq];refine Nat.lt_of_le_of_lt (Nat.mod_le _ _) ?_;have h3:x.toNat * 2 ^ n<2 ^ (32 - (n+1)) * 2 ^ n:=Nat.mul_lt_mul_of_pos_right h (Nat.two_pow_pos n);rw [← Nat.pow_add,show 32 - (n+1)+n=31 by omega] at h3;exact h3
    omega
  rw [hm];simp only [Bool.false_eq_true,if_false,BitVec.xor_zero];rw [← BitVec.shiftLeft_add]
theorem zhd (x:BitVec 32):x=((x >>> 28) <<< 28) ^^^ ((x.setWidth 28).setWidth 32):=by
 apply BitVec.eq_of_getLsbD_eq;intro i hi;simp only [BitVec.getLsbD_xor,BitVec.getLsbD_shiftLeft,BitVec.getLsbD_ushiftRight,BitVec.getLsbD_setWidth];by_cases h:i<28
 ·simp [h,hi]
 ·simp [h,hi,show 28+(i - 28)=i by omega]
theorem qvg (x:BitVec 32) (n:Nat):crcN x n=wr 4 (x ^^^ (BitVec.ofNat 32 n <<< 28)):=by
 have hl:((x.setWidth 28).setWidth 32).toNat<2 ^ (32 - 4):=by
  simp only [BitVec.toNat_setWidth];exact Nat.lt_of_le_of_lt (Nat.mod_le _ _) (Nat.mod_lt _ (by decide))
 have hs:((x.setWidth 28).setWidth 32) <<< 4=x <<< 4:=by
  apply BitVec.eq_of_getLsbD_eq;intro i hi;simp only [BitVec.getLsbD_shiftLeft,BitVec.getLsbD_setWidth];by_cases h:i<4
  ·simp [h]
  ·simp [h,hi,show i - 4<28 by omega,show i - 4<32 by omega]
 have e:x ^^^ (BitVec.ofNat 32 n <<< 28)=(((x >>> 28) ^^^ BitVec.ofNat 32 n) <<< 28) ^^^ ((x.setWidth 28).setWidth 32):=by
  rw [BitVec.shiftLeft_xor_distrib,BitVec.xor_assoc,BitVec.xor_comm (BitVec.ofNat 32 n <<< 28),← BitVec.xor_assoc,← zhd x]
 rw [e,qpb,qjw 4 _ (by omega) hl,hs,crcN,rowT,BitVec.ofNat_toNat,BitVec.setWidth_eq,BitVec.xor_comm]
theorem q2l (m n:Nat) (x:BitVec 32):wr (m+n) x=wr m (wr n x):=by
 induction m with
 |zero=>simp [wr]
 |succ m ih=>rw [Nat.succ_add];simp only [wr,ih]
theorem q2h (c:UInt8):BitVec.ofNat 32 c.toNat <<< 24=(BitVec.ofNat 32 (c.toNat / 16) <<< 28) ^^^ (BitVec.ofNat 32 (c.toNat % 16) <<< 24):=by
 have key:∀ n:Fin 256,BitVec.ofNat 32 n.val <<< 24=(BitVec.ofNat 32 (n.val / 16) <<< 28) ^^^ (BitVec.ofNat 32 (n.val % 16) <<< 24):=by decide +kernel
 exact key ⟨c.toNat,UInt8.toNat_lt c⟩
theorem q8q (x:BitVec 32) (c:UInt8):crcP x c=wr 8 (x ^^^ (BitVec.ofNat 32 c.toNat <<< 24)):=by
 have hl:(BitVec.ofNat 32 (c.toNat % 16) <<< 24).toNat<2 ^ (32 - 4):=by
  have key:∀ n:Fin 16,(BitVec.ofNat 32 n.val <<< 24).toNat<2 ^ (32 - 4):=by decide +kernel
  exact key ⟨c.toNat % 16,Nat.mod_lt _ (by decide)⟩
 rw [show (8:Nat)=4+4 by rfl,q2l,q2h,← BitVec.xor_assoc,qpb 4 (x ^^^ _),qjw 4 _ (by omega) hl,← BitVec.shiftLeft_add,crcP,qvg,qvg]
theorem qww (x:BitVec 32):IntKind.u32.wrap (4294967295 - (x.toNat:Int))=((~~~x).toNat:Int):=by
 have h:=x.isLt;have e:(4294967295 - (x.toNat:Int))=(((~~~x).toNat:Nat):Int):=by rw [BitVec.toNat_not];omega
 rw [e];exact qfk _
theorem q4i (x:BitVec 32) (k n:Nat) (m:Int) (hm:m=((2 ^ n:Nat):Int)):IntKind.u32.wrap ((x.toNat:Int) * m)=((x <<< n).toNat:Int):=by
 rw [hm,← Int.natCast_mul,qeh,BitVec.toNat_shiftLeft,Nat.shiftLeft_eq]
theorem zdm (x:BitVec 32) (l:List UInt8) (st:List AObj) (hl:l.length<4294967281):qo E 47 [Wv x,Sv l] st fun r st'=>r=Wv (addP x l)∧st'=st:=by
 refine ze (q8 _) (qr Tryz.func47 rfl (Nat.le_of_ble_eq_true rfl) ?_);repeat' (first|apply qm|apply qu|apply qg|apply qh|apply ql|apply qi|(apply yj;exact rfl;exact rfl;exact qww _))
 refine ju (fun (k:Nat) s=>k≤l.length∧StA [(1,Sv l),(5,Wv ((l.take k).foldl crcP (~~~ x))),(6,Iv k)] (st++[]) [] s) (fun k=>l.length - k) 0 ⟨by omega,jd ⟨rfl,rfl,rfl,trivial⟩⟩ ?_;rintro k _ ⟨hk,t,rfl⟩;generalize hx:(l.take k).foldl crcP (~~~ x)=y;have hc:=UInt8.toNat_lt (l.getD k 0);repeat' (first|apply qm|apply qu|apply qg|apply qh|apply ql|apply qi|(apply qt;(iterate 3 exact rfl))|(apply qe;exact rfl;apply cd_d <;> intro h)|(apply jy;(iterate 3 exact rfl))|(apply xn;(iterate 3 exact rfl);exact cAs)|(apply qdb;exact rfl;exact rfl;(first|exact jv _|exact rfl);first|exact jv _|exact rfl)|apply qw|apply jg|apply q6|(apply qrc;(iterate 3 exact rfl);omega)|(apply qfm;exact rfl;exact rfl;exact q4i _ 0 24 _ rfl)|(apply yj;exact rfl;exact rfl;exact qww _))
 ·generalize nj:l.getD k 0=c at *
  generalize hz:y ^^^ (BitVec.ofNat 32 c.toNat <<< 24)=z;refine ju (fun (j:Nat) s=>j≤8∧StA [(1,Sv l),(5,Wv (wr j z)),(6,Iv k),(7,Iv j)] (st++[]) [] s) (fun j=>8 - j) 0 ⟨by omega,jd ⟨rfl,rfl,rfl,rfl,trivial⟩⟩ ?_;rintro j _ ⟨hj,t2,rfl⟩;generalize hq:wr j z=q;have hql:=q.isLt;repeat' (first|apply qm|apply qu|apply qg|apply qh|apply ql|apply qi|(apply qt;(iterate 3 exact rfl))|(apply qe;exact rfl;apply cd_d <;> intro h)|(apply zn;exact rfl;exact rfl;exact zb (by omega) (by omega))|(apply qdb;exact rfl;exact rfl;(first|exact jv _|exact rfl);first|exact jv _|exact rfl)|apply qw|apply jg|(apply qu1 (n:=2147483648);exact rfl;exact rfl;omega;exact zht (by omega))|(apply qfm;exact rfl;exact rfl;exact q4i _ 0 1 _ rfl))
  ·refine⟨j+1,⟨by omega,jd ⟨rfl,?_,rfl,rfl,trivial⟩⟩,by omega⟩
   refine congrArg Wv (?_:_=qa3 _);rw [hq];unfold qa3;rw [if_pos ((qxq q).2 (by omega))];rfl
  ·refine⟨j+1,⟨by omega,jd ⟨rfl,?_,rfl,rfl,trivial⟩⟩,by omega⟩
   refine congrArg Wv (?_:_=qa3 _);rw [hq];unfold qa3;rw [if_neg (fun h'=>absurd ((qxq q).1 h') (by omega))]
  ·have e:j=8:=by omega
   subst e;refine⟨k+1,⟨by omega,jd ⟨rfl,?_,rfl,trivial⟩⟩,by omega⟩;refine congrArg Wv (?_:q=_);rw [qb3 (by omega),List.foldl_append,hx,nj]
   show q=crcP y c
   rw [q8q,hz,hq]
 ·have e:k=l.length:=by omega
  subst e;refine qn rfl (zh rfl) ⟨congrArg Wv (?_:_=_),_,rfl⟩;unfold addP;rw [← hx,List.take_length]
theorem zdn (l:List UInt8) (st:List AObj) (hl:l.length<4294967281):qo E 22 [Sv l] st fun r st'=>r=Wv (addP 0 l)∧st'=st:=by
 refine ze (q8 _) (qr Tryz.func22 rfl (Nat.le_of_ble_eq_true rfl) ?_);repeat' (first|apply qm|apply qg|apply qh|apply ql|apply qi|apply q6|(apply qq;exact Tryz.call47;exact zdm 0 _ _ hl))
 exact qn rfl (zh rfl) ⟨rfl,_,rfl⟩
end Go.Proofs.YtapblfabkbdgcaaGreatDoor
namespace Go.Pl
open Go
def sp:Bool→qc→Bool
 | _,[]=>true
 |f,c::l=>(!f ||decide (c=32)) && sp (decide (c=10)) l
theorem qmk:∀ l,sp false l=sp true (past 10 l)
 | []=>rfl
 |c::l=>by
  by_cases h:c=10
  ·subst h;simp [sp,past,upto]
  ·have e:past 10 (c::l)=past 10 l:=by simp [past,upto,h]
   rw [e,← qmk l];simp [sp,h]
theorem q1p {l:qc} (h:l≠[]):sp true l=(decide ([32] <+: upto 10 l) && sp true (past 10 l)):=by
 cases l with
 |nil=>exact absurd rfl h
 |cons c r=>
  by_cases hc:c=10
  ·subst hc;simp [sp,upto]
  ·have e:past 10 (c::r)=past 10 r:=by simp [past,upto,hc]
   have e2:upto 10 (c::r)=c::upto 10 r:=by simp [upto,hc]
   rw [e,e2,← qmk];simp [sp,hc,eq_comm]
theorem qlk:∀ (n:Nat) (l:qc),l.length≤n→((∀ x∈zj l,[32] <+: x.1)↔sp true l=true)
 | 0,l,h=>by
  have:l=[]:=List.length_eq_zero_iff.1 (by omega);subst this
  simp [kv,sp]
 |n+1,l,h=>by
  by_cases hl:l=[]
  ·subst hl;simp [kv,sp]
  ·rw [vw hl,q1p hl,Bool.and_eq_true,← qlk n (past 10 l) (by have:=xi (c:=10) hl;omega)]
   simp only [List.mem_cons,forall_eq_or_imp,decide_eq_true_eq]
theorem qi4 (l:qc):(vn [32] l).2=sp true l:=by
 unfold vn;by_cases h:sp true l=true
 ·rw [if_pos ((qlk _ l (Nat.le_refl _)).2 h),h]
 ·rw [if_neg (fun h'=>h ((qlk _ l (Nat.le_refl _)).1 h'))]
  simp only [Bool.not_eq_true] at h;rw [h]
def qi7 (f:Bool) (l:qc):Bool:=match l.getLast? with|none=>f|some c=>decide (c=10)
theorem q6d (f:Bool) (c:UInt8) (l:qc):qi7 f (c::l)=qi7 (decide (c=10)) l:=by
 cases l with
 |nil=>simp [qi7]
 |cons b l=>
  unfold qi7;rw [List.getLast?_cons_cons]
  cases hb:(b::l).getLast? with
  |none=>simp at hb
  |some x=>rfl
theorem q1o:∀ (f:Bool) (l m:qc),sp f (l++m)=(sp f l && sp (qi7 f l) m)
 |f,[],m=>by simp [sp,qi7]
 |f,c::l,m=>by
  simp only [List.cons_append,sp];rw [q1o _ l m,q6d,Bool.and_assoc]
theorem qv2 (l:qc):qf7 l↔2≤l.length∧l.length≤50000∧l.getLast? = some 10∧sp true l=true:=by
 unfold qf7;rw [qi4]
theorem qd1:∀ (n u:Nat),u≤n→∀ c∈Lib.decDigits u,48≤c.toNat∧c.toNat≤57
 |n,u,hn,c,hc=>by
  by_cases h:u<10
  ·rw [Lib.decDigits_one h] at hc
   simp only [List.mem_singleton] at hc;subst hc;rw [UInt8.toNat_ofNat'];omega
  ·rw [y5 h,List.mem_append] at hc
   cases n with
   |zero=>omega
   |succ n=>
    rcases hc with hc|hc
    ·exact qd1 n (u / 10) (by omega) c hc
    ·exact qd1 n (u % 10) (by omega) c hc
theorem qli (n:Nat):Lib.itoa (n:Int)=Lib.decDigits n:=by
 unfold Lib.itoa;rw [if_neg (by omega)];simp
theorem zcs (n:Nat):∀ c∈Lib.itoa (n:Int),48≤c.toNat∧c.toNat≤57:=by
 rw [qli];exact qd1 n n (Nat.le_refl _)
theorem qy2 (u:Nat):Lib.decDigits u≠[]:=by
 intro h;have:=congrArg List.length h;rw [Lib.decDigits_length] at this;have:=Lib.nDigits_pos u;simp at *;omega
theorem qwg:∀ (a:Nat) (l m:qc) (b:Nat),Lib.parseUint10 a l = .ok b→Lib.parseUint10 a (l++m)=Lib.parseUint10 b m
 |a,[],m,b,h=>by
  simp only [Lib.parseUint10,Lib.NumEnd.ok.injEq] at h
  subst h;rfl
 |a,c::l,m,b,h=>by
  simp only [List.cons_append,Lib.parseUint10] at h ⊢;split at h
  ·rename_i hd
   rw [if_pos hd];split at h
   ·cases h
   ·rename_i h1
    rw [if_neg h1];split at h
    ·cases h
    ·rename_i h2
     rw [if_neg h2];exact qwg _ l m b h
  ·cases h
theorem qwi:∀ (n u:Nat),u≤n→u<1000000000000000000→Lib.parseUint10 0 (Lib.decDigits u) = .ok u
 |n,u,hn,hu=>by
  have key:∀ (a d:Nat),a<100000000000000000→d<10→Lib.parseUint10 a (Lib.decDigits d) = .ok (a * 10+d):=by
   intro a d ha hd;have e:(UInt8.ofNat (48+d)).toNat=48+d:=by rw [UInt8.toNat_ofNat'];omega
   rw [Lib.decDigits_one hd];simp only [Lib.parseUint10,e];rw [if_pos (by omega),if_neg (by omega),if_neg (by omega)];congr 1;omega
  by_cases h:u<10
  ·have:=key 0 u (by omega) h
   simpa using this
  ·cases n with
   |zero=>omega
   |succ n=>
    rw [y5 h,qwg 0 _ _ (u / 10) (qwi n (u / 10) (by omega) (by omega)),key _ _ (by omega) (by omega)];congr 1;omega
theorem q78 {n:Nat} (h:n<1000000000000000000):Lib.atoiAll (Lib.itoa (n:Int)) = .ok (n:Int):=by
 have hp:=qwi n n (Nat.le_refl _) h;have hd:=qd1 n n (Nat.le_refl _);rw [qli]
 cases hl:Lib.decDigits n with
 |nil=>exact absurd hl (qy2 n)
 |cons c r=>
  rw [hl] at hp hd;have hc:=hd c (by simp);simp only [Lib.atoiAll];have h1:¬ (c.toNat=43∨c.toNat=45):=by omega
  rw [if_neg h1];have hm:Lib.parseMag (c::r) = .ok n:=by unfold Lib.parseMag;rw [if_neg (by simp)];exact hp
  rw [hm];have h2:¬ c.toNat=45:=by omega
  simp only [h2,not_false_iff,true_and,false_and,if_false];rw [if_neg (by omega)]
theorem q0f {n:Nat} (h1:1≤n) (h2:n≤50000):x7 (Lib.itoa (n:Int))=n:=by
 have:=q6t (q78 (n:=n) (by omega));rw [if_pos ⟨rfl,by omega,by omega⟩] at this;omega
theorem qj8 {l:qc} {n:Nat} (h:x7 l=n) (hn:1≤n):l=Lib.itoa (n:Int):=by
 unfold x7 at h;split at h
 ·split at h
  ·rename_i v _ hv
   have:v=(n:Int):=by omega
   rw [← this,hv.1]
  ·omega
 ·omega
end Go.Pl
namespace Go.Proofs.YtapblfabkbdgcaaGreatDoor
open Go Go.Pl
def yz (n:Nat) (fig:qc):qc:=wv++(Lib.itoa n++32::fig)
theorem zcm (n:Nat) (fig:qc):qxs n fig=yz n fig++[10]:=by simp [qxs,yz,wv]
theorem qss (n:Nat) {c:UInt8} (h:¬ (48≤c.toNat∧c.toNat≤57)):c∉Lib.itoa (n:Int):=fun hc=>h (zcs n c hc)
theorem qnd {f:qc} (h:qbu f) {c:UInt8} (hc:c∉hexL):c∉f:=fun h'=>hc (h c h')
theorem qfc (n:Nat) {fig:qc} (h:qbu fig):10∉yz n fig:=by
 unfold yz;simp only [List.mem_append,List.mem_cons,not_or];exact⟨by decide,qss n (by decide),by decide,qnd h (by decide)⟩
theorem q7h (l:qc):Lib.trimPrefix (wv++l) wv=l:=by
 rw [qd6 (List.prefix_append _ _),List.drop_left]
structure zeu (n:Nat) (fig body:qc):Prop where
 two:2≤n
 most:n≤50000
 len:body.length=n
 good:qf7 body
 figs:fig.length=8
 hex:qbu fig
def recL (n:Nat) (fig body:qc):qc:=yz n fig++10::(body++qhq n)
theorem zg1 (l:qc):recF l=recL l.length (sumF l) l:=by
 unfold recF recL;rw [zcm];simp
theorem qwn {l a b:qc} (h:l <+: a++b):l <+: a∨∃ r,l=a++r∧r <+: b:=by
 rcases Nat.le_total l.length a.length with hl|hl
 ·exact .inl (List.prefix_of_prefix_length_le h (List.prefix_append _ _) hl)
 ·obtain⟨r,hr⟩:=List.prefix_of_prefix_length_le (List.prefix_append a b) h hl
  exact .inr ⟨r,hr.symm,by rw [← hr] at h;exact (List.prefix_append_right_inj a).1 h⟩
theorem qui {a b:qc} {c:UInt8} (h:a <+: b) (hc:c∉b):c∉a:=fun h'=>hc (h.subset h')
theorem q62 (f:qc) (hl:f.length≤8) (hx:qbu f):∃ g:qc,g.length=8∧qbu g∧f <+: g:=
 ⟨f++List.replicate (8 - f.length) 48,by simp;omega,fun c hc=>by
  rw [List.mem_append,List.mem_replicate] at hc;rcases hc with hc | ⟨_,rfl⟩
  ·exact hx c hc
  ·decide,List.prefix_append _ _⟩
theorem qup:∀ (k:Nat),sp false (List.replicate k 97++[10])=true
 | 0=>by simp [sp]
 |k+1=>by rw [List.replicate_succ,List.cons_append];simp only [sp];exact by simpa using qup k
theorem qyw {n:Nat} {r:qc} (hn:n≤50000) (d6:r.length<n) (h2:2≤n) (hp:qom r ((n:Int) - r.length)=2):∃ body:qc,body.length=n∧qf7 body∧r <+: body:=by
 unfold qom at hp;split at hp
 ·rename_i h
  obtain⟨hs,hfr⟩:=h;rw [qi4] at hs;by_cases hf:r=[]∨r.getLast? = some 10
  ·have hk:r.length+2≤n:=by
    rcases Nat.lt_or_ge (r.length+1) n with h|h
    ·omega
    ·exact absurd ⟨hf,by omega⟩ hfr
   refine⟨r++(32::(List.replicate (n - r.length - 2) 97++[10])),by simp;omega,?_,List.prefix_append _ _⟩;rw [qv2];refine⟨by simp;omega,by simp;omega,by simp [List.getLast?_append,List.getLast?_cons],?_⟩;rw [q1o,hs];simp only [sp,Bool.true_and];have:=qup (n - r.length - 2)
   simpa using this
  ·refine⟨r++(List.replicate (n - r.length - 1) 97++[10]),by simp;omega,?_,List.prefix_append _ _⟩
   rw [qv2];refine⟨by simp;omega,by simp;omega,by simp [List.getLast?_append],?_⟩;rw [q1o,hs]
   have e:qi7 true r=false:=by
    unfold qi7
    cases hq:r.getLast? with
    |none=>exact absurd (.inl (List.getLast?_eq_none_iff.1 hq)) hf
    |some c=>
     refine decide_eq_false fun h=>hf (.inr ?_);rw [hq,h]
   rw [e,qup];rfl
 ·simp at hp
theorem qgt {n:Nat} (h2:2≤n) (hn:n≤50000):∃ body:qc,body.length=n∧qf7 body:=by
 obtain⟨b,h1,h3,_⟩:=qyw (n:=n) (r:=[]) hn (by simp;omega) h2 (by
  unfold qom;rw [qi4]
  rw [if_pos ⟨rfl,by rintro⟨_,h⟩;simp at h;omega⟩])
 exact⟨b,h1,h3⟩
theorem qg0 {a b c:qc} (h:a <+: b):a <+: b++c:=h.trans (List.prefix_append _ _)
theorem qgp {n:Nat} {fig body l:qc} (h:l <+: yz n fig):l <+: recL n fig body∧l.length<(recL n fig body).length:=by
 refine⟨qg0 h,?_⟩;have:=h.length_le;unfold recL;simp;omega
theorem zgp {l:qc} (h:(qba l).1=2):∃ n fig body,zeu n fig body∧l <+: recL n fig body∧l.length<(recL n fig body).length:=by
 unfold qba at h;split at h
 ·rename_i f9
  split at h
  ·rename_i ho
   generalize hr:past 10 l=r at *;have hl:=qab f9;rw [hr] at hl;generalize hu:upto 10 l=u at *
   -- the first line
   have hop:u=yz (xh u).1 (xh u).2.1∧2≤(xh u).1∧(xh u).1≤50000∧(xh u).2.1.length=8∧qbu (xh u).2.1:=by
    simp only [xh,decide_eq_true_eq] at ho ⊢;obtain⟨o1,o2,o3,o4,o5⟩:=ho;refine⟨?_,o3,qfe _,o4,o5⟩;obtain⟨t,rfl⟩:=o1;rw [q7h] at *;have:=qj8 rfl (Nat.le_trans (by decide) o3);unfold yz;rw [← this,← qab o2]
   generalize (xh u).1=n at *;generalize (xh u).2.1=fig at *;obtain⟨rfl,h2,hn,hf,hx⟩:=hop;split at h
   ·rename_i d6
    obtain⟨body,b1,b2,b3⟩:=qyw hn d6 h2 h;refine⟨n,fig,body,⟨h2,hn,b1,b2,hf,hx⟩,?_,?_⟩
    ·rw [hl]
     unfold recL;rw [List.prefix_append_right_inj,List.cons_prefix_cons];exact⟨rfl,qg0 b3⟩
    ·rw [hl]
     unfold recL;have:=b3.length_le;have:=q1t n;simp;omega
   ·rename_i cw
    split at h
    ·rename_i hg
     have c8:(r.take n).length=n:=by simp;omega
     refine⟨n,fig,r.take n,⟨h2,hn,c8,hg,hf,hx⟩,?_⟩;unfold q31 at h;rw [c8] at h;split at h
     ·rename_i hc
      rw [hl];unfold recL;constructor
      ·rw [List.prefix_append_right_inj,List.cons_prefix_cons]
       refine⟨rfl,?_⟩
       conv=>lhs;rw [← List.take_append_drop n r]
       rw [List.prefix_append_right_inj];exact hc.2
      ·have:=hc.1
       simp at this ⊢;omega
     ·split at h <;> simp at h
    ·simp at h
  ·simp at h
 ·rename_i f9
  split at h
  ·rename_i ho
   unfold qij at ho;split at ho
   ·rename_i hb
    obtain⟨t,rfl⟩:=hb;have ed:(wv++t).drop 7=t:=by rw [show (7:Nat)=wv.length by rfl,List.drop_left]
    rw [ed] at ho;obtain⟨o1,o2,o3,o4⟩:=of_decide_eq_true ho;by_cases h32:32∈t
    ·have rf:2≤x7 (upto 32 t):=by
      rcases Nat.lt_or_ge (x7 (upto 32 t)) 2 with h|h
      ·exact absurd ⟨h32,h⟩ o1
      ·exact h
     obtain⟨fig,f1,f2,f3⟩:=q62 _ o3 o4;obtain⟨body,b1,b2⟩:=qgt rf (qfe _);refine⟨_,fig,body,⟨rf,qfe _,b1,b2,f1,f2⟩,qgp ?_⟩;unfold yz;rw [List.prefix_append_right_inj]
     conv=>lhs;rw [qab h32]
     rw [qj8 (l:=upto 32 t) rfl (by omega)];rw [q0f (by omega) (qfe _),List.prefix_append_right_inj,List.cons_prefix_cons];exact⟨rfl,f3⟩
    ·rw [qcc h32] at o2
     by_cases ht:t=[]
     ·subst ht
      obtain⟨body,b1,b2⟩:=qgt (n:=2) (by omega) (by omega);refine⟨2,List.replicate 8 48,body,⟨by omega,by omega,b1,b2,by simp,by decide⟩,qgp ?_⟩;unfold yz;simp
     ·have db:1≤x7 t:=by
       rcases Nat.eq_zero_or_pos (x7 t) with h|h
       ·exact absurd ⟨ht,h⟩ o2
       ·exact h
      have d5:=qfe t;have pb:=qj8 (l:=t) rfl db;generalize x7 t=m at *;subst pb;by_cases hm:m=1
      ·subst hm
       obtain⟨body,b1,b2⟩:=qgt (n:=10) (by omega) (by omega);refine⟨10,List.replicate 8 48,body,⟨by omega,by omega,b1,b2,by simp,by decide⟩,qgp ?_⟩;unfold yz;rw [List.prefix_append_right_inj];have e1:Lib.itoa ((1:Nat):Int)=[49]:=by rw [qli,Lib.decDigits_one (by decide)];rfl
       have e2:Lib.itoa ((10:Nat):Int)=[49,48]:=by rw [qli,y5 (by decide),Lib.decDigits_one (by decide),Lib.decDigits_one (by decide)];rfl
       rw [e1,e2];exact⟨_,rfl⟩
      ·obtain⟨body,b1,b2⟩:=qgt (n:=m) (by omega) (by omega)
       refine⟨m,List.replicate 8 48,body,⟨by omega,by omega,b1,b2,by simp,by decide⟩,qgp ?_⟩;unfold yz;rw [List.prefix_append_right_inj];exact List.prefix_append _ _
   ·rename_i hb
    have hp:=of_decide_eq_true ho;obtain⟨body,b1,b2⟩:=qgt (n:=2) (by omega) (by omega);refine⟨2,List.replicate 8 48,body,⟨by omega,by omega,b1,b2,by simp,by decide⟩,qgp ?_⟩;unfold yz;exact qg0 hp
  ·simp at h
theorem q2s (s:BitVec 32):qbu (vc s 8):=by
 intro c hc;simp only [vc,List.mem_map] at hc;obtain⟨j,_,rfl⟩:=hc;unfold figP;have h:=Go.Av.and15_lt (s >>> (4 * (7 - j)));generalize ((s >>> (4 * (7 - j))) &&& BitVec.ofInt 32 15).toNat=k at h;have key:∀ i:Fin 16,([48,49,50,51,52,53,54,55,56,57,97,98,99,100,101,102]:qc).getD i.val 0∈hexL:=by decide
 exact key ⟨k,h⟩
theorem ziy {l:qc} (h1:10∈l→(xh (upto 10 l)).2.2=false) (h2:10∉l→qij l=false):qba l=(3,[],0):=by
 unfold qba;by_cases h:10∈l
 ·rw [if_pos h,if_neg (by rw [h1 h];simp)]
 ·rw [if_neg h,if_neg (by rw [h2 h];simp)]
theorem R2 {l:qc} (hl:l.length≤7) (h:¬ l <+: wv):qba l=(3,[],0):=by
 refine ziy (fun f9=>decide_eq_false fun h'=>?_) (fun f9=>?_)
 ·have:=h'.1.length_le
  have:=qdq f9;have e:wv.length=7:=rfl;omega
 ·unfold qij
  by_cases hb:wv <+: l
  ·have:=hb.eq_of_length_le hl
   exact absurd (this▸List.prefix_refl _) h
  ·rw [if_neg hb];exact decide_eq_false h
theorem zhk {p:UInt8→Bool} (s:qc):s.take (s.takeWhile p).length=s.takeWhile p:=by
 induction s with
 |nil=>rfl
 |cons b s ih=>
  by_cases h:p b=true
  ·rw [List.takeWhile_cons_of_pos h];simp [ih]
  ·rw [List.takeWhile_cons_of_neg h];rfl
theorem zjf {p:UInt8→Bool} {l m:qc} (hm:m <+: l) (h:∀ c∈m,p c=true):m.length≤(l.takeWhile p).length:=by
 obtain⟨r,rfl⟩:=hm;rw [List.takeWhile_append_of_pos h];simp
end Go.Proofs.YtapblfabkbdgcaaGreatDoor
namespace Go.Proofs.YtapblfabkbdgcaaGreatDoor
open Go Go.Av Go.RowKit Go.Proofs Go.Pl
structure zee (l S:qc) (K n:Nat):Prop where
 hl:l=wv++S
 hK:(S.takeWhile qse).length=K
 hD:S.take K=Lib.itoa (n:Int)
 h1:1≤n
 h2:n≤50000
theorem zee.split {l S:qc} {K n:Nat} (A:zee l S K n) (h:K<S.length):S=Lib.itoa (n:Int)++S.getD K 0::S.drop (K+1)∧qse (S.getD K 0)=false:=by
 have e:S=S.take K++S.getD K 0::S.drop (K+1):=by
  conv=>lhs;rw [← List.take_append_drop K S]
  rw [List.drop_eq_getElem_cons h];congr 2;simp [List.getD,h]
 refine⟨by rw [← A.hD];exact e,?_⟩
 cases hc:qse (S.getD K 0) with
 |false=>rfl
 |true=>
  have hp:S.take (K+1) <+: S:=List.take_prefix _ _
  have:=zjf (p:=qse) hp (fun c lq=>by
   rw [qb3 h,List.mem_append,List.mem_singleton] at lq;rcases lq with lq|rfl
   ·rw [← A.hK,zhk] at lq
    have ha:=List.all_takeWhile (p:=qse) (l:=S);rw [List.all_eq_true] at ha;exact ha c lq
   ·exact hc)
  rw [A.hK] at this;simp at this;omega
end Go.Proofs.YtapblfabkbdgcaaGreatDoor
namespace Go.Av
open Go Go.RowKit
def StE (L:List (Nat×AV)) (st loc:List AObj) (s:AS):Prop:=∃ t ext,s=⟨puts t L,((st++loc)++ext)++[],[]⟩
theorem y9 {t:Nat→AV} {L:List (Nat×AV)} {st loc loc' ext new:List AObj} (h:HasL t L) (e:loc'=loc):StE L st loc ⟨t,((st++loc')++ext)++new,[]⟩:=
 ⟨t,ext++new,by rw [qhx h,e];simp⟩
theorem qci {t:Nat→AV} {L:List (Nat×AV)} {st loc st':List AObj} (h:HasL t L) (e:st'=st++loc):StE L st loc ⟨t,st',[]⟩:=
 ⟨t,[],by rw [qhx h,e];simp⟩
theorem yl (st loc ext new:List AObj):∃ x,((st++loc)++ext)++new=st++x:=⟨loc++ext++new,by simp⟩
theorem qad {st loc ext new:List AObj} {k:Nat} {x:AObj} (h:loc[k]? = some x):(((st++loc)++ext)++new)[st.length+k]? = some x:=by
 have hk:=lt_of_getElem? h;rw [List.append_assoc,List.append_assoc,List.getElem?_append_right (Nat.le_add_right _ _),Nat.add_sub_cancel_left,List.getElem?_append_left hk];exact h
theorem qdo {st loc ext new:List AObj} {k:Nat} (x:AObj) (hk:k<loc.length):(((st++loc)++ext)++new).set (st.length+k) x=((st++loc.set k x)++ext)++new:=by
 rw [List.append_assoc,List.append_assoc,List.set_append_right _ _ (Nat.le_add_right _ _),Nat.add_sub_cancel_left,List.set_append_left _ _ hk];simp
theorem qjm {G:Gh} {sz:Nat} {xs:List AV} {tip:Option Nat} {v:Value} (h:Rel G (.sl sz xs tip) v):Rel G (.sl sz xs none) v:=by
 cases h with
 |sl0 _ _ base cap ht=>exact .sl0 sz none base cap (by simp)
 |sl _ _ _ b off cap pub hp hw c8 hr ht i8=>exact .sl sz xs none b off cap pub hp hw c8 hr (fun t ht=>by simp at ht) i8
theorem qbb {G:Gh} {sz:Nat} {v:Value} (h:Rel G zy v):Rel G (.sl sz [] none) v:=by
 cases h
 exact .sl0 sz none none 0 (by simp)
section
variable {E : Env} {rd : Option Nat} {N : Nat} {ops : Array Oper} {K : AS → Prop} {s : AS} {rest : List Oper} {d : Option Tmp} {T : TypeId} {p : String} {af : Array Edge}
theorem wu {fn:Func} {r r':AV} (h:ARes E fn s r) (hw:∀ (G:Gh) (v:Value),Rel G r v→Rel G r' v):ARes E fn s r':=
 ⟨fun B0 w0 G a w hL hI=>let ⟨v,h1,h2⟩:=h.run B0 w0 G a w hL hI;⟨v,h1,hw G v h2⟩⟩
theorem qrm {fn:Func} {t:Tmp} {sz:Nat} {xs:List AV} {tip:Option Nat} (hr:fn.results = #[.tmp t]) (hx:qj fn.ntmps s (.tmp t) = .sl sz xs tip):ARes E fn s (.sl sz xs none):=
 wu (zh hr) fun G v h=>by rw [hx] at h;exact qjm h
theorem qe3 {x y:Operand} {t u T':TypeId} {sz bytes k n m:Nat} {xs ys zs:List AV} {tip:Option Nat} {st loc ext new:List AObj} (hs:s.st=((st++loc)++ext)++new) (hx:qj N s x = .sl sz xs (some (st.length+k))) (hy:qj N s y = .sl sz ys tip) (ho:loc[k]? = some (.tip n sz T')) (hn:xs.length=n)
  (ht:E.P.underlying t=some (.slice T')) (hu:E.P.underlying u=some (.slice T')) (hT:w7 E.P T' sz bytes) (e8:jr (flat ys)=true) (hm:ys.length=m) (l9:n+m≤maxLen) (hb:(n+m) * bytes≤140737488355328) (hz:xs++ys=zs)
  (h:AOps E rd N ops rest K (AS.put ⟨s.t,((st++loc.set k (.tip (n+m) sz T'))++ext)++new,s.df⟩ d (.sl sz zs (some (st.length+k))))):AOps E rd N ops (⟨d,.call ⟨.builtin .append,#[x,y],#[t,u]⟩,T,p,af,none⟩::rest) K s:=by
 subst hz;have hk:=lt_of_getElem? ho;exact qo0 hx hy (by rw [hs];exact qad ho) hn ht hu hT e8 hm l9 hb (by rw [hs,qdo _ hk];exact h)
theorem qmc {x:Operand} {t:TypeId} {sz:Nat} {agg:Bool} {st loc ext new:List AObj} {k ver off:Nat} {T':TypeId} {cs:List AV} {r:AV} (hs:s.st=((st++loc)++ext)++new) (hx:qj N s x = .bx (st.length+k) ver off) (ho:loc[k]? = some (.cells ver T' cs)) (ht:tyOf E.P t=some (sz,agg)) (hr:js sz agg off cs=some r)
  (h:AOps E rd N ops rest K (s.put d r)):AOps E rd N ops (⟨d,.load t x,T,p,af,none⟩::rest) K s:=
 kf hx (by rw [hs];exact qad ho) ht hr h
end
end Go.Av
namespace Go.Pl
open Go
def qz (l:qc):List qc:=
 if h:10∈l then upto 10 l::qz (past 10 l) else [l]
 termination_by l.length
 decreasing_by exact xi (fun e=>by rw [e] at h;simp at h)
theorem xz {l:qc} (h:10∈l):qz l=upto 10 l::qz (past 10 l):=by rw [qz,dif_pos h]
theorem x2 {l:qc} (h:10∉l):qz l=[l]:=by rw [qz,dif_neg h]
theorem q4y:∀ (n:Nat) (l:qc),l.length≤n→Lib.splitK [10] 0 (Lib.count l [10]) l=qz l
 |n,l,hn=>by
  by_cases h:10∈l
  ·have hi:=qsd 10 l h
   have b8:l≠[]:=fun e=>by rw [e] at h;simp at h
   have d6:=xi (c:=10) b8;rw [xz h,Lib.count_hit (i:=(upto 10 l).length) (by simp) hi,Nat.add_comm,Lib.splitK];rw [if_neg (by rw [hi];simp),hi]
   cases n with
   |zero=>exact absurd (List.length_eq_zero_iff.1 (by omega)) b8
   |succ n=>
    have:=q4y n (past 10 l) (by omega);simp only [Int.toNat_natCast,Nat.add_zero,List.length_cons,List.length_nil,Nat.zero_add,qjr];rw [show List.drop ((upto 10 l).length+1) l=past 10 l from rfl,this]
  ·have hi:Lib.index l [10] = -1:=by
    have:=Lib.index_ge l [10];have h2:¬ 0≤Lib.index l [10]:=fun h'=>h ((qcw l 10).1 h');omega
   rw [x2 h,Lib.count_miss hi];rfl
theorem qbo:∀ (n:Nat) (l:qc),l.length≤n→(qz l).length≤l.length+1
 |n,l,hn=>by
  by_cases h:10∈l
  ·have b8:l≠[]:=fun e=>by rw [e] at h;simp at h
   have d6:=xi (c:=10) b8;rw [xz h]
   cases n with
   |zero=>exact absurd (List.length_eq_zero_iff.1 (by omega)) b8
   |succ n=>
    have:=qbo n (past 10 l) (by omega);simp only [List.length_cons];omega
  ·rw [x2 h];simp
theorem qgz:∀ (n:Nat) (l:qc),l.length≤n→∀ x∈qz l,x.length≤l.length∧10∉x
 |n,l,hn,x,hx=>by
  by_cases h:10∈l
  ·have b8:l≠[]:=fun e=>by rw [e] at h;simp at h
   have d6:=xi (c:=10) b8;rw [xz h,List.mem_cons] at hx;rcases hx with rfl|hx
   ·exact⟨vk 10 l,qa9 10 l⟩
   ·cases n with
    |zero=>exact absurd (List.length_eq_zero_iff.1 (by omega)) b8
    |succ n=>
     have:=qgz n (past 10 l) (by omega) x hx;exact⟨by omega,this.2⟩
  ·rw [x2 h,List.mem_singleton] at hx
   subst hx;exact⟨Nat.le_refl _,h⟩
end Go.Pl
namespace Go.Proofs.YtapblfabkbdgcaaGreatDoor
open Go Go.Av Go.RowKit Go.Proofs Go.Pl
theorem qmm {f:FuncId} {st:List AObj} {args:List AV} {vals:Array Value} {xs:List qc} {T:TypeId} (ha:args=vals.toList.map .v) (b8:xs≠[])
  (h:∀ B0 w0 w,E.L B0 w0→Below B0 w0 w→Calls E.P f vals w fun e w'=>e = .returned (.slice (some ⟨w.heap.size,0,none⟩) xs.length xs.length)∧w'=w.alloc (.cells (xs.map fun l=>Value.string ⟨l.toArray⟩).toArray T)) :
  qo E f args st fun r st'=>r = .sl 1 (xs.map fun l=>Sv l) none∧st'=st:=by
 subst ha;refine⟨fun B0 w0 G vs w hL hA hR=>?_⟩
 have hv:vs=vals:=by
  have hs:vs.size=vals.size:=by have:=hR.1;simpa using this.symm
  apply Array.ext hs;intro i h1 h2;have:=hR.2 i (.v vals[i]) vs[i] (by simp [h2]) (by simp [h1]);generalize vs[i]=y at this
  cases this
  rfl
 subst hv;refine (h B0 w0 w hL hA.below).mono ?_;rintro e w' ⟨rfl,rfl⟩;obtain⟨d5,hA'⟩:=hA.newPub T (xs.map fun l=>Value.string ⟨l.toArray⟩).toArray (0,0) (xs.map fun l=>Value.string ⟨l.toArray⟩) (fun i y hy=>by simpa using hy);refine⟨_,_,_,st,rfl,d5,hA',?_,rfl,rfl⟩
 have i3:flat (xs.map fun l=>Sv l)=xs.map fun l=>Sv l:=by
  clear b8 h d5 hA'
  induction xs with
  |nil=>rfl
  |cons a xs ih=>rw [List.map_cons,qa5,ih];rfl
 have:=Rel.sl (G:=G.publish w.heap.size (xs.map fun l=>Value.string ⟨l.toArray⟩)) 1 (xs.map fun l=>Sv l) none w.heap.size 0 xs.length (xs.map fun l=>Value.string ⟨l.toArray⟩) (by simp [Gh.publish]) (fun x hx=>by
  simp only [List.mem_map] at hx;obtain⟨l,_,rfl⟩:=hx
  rfl) (by rw [i3];simp) (fun i x y h1 h2=>by
  rw [i3,List.getElem?_map] at h1;rw [Nat.zero_add,List.getElem?_map] at h2
  cases hx:xs[i]? with
  |none=>rw [hx] at h1;simp at h1
  |some l=>
   rw [hx] at h1 h2;simp at h1 h2;subst h1;subst h2
   exact .v _) (fun t ht=>by simp at ht) (by simp)
 simpa using this
theorem zau (l:List UInt8) (st:List AObj) (hl:l.length<4294967281):qo E 143 [Sv l,Sv [10]] st fun r st'=>r = .sl 1 ((qz l).map fun x=>Sv x) none∧st'=st:=by
 have hd:=Lib.splitB_data ⟨#[10]⟩ 0 (Lib.countB ⟨l.toArray⟩ ⟨#[10]⟩) ⟨l.toArray⟩;have hs:Lib.splitK [10] 0 (Lib.count l [10]) l=qz l:=q4y _ l (Nat.le_refl _);have hn:=Lib.splitB_all ⟨#[10]⟩ (by simp [ByteArray.size]) 0 _ ⟨l.toArray⟩ rfl;have hd2:(Lib.splitB ⟨#[10]⟩ 0 (Lib.countB ⟨l.toArray⟩ ⟨#[10]⟩) ⟨l.toArray⟩).map (·.data.toList)=qz l:=hd.trans hs;have c8:(qz l).length=Lib.countB ⟨l.toArray⟩ ⟨#[10]⟩+1:=by rw [← hd2,List.length_map,hn]
 refine qmm (T:=9) (vals:= #[.string ⟨l.toArray⟩,.string ⟨#[10]⟩]) rfl (fun e=>by rw [e] at c8;simp at c8) fun _ _ w hL hb=>(Tryz.strings_Split_shaped ⟨l.toArray⟩ ⟨#[10]⟩ w (hL w hb).shaped (by simpa [ByteArray.size] using hl) (by simp [ByteArray.size])).mono fun e w' ⟨h1,h2⟩=>?_;refine⟨by rw [h1,c8],?_⟩;rw [h2,← hd2,List.map_map];rfl
end Go.Proofs.YtapblfabkbdgcaaGreatDoor
namespace Go.Av
open Go Go.RowKit
section
variable {E : Env} {N : Nat} {ops : Array Oper} {K : AS → Prop} {s : AS} {rest : List Oper} {d : Option Tmp} {T : TypeId} {p : String} {af : Array Edge}
theorem qrk {x:Operand} {t:TypeId} {sz:Nat} {agg:Bool} {o ver off:Nat} {T':TypeId} {cs:List AV} {r:AV} (hx:qj N s x = .bx o ver off) (ho:s.st[o]? = some (.cells ver T' cs)) (ht:tyOf E.P t=some (sz,agg)) (hr:js sz agg off cs=some r)
  (h:AQ E N ops rest K (s.put d r)):AQ E N ops (⟨d,.load t x,T,p,af,none⟩::rest) K s:=by
 refine qdc rfl nofun fun B0 w0 G a w _ hI=>?_;have he:=hI.eval_of hx;generalize hv:a.eval x=v at he
 cases he with
 |bx _ _ _ b hn r7 hb=>
  obtain⟨_,h1,h2,h3,c,h4,h5,h6⟩:=hI.agree.ob o _ ho;have hb:=hb h1;subst hb
  have d6:(G.ob o).blk<w.heap.size:=by
   rcases Nat.lt_or_ge (G.ob o).blk w.heap.size with h'|h'
   ·exact h'
   ·rw [Array.getElem?_eq_none h'] at h4;simp at h4
  -- the value is read out of the cells, whatever is drawn behind them
  have key:∀ w',Below w.heap.size w w'→∃ v,(loadVar t ⟨(G.ob o).blk,off,none⟩).run E.P w' = .ok v w'∧Rel G r v:=fun w' l7=>by
   have h4':w'.heap[(G.ob o).blk]? = some (.cells c T' (0,0)):=by rw [l7.block _ d6];exact h4
   exact qaf (w:=w') (G:=G) (b:=(G.ob o).blk) (off:=off) (off':=off) ht (fun i x hx hi=>by
    obtain⟨y,hy⟩:=v4 hx (Nat.le_of_eq h5);refine⟨y,?_,h6 i x y hx hy⟩
    simp [World.cell?,h4',show off+(i - off)=i by omega,hy]) hr
  have t8:∀ w',Below w.heap.size w w'→∀ v,(loadVar t ⟨(G.ob o).blk,off,none⟩).run E.P w = .ok v w→(loadVar t ⟨(G.ob o).blk,off,none⟩).run E.P w' = .ok v w':=fun w' l7 v dj=>by
   obtain⟨i1,i2⟩:=kw ht w;obtain⟨j1,j2⟩:=kw ht w';have hc:∀ k,w'.cell? ⟨(G.ob o).blk,k,none⟩=w.cell? ⟨(G.ob o).blk,k,none⟩:=fun k=>by simp [World.cell?,l7.block _ d6]
   obtain⟨v',rv,_⟩:=key w' l7;rw [rv];congr 1
   cases agg with
   |false=>
    simp only [js,cond_false] at hr;obtain⟨y,hy⟩:=v4 hr (Nat.le_of_eq h5);have e1:w.cell? ⟨(G.ob o).blk,off,none⟩=some y:=by simp [World.cell?,h4,hy]
    have e2:w'.cell? ⟨(G.ob o).blk,off,none⟩=some y:=by rw [hc,e1]
    simp [loadVar,i2,run_load,e1] at dj;simp [loadVar,j2,run_load,e2] at rv
    rw [← rv,dj]
   |true=>
    simp only [js,cond_true] at hr
    cases r8:Nat.ble (off+sz) cs.length with
    |false=>rw [r8] at hr;simp at hr
    |true=>
     have d5:off+sz≤cs.length:=Nat.le_of_ble_eq_true r8
     have e1:∀ j,j<sz→w.cell? ⟨(G.ob o).blk,off+j,none⟩=some (c.getD (off+j) undef):=fun j hj=>by
      have:off+j<c.size:=by omega
      simp [World.cell?,h4,this]
     have e2:∀ j,j<sz→w'.cell? ⟨(G.ob o).blk,off+j,none⟩=some (c.getD (off+j) undef):=fun j hj=>by rw [hc,e1 j hj]
     have l1:=run_loadCells (P:=E.P) (w:=w) ⟨(G.ob o).blk,off,none⟩ sz (fun j=>c.getD (off+j) undef) (fun j hj=>by rw [Addr.add_lit];exact e1 j hj);have l2:=run_loadCells (P:=E.P) (w:=w') ⟨(G.ob o).blk,off,none⟩ sz (fun j=>c.getD (off+j) undef) (fun j hj=>by rw [Addr.add_lit];exact e2 j hj);simp [loadVar,i1,i2,l1] at dj;simp [loadVar,j1,j2,l2] at rv;rw [← rv,dj]
  obtain⟨v,a8,hR⟩:=key w (Below.refl _ _);exact⟨v,r,fun w' l7=>by simp only [execOp,hv,Instr.loadAt,Instr.sureAddr];simp [t8 w' l7 v a8],hR,h⟩
theorem qpw {f:FuncId} {xs:Array Operand} {ts:Array TypeId} {args:List AV} {r:AV} {v:Value} (hok:zef E) (a8:∀ vs w,(callFunc f vs).run E.P w = .ok (.enter f vs) w)
  (gn:xs.toList.map (qj N s)=args) (hp:∀ x∈args,Pure x) (hs:Sure r v) (hpr:∀ G,Rel G r v) (hc:qo E f args [] fun a st1=>a=r∧st1=[])
  (h:AQ E N ops rest K (s.put d r)):AQ E N ops (⟨d,.call ⟨.value (.func f),xs,ts⟩,T,p,af,none⟩::rest) K s:=by
 refine⟨fun B0 w0 G a w hL hI Q hQ=>?_⟩;refine⟨fun _ _ _ _=>trivial,?_⟩;simp only [Region.wanted];refine⟨v,fun w' l7=>?_,?_⟩
 ·have hr:(execOp a.eval ⟨d,.call ⟨.value (.func f),xs,ts⟩,T,p,af,none⟩).run E.P w' = .ok (.enter f (xs.map a.eval)) w':=by
   have he:a.eval (.func f) = .func (.func f) #[] #[]:=rfl;generalize a.eval = ρ at he;simp [execOp,resolve,Deferred.ofValue,he,invoke,a8]
  have dk:=qc3 hI xs;rw [gn] at dk;unfold Oper.quietAtIn;rw [hr];refine⟨rfl,fun h=>by simp [fw,Fence.wide] at h,qhb ?_⟩;have hb:Below B0 w0 w':=hI.agree.below.trans (l7.mono hI.agree.hB);have hB:B0≤w'.heap.size:=Nat.le_trans hI.agree.hB l7.size;have hA':=hI.agree.fresh l7;refine (hc.run w'.heap.size w' ⟨G.pub,G.ob,0⟩ (xs.map a.eval) w' (hok B0 w0 w' hL hb hB) ⟨Below.refl _ _,Nat.le_refl _,rfl,hA'.pub,nofun,nofun⟩ ⟨dk.1,fun i x y hx hy=>?_⟩).mono ?_
  ·exact hp x (List.mem_of_getElem? hx) G _ y (fun b vs hb=>⟨[],by simpa using hb⟩) (dk.2 i x y hx hy)
  ·rintro e w'' ⟨u,G',r',st',rfl,hG,hA,hR,rfl,rfl⟩
   rw [hs G' u hR];exact⟨rfl,l7.trans (hA.below.mono l7.size)⟩
 ·refine h.run B0 w0 G _ w hL (hI.put (.refl G) hI.agree d (hpr G)) Q fun s' a' m5 d8 hK=>hQ s' a' m5 ?_ hK
  rw [d8]
  cases d <;> rfl
end
end Go.Av
namespace Go.Av
open Go Go.RowKit
section
variable {E : Env} {rd : Option Nat} {N : Nat} {ops : Array Oper} {K : AS → Prop} {s : AS} {rest : List Oper} {d : Option Tmp} {T : TypeId} {p : String} {af : Array Edge}
theorem qo3 {x:Operand} {t:TypeId} {sz:Nat} {agg:Bool} {st loc:List AObj} {k ver off:Nat} {T':TypeId} {cs:List AV} {r:AV} (hs:s.st=st++loc) (hx:qj N s x = .bx (st.length+k) ver off) (ho:loc[k]? = some (.cells ver T' cs)) (ht:tyOf E.P t=some (sz,agg)) (hr:js sz agg off cs=some r)
  (h:AQ E N ops rest K (s.put d r)):AQ E N ops (⟨d,.load t x,T,p,af,none⟩::rest) K s:=
 qrk hx (by rw [hs];exact jl ho) ht hr h
end
end Go.Av
namespace Go.Proofs.YtapblfabkbdgcaaGreatDoor
open Go Go.Av Go.RowKit Go.Proofs Go.Pl
structure qck where
 kind:Int
 key:qc
 text:qc
 lo:Int
 hi:Int
abbrev FldV:=qc×qc
@[reducible] def fldA (f : FldV) : AV := .ag [Sv f.1, Sv f.2]
@[reducible] def zp (l : List FldV) : AV := .sl 2 (l.map fldA) none
def zek (r:qck):Prop:=1≤r.kind∧r.kind≤7∧(r.kind=6∨yr r.key)
instance (r:qck):Decidable (zek r):=inferInstanceAs (Decidable (_∧_∧_))
def q47 (l:qc):List qc:=if l=[] then [] else qz l
theorem zac (xs:List qc):Pure (.sl 1 (xs.map fun x=>Sv x) none):=qch fun x hx=>by
 simp only [List.mem_map] at hx;obtain⟨l,_,rfl⟩:=hx;intro y hy;simp [AV.cells] at hy;subst hy;exact q8 _
def qov (r:qck) (n:Int):Prop:=r.lo≤n∧n≤r.hi
instance (r:qck) (n:Int):Decidable (qov r n):=inferInstanceAs (Decidable (_∧_))
def q4n (r:qck) (l:qc):Prop:=∃ n,numZ l=some n∧qov r n
instance (r:qck) (l:qc):Decidable (q4n r l):=
 match h:numZ l with
 |some n=>decidable_of_iff (qov r n) ⟨fun h'=>⟨n,h,h'⟩,fun ⟨m,h1,h2⟩=>by rw [h] at h1;cases h1;exact h2⟩
 |none=>.isFalse fun ⟨m,h1,_⟩=>by rw [h] at h1;cases h1
def q1v (r:qck) (f:FldV):Prop:=
 (r.kind=3→f.1=r.key→q4n r f.2)∧(r.kind=4→f.1=r.key→f.2∈q47 r.text)∧(r.kind=5→f.1=r.key→qov r f.2.length)∧(r.kind=6→f.1∈q47 r.text)
instance (r:qck) (f:FldV):Decidable (q1v r f):=inferInstanceAs (Decidable (_∧_∧_∧_))
theorem qlb {xs:List FldV} {k:Nat} (hk:k<xs.length):(xs.map fldA)[k]? = some (fldA (xs.getD k ([],[]))):=by
 simp [List.getD,hk]
def qn2 (key:qc) (xs:List FldV):List qc:=(xs.filter fun f=>f.1=key).map Prod.snd
def ze6 (r:qck) (xs:List FldV):Prop:=zek r∧((r.kind=1∧(qn2 r.key xs).length=0)∨(r.kind=2∧1<(qn2 r.key xs).length)∨(r.kind≠1∧r.kind≠2∧xs.any (fun f=> !decide (q1v r f))=true))
instance (r:qck) (xs:List FldV):Decidable (ze6 r xs):=inferInstanceAs (Decidable (_∧(_∨_∨_)))
def badR (r:qck) (f:FldV):Bool:= !decide (q1v r f)
def cntR (r:qck) (xs:List FldV):Nat:=if r.kind=6 then 0 else (qn2 r.key xs).length
end Go.Proofs.YtapblfabkbdgcaaGreatDoor
namespace Go.Av
open Go Go.RowKit Go.WideShapes Go.ChangeShapes Go.Deep
def RelK (G:Gh) (us:List AV) (cs:List Value):Prop:=us.length=cs.length∧∀ (i:Nat) (x:AV) (y:Value),us[i]? = some x→cs[i]? = some y→Rel G x y
theorem RelK.one {G:Gh} {a:AV} {v:Value} (h:RelK G [a] [v]):Rel G a v:=h.2 0 a v rfl rfl
def fieldsOf (P:Program) (t:TypeId):Array Field:=match P.underlying t with|some (.struct fs)=>fs | _=> #[]
end Go.Av
namespace Go.Proofs.YtapblfabkbdgcaaGreatDoor
open Go Go.Av Go.RowKit Go.Proofs Go.Pl
theorem qkb (l w:List UInt8) (st:List AObj):qo E 77 [Sv l,Sv w] st fun r st'=>r=Bv (decide (w <+: l))∧st'=st:=by
 refine ze (q8 _) (qr Tryz.func77 rfl (Nat.le_of_ble_eq_true rfl) ?_);repeat' (first|apply qm|apply qg|apply qh|apply ql|apply qi|(apply qt;(iterate 3 exact rfl))|(apply kr;(iterate 3 exact rfl))|(apply zm;(iterate 4 exact rfl))|(apply qfs;exact cAo)|(apply qna;exact cAo)|(apply yp <;> intro h)|(apply qx;exact rfl;apply qdj;exact cAo)|(apply qx;exact rfl;apply qd4;exact cAo)|(apply jy;(iterate 3 exact rfl))|(apply qiu;(iterate 3 exact rfl);exact cAs)|apply q6)
 all_goals refine qn rfl (zh rfl) ⟨congrArg Bv (?_:(_:Bool)=_),_,rfl⟩
 ·have e:w <+: l↔l.take w.length=w:=by
   rw [List.prefix_iff_eq_take];exact⟨fun h=>h.symm,fun h=>h.symm⟩
  exact decide_eq_decide.2 e.symm
 ·refine (decide_eq_false fun h=>?_).symm
  have:=h.length_le;omega
structure qp where
 kind:Int
 id:Int
 fields:List FldV
@[reducible] def z6 (e : qp) : AV := .ag [Iv e.kind, Iv e.id, zp e.fields]
def x4 (k:Int):qc:=if k=1 then [32,114,101,112,108,97,99,101,32] else if k=2 then [32,100,101,108,101,116,101,32] else if k=3 then [32,105,110,115,101,114,116,32] else []
def jx (e:qp):qc:=if 1≤e.kind∧e.kind≤3 then x4 e.kind++Lib.itoa e.id else []
theorem qwq (e:qp) (st:List AObj) (h1 : -9223372036854775808≤e.id) (h2:e.id≤9223372036854775807):qo E 69 [z6 e] st fun r st'=>r=Sv (jx e)∧st'=st:=by
 refine ze (q8 _) (qr Tryz.func69 rfl (Nat.le_of_ble_eq_true rfl) ?_);have hn:=Lib.itoa_length_le e.id h1 h2;repeat' (first|apply qm|apply qg|apply qh|apply qi|(apply qt;(iterate 3 exact rfl))|(apply qe;exact rfl;apply cd_d <;> intro h)|(apply vf;exact rfl;exact rfl;exact cOs)|(apply qbe;(iterate 4 exact rfl))|(apply zg;(iterate 3 exact rfl))|(apply jf;(iterate 5 exact rfl))|apply qw|apply q6|(apply qq;exact Tryz.call107;exact qg1 _ _ h1 h2))
 all_goals refine qn rfl (zh rfl) ⟨congrArg (fun l:qc=>Sv l) (?_:_=jx e),_,rfl⟩
 all_goals simp_all [jx,x4]
 all_goals omega
def qbd (k:Int):qc:=if k=1 then [114,101,112,108,97,99,101] else if k=2 then [100,101,108,101,116,101] else if k=3 then [105,110,115,101,114,116] else []
theorem qtr (k:Int) (st:List AObj):qo E 103 [Iv k] st fun r st'=>r=Sv (qbd k)∧st'=st:=by
 refine ze (q8 _) (qr Tryz.func103 rfl (Nat.le_of_ble_eq_true rfl) ?_);repeat' (first|apply qm|apply qu|apply qg|apply qh|apply ql|apply qi|(apply qt;(iterate 3 exact rfl))|(apply qe;exact rfl;apply cd_d <;> intro h)|apply qw|apply q6)
 all_goals refine qn rfl (zh rfl) ⟨congrArg (fun l:qc=>Sv l) (?_:_=qbd k),_,rfl⟩
 all_goals simp_all [qbd]
theorem zbd (k:Int):(qbd k).length≤7:=by
 unfold qbd;repeat' split
 all_goals simp
theorem q2r (k:Int):x4 k=if qbd k=[] then [] else [32]++qbd k++[32]:=by
 unfold x4 qbd;repeat' split
 all_goals simp_all
theorem zbe (k:Int):qbd k=[]↔¬ (1≤k∧k≤3):=by
 unfold qbd;repeat' split
 all_goals simp_all
 omega
theorem zir (e:qp) (st:List AObj) (h1 : -9223372036854775808≤e.id) (h2:e.id≤9223372036854775807):qo E 66 [z6 e] st fun r st'=>r=Sv (jx e)∧st'=st:=by
 refine ze (q8 _) (qr Tryz.func66 rfl (Nat.le_of_ble_eq_true rfl) ?_);have hn:=Lib.itoa_length_le e.id h1 h2;have hw:=zbd e.kind;have ho:=q2r e.kind;have hz:=zbe e.kind;repeat' (first|apply qm|apply qg|apply qh|apply ql|apply qi|(apply kr;(iterate 3 exact rfl))|(apply qe;exact rfl;apply cd_d <;> intro h)|(apply vf;exact rfl;exact rfl;exact cOs)|(apply qbe;(iterate 4 exact rfl))|(apply zg;(iterate 3 exact rfl))|(apply jf;(iterate 5 exact rfl))|apply qw|apply q6|(apply qq;exact Tryz.call103;exact qtr _ _)|(apply qq;exact Tryz.call104;exact zij _ _ h1 h2))
 all_goals refine qn rfl (zh rfl) ⟨congrArg (fun l:qc=>Sv l) (?_:_=jx e),_,rfl⟩
 all_goals unfold jx
 ·rw [if_neg (by simp_all)]
 ·rw [if_pos (by simp_all),ho,if_neg (by assumption)]
end Go.Proofs.YtapblfabkbdgcaaGreatDoor
namespace Go.Av
open Go Go.RowKit
def noop (o:Oper):Oper:={ o with op:=.move (.const undef),guard:=none }
section
variable {F : Fence} {n : Nat} {P : Program} {ops ops' : Array Oper} {md : Region.Mode} {C : World → Prop} {Q : Exit → Act → World → Prop} {k : Nat} {o : Oper}
theorem qks {listed:Array Bool}:∀ k,listed.getD k true=false→∃ j,j≤k∧listed.getD j true=false∧∀ i,i<j→listed.getD i true=true:=by
 intro k
 induction k using Nat.strongRecOn with
 | _ k ih=>
  intro h;by_cases m9:∀ i,i<k→listed.getD i true=true
  ·exact⟨k,Nat.le_refl _,h,m9⟩
  ·have ⟨i,hi⟩:=Classical.not_forall.1 m9
   have ⟨sr,bv⟩:=Classical.not_imp.1 hi;obtain⟨j,h1,h2,h3⟩:=ih i sr (by simpa using bv);exact⟨j,by omega,h2,h3⟩
theorem qxf {listed:Array Bool} {i:Nat} (h:listed.getD i true=true) (hi:i<listed.size):listed.getD i false=true:=by
 simp [Array.getD,hi] at h ⊢;exact h
theorem q2q {listed:Array Bool} {i:Nat} (h:listed.getD i true=false) (h2:listed.getD i false=true):False:=by
 unfold Array.getD at h h2;by_cases hi:i<listed.size
 ·rw [dif_pos hi] at h h2
  rw [h] at h2
  cases h2
 ·rw [dif_neg hi] at h
  cases h
theorem qpp {listed:Array Bool} {j:Nat} (f8:listed.size=ops.size) (fp:∀ (j:Nat) o,ops[j]? = some o→∀ e∈o.after,e.on<j) (hj:listed.getD j true=false) (m9:∀ i,i<j→listed.getD i true=true):j∈Region.ready md ops listed:=by
 have d6:j<listed.size:=by
  rcases Nat.lt_or_ge j listed.size with h|h
  ·exact h
  ·simp [Array.getD,Nat.not_lt.2 h] at hj
 rw [mem_ready];have ho:ops[j]? = some ops[j]:=Array.getElem?_eq_getElem (by omega);exact⟨hj,_,ho,fun e he _=>qxf (m9 _ (fp j _ ho e he)) (by have:=fp j _ ho e he;omega)⟩
theorem qlv {listed:Array Bool} (hs:ops.size=ops'.size) (hk:ops[k]? = some o) (m0:ops'[k]? = some (noop o)) (g9:∀ j,j≠k→ops'[j]? = ops[j]?):Region.ready md ops' listed=Region.ready md ops listed:=by
 unfold Region.ready;rw [hs];refine List.filter_congr fun i _=>?_;by_cases h:i=k
 ·subst h;rw [hk,m0];rfl
 ·rw [g9 i h]
theorem q13 (hd:o.dst=none) (hk:ops[k]? = some o) (m0:ops'[k]? = some (noop o)) (g9:∀ j,j≠k→ops'[j]? = ops[j]?) (t:Array Value):yielded ops' t=yielded ops t:=by
 funext j;unfold yielded;by_cases h:j=k
 ·subst h;rw [hk,m0];simp [noop,hd]
 ·rw [g9 j h]
theorem qn4 (hro:F.round=none) (f8:ops.size=ops'.size) (hk:ops[k]? = some o) (m0:ops'[k]? = some (noop o)) (g9:∀ j,j≠k→ops'[j]? = ops[j]?) (hd:o.dst=none)
  (fp:∀ (j:Nat) o,ops[j]? = some o→∀ e∈o.after,e.on<j) (sf:∀ j,j<ops.size→j≠k→∃ e∈o.after,Region.binds md e=true∧e.on=j) :
  ∀ (fuel:Nat) (listed:Array Bool) (a:Act) (w:World),C w→listed.size=ops.size→listed.getD k true=false→wpAnyQIn F n P md ops' C (fun a=>∀ w,C w→wpOpIn F n P ops Q k (Q .normal) a w) fuel listed a→wpAnyIn F n P md ops Q fuel listed a w
 | 0,listed,a,w,hC,hs,bc,h=>by
  have ⟨j,_,h2,h3⟩:=qks k bc;have:=qpp (md:=md) hs fp h2 h3;rw [← qlv f8 hk m0 g9,h.1] at this
  cases this
 |fuel+1,listed,a,w,hC,hs,bc,h=>by
  obtain⟨hq1,s6⟩:=h;rw [qlv f8 hk m0 g9] at hq1 s6;refine⟨fun h0=>?_,fun i hi=>?_⟩
  ·have ⟨j,_,h2,h3⟩:=qks k bc
   have:=qpp (md:=md) hs fp h2 h3;rw [h0] at this
   cases this
  ·have hqi:=s6 i hi
   by_cases hik:i=k
   ·subst hik
    obtain⟨_,o',d7,m9⟩:=mem_ready.1 hi;rw [hk] at d7
    cases d7
    have hr:Region.ready md ops (listed.setIfInBounds i true)=[]:=by
     rw [List.eq_nil_iff_forall_not_mem];intro j hj;obtain⟨hju,oj,hoj,_⟩:=mem_ready.1 hj
     have hjs:j<ops.size:=by
      rcases Nat.lt_or_ge j ops.size with h|h
      ·exact h
      ·rw [Array.getElem?_eq_none h] at hoj;cases hoj
     by_cases s3:j=i
     ·subst s3
      simp [Array.getD,hs,hjs] at hju
     ·obtain⟨e,he,hb,heq⟩:=sf j hjs s3
      have h5:=m9 e he hb;rw [heq] at h5;rw [getD_set_ne true (Ne.symm s3)] at hju;exact q2q hju h5
    unfold qOpIn at hqi;rw [m0] at hqi;simp only at hqi;have hqe:=hqi.2;have hwn:Region.wanted (noop o) (yielded ops' a.tmps)=true:=by simp [noop,Region.wanted]
    rw [if_pos hwn] at hqe;obtain⟨v,_,hK⟩:=hqe;have hput:a.put (noop o).dst v=a:=by simp [noop,hd,Act.put]
    rw [hput] at hK
    have hQ':∀ w,C w→wpOpIn F n P ops Q i (Q .normal) a w:=by
     cases fuel with
     |zero=>exact hK.2
     |succ fuel=>exact hK.1 (by rw [qlv f8 hk m0 g9];exact hr)
    exact wpOpIn_mono (fun a' w' h'=>wpAnyIn_done hr h' _) (hQ' w hC)
   ·have he:qOpIn F n P ops C i (wpAnyQIn F n P md ops' C (fun a=>∀ w,C w→wpOpIn F n P ops Q k (Q .normal) a w) fuel (listed.setIfInBounds i true)) a:=by
     unfold qOpIn at hqi ⊢;rw [g9 i hik] at hqi;rw [← q13 hd hk m0 g9];exact hqi
    refine wpOpIn_of_qOpIn hro hC (fun a' w' hC' hX=>qn4 hro f8 hk m0 g9 hd fp sf fuel _ a' w' hC' (by simpa using hs) ?_ hX) he;rw [getD_set_ne true hik];exact bc
def qe0 {α : Type}:List α→Option (List α×α)
 | []=>none
 | [x]=>some ([],x)
 |x::y::r=>match qe0 (y::r) with
  |some (l,o)=>some (x::l,o)
  |none=>none
theorem qny {α : Type}:∀ {L l:List α} {o : α},qe0 L=some (l,o)→L=l++[o]
 | [],_,_,h=>by simp [qe0] at h
 | [x],_,_,h=>by simp [qe0] at h;obtain⟨rfl,rfl⟩:=h;rfl
 |x::y::r,l,o,h=>by
  unfold qe0 at h;split at h
  ·rename_i l' o' he
   simp only [Option.some.injEq,Prod.mk.injEq] at h;obtain⟨rfl,rfl⟩:=h;rw [qny he];rfl
  ·simp at h
def q33 (o:Oper) (k:Nat):Bool:=(List.range k).all fun j=>o.after.toList.any fun e=>Region.binds .any e && Nat.beq e.on j
def q0l (ops:List Oper):Bool:=(List.range ops.length).all fun j=>match ops[j]? with|some o=>o.after.toList.all fun e=>Nat.blt e.on j|none=>true
end
section
variable {E : Env} {N : Nat} {s : AS}
theorem qu6 {id:Nat} {L l:List Oper} {o:Oper} {Q:Exit→AS→Prop} (dn:qe0 L=some (l,o)) (hd:o.dst=none) (sf:q33 o l.length=true) (fp:q0l L=true) (hm:E.P.follows .mixedOrders=true) (hB:Region.lexB .any (l++[noop o]).toArray=true)
  (h:AQ E N (l++[noop o]).toArray l (fun s'=>AOps E none N L.toArray [o] (Q .normal) s') s):AWp E none N (.region id L.toArray true) Q s:=by
 have hLe:=qny dn;subst hLe;refine⟨fun B0 w0 G a w hL hI=>?_⟩;have cn:=hB;simp only [Region.lexB,Bool.and_eq_true] at cn;have hk:(l++[o]).toArray[l.length]? = some o:=by simp
 have m0:(l++[noop o]).toArray[l.length]? = some (noop o):=by simp
 have g9:∀ j,j≠l.length→(l++[noop o]).toArray[j]? = (l++[o]).toArray[j]?:=fun j hj=>by
  simp only [List.getElem?_toArray];rcases Nat.lt_or_ge j l.length with h|h
  ·rw [List.getElem?_append_left h,List.getElem?_append_left h]
  ·rw [List.getElem?_eq_none (by simp;omega),List.getElem?_eq_none (by simp;omega)]
 have hordP:∀ (j:Nat) o',(l++[o]).toArray[j]? = some o'→∀ e∈o'.after,e.on<j:=fun j o' hj e he=>by
  simp only [q0l,List.all_eq_true,List.mem_range] at fp;simp only [List.getElem?_toArray] at hj;have h1:=fp j (lt_of_getElem? hj);rw [hj] at h1;simp only at h1;have h2:=List.all_eq_true.1 h1 e (by simpa using he);exact Nat.le_of_ble_eq_true h2
 have hcovP:∀ j,j<(l++[o]).toArray.size→j≠l.length→∃ e∈o.after,Region.binds .any e=true∧e.on=j:=fun j hj b8=>by
  simp only [q33,List.all_eq_true,List.mem_range] at sf;have h1:=sf j (by simp at hj;omega);obtain⟨e,he,h2⟩:=List.any_eq_true.1 h1;simp only [Bool.and_eq_true] at h2;exact⟨e,by simpa using he,h2.1,Nat.eq_of_beq_eq_true h2.2⟩
 have hBl:Below w.heap.size w { w with drawn:=w.drawn+1 }:=⟨rfl,rfl,rfl,Nat.le_refl _,fun _ _=>rfl⟩;refine wpIn_region_any hm (qn4 (C:=fun w'=>Below w.heap.size w w') (ops':=(l++[noop o]).toArray) (k:=l.length) rfl (by simp) hk m0 g9 hd hordP hcovP _ _ _ _ hBl (by simp) (by simp [Array.getD]) ?_)
 have hq:wpQuietIn (fw none) 0 E.P (l++[noop o]).toArray (fun w'=>Below w.heap.size w w') (fun a=>∀ w',Below w.heap.size w w'→wpOpIn (fw none) 0 E.P (l++[o]).toArray (fun e a' w'=>∃ (G':Gh) (s':AS),G.le G'∧Inv B0 w0 N G' s' a' w'∧Q e s') l.length (fun a' w'=>∃ (G':Gh) (s':AS),G.le G'∧Inv B0 w0 N G' s' a' w'∧Q .normal s') a w') (l++[noop o]) a:=by
  have step:∀ (l1:List Oper) (a:Act) (X:Act→Prop),wpQuietIn (fw none) 0 E.P (l++[noop o]).toArray (fun w'=>Below w.heap.size w w') X l1 a→wpQuietIn (fw none) 0 E.P (l++[noop o]).toArray (fun w'=>Below w.heap.size w w') X (l1++[noop o]) a:=by
   intro l1
   induction l1 with
   |nil=>
    intro a X hX;refine⟨fun _ _ _ hf=>?_,?_⟩
    ·simp [Oper.about,noop] at hf
    ·have hwn:Region.wanted (noop o) (yielded (l++[noop o]).toArray a.tmps)=true:=by simp [noop,Region.wanted]
     rw [if_pos hwn];refine⟨undef,fun w' _=>?_,?_⟩
     ·unfold Oper.quietAtIn
      simp [noop,execOp,Oper.quietUponIn,Act.eval]
     ·have hput:a.put (noop o).dst undef=a:=by simp [noop,hd,Act.put]
      rw [hput]
      exact hX
   |cons o1 l1 ih=>
    intro a X hX;refine⟨hX.1,?_⟩;have h2:=hX.2;split
    ·rename_i hw
     rw [if_pos hw] at h2;obtain⟨v,h3,h4⟩:=h2;exact⟨v,h3,ih _ _ h4⟩
    ·rename_i hw
     rw [if_neg hw] at h2;exact ih _ _ h2
  refine step l a _ (h.run B0 w0 G a w hL hI _ fun s' a' m5 d8 gw w' l7=>?_);have lz:Inv B0 w0 N G s' a' w':=⟨m5.agree.fresh l7,m5.defers,m5.size,m5.tmps⟩;have hr:=gw.run B0 w0 G a' w' hL lz (fun e a' w'=>∃ (G':Gh) (s':AS),G.le G'∧Inv B0 w0 N G' s' a' w'∧Q e s') (fun G' s'' a'' w'' hG hI3 hQ=>⟨G',s'',hG,hI3,hQ⟩);unfold wpOpIn;rw [hk];exact hr
 have:=wpAnyQIn_lex (F:=fw none) (n:=0) (C:=fun w'=>Below w.heap.size w w') (md:=.any) cn.1 (l++[noop o]) 0 (Array.replicate (l++[noop o]).length false) a (by simp) (by simpa using cn.2) hq
 simpa using this
variable {ops : Array Oper} {K : AS → Prop} {rest : List Oper} {d : Option Tmp} {T : TypeId} {p : String} {af : Array Edge}
theorem qiv {x y:Operand} {t t':TypeId} {m n:List UInt8} (hx:qj N s x=Sv m) (hy:qj N s y=Sv n) (hl:m.length+n.length<9223372036854775808)
  (h:AQ E N ops rest K (s.put d (Sv (m++n)))):AQ E N ops (⟨d,.binOp .add t x y t',T,p,af,none⟩::rest) K s:=
 qaz _ rfl nofun (fun a w he=>by
  simp only [execOp,he _ _ hx,he _ _ hy,eqGuard_at_string,binOp,Op.stringOp,qag,qu4,IntKind.max_i64];rw [if_neg (by omega)]
  simp) h
theorem qbs {x y:Operand} {t e:TypeId} {sz:Nat} {agg:Bool} {xs:List AV} {tip:Option Nat} {k:IntKind} {i:Int} {n:Nat} {z:AV} (hx:qj N s x = .sl sz xs tip) (hy:qj N s y = .v (.int k i)) (hu:E.P.underlying t=some (.slice e)) (ht:tyOf E.P e=some (sz,agg)) (hi:i=n) (hz:xs[n]? = some z)
  (h:AQ E N ops rest K (s.put d (.pp z.cells))):AQ E N ops (⟨d,.indexAddr t x y,T,p,af,none⟩::rest) K s:=by
 refine qdc rfl nofun fun B0 w0 G a w _ hI=>?_;subst hi;have he:=hI.eval_of hx;have r9:=hI.evalv hy;generalize hv:a.eval x=v at he;have d6:=lt_of_getElem? hz
 cases he with
 |sl0=>simp at hz
 |sl _ _ _ b off cap pub hp hw c8 f0 htip i8=>
  have cm:z.cells.length=sz:=hw z (List.mem_of_getElem? hz);have i3:=zo hw;have d5:(n+1) * sz≤xs.length * sz:=Nat.mul_le_mul_right _ d6;rw [Nat.succ_mul] at d5;refine⟨.pointer (some ⟨b,off+n * sz,none⟩),.pp z.cells,fun w' _=>?_,?_,h⟩
  ·generalize a.eval = ρ at hv r9
   simp only [execOp,hv,r9];simp [Instr.indexAt,asIntOf,run_underlying hu,d6,(kw ht w').1,Addr.add_lit]
  ·refine .pp _ b _ pub hp (by omega) fun j q r h1 h2=>?_
   have hj:j<sz:=by have:=lt_of_getElem? h1;omega
   have hf:=qla hw hz j hj;exact f0 (n * sz+j) q r (by rw [hf];exact h1) (by rw [← h2];congr 1;omega)
theorem qix {x y:Operand} {t e:TypeId} {sz:Nat} {agg:Bool} {o ver off len cp:Nat} {k:IntKind} {i:Int} {n:Nat} (hx:qj N s x = .os o ver off len cp) (hy:qj N s y = .v (.int k i)) (hu:E.P.underlying t=some (.slice e)) (ht:tyOf E.P e=some (sz,agg)) (hi:i=n) (hn:n<len)
  (h:AQ E N ops rest K (s.put d (.bx o ver (off+n * sz)))):AQ E N ops (⟨d,.indexAddr t x y,T,p,af,none⟩::rest) K s:=by
 refine qdc rfl nofun fun B0 w0 G a w _ hI=>?_;subst hi;have he:=hI.eval_of hx;have r9:=hI.evalv hy;generalize hv:a.eval x=v at he
 cases he with
 |os _ _ _ _ b cap rp p8 hb=>
  refine⟨.pointer (some ⟨b,off+n * sz,none⟩),_,fun w' _=>?_,.bx o ver _ b rp p8 hb,h⟩;generalize a.eval = ρ at hv r9;simp only [execOp,hv,r9];simp [Instr.indexAt,asIntOf,run_underlying hu,hn,(kw ht w').1,Addr.add_lit]
theorem qrj {t:TypeId} {x:Operand} {f off sz:Nat} {agg:Bool} {o ver q:Nat} (hx:qj N s x = .bx o ver q) (hf:qat E.P t f=some (off,sz,agg)) (f8:Nat.beq sz 0=false)
  (h:AQ E N ops rest K (s.put d (.bx o ver (q+off)))):AQ E N ops (⟨d,.fieldAddr t x f,T,p,af,none⟩::rest) K s:=by
 refine qdc rfl nofun fun B0 w0 G a w _ hI=>?_;have he:=hI.eval_of hx;generalize hv:a.eval x=v at he
 cases he with
 |bx _ _ _ b hn r7 hb=>
  have hs:sz≠0:=fun e=>by subst e;simp at f8
  exact⟨_,_,fun w' _=>by simp only [execOp,hv];simp [qgd hf hs],.bx o ver _ b hn r7 hb,h⟩
theorem qiw {t:TypeId} {x:Operand} {f off sz:Nat} {agg:Bool} {cs:List AV} (hx:qj N s x = .pp cs) (hf:qat E.P t f=some (off,sz,agg)) (f8:Nat.beq sz 0=false) (d5:Nat.ble off cs.length=true)
  (h:AQ E N ops rest K (s.put d (.pp (cs.drop off)))):AQ E N ops (⟨d,.fieldAddr t x f,T,p,af,none⟩::rest) K s:=by
 refine qdc rfl nofun fun B0 w0 G a w _ hI=>?_;have he:=hI.eval_of hx;generalize hv:a.eval x=v at he
 cases he with
 |pp _ b q pub hp c8 f0=>
  have hs:sz≠0:=fun e=>by subst e;simp at f8
  have ho:off≤cs.length:=Nat.le_of_ble_eq_true d5;refine⟨.pointer (some ⟨b,q+off,none⟩),_,fun w' _=>by simp only [execOp,hv];simp [qgd hf hs],?_,h⟩;exact .pp _ b (q+off) pub hp (by simp;omega) fun i x y h1 h2=>f0 (off+i) x y (by simpa using h1) (by rw [← h2];congr 1;omega)
theorem qe7 {x:Operand} {t:TypeId} {sz:Nat} {agg:Bool} {cs:List AV} {r:AV} (hx:qj N s x = .pp cs) (ht:tyOf E.P t=some (sz,agg)) (hr:js sz agg 0 cs=some r)
  (h:AQ E N ops rest K (s.put d r)):AQ E N ops (⟨d,.load t x,T,p,af,none⟩::rest) K s:=by
 refine qdc rfl nofun fun B0 w0 G a w _ hI=>?_;have he:=hI.eval_of hx;generalize hv:a.eval x=v at he
 cases he with
 |pp _ b off pub hp c8 f0=>
  obtain⟨c,T',fz,hc,nj⟩:=hI.agree.pub b pub hp;have d6:b<w.heap.size:=hI.agree.pub_lt hp
  have key:∀ w',Below w.heap.size w w'→∃ v,(loadVar t ⟨b,off,none⟩).run E.P w' = .ok v w'∧Rel G r v:=fun w' l7=>by
   have h4':w'.heap[b]? = some (.cells c T' fz):=by rw [l7.block _ d6];exact hc
   exact qaf (w:=w') (G:=G) (b:=b) (off:=off) ht (fun i x hx _=>by
    have hi:=lt_of_getElem? hx;have hy:pub[off+i]? = some (pub[off+i]'(by omega)):=List.getElem?_eq_getElem (by omega);refine⟨_,?_,f0 i x _ hx hy⟩
    simp [World.cell?,h4',nj _ _ hy]) hr
  have hg:∀ w',Below w.heap.size w w'→∀ j,j<cs.length→w'.cell? ⟨b,off+j,none⟩=some (pub.getD (off+j) undef):=fun w' l7 j hj=>by
   have h4':w'.heap[b]? = some (.cells c T' fz):=by rw [l7.block _ d6];exact hc
   have hlt2:off+j<pub.length:=by omega
   have hy:pub[off+j]? = some (pub.getD (off+j) undef):=by simp [List.getD,hlt2]
   simp [World.cell?,h4',nj _ _ hy]
  have t8:∀ w',Below w.heap.size w w'→∀ v,(loadVar t ⟨b,off,none⟩).run E.P w = .ok v w→(loadVar t ⟨b,off,none⟩).run E.P w' = .ok v w':=fun w' l7 v dj=>by
   obtain⟨i1,i2⟩:=kw ht w;obtain⟨j1,j2⟩:=kw ht w';obtain⟨v',rv,_⟩:=key w' l7;rw [rv];congr 1
   cases agg with
   |false=>
    simp only [js,cond_false] at hr;have h0:=lt_of_getElem? hr;have e1:=hg w (Below.refl _ _) 0 h0;have e2:=hg w' l7 0 h0;rw [Nat.add_zero] at e1 e2;simp [loadVar,i2,run_load,e1] at dj;simp [loadVar,j2,run_load,e2] at rv
    rw [← rv,dj]
   |true=>
    simp only [js,cond_true] at hr
    cases r8:Nat.ble (0+sz) cs.length with
    |false=>rw [r8] at hr;simp at hr
    |true=>
     have d5:0+sz≤cs.length:=Nat.le_of_ble_eq_true r8;have l1:=run_loadCells (P:=E.P) (w:=w) ⟨b,off,none⟩ sz (fun j=>pub.getD (off+j) undef) (fun j hj=>by rw [Addr.add_lit];exact hg w (Below.refl _ _) j (by omega));have l2:=run_loadCells (P:=E.P) (w:=w') ⟨b,off,none⟩ sz (fun j=>pub.getD (off+j) undef) (fun j hj=>by rw [Addr.add_lit];exact hg w' l7 j (by omega));simp [loadVar,i1,i2,l1] at dj;simp [loadVar,j1,j2,l2] at rv;rw [← rv,dj]
  obtain⟨v,a8,hR⟩:=key w (Below.refl _ _);exact⟨v,r,fun w' l7=>by simp only [execOp,hv,Instr.loadAt,Instr.sureAddr];simp [t8 w' l7 v a8],hR,h⟩
theorem q74 {x y:Operand} {t t':TypeId} {k:IntKind} {m n r:Int} (hx:qj N s x = .v (.int k m)) (hy:qj N s y = .v (.int k n)) (hr:k.wrap (m - n)=r)
  (h:AQ E N ops rest K (s.put d (.v (.int k r)))):AQ E N ops (⟨d,.binOp .sub t x y t',T,p,af,none⟩::rest) K s:=
 qaz _ rfl nofun (fun a w he=>by rw [← hr];simp [execOp,he _ _ hx,he _ _ hy,eqGuard_at_int,binOp,Op.intArith]) h
theorem q3x {x y z:Operand} {t:TypeId} {k k':IntKind} {l:List UInt8} {i j:Nat} (hx:qj N s x=Sv l) (hy:qj N s y = .v (.int k' (i:Int))) (hz:qj N s z = .v (.int k (j:Int))) (hu:E.P.underlying t=some .string) (h1:i≤j) (h2:j≤l.length)
  (h:AQ E N ops rest K (s.put d (Sv ((l.take j).drop i)))):AQ E N ops (⟨d,.slice t x (some y) (some z) none,T,p,af,none⟩::rest) K s:=
 qpx (i:=i) (j:=j) hx hu ⟨_,hy⟩ ⟨_,hz⟩ (by omega) (by omega) (by omega) (by simpa using h)
theorem q3v {x:Operand} {ts:Array TypeId} {t0 e:TypeId} {v:AV} {n:Nat} (hx:qj N s x=v) (hl:lenA v=some n) (ht:ts[0]? = some t0) (hu:E.P.underlying t0=some (.slice e))
  (h:AQ E N ops rest K (s.put d (Iv n))):AQ E N ops (⟨d,.call ⟨.builtin .len,#[x],ts⟩,T,p,af,none⟩::rest) K s:=by
 refine qdc rfl nofun fun B0 w0 G a w _ hI=>?_;have he:=hI.eval_of hx
 have key:∃ b c,a.eval x = .slice b n c:=by
  generalize a.eval x=u at he
  cases he <;> simp [lenA] at hl
  case v y=>
   cases u <;> simp at hl
   subst hl;exact⟨_,_,rfl⟩
  case sl0=>subst hl;exact⟨_,_,rfl⟩
  case sl=>subst hl;exact⟨_,_,rfl⟩
  case os=>subst hl;exact⟨_,_,rfl⟩
 obtain⟨b,c,hv⟩:=key;refine⟨.int .i64 n,Iv n,fun w' _=>?_,.v _,h⟩;generalize a.eval = ρ at hv;simp [execOp,resolve,invoke,builtin,Builtin.len_,hv,ht,run_underlying hu,goInt]
theorem qo4 {x:Operand} {t:TypeId} {sz:Nat} {agg:Bool} {st loc ext new:List AObj} {k ver off:Nat} {T':TypeId} {cs:List AV} {r:AV} (hs:s.st=((st++loc)++ext)++new) (hx:qj N s x = .bx (st.length+k) ver off) (ho:loc[k]? = some (.cells ver T' cs)) (ht:tyOf E.P t=some (sz,agg)) (hr:js sz agg off cs=some r)
  (h:AQ E N ops rest K (s.put d r)):AQ E N ops (⟨d,.load t x,T,p,af,none⟩::rest) K s:=
 qrk hx (by rw [hs];exact qad ho) ht hr h
end
end Go.Av
namespace Go.Av
open Go Go.RowKit
section
variable {B0 : Nat} {w0 : World} {G : Gh} {st : List AObj} {w : World}
theorem zi.pubOb (h:zi B0 w0 G st w) {o ver:Nat} {T:TypeId} {cs:List AV} (ho:st[o]? = some (.cells ver T cs)) :
  ∃ vs:List Value,G.le (G.publish (G.ob o).blk vs)∧zi B0 w0 (G.publish (G.ob o).blk vs) (st.set o .dead) w∧(G.ob o).ver=ver∧(G.publish (G.ob o).blk vs).pub (G.ob o).blk=some vs∧cs.length=vs.length ∧
   ∀ (i:Nat) (x:AV) (y:Value),cs[i]? = some x→vs[i]? = some y→Rel (G.publish (G.ob o).blk vs) x y:=by
 obtain⟨h0,h1,h2,h3,c,h4,h5,h6⟩:=h.ob o _ ho;have d5:G.le (G.publish (G.ob o).blk c.toList):=G.le_publish _ _ [] [] (.inl h3);refine⟨c.toList,d5,?_,h1,by simp [Gh.publish],by simpa using h5,fun i x y hx hy=>(h6 i x y hx (by simpa using hy)).mono d5⟩
 have key:∀ (k:Nat) (x:AObj),(st.set o .dead)[k]? = some x→x = .dead∨(k≠o∧st[k]? = some x):=fun k x hx=>by
  rcases getElem?_set' _ _ _ _ _ hx with⟨_,e⟩|e
  ·exact .inl e
  ·exact .inr e
 refine⟨h.below,h.hB,by simp [h.n,Gh.publish],fun b vs hb=>?_,fun k x hx=>?_,fun k k' x x' b8 hx e7 hl n9=>?_⟩
 ·simp only [Gh.publish] at hb
  by_cases e:b=(G.ob o).blk
  ·rw [if_pos e] at hb
   cases hb
   subst e;exact⟨c,T,(0,0),h4,fun i y hy=>by simpa using hy⟩
  ·rw [if_neg e] at hb
   exact h.pub b vs hb
 ·rcases key k x hx with rfl | ⟨hk,hx⟩
  ·trivial
  ·refine (h.ob k x hx).mono d5 rfl (fun hl=>?_) (fun _=>rfl)
   have:=h.sep k o x _ hk hx ho hl trivial;simp [Gh.publish,this]
 ·rcases key k x hx with rfl | ⟨hk,hx⟩
  ·exact hl.elim
  ·rcases key k' x' e7 with rfl | ⟨m0,e7⟩
   ·exact n9.elim
   ·exact h.sep k k' x x' b8 hx e7 hl n9
end
section
variable {E : Env} {rd : Option Nat} {N : Nat} {ops : Array Oper} {K : AS → Prop} {s : AS} {rest : List Oper} {d : Option Tmp} {T : TypeId} {p : String} {af : Array Edge}
theorem Inv.pub {B0:Nat} {w0:World} {G:Gh} {a:Act} {w:World} (h:Inv B0 w0 N G s a w) {i o ver:Nat} {T':TypeId} {cs:List AV} (hi:s.t i = .bx o ver 0) (ho:s.st[o]? = some (.cells ver T' cs)) :
  ∃ G',G.le G'∧Inv B0 w0 N G' ⟨Av.put s.t i (.pp cs),s.st.set o .dead,s.df⟩ a w:=by
 obtain⟨vs,d5,hA,hv,hp,hl,hr⟩:=h.agree.pubOb ho;refine⟨_,d5,hA,h.defers_mono d5,h.size,fun j y hy=>?_⟩;have hj:=h.tmps j y hy;by_cases e:j=i
 ·subst e
  simp only [wi];rw [hi] at hj
  cases hj with
  |bx _ _ _ b hn r7 hb=>
   have hb:=hb hv;subst hb;exact .pp cs _ 0 vs hp (by omega) fun k x y hx hy=>hr k x y hx (by simpa using hy)
 ·simp only
  rw [yh _ _ _ _ e];exact hj.mono d5
theorem qfn {x y:Operand} {t:TypeId} {sz:Nat} {agg:Bool} {st loc loc' ext new:List AObj} {k ver off:Nat} {T':TypeId} {cs xs:List AV} {r:AV} (hs:s.st=((st++loc)++ext)++new) (hx:qj N s x = .bx (st.length+k) ver off) (hy:qj N s y=r) (ho:loc[k]? = some (.cells ver T' cs)) (ht:tyOf E.P t=some (sz,agg))
  (hok:r.okc=true) (hc:r.cells=xs) (f8:Nat.beq xs.length sz=true) (h1:jr xs=true) (e9:Nat.ble (off+sz) cs.length=true) (hl:loc'=loc.set k (.cells ver T' (zr cs off xs)))
  (h:AOps E rd N ops rest K (AS.put ⟨s.t,((st++loc')++ext)++new,s.df⟩ d (.v undef))):AOps E rd N ops (⟨d,.store t x y,T,p,af,none⟩::rest) K s:=by
 have hk:=lt_of_getElem? ho;exact x9 hx hy (by rw [hs];exact qad ho) ht hok hc f8 h1 e9 (by rw [hs,qdo _ hk,← hl];exact h)
end
theorem qcb {α : Type} (l:List α) (a : α):(l++[a]).length=l.length+1:=by simp
theorem qft {α : Type} (l:List α) (a : α):Iv ((l.length:Int)+1)=Iv ((l++[a]).length:Nat):=by rw [qcb];rfl
theorem zdz {α : Type} {sz:Nat} {tip:Option Nat} (x0:AV) (g : α→AV) (pre:List α) (a : α) (v:AV) (h:v=g a):AV.sl sz ((x0::pre.map g)++[v]) tip=AV.sl sz (x0::(pre++[a]).map g) tip:=by rw [List.map_append,h];rfl
theorem q16 {E:Env} {rd:Option Nat} {N:Nat} {ops:Array Oper} {K:AS→Prop} {s:AS} {rest:List Oper} {d:Option Tmp} {T:TypeId} {p:String} {af:Array Edge} {t:TypeId} {st loc:List AObj} {cs:List AV} {n:Nat} (d8:s.st=st++loc) (hn:st.length=n) (hz:qht E.P t=some cs)
  (h:AOps E rd N ops rest K (AS.put ⟨s.t,st++(loc++[.cells 0 t cs]),s.df⟩ d (.bx (n+loc.length) 0 0))):AOps E rd N ops (⟨d,.alloc t,T,p,af,none⟩::rest) K s:=by
 subst hn;exact jp d8 hz h
theorem qrh {E:Env} {rd:Option Nat} {N:Nat} {ops:Array Oper} {K:AS→Prop} {s:AS} {rest:List Oper} {d:Option Tmp} {T:TypeId} {p:String} {af:Array Edge} {x y:Operand} {t:TypeId} {sz:Nat} {agg:Bool} {st loc ext new:List AObj} {k ver off:Nat} {T':TypeId} {cs xs:List AV} {r:AV} (hs:s.st=((st++loc)++ext)++new) (hx:qj N s x = .bx (st.length+k) ver off) (hy:qj N s y=r) (ho:loc[k]? = some (.cells ver T' cs)) (ht:tyOf E.P t=some (sz,agg))
  (hok:r.okc=true) (hc:r.cells=xs) (f8:xs.length=sz) (h1:jr xs=true) (e9:off+sz≤cs.length)
  (h:AOps E rd N ops rest K (AS.put ⟨s.t,((st++loc.set k (.cells ver T' (zr cs off xs)))++ext)++new,s.df⟩ d (.v undef))):AOps E rd N ops (⟨d,.store t x y,T,p,af,none⟩::rest) K s:=by
 have hk:=lt_of_getElem? ho;exact qe6 hx hy (by rw [hs];exact qad ho) ht hok hc f8 (by simpa [jr] using h1) e9 (by rw [hs,qdo _ hk];exact h)
theorem qa0 {E:Env} {rd:Option Nat} {N:Nat} {c:Code} {Q:Exit→AS→Prop} {s:AS} {α : Type} (xs:List α) (I:List α→AS→Prop) (h0:I [] s) (dx:∀ s,I xs s→AWp E rd N c (qx0 (fun _=>False) Q) s)
  (hstep:∀ pre a rest s,xs=pre++a::rest→I pre s→AWp E rd N c (qx0 (fun s'=>I (pre++[a]) s') Q) s):AWp E rd N (.loop c) Q s:=by
 refine ju (fun (x:List α×List α) s=>xs=x.1++x.2∧I x.1 s) (fun x=>x.2.length) ([],xs) ⟨rfl,h0⟩ ?_;rintro⟨pre,rest⟩ s ⟨hx,hi⟩
 cases rest with
 |nil=>
  simp only [List.append_nil] at hx;subst hx;refine (dx s hi).mono fun e s' h=>?_
  cases e with
  |normal=>exact h.elim
  | _=>exact h
 |cons a rest=>
  refine (hstep pre a rest s hx hi).mono fun e s' h=>?_
  cases e with
  |normal=>exact⟨(pre++[a],rest),⟨by rw [hx];simp,h⟩,by simp⟩
  | _=>exact h
theorem qxa {E:Env} {fn:Func} {R:AV→List AObj→Prop} {s:AS} {st loc ext new:List AObj} {k:Nat} {ds:List Nat} (hs:s.st=((st++loc)++ext)++new) (hd:s.df=(st.length+k)::ds) (ho:loc[k]? = some .dfr) (h:ARet E fn R ⟨s.t,((st++loc.set k .dead)++ext)++new,ds⟩):ARet E fn R s:=
 qmv hd (by rw [hs];exact qad ho) (by rw [hs,qdo _ (lt_of_getElem? ho)];exact h)
@[reducible] def zaj (F : LoopState → Option Code → AObj) (st : List AObj) (own : AObj) (I : List AObj → Prop) (D : Code → List AObj → Prop) : Exit → AS → Prop
 | .normal,s=>∃ l ext new,s.st=((st++(l++[.dfr,F .busy none,own]))++ext)++new∧I l
 | .ret,s=>∃ l ext new,s.st=((st++(l++[.dfr,F .busy none,own]))++ext)++new∧D .ret l
 | .exit id,s=>∃ l ext new,s.st=((st++(l++[.dfr,F .busy none,own]))++ext)++new∧D (.exit id) l
 | _,_=>False
theorem q2d {E:Env} {o:Nat} {xs:List AV} {st st':List AObj} {R:Bool→List AObj→Prop} (e:st=st') (h:ye E o xs st R):ye E o xs st' R:=e▸h
theorem qcv {st l ext:List AObj} {a b c:AObj} {n:Nat} (hl:l.length=n):(((st++(l++[a,b,c]))++ext))[st.length+(n+1)]? = some b:=by
 subst hl;rw [List.append_assoc,List.append_assoc,List.getElem?_append_right (by omega),Nat.add_sub_cancel_left,List.getElem?_append_right (by omega)];simp
theorem qez {st l ext:List AObj} {a b c y:AObj} {n:Nat} (hl:l.length=n):((st++(l++[a,b,c]))++ext).set (st.length+(n+1)) y=(st++(l++[a,y,c]))++ext:=by
 subst hl;rw [List.append_assoc,List.append_assoc,List.set_append_right _ _ (by omega),Nat.add_sub_cancel_left,List.set_append_right _ _ (by omega)];simp
theorem zbt {E:Env} {N:Nat} {t:Nat→AV} {ps:Array Tmp} {asg body:Code} {st l ext:List AObj} {own:AObj} {n:Nat} {xs:List AV} {F:LoopState→Option Code→AObj} {I:List AObj→Prop} {D:Code→List AObj→Prop} (hF:qk1 F N t ps asg body) (hl:l.length=n) (rt:ps.size=xs.length)
  (hI:∀ l,I l→l.length=n) (hD:∀ c l,D c l→l.length=n)
  (h:∀ rd,AWp E (some rd) N asg (only fun s1=>∃ new,s1.st=((st++(l++[.dfr,F .ready none,own]))++ext)++new∧s1.df=[]∧AWp E (some rd) N body (zaj F st own I D) ⟨s1.t,((st++(l++[.dfr,F .busy none,own]))++ext)++new,[]⟩) ⟨qjp t (ps.toList.zip xs),((st++(l++[.dfr,F .ready none,own]))++ext)++[],[]⟩) :
  ye E (st.length+(n+1)) xs ((st++(l++[.dfr,F .ready none,own]))++ext) fun b st2=>∃ l' ext',(b=true→st2=(st++(l'++[.dfr,F .ready none,own]))++ext'∧I l')∧(b=false→∃ c,st2=(st++(l'++[.dfr,F .done (some c),own]))++ext'∧D c l'):=by
 refine qp0 hF (qcv hl) rt fun rd=>?_;have h:=h rd;rw [List.append_nil] at h;refine h.mono fun e s1 hq=>?_
 cases e with
 |normal=>
  obtain⟨new,h1,h2,h3⟩:=hq;refine⟨by rw [h1,List.append_assoc];exact qcv hl,h2,?_⟩
  have e:s1.st.set (st.length+(n+1)) (F .busy none)=((st++(l++[.dfr,F .busy none,own]))++ext)++new:=by
   rw [h1,List.append_assoc,qez hl,List.append_assoc _ ext]
  rw [e];refine h3.mono fun e s2 s6=>?_
  cases e with
  |normal=>
   obtain⟨l',ext',new',k1,k2⟩:=s6
   exact⟨by rw [k1,List.append_assoc];exact qcv (hI _ k2),l',ext'++new',fun _=>⟨by rw [k1,List.append_assoc,qez (hI _ k2)],k2⟩,nofun⟩
  |ret=>
   obtain⟨l',ext',new',k1,k2⟩:=s6
   exact⟨by rw [k1,List.append_assoc];exact qcv (hD _ _ k2),l',ext'++new',nofun,fun _=>⟨_,by rw [k1,List.append_assoc,qez (hD _ _ k2)],k2⟩⟩
  |exit id=>
   obtain⟨l',ext',new',k1,k2⟩:=s6
   exact⟨by rw [k1,List.append_assoc];exact qcv (hD _ _ k2),l',ext'++new',nofun,fun _=>⟨_,by rw [k1,List.append_assoc,qez (hD _ _ k2)],k2⟩⟩
  | _=>exact s6.elim
 | _=>exact hq.elim
end Go.Av
namespace Go.Pl
open Go Go.Proofs
abbrev Fld:=qc×qc
def qbf (s:qc):Prop:=∀ c∈s,vv c
instance (s:qc):Decidable (qbf s):=inferInstanceAs (Decidable (∀ c∈s,vv c))
def vl (s:qc):qc:=if qbf s∨s.head? = some 46 then 46::s else s
def jw (key p:qc):qc:=key++[58]++if p=[] then [] else [32]++p
def zk (f:Fld):List qc:=jw f.1 ((qz f.2).headD [])::(qz f.2).tail.map fun s=>[32]++vl s
def zf (ls:List qc):qc:=ls.flatMap fun s=>s++[10]
def z7 (xs:List Fld):qc:=xs.flatMap fun f=>zf (zk f)
def kj (f:Fld):Int:=if ¬ yr f.1 then 5 else if 1000<f.2.length then 6 else 0
def jt (f:Fld):Prop:=yr f.1∧f.2.length≤1000
instance (f:Fld):Decidable (jt f):=inferInstanceAs (Decidable (_∧_))
theorem qbg (f:Fld):kj f=0↔jt f:=by
 unfold kj jt;by_cases h:yr f.1
 ·by_cases h2:1000<f.2.length
  ·simp [h,h2]
  ·simp [h,h2];omega
 ·simp [h]
def v6 (c:UInt8) (l:qc):qc:=if l.head? = some c then l.drop 1 else l
theorem qux (c:UInt8) (l:qc):Lib.trimPrefix l [c]=v6 c l:=by
 unfold Lib.trimPrefix v6;rw [qmh];simp
def qal (l:qc) (r:List qc):qc:=v6 32 (kg l)++r.flatMap fun s=>[10]++v6 46 (s.drop 1)
def qq2 (ls:List qc):Prop:=ls≠[]∧qs (ls.headD [])=4∧∀ s∈ls.tail,qs s=3
instance (ls:List qc):Decidable (qq2 ls):=inferInstanceAs (Decidable (_∧_∧_))
def zq (ls:List qc):Fld×Int:=
 if qq2 ls then
  if 1000<(qal (ls.headD []) ls.tail).length then (([],[]),6) else ((zx (ls.headD []),qal (ls.headD []) ls.tail),0)
 else (([],[]),2)
theorem qfh (l:qc):qz l≠[]:=by
 by_cases h:10∈l
 ·rw [xz h];simp
 ·rw [x2 h];simp
theorem qlr (l:qc):qz l=(qz l).headD []::(qz l).tail:=by
 cases h:qz l with
 |nil=>exact absurd h (qfh l)
 |cons a r=>rfl
theorem qhj:∀ (n:Nat) (l:qc),l.length≤n→(qz l).headD []++(qz l).tail.flatMap (fun s=>[10]++s)=l
 |n,l,hn=>by
  by_cases h:10∈l
  ·rw [xz h]
   have b8:l≠[]:=fun e=>by subst e;simp at h
   have d6:=xi (c:=10) b8
   cases n with
   |zero=>omega
   |succ n=>
    have ih:=qhj n (past 10 l) (by omega);simp only [List.headD_cons,List.tail_cons];rw [qlr (past 10 l)];simp only [List.flatMap_cons];rw [List.append_assoc,ih];have:=qab h;simp [← this]
  ·rw [x2 h];simp
theorem qdi (l:qc):∀ x∈qz l,10∉x:=fun x hx=>(qgz l.length l (Nat.le_refl _) x hx).2
theorem qdw (l:qc):∀ x∈qz l,x.length≤l.length:=fun x hx=>(qgz l.length l (Nat.le_refl _) x hx).1
theorem qqb (l:qc):(qz l).headD []∈qz l:=by
 have h:=qfh l
 cases e:qz l with
 |nil=>exact absurd e h
 |cons a r=>simp
theorem q3o (s:qc):v6 46 (vl s)=s:=by
 unfold vl v6;by_cases h:qbf s∨s.head? = some 46
 ·rw [if_pos h];simp
 ·rw [if_neg h,if_neg (fun h'=>h (.inr h'))]
theorem qut (s:qc):¬ qbf (vl s):=by
 unfold vl;by_cases h:qbf s∨s.head? = some 46
 ·rw [if_pos h]
  intro h';have:=h' 46 (by simp);revert this;decide
 ·rw [if_neg h]
  exact fun h'=>h (.inl h')
theorem qti {s:qc} (h:10∉s):10∉vl s:=by
 unfold vl;split
 ·simp [h]
 ·exact h
theorem qwv (s:qc):(vl s).length≤s.length+1:=by
 unfold vl;split <;> simp
theorem qv6 (s:qc) (h:10∉s):qs ([32]++vl s)=3:=by
 have hn:=qti h;have hb:=qut s;unfold qs;have f9:10∉([32]++vl s):=by simp [hn]
 rw [if_neg f9,if_neg (fun h'=>hb fun c hc=>h' c (by simp [hc])),if_neg (by simp),if_pos ⟨32,by simp,.inl rfl⟩]
theorem qj4 {k r:qc} (h:58∉k):zx (k++[58]++r)=k:=by
 unfold zx
 induction k with
 |nil=>simp
 |cons a k ih=>
  simp only [List.mem_cons,not_or] at h;have:(58:UInt8)≠a:=h.1;simp only [List.cons_append,List.takeWhile_cons];rw [if_pos (by simpa using fun e=>this e.symm)];rw [ih h.2]
theorem q1e {k r:qc} (h:58∉k):kg (k++[58]++r)=r:=by
 unfold kg;rw [qj4 h];rw [List.drop_append_of_le_length (by simp)];simp
theorem qjd {k:qc} (h:yr k):∃ c,k.head? = some c∧¬ vv c∧c≠35:=by
 obtain⟨h1,h2,h3,h4,h5,h6⟩:=h
 cases k with
 |nil=>exact absurd rfl h1
 |cons a r=>exact⟨a,rfl,fun hb=>h3 ⟨a,rfl,hb⟩,fun e=>h4 (by simp [e])⟩
theorem qv5 {k p:qc} (h:yr k) (hp:10∉p):qs (jw k p)=4:=by
 obtain⟨c,hc,hb,h35⟩:=qjd h;have hk10:10∉k:=h.2.2.2.2.2;have hk58:58∉k:=h.2.2.2.2.1
 have hh:(jw k p).head? = some c:=by
  unfold jw
  cases k with
  |nil=>simp at hc
  |cons a r=>simpa using hc
 have e:jw k p=k++[58]++(if p=[] then [] else [32]++p):=rfl
 have f9:10∉jw k p:=by
  rw [e];split <;> simp [hk10,hp]
 have mj:c∈jw k p:=List.mem_of_head? hh;unfold qs;rw [if_neg f9,if_neg (fun h'=>hb (h' c mj)),if_neg (by rw [hh];simpa using h35),if_neg (fun ⟨d,hd,t7⟩=>by rw [hh] at hd;cases hd;exact hb t7)];rw [if_pos];refine⟨by rw [e];simp,?_⟩;rw [e,qj4 hk58];exact h
theorem q9d (k p:qc) (h:58∉k):v6 32 (kg (jw k p))=p:=by
 unfold jw;rw [q1e h];by_cases hp:p=[]
 ·rw [if_pos hp];simp [v6,hp]
 ·rw [if_neg hp];simp [v6]
theorem qmi {f:Fld} (h:jt f):zq (zk f)=(f,0):=by
 obtain⟨hk,hv⟩:=h;have hk58:58∉f.1:=hk.2.2.2.2.1;have f9:=qdi f.2
 have mv:qal (jw f.1 ((qz f.2).headD [])) ((qz f.2).tail.map fun s=>[32]++vl s)=f.2:=by
  unfold qal;rw [q9d _ _ hk58]
  have:((qz f.2).tail.map fun s=>[32]++vl s).flatMap (fun s=>[10]++v6 46 (s.drop 1))=(qz f.2).tail.flatMap (fun s=>[10]++s):=by
   rw [List.flatMap_map];congr 1;funext s;simp [q3o]
  rw [this,qhj _ _ (Nat.le_refl _)]
 unfold zq zk;rw [if_pos]
 ·simp only [List.headD_cons,List.tail_cons]
  refine (if_neg (by rw [mv];omega)).trans ?_;have:zx (jw f.1 ((qz f.2).headD []))=f.1:=qj4 hk58;rw [this,mv]
 ·refine⟨by simp,?_,?_⟩
  ·simp only [List.headD_cons]
   exact qv5 hk (f9 _ (qqb _))
  ·intro s hs
   simp only [List.tail_cons,List.mem_map] at hs;obtain⟨x,hx,rfl⟩:=hs;exact qv6 x (f9 x (List.mem_of_mem_tail hx))
end Go.Pl
namespace Go.Av
open Go Go.RowKit
section
variable {E : Env} {rd : Option Nat} {N : Nat} {ops : Array Oper} {K : AS → Prop} {s : AS} {rest : List Oper} {d : Option Tmp} {T : TypeId} {p : String} {af : Array Edge}
theorem yi {t e:TypeId} {len sz:Nat} {agg:Bool} {parts:Array (Nat×Operand)} {zs cs:List AV} {st loc:List AObj} (d8:s.st=st++loc) (hu:E.P.underlying t=some (.slice e)) (ht:tyOf E.P e=some (sz,agg)) (hz:qdy E.P e len=some zs)
  (hf:qb8 (fun i=>some (i * sz,sz)) zs (vi N s parts)=some cs) (f8:Nat.ble (len * sz) 16777216=true)
  (h:AOps E rd N ops rest K (AS.put ⟨s.t,st++(loc++[.cells 0 e cs]),s.df⟩ d (.os (st.length+loc.length) 0 0 len len))):AOps E rd N ops (⟨d,.buildSlice t len parts,T,p,af,none⟩::rest) K s:=by
 refine q7 rfl (qy nofun fun B0 w0 G a w _ hI=>?_);obtain⟨c',a8,h2⟩:=qkk (d:=d) (T:=T) (p:=p) (af:=af) hI hu ht hz hf f8;have hA:=hI.agree.newCells e c' cs h2.1 h2.2;have hn:=hI.agree.n;rw [d8] at hA hn;simp only [List.append_assoc,List.length_append] at hA hn;exact⟨_,_,_,_,_,a8,G.le_new _ _ _ _,hA,.os _ _ _ _ _ _ (by simp [Gh.new,hn]) (Nat.zero_le _) (fun _=>by simp [Gh.new,hn]),h⟩
theorem zi.ownTip {B0:Nat} {w0:World} {G:Gh} {st:List AObj} {w:World} (h:zi B0 w0 G st w) {o sz len cap:Nat} {T:TypeId} {cs:List AV} {xs:List AV} (ho:st[o]? = some (.cells 0 T cs)) (hc:cs.length=cap * sz) (c8:xs.length=len) (h0:0<len) (d5:len≤cap) (gd:cap≤maxLen) (hw:∀ x∈xs,x.cells.length=sz) (i3:flat xs=cs.take (len * sz)) :
  ∃ G',G.le G'∧zi B0 w0 G' (st.set o (.tip len sz T)) w∧Rel G' (.sl sz xs (some o)) (.slice (some ⟨(G.ob o).blk,0,none⟩) len cap):=by
 subst c8;have rq:=lt_of_getElem? ho;obtain⟨g0,g1,g2,g3,c,g4,g5,g6⟩:=h.ob o _ ho;have m7:G.le (G.publish (G.ob o).blk (c.toList.take (xs.length * sz))):=G.le_publish _ _ [] [] (.inl g3)
 -- dead, published
 have key:∀ (k:Nat) (x:AObj),(st.set o .dead)[k]? = some x→x = .dead∨(k≠o∧st[k]? = some x):=fun k x hx=>by
  rcases getElem?_set' _ _ _ _ _ hx with⟨_,e⟩|e
  ·exact .inl e
  ·exact .inr e
 have bq:zi B0 w0 (G.publish (G.ob o).blk (c.toList.take (xs.length * sz))) (st.set o .dead) w:=by
  refine⟨h.below,h.hB,by simp [h.n,Gh.publish],fun b vs hb=>?_,fun k x hx=>?_,fun k k' x x' b8 hx e7 hl n9=>?_⟩
  ·simp only [Gh.publish] at hb
   by_cases e:b=(G.ob o).blk
   ·rw [if_pos e] at hb
    cases hb
    subst e;refine⟨c,T,(0,0),g4,fun i y hy=>?_⟩;rw [List.getElem?_take] at hy;split at hy
    ·simpa using hy
    ·simp at hy
   ·rw [if_neg e] at hb
    exact h.pub b vs hb
  ·rcases key k x hx with rfl | ⟨hk,hx⟩
   ·trivial
   ·refine (h.ob k x hx).mono m7 rfl (fun hl=>?_) (fun _=>rfl)
    have:=h.sep k o x _ hk hx ho hl trivial;simp [Gh.publish,this]
  ·rcases key k x hx with rfl | ⟨hk,hx⟩
   ·exact hl.elim
   ·rcases key k' x' e7 with rfl | ⟨m0,e7⟩
    ·exact n9.elim
    ·exact h.sep k k' x x' b8 hx e7 hl n9
 have pg:(c.toList.take (xs.length * sz)).length=xs.length * sz:=by
  have:xs.length * sz≤cap * sz:=Nat.mul_le_mul_right _ d5;simp;omega
 obtain⟨o0,bp⟩:=bq.setTip (t:=o) (n:=0) (n':=xs.length) (k:=(G.ob o).blk) (cap:=c.size) (sz:=sz) (T:=T) (c:=c) (vs:=c.toList.take (xs.length * sz)) (by simp [rq]) g0 g1 h0 g4 (by simp [Gh.publish]) pg rfl g2 (fun k x hx hl=>by
  rcases key k x hx with rfl | ⟨hk,hx⟩
  ·exact hl.elim
  ·exact h.sep k o x _ hk hx ho hl trivial)
 rw [List.set_set] at bp;refine⟨_,m7.trans o0,bp,?_⟩;have hgn:o<G.n:=by rw [h.n];exact rq
 refine .sl sz xs (some o) (G.ob o).blk 0 cap (c.toList.take (xs.length * sz)) (by simp [Gh.setOb,Gh.publish]) hw (by rw [i3,pg];simp;omega) (fun i x y h1 h2=>?_) (fun t ht=>?_) (by omega)
 ·rw [i3] at h1
  rw [Nat.zero_add] at h2;rw [List.getElem?_take] at h1 h2;split at h1
  ·rename_i hi
   rw [if_pos hi] at h2;exact ((g6 i x y h1 (by simpa using h2)).mono m7).mono o0
  ·simp at h1
 ·simp only [Option.some.injEq] at ht
  subst ht;refine⟨by simpa [Gh.setOb,Gh.publish] using hgn,by omega,by simp [Gh.setOb],fun _=>⟨by simp [Gh.setOb],rfl,by simp [Gh.setOb,← g5,hc],gd,by omega⟩⟩
theorem Inv.osTip {B0:Nat} {w0:World} {G:Gh} {a:Act} {w:World} (h:Inv B0 w0 N G s a w) {i o sz len cap:Nat} {T':TypeId} {cs xs:List AV} (hi:s.t i = .os o 0 0 len cap) (ho:s.st[o]? = some (.cells 0 T' cs)) (hc:cs.length=cap * sz) (c8:xs.length=len) (h0:0<len) (d5:len≤cap) (gd:cap≤maxLen) (hw:∀ x∈xs,x.cells.length=sz) (i3:flat xs=cs.take (len * sz)) :
  ∃ G',G.le G'∧Inv B0 w0 N G' ⟨Av.put s.t i (.sl sz xs (some o)),s.st.set o (.tip len sz T'),s.df⟩ a w:=by
 obtain⟨G',hG,hA,hR⟩:=h.agree.ownTip ho hc c8 h0 d5 gd hw i3;obtain⟨_,g1,_⟩:=h.agree.ob o _ ho;refine⟨G',hG,hA,h.defers_mono hG,h.size,fun j y hy=>?_⟩;have hj:=h.tmps j y hy;by_cases e:j=i
 ·subst e
  simp only [wi];rw [hi] at hj
  cases hj with
  |os _ _ _ _ b _ hn hv hb=>
   have hb:=hb g1;subst hb;exact hR
 ·simp only
  rw [yh _ _ _ _ e];exact hj.mono hG
theorem q8a {c:Code} {Q:Exit→AS→Prop} (i:Nat) {o sz len cap:Nat} {T':TypeId} {cs xs:List AV} (hi:s.t i = .os o 0 0 len cap) (ho:s.st[o]? = some (.cells 0 T' cs)) (hc:cs.length=cap * sz) (c8:xs.length=len) (h0:0<len) (d5:len≤cap) (gd:cap≤maxLen) (hw:∀ x∈xs,x.cells.length=sz) (i3:flat xs=cs.take (len * sz))
  (h:AWp E rd N c Q ⟨Av.put s.t i (.sl sz xs (some o)),s.st.set o (.tip len sz T'),s.df⟩):AWp E rd N c Q s:=
 ⟨fun B0 w0 G a w hL hI=>let ⟨G1,h1,h2⟩:=hI.osTip hi ho hc c8 h0 d5 gd hw i3;wpIn_mono (h.run B0 w0 _ a w hL h2) fun _ _ _ ⟨G',s',hG,k1,k2⟩=>⟨G',s',h1.trans hG,k1,k2⟩⟩
theorem q5i {l:List Oper} (i:Nat) {o sz len cap:Nat} {T':TypeId} {cs xs:List AV} (hi:s.t i = .os o 0 0 len cap) (ho:s.st[o]? = some (.cells 0 T' cs)) (hc:cs.length=cap * sz) (c8:xs.length=len) (h0:0<len) (d5:len≤cap) (gd:cap≤maxLen) (hw:∀ x∈xs,x.cells.length=sz) (i3:flat xs=cs.take (len * sz))
  (h:AOps E rd N ops l K ⟨Av.put s.t i (.sl sz xs (some o)),s.st.set o (.tip len sz T'),s.df⟩):AOps E rd N ops l K s:=
 ⟨fun B0 w0 G a w hL hI Q hQ=>let ⟨G1,h1,h2⟩:=hI.osTip hi ho hc c8 h0 d5 gd hw i3;h.run B0 w0 _ a w hL h2 Q fun G' s' a' w' hG k1 k2=>hQ G' s' a' w' (h1.trans hG) k1 k2⟩
theorem Inv.osPub {B0:Nat} {w0:World} {G:Gh} {a:Act} {w:World} (h:Inv B0 w0 N G s a w) {i o ver off sz len cap:Nat} {T':TypeId} {cs xs:List AV} (hi:s.t i = .os o ver off len cap) (ho:s.st[o]? = some (.cells ver T' cs)) (c8:xs.length=len) (d5:len≤cap) (hw:∀ x∈xs,x.cells.length=sz) (fc:off+len * sz≤cs.length) (i3:flat xs=(cs.drop off).take (len * sz)) :
  ∃ G',G.le G'∧Inv B0 w0 N G' ⟨Av.put s.t i (.sl sz xs none),s.st.set o .dead,s.df⟩ a w:=by
 obtain⟨vs,m7,hA,hv,hp,hl,hr⟩:=h.agree.pubOb ho;refine⟨_,m7,hA,h.defers_mono m7,h.size,fun j y hy=>?_⟩;have hj:=h.tmps j y hy;by_cases e:j=i
 ·subst e
  simp only [wi];rw [hi] at hj
  cases hj with
  |os _ _ _ _ b _ hn r7 hb=>
   have hb:=hb hv;subst hb;rw [← c8];refine .sl sz xs none _ off cap vs hp hw (by rw [i3];simp;omega) (fun k x y hx hy=>?_) (fun t ht=>by simp at ht) (by omega);rw [i3,List.getElem?_take] at hx;split at hx
   ·rw [List.getElem?_drop] at hx
    exact hr _ x y hx hy
   ·simp at hx
 ·simp only
  rw [yh _ _ _ _ e];exact hj.mono m7
theorem q71 {l:List Oper} (i:Nat) {x r:AV} (hi:s.t i=x) (hw:∀ G v,Rel G x v→Rel G r v) (h:AOps E rd N ops l K ⟨Av.put s.t i r,s.st,s.df⟩):AOps E rd N ops l K s:=
 ⟨fun B0 w0 G a w hL hI Q hQ=>h.run B0 w0 G a w hL ⟨hI.agree,hI.defers,hI.size,fun j y hy=>by
  have hj:=hI.tmps j y hy;by_cases e:j=i
  ·subst e;simp only [wi];rw [hi] at hj;exact hw G y hj
  ·simp only;rw [yh _ _ _ _ e];exact hj⟩ Q hQ⟩
theorem qtd {P:Program} {t e:TypeId} {sz:Nat} {agg:Bool} (hu:P.underlying t=some (.slice e)) (ht:tyOf P e=some (sz,agg)) (a:Option Addr) (len cap:Nat) (lo hi:Option Value) (i j:Nat) (w:World)
  (s8:match lo with|none=>i=0|some v=>∃ k,v = .int k (i:Int)) (p5:match hi with|none=>j=len|some v=>(∃ k,v = .int k (j:Int))∧j≤cap) (h1:i≤j) :
  (Instr.slice t (.slice a len cap) lo hi none).run P w = .ok (.slice (if cap=i then a else a.map (·.add (i * sz))) (j - i) (cap - i)) w:=by
 have hs:=(kw ht w).1
 cases lo with
 |none=>
  simp only at s8;subst s8
  cases hi with
  |none=>
   simp only at p5;subst p5
   simp [Instr.slice,run_underlying hu,Instr.sliceBounds,hs]
  |some v=>
   obtain⟨⟨k,rfl⟩,h2⟩:=p5
   simp [Instr.slice,run_underlying hu,Instr.sliceBounds,Instr.sliceBound,asIntOf,hs,h2]
 |some u=>
  obtain⟨k',rfl⟩:=s8
  cases hi with
  |none=>
   simp only at p5;subst p5
   simp [Instr.slice,run_underlying hu,Instr.sliceBounds,Instr.sliceBound,asIntOf,hs,h1]
  |some v=>
   obtain⟨⟨k,rfl⟩,h2⟩:=p5;simp [Instr.slice,run_underlying hu,Instr.sliceBounds,Instr.sliceBound,asIntOf,hs,h1,h2]
theorem qs8 {G:Gh} {sz:Nat} {xs:List AV} {tip:Option Nat} {a:Option Addr} {len cap:Nat} (h:Rel G (.sl sz xs tip) (.slice a len cap)) {i j:Nat} (h1:i≤j) (h2:j≤xs.length) :
  len=xs.length∧len≤cap∧Rel G (.sl sz ((xs.take j).drop i) none) (.slice (if cap=i then a else a.map (·.add (i * sz))) (j - i) (cap - i)):=by
 cases h with
 |sl0=>
  simp at h2;subst h2;have:i=0:=by omega
  subst this;refine⟨rfl,Nat.zero_le _,?_⟩;simp
  exact .sl0 sz none _ _ (by simp)
 |sl _ _ _ b off cap pub hp hw c8 hr ht i8=>
  refine⟨rfl,i8,?_⟩;have hl:((xs.take j).drop i).length=j - i:=by simp;omega
  by_cases s3:j=i
  ·subst s3
   have e:(xs.take j).drop j=[]:=List.length_eq_zero_iff.1 (by rw [hl];omega);rw [e,Nat.sub_self];exact .sl0 sz none _ _ (by simp)
  ·have b8:cap≠i:=by omega
   rw [if_neg b8];simp only [Option.map_some];have m8:Addr.add ⟨b,off,none⟩ (i * sz)=⟨b,off+i * sz,none⟩:=Addr.add_lit ..;rw [m8,← hl];have l7:∀ x∈(xs.take j).drop i,x.cells.length=sz:=fun x hx=>hw x (List.mem_of_mem_take (List.mem_of_mem_drop hx));have dt:(flat xs).length=xs.length * sz:=zo hw
   have o9:flat xs=flat (xs.take i)++flat ((xs.take j).drop i)++flat (xs.drop j):=by
    have e:xs.take i++(xs.take j).drop i=xs.take j:=by
     conv=>rhs;rw [← List.take_append_drop i (xs.take j),List.take_take,Nat.min_eq_left h1]
    rw [← wg,← wg,e,List.take_append_drop]
   have hti:(flat (xs.take i)).length=i * sz:=by
    rw [zo (fun x hx=>hw x (List.mem_of_mem_take hx)),List.length_take,Nat.min_eq_left (by omega)]
   have hmid:(flat ((xs.take j).drop i)).length=(j - i) * sz:=by rw [zo l7,hl]
   refine .sl sz _ none b (off+i * sz) (cap - i) pub hp l7 ?_ (fun k x y hx hy=>?_) (fun t ht=>by simp at ht) (by rw [hl];omega)
   ·have:=congrArg List.length o9
    simp only [List.length_append] at this;omega
   ·refine hr (i * sz+k) x y ?_ (by rw [← hy];congr 1;omega)
    have hk:=lt_of_getElem? hx;rw [o9,List.append_assoc,List.getElem?_append_right (by omega),hti,Nat.add_sub_cancel_left,List.getElem?_append_left hk];exact hx
theorem q19 {x:Operand} {t e:TypeId} {lo hi:Option Operand} {sz:Nat} {agg:Bool} {xs ys:List AV} {tip:Option Nat} {i j:Nat} (hx:qj N s x = .sl sz xs tip) (hu:E.P.underlying t=some (.slice e)) (ht:tyOf E.P e=some (sz,agg))
  (s8:match lo with|none=>i=0|some y=>∃ k,qj N s y = .v (.int k (i:Int))) (p5:match hi with|none=>j=xs.length|some y=>∃ k,qj N s y = .v (.int k (j:Int))) (h1:i≤j) (h2:j≤xs.length) (hy:(xs.take j).drop i=ys)
  (h:AOps E rd N ops rest K (s.put d (.sl sz ys none))):AOps E rd N ops (⟨d,.slice t x lo hi none,T,p,af,none⟩::rest) K s:=by
 subst hy;refine q7 rfl (qy nofun fun B0 w0 G a w _ hI=>?_);have he:=hI.eval_of hx;generalize hv:a.eval x=v at he;have dv:∃ b len cap,v = .slice b len cap:=by cases he <;> exact⟨_,_,_,rfl⟩
 obtain⟨b,len,cap,rfl⟩:=dv;obtain⟨hl,hlc,hr⟩:=qs8 he h1 h2;refine⟨_,w,G,_,s.st,?_,.refl G,hI.agree,hr,h⟩
 have a8:=qtd hu ht b len cap (lo.map a.eval) (hi.map a.eval) i j w (by
  cases lo with
  |none=>exact s8
  |some y=>obtain⟨k,hy⟩:=s8;exact⟨k,hI.evalv hy⟩) (by
  cases hi with
  |none=>simp only at p5;simp only [Option.map_none];omega
  |some y=>obtain⟨k,hy⟩:=p5;exact⟨⟨k,hI.evalv hy⟩,by omega⟩) h1
 generalize a.eval = ρ at hv a8;simp only [execOp,hv];simp [Instr.sliceAt,run_underlying hu,a8]
theorem qkf {x y:Operand} {t e:TypeId} {sz:Nat} {agg:Bool} {xs ys:List AV} {tip:Option Nat} {k:IntKind} {i:Nat} (hx:qj N s x = .sl sz xs tip) (hy:qj N s y = .v (.int k (i:Int))) (hu:E.P.underlying t=some (.slice e)) (ht:tyOf E.P e=some (sz,agg)) (h1:i≤xs.length) (hz:xs.drop i=ys)
  (h:AOps E rd N ops rest K (s.put d (.sl sz ys none))):AOps E rd N ops (⟨d,.slice t x (some y) none none,T,p,af,none⟩::rest) K s:=
 q19 (i:=i) (j:=xs.length) hx hu ht ⟨k,hy⟩ rfl h1 (Nat.le_refl _) (by rw [List.take_length];exact hz) h
end
end Go.Av
namespace Go.Av
open Go Go.RowKit
inductive Vec (sz:Nat) (T:TypeId) (o:Nat) (xs:List AV):AV→AObj→Prop
 |nil (h:xs=[]):Vec sz T o xs zy (.tip 0 sz T)
 |os (ver cap:Nat) (pad:List AV) (hl:(flat xs++pad).length=cap * sz) (hw:∀ x∈xs,x.cells.length=sz) (d5:xs.length≤cap) (gd:cap≤maxLen):Vec sz T o xs (.os o ver 0 xs.length cap) (.cells ver T (flat xs++pad))
section
variable {B0 : Nat} {w0 : World} {G : Gh} {st : List AObj} {w : World}
theorem zi.setCells (h:zi B0 w0 G st w) {t k cap v':Nat} {T:TypeId} {cs:List AV} (ht:st[t]? = some .dead) (hraw:(G.ob t).raw=false) (p8:(G.ob t).ver<v')
  {c:Array Value} (hc:w.heap[k]? = some (.cells c T (0,0))) (hp:G.pub k=none) (hl:cs.length=c.size) (hr:∀ (i:Nat) (x:AV) (y:Value),cs[i]? = some x→c[i]? = some y→Rel G x y) (hk:B0≤k) (hs:∀ o x,st[o]? = some x→x.live→(G.ob o).blk≠k) :
  G.le (G.setOb t ⟨v',k,cap,false⟩)∧zi B0 w0 (G.setOb t ⟨v',k,cap,false⟩) (st.set t (.cells v' T cs)) w:=by
 have d5:=G.le_setOb t ⟨v',k,cap,false⟩ p8 hraw;have u7:∀ o,o≠t→(G.setOb t ⟨v',k,cap,false⟩).ob o=G.ob o:=fun o ho=>by simp [Gh.setOb,ho]
 have p7:(G.setOb t ⟨v',k,cap,false⟩).ob t=⟨v',k,cap,false⟩:=by simp [Gh.setOb]
 refine⟨d5,h.below,h.hB,by simp [h.n,Gh.setOb],h.pub,fun o x hx=>?_,fun o o' x x' b8 hx e7 o7 ck=>?_⟩
 ·rcases getElem?_set' _ _ _ _ _ hx with⟨rfl,rfl⟩ | ⟨ho,hx⟩
  ·exact⟨by rw [p7],by rw [p7],by rw [p7];exact hk,by rw [p7];exact hp,c,by rw [p7];exact hc,hl,fun i x y h1 h2=>(hr i x y h1 h2).mono d5⟩
  ·exact (h.ob o x hx).mono d5 (u7 o ho) (fun _=>rfl) (fun _=>rfl)
 ·rcases getElem?_set' _ _ _ _ _ hx with⟨e1,e2⟩ | ⟨ho,hx⟩
  ·rcases getElem?_set' _ _ _ _ _ e7 with⟨e3,_⟩ | ⟨d7,e7⟩
   ·exact absurd (e1.trans e3.symm) b8
   ·rw [e1,p7,u7 o' d7]
    exact (hs o' x' e7 ck).symm
  ·rcases getElem?_set' _ _ _ _ _ e7 with⟨e3,_⟩ | ⟨d7,e7⟩
   ·rw [e3,p7,u7 o ho]
    exact hs o x hx o7
   ·rw [u7 o ho,u7 o' d7]
    exact h.sep o o' x x' b8 hx e7 o7 ck
theorem yq {G:Gh} {cs ds:List AV} {vs us:List Value} (hl:cs.length=vs.length) (h1:∀ (i:Nat) (x:AV) (y:Value),cs[i]? = some x→vs[i]? = some y→Rel G x y) (h2:∀ (i:Nat) (x:AV) (y:Value),ds[i]? = some x→us[i]? = some y→Rel G x y) :
  ∀ (i:Nat) (x:AV) (y:Value),(cs++ds)[i]? = some x→(vs++us)[i]? = some y→Rel G x y:=fun i x y hx hy=>by
 by_cases hi:i<cs.length
 ·rw [List.getElem?_append_left hi] at hx
  rw [List.getElem?_append_left (by omega)] at hy;exact h1 i x y hx hy
 ·rw [List.getElem?_append_right (by omega)] at hx
  rw [List.getElem?_append_right (by omega),← hl] at hy;exact h2 _ x y hx hy
theorem qgx {P:Program} (hA:zi B0 w0 G st w) {tt u ty T:TypeId} {du:TypeDesc} (htt:P.underlying tt=some (.slice T)) (hu:P.underlying u=some du) (hd:qhy du)
  {sz bytes:Nat} (hT:w7 P T sz bytes) {o:Nat} {xs ys:List AV} {a:AV} {ob:AObj} {v x:Value} (hV:Vec sz T o xs a ob) (ho:st[o]? = some ob) (hv:Rel G a v)
  {news:List Value} (hx:Src P w x ys.length sz news) (pj:∀ y∈ys,y.cells.length=sz) (f0:∀ (i:Nat) (a:AV) (b:Value),(flat ys)[i]? = some a→news[i]? = some b→Rel G a b)
  (l9:xs.length+ys.length≤maxLen) (br:(xs.length+ys.length) * bytes≤140737488355328) :
  ∃ v' w' G' a' ob',(Builtin.append_ #[tt,u] ty #[v,x]).run P w = .ok v' w'∧G.le G'∧zi B0 w0 G' (st.set o ob') w'∧Rel G' a' v'∧Vec sz T o (xs++ys) a' ob':=by
 obtain⟨i,z,hi,hz,rfl,rfl,cm⟩:=hT.ex;have rq:=lt_of_getElem? ho;have htn:o<G.n:=by rw [hA.n];exact rq
 have hraw:(G.ob o).raw=false:=by
  have:=hA.ob o _ ho
  cases hV with
  |nil h=>exact this.1
  |os=>exact this.1
 have hk:=hA.kill o;have gj:(st.set o .dead)[o]? = some .dead:=x3 ho
 have i4:∀ k x,(st.set o .dead)[k]? = some x→x.live→k≠o∧st[k]? = some x:=fun k x hx hl=>by
  rcases getElem?_set' _ _ _ _ _ hx with⟨_,e⟩ | ⟨h1,h2⟩
  ·subst e;exact hl.elim
  ·exact⟨h1,h2⟩
 have g8:st.set o ob=st:=by
  apply List.ext_getElem?;intro k;by_cases e:o=k
  ·subst e;rw [List.getElem?_set_self rq];exact ho.symm
  ·rw [List.getElem?_set_ne e]
 have mc:(flat ys).length=ys.length * i.size:=zo pj
 have grow:∀ (base:Option Addr) (c:Nat) (olds:List Value),(Builtin.firstCells i.size xs.length (.slice base xs.length c)).run P w.drew = .ok olds.toArray w.drew→c<xs.length+ys.length→olds.length=xs.length * i.size→(∀ x∈xs,x.cells.length=i.size) →
   (∀ (j:Nat) (a:AV) (b:Value),(flat xs)[j]? = some a→olds[j]? = some b→Rel G a b)→Builtin.nextslicecap (xs.length+ys.length) c * i.bytes≤281474976710656 →
   ∃ v' w' G' a' ob',(Builtin.append_ #[tt,u] ty #[.slice base xs.length c,x]).run P w = .ok v' w'∧G.le G'∧zi B0 w0 G' (st.set o ob') w'∧Rel G' a' v'∧Vec i.size T o (xs++ys) a' ob':=by
  intro base c olds d9 hc fm hwx tx e9;have dt:(flat xs).length=xs.length * i.size:=zo hwx;have a8:=qc5 (ty:=ty) htt hu hd hi hz hx base xs.length c olds d9 hc (by simp only [maxLen] at l9;omega) e9;have cw:=grownCap_ge w (xs.length+ys.length) c T;have d5:=grownCap_le_maxLen w (xs.length+ys.length) c T l9;generalize grownCap w (xs.length+ys.length) c T=cap at a8 cw d5;generalize hzc:(Builtin.zeroCells z.cells (cap - (xs.length+ys.length)))=zc at a8;have gp:zc.size=(cap - (xs.length+ys.length)) * i.size:=by rw [← hzc,size_zeroCells,cm]
  have m6:Below w.heap.size w w.drew:=⟨rfl,rfl,rfl,Nat.le_refl _,fun _ _=>rfl⟩
  have cg:(flat (xs++ys)++zc.toList.map AV.v).length=(olds.toArray++news.toArray++zc).size:=by
   rw [wg];simp [dt,mc,fm,hx.count];omega
  have bq:=(hk.fresh m6).fresh (w':=w.drew.alloc (.cells (olds.toArray++news.toArray++zc) T)) ⟨rfl,rfl,rfl,by simp [World.alloc],fun b hb=>yn _ _ _ hb⟩
  have hnp:G.pub w.heap.size=none:=by
   cases hp:G.pub w.heap.size with
   |none=>rfl
   |some vs=>exact absurd (hA.pub_lt hp) (Nat.lt_irrefl _)
  obtain⟨o0,bp⟩:=bq.setCells (t:=o) (k:=w.heap.size) (cap:=0) (v':=(G.ob o).ver+1) (T:=T) (cs:=flat (xs++ys)++zc.toList.map AV.v) gj hraw (Nat.lt_succ_self _) (ym w.drew _) hnp cg (by
   have h1:=yq (G:=G) (cs:=flat xs) (ds:=flat ys) (vs:=olds) (us:=news) (by omega) tx f0
   have h2:=yq (G:=G) (cs:=flat xs++flat ys) (ds:=zc.toList.map AV.v) (vs:=olds++news) (us:=zc.toList) (by simp [dt,mc,fm,hx.count]) h1 (fun j a b h1 h2=>by
    rw [List.getElem?_map,h2] at h1;simp at h1;subst h1
    exact .v _)
   rw [wg];intro j a b g1 g2
   exact h2 j a b g1 (by rw [← g2];simp [← Array.getElem?_toList])) hA.hB (fun k x hx hl=>by
   obtain⟨_,e7⟩:=i4 k x hx hl
   exact Nat.ne_of_lt ((hA.ob k x e7).lt hl))
  rw [List.set_set] at bp;refine⟨_,_,_,_,_,a8,o0,bp,.os o ((G.ob o).ver+1) 0 (xs.length+ys.length) w.heap.size cap (by simpa [Gh.setOb] using htn) (by simp [Gh.setOb]) (fun _=>by simp [Gh.setOb]),?_⟩
  have:=Vec.os (o:=o) (T:=T) (xs:=xs++ys) ((G.ob o).ver+1) cap (zc.toList.map AV.v) (sz:=i.size) (by
   have h1:zc.toList.length=(cap - (xs.length+ys.length)) * i.size:=by rw [← gp];simp
   rw [List.length_append,wg,List.length_append,dt,mc,List.length_map,h1,← Nat.add_mul,← Nat.add_mul];congr 1
   omega) (fun y hy=>by
   rcases List.mem_append.1 hy with h|h
   ·exact hwx y h
   ·exact pj y h) (by simpa using cw) d5
  rw [List.length_append] at this;exact this
 cases hV with
 |nil h=>
  subst h
  cases hv with
  |v _=>
  by_cases gk:ys.length=0
  ·have ld:ys=[]:=List.eq_nil_of_length_eq_zero gk
   subst ld;have fj:news=[]:=List.eq_nil_of_length_eq_zero (by simpa using hx.count);subst fj;exact⟨_,_,G,_,_,qbz htt hu hd hi hx none 0 0 (Nat.le_refl _),.refl G,by rw [g8];exact hA,.v _,.nil (by simp)⟩
  ·exact grow none 0 [] (by simp [run_firstCells_none]) (by simp;omega) (by simp) (by simp) (by simp [flat]) (by
    simp only [List.length_nil,Nat.zero_add] at br ⊢;rw [nextslicecap_zero (by omega)]
    omega)
 |os ver cap pad hl hw d5 gd=>
  obtain⟨g0,g1,g2,g3,c,g4,g5,g6⟩:=hA.ob o _ ho;have dt:(flat xs).length=xs.length * i.size:=zo hw
  cases hv with
  |os _ _ _ _ b _ hn r7 hb=>
  have hb:=hb g1;subst hb;have nq:c.size=cap * i.size:=by rw [← g5,hl]
  by_cases gk:ys.length=0
  ·have ld:ys=[]:=List.eq_nil_of_length_eq_zero gk
   subst ld;have fj:news=[]:=List.eq_nil_of_length_eq_zero (by simpa using hx.count);subst fj;exact⟨_,_,G,_,_,qbz htt hu hd hi hx _ xs.length cap d5,.refl G,by rw [g8];exact hA,.os _ _ _ _ _ _ hn r7 (fun _=>rfl),by rw [List.append_nil];exact .os ver cap pad hl hw d5 gd⟩
  ·by_cases i5:xs.length+ys.length≤cap
   ·have fg:(xs.length+ys.length) * i.size≤cap * i.size:=Nat.mul_le_mul_right _ i5
    rw [Nat.add_mul] at fg;have e9:xs.length * i.size+news.length≤c.size:=by rw [hx.count,nq];omega
    have a8:=qim (ty:=ty) htt hu hd hi hx (G.ob o).blk xs.length cap c g4 i5 e9
    have t6:pad.length=cap * i.size - xs.length * i.size:=by
     have:=hl;rw [List.length_append,dt] at this;omega
    have bp:=hA.setRow (cs':=flat (xs++ys)++pad.drop (ys.length * i.size)) (c':=(c.toList.take (xs.length * i.size)++news++c.toList.drop (xs.length * i.size+news.length)).toArray) ho (by
     rw [wg];simp [dt,mc,hx.count,t6,nq,Nat.min_eq_left d5]
     omega) (by
     have e1:∀ (j:Nat) (a:AV) (b:Value),(flat xs)[j]? = some a→(c.toList.take (xs.length * i.size))[j]? = some b→Rel G a b:=fun j a b h1 h2=>by
      have hj:=lt_of_getElem? h1;rw [List.getElem?_take_of_lt (by omega)] at h2;exact g6 j a b (by rw [List.getElem?_append_left hj];exact h1) (by simpa using h2)
     have e2:=yq (G:=G) (cs:=flat xs) (ds:=flat ys) (vs:=c.toList.take (xs.length * i.size)) (us:=news) (by simp;omega) e1 f0
     have e3:=yq (G:=G) (cs:=flat xs++flat ys) (ds:=pad.drop (ys.length * i.size)) (vs:=c.toList.take (xs.length * i.size)++news) (us:=c.toList.drop (xs.length * i.size+news.length)) (by
      simp [dt,mc,hx.count]
      omega) e2 (fun j a b h1 h2=>by
      rw [List.getElem?_drop] at h1 h2;refine g6 (xs.length * i.size+news.length+j) a b ?_ (by simpa using h2);rw [List.getElem?_append_right (by rw [dt];omega),dt,← h1,hx.count];congr 1
      omega)
     rw [wg];intro j a b h1 h2
     exact e3 j a b h1 (by simpa using h2))
    refine⟨_,_,G,_,_,a8,.refl G,bp,.os o ver 0 (xs.length+ys.length) _ cap hn r7 (fun _=>rfl),?_⟩
    have:=Vec.os (o:=o) (T:=T) (xs:=xs++ys) ver cap (pad.drop (ys.length * i.size)) (sz:=i.size) (by
     rw [List.length_append,wg,List.length_append,dt,mc,List.length_drop,t6]
     omega) (fun y hy=>by
     rcases List.mem_append.1 hy with h|h
     ·exact hw y h
     ·exact pj y h) (by simpa using i5) gd
    rw [List.length_append] at this;exact this
   ·refine grow (some ⟨(G.ob o).blk,0,none⟩) cap (c.toList.take (xs.length * i.size)) ?_ (by omega) (by
     have:xs.length * i.size≤cap * i.size:=Nat.mul_le_mul_right _ d5;simp
     omega) hw (fun j a b h1 h2=>?_) (growslice_fits (by omega) br)
    ·refine run_firstCells_some w.drew i.size xs.length ⟨(G.ob o).blk,0,none⟩ xs.length cap _ (by
      have:xs.length * i.size≤cap * i.size:=Nat.mul_le_mul_right _ d5;simp
      omega) fun j y hy=>?_
     have e1':w.drew.heap[(G.ob o).blk]? = some (.cells c T (0,0)):=g4;rw [Addr.add_lit];rw [List.getElem?_take] at hy;split at hy
     ·simp only [Array.getElem?_toList] at hy
      simp [World.cell?,e1',hy]
     ·simp at hy
    ·have hj:=lt_of_getElem? h1
     rw [List.getElem?_take_of_lt (by omega)] at h2;exact g6 j a b (by rw [List.getElem?_append_left hj];exact h1) (by simpa using h2)
end
section
variable {E : Env} {rd : Option Nat} {N : Nat} {ops : Array Oper} {K : AS → Prop} {s : AS} {rest : List Oper} {d : Option Tmp} {T : TypeId} {p : String} {af : Array Edge}
theorem qye {x y:Operand} {t u T':TypeId} {sz bytes o:Nat} {xs ys:List AV} {tip:Option Nat} {a:AV} {ob:AObj} (hx:qj N s x=a) (hy:qj N s y = .sl sz ys tip) (hV:Vec sz T' o xs a ob) (ho:s.st[o]? = some ob)
  (ht:E.P.underlying t=some (.slice T')) (hu:E.P.underlying u=some (.slice T')) (hT:w7 E.P T' sz bytes) (e8:jr (flat ys)=true) (l9:xs.length+ys.length≤maxLen) (hb:(xs.length+ys.length) * bytes≤140737488355328)
  (h:∀ a' ob',Vec sz T' o (xs++ys) a' ob'→AOps E rd N ops rest K (AS.put ⟨s.t,s.st.set o ob',s.df⟩ d a')):AOps E rd N ops (⟨d,.call ⟨.builtin .append,#[x,y],#[t,u]⟩,T,p,af,none⟩::rest) K s:=by
 refine q7 rfl (qy nofun fun B0 w0 G a0 w _ hI=>?_);obtain⟨news,h1,h2,h3⟩:=ya (P:=E.P) hI.agree (hI.eval_of hy) (by simpa [jr] using e8);obtain⟨v',w',G',a',ob',e1,e2,e3,e4,e5⟩:=qgx (ty:=T) hI.agree ht hu (.inr ⟨_,rfl⟩) hT hV ho (hI.eval_of hx) h1 h2 h3 l9 hb;refine⟨v',w',G',_,_,?_,e2,e3,e4,h a' ob' e5⟩;generalize a0.eval = ρ at e1;simp [execOp,resolve,invoke,builtin,e1]
theorem qto {sz:Nat} {T:TypeId} {o:Nat} {xs:List AV} {a:AV} {ob:AObj} (h:Vec sz T o xs a ob):(xs=[]∧a=zy∧ob = .tip 0 sz T)∨∃ ver cap pad,a = .os o ver 0 xs.length cap∧ob = .cells ver T (flat xs++pad)∧(flat xs++pad).length=cap * sz∧(∀ x∈xs,x.cells.length=sz)∧xs.length≤cap∧cap≤maxLen:=by
 cases h with
 |nil h=>exact .inl ⟨h,rfl,rfl⟩
 |os ver cap pad h1 h2 h3 h4=>exact .inr ⟨ver,cap,pad,rfl,rfl,h1,h2,h3,h4⟩
theorem qp7 {sz:Nat}:∀ {xs:List AV} {i:Nat} {x:AV},(∀ x∈xs,x.cells.length=sz)→x.cells.length=sz→i<xs.length→∀ pad,zr (flat xs++pad) (0+i * sz) x.cells=flat (xs.set i x)++pad
 | [],_,_,_,_,h,_=>by simp at h
 |y::xs,0,x,hw,hx,_,pad=>by
  have hy:=hw y (by simp);simp only [List.set_cons_zero,qa5,zr,Nat.zero_mul,Nat.zero_add,List.take_zero,List.nil_append,hx];rw [List.append_assoc,List.drop_append_of_le_length (by omega),← hy,List.drop_length]
  simp
 |y::xs,i+1,x,hw,hx,h,pad=>by
  have hy:=hw y (by simp);have ih:=qp7 (xs:=xs) (i:=i) (x:=x) (fun z hz=>hw z (by simp [hz])) hx (by simpa using h) pad;simp only [List.set_cons_succ,qa5,zr,Nat.zero_add] at ih ⊢;have e:(i+1) * sz=y.cells.length+i * sz:=by rw [Nat.add_mul,hy];omega
  simp only [List.append_assoc] at ih ⊢;rw [e,List.take_length_add_append,show y.cells.length+i * sz+x.cells.length=y.cells.length+(i * sz+x.cells.length) by omega,List.drop_length_add_append];simp only [List.append_assoc];rw [ih]
theorem zhp {sz:Nat} {T:TypeId} {o ver cap:Nat} {xs pad:List AV} (hl:(flat xs++pad).length=cap * sz) (hw:∀ x∈xs,x.cells.length=sz) (d5:xs.length≤cap) (gd:cap≤maxLen) {i:Nat} {x:AV} (hx:x.cells.length=sz) (hi:i<xs.length) :
  Vec sz T o (xs.set i x) (.os o ver 0 xs.length cap) (.cells ver T (zr (flat xs++pad) (0+i * sz) x.cells)):=by
 rw [qp7 hw hx hi]
 have l7:∀ y∈xs.set i x,y.cells.length=sz:=fun y hy=>by
  rcases List.mem_or_eq_of_mem_set hy with h|rfl
  ·exact hw y h
  ·exact hx
 have:=Vec.os (o:=o) (T:=T) (xs:=xs.set i x) ver cap pad (sz:=sz) (by
  rw [List.length_append] at hl ⊢;rw [zo l7,List.length_set,← zo hw]
  exact hl) l7 (by simpa using d5) gd
 rw [List.length_set] at this;exact this
theorem q43 {sz:Nat} {xs pad:List AV} (hw:∀ x∈xs,x.cells.length=sz) {i:Nat} {x:AV} (hi:xs[i]? = some x):((flat xs++pad).drop (i * sz)).take sz=x.cells:=by
 have d6:=lt_of_getElem? hi;have hx:=hw x (List.mem_of_getElem? hi);apply List.ext_getElem?;intro j;rw [List.getElem?_take];by_cases hj:j<sz
 ·rw [if_pos hj,List.getElem?_drop,← qla hw hi j hj]
  have d5:(i+1) * sz≤xs.length * sz:=Nat.mul_le_mul_right _ d6;rw [Nat.succ_mul] at d5;rw [List.getElem?_append_left (by rw [zo hw];omega)]
 ·rw [if_neg hj,List.getElem?_eq_none (by omega)]
end
structure Chg (N:Nat) (s s':AS):Prop where
 run:∀ (B0:Nat) (w0:World) (G:Gh) (a:Act) (w:World),Inv B0 w0 N G s a w→∃ G',G.le G'∧Inv B0 w0 N G' s' a w
theorem Chg.trans {N:Nat} {s s' s'':AS} (h:Chg N s s') (k:Chg N s' s''):Chg N s s'':=⟨fun B0 w0 G a w hI=>let ⟨G1,h1,h2⟩:=h.run B0 w0 G a w hI;let ⟨G2,k1,k2⟩:=k.run B0 w0 G1 a w h2;⟨G2,h1.trans k1,k2⟩⟩
section
variable {E : Env} {rd : Option Nat} {N : Nat} {ops : Array Oper} {K : AS → Prop} {s s' : AS}
theorem zbr {fn:Func} {R:AV→List AObj→Prop} (hc:Chg fn.ntmps s s') (h:ARet E fn R s'):ARet E fn R s:=
 ⟨fun B0 w0 G a w hL hI R2 gq=>let ⟨G1,h1,h2⟩:=hc.run B0 w0 G a w hI;h.run B0 w0 G1 a w hL h2 R2 fun v G' r st' w' hG k1 k2 k3=>gq v G' r st' w' (h1.trans hG) k1 k2 k3⟩
theorem zbz (i:Nat) {x r:AV} (hi:s.t i=x) (hw:∀ G v,Rel G x v→Rel G r v):Chg N s ⟨Av.put s.t i r,s.st,s.df⟩:=
 ⟨fun B0 w0 G a w hI=>⟨G,.refl G,hI.agree,hI.defers,hI.size,fun j y hy=>by
  have hj:=hI.tmps j y hy;by_cases e:j=i
  ·subst e;simp only [wi];rw [hi] at hj;exact hw G y hj
  ·simp only;rw [yh _ _ _ _ e];exact hj⟩⟩
theorem zby (o:Nat):Chg N s ⟨s.t,s.st.set o .dead,s.df⟩:=⟨fun B0 w0 G a w hI=>⟨G,.refl G,hI.agree.kill o,hI.defers,hI.size,hI.tmps⟩⟩
theorem q5v (i:Nat) {sz o:Nat} {T':TypeId} {xs:List AV} {v:AV} {ob:AObj} (hi:s.t i=v) (hV:Vec sz T' o xs v ob) (ho:s.st[o]? = some ob):Chg N s ⟨Av.put s.t i (.sl sz xs none),s.st.set o .dead,s.df⟩:=by
 cases hV with
 |nil hx=>
  subst hx
  exact (zbz i hi (fun _ _ h=>qbb h)).trans (zby o)
 |os ver cap pad hl hw d5 gd=>
  have hm:xs.length * sz≤cap * sz:=Nat.mul_le_mul_right _ d5;refine⟨fun _ _ _ _ _ hI=>hI.osPub hi ho rfl d5 hw (by omega) ?_⟩;rw [List.drop_zero,List.take_append_of_le_length (by rw [zo hw];exact Nat.le_refl _),List.take_of_length_le (by rw [zo hw];exact Nat.le_refl _)]
theorem q2j (i:Nat) {sz k:Nat} {T':TypeId} {xs:List AV} {v:AV} {ob:AObj} {st loc ext new:List AObj} (hs:s.st=((st++loc)++ext)++new) (hi:s.t i=v) (hV:Vec sz T' (st.length+k) xs v ob) (ho:loc[k]? = some ob):Chg N s ⟨Av.put s.t i (.sl sz xs none),((st++loc.set k .dead)++ext)++new,s.df⟩:=by
 have:=q5v (N:=N) i hi hV (by rw [hs];exact qad ho);rw [hs,qdo _ (lt_of_getElem? ho)] at this;exact this
theorem qw6 {rest:List Oper} {d:Option Tmp} {T:TypeId} {p:String} {af:Array Edge} {x y:Operand} {t u T':TypeId} {sz bytes k:Nat} {xs ys:List AV} {tip:Option Nat} {a:AV} {ob:AObj} {st loc ext new:List AObj} (hs:s.st=((st++loc)++ext)++new) (hx:qj N s x=a) (hy:qj N s y = .sl sz ys tip) (hV:Vec sz T' (st.length+k) xs a ob) (ho:loc[k]? = some ob)
  (ht:E.P.underlying t=some (.slice T')) (hu:E.P.underlying u=some (.slice T')) (hT:w7 E.P T' sz bytes) (e8:jr (flat ys)=true) (l9:xs.length+ys.length≤maxLen) (hb:(xs.length+ys.length) * bytes≤140737488355328)
  (h:∀ a' ob',Vec sz T' (st.length+k) (xs++ys) a' ob'→AOps E rd N ops rest K (AS.put ⟨s.t,((st++loc.set k ob')++ext)++new,s.df⟩ d a')):AOps E rd N ops (⟨d,.call ⟨.builtin .append,#[x,y],#[t,u]⟩,T,p,af,none⟩::rest) K s:=
 qye hx hy hV (by rw [hs];exact qad ho) ht hu hT e8 l9 hb fun a' ob' hV'=>by rw [hs,qdo _ (lt_of_getElem? ho)];exact h a' ob' hV'
end
end Go.Av
namespace Go.Proofs.YtapblfabkbdgcaaGreatDoor
open Go Go.Av Go.RowKit Go.Proofs Go.Pl
theorem zav (text:List UInt8) (o kb ver n:Nat) (I:Nat→List UInt8→List AObj→Prop) (D:List AObj→Prop) (st l0:List AObj) (ht:text.length<4294967281) (h0:I 0 text l0)
  (hI:∀ k rest l,I k rest l→l.length=n∧(st++l)[kb]? = some (.cells ver 9 [Sv text]))
  (hY:∀ k rest l own ext,I k rest l→rest≠[]→rest.length≤text.length→ye E o [qde k text rest] (st++(l++own::ext)) fun b st2=>∃ l' ext',st2=st++(l'++own::ext')∧(b=true→I (k+1) (past 10 rest) l')∧(b=false→D l'∧l'.length=n)) :
  qo E 120 [.yd o,.bx kb ver 0] (st++l0) fun r st'=>∃ l own ext',st'=st++(l++own::ext')∧((∃ k,I k [] l)∨D l):=by
 refine qr Tryz.func120 rfl (Nat.le_of_ble_eq_true rfl) ?_;obtain⟨hn,hb⟩:=hI 0 text l0 h0;repeat' (first|apply qm|apply qu|apply qg|apply qh|apply qi|(apply jp;exact rfl;exact rfl)|(apply z4;(iterate 11 exact rfl))|(apply xk;(iterate 3 exact rfl))|(apply qar;exact rfl;exact rfl;exact hb;exact rfl;exact rfl))
 refine ju (fun (x:Nat×List UInt8) s=>match x with|(k,rest)=>∃ l at' ta eb ext,I k rest l∧k+rest.length≤text.length∧at'=(text.length:Int) - rest.length∧StA [(0,.yd o),(1,.bx kb ver 0),(3,.bx ((st++l0).length+0) 0 0),(4,Sv rest)] ((st++l)++(.cells 0 164 [Iv k,Iv at',Sv ta,Bv eb]::ext)) [] s) (fun x=>x.2.length) (0,text)
  ⟨l0,0,[],false,[],h0,by simp,by simp,?_⟩ ?_
 ·exact jd ⟨rfl,rfl,rfl,rfl,trivial⟩
 rintro⟨k,rest⟩ _ ⟨l,_,ta,eb,ext,hi,d5,rfl,t,rfl⟩;obtain⟨rp,mb⟩:=hI k rest l hi;have hq:(st++l).length=(st++l0).length:=by simp [hn,rp]
 repeat' (first|apply qm|apply qu|apply qg|apply qh|apply ql|apply qi|(apply zz;exact rfl;exact rfl)|(apply kr;(iterate 3 exact rfl))|(apply qe;exact rfl;apply cd_d <;> intro h)|(apply zg;(iterate 3 exact rfl))|apply qw|apply jg|(apply qq;exact Tryz.call39;exact qko _ _ _ (by omega))|(apply qay;exact rfl;exact hq;(iterate 10 exact rfl))|(apply qbr;exact rfl;exact hq;(iterate 4 exact rfl)))
 ·refine qc9 rfl (q2d (List.append_assoc st l (_::ext)).symm ((hY k rest l _ ext hi h (by omega)).mono ?_))
  rintro b _ ⟨l',ext',rfl,h1,h2⟩
  cases b
  ·skip
   rw [← List.append_assoc];repeat' (first|apply qh|(apply kp;exact rfl)|(apply qe;exact rfl;apply qoa;exact cRa)|apply q6)
   refine qn rfl (yu rfl) ⟨l',_,ext',List.append_assoc _ _ _,.inr (h2 rfl).1⟩
  ·have hi3:=h1 rfl
   obtain⟨hn3,cq⟩:=hI _ _ _ hi3;have hp:=vo 10 rest;have dg:0<rest.length:=List.length_pos_iff.2 h;have hq3:(st++l').length=(st++l0).length:=by simp [hn,hn3]
   rw [← List.append_assoc];repeat' (first|apply qm|apply qg|apply qh|apply ql|(apply kp;exact rfl)|(apply qe;exact rfl;apply qrp;exact cRa)|(apply jy;(iterate 3 exact rfl))|(apply zn;exact rfl;exact rfl;exact zb (by omega) (by omega))|(apply yj;exact rfl;exact rfl;exact zb (by omega) (by omega))|(apply zg;(iterate 3 exact rfl))|apply qw|(apply qar;exact rfl;exact rfl;exact cq;exact rfl;exact rfl)|(apply qay;exact rfl;exact hq3;(iterate 10 exact rfl))|(apply qbr;exact rfl;exact hq3;(iterate 4 exact rfl)))
   exact⟨(k+1,past 10 rest),⟨l',_,_,_,_,hi3,by omega,rfl,jd ⟨rfl,rfl,rfl,rfl,trivial⟩⟩,by simp only;omega⟩
 ·have hr:rest=[]:=Classical.not_not.1 h
  subst hr;exact qn rfl (yu rfl) ⟨l,_,ext,List.append_assoc _ _ _,.inl ⟨k,hi⟩⟩
theorem qt0 {N:Nat} {Q:Exit→AS→Prop} {s:AS} {f:Operand} {p:Tmp} {asg body:Code} {st loc:List AObj} {kb ver:Nat} (text:List UInt8) (d8:s.st=st++loc) (hx:qj N s f = .fn (.func 120) [] [.bx (st.length+kb) ver 0]) (ht:text.length<4294967281)
  (I:Nat→List UInt8→List AObj→Prop) (D:Code→List AObj→Prop) (h0:I 0 text loc)
  (hI:∀ k rest l,I k rest l→l.length=loc.length∧l[kb]? = some (.cells ver 9 [Sv text])) (hD:∀ c l,D c l→l.length=loc.length)
  (hb:∀ F own rd k rest l ext m,qk1 F N s.t #[p] asg body→I k rest l→rest≠[]→rest.length≤text.length→((st++(l++[.dfr,F .ready none,own]))++ext).length=m→((st++(l++[.dfr,F .busy none,own]))++ext).length=m →
   AWp E (some rd) N asg (only fun s1=>∃ new,s1.st=((st++(l++[.dfr,F .ready none,own]))++ext)++new∧s1.df=[]∧AWp E (some rd) N body (zaj F st own (I (k+1) (past 10 rest)) D) ⟨s1.t,((st++(l++[.dfr,F .busy none,own]))++ext)++new,[]⟩) ⟨put s.t p (qde k text rest),((st++(l++[.dfr,F .ready none,own]))++ext)++[],[]⟩)
  (hn:∀ k l ext,I k [] l→Q .normal ⟨s.t,((st++(l++[.dfr,.dead]))++ext)++[],(st.length+loc.length)::s.df⟩)
  (hd:∀ c l ext,D c l→AWp E none N c Q ⟨s.t,((st++(l++[.dfr,.dead]))++ext)++[],(st.length+loc.length)::s.df⟩):AWp E none N (.rangeFunc f #[p] asg body) Q s:=by
 refine qk5 d8 hx Tryz.call120 fun F hF=>?_;refine qo.mono (zav text (st.length+(loc.length+1)) (st.length+kb) ver (loc.length+2) (fun k rest l=>∃ l1,l=l1++[.dfr,F .ready none]∧I k rest l1) (fun l=>∃ l1 c,l=l1++[.dfr,F .done (some c)]∧D c l1) st (loc++[.dfr,F .ready none]) ht ⟨loc,rfl,h0⟩ ?_ ?_) ?_
 ·rintro k rest _ ⟨l,rfl,hi⟩
  obtain⟨h1,h2⟩:=hI k rest l hi;exact⟨by simp [h1],jl (by rw [List.getElem?_append_left (lt_of_getElem? h2)];exact h2)⟩
 ·rintro k rest _ own ext ⟨l,rfl,hi⟩ b8 d5
  obtain⟨h1,h2⟩:=hI k rest l hi;have hy:=zbt (E:=E) (st:=st) (l:=l) (ext:=ext) (own:=own) (n:=loc.length) (xs:=[qde k text rest]) (I:=I (k+1) (past 10 rest)) (D:=D) hF h1 rfl (fun l hl=>(hI _ _ l hl).1) hD (fun rd=>hb F own rd k rest l ext _ hF hi b8 d5 rfl (by simp));have e:(st++(l++[.dfr,F .ready none,own]))++ext=st++((l++[.dfr,F .ready none])++own::ext):=by simp
  rw [e] at hy;refine hy.mono ?_;rintro b st2 ⟨l',ext',g1,g2⟩
  cases b with
  |true=>
   obtain⟨rfl,g⟩:=g1 rfl
   exact⟨l'++[.dfr,F .ready none],ext',by simp,fun _=>⟨l',rfl,g⟩,nofun⟩
  |false=>
   obtain⟨c,rfl,g⟩:=g2 rfl;exact⟨l'++[.dfr,F .done (some c)],ext',by simp,nofun,fun _=>⟨⟨l',c,rfl,g⟩,by simp [hD c l' g]⟩⟩
 ·rintro r _ ⟨_,own,ext,rfl,⟨k,l,rfl,hi⟩ | ⟨l,c,rfl,hdl⟩⟩
  ·have h1:=(hI _ _ _ hi).1
   have e:st++((l++[.dfr,F .ready none])++own::ext)=(st++(l++[.dfr,F .ready none,own]))++ext:=by simp
   rw [e];refine⟨.ready,none,nofun,qcv h1,?_⟩;rw [qez h1];have:=hn k l (own::ext) hi
   simpa using this
  ·have h1:=hD _ _ hdl
   have e:st++((l++[.dfr,F .done (some c)])++own::ext)=(st++(l++[.dfr,F .done (some c),own]))++ext:=by simp
   rw [e];refine⟨.done,some c,nofun,qcv h1,?_⟩;rw [qez h1];have:=hd c l (own::ext) hdl
   simpa using this
abbrev Ss (xs:List qc):AV:=.sl 1 (xs.map fun x=>Sv x) none
theorem qn1 (l m:List UInt8) (st:List AObj):qo E 40 [Sv l,Sv m] st fun r st'=>r=Sv (Lib.trimPrefix l m)∧st'=st:=
 qac (vals:= #[.string ⟨l.toArray⟩,.string ⟨m.toArray⟩]) rfl fun _ _ w _ _=>(Tryz.strings_TrimPrefix ⟨l.toArray⟩ ⟨m.toArray⟩ w).mono fun _ _ ⟨h1,h2⟩=>⟨h1,qds h2⟩
theorem q42 (l:List UInt8) (c:UInt8) (st:List AObj):qo E 40 [Sv l,Sv [c]] st fun r st'=>r=Sv (v6 c l)∧st'=st:=by
 rw [← qux];exact qn1 _ _ _
theorem q7c {B0:Nat} {w0:World} {G:Gh} {st:List AObj} {w:World} (hA:zi B0 w0 G st w) {xs:List qc} {tip:Option Nat} {v:Value} (h:Rel G (.sl 1 (xs.map fun x=>Sv x) tip) v) :
  (xs=[]∧∃ a c,v = .slice a 0 c)∨∃ b off cap,v = .slice (some ⟨b,off,none⟩) xs.length cap∧b<w.heap.size∧xs.length≤cap∧∀ (j:Nat) (x:qc),xs[j]? = some x→w.cell? ⟨b,off+j,none⟩=some (.string ⟨x.toArray⟩):=by
 generalize hq:xs.map (fun x=>Sv x)=q at h
 cases h with
 |sl0 sz tip base cap ht=>exact .inl ⟨by simpa using hq,base,cap,rfl⟩
 |sl _ _ _ b off cap pub hp hw c8 hr ht i8=>
  subst hq;obtain⟨c,T,fz,hc,nj⟩:=hA.pub b pub hp;refine .inr ⟨b,off,cap,by simp,hA.pub_lt hp,by simpa using i8,fun j x hx=>?_⟩
  have i3:flat (xs.map fun x=>Sv x)=xs.map fun x=>Sv x:=by
   clear hx hr c8 hw ht i8
   induction xs with
   |nil=>rfl
   |cons a xs ih=>rw [List.map_cons,qa5,ih];rfl
  have hj:=lt_of_getElem? hx;rw [i3] at c8;simp only [List.length_map] at c8;have hy:pub[off+j]? = some (pub[off+j]'(by omega)):=List.getElem?_eq_getElem (by omega);have hrj:=hr j (Sv x) _ (by rw [i3,List.getElem?_map,hx];rfl) hy;generalize hz:pub[off+j]'(by omega)=z at hrj hy;generalize hSx:Sv x=sx at hrj
  cases hrj <;> simp_all
  subst_vars
  simp [World.cell?,hc,nj _ _ hy]
theorem q9i (xs:List qc) (tip:Option Nat) (sep:qc) (st:List AObj) (hN:xs.length≤140737488355328) (hl:(Lib.join xs sep).length≤140737488355328):qo E 105 [.sl 1 (xs.map fun x=>Sv x) tip,Sv sep] st fun r st'=>r=Sv (Lib.join xs sep)∧st'=st:=by
 refine⟨fun B0 w0 G vs w hL hA hR=>?_⟩;have hs:vs.size=2:=by have:=hR.1;simpa using this.symm
 have e0:vs[0]? = some vs[0]:=by simp [hs]
 have e1:vs[1]? = some vs[1]:=by simp [hs]
 have h0:=hR.2 0 _ _ rfl e0;have h1:=hR.2 1 _ _ rfl e1;have hv1:vs[1] = .string ⟨sep.toArray⟩:=by generalize vs[1]=y at h1;cases h1;rfl
 have hvs:vs = #[vs[0],.string ⟨sep.toArray⟩]:=by
  apply Array.ext (by simp [hs]);intro i g1 g2
  match i with
  | 0=>rfl
  | 1=>exact hv1
  |i+2=>simp [hs] at g1;omega
 rw [hvs];rcases q7c hA h0 with⟨hx,a,c,hv⟩ | ⟨b,off,cap,hv,hb,i8,p9⟩
 ·rw [hv]
  subst hx;refine (Tryz.strings_Join_none a c ⟨sep.toArray⟩ w).mono ?_;rintro e w' ⟨rfl,rfl⟩;exact⟨_,G,Sv [],st,rfl,.refl G,hA,.v _,rfl,rfl⟩
 ·rw [hv]
  have hm:(xs.map fun l:qc=>(⟨l.toArray⟩:ByteArray)).map (·.data.toList)=xs:=by simp [List.map_map,Function.comp_def]
  have hc:=Tryz.strings_Join b off cap (xs.map fun l=>⟨l.toArray⟩) ⟨sep.toArray⟩ w (fun j x hx=>by
   rw [List.getElem?_map] at hx
   cases hq:xs[j]? with
   |none=>rw [hq] at hx;simp at hx
   |some y=>rw [hq] at hx;simp at hx;subst hx;exact p9 j y hq) hb (by simpa using hN) (by simpa using i8) (by rw [hm];simpa using hl)
  rw [hm] at hc;simp only [List.length_map] at hc;refine hc.mono ?_;rintro e w' ⟨rfl,hbw⟩;exact⟨_,G,Sv _,st,rfl,.refl G,hA.fresh hbw,.v _,rfl,rfl⟩
def Weak (x r:AV):Prop:=∀ (G:Gh) (v:Value),Rel G x v→Rel G r v
theorem qbc (x:AV):Weak x x:=fun _ _ h=>h
theorem ql8 (sz:Nat) (xs:List AV) (tip:Option Nat):Weak (.sl sz xs tip) (.sl sz xs none):=fun _ _ h=>qjm h
theorem qfj (sz:Nat):Weak zy (.sl sz [] none):=fun _ _ h=>qbb h
theorem qeg {x y x' y':AV} (h1:Weak x x') (h2:Weak y y'):Weak (.tu [x,y]) (.tu [x',y']):=fun G v h=>by
 cases h with
 |tu _ vs hl hr=>
  refine .tu _ vs hl fun i a b ha hb=>?_
  match i with
  | 0=>simp at ha;subst ha;exact h1 G b (hr 0 x b rfl hb)
  | 1=>simp at ha;subst ha;exact h2 G b (hr 1 y b rfl hb)
  |i+2=>simp at ha
theorem zhr {xs ys:List AV} (hl:xs.length=ys.length) (h:∀ (i:Nat) (x y:AV),xs[i]? = some x→ys[i]? = some y→Weak x y):Weak (.ag xs) (.ag ys):=fun G v hr=>by
 cases hr with
 |ag _ vs n9 hr=>
  refine .ag _ vs (by omega) fun i a b ha hb=>?_;have hi:=lt_of_getElem? ha;exact h i _ a (List.getElem?_eq_getElem (by omega)) ha G b (hr i _ b (List.getElem?_eq_getElem (by omega)) hb)
theorem q5l {fn:Func} {s:AS} {t u:Tmp} {x y x' y':AV} (hr:fn.results = #[.tmp t,.tmp u]) (hx:qj fn.ntmps s (.tmp t)=x) (hy:qj fn.ntmps s (.tmp u)=y) (h1:Weak x x') (h2:Weak y y'):ARes E fn s (.tu [x',y']):=
 wu (vm hr) (by rw [hx,hy];exact qeg h1 h2)
def errN (n:Int):AV:=if n=0 then .v .nilIface else .ifc 50 (Iv n)
theorem qi8 (n:Int):Pure (errN n):=by
 unfold errN;split
 ·exact q8 _
 ·exact qee (q8 _)
theorem qkp {n:Int} (h:n≠0):errN n = .ifc 50 (Iv n):=if_neg h
theorem qpg (f:FldV) (st:List AObj) (hl:f.1.length<4294967281):qo E 142 [fldA f] st fun r st'=>r=errN (kj f)∧st'=st:=by
 refine ze (qi8 _) (qr Tryz.func142 rfl (Nat.le_of_ble_eq_true rfl) ?_);repeat' (first|apply qm|apply qu|apply qg|apply qh|apply qi|(apply qt;(iterate 3 exact rfl))|(apply kp;exact rfl)|(apply qe;exact rfl;apply cd_n <;> intro h)|(apply qe;exact rfl;apply cd_d <;> intro h)|(apply jy;(iterate 3 exact rfl))|(apply v7;exact rfl;exact rfl)|(apply qbe;(iterate 4 exact rfl))|(apply zg;(iterate 3 exact rfl))|(apply jf;(iterate 5 exact rfl))|apply qw|apply q6|(apply qq;exact Tryz.call166;exact zem _ _ hl))
 all_goals refine qn rfl (zh rfl) ⟨(?_:_=_),_,rfl⟩
 ·have e:kj f=5:=if_pos (by simp_all)
  rw [e];rfl
 ·have e:kj f=6:=(if_neg (by simp_all)).trans (if_pos (by omega))
  rw [e];rfl
 ·have e:kj f=0:=(if_neg (by simp_all)).trans (if_neg (by omega))
  rw [e];rfl
theorem qib (f:FldV) (st:List AObj) (hl:f.1.length<4294967281) (h:kj f=0):qo E 142 [fldA f] st fun r st'=>r = .v .nilIface∧st'=st:=by
 have:=qpg f st hl;rw [h] at this;exact this
theorem qic (f:FldV) (st:List AObj) (hl:f.1.length<4294967281) (h:kj f≠0):qo E 142 [fldA f] st fun r st'=>r = .ifc 50 (Iv (kj f))∧st'=st:=by
 have:=qpg f st hl;rw [qkp h] at this;exact this
theorem za2 (s:List UInt8) (st:List AObj) (hl:s.length<4294967281):qo E 144 [Sv s] st fun r st'=>r=Sv (vl s)∧st'=st:=by
 refine ze (q8 _) (qr Tryz.func144 rfl (Nat.le_of_ble_eq_true rfl) ?_);have hb:Lib.trimS s [32,9]=[]↔qbf s:=by rw [qw2];simp [vv,qbf]
 repeat' (first|apply qm|apply qg|apply qh|apply ql|apply qi|(apply kr;(iterate 3 exact rfl))|(apply zm;(iterate 4 exact rfl))|(apply qbj;exact cAo)|(apply qa7;exact cAo)|(apply yp <;> intro h)|(apply qx;exact rfl;apply qdj;exact cAo)|(apply qx;exact rfl;apply qd4;exact cAo)|(apply qe;exact rfl;apply cd_t;exact cRa)|(apply qe;exact rfl;apply cd_d <;> intro h)|(apply vf;exact rfl;exact rfl;exact cOs)|apply qw|apply q6|(apply qq;exact Tryz.call164;exact zho _ _ _ (by omega) rfl rfl)|(apply qq;exact Tryz.call154;exact qid _ _ _))
 all_goals refine qn rfl (zh rfl) ⟨congrArg (fun l:qc=>Sv l) (?_:_=vl s),_,rfl⟩
 all_goals unfold vl
 all_goals simp_all
theorem qop (xs:List qc):Pure (Ss xs):=zac xs
theorem q7a (l p:qc) (r:List qc) (st:List AObj) (hl:l.length<4294967281) (h:qz l=p::r):qo E 143 [Sv l,Sv [10]] st fun x st'=>x = .sl 1 (Sv p::r.map fun x=>Sv x) none∧st'=st:=by
 have:=zau l st hl;rw [h] at this;exact this
def qie (f:FldV):AV:=.tu [Ss (if kj f=0 then zk f else []),errN (kj f)]
theorem q2x (f:FldV):Pure (qie f):=qev fun x hx=>by
 simp only [List.mem_cons,List.not_mem_nil,or_false] at hx;rcases hx with rfl|rfl
 ·exact qop _
 ·exact qi8 _
set_option maxHeartbeats 2000000 in
theorem qph (f:FldV) (st:List AObj) (hl:f.1.length<4294967281) (hv:f.2.length<1000000):qo E 102 [fldA f] st fun r st'=>r=qie f∧st'=st:=by
 refine ze (q2x _) (qr Tryz.func102 rfl (Nat.le_of_ble_eq_true rfl) ?_);by_cases hc:kj f=0
 ·obtain⟨p,r,hp⟩:∃ p r,qz f.2=p::r:=⟨_,_,qlr f.2⟩
  have t6:p.length≤f.2.length:=qdw f.2 p (by rw [hp];simp);have dk:∀ x∈r,x.length≤f.2.length:=fun x hx=>qdw f.2 x (by rw [hp];simp [hx]);have hrn:r.length≤f.2.length:=by have:=qbo _ f.2 (Nat.le_refl _);rw [hp] at this;simpa using this
  repeat' (first|(apply yi;(iterate 6 exact rfl))|(apply qu6;(iterate 5 exact rfl);kernel_rfl)|apply qm|apply qu|apply qg|apply qh|apply ql|apply qi|(apply kr;(iterate 3 exact rfl))|(apply qe;exact rfl;apply cd_f;exact cRa)|(apply qe;exact rfl;apply cd_d <;> intro h)|(apply ja;(iterate 4 exact rfl))|(apply vf;exact rfl;exact rfl;exact cOs)|(apply x8;exact rfl;exact rfl)|(apply qbe;(iterate 4 exact rfl))|(apply zg;(iterate 3 exact rfl))|(apply jo;(iterate 3 exact rfl))|(apply jf;(iterate 5 exact rfl))|(apply z4;(iterate 11 exact rfl))|(apply qkf;(iterate 4 exact rfl);(first|assumption|omega|exact Nat.succ_le_succ (Nat.zero_le _)|(simp;omega));exact rfl)|apply qgg|(apply qiv;exact rfl;exact rfl;exact cOs)|(apply qe7;(iterate 3 exact rfl))|(apply qo3;(iterate 5 exact rfl))|apply qej|apply qw|(apply qq;exact Tryz.call142;exact qib _ _ hl hc)|(apply qq;exact Tryz.call143;exact q7a _ _ _ _ (by omega) hp)|(apply j8 (n:=0);(iterate 6 exact rfl))|(apply qbs (n:=0);(iterate 6 exact rfl))|(apply qix (n:=0);(iterate 5 exact rfl);omega))
  all_goals refine q8a 6 (o:=st.length+1) (sz:=1) (len:=1) (cap:=1) (xs:=[Sv (jw f.1 p)]) (T':=9) rfl (jl rfl) rfl rfl (by omega) (Nat.le_refl _) (by decide) (by simp [AV.cells]) ?_ ?_
  ·exact congrArg (fun l:qc=>[Sv l]) (by unfold jw;rw [if_neg h]:jw f.1 p=f.1++[58]++([32]++p))
  rotate_left
  ·exact congrArg (fun l:qc=>[Sv l]) (by unfold jw;rw [if_pos (Classical.not_not.1 h),List.append_nil]:jw f.1 p=f.1++[58])
  all_goals
   have tq:qie f = .tu [Ss (jw f.1 p::r.map fun s=>[32]++vl s),.v .nilIface]:=by
    unfold qie zk;rw [if_pos hc,hc,hp];rfl
   rw [tq];have d8:∀ s,(vl s).length≤s.length+1:=qwv;refine qa0 r (fun pre s=>StE [(6,.sl 1 (Sv (jw f.1 p)::pre.map (fun s=>Sv ([32]++vl s))) (some (st.length+1))),(35,.sl 1 (r.map fun x=>Sv x) none),(36,Iv r.length),(37,Iv pre.length)] st [.cells 0 98 [Sv f.1,Sv f.2],.tip (pre.length+1) 1 9] s) (qci ⟨rfl,rfl,congrArg (fun n:Nat=>Iv (n:Int)) (List.length_map ..),rfl,trivial⟩ (xw st _ 1 _)) ?_ ?_
   ·rintro _ ⟨t,ext,rfl⟩
    repeat' (first|apply qm|apply qg|apply qh|apply ql|apply qi|(apply qt;(iterate 3 exact rfl))|(apply qe;exact rfl;apply wm;exact cAo)|apply jg|apply q6)
    refine qn rfl (q5l rfl rfl rfl (ql8 _ _ _) (qbc _)) ⟨?_,yl _ _ _ _⟩;simp only [Ss,List.map_cons,List.map_map];rfl
   ·rintro pre a rest _ hr ⟨t,ext,rfl⟩
    have c8:r.length=pre.length+(rest.length+1):=by rw [hr];simp
    have c9:(r.map fun x=>Sv x)[pre.length]? = some (Sv a):=by rw [hr];simp
    have ha:a.length≤f.2.length:=dk a (by rw [hr];simp);have hsa:=d8 a;repeat' (first|apply qm|apply qu|apply qg|apply qh|apply ql|apply qi|(apply qt;(iterate 3 exact rfl))|(apply qe;exact rfl;apply vj;exact cAo)|(apply vf;exact rfl;exact rfl;exact cOs)|(apply zn;exact rfl;exact rfl;exact zb (by omega) (by omega))|(apply jo;(iterate 3 exact rfl))|(apply xc;(iterate 9 exact rfl))|apply qw|(apply qq;exact Tryz.call144;exact za2 _ _ (by omega))|(apply j8 (n:=pre.length);(iterate 5 exact rfl);exact c9)|(apply qe3 (n:=pre.length+1) (m:=1) (sz:=1) (bytes:=16);(iterate 4 exact rfl);simp;exact rfl;exact rfl;exact⟨⟨_,_,rfl,rfl,rfl,rfl,rfl⟩⟩;exact rfl;exact rfl;(unfold maxLen;omega);omega;exact rfl))
    refine y9 ⟨?_,rfl,rfl,?_,trivial⟩ ?_
    ·exact zdz _ (fun s=>Sv ([32]++vl s)) pre a _ rfl
    ·exact qft pre a
    ·rw [qcb pre a];rfl
 ·skip
  repeat' (first|apply qm|apply qg|apply qh|apply ql|apply qi|(apply qe;exact rfl;apply cd_t;exact cRa)|(apply y4;exact rfl;exact rfl)|(apply qbe;(iterate 4 exact rfl))|(apply jf;(iterate 5 exact rfl))|apply q6|(apply qq;exact Tryz.call142;exact qic _ _ hl hc))
  refine qn rfl (wu (r':=.tu [Ss [],.ifc 50 (Iv (kj f))]) (vm rfl) (qeg (qfj _) (qbc _))) ⟨?_,_,rfl⟩;unfold qie;rw [if_neg hc,qkp hc]
theorem qf3 {rd:Option Nat} {N:Nat} {ops:Array Oper} {K:AS→Prop} {s:AS} {rest:List Oper} {d:Option Tmp} {T:TypeId} {p:String} {af:Array Edge} {st loc:List AObj} (d8:s.st=st++loc)
  (h:AOps E rd N ops rest K (AS.put ⟨s.t,st++(loc++[bldO 0 (.v (.pointer none)) [] (st.length+(loc.length+1)),.tip 0 1 5]),s.df⟩ d (.bx (st.length+loc.length) 0 0))):AOps E rd N ops (⟨d,.alloc 130,T,p,af,none⟩::rest) K s:=by
 refine jp d8 rfl ?_;have e:∀ (t:Nat→AV) (st':List AObj) (df:List Nat) (x:AV),(AS.put ⟨t,st',df⟩ d x).st=st':=fun t st' df x=>by cases d <;> rfl
 have e2:∀ (t:Nat→AV) (st' st2:List AObj) (df:List Nat) (x:AV),(⟨(AS.put ⟨t,st',df⟩ d x).t,st2,(AS.put ⟨t,st',df⟩ d x).df⟩:AS)=AS.put ⟨t,st2,df⟩ d x:=fun t st' st2 df x=>by cases d <;> rfl
 refine qyn (o:=st.length+loc.length) (j:=1) (sz:=1) (T':=5) (T1:=130) (ver:=0) (cs:=[.v (.pointer none),zy]) ?_ rfl ?_
 ·rw [e,← List.append_assoc,List.getElem?_append_right (by simp)]
  simp;rfl
 ·rw [e,e2]
  have hx:(st++(loc++[AObj.cells 0 130 [.v (.pointer none),zy]])).set (st.length+loc.length) (.cells 0 130 ([AV.v (.pointer none),zy].set 1 (.sl 1 [] (some (st++(loc++[AObj.cells 0 130 [.v (.pointer none),zy]])).length))))++[AObj.tip 0 1 5]
    = st++(loc++[bldO 0 (.v (.pointer none)) [] (st.length+(loc.length+1)),.tip 0 1 5]):=by
   rw [xw,List.append_assoc,List.set_append_right _ _ (Nat.le_refl _)];simp
  have h':=h;rw [← hx] at h';exact h'
theorem qha (st loc ext new loc':List AObj) (k kt ver:Nat) (q:AV) (l m:List UInt8) (hk:loc[k]? = some (bldO ver q l (st.length+kt))) (gj:loc[kt]? = some (.tip l.length 1 5)) (hq:q = .v (.pointer none)∨q = .bx (st.length+k) ver 0)
  (c8:l.length+m.length≤140737488355328) (hl:loc'=(loc.set k (bldO ver (.bx (st.length+k) ver 0) (l++m) (st.length+kt))).set kt (.tip (l++m).length 1 5)) :
  qo E 65 [.bx (st.length+k) ver 0,Sv m] (((st++loc)++ext)++new) fun r st'=>r = .tu [Iv m.length,.v .nilIface]∧st'=((st++loc')++ext)++new:=by
 refine (qyv (st.length+k) ver (st.length+kt) q l m _ (qad hk) (qad gj) hq c8).mono fun r st' ⟨h1,h2⟩=>⟨h1,?_⟩;have bg:=lt_of_getElem? hk;have cx:=lt_of_getElem? gj;rw [h2,qdo _ bg,qdo _ (by simpa using cx),hl,List.length_append]
theorem qf4 (st loc ext new loc':List AObj) (k kt ver:Nat) (q:AV) (l:List UInt8) (hk:loc[k]? = some (bldO ver q l (st.length+kt))) (gj:loc[kt]? = some (.tip l.length 1 5)) (hl:loc'=loc.set kt .dead) :
  qo E 62 [.bx (st.length+k) ver 0] (((st++loc)++ext)++new) fun r st'=>r=Sv l∧st'=((st++loc')++ext)++new:=by
 refine (qu9 (st.length+k) ver (st.length+kt) q l _ (qad hk) (qad gj)).mono fun r st' ⟨h1,h2⟩=>⟨h1,?_⟩;rw [h2,qdo _ (lt_of_getElem? gj),hl]
theorem qqw:∀ (r:List qc),(zf (r.map fun s=>[32]++vl s)).length≤3 * (r.flatMap fun s=>[10]++s).length
 | []=>by simp [zf]
 |a::r=>by
  have ih:=qqw r;have:=qwv a;simp only [zf,List.map_cons,List.flatMap_cons,List.length_append,List.length_cons,List.length_nil] at ih ⊢;omega
theorem yb (a b:List qc):zf (a++b)=zf a++zf b:=by simp [zf]
theorem qgw (s:qc):zf [s]=s++[10]:=by simp [zf]
theorem qkc:∀ (l:List qc),l.length≤(zf l).length
 | []=>by simp
 |a::r=>by
  have ih:=qkc r;simp only [zf,List.flatMap_cons,List.length_append,List.length_cons,List.length_nil] at ih ⊢;omega
theorem qvz (a b:List Fld):z7 (a++b)=z7 a++z7 b:=by simp [z7]
theorem qv0 (f:Fld):z7 [f]=zf (zk f):=by simp [z7]
theorem qsk {f:Fld} (h:jt f):(zf (zk f)).length≤5000:=by
 obtain⟨hk,hv⟩:=h;have h1:=qqw (qz f.2).tail;have h2:=congrArg List.length (qhj _ f.2 (Nat.le_refl _))
 have h3:(jw f.1 ((qz f.2).headD [])).length≤32+2+((qz f.2).headD []).length:=by
  have:=hk.2.1;unfold jw;split <;> simp <;> omega
 have e:zk f=[jw f.1 ((qz f.2).headD [])]++(qz f.2).tail.map fun s=>[32]++vl s:=rfl;rw [e,yb,qgw];simp only [List.length_append,List.length_cons,List.length_nil] at h2 ⊢;omega
theorem qeo:∀ (xs:List Fld),(∀ f∈xs,jt f)→(z7 xs).length≤5000 * xs.length
 | [],_=>by simp [z7]
 |f::r,h=>by
  have ih:=qeo r fun x hx=>h x (by simp [hx]);have h1:=qsk (h f (by simp));have e:z7 (f::r)=zf (zk f)++z7 r:=by simp [z7]
  rw [e,List.length_append,List.length_cons];omega
def errF:List Fld→Int
 | []=>0
 |f::r=>if kj f≠0 then kj f else errF r
theorem qm6:∀ (xs:List Fld),errF xs=0↔∀ f∈xs,jt f
 | []=>by simp [errF]
 |f::r=>by
  have ih:=qm6 r;unfold errF;by_cases h:kj f≠0
  ·rw [if_pos h]
   have hg:¬ jt f:=fun hg=>h ((qbg f).2 hg);simp [h,hg]
  ·have hg:=(qbg f).1 (Classical.not_not.1 h)
   rw [if_neg h,ih];simp [hg]
theorem q38:∀ {pre:List Fld} {f:Fld} {r:List Fld},(∀ x∈pre,jt x)→kj f≠0→errF (pre++f::r)=kj f
 | [],f,r,_,h=>by simp [errF,h]
 |x::pre,f,r,hp,h=>by
  have:=(qbg x).2 (hp x (by simp));simp only [List.cons_append,errF,this];rw [if_neg (by simp)];exact q38 (fun y hy=>hp y (by simp [hy])) h
theorem qzn (f:FldV) (st:List AObj) (hl:f.1.length<4294967281) (hv:f.2.length<1000000) (h:kj f=0):qo E 102 [fldA f] st fun r st'=>r = .tu [Ss (zk f),.v .nilIface]∧st'=st:=by
 have:=qph f st hl hv;unfold qie at this;rw [if_pos h,h] at this;exact this
theorem qzo (f:FldV) (st:List AObj) (hl:f.1.length<4294967281) (hv:f.2.length<1000000) (h:kj f≠0):qo E 102 [fldA f] st fun r st'=>r = .tu [Ss [],.ifc 50 (Iv (kj f))]∧st'=st:=by
 have:=qph f st hl hv;unfold qie at this;rw [if_neg h,qkp h] at this;exact this
def qr5 (xs:List Fld):AV:=.tu [Sv (if errF xs=0 then z7 xs else []),errN (errF xs)]
theorem q6h (xs:List Fld):Pure (qr5 xs):=qev fun x hx=>by
 simp only [List.mem_cons,List.not_mem_nil,or_false] at hx;rcases hx with rfl|rfl
 ·exact q8 _
 ·exact qi8 _
structure q5c (xs:List FldV):Prop where
 len:xs.length<1000000
 val:∀ f∈xs,f.1.length<4294967281∧f.2.length<1000000
set_option maxHeartbeats 2000000 in
theorem zig (xs:List FldV) (st:List AObj) (hx:q5c xs):qo E 64 [zp xs] st fun r st'=>r=qr5 xs∧st'=st:=by
 refine ze (q6h _) (qr Tryz.func64 rfl (Nat.le_of_ble_eq_true rfl) ?_);have hxl:=hx.len;repeat' (first|(apply qf3;exact rfl)|apply qm|apply qu|apply qg|apply qh|apply ql|apply qi|(apply ja;(iterate 4 exact rfl)))
 refine qa0 xs (fun pre s=>(∀ f∈pre,jt f)∧∃ q,(q = .v (.pointer none)∨q = .bx (st.length+0) 0 0)∧StE [(4,.bx (st.length+0) 0 0),(11,zp xs),(12,Iv xs.length),(13,Iv pre.length)] st [bldO 0 q (z7 pre) (st.length+1),.tip (z7 pre).length 1 5] s) ⟨by simp,_,.inl rfl,qci ⟨rfl,rfl,congrArg (fun n:Nat=>Iv (n:Int)) (List.length_map ..),rfl,trivial⟩ rfl⟩ ?_ ?_
 ·rintro _ ⟨hg,q,hq,t,ext,rfl⟩
  repeat' (first|apply qm|apply qg|apply qh|apply qi|(apply qt;(iterate 3 exact rfl))|(apply qe;exact rfl;apply wm;exact cAo)|apply jg|apply q6|(refine qq Tryz.call62 (qf4 st _ _ _ _ 0 1 0 _ _ rfl rfl rfl) ?_))
  refine qn rfl (vm rfl) ⟨?_,yl _ _ _ _⟩;unfold qr5;have h0:=(qm6 xs).2 hg;rw [if_pos h0,h0];rfl
 ·rintro pre f rest _ hr ⟨hg,q,hq,t,ext,rfl⟩
  have c8:xs.length=pre.length+(rest.length+1):=by rw [hr];simp
  have c9:(xs.map fldA)[pre.length]? = some (fldA f):=by rw [hr];simp
  obtain⟨pt,hf2⟩:=hx.val f (by rw [hr];simp);by_cases hc:kj f=0
  ·have pw:=(qbg f).1 hc
   have o6:=qeo pre hg;have r8:=qsk pw;repeat' (first|apply qm|apply qu|apply qg|apply qh|apply ql|apply qi|(apply zz;exact rfl;exact rfl)|(apply qt;(iterate 3 exact rfl))|(apply qe;exact rfl;apply vj;exact cAo)|(apply qe;exact rfl;apply cd_f;exact cRa)|(apply ja;(iterate 4 exact rfl))|(apply x8;exact rfl;exact rfl)|(apply jp;exact rfl;exact rfl)|(apply jo;(iterate 3 exact rfl))|(apply jf;(iterate 5 exact rfl))|(apply z4;(iterate 11 exact rfl))|apply qw|(apply qq;exact Tryz.call102;exact qzn _ _ pt hf2 hc)|(apply j8 (n:=pre.length);(iterate 5 exact rfl);exact c9))
   refine qa0 (zk f) (fun lp s=>∃ q,(q = .v (.pointer none)∨q = .bx (st.length+0) 0 0)∧StE [(4,.bx (st.length+0) 0 0),(11,zp xs),(12,Iv xs.length),(13,Iv pre.length),(25,Ss (zk f)),(26,Iv (zk f).length),(27,Iv lp.length)] st [bldO 0 q (z7 pre++zf lp) (st.length+1),.tip (z7 pre++zf lp).length 1 5] s) ⟨_,hq,y9 ⟨rfl,rfl,rfl,rfl,rfl,congrArg (fun n:Nat=>Iv (n:Int)) (List.length_map ..),rfl,trivial⟩ (by simp [zf])⟩ ?_ ?_
   ·rintro _ ⟨q,hq,t,ext,rfl⟩
    repeat' (first|apply qm|apply qg|apply qh|apply ql|(apply qt;(iterate 3 exact rfl))|(apply qe;exact rfl;apply wm;exact cAo)|(apply zn;exact rfl;exact rfl;exact zb (by omega) (by omega))|apply jg)
    refine⟨fun x hx=>?_,q,hq,y9 ⟨rfl,rfl,rfl,?_,trivial⟩ ?_⟩
    ·rcases List.mem_append.1 hx with hx|hx
     ·exact hg x hx
     ·simp at hx;subst hx;exact pw
    ·rw [qcb pre f];rfl
    ·rw [qvz,qv0]
   ·rintro lp a lr _ hlr ⟨q,hq,t,ext,rfl⟩
    have hlen2:(zk f).length=lp.length+(lr.length+1):=by rw [hlr];simp
    have sq:((zk f).map fun x=>Sv x)[lp.length]? = some (Sv a):=by rw [hlr];simp
    have cq:(zf lp).length+(a.length+1)≤5000:=by
     rw [hlr,yb] at r8;have:a::lr=[a]++lr:=rfl;rw [this,yb,qgw] at r8;simp only [List.length_append,List.length_cons,List.length_nil] at r8;omega
    have hct:=qkc lp;repeat' (first|apply qm|apply qu|apply qg|apply qh|apply ql|apply qi|(apply qt;(iterate 3 exact rfl))|(apply qe;exact rfl;apply vj;exact cAo)|(apply vf;exact rfl;exact rfl;exact cOs)|(apply jo;(iterate 3 exact rfl))|apply qw|(apply j8 (n:=lp.length);(iterate 5 exact rfl);exact sq))
    refine qq Tryz.call65 (qha st _ _ _ _ 0 1 0 _ _ _ rfl rfl ?_ ?_ rfl) ?_;(exact hq);(simp only [List.length_append,List.length_cons,List.length_nil];omega);repeat' (first|apply qg|apply qh|apply ql|(apply zn;exact rfl;exact rfl;exact zb (by omega) (by omega)))
    refine⟨_,.inr rfl,y9 ⟨rfl,rfl,rfl,rfl,rfl,rfl,?_,trivial⟩ ?_⟩
    ·rw [qcb lp a];rfl
    ·have e:z7 pre++zf (lp++[a])=(z7 pre++zf lp)++(a++[10]):=by rw [yb,qgw,List.append_assoc]
     rw [e];rfl
  ·skip
   repeat' (first|apply qm|apply qu|apply qg|apply qh|apply ql|apply qi|(apply zz;exact rfl;exact rfl)|(apply qt;(iterate 3 exact rfl))|(apply qe;exact rfl;apply vj;exact cAo)|(apply qe;exact rfl;apply cd_t;exact cRa)|(apply y4;exact rfl;exact rfl)|(apply jp;exact rfl;exact rfl)|(apply jo;(iterate 3 exact rfl))|(apply jf;(iterate 5 exact rfl))|(apply z4;(iterate 11 exact rfl))|apply qw|apply q6|(apply qq;exact Tryz.call102;exact qzo _ _ pt hf2 hc)|(apply j8 (n:=pre.length);(iterate 5 exact rfl);exact c9))
   refine qn rfl (vm rfl) ⟨?_,yl _ _ _ _⟩;unfold qr5;have h0:errF xs=kj f:=by rw [hr];exact q38 hg hc
   rw [h0,if_neg hc,qkp hc];rfl
theorem qwl:∀ (n:Nat) (l:qc),l.length≤n→qz (l++[10])=qz l++[[]]
 |n,l,hn=>by
  by_cases h:10∈l
  ·have b8:l≠[]:=fun e=>by subst e;simp at h
   have d6:=xi (c:=10) b8
   cases n with
   |zero=>omega
   |succ n=>
    have ih:=qwl n (past 10 l) (by omega);have e:=qab h;have e2:l++[10]=upto 10 l++10::(past 10 l++[10]):=(congrArg (· ++ [10]) e).trans (by simp);rw [xz (by simp [h]),xz h,e2,wj _ (qa9 10 l),xb _ (qa9 10 l),ih];rfl
  ·rw [xz (by simp),x2 h,wj [] h,xb [] h]
   rw [x2 (by simp)];rfl
theorem qdh:∀ (n:Nat) (l:qc) (c:UInt8),l.length≤n→c≠10→qz (l++[c])=(qz l).set ((qz l).length - 1) ((qz l).getD ((qz l).length - 1) []++[c])
 |n,l,c,hn,hc=>by
  by_cases h:10∈l
  ·have b8:l≠[]:=fun e=>by subst e;simp at h
   have d6:=xi (c:=10) b8
   cases n with
   |zero=>omega
   |succ n=>
    have ih:=qdh n (past 10 l) c (by omega) hc;have e:=qab h;have e2:l++[c]=upto 10 l++10::(past 10 l++[c]):=(congrArg (· ++ [c]) e).trans (by simp);have hp:=qfh (past 10 l);have t6:0<(qz (past 10 l)).length:=List.length_pos_iff.2 hp;rw [xz (by simp [h]),xz h,e2,wj _ (qa9 10 l),xb _ (qa9 10 l),ih];have e3:(upto 10 l::qz (past 10 l)).length - 1=(qz (past 10 l)).length - 1+1:=by simp;omega
    rw [e3,List.set_cons_succ];simp
  ·have h2:10∉l++[c]:=by simp [h,Ne.symm hc]
   rw [x2 h,x2 h2];simp
theorem q27 (l:qc):(qz l).length≤l.length+1:=qbo _ l (Nat.le_refl _)
theorem za1 (xs:List qc):flat (xs.map fun x=>Sv x)=xs.map fun x=>Sv x:=by
 induction xs with
 |nil=>rfl
 |cons a xs ih=>rw [List.map_cons,qa5,ih];rfl
set_option maxHeartbeats 2000000 in
theorem q66 (l:qc) (st:List AObj) (hl:l.length<1000000):qo E 149 [Sv l] st fun r st'=>r=Ss (qz l)∧st'=st:=by
 refine ze (qop _) (qr Tryz.func149 rfl (Nat.le_of_ble_eq_true rfl) ?_)
 have h0:Vec 1 9 (st.length+0) ((qz []).map fun x=>Sv x) (.os (st.length+0) 0 0 1 1) (.cells 0 9 [Sv []]):=by
  rw [x2 (by simp)];exact .os 0 1 [] rfl (by simp [AV.cells]) (Nat.le_refl _) (by decide)
 repeat' (first|(apply yi;(iterate 6 exact rfl))|apply qm|apply qu|apply qg|apply qh|apply qi)
 refine qa0 l (fun pre s=>∃ v ob,Vec 1 9 (st.length+0) ((qz pre).map fun x=>Sv x) v ob∧StE [(0,Sv l),(3,v),(4,Iv pre.length)] st [ob] s) ⟨_,_,h0,qci ⟨rfl,rfl,rfl,trivial⟩ rfl⟩ ?_ ?_
 ·rintro _ ⟨v,ob,hV,t,ext,rfl⟩
  repeat' (first|apply qm|apply qg|apply qh|apply ql|apply qi|(apply qt;(iterate 3 exact rfl))|(apply qe;exact rfl;apply wm;exact cAo)|(apply jy;(iterate 3 exact rfl))|apply jg|apply q6)
  exact zbr (q2j 2 rfl rfl hV rfl) (qn rfl (zh rfl) ⟨rfl,yl _ _ _ _⟩)
 ·rintro pre c rest _ hr ⟨v,ob,hV,t,ext,rfl⟩
  have c8:l.length=pre.length+(rest.length+1):=by rw [hr];simp
  have c9:l.getD pre.length 0=c:=by rw [hr];simp
  have dn:(l.take (pre.length+1)).drop pre.length=[c]:=by rw [hr,show pre++c::rest=(pre++[c])++rest by simp,List.take_left' (by simp),List.drop_left' rfl]
  have hpc:=q27 pre;rcases qto hV with⟨h0,_⟩ | ⟨ver,cap,pad,rfl,rfl,pg,hvw,hvle,hvm⟩
  ·exact absurd (List.map_eq_nil_iff.1 h0) (qfh pre)
  simp only [List.length_map] at hvle;have db:0<(qz pre).length:=List.length_pos_iff.2 (qfh pre);have i6:((qz pre).map fun x=>Sv x).length=(qz pre).length:=by simp
  have t6:((qz pre).getD ((qz pre).length - 1) []).length≤pre.length:=by
   have d6:(qz pre).length - 1<(qz pre).length:=by omega
   have e:(qz pre).getD ((qz pre).length - 1) []=(qz pre)[(qz pre).length - 1]:=by simp [List.getD,d6]
   rw [e];exact qdw pre _ (List.getElem_mem _)
  have hdl:((l.take (pre.length+1)).drop pre.length).length=1:=by rw [dn];rfl
  have hld:(flat ((qz pre).map fun x=>Sv x)++pad)[0+((qz pre).length - 1) * 1]? = some (Sv ((qz pre).getD ((qz pre).length - 1) [])):=by
   rw [za1,Nat.zero_add,Nat.mul_one,List.getElem?_append_left (by simp;omega),List.getElem?_map]
   have:(qz pre)[(qz pre).length - 1]? = some ((qz pre).getD ((qz pre).length - 1) []):=by
    have:(qz pre).length - 1<(qz pre).length:=by omega
    simp [List.getD,this]
   rw [this];rfl
  repeat' (first|(apply qu6;(iterate 5 exact rfl);kernel_rfl)|apply qm|apply qu|apply qg|apply qh|apply ql|(apply qt;(iterate 3 exact rfl))|(apply qe;exact rfl;apply vj;exact cAo)|(apply qe;exact rfl;apply cd_d <;> intro h)|(apply jy;(iterate 3 exact rfl))|(apply xn;(iterate 3 exact rfl);exact cAs)|(apply xc;(iterate 9 exact rfl))|apply qgg|(apply q3v;(iterate 4 exact rfl))|(apply q74;exact rfl;exact rfl;exact zb (by omega) (by omega))|(apply q3x;(iterate 4 exact rfl);exact cAs;exact cAs)|(apply qiv;exact rfl;exact rfl;exact cOs)|apply qej|(apply qyp;exact rfl;exact rfl;exact zb (by omega) (by omega))|apply qw|(apply qix (n:=(qz pre).length - 1);(iterate 4 exact rfl);(simp;omega);(simp;omega))|(apply qo4;(iterate 4 exact rfl);exact hld))
  ·refine qw6 (xs:=(qz pre).map fun x=>Sv x) (ys:=[Sv []]) (sz:=1) (bytes:=16) rfl rfl rfl hV rfl rfl rfl ⟨⟨_,_,rfl,rfl,rfl,rfl,rfl⟩⟩ rfl ?_ ?_ ?_
   ·simp [maxLen];omega
   ·simp;omega
   intro a' ob' hV';repeat' (first|apply qg|apply qh|apply ql|apply qi|(apply zn;exact rfl;exact rfl;exact zb (by omega) (by omega)))
   have hc:c=10:=by rw [c9] at h;exact (qfi c).1 h
   refine⟨a',ob',?_,y9 ⟨rfl,rfl,?_,trivial⟩ rfl⟩
   ·rw [hc,qwl _ pre (Nat.le_refl _),List.map_append]
    exact hV'
   ·rw [qcb pre c];rfl
  ·refine qrh (k:=0) (sz:=1) rfl rfl rfl rfl rfl rfl rfl rfl rfl (by show 0+((qz pre).length - 1) * 1+1≤_;rw [pg];omega) ?_
   repeat' (first|apply qg|apply qh|apply ql|apply qi|(apply zn;exact rfl;exact rfl;exact zb (by omega) (by omega)))
   have hc:c≠10:=fun e=>by rw [c9] at h;exact h ((qfi c).2 e)
   refine⟨_,_,?_,y9 ⟨rfl,rfl,?_,trivial⟩ rfl⟩
   ·rw [qdh _ pre c (Nat.le_refl _) hc,← dn]
    have:=zhp (o:=st.length+0) (T:=9) (ver:=ver) (sz:=1) pg hvw (by simpa using hvle) hvm (i:=(qz pre).length - 1) (x:=Sv ((qz pre).getD ((qz pre).length - 1) []++(l.take (pre.length+1)).drop pre.length)) rfl (by simp;omega);rw [← List.map_set] at this;exact this
   ·rw [qcb pre c];rfl
end Go.Proofs.YtapblfabkbdgcaaGreatDoor
