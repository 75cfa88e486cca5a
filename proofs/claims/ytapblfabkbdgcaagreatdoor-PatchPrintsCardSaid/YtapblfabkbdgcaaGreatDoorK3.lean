/- Contracts and plain facts that the closing text leans on (part 3). No condition of their own beyond those that each states. -/
import Derived.Test.YtapblfabkbdgcaaGreatDoorK2
import Derived.Lib.SplitLaws
import Derived.Shelf.Strings.SplitShaped
import Derived.Deep.Slices
import Derived.Deep.Fields
import Derived.WideKeyArgs
import Derived.Lib.ItoaLen
set_option maxRecDepth 100000
set_option linter.unusedVariables false
set_option linter.unusedSimpArgs false
namespace Go.Pl
open Go
def sp:Bool→qc→Bool
 | _,[]=>true
 |f,c::l=>(!f ||decide (c=32)) && sp (decide (c=10)) l
theorem ql2:∀ l,sp false l=sp true (past 10 l)
 | []=>rfl
 |c::l=>by
  by_cases h:c=10
  ·subst h;simp [sp,past,upto]
  ·have e:past 10 (c::l)=past 10 l:=by simp [past,upto,h]
   rw [e,← ql2 l];simp [sp,h]
theorem qz3 {l:qc} (h:l≠[]):sp true l=(decide ([32] <+: upto 10 l) && sp true (past 10 l)):=by
 cases l with
 |nil=>exact absurd rfl h
 |cons c r=>
  by_cases hc:c=10
  ·subst hc;simp [sp,upto]
  ·have e:past 10 (c::r)=past 10 r:=by simp [past,upto,hc]
   have e2:upto 10 (c::r)=c::upto 10 r:=by simp [upto,hc]
   rw [e,e2,← ql2];simp [sp,hc,eq_comm]
theorem qk3:∀ (n:Nat) (l:qc),l.length≤n→((∀ x∈zj l,[32] <+: x.1)↔sp true l=true)
 | 0,l,h=>by
  have:l=[]:=List.length_eq_zero_iff.1 (by omega);subst this
  simp [kq,sp]
 |n+1,l,h=>by
  by_cases hl:l=[]
  ·subst hl;simp [kq,sp]
  ·rw [vr hl,qz3 hl,Bool.and_eq_true,← qk3 n (past 10 l) (by have:=xo (c:=10) hl;omega)]
   simp only [List.mem_cons,forall_eq_or_imp,decide_eq_true_eq]
theorem qiq (l:qc):(vi [32] l).2=sp true l:=by
 unfold vi;by_cases h:sp true l=true
 ·rw [if_pos ((qk3 _ l (Nat.le_refl _)).2 h),h]
 ·rw [if_neg (fun h'=>h ((qk3 _ l (Nat.le_refl _)).1 h'))]
  simp only [Bool.not_eq_true] at h;rw [h]
def qit (f:Bool) (l:qc):Bool:=match l.getLast? with|none=>f|some c=>decide (c=10)
theorem q4s (f:Bool) (c:UInt8) (l:qc):qit f (c::l)=qit (decide (c=10)) l:=by
 cases l with
 |nil=>simp [qit]
 |cons b l=>
  unfold qit;rw [List.getLast?_cons_cons]
  cases hb:(b::l).getLast? with
  |none=>simp at hb
  |some x=>rfl
theorem qz2:∀ (f:Bool) (l m:qc),sp f (l++m)=(sp f l && sp (qit f l) m)
 |f,[],m=>by simp [sp,qit]
 |f,c::l,m=>by
  simp only [List.cons_append,sp];rw [qz2 _ l m,q4s,Bool.and_assoc]
theorem qu1 (l:qc):qfp l↔2≤l.length∧l.length≤50000∧l.getLast? = some 10∧sp true l=true:=by
 unfold qfp;rw [qiq]
theorem qdp:∀ (n u:Nat),u≤n→∀ c∈Lib.decDigits u,48≤c.toNat∧c.toNat≤57
 |n,u,hn,c,hc=>by
  by_cases h:u<10
  ·rw [Lib.decDigits_one h] at hc
   simp only [List.mem_singleton] at hc;subst hc;rw [UInt8.toNat_ofNat'];omega
  ·rw [qam h,List.mem_append] at hc
   cases n with
   |zero=>omega
   |succ n=>
    rcases hc with hc|hc
    ·exact qdp n (u / 10) (by omega) c hc
    ·exact qdp n (u % 10) (by omega) c hc
theorem qk0 (n:Nat):Lib.itoa (n:Int)=Lib.decDigits n:=by
 unfold Lib.itoa;rw [if_neg (by omega)];simp
theorem zbe (n:Nat):∀ c∈Lib.itoa (n:Int),48≤c.toNat∧c.toNat≤57:=by
 rw [qk0];exact qdp n n (Nat.le_refl _)
theorem qxt (u:Nat):Lib.decDigits u≠[]:=by
 intro h;have:=congrArg List.length h;rw [Lib.decDigits_length] at this;have:=Lib.nDigits_pos u;simp at *;omega
theorem qvd:∀ (a:Nat) (l m:qc) (b:Nat),Lib.parseUint10 a l = .ok b→Lib.parseUint10 a (l++m)=Lib.parseUint10 b m
 |a,[],m,b,h=>by
  simp only [Lib.parseUint10,Lib.NumEnd.ok.injEq] at h
  subst h;rfl
 |a,c::l,m,b,h=>by
  simp only [List.cons_append,Lib.parseUint10] at h ⊢;split at h
  ·rename_i hd
   rw [if_pos hd];split at h
   ·cases h
   ·rename_i h1
    rw [if_neg h1];split at h
    ·cases h
    ·rename_i h2
     rw [if_neg h2];exact qvd _ l m b h
  ·cases h
theorem qvf:∀ (n u:Nat),u≤n→u<1000000000000000000→Lib.parseUint10 0 (Lib.decDigits u) = .ok u
 |n,u,hn,hu=>by
  have key:∀ (a d:Nat),a<100000000000000000→d<10→Lib.parseUint10 a (Lib.decDigits d) = .ok (a * 10+d):=by
   intro a d ha hd;have e:(UInt8.ofNat (48+d)).toNat=48+d:=by rw [UInt8.toNat_ofNat'];omega
   rw [Lib.decDigits_one hd];simp only [Lib.parseUint10,e];rw [if_pos (by omega),if_neg (by omega),if_neg (by omega)];congr 1;omega
  by_cases h:u<10
  ·have:=key 0 u (by omega) h
   simpa using this
  ·cases n with
   |zero=>omega
   |succ n=>
    rw [qam h,qvd 0 _ _ (u / 10) (qvf n (u / 10) (by omega) (by omega)),key _ _ (by omega) (by omega)];congr 1;omega
theorem q6p {n:Nat} (h:n<1000000000000000000):Lib.atoiAll (Lib.itoa (n:Int)) = .ok (n:Int):=by
 have hp:=qvf n n (Nat.le_refl _) h;have hd:=qdp n n (Nat.le_refl _);rw [qk0]
 cases hl:Lib.decDigits n with
 |nil=>exact absurd hl (qxt n)
 |cons c r=>
  rw [hl] at hp hd;have hc:=hd c (by simp);simp only [Lib.atoiAll];have h1:¬ (c.toNat=43∨c.toNat=45):=by omega
  rw [if_neg h1];have hm:Lib.parseMag (c::r) = .ok n:=by unfold Lib.parseMag;rw [if_neg (by simp)];exact hp
  rw [hm];have h2:¬ c.toNat=45:=by omega
  simp only [h2,not_false_iff,true_and,false_and,if_false];rw [if_neg (by omega)]
theorem qy4 {n:Nat} (h1:1≤n) (h2:n≤50000):x2 (Lib.itoa (n:Int))=n:=by
 have:=q5c (q6p (n:=n) (by omega));rw [if_pos ⟨rfl,by omega,by omega⟩] at this;omega
theorem qju {l:qc} {n:Nat} (h:x2 l=n) (hn:1≤n):l=Lib.itoa (n:Int):=by
 unfold x2 at h;split at h
 ·split at h
  ·rename_i v _ hv
   have:v=(n:Int):=by omega
   rw [← this,hv.1]
  ·omega
 ·omega
end Go.Pl
namespace Go.Proofs.YtapblfabkbdgcaaGreatDoor
open Go Go.Pl
def yr (n:Nat) (fig:qc):qc:=wq++(Lib.itoa n++32::fig)
theorem za8 (n:Nat) (fig:qc):qwm n fig=yr n fig++[10]:=by simp [qwm,yr,wq]
theorem qrx (n:Nat) {c:UInt8} (h:¬ (48≤c.toNat∧c.toNat≤57)):c∉Lib.itoa (n:Int):=fun hc=>h (zbe n c hc)
theorem qmt {f:qc} (h:qbl f) {c:UInt8} (hc:c∉hexL):c∉f:=fun h'=>hc (h c h')
theorem qew (n:Nat) {fig:qc} (h:qbl fig):10∉yr n fig:=by
 unfold yr;simp only [List.mem_append,List.mem_cons,not_or];exact⟨by decide,qrx n (by decide),by decide,qmt h (by decide)⟩
theorem q53 (l:qc):Lib.trimPrefix (wq++l) wq=l:=by
 rw [qdr (List.prefix_append _ _),List.drop_left]
structure zdr (n:Nat) (fig body:qc):Prop where
 two:2≤n
 most:n≤50000
 len:body.length=n
 good:qfp body
 figs:fig.length=8
 hex:qbl fig
def recL (n:Nat) (fig body:qc):qc:=yr n fig++10::(body++qha n)
theorem zf0 (l:qc):recF l=recL l.length (sumF l) l:=by
 unfold recF recL;rw [za8];simp
theorem qvj {l a b:qc} (h:l <+: a++b):l <+: a∨∃ r,l=a++r∧r <+: b:=by
 rcases Nat.le_total l.length a.length with hl|hl
 ·exact .inl (List.prefix_of_prefix_length_le h (List.prefix_append _ _) hl)
 ·obtain⟨r,hr⟩:=List.prefix_of_prefix_length_le (List.prefix_append a b) h hl
  exact .inr ⟨r,hr.symm,by rw [← hr] at h;exact (List.prefix_append_right_inj a).1 h⟩
theorem qth {a b:qc} {c:UInt8} (h:a <+: b) (hc:c∉b):c∉a:=fun h'=>hc (h.subset h')
theorem q5j (f:qc) (hl:f.length≤8) (hx:qbl f):∃ g:qc,g.length=8∧qbl g∧f <+: g:=
 ⟨f++List.replicate (8 - f.length) 48,by simp;omega,fun c hc=>by
  rw [List.mem_append,List.mem_replicate] at hc;rcases hc with hc | ⟨_,rfl⟩
  ·exact hx c hc
  ·decide,List.prefix_append _ _⟩
theorem qtm:∀ (k:Nat),sp false (List.replicate k 97++[10])=true
 | 0=>by simp [sp]
 |k+1=>by rw [List.replicate_succ,List.cons_append];simp only [sp];exact by simpa using qtm k
theorem qxn {n:Nat} {r:qc} (hn:n≤50000) (d5:r.length<n) (h2:2≤n) (hp:qny r ((n:Int) - r.length)=2):∃ body:qc,body.length=n∧qfp body∧r <+: body:=by
 unfold qny at hp;split at hp
 ·rename_i h
  obtain⟨hs,hfr⟩:=h;rw [qiq] at hs;by_cases hf:r=[]∨r.getLast? = some 10
  ·have hk:r.length+2≤n:=by
    rcases Nat.lt_or_ge (r.length+1) n with h|h
    ·omega
    ·exact absurd ⟨hf,by omega⟩ hfr
   refine⟨r++(32::(List.replicate (n - r.length - 2) 97++[10])),by simp;omega,?_,List.prefix_append _ _⟩;rw [qu1];refine⟨by simp;omega,by simp;omega,by simp [List.getLast?_append,List.getLast?_cons],?_⟩;rw [qz2,hs];simp only [sp,Bool.true_and];have:=qtm (n - r.length - 2)
   simpa using this
  ·refine⟨r++(List.replicate (n - r.length - 1) 97++[10]),by simp;omega,?_,List.prefix_append _ _⟩
   rw [qu1];refine⟨by simp;omega,by simp;omega,by simp [List.getLast?_append],?_⟩;rw [qz2,hs]
   have e:qit true r=false:=by
    unfold qit
    cases hq:r.getLast? with
    |none=>exact absurd (.inl (List.getLast?_eq_none_iff.1 hq)) hf
    |some c=>
     refine decide_eq_false fun h=>hf (.inr ?_);rw [hq,h]
   rw [e,qtm];rfl
 ·simp at hp
theorem qf9 {n:Nat} (h2:2≤n) (hn:n≤50000):∃ body:qc,body.length=n∧qfp body:=by
 obtain⟨b,h1,h3,_⟩:=qxn (n:=n) (r:=[]) hn (by simp;omega) h2 (by
  unfold qny;rw [qiq]
  rw [if_pos ⟨rfl,by rintro⟨_,h⟩;simp at h;omega⟩])
 exact⟨b,h1,h3⟩
theorem qgi {a b c:qc} (h:a <+: b):a <+: b++c:=h.trans (List.prefix_append _ _)
theorem qf6 {n:Nat} {fig body l:qc} (h:l <+: yr n fig):l <+: recL n fig body∧l.length<(recL n fig body).length:=by
 refine⟨qgi h,?_⟩;have:=h.length_le;unfold recL;simp;omega
theorem zfm {l:qc} (h:(qa4 l).1=2):∃ n fig body,zdr n fig body∧l <+: recL n fig body∧l.length<(recL n fig body).length:=by
 unfold qa4 at h;split at h
 ·rename_i f0
  split at h
  ·rename_i ho
   generalize hr:past 10 l=r at *;have hl:=y6 f0;rw [hr] at hl;generalize hu:upto 10 l=u at *
   -- the first line
   have hop:u=yr (xf u).1 (xf u).2.1∧2≤(xf u).1∧(xf u).1≤50000∧(xf u).2.1.length=8∧qbl (xf u).2.1:=by
    simp only [xf,decide_eq_true_eq] at ho ⊢;obtain⟨o1,o2,o3,o4,o5⟩:=ho;refine⟨?_,o3,qey _,o4,o5⟩;obtain⟨t,rfl⟩:=o1;rw [q53] at *;have:=qju rfl (Nat.le_trans (by decide) o3);unfold yr;rw [← this,← y6 o2]
   generalize (xf u).1=n at *;generalize (xf u).2.1=fig at *;obtain⟨rfl,h2,hn,hf,hx⟩:=hop;split at h
   ·rename_i d5
    obtain⟨body,b1,b2,b3⟩:=qxn hn d5 h2 h;refine⟨n,fig,body,⟨h2,hn,b1,b2,hf,hx⟩,?_,?_⟩
    ·rw [hl]
     unfold recL;rw [List.prefix_append_right_inj,List.cons_prefix_cons];exact⟨rfl,qgi b3⟩
    ·rw [hl]
     unfold recL;have:=b3.length_le;have:=qz8 n;simp;omega
   ·rename_i ck
    split at h
    ·rename_i hg
     have b9:(r.take n).length=n:=by simp;omega
     refine⟨n,fig,r.take n,⟨h2,hn,b9,hg,hf,hx⟩,?_⟩;unfold q2j at h;rw [b9] at h;split at h
     ·rename_i hc
      rw [hl];unfold recL;constructor
      ·rw [List.prefix_append_right_inj,List.cons_prefix_cons]
       refine⟨rfl,?_⟩
       conv=>lhs;rw [← List.take_append_drop n r]
       rw [List.prefix_append_right_inj];exact hc.2
      ·have:=hc.1
       simp at this ⊢;omega
     ·split at h <;> simp at h
    ·simp at h
  ·simp at h
 ·rename_i f0
  split at h
  ·rename_i ho
   unfold qh5 at ho;split at ho
   ·rename_i hb
    obtain⟨t,rfl⟩:=hb;have ed:(wq++t).drop 7=t:=by rw [show (7:Nat)=wq.length by rfl,List.drop_left]
    rw [ed] at ho;obtain⟨o1,o2,o3,o4⟩:=of_decide_eq_true ho;by_cases h32:32∈t
    ·have nq:2≤x2 (upto 32 t):=by
      rcases Nat.lt_or_ge (x2 (upto 32 t)) 2 with h|h
      ·exact absurd ⟨h32,h⟩ o1
      ·exact h
     obtain⟨fig,f1,f2,f3⟩:=q5j _ o3 o4;obtain⟨body,b1,b2⟩:=qf9 nq (qey _);refine⟨_,fig,body,⟨nq,qey _,b1,b2,f1,f2⟩,qf6 ?_⟩;unfold yr;rw [List.prefix_append_right_inj]
     conv=>lhs;rw [y6 h32]
     rw [qju (l:=upto 32 t) rfl (by omega)];rw [qy4 (by omega) (qey _),List.prefix_append_right_inj,List.cons_prefix_cons];exact⟨rfl,f3⟩
    ·rw [qb0 h32] at o2
     by_cases ht:t=[]
     ·subst ht
      obtain⟨body,b1,b2⟩:=qf9 (n:=2) (by omega) (by omega);refine⟨2,List.replicate 8 48,body,⟨by omega,by omega,b1,b2,by simp,by decide⟩,qf6 ?_⟩;unfold yr;simp
     ·have bc:1≤x2 t:=by
       rcases Nat.eq_zero_or_pos (x2 t) with h|h
       ·exact absurd ⟨ht,h⟩ o2
       ·exact h
      have c9:=qey t;have sw:=qju (l:=t) rfl bc;generalize x2 t=m at *;subst sw;by_cases hm:m=1
      ·subst hm
       obtain⟨body,b1,b2⟩:=qf9 (n:=10) (by omega) (by omega);refine⟨10,List.replicate 8 48,body,⟨by omega,by omega,b1,b2,by simp,by decide⟩,qf6 ?_⟩;unfold yr;rw [List.prefix_append_right_inj];have e1:Lib.itoa ((1:Nat):Int)=[49]:=by rw [qk0,Lib.decDigits_one (by decide)];rfl
       have e2:Lib.itoa ((10:Nat):Int)=[49,48]:=by rw [qk0,qam (by decide),Lib.decDigits_one (by decide),Lib.decDigits_one (by decide)];rfl
       rw [e1,e2];exact⟨_,rfl⟩
      ·obtain⟨body,b1,b2⟩:=qf9 (n:=m) (by omega) (by omega)
       refine⟨m,List.replicate 8 48,body,⟨by omega,by omega,b1,b2,by simp,by decide⟩,qf6 ?_⟩;unfold yr;rw [List.prefix_append_right_inj];exact List.prefix_append _ _
   ·rename_i hb
    have hp:=of_decide_eq_true ho;obtain⟨body,b1,b2⟩:=qf9 (n:=2) (by omega) (by omega);refine⟨2,List.replicate 8 48,body,⟨by omega,by omega,b1,b2,by simp,by decide⟩,qf6 ?_⟩;unfold yr;exact qgi hp
  ·simp at h
theorem q07 (s:BitVec 32):qbl (jq s 8):=by
 intro c hc;simp only [jq,List.mem_map] at hc;obtain⟨j,_,rfl⟩:=hc;unfold figP;have h:=Go.Av.and15_lt (s >>> (4 * (7 - j)));generalize ((s >>> (4 * (7 - j))) &&& BitVec.ofInt 32 15).toNat=k at h;have key:∀ i:Fin 16,([48,49,50,51,52,53,54,55,56,57,97,98,99,100,101,102]:qc).getD i.val 0∈hexL:=by decide
 exact key ⟨k,h⟩
theorem zhv {l:qc} (h1:10∈l→(xf (upto 10 l)).2.2=false) (h2:10∉l→qh5 l=false):qa4 l=(3,[],0):=by
 unfold qa4;by_cases h:10∈l
 ·rw [if_pos h,if_neg (by rw [h1 h];simp)]
 ·rw [if_neg h,if_neg (by rw [h2 h];simp)]
theorem R2 {l:qc} (hl:l.length≤7) (h:¬ l <+: wq):qa4 l=(3,[],0):=by
 refine zhv (fun f0=>decide_eq_false fun h'=>?_) (fun f0=>?_)
 ·have:=h'.1.length_le
  have:=qdh f0;have e:wq.length=7:=rfl;omega
 ·unfold qh5
  by_cases hb:wq <+: l
  ·have:=hb.eq_of_length_le hl
   exact absurd (this▸List.prefix_refl _) h
  ·rw [if_neg hb];exact decide_eq_false h
theorem zgi {p:UInt8→Bool} (s:qc):s.take (s.takeWhile p).length=s.takeWhile p:=by
 induction s with
 |nil=>rfl
 |cons b s ih=>
  by_cases h:p b=true
  ·rw [List.takeWhile_cons_of_pos h];simp [ih]
  ·rw [List.takeWhile_cons_of_neg h];rfl
theorem zig {p:UInt8→Bool} {l m:qc} (hm:m <+: l) (h:∀ c∈m,p c=true):m.length≤(l.takeWhile p).length:=by
 obtain⟨r,rfl⟩:=hm;rw [List.takeWhile_append_of_pos h];simp
end Go.Proofs.YtapblfabkbdgcaaGreatDoor
namespace Go.Proofs.YtapblfabkbdgcaaGreatDoor
open Go Go.Av Go.RowKit Go.Proofs Go.Pl
structure zc7 (l S:qc) (K n:Nat):Prop where
 hl:l=wq++S
 hK:(S.takeWhile qrh).length=K
 hD:S.take K=Lib.itoa (n:Int)
 h1:1≤n
 h2:n≤50000
theorem zc7.split {l S:qc} {K n:Nat} (A:zc7 l S K n) (h:K<S.length):S=Lib.itoa (n:Int)++S.getD K 0::S.drop (K+1)∧qrh (S.getD K 0)=false:=by
 have e:S=S.take K++S.getD K 0::S.drop (K+1):=by
  conv=>lhs;rw [← List.take_append_drop K S]
  rw [List.drop_eq_getElem_cons h];congr 2;simp [List.getD,h]
 refine⟨by rw [← A.hD];exact e,?_⟩
 cases hc:qrh (S.getD K 0) with
 |false=>rfl
 |true=>
  have hp:S.take (K+1) <+: S:=List.take_prefix _ _
  have:=zig (p:=qrh) hp (fun c gn=>by
   rw [qcy h,List.mem_append,List.mem_singleton] at gn;rcases gn with gn|rfl
   ·rw [← A.hK,zgi] at gn
    have ha:=List.all_takeWhile (p:=qrh) (l:=S);rw [List.all_eq_true] at ha;exact ha c gn
   ·exact hc)
  rw [A.hK] at this;simp at this;omega
end Go.Proofs.YtapblfabkbdgcaaGreatDoor
namespace Go.Av
open Go Go.RowKit
def StE (L:List (Nat×AV)) (st loc:List AObj) (s:AS):Prop:=∃ t ext,s=⟨puts t L,((st++loc)++ext)++[],[]⟩
theorem y3 {t:Nat→AV} {L:List (Nat×AV)} {st loc loc' ext new:List AObj} (h:HasL t L) (e:loc'=loc):StE L st loc ⟨t,((st++loc')++ext)++new,[]⟩:=
 ⟨t,ext++new,by rw [qhg h,e];simp⟩
theorem qb8 {t:Nat→AV} {L:List (Nat×AV)} {st loc st':List AObj} (h:HasL t L) (e:st'=st++loc):StE L st loc ⟨t,st',[]⟩:=
 ⟨t,[],by rw [qhg h,e];simp⟩
theorem yb (st loc ext new:List AObj):∃ x,((st++loc)++ext)++new=st++x:=⟨loc++ext++new,by simp⟩
theorem y8 {st loc ext new:List AObj} {k:Nat} {x:AObj} (h:loc[k]? = some x):(((st++loc)++ext)++new)[st.length+k]? = some x:=by
 have hk:=lt_of_getElem? h;rw [List.append_assoc,List.append_assoc,List.getElem?_append_right (Nat.le_add_right _ _),Nat.add_sub_cancel_left,List.getElem?_append_left hk];exact h
theorem qdf {st loc ext new:List AObj} {k:Nat} (x:AObj) (hk:k<loc.length):(((st++loc)++ext)++new).set (st.length+k) x=((st++loc.set k x)++ext)++new:=by
 rw [List.append_assoc,List.append_assoc,List.set_append_right _ _ (Nat.le_add_right _ _),Nat.add_sub_cancel_left,List.set_append_left _ _ hk];simp
theorem qi9 {G:Gh} {sz:Nat} {xs:List AV} {tip:Option Nat} {v:Value} (h:Rel G (.sl sz xs tip) v):Rel G (.sl sz xs none) v:=by
 cases h with
 |sl0 _ _ base cap ht=>exact .sl0 sz none base cap (by simp)
 |sl _ _ _ b off cap pub hp hw b9 hr ht i4=>exact .sl sz xs none b off cap pub hp hw b9 hr (fun t ht=>by simp at ht) i4
theorem qa5 {G:Gh} {sz:Nat} {v:Value} (h:Rel G zx v):Rel G (.sl sz [] none) v:=by
 cases h
 exact .sl0 sz none none 0 (by simp)
section
variable {E : Env} {rd : Option Nat} {N : Nat} {ops : Array Oper} {K : AS → Prop} {s : AS} {rest : List Oper} {d : Option Tmp} {T : TypeId} {p : String} {af : Array Edge}
theorem wp {fn:Func} {r r':AV} (h:ARes E fn s r) (hw:∀ (G:Gh) (v:Value),Rel G r v→Rel G r' v):ARes E fn s r':=
 ⟨fun B0 w0 G a w hL hI=>let ⟨v,h1,h2⟩:=h.run B0 w0 G a w hL hI;⟨v,h1,hw G v h2⟩⟩
theorem qqr {fn:Func} {t:Tmp} {sz:Nat} {xs:List AV} {tip:Option Nat} (hr:fn.results = #[.tmp t]) (hx:qi fn.ntmps s (.tmp t) = .sl sz xs tip):ARes E fn s (.sl sz xs none):=
 wp (zf hr) fun G v h=>by rw [hx] at h;exact qi9 h
theorem qel {x y:Operand} {t u T':TypeId} {sz bytes k n m:Nat} {xs ys zs:List AV} {tip:Option Nat} {st loc ext new:List AObj} (hs:s.st=((st++loc)++ext)++new) (hx:qi N s x = .sl sz xs (some (st.length+k))) (hy:qi N s y = .sl sz ys tip) (ho:loc[k]? = some (.tip n sz T')) (hn:xs.length=n)
  (ht:E.P.underlying t=some (.slice T')) (hu:E.P.underlying u=some (.slice T')) (hT:wx E.P T' sz bytes) (d9:jv (flat ys)=true) (hm:ys.length=m) (l7:n+m≤maxLen) (hb:(n+m) * bytes≤140737488355328) (hz:xs++ys=zs)
  (h:AOps E rd N ops rest K (AS.put ⟨s.t,((st++loc.set k (.tip (n+m) sz T'))++ext)++new,s.df⟩ d (.sl sz zs (some (st.length+k))))):AOps E rd N ops (⟨d,.call ⟨.builtin .append,#[x,y],#[t,u]⟩,T,p,af,none⟩::rest) K s:=by
 subst hz;have hk:=lt_of_getElem? ho;exact qn8 hx hy (by rw [hs];exact y8 ho) hn ht hu hT d9 hm l7 hb (by rw [hs,qdf _ hk];exact h)
theorem qlw {x:Operand} {t:TypeId} {sz:Nat} {agg:Bool} {st loc ext new:List AObj} {k ver off:Nat} {T':TypeId} {cs:List AV} {r:AV} (hs:s.st=((st++loc)++ext)++new) (hx:qi N s x = .bx (st.length+k) ver off) (ho:loc[k]? = some (.cells ver T' cs)) (ht:tyOf E.P t=some (sz,agg)) (hr:js sz agg off cs=some r)
  (h:AOps E rd N ops rest K (s.put d r)):AOps E rd N ops (⟨d,.load t x,T,p,af,none⟩::rest) K s:=
 ka hx (by rw [hs];exact y8 ho) ht hr h
end
end Go.Av
namespace Go.Pl
open Go
def qy (l:qc):List qc:=
 if h:10∈l then upto 10 l::qy (past 10 l) else [l]
 termination_by l.length
 decreasing_by exact xo (fun e=>by rw [e] at h;simp at h)
theorem xv {l:qc} (h:10∈l):qy l=upto 10 l::qy (past 10 l):=by rw [qy,dif_pos h]
theorem xw {l:qc} (h:10∉l):qy l=[l]:=by rw [qy,dif_neg h]
theorem q3e:∀ (n:Nat) (l:qc),l.length≤n→Lib.splitK [10] 0 (Lib.count l [10]) l=qy l
 |n,l,hn=>by
  by_cases h:10∈l
  ·have hi:=qrg 10 l h
   have b8:l≠[]:=fun e=>by rw [e] at h;simp at h
   have d5:=xo (c:=10) b8;rw [xv h,Lib.count_hit (i:=(upto 10 l).length) (by simp) hi,Nat.add_comm,Lib.splitK];rw [if_neg (by rw [hi];simp),hi]
   cases n with
   |zero=>exact absurd (List.length_eq_zero_iff.1 (by omega)) b8
   |succ n=>
    have:=q3e n (past 10 l) (by omega);simp only [Int.toNat_natCast,Nat.add_zero,List.length_cons,List.length_nil,Nat.zero_add,qjf];rw [show List.drop ((upto 10 l).length+1) l=past 10 l from rfl,this]
  ·have hi:Lib.index l [10] = -1:=by
    have:=Lib.index_ge l [10];have h2:¬ 0≤Lib.index l [10]:=fun h'=>h ((qco l 10).1 h');omega
   rw [xw h,Lib.count_miss hi];rfl
theorem qbg:∀ (n:Nat) (l:qc),l.length≤n→(qy l).length≤l.length+1
 |n,l,hn=>by
  by_cases h:10∈l
  ·have b8:l≠[]:=fun e=>by rw [e] at h;simp at h
   have d5:=xo (c:=10) b8;rw [xv h]
   cases n with
   |zero=>exact absurd (List.length_eq_zero_iff.1 (by omega)) b8
   |succ n=>
    have:=qbg n (past 10 l) (by omega);simp only [List.length_cons];omega
  ·rw [xw h];simp
theorem qgh:∀ (n:Nat) (l:qc),l.length≤n→∀ x∈qy l,x.length≤l.length∧10∉x
 |n,l,hn,x,hx=>by
  by_cases h:10∈l
  ·have b8:l≠[]:=fun e=>by rw [e] at h;simp at h
   have d5:=xo (c:=10) b8;rw [xv h,List.mem_cons] at hx;rcases hx with rfl|hx
   ·exact⟨vt 10 l,qa3 10 l⟩
   ·cases n with
    |zero=>exact absurd (List.length_eq_zero_iff.1 (by omega)) b8
    |succ n=>
     have:=qgh n (past 10 l) (by omega) x hx;exact⟨by omega,this.2⟩
  ·rw [xw h,List.mem_singleton] at hx
   subst hx;exact⟨Nat.le_refl _,h⟩
end Go.Pl
namespace Go.Proofs.YtapblfabkbdgcaaGreatDoor
open Go Go.Av Go.RowKit Go.Proofs Go.Pl
theorem ql4 {f:FuncId} {st:List AObj} {args:List AV} {vals:Array Value} {xs:List qc} {T:TypeId} (ha:args=vals.toList.map .v) (b8:xs≠[])
  (h:∀ B0 w0 w,E.L B0 w0→Below B0 w0 w→Calls E.P f vals w fun e w'=>e = .returned (.slice (some ⟨w.heap.size,0,none⟩) xs.length xs.length)∧w'=w.alloc (.cells (xs.map fun l=>Value.string ⟨l.toArray⟩).toArray T)) :
  qn E f args st fun r st'=>r = .sl 1 (xs.map fun l=>Sv l) none∧st'=st:=by
 subst ha;refine⟨fun B0 w0 G vs w hL hA hR=>?_⟩
 have hv:vs=vals:=by
  have hs:vs.size=vals.size:=by have:=hR.1;simpa using this.symm
  apply Array.ext hs;intro i h1 h2;have:=hR.2 i (.v vals[i]) vs[i] (by simp [h2]) (by simp [h1]);generalize vs[i]=y at this
  cases this
  rfl
 subst hv;refine (h B0 w0 w hL hA.below).mono ?_;rintro e w' ⟨rfl,rfl⟩;obtain⟨c9,tl⟩:=hA.newPub T (xs.map fun l=>Value.string ⟨l.toArray⟩).toArray (0,0) (xs.map fun l=>Value.string ⟨l.toArray⟩) (fun i y hy=>by simpa using hy);refine⟨_,_,_,st,rfl,c9,tl,?_,rfl,rfl⟩
 have g8:flat (xs.map fun l=>Sv l)=xs.map fun l=>Sv l:=by
  clear b8 h c9 tl
  induction xs with
  |nil=>rfl
  |cons a xs ih=>rw [List.map_cons,qa0,ih];rfl
 have:=Rel.sl (G:=G.publish w.heap.size (xs.map fun l=>Value.string ⟨l.toArray⟩)) 1 (xs.map fun l=>Sv l) none w.heap.size 0 xs.length (xs.map fun l=>Value.string ⟨l.toArray⟩) (by simp [Gh.publish]) (fun x hx=>by
  simp only [List.mem_map] at hx;obtain⟨l,_,rfl⟩:=hx
  rfl) (by rw [g8];simp) (fun i x y h1 h2=>by
  rw [g8,List.getElem?_map] at h1;rw [Nat.zero_add,List.getElem?_map] at h2
  cases hx:xs[i]? with
  |none=>rw [hx] at h1;simp at h1
  |some l=>
   rw [hx] at h1 h2;simp at h1 h2;subst h1;subst h2
   exact .v _) (fun t ht=>by simp at ht) (by simp)
 simpa using this
theorem q9k (l:List UInt8) (st:List AObj) (hl:l.length<4294967281):qn E 143 [Sv l,Sv [10]] st fun r st'=>r = .sl 1 ((qy l).map fun x=>Sv x) none∧st'=st:=by
 have hd:=Lib.splitB_data ⟨#[10]⟩ 0 (Lib.countB ⟨l.toArray⟩ ⟨#[10]⟩) ⟨l.toArray⟩;have hs:Lib.splitK [10] 0 (Lib.count l [10]) l=qy l:=q3e _ l (Nat.le_refl _);have hn:=Lib.splitB_all ⟨#[10]⟩ (by simp [ByteArray.size]) 0 _ ⟨l.toArray⟩ rfl;have hd2:(Lib.splitB ⟨#[10]⟩ 0 (Lib.countB ⟨l.toArray⟩ ⟨#[10]⟩) ⟨l.toArray⟩).map (·.data.toList)=qy l:=hd.trans hs;have b9:(qy l).length=Lib.countB ⟨l.toArray⟩ ⟨#[10]⟩+1:=by rw [← hd2,List.length_map,hn]
 refine ql4 (T:=9) (vals:= #[.string ⟨l.toArray⟩,.string ⟨#[10]⟩]) rfl (fun e=>by rw [e] at b9;simp at b9) fun _ _ w hL hb=>(Tryz.strings_Split_shaped ⟨l.toArray⟩ ⟨#[10]⟩ w (hL w hb).shaped (by simpa [ByteArray.size] using hl) (by simp [ByteArray.size])).mono fun e w' ⟨h1,h2⟩=>?_;refine⟨by rw [h1,b9],?_⟩;rw [h2,← hd2,List.map_map];rfl
end Go.Proofs.YtapblfabkbdgcaaGreatDoor
namespace Go.Av
open Go Go.RowKit
section
variable {E : Env} {N : Nat} {ops : Array Oper} {K : AS → Prop} {s : AS} {rest : List Oper} {d : Option Tmp} {T : TypeId} {p : String} {af : Array Edge}
theorem qqp {x:Operand} {t:TypeId} {sz:Nat} {agg:Bool} {o ver off:Nat} {T':TypeId} {cs:List AV} {r:AV} (hx:qi N s x = .bx o ver off) (ho:s.st[o]? = some (.cells ver T' cs)) (ht:tyOf E.P t=some (sz,agg)) (hr:js sz agg off cs=some r)
  (h:AQ E N ops rest K (s.put d r)):AQ E N ops (⟨d,.load t x,T,p,af,none⟩::rest) K s:=by
 refine qc3 rfl nofun fun B0 w0 G a w _ hI=>?_;have he:=hI.eval_of hx;generalize hv:a.eval x=v at he
 cases he with
 |bx _ _ _ b hn r7 hb=>
  obtain⟨_,h1,h2,h3,c,h4,h5,h6⟩:=hI.agree.ob o _ ho;have hb:=hb h1;subst hb
  have d5:(G.ob o).blk<w.heap.size:=by
   rcases Nat.lt_or_ge (G.ob o).blk w.heap.size with h'|h'
   ·exact h'
   ·rw [Array.getElem?_eq_none h'] at h4;simp at h4
  -- the value is read out of the cells, whatever is drawn behind them
  have key:∀ w',Below w.heap.size w w'→∃ v,(loadVar t ⟨(G.ob o).blk,off,none⟩).run E.P w' = .ok v w'∧Rel G r v:=fun w' l6=>by
   have h4':w'.heap[(G.ob o).blk]? = some (.cells c T' (0,0)):=by rw [l6.block _ d5];exact h4
   exact y9 (w:=w') (G:=G) (b:=(G.ob o).blk) (off:=off) (off':=off) ht (fun i x hx hi=>by
    obtain⟨y,hy⟩:=vv hx (Nat.le_of_eq h5);refine⟨y,?_,h6 i x y hx hy⟩
    simp [World.cell?,h4',show off+(i - off)=i by omega,hy]) hr
  have s4:∀ w',Below w.heap.size w w'→∀ v,(loadVar t ⟨(G.ob o).blk,off,none⟩).run E.P w = .ok v w→(loadVar t ⟨(G.ob o).blk,off,none⟩).run E.P w' = .ok v w':=fun w' l6 v cn=>by
   obtain⟨i1,i2⟩:=vb ht w;obtain⟨j1,j2⟩:=vb ht w';have hc:∀ k,w'.cell? ⟨(G.ob o).blk,k,none⟩=w.cell? ⟨(G.ob o).blk,k,none⟩:=fun k=>by simp [World.cell?,l6.block _ d5]
   obtain⟨v',pn,_⟩:=key w' l6;rw [pn];congr 1
   cases agg with
   |false=>
    simp only [js,cond_false] at hr;obtain⟨y,hy⟩:=vv hr (Nat.le_of_eq h5);have e1:w.cell? ⟨(G.ob o).blk,off,none⟩=some y:=by simp [World.cell?,h4,hy]
    have e2:w'.cell? ⟨(G.ob o).blk,off,none⟩=some y:=by rw [hc,e1]
    simp [loadVar,i2,run_load,e1] at cn;simp [loadVar,j2,run_load,e2] at pn
    rw [← pn,cn]
   |true=>
    simp only [js,cond_true] at hr
    cases bm:Nat.ble (off+sz) cs.length with
    |false=>rw [bm] at hr;simp at hr
    |true=>
     have c9:off+sz≤cs.length:=Nat.le_of_ble_eq_true bm
     have e1:∀ j,j<sz→w.cell? ⟨(G.ob o).blk,off+j,none⟩=some (c.getD (off+j) undef):=fun j hj=>by
      have:off+j<c.size:=by omega
      simp [World.cell?,h4,this]
     have e2:∀ j,j<sz→w'.cell? ⟨(G.ob o).blk,off+j,none⟩=some (c.getD (off+j) undef):=fun j hj=>by rw [hc,e1 j hj]
     have l1:=run_loadCells (P:=E.P) (w:=w) ⟨(G.ob o).blk,off,none⟩ sz (fun j=>c.getD (off+j) undef) (fun j hj=>by rw [Addr.add_lit];exact e1 j hj);have l2:=run_loadCells (P:=E.P) (w:=w') ⟨(G.ob o).blk,off,none⟩ sz (fun j=>c.getD (off+j) undef) (fun j hj=>by rw [Addr.add_lit];exact e2 j hj);simp [loadVar,i1,i2,l1] at cn;simp [loadVar,j1,j2,l2] at pn;rw [← pn,cn]
  obtain⟨v,a8,hR⟩:=key w (Below.refl _ _);exact⟨v,r,fun w' l6=>by simp only [execOp,hv,Instr.loadAt,Instr.sureAddr];simp [s4 w' l6 v a8],hR,h⟩
theorem qo4 {f:FuncId} {xs:Array Operand} {ts:Array TypeId} {args:List AV} {r:AV} {v:Value} (hok:zc8 E) (a8:∀ vs w,(callFunc f vs).run E.P w = .ok (.enter f vs) w)
  (fp:xs.toList.map (qi N s)=args) (hp:∀ x∈args,Pure x) (hs:Sure r v) (hpr:∀ G,Rel G r v) (hc:qn E f args [] fun a st1=>a=r∧st1=[])
  (h:AQ E N ops rest K (s.put d r)):AQ E N ops (⟨d,.call ⟨.value (.func f),xs,ts⟩,T,p,af,none⟩::rest) K s:=by
 refine⟨fun B0 w0 G a w hL hI Q hQ=>?_⟩;refine⟨fun _ _ _ _=>trivial,?_⟩;simp only [Region.wanted];refine⟨v,fun w' l6=>?_,?_⟩
 ·have hr:(execOp a.eval ⟨d,.call ⟨.value (.func f),xs,ts⟩,T,p,af,none⟩).run E.P w' = .ok (.enter f (xs.map a.eval)) w':=by
   have he:a.eval (.func f) = .func (.func f) #[] #[]:=rfl;generalize a.eval = ρ at he;simp [execOp,resolve,Deferred.ofValue,he,invoke,a8]
  have cx:=qcv hI xs;rw [fp] at cx;unfold Oper.quietAtIn;rw [hr];refine⟨rfl,fun h=>by simp [fw,Fence.wide] at h,qgt ?_⟩;have hb:Below B0 w0 w':=hI.agree.below.trans (l6.mono hI.agree.hB);have hB:B0≤w'.heap.size:=Nat.le_trans hI.agree.hB l6.size;have tl:=hI.agree.fresh l6;refine (hc.run w'.heap.size w' ⟨G.pub,G.ob,0⟩ (xs.map a.eval) w' (hok B0 w0 w' hL hb hB) ⟨Below.refl _ _,Nat.le_refl _,rfl,tl.pub,nofun,nofun⟩ ⟨cx.1,fun i x y hx hy=>?_⟩).mono ?_
  ·exact hp x (List.mem_of_getElem? hx) G _ y (fun b vs hb=>⟨[],by simpa using hb⟩) (cx.2 i x y hx hy)
  ·rintro e w'' ⟨u,G',r',st',rfl,hG,hA,hR,rfl,rfl⟩
   rw [hs G' u hR];exact⟨rfl,l6.trans (hA.below.mono l6.size)⟩
 ·refine h.run B0 w0 G _ w hL (hI.put (.refl G) hI.agree d (hpr G)) Q fun s' a' m4 e7 hK=>hQ s' a' m4 ?_ hK
  rw [e7]
  cases d <;> rfl
end
end Go.Av
namespace Go.Av
open Go Go.RowKit
section
variable {E : Env} {rd : Option Nat} {N : Nat} {ops : Array Oper} {K : AS → Prop} {s : AS} {rest : List Oper} {d : Option Tmp} {T : TypeId} {p : String} {af : Array Edge}
theorem qob {x:Operand} {t:TypeId} {sz:Nat} {agg:Bool} {st loc:List AObj} {k ver off:Nat} {T':TypeId} {cs:List AV} {r:AV} (hs:s.st=st++loc) (hx:qi N s x = .bx (st.length+k) ver off) (ho:loc[k]? = some (.cells ver T' cs)) (ht:tyOf E.P t=some (sz,agg)) (hr:js sz agg off cs=some r)
  (h:AQ E N ops rest K (s.put d r)):AQ E N ops (⟨d,.load t x,T,p,af,none⟩::rest) K s:=
 qqp hx (by rw [hs];exact jl ho) ht hr h
end
end Go.Av
namespace Go.Proofs.YtapblfabkbdgcaaGreatDoor
open Go Go.Av Go.RowKit Go.Proofs Go.Pl
structure qca where
 kind:Int
 key:qc
 text:qc
 lo:Int
 hi:Int
abbrev FldV:=qc×qc
@[reducible] def fldA (f : FldV) : AV := .ag [Sv f.1, Sv f.2]
@[reducible] def zl (l : List FldV) : AV := .sl 2 (l.map fldA) none
def zde (r:qca):Prop:=1≤r.kind∧r.kind≤7∧(r.kind=6∨yh r.key)
instance (r:qca):Decidable (zde r):=inferInstanceAs (Decidable (_∧_∧_))
def q3n (l:qc):List qc:=if l=[] then [] else qy l
theorem q81 (xs:List qc):Pure (.sl 1 (xs.map fun x=>Sv x) none):=qb7 fun x hx=>by
 simp only [List.mem_map] at hx;obtain⟨l,_,rfl⟩:=hx;intro y hy;simp [AV.cells] at hy;subst hy;exact q8 _
def qn5 (r:qca) (n:Int):Prop:=r.lo≤n∧n≤r.hi
instance (r:qca) (n:Int):Decidable (qn5 r n):=inferInstanceAs (Decidable (_∧_))
def q23 (r:qca) (l:qc):Prop:=∃ n,numZ l=some n∧qn5 r n
instance (r:qca) (l:qc):Decidable (q23 r l):=
 match h:numZ l with
 |some n=>decidable_of_iff (qn5 r n) ⟨fun h'=>⟨n,h,h'⟩,fun ⟨m,h1,h2⟩=>by rw [h] at h1;cases h1;exact h2⟩
 |none=>.isFalse fun ⟨m,h1,_⟩=>by rw [h] at h1;cases h1
def q0a (r:qca) (f:FldV):Prop:=
 (r.kind=3→f.1=r.key→q23 r f.2)∧(r.kind=4→f.1=r.key→f.2∈q3n r.text)∧(r.kind=5→f.1=r.key→qn5 r f.2.length)∧(r.kind=6→f.1∈q3n r.text)
instance (r:qca) (f:FldV):Decidable (q0a r f):=inferInstanceAs (Decidable (_∧_∧_∧_))
theorem qku {xs:List FldV} {k:Nat} (hk:k<xs.length):(xs.map fldA)[k]? = some (fldA (xs.getD k ([],[]))):=by
 simp [List.getD,hk]
def qnf (key:qc) (xs:List FldV):List qc:=(xs.filter fun f=>f.1=key).map Prod.snd
def zd3 (r:qca) (xs:List FldV):Prop:=zde r∧((r.kind=1∧(qnf r.key xs).length=0)∨(r.kind=2∧1<(qnf r.key xs).length)∨(r.kind≠1∧r.kind≠2∧xs.any (fun f=> !decide (q0a r f))=true))
instance (r:qca) (xs:List FldV):Decidable (zd3 r xs):=inferInstanceAs (Decidable (_∧(_∨_∨_)))
structure zc9 (xs:List FldV):Prop where
 len:xs.length<1000000
 val:∀ f∈xs,f.1.length<4294967281∧f.2.length<4294967281
def badR (r:qca) (f:FldV):Bool:= !decide (q0a r f)
def cntR (r:qca) (xs:List FldV):Nat:=if r.kind=6 then 0 else (qnf r.key xs).length
end Go.Proofs.YtapblfabkbdgcaaGreatDoor
namespace Go.Av
open Go Go.RowKit Go.WideShapes Go.ChangeShapes Go.Deep
def gW (W:World):Gh:=⟨fun b=>match W.heap[b]? with|some (.cells c _ _)=>some c.toList | _=>none,fun _=>⟨0,0,0,false⟩,0⟩
theorem zhf {W:World} {b:Nat} {c:Array Value} {T:TypeId} {fz:Nat×Nat} (h:W.heap[b]? = some (.cells c T fz)):(gW W).pub b=some c.toList:=by
 simp [gW,h]
theorem qwx (W:World):zi W.heap.size W (gW W) [] W:=by
 refine⟨Below.refl _ _,Nat.le_refl _,rfl,fun b vs h=>?_,fun o x h=>by simp at h,fun o o' x x' _ h=>by simp at h⟩;simp only [gW] at h;split at h
 ·rename_i c T fz hb
  cases h
  exact⟨c,T,fz,hb,fun i y hy=>by simpa using hy⟩
 ·cases h
theorem qqu {E:Env} {f:FuncId} {args:List AV} {vals:Array Value} {b:Bool} {W:World} (h:qn E f args [] fun r st'=>r=Bv b∧st'=[]) (hL:E.L W.heap.size W) (ha:RelL (gW W) args vals) :
  Calls E.P f vals W fun e w'=>e = .returned (.bool b)∧Below W.heap.size W w':=by
 refine (h.run W.heap.size W (gW W) vals W hL (qwx W) ha).mono ?_;rintro e w' ⟨v,G',r,st',rfl,_,hA,hr,rfl,_⟩
 cases hr
 exact⟨rfl,hA.below⟩
theorem zcf {G:Gh}:RelL G [] #[]:=⟨rfl,fun i x y h=>by simp at h⟩
theorem q86 {G:Gh} {a:AV} {us:List AV} {v:Value} {vs:List Value} (h:Rel G a v) (hs:RelL G us vs.toArray):RelL G (a::us) (v::vs).toArray:=by
 refine⟨by simpa using hs.1,fun i x y hx hy=>?_⟩
 cases i with
 |zero=>simp at hx hy;subst hx;subst hy;exact h
 |succ i=>exact hs.2 i x y (by simpa using hx) (by simpa using hy)
def RelK (G:Gh) (us:List AV) (cs:List Value):Prop:=us.length=cs.length∧∀ (i:Nat) (x:AV) (y:Value),us[i]? = some x→cs[i]? = some y→Rel G x y
theorem qlh {G:Gh} {a:AV} {v:Value} (h:Rel G a v):RelK G [a] [v]:=⟨rfl,fun i x y hx hy=>by
 cases i with
 |zero=>simp at hx hy;subst hx;subst hy;exact h
 |succ i=>simp at hx⟩
theorem RelK.one {G:Gh} {a:AV} {v:Value} (h:RelK G [a] [v]):Rel G a v:=h.2 0 a v rfl rfl
def Opn (P:Program) (t:TypeId) (S:AV→Prop):Prop:=∀ (H:Type) (enc:TypeId×Value→H) (W:World) (fuel:Nat) (cs:List Value) (x:DataW H×List MemPlace),
 DataW.trod enc P W 0 (fun _=>true) true fuel t cs=some x→∃ a,S a∧RelK (gW W) a.cells cs
def IsS (a:AV):Prop:=∃ l:List UInt8,a=Sv l∧l.length≤maxLen
def IsI (k:IntKind) (a:AV):Prop:=∃ n:Int,a = .v (.int k n)∧(Lit.int k n).wf=true
def IsSl (sz:Nat) (S:AV→Prop) (a:AV):Prop:=∃ xs:List AV,a = .sl sz xs none∧xs.length≤maxLen∧∀ x∈xs,S x
def IsAg (Ss:List (AV→Prop)) (a:AV):Prop:=∃ vs:List AV,a = .ag vs∧vs.length=Ss.length∧∀ (i:Nat) (S:AV→Prop) (v:AV),Ss[i]? = some S→vs[i]? = some v→S v
def One (S:AV→Prop):Prop:=∀ a,S a→a.cells=[a]
theorem zdh:One IsS:=by rintro _ ⟨l,rfl,_⟩;rfl
theorem qwn (k:IntKind):One (IsI k):=by rintro _ ⟨l,rfl,_⟩;rfl
theorem ziz (s:ByteArray):Sv s.data.toList = .v (.string s):=by cases s;simp
theorem zdi {P:Program} {t:TypeId} (hu:P.underlying t=some .string):Opn P t IsS:=by
 intro H enc W fuel cs x h;obtain⟨s,rfl,_,hs⟩:=DataW.trod_string hu h;refine⟨Sv s.data.toList,⟨_,rfl,by simpa using hs⟩,qlh ?_⟩;rw [ziz];exact .v _
theorem qwo {P:Program} {t:TypeId} {k:IntKind} (hu:P.underlying t=some (.int k)):Opn P t (IsI k):=by
 intro H enc W fuel cs x h;obtain⟨n,rfl,_,hs⟩:=DataW.trod_int hu h;exact⟨_,⟨n,rfl,hs⟩,qlh (.v _)⟩
theorem qoh {n:Nat} {Q:Nat→AV→Prop} (h:∀ i,i<n→∃ a,Q i a):∃ vs:List AV,vs.length=n∧∀ i v,vs[i]? = some v→Q i v:=by
 induction n with
 |zero=>exact⟨[],rfl,fun i v h=>by simp at h⟩
 |succ n ih=>
  obtain⟨vs,hl,hv⟩:=ih fun i hi=>h i (by omega);obtain⟨a,ha⟩:=h n (by omega);refine⟨vs++[a],by simp [hl],fun i v hi=>?_⟩;rcases Nat.lt_or_ge i n with hc|hc
  ·rw [List.getElem?_append_left (by omega)] at hi
   exact hv i v hi
  ·rw [List.getElem?_append_right (by omega)] at hi
   have:i - vs.length=0:=by
    rcases Nat.eq_zero_or_pos (i - vs.length) with h0|h0
    ·exact h0
    ·rw [List.getElem?_eq_none (by simp;omega)] at hi;cases hi
   rw [this] at hi;simp at hi;subst hi;have:i=n:=by omega
   subst this;exact ha
theorem zh0 {P:Program} {t:TypeId} {fs:Array Field} {Ss:List (AV→Prop)} (hu:P.underlying t=some (.struct fs)) (d9:oneCellFields P fs=true) (hC:P.cellsOf t=fs.size) (hl:Ss.length=fs.size)
  (hS:∀ (i:Nat) (f:Field) (S:AV→Prop),fs[i]? = some f→Ss[i]? = some S→Opn P f.type S∧One S):Opn P t (IsAg Ss):=by
 intro H enc W fuel cs x h;obtain⟨xs,n,_,_,cq,hxl,hf⟩:=DataW.trod_struct hu h;have gw:cs.length=fs.size:=cq.trans hC
 have step:∀ i,i<fs.size→∃ a:AV,(∀ S,Ss[i]? = some S→S a)∧∀ y,cs[i]? = some y→Rel (gW W) a y:=by
  intro i hi;have hfi:fs[i]? = some fs[i]:=Array.getElem?_eq_getElem hi;have hSi:Ss[i]? = some (Ss[i]'(by omega)):=List.getElem?_eq_getElem (by omega);obtain⟨hO,h1⟩:=hS i _ _ hfi hSi;obtain⟨ho,hk⟩:=hone_of d9 i _ hfi;have ht:=hf i _ hfi;rw [ho,hk] at ht
  have hd:(cs.drop i).take 1=[cs[i]'(by omega)]:=by
   rw [List.drop_eq_getElem_cons (by omega)];rfl
  rw [hd,List.getElem?_eq_getElem (by omega)] at ht;obtain⟨a,ha,hr⟩:=hO H enc W n _ _ ht;rw [h1 a ha] at hr;refine⟨a,fun S hs=>?_,fun y hy=>?_⟩
  ·rw [hSi] at hs;cases hs;exact ha
  ·rw [List.getElem?_eq_getElem (by omega)] at hy;cases hy;exact hr.one
 obtain⟨vs,lq,hv⟩:=qoh step;refine⟨.ag vs,⟨vs,rfl,by omega,fun i S v hs hvi=>(hv i v hvi).1 S hs⟩,by show vs.length=cs.length;omega,fun i x y hx hy=>(hv i x hx).2 y hy⟩
theorem q2h {W:World} {a:Addr} {n:Nat} {v:Value} (h:W.cell? (a.add n)=some v):∃ (c:Array Value) (T:TypeId) (fz:Nat×Nat),W.heap[a.block]? = some (.cells c T fz)∧c[a.off+n]? = some v∧(n=0→a.spot=none):=by
 unfold World.cell? Addr.add at h;by_cases hn:n=0
 ·subst hn
  simp only [if_true] at h;split at h
  ·rename_i c T fz hb
   split at h
   ·cases h
   ·rename_i hs
    exact⟨c,T,fz,hb,by simpa using h,fun _=>by simpa using hs⟩
  ·cases h
 ·rw [if_neg hn] at h
  simp only at h;split at h
  ·rename_i c T fz hb
   exact⟨c,T,fz,hb,by simpa using h,fun e=>absurd e hn⟩
  ·cases h
theorem q8m {P:Program} {t e:TypeId} {sz:Nat} {S:AV→Prop} (hu:P.underlying t=some (.slice e)) (hC:P.cellsOf e=sz) (hz:0<sz) (hS:Opn P e S):Opn P t (IsSl sz S):=by
 intro H enc W fuel cs x h;rcases open_slice hu h with⟨rfl,_⟩ | ⟨a,len,cap,m,n,D,Pl,rfl,_,rz,cz,hm,_,s8⟩
 ·exact⟨.sl sz [] none,⟨[],rfl,by simp,by simp⟩,qlh (.sl0 sz none _ _ (by simp))⟩
 ·have hm':len≤m:=by rw [hm];simpa using rz
  rw [hC] at s8
  have step:∀ i,i<len→∃ y:AV,S y∧y.cells.length=sz∧∀ j,j<sz→∃ (u:AV) (v:Value),y.cells[j]? = some u∧W.cell? (a.add (i * sz+j))=some v∧Rel (gW W) u v:=by
   intro i hi;obtain⟨cs',hc,ht⟩:=s8 i (by omega);obtain⟨_,cq,hat⟩:=World.cells?_some hc;obtain⟨y,hy,hr⟩:=hS H enc W n cs' _ ht;refine⟨y,hy,hr.1.trans cq,fun j hj=>?_⟩;have h1:y.cells[j]? = some (y.cells[j]'(by rw [hr.1,cq];exact hj)):=List.getElem?_eq_getElem _;have h2:cs'[j]? = some (cs'[j]'(by omega)):=List.getElem?_eq_getElem _;refine⟨_,_,h1,?_,hr.2 j _ _ h1 h2⟩;rw [← Go.Deep.add_add,hat j hj,h2]
  obtain⟨xs,hxl,hx⟩:=qoh step
  have u0:∀ y∈xs,S y∧y.cells.length=sz:=fun y hy=>by
   obtain⟨i,hi,rfl⟩:=List.mem_iff_getElem.1 hy;have:=hx i xs[i] (List.getElem?_eq_getElem hi);exact⟨this.1,this.2.1⟩
  refine⟨.sl sz xs none,⟨xs,rfl,by omega,fun y hy=>(u0 y hy).1⟩,qlh ?_⟩;rcases Nat.eq_zero_or_pos len with h0|h0
  ·subst h0
   have:xs=[]:=List.length_eq_zero_iff.1 hxl;subst this;exact .sl0 sz none _ _ (by simp)
  ·have g8:(flat xs).length=len * sz:=by rw [zq fun y hy=>(u0 y hy).2,hxl]
   have at0:∀ k,k<len * sz→∃ (u:AV) (v:Value),(flat xs)[k]? = some u∧W.cell? (a.add k)=some v∧Rel (gW W) u v:=by
    intro k hk;have hq:k / sz<len:=(Nat.div_lt_iff_lt_mul hz).2 hk;have hr:k % sz<sz:=Nat.mod_lt _ hz;have e:k / sz * sz+k % sz=k:=by rw [Nat.mul_comm];exact Nat.div_add_mod k sz
    have hxi:xs[k / sz]? = some (xs[k / sz]'(by omega)):=List.getElem?_eq_getElem _;obtain⟨_,_,hj⟩:=hx _ _ hxi;obtain⟨u,v,h1,h2,h3⟩:=hj _ hr;have:=qhs (sz:=sz) (fun y hy=>(u0 y hy).2) hxi _ hr;rw [e] at this h2;exact⟨u,v,this.trans h1,h2,h3⟩
   have bc:0<len * sz:=Nat.mul_pos h0 hz;obtain⟨_,_,_,hc0,_⟩:=at0 0 bc;obtain⟨c,T,fz,hb,_,hspot⟩:=q2h hc0
   have dk:∀ k,k<len * sz→∃ (u:AV) (v:Value),(flat xs)[k]? = some u∧c.toList[a.off+k]? = some v∧Rel (gW W) u v:=by
    intro k hk;obtain⟨u,v,h1,h2,h3⟩:=at0 k hk;obtain⟨c',T',fz',dx,hv,_⟩:=q2h h2;rw [hb] at dx
    cases dx
    exact⟨u,v,h1,by simpa using hv,h3⟩
   obtain⟨b,off,spot⟩:=a;have hs:=hspot rfl;simp only at hs hb dk;subst hs;rw [← hxl];refine .sl sz xs none b off cap c.toList (zhf hb) (fun y hy=>(u0 y hy).2) ?_ ?_ ?_ (by omega)
   ·obtain⟨_,_,_,hv,_⟩:=dk (len * sz - 1) (by omega)
    have:=(List.getElem?_eq_some_iff.1 hv).1;omega
   ·intro i x y d7 hy'
    have hi:i<len * sz:=by rw [← g8];exact (List.getElem?_eq_some_iff.1 d7).1
    obtain⟨u,v,h1,h2,h3⟩:=dk i hi;rw [d7] at h1;rw [hy'] at h2
    cases h1
    cases h2
    exact h3
   ·intro t ht
    simp at ht
def fieldsOf (P:Program) (t:TypeId):Array Field:=match P.underlying t with|some (.struct fs)=>fs | _=> #[]
theorem qk6 {P:Program} {t:TypeId} {As:List (Option TypeDesc×(AV→Prop))} (hu:P.underlying t=some (.struct (fieldsOf P t))) (d9:oneCellFields P (fieldsOf P t)=true) (hC:P.cellsOf t=(fieldsOf P t).size)
  (hF:(fieldsOf P t).toList.map (fun f=>P.underlying f.type)=As.map Prod.fst) (hA:∀ p∈As,(∀ u,P.underlying u=p.1→Opn P u p.2)∧One p.2):Opn P t (IsAg (As.map Prod.snd)):=by
 have hl:As.length=(fieldsOf P t).size:=by have:=congrArg List.length hF;simpa using this.symm
 refine zh0 hu d9 hC (by simpa using hl) fun i f S hf hS=>?_;obtain⟨p,hp,rfl⟩:∃ p,As[i]? = some p∧p.2=S:=by simpa using hS
 have h1:((fieldsOf P t).toList.map (fun f=>P.underlying f.type))[i]? = some (P.underlying f.type):=by simp [hf]
 rw [hF,List.getElem?_map,hp] at h1;obtain⟨a,b⟩:=hA p (List.mem_of_getElem? hp);exact⟨a _ (by simpa using h1.symm),b⟩
theorem q17 {α : Type} {g : α→AV}:∀ {xs:List AV},(∀ x∈xs,∃ r,x=g r)→∃ rs:List α,xs=rs.map g
 | [],_=>⟨[],rfl⟩
 |x::xs,h=>by
  obtain⟨r,rfl⟩:=h x (by simp);obtain⟨rs,rfl⟩:=q17 (xs:=xs) fun y hy=>h y (by simp [hy]);exact⟨r::rs,rfl⟩
theorem zaf {H:Type} {enc:TypeId×Value→H} {P:Program} {W W':World} {t:TypeId} (hl:laidOutB P=true) (hr:P.readableRec t=true) (hrow:t<P.types.size) {sp:Nat→Bool} {v:Value} {d:DataW H} {ps:List MemPlace}
  (hd:DataW.Trod enc P W 0 (fun _=>true) true t v d ps) (hb:Below W.heap.size W W') (d5:∀ p∈ps,p.block<W.heap.size) (hs:∀ p∈ps,sp p.block=true):DataW.Trod enc P W' 0 sp true t v d ps:=
 Go.WideElems.Trod_stays hl hr hrow hd (fun p hp=>hb.same (d5 p hp)) hs
end Go.Av
namespace Go.Proofs.YtapblfabkbdgcaaGreatDoor
open Go Go.Av Go.RowKit Go.Proofs Go.Pl
theorem zfs:Opn Tryz.prog 98 fun a=>∃ f:FldV,a=fldA f:=by
 intro H enc W fuel cs x h
 obtain⟨a,⟨vs,rfl,hl,hv⟩,hr⟩:=qk6 (As:=[(some .string,IsS),(some .string,IsS)]) (by kernel_rfl) (by kernel_rfl) (by kernel_rfl) (by kernel_rfl)
  (List.forall_mem_cons.2 ⟨⟨fun _ h=>zdi h,zdh⟩,List.forall_mem_cons.2 ⟨⟨fun _ h=>zdi h,zdh⟩,nofun⟩⟩) H enc W fuel cs x h
 match vs,hl with
 | [v0,v1],_=>
  obtain⟨l0,rfl,_⟩:=hv 0 _ _ rfl rfl;obtain⟨l1,rfl,_⟩:=hv 1 _ _ rfl rfl;exact⟨_,⟨(l0,l1),rfl⟩,hr⟩
theorem zbt {t:TypeId} (hu:Tryz.prog.underlying t=some (.slice 98)):Opn Tryz.prog t fun a=>∃ xs:List FldV,a=zl xs∧xs.length≤maxLen:=by
 intro H enc W fuel cs x h;obtain⟨a,⟨xs,rfl,hl,hx⟩,hr⟩:=q8m (sz:=2) hu (by kernel_rfl) (by decide) zfs H enc W fuel cs x h;obtain⟨rs,rfl⟩:=q17 hx;exact⟨_,⟨rs,rfl,by simpa using hl⟩,hr⟩
theorem zbr:One fun a=>∃ xs:List FldV,a=zl xs∧xs.length≤maxLen:=by rintro _ ⟨xs,rfl,_⟩;rfl
theorem q75 {n:Nat} (h:n≤maxLen):n<9223372036854775808:=by unfold maxLen at h;omega
structure qq where
 kind:Int
 id:Int
 fields:List FldV
@[reducible] def je (e : qq) : AV := .ag [Iv e.kind, Iv e.id, zl e.fields]
def qac (k:Int):qc:=if k=1 then [32,114,101,112,108,97,99,101,32] else if k=2 then [32,100,101,108,101,116,101,32] else if k=3 then [32,105,110,115,101,114,116,32] else []
def ko (e:qq):qc:=if 1≤e.kind∧e.kind≤3 then qac e.kind++Lib.itoa e.id else []
theorem q85 (e:qq) (st:List AObj) (h1 : -9223372036854775808≤e.id) (h2:e.id≤9223372036854775807):qn E 69 [je e] st fun r st'=>r=Sv (ko e)∧st'=st:=by
 refine zb (q8 _) (qr Tryz.func69 rfl (Nat.le_of_ble_eq_true rfl) ?_);have hn:=Lib.itoa_length_le e.id h1 h2;repeat' (first|apply qm|apply qg|apply qh|apply qj|(apply qu;(iterate 3 exact rfl))|(apply qe;exact rfl;apply cd_d <;> intro h)|(apply kp;exact rfl;exact rfl;exact cOs)|(apply qa8;(iterate 4 exact rfl))|(apply zh;(iterate 3 exact rfl))|(apply jc;(iterate 5 exact rfl))|apply qw|apply q6|(apply qp;exact Tryz.call107;exact qwd _ _ h1 h2))
 all_goals refine qo rfl (zf rfl) ⟨congrArg (fun l:qc=>Sv l) (?_:_=ko e),_,rfl⟩
 all_goals simp_all [ko,qac]
 all_goals omega
def qa7 (k:Int):qc:=if k=1 then [114,101,112,108,97,99,101] else if k=2 then [100,101,108,101,116,101] else if k=3 then [105,110,115,101,114,116] else []
theorem qsq (k:Int) (st:List AObj):qn E 103 [Iv k] st fun r st'=>r=Sv (qa7 k)∧st'=st:=by
 refine zb (q8 _) (qr Tryz.func103 rfl (Nat.le_of_ble_eq_true rfl) ?_);repeat' (first|apply qm|apply qt|apply qg|apply qh|apply ql|apply qj|(apply qu;(iterate 3 exact rfl))|(apply qe;exact rfl;apply cd_d <;> intro h)|apply qw|apply q6)
 all_goals refine qo rfl (zf rfl) ⟨congrArg (fun l:qc=>Sv l) (?_:_=qa7 k),_,rfl⟩
 all_goals simp_all [qa7]
theorem q91 (k:Int):(qa7 k).length≤7:=by
 unfold qa7;repeat' split
 all_goals simp
theorem q06 (k:Int):qac k=if qa7 k=[] then [] else [32]++qa7 k++[32]:=by
 unfold qac qa7;repeat' split
 all_goals simp_all
theorem q92 (k:Int):qa7 k=[]↔¬ (1≤k∧k≤3):=by
 unfold qa7;repeat' split
 all_goals simp_all
 omega
theorem zho (e:qq) (st:List AObj) (h1 : -9223372036854775808≤e.id) (h2:e.id≤9223372036854775807):qn E 66 [je e] st fun r st'=>r=Sv (ko e)∧st'=st:=by
 refine zb (q8 _) (qr Tryz.func66 rfl (Nat.le_of_ble_eq_true rfl) ?_);have hn:=Lib.itoa_length_le e.id h1 h2;have hw:=q91 e.kind;have ho:=q06 e.kind;have hz:=q92 e.kind;repeat' (first|apply qm|apply qg|apply qh|apply ql|apply qj|(apply vm;(iterate 3 exact rfl))|(apply qe;exact rfl;apply cd_d <;> intro h)|(apply kp;exact rfl;exact rfl;exact cOs)|(apply qa8;(iterate 4 exact rfl))|(apply zh;(iterate 3 exact rfl))|(apply jc;(iterate 5 exact rfl))|apply qw|apply q6|(apply qp;exact Tryz.call103;exact qsq _ _)|(apply qp;exact Tryz.call104;exact zhh _ _ h1 h2))
 all_goals refine qo rfl (zf rfl) ⟨congrArg (fun l:qc=>Sv l) (?_:_=ko e),_,rfl⟩
 all_goals unfold ko
 ·rw [if_neg (by simp_all)]
 ·rw [if_pos (by simp_all),ho,if_neg (by assumption)]
end Go.Proofs.YtapblfabkbdgcaaGreatDoor
namespace Go.Av
open Go Go.RowKit
def noop (o:Oper):Oper:={ o with op:=.move (.const undef),guard:=none }
section
variable {F : Fence} {n : Nat} {P : Program} {ops ops' : Array Oper} {md : Region.Mode} {C : World → Prop} {Q : Exit → Act → World → Prop} {k : Nat} {o : Oper}
theorem qkc {listed:Array Bool}:∀ k,listed.getD k true=false→∃ j,j≤k∧listed.getD j true=false∧∀ i,i<j→listed.getD i true=true:=by
 intro k
 induction k using Nat.strongRecOn with
 | _ k ih=>
  intro h;by_cases m8:∀ i,i<k→listed.getD i true=true
  ·exact⟨k,Nat.le_refl _,h,m8⟩
  ·have ⟨i,hi⟩:=Classical.not_forall.1 m8
   have ⟨rv,bp⟩:=Classical.not_imp.1 hi;obtain⟨j,h1,h2,h3⟩:=ih i rv (by simpa using bp);exact⟨j,by omega,h2,h3⟩
theorem qv7 {listed:Array Bool} {i:Nat} (h:listed.getD i true=true) (hi:i<listed.size):listed.getD i false=true:=by
 simp [Array.getD,hi] at h ⊢;exact h
theorem q05 {listed:Array Bool} {i:Nat} (h:listed.getD i true=false) (h2:listed.getD i false=true):False:=by
 unfold Array.getD at h h2;by_cases hi:i<listed.size
 ·rw [dif_pos hi] at h h2
  rw [h] at h2
  cases h2
 ·rw [dif_neg hi] at h
  cases h
theorem qoy {listed:Array Bool} {j:Nat} (f8:listed.size=ops.size) (dq:∀ (j:Nat) o,ops[j]? = some o→∀ e∈o.after,e.on<j) (hj:listed.getD j true=false) (m8:∀ i,i<j→listed.getD i true=true):j∈Region.ready md ops listed:=by
 have d5:j<listed.size:=by
  rcases Nat.lt_or_ge j listed.size with h|h
  ·exact h
  ·simp [Array.getD,Nat.not_lt.2 h] at hj
 rw [mem_ready];have ho:ops[j]? = some ops[j]:=Array.getElem?_eq_getElem (by omega);exact⟨hj,_,ho,fun e he _=>qv7 (m8 _ (dq j _ ho e he)) (by have:=dq j _ ho e he;omega)⟩
theorem qle {listed:Array Bool} (hs:ops.size=ops'.size) (hk:ops[k]? = some o) (l8:ops'[k]? = some (noop o)) (i6:∀ j,j≠k→ops'[j]? = ops[j]?):Region.ready md ops' listed=Region.ready md ops listed:=by
 unfold Region.ready;rw [hs];refine List.filter_congr fun i _=>?_;by_cases h:i=k
 ·subst h;rw [hk,l8];rfl
 ·rw [i6 i h]
theorem q0i (hd:o.dst=none) (hk:ops[k]? = some o) (l8:ops'[k]? = some (noop o)) (i6:∀ j,j≠k→ops'[j]? = ops[j]?) (t:Array Value):yielded ops' t=yielded ops t:=by
 funext j;unfold yielded;by_cases h:j=k
 ·subst h;rw [hk,l8];simp [noop,hd]
 ·rw [i6 j h]
theorem qnh (hro:F.round=none) (f8:ops.size=ops'.size) (hk:ops[k]? = some o) (l8:ops'[k]? = some (noop o)) (i6:∀ j,j≠k→ops'[j]? = ops[j]?) (hd:o.dst=none)
  (dq:∀ (j:Nat) o,ops[j]? = some o→∀ e∈o.after,e.on<j) (rk:∀ j,j<ops.size→j≠k→∃ e∈o.after,Region.binds md e=true∧e.on=j) :
  ∀ (fuel:Nat) (listed:Array Bool) (a:Act) (w:World),C w→listed.size=ops.size→listed.getD k true=false→wpAnyQIn F n P md ops' C (fun a=>∀ w,C w→wpOpIn F n P ops Q k (Q .normal) a w) fuel listed a→wpAnyIn F n P md ops Q fuel listed a w
 | 0,listed,a,w,hC,hs,pm,h=>by
  have ⟨j,_,h2,h3⟩:=qkc k pm;have:=qoy (md:=md) hs dq h2 h3;rw [← qle f8 hk l8 i6,h.1] at this
  cases this
 |fuel+1,listed,a,w,hC,hs,pm,h=>by
  obtain⟨hq1,bd⟩:=h;rw [qle f8 hk l8 i6] at hq1 bd;refine⟨fun h0=>?_,fun i hi=>?_⟩
  ·have ⟨j,_,h2,h3⟩:=qkc k pm
   have:=qoy (md:=md) hs dq h2 h3;rw [h0] at this
   cases this
  ·have hqi:=bd i hi
   by_cases hik:i=k
   ·subst hik
    obtain⟨_,o',d6,m8⟩:=mem_ready.1 hi;rw [hk] at d6
    cases d6
    have hr:Region.ready md ops (listed.setIfInBounds i true)=[]:=by
     rw [List.eq_nil_iff_forall_not_mem];intro j hj;obtain⟨hju,oj,hoj,_⟩:=mem_ready.1 hj
     have hjs:j<ops.size:=by
      rcases Nat.lt_or_ge j ops.size with h|h
      ·exact h
      ·rw [Array.getElem?_eq_none h] at hoj;cases hoj
     by_cases p8:j=i
     ·subst p8
      simp [Array.getD,hs,hjs] at hju
     ·obtain⟨e,he,hb,heq⟩:=rk j hjs p8
      have h5:=m8 e he hb;rw [heq] at h5;rw [getD_set_ne true (Ne.symm p8)] at hju;exact q05 hju h5
    unfold qOpIn at hqi;rw [l8] at hqi;simp only at hqi;have hqe:=hqi.2;have hwn:Region.wanted (noop o) (yielded ops' a.tmps)=true:=by simp [noop,Region.wanted]
    rw [if_pos hwn] at hqe;obtain⟨v,_,hK⟩:=hqe;have hput:a.put (noop o).dst v=a:=by simp [noop,hd,Act.put]
    rw [hput] at hK
    have hQ':∀ w,C w→wpOpIn F n P ops Q i (Q .normal) a w:=by
     cases fuel with
     |zero=>exact hK.2
     |succ fuel=>exact hK.1 (by rw [qle f8 hk l8 i6];exact hr)
    exact wpOpIn_mono (fun a' w' h'=>wpAnyIn_done hr h' _) (hQ' w hC)
   ·have he:qOpIn F n P ops C i (wpAnyQIn F n P md ops' C (fun a=>∀ w,C w→wpOpIn F n P ops Q k (Q .normal) a w) fuel (listed.setIfInBounds i true)) a:=by
     unfold qOpIn at hqi ⊢;rw [i6 i hik] at hqi;rw [← q0i hd hk l8 i6];exact hqi
    refine wpOpIn_of_qOpIn hro hC (fun a' w' hC' hX=>qnh hro f8 hk l8 i6 hd dq rk fuel _ a' w' hC' (by simpa using hs) ?_ hX) he;rw [getD_set_ne true hik];exact pm
def qei {α : Type}:List α→Option (List α×α)
 | []=>none
 | [x]=>some ([],x)
 |x::y::r=>match qei (y::r) with
  |some (l,o)=>some (x::l,o)
  |none=>none
theorem qnb {α : Type}:∀ {L l:List α} {o : α},qei L=some (l,o)→L=l++[o]
 | [],_,_,h=>by simp [qei] at h
 | [x],_,_,h=>by simp [qei] at h;obtain⟨rfl,rfl⟩:=h;rfl
 |x::y::r,l,o,h=>by
  unfold qei at h;split at h
  ·rename_i l' o' he
   simp only [Option.some.injEq,Prod.mk.injEq] at h;obtain⟨rfl,rfl⟩:=h;rw [qnb he];rfl
  ·simp at h
def q2l (o:Oper) (k:Nat):Bool:=(List.range k).all fun j=>o.after.toList.any fun e=>Region.binds .any e && Nat.beq e.on j
def qza (ops:List Oper):Bool:=(List.range ops.length).all fun j=>match ops[j]? with|some o=>o.after.toList.all fun e=>Nat.blt e.on j|none=>true
end
section
variable {E : Env} {N : Nat} {s : AS}
theorem qt5 {id:Nat} {L l:List Oper} {o:Oper} {Q:Exit→AS→Prop} (fm:qei L=some (l,o)) (hd:o.dst=none) (rk:q2l o l.length=true) (dq:qza L=true) (hm:E.P.follows .mixedOrders=true) (hB:Region.lexB .any (l++[noop o]).toArray=true)
  (h:AQ E N (l++[noop o]).toArray l (fun s'=>AOps E none N L.toArray [o] (Q .normal) s') s):AWp E none N (.region id L.toArray true) Q s:=by
 have hLe:=qnb fm;subst hLe;refine⟨fun B0 w0 G a w hL hI=>?_⟩;have cj:=hB;simp only [Region.lexB,Bool.and_eq_true] at cj;have hk:(l++[o]).toArray[l.length]? = some o:=by simp
 have l8:(l++[noop o]).toArray[l.length]? = some (noop o):=by simp
 have i6:∀ j,j≠l.length→(l++[noop o]).toArray[j]? = (l++[o]).toArray[j]?:=fun j hj=>by
  simp only [List.getElem?_toArray];rcases Nat.lt_or_ge j l.length with h|h
  ·rw [List.getElem?_append_left h,List.getElem?_append_left h]
  ·rw [List.getElem?_eq_none (by simp;omega),List.getElem?_eq_none (by simp;omega)]
 have hordP:∀ (j:Nat) o',(l++[o]).toArray[j]? = some o'→∀ e∈o'.after,e.on<j:=fun j o' hj e he=>by
  simp only [qza,List.all_eq_true,List.mem_range] at dq;simp only [List.getElem?_toArray] at hj;have h1:=dq j (lt_of_getElem? hj);rw [hj] at h1;simp only at h1;have h2:=List.all_eq_true.1 h1 e (by simpa using he);exact Nat.le_of_ble_eq_true h2
 have hcovP:∀ j,j<(l++[o]).toArray.size→j≠l.length→∃ e∈o.after,Region.binds .any e=true∧e.on=j:=fun j hj b8=>by
  simp only [q2l,List.all_eq_true,List.mem_range] at rk;have h1:=rk j (by simp at hj;omega);obtain⟨e,he,h2⟩:=List.any_eq_true.1 h1;simp only [Bool.and_eq_true] at h2;exact⟨e,by simpa using he,h2.1,Nat.eq_of_beq_eq_true h2.2⟩
 have hBl:Below w.heap.size w { w with drawn:=w.drawn+1 }:=⟨rfl,rfl,rfl,Nat.le_refl _,fun _ _=>rfl⟩;refine wpIn_region_any hm (qnh (C:=fun w'=>Below w.heap.size w w') (ops':=(l++[noop o]).toArray) (k:=l.length) rfl (by simp) hk l8 i6 hd hordP hcovP _ _ _ _ hBl (by simp) (by simp [Array.getD]) ?_)
 have hq:wpQuietIn (fw none) 0 E.P (l++[noop o]).toArray (fun w'=>Below w.heap.size w w') (fun a=>∀ w',Below w.heap.size w w'→wpOpIn (fw none) 0 E.P (l++[o]).toArray (fun e a' w'=>∃ (G':Gh) (s':AS),G.le G'∧Inv B0 w0 N G' s' a' w'∧Q e s') l.length (fun a' w'=>∃ (G':Gh) (s':AS),G.le G'∧Inv B0 w0 N G' s' a' w'∧Q .normal s') a w') (l++[noop o]) a:=by
  have step:∀ (l1:List Oper) (a:Act) (X:Act→Prop),wpQuietIn (fw none) 0 E.P (l++[noop o]).toArray (fun w'=>Below w.heap.size w w') X l1 a→wpQuietIn (fw none) 0 E.P (l++[noop o]).toArray (fun w'=>Below w.heap.size w w') X (l1++[noop o]) a:=by
   intro l1
   induction l1 with
   |nil=>
    intro a X hX;refine⟨fun _ _ _ hf=>?_,?_⟩
    ·simp [Oper.about,noop] at hf
    ·have hwn:Region.wanted (noop o) (yielded (l++[noop o]).toArray a.tmps)=true:=by simp [noop,Region.wanted]
     rw [if_pos hwn];refine⟨undef,fun w' _=>?_,?_⟩
     ·unfold Oper.quietAtIn
      simp [noop,execOp,Oper.quietUponIn,Act.eval]
     ·have hput:a.put (noop o).dst undef=a:=by simp [noop,hd,Act.put]
      rw [hput]
      exact hX
   |cons o1 l1 ih=>
    intro a X hX;refine⟨hX.1,?_⟩;have h2:=hX.2;split
    ·rename_i hw
     rw [if_pos hw] at h2;obtain⟨v,h3,h4⟩:=h2;exact⟨v,h3,ih _ _ h4⟩
    ·rename_i hw
     rw [if_neg hw] at h2;exact ih _ _ h2
  refine step l a _ (h.run B0 w0 G a w hL hI _ fun s' a' m4 e7 gc w' l6=>?_);have gv:Inv B0 w0 N G s' a' w':=⟨m4.agree.fresh l6,m4.defers,m4.size,m4.tmps⟩;have hr:=gc.run B0 w0 G a' w' hL gv (fun e a' w'=>∃ (G':Gh) (s':AS),G.le G'∧Inv B0 w0 N G' s' a' w'∧Q e s') (fun G' s'' a'' w'' hG hI3 hQ=>⟨G',s'',hG,hI3,hQ⟩);unfold wpOpIn;rw [hk];exact hr
 have:=wpAnyQIn_lex (F:=fw none) (n:=0) (C:=fun w'=>Below w.heap.size w w') (md:=.any) cj.1 (l++[noop o]) 0 (Array.replicate (l++[noop o]).length false) a (by simp) (by simpa using cj.2) hq
 simpa using this
variable {ops : Array Oper} {K : AS → Prop} {rest : List Oper} {d : Option Tmp} {T : TypeId} {p : String} {af : Array Edge}
theorem qih {x y:Operand} {t t':TypeId} {m n:List UInt8} (hx:qi N s x=Sv m) (hy:qi N s y=Sv n) (hl:m.length+n.length<9223372036854775808)
  (h:AQ E N ops rest K (s.put d (Sv (m++n)))):AQ E N ops (⟨d,.binOp .add t x y t',T,p,af,none⟩::rest) K s:=
 qat _ rfl nofun (fun a w he=>by
  simp only [execOp,he _ _ hx,he _ _ hy,eqGuard_at_string,binOp,Op.stringOp,qaa,qt3,IntKind.max_i64];rw [if_neg (by omega)]
  simp) h
theorem qbk {x y:Operand} {t e:TypeId} {sz:Nat} {agg:Bool} {xs:List AV} {tip:Option Nat} {k:IntKind} {i:Int} {n:Nat} {z:AV} (hx:qi N s x = .sl sz xs tip) (hy:qi N s y = .v (.int k i)) (hu:E.P.underlying t=some (.slice e)) (ht:tyOf E.P e=some (sz,agg)) (hi:i=n) (hz:xs[n]? = some z)
  (h:AQ E N ops rest K (s.put d (.pp z.cells))):AQ E N ops (⟨d,.indexAddr t x y,T,p,af,none⟩::rest) K s:=by
 refine qc3 rfl nofun fun B0 w0 G a w _ hI=>?_;subst hi;have he:=hI.eval_of hx;have s7:=hI.evalv hy;generalize hv:a.eval x=v at he;have d5:=lt_of_getElem? hz
 cases he with
 |sl0=>simp at hz
 |sl _ _ _ b off cap pub hp hw b9 e8 tb i4=>
  have cg:z.cells.length=sz:=hw z (List.mem_of_getElem? hz);have g8:=zq hw;have c9:(n+1) * sz≤xs.length * sz:=Nat.mul_le_mul_right _ d5;rw [Nat.succ_mul] at c9;refine⟨.pointer (some ⟨b,off+n * sz,none⟩),.pp z.cells,fun w' _=>?_,?_,h⟩
  ·generalize a.eval = ρ at hv s7
   simp only [execOp,hv,s7];simp [Instr.indexAt,asIntOf,run_underlying hu,d5,(vb ht w').1,Addr.add_lit]
  ·refine .pp _ b _ pub hp (by omega) fun j q r h1 h2=>?_
   have hj:j<sz:=by have:=lt_of_getElem? h1;omega
   have hf:=qhs hw hz j hj;exact e8 (n * sz+j) q r (by rw [hf];exact h1) (by rw [← h2];congr 1;omega)
theorem qij {x y:Operand} {t e:TypeId} {sz:Nat} {agg:Bool} {o ver off len cp:Nat} {k:IntKind} {i:Int} {n:Nat} (hx:qi N s x = .os o ver off len cp) (hy:qi N s y = .v (.int k i)) (hu:E.P.underlying t=some (.slice e)) (ht:tyOf E.P e=some (sz,agg)) (hi:i=n) (hn:n<len)
  (h:AQ E N ops rest K (s.put d (.bx o ver (off+n * sz)))):AQ E N ops (⟨d,.indexAddr t x y,T,p,af,none⟩::rest) K s:=by
 refine qc3 rfl nofun fun B0 w0 G a w _ hI=>?_;subst hi;have he:=hI.eval_of hx;have s7:=hI.evalv hy;generalize hv:a.eval x=v at he
 cases he with
 |os _ _ _ _ b cap pf p6 hb=>
  refine⟨.pointer (some ⟨b,off+n * sz,none⟩),_,fun w' _=>?_,.bx o ver _ b pf p6 hb,h⟩;generalize a.eval = ρ at hv s7;simp only [execOp,hv,s7];simp [Instr.indexAt,asIntOf,run_underlying hu,hn,(vb ht w').1,Addr.add_lit]
theorem qqo {t:TypeId} {x:Operand} {f off sz:Nat} {agg:Bool} {o ver q:Nat} (hx:qi N s x = .bx o ver q) (hf:qan E.P t f=some (off,sz,agg)) (f8:Nat.beq sz 0=false)
  (h:AQ E N ops rest K (s.put d (.bx o ver (q+off)))):AQ E N ops (⟨d,.fieldAddr t x f,T,p,af,none⟩::rest) K s:=by
 refine qc3 rfl nofun fun B0 w0 G a w _ hI=>?_;have he:=hI.eval_of hx;generalize hv:a.eval x=v at he
 cases he with
 |bx _ _ _ b hn r7 hb=>
  have hs:sz≠0:=fun e=>by subst e;simp at f8
  exact⟨_,_,fun w' _=>by simp only [execOp,hv];simp [qfu hf hs],.bx o ver _ b hn r7 hb,h⟩
theorem qii {t:TypeId} {x:Operand} {f off sz:Nat} {agg:Bool} {cs:List AV} (hx:qi N s x = .pp cs) (hf:qan E.P t f=some (off,sz,agg)) (f8:Nat.beq sz 0=false) (c9:Nat.ble off cs.length=true)
  (h:AQ E N ops rest K (s.put d (.pp (cs.drop off)))):AQ E N ops (⟨d,.fieldAddr t x f,T,p,af,none⟩::rest) K s:=by
 refine qc3 rfl nofun fun B0 w0 G a w _ hI=>?_;have he:=hI.eval_of hx;generalize hv:a.eval x=v at he
 cases he with
 |pp _ b q pub hp b9 e8=>
  have hs:sz≠0:=fun e=>by subst e;simp at f8
  have ho:off≤cs.length:=Nat.le_of_ble_eq_true c9;refine⟨.pointer (some ⟨b,q+off,none⟩),_,fun w' _=>by simp only [execOp,hv];simp [qfu hf hs],?_,h⟩;exact .pp _ b (q+off) pub hp (by simp;omega) fun i x y h1 h2=>e8 (off+i) x y (by simpa using h1) (by rw [← h2];congr 1;omega)
theorem qep {x:Operand} {t:TypeId} {sz:Nat} {agg:Bool} {cs:List AV} {r:AV} (hx:qi N s x = .pp cs) (ht:tyOf E.P t=some (sz,agg)) (hr:js sz agg 0 cs=some r)
  (h:AQ E N ops rest K (s.put d r)):AQ E N ops (⟨d,.load t x,T,p,af,none⟩::rest) K s:=by
 refine qc3 rfl nofun fun B0 w0 G a w _ hI=>?_;have he:=hI.eval_of hx;generalize hv:a.eval x=v at he
 cases he with
 |pp _ b off pub hp b9 e8=>
  obtain⟨c,T',fz,hc,mf⟩:=hI.agree.pub b pub hp;have d5:b<w.heap.size:=hI.agree.pub_lt hp
  have key:∀ w',Below w.heap.size w w'→∃ v,(loadVar t ⟨b,off,none⟩).run E.P w' = .ok v w'∧Rel G r v:=fun w' l6=>by
   have h4':w'.heap[b]? = some (.cells c T' fz):=by rw [l6.block _ d5];exact hc
   exact y9 (w:=w') (G:=G) (b:=b) (off:=off) ht (fun i x hx _=>by
    have hi:=lt_of_getElem? hx;have hy:pub[off+i]? = some (pub[off+i]'(by omega)):=List.getElem?_eq_getElem (by omega);refine⟨_,?_,e8 i x _ hx hy⟩
    simp [World.cell?,h4',mf _ _ hy]) hr
  have hg:∀ w',Below w.heap.size w w'→∀ j,j<cs.length→w'.cell? ⟨b,off+j,none⟩=some (pub.getD (off+j) undef):=fun w' l6 j hj=>by
   have h4':w'.heap[b]? = some (.cells c T' fz):=by rw [l6.block _ d5];exact hc
   have hlt2:off+j<pub.length:=by omega
   have hy:pub[off+j]? = some (pub.getD (off+j) undef):=by simp [List.getD,hlt2]
   simp [World.cell?,h4',mf _ _ hy]
  have s4:∀ w',Below w.heap.size w w'→∀ v,(loadVar t ⟨b,off,none⟩).run E.P w = .ok v w→(loadVar t ⟨b,off,none⟩).run E.P w' = .ok v w':=fun w' l6 v cn=>by
   obtain⟨i1,i2⟩:=vb ht w;obtain⟨j1,j2⟩:=vb ht w';obtain⟨v',pn,_⟩:=key w' l6;rw [pn];congr 1
   cases agg with
   |false=>
    simp only [js,cond_false] at hr;have h0:=lt_of_getElem? hr;have e1:=hg w (Below.refl _ _) 0 h0;have e2:=hg w' l6 0 h0;rw [Nat.add_zero] at e1 e2;simp [loadVar,i2,run_load,e1] at cn;simp [loadVar,j2,run_load,e2] at pn
    rw [← pn,cn]
   |true=>
    simp only [js,cond_true] at hr
    cases bm:Nat.ble (0+sz) cs.length with
    |false=>rw [bm] at hr;simp at hr
    |true=>
     have c9:0+sz≤cs.length:=Nat.le_of_ble_eq_true bm;have l1:=run_loadCells (P:=E.P) (w:=w) ⟨b,off,none⟩ sz (fun j=>pub.getD (off+j) undef) (fun j hj=>by rw [Addr.add_lit];exact hg w (Below.refl _ _) j (by omega));have l2:=run_loadCells (P:=E.P) (w:=w') ⟨b,off,none⟩ sz (fun j=>pub.getD (off+j) undef) (fun j hj=>by rw [Addr.add_lit];exact hg w' l6 j (by omega));simp [loadVar,i1,i2,l1] at cn;simp [loadVar,j1,j2,l2] at pn;rw [← pn,cn]
  obtain⟨v,a8,hR⟩:=key w (Below.refl _ _);exact⟨v,r,fun w' l6=>by simp only [execOp,hv,Instr.loadAt,Instr.sureAddr];simp [s4 w' l6 v a8],hR,h⟩
theorem q6l {x y:Operand} {t t':TypeId} {k:IntKind} {m n r:Int} (hx:qi N s x = .v (.int k m)) (hy:qi N s y = .v (.int k n)) (hr:k.wrap (m - n)=r)
  (h:AQ E N ops rest K (s.put d (.v (.int k r)))):AQ E N ops (⟨d,.binOp .sub t x y t',T,p,af,none⟩::rest) K s:=
 qat _ rfl nofun (fun a w he=>by rw [← hr];simp [execOp,he _ _ hx,he _ _ hy,eqGuard_at_int,binOp,Op.intArith]) h
theorem q2e {x y z:Operand} {t:TypeId} {k k':IntKind} {l:List UInt8} {i j:Nat} (hx:qi N s x=Sv l) (hy:qi N s y = .v (.int k' (i:Int))) (hz:qi N s z = .v (.int k (j:Int))) (hu:E.P.underlying t=some .string) (h1:i≤j) (h2:j≤l.length)
  (h:AQ E N ops rest K (s.put d (Sv ((l.take j).drop i)))):AQ E N ops (⟨d,.slice t x (some y) (some z) none,T,p,af,none⟩::rest) K s:=
 qo5 (i:=i) (j:=j) hx hu ⟨_,hy⟩ ⟨_,hz⟩ (by omega) (by omega) (by omega) (by simpa using h)
theorem q2c {x:Operand} {ts:Array TypeId} {t0 e:TypeId} {v:AV} {n:Nat} (hx:qi N s x=v) (hl:lenA v=some n) (ht:ts[0]? = some t0) (hu:E.P.underlying t0=some (.slice e))
  (h:AQ E N ops rest K (s.put d (Iv n))):AQ E N ops (⟨d,.call ⟨.builtin .len,#[x],ts⟩,T,p,af,none⟩::rest) K s:=by
 refine qc3 rfl nofun fun B0 w0 G a w _ hI=>?_;have he:=hI.eval_of hx
 have key:∃ b c,a.eval x = .slice b n c:=by
  generalize a.eval x=u at he
  cases he <;> simp [lenA] at hl
  case v y=>
   cases u <;> simp at hl
   subst hl;exact⟨_,_,rfl⟩
  case sl0=>subst hl;exact⟨_,_,rfl⟩
  case sl=>subst hl;exact⟨_,_,rfl⟩
  case os=>subst hl;exact⟨_,_,rfl⟩
 obtain⟨b,c,hv⟩:=key;refine⟨.int .i64 n,Iv n,fun w' _=>?_,.v _,h⟩;generalize a.eval = ρ at hv;simp [execOp,resolve,invoke,builtin,Builtin.len_,hv,ht,run_underlying hu,goInt]
theorem qoc {x:Operand} {t:TypeId} {sz:Nat} {agg:Bool} {st loc ext new:List AObj} {k ver off:Nat} {T':TypeId} {cs:List AV} {r:AV} (hs:s.st=((st++loc)++ext)++new) (hx:qi N s x = .bx (st.length+k) ver off) (ho:loc[k]? = some (.cells ver T' cs)) (ht:tyOf E.P t=some (sz,agg)) (hr:js sz agg off cs=some r)
  (h:AQ E N ops rest K (s.put d r)):AQ E N ops (⟨d,.load t x,T,p,af,none⟩::rest) K s:=
 qqp hx (by rw [hs];exact y8 ho) ht hr h
end
end Go.Av
namespace Go.Av
open Go Go.RowKit
section
variable {B0 : Nat} {w0 : World} {G : Gh} {st : List AObj} {w : World}
theorem zi.pubOb (h:zi B0 w0 G st w) {o ver:Nat} {T:TypeId} {cs:List AV} (ho:st[o]? = some (.cells ver T cs)) :
  ∃ vs:List Value,G.le (G.publish (G.ob o).blk vs)∧zi B0 w0 (G.publish (G.ob o).blk vs) (st.set o .dead) w∧(G.ob o).ver=ver∧(G.publish (G.ob o).blk vs).pub (G.ob o).blk=some vs∧cs.length=vs.length ∧
   ∀ (i:Nat) (x:AV) (y:Value),cs[i]? = some x→vs[i]? = some y→Rel (G.publish (G.ob o).blk vs) x y:=by
 obtain⟨h0,h1,h2,h3,c,h4,h5,h6⟩:=h.ob o _ ho;have c9:G.le (G.publish (G.ob o).blk c.toList):=G.le_publish _ _ [] [] (.inl h3);refine⟨c.toList,c9,?_,h1,by simp [Gh.publish],by simpa using h5,fun i x y hx hy=>(h6 i x y hx (by simpa using hy)).mono c9⟩
 have key:∀ (k:Nat) (x:AObj),(st.set o .dead)[k]? = some x→x = .dead∨(k≠o∧st[k]? = some x):=fun k x hx=>by
  rcases getElem?_set' _ _ _ _ _ hx with⟨_,e⟩|e
  ·exact .inl e
  ·exact .inr e
 refine⟨h.below,h.hB,by simp [h.n,Gh.publish],fun b vs hb=>?_,fun k x hx=>?_,fun k k' x x' b8 hx d7 hl m9=>?_⟩
 ·simp only [Gh.publish] at hb
  by_cases e:b=(G.ob o).blk
  ·rw [if_pos e] at hb
   cases hb
   subst e;exact⟨c,T,(0,0),h4,fun i y hy=>by simpa using hy⟩
  ·rw [if_neg e] at hb
   exact h.pub b vs hb
 ·rcases key k x hx with rfl | ⟨hk,hx⟩
  ·trivial
  ·refine (h.ob k x hx).mono c9 rfl (fun hl=>?_) (fun _=>rfl)
   have:=h.sep k o x _ hk hx ho hl trivial;simp [Gh.publish,this]
 ·rcases key k x hx with rfl | ⟨hk,hx⟩
  ·exact hl.elim
  ·rcases key k' x' d7 with rfl | ⟨l8,d7⟩
   ·exact m9.elim
   ·exact h.sep k k' x x' b8 hx d7 hl m9
end
section
variable {E : Env} {rd : Option Nat} {N : Nat} {ops : Array Oper} {K : AS → Prop} {s : AS} {rest : List Oper} {d : Option Tmp} {T : TypeId} {p : String} {af : Array Edge}
theorem Inv.pub {B0:Nat} {w0:World} {G:Gh} {a:Act} {w:World} (h:Inv B0 w0 N G s a w) {i o ver:Nat} {T':TypeId} {cs:List AV} (hi:s.t i = .bx o ver 0) (ho:s.st[o]? = some (.cells ver T' cs)) :
  ∃ G',G.le G'∧Inv B0 w0 N G' ⟨Av.put s.t i (.pp cs),s.st.set o .dead,s.df⟩ a w:=by
 obtain⟨vs,c9,hA,hv,hp,hl,hr⟩:=h.agree.pubOb ho;refine⟨_,c9,hA,h.defers_mono c9,h.size,fun j y hy=>?_⟩;have hj:=h.tmps j y hy;by_cases e:j=i
 ·subst e
  simp only [wt];rw [hi] at hj
  cases hj with
  |bx _ _ _ b hn r7 hb=>
   have hb:=hb hv;subst hb;exact .pp cs _ 0 vs hp (by omega) fun k x y hx hy=>hr k x y hx (by simpa using hy)
 ·simp only
  rw [yo _ _ _ _ e];exact hj.mono c9
theorem qe4 {x y:Operand} {t:TypeId} {sz:Nat} {agg:Bool} {st loc loc' ext new:List AObj} {k ver off:Nat} {T':TypeId} {cs xs:List AV} {r:AV} (hs:s.st=((st++loc)++ext)++new) (hx:qi N s x = .bx (st.length+k) ver off) (hy:qi N s y=r) (ho:loc[k]? = some (.cells ver T' cs)) (ht:tyOf E.P t=some (sz,agg))
  (hok:r.okc=true) (hc:r.cells=xs) (f8:Nat.beq xs.length sz=true) (h1:jv xs=true) (e9:Nat.ble (off+sz) cs.length=true) (hl:loc'=loc.set k (.cells ver T' (zu cs off xs)))
  (h:AOps E rd N ops rest K (AS.put ⟨s.t,((st++loc')++ext)++new,s.df⟩ d (.v undef))):AOps E rd N ops (⟨d,.store t x y,T,p,af,none⟩::rest) K s:=by
 have hk:=lt_of_getElem? ho;exact x4 hx hy (by rw [hs];exact y8 ho) ht hok hc f8 h1 e9 (by rw [hs,qdf _ hk,← hl];exact h)
end
theorem qbz {α : Type} (l:List α) (a : α):(l++[a]).length=l.length+1:=by simp
theorem qfb {α : Type} (l:List α) (a : α):Iv ((l.length:Int)+1)=Iv ((l++[a]).length:Nat):=by rw [qbz];rfl
theorem zcs {α : Type} {sz:Nat} {tip:Option Nat} (x0:AV) (g : α→AV) (pre:List α) (a : α) (v:AV) (h:v=g a):AV.sl sz ((x0::pre.map g)++[v]) tip=AV.sl sz (x0::(pre++[a]).map g) tip:=by rw [List.map_append,h];rfl
theorem q0k {E:Env} {rd:Option Nat} {N:Nat} {ops:Array Oper} {K:AS→Prop} {s:AS} {rest:List Oper} {d:Option Tmp} {T:TypeId} {p:String} {af:Array Edge} {t:TypeId} {st loc:List AObj} {cs:List AV} {n:Nat} (e7:s.st=st++loc) (hn:st.length=n) (hz:qhc E.P t=some cs)
  (h:AOps E rd N ops rest K (AS.put ⟨s.t,st++(loc++[.cells 0 t cs]),s.df⟩ d (.bx (n+loc.length) 0 0))):AOps E rd N ops (⟨d,.alloc t,T,p,af,none⟩::rest) K s:=by
 subst hn;exact jp e7 hz h
theorem qqm {E:Env} {rd:Option Nat} {N:Nat} {ops:Array Oper} {K:AS→Prop} {s:AS} {rest:List Oper} {d:Option Tmp} {T:TypeId} {p:String} {af:Array Edge} {x y:Operand} {t:TypeId} {sz:Nat} {agg:Bool} {st loc ext new:List AObj} {k ver off:Nat} {T':TypeId} {cs xs:List AV} {r:AV} (hs:s.st=((st++loc)++ext)++new) (hx:qi N s x = .bx (st.length+k) ver off) (hy:qi N s y=r) (ho:loc[k]? = some (.cells ver T' cs)) (ht:tyOf E.P t=some (sz,agg))
  (hok:r.okc=true) (hc:r.cells=xs) (f8:xs.length=sz) (h1:jv xs=true) (e9:off+sz≤cs.length)
  (h:AOps E rd N ops rest K (AS.put ⟨s.t,((st++loc.set k (.cells ver T' (zu cs off xs)))++ext)++new,s.df⟩ d (.v undef))):AOps E rd N ops (⟨d,.store t x y,T,p,af,none⟩::rest) K s:=by
 have hk:=lt_of_getElem? ho;exact qeo hx hy (by rw [hs];exact y8 ho) ht hok hc f8 (by simpa [jv] using h1) e9 (by rw [hs,qdf _ hk];exact h)
theorem qau {E:Env} {rd:Option Nat} {N:Nat} {c:Code} {Q:Exit→AS→Prop} {s:AS} {α : Type} (xs:List α) (I:List α→AS→Prop) (h0:I [] s) (dg:∀ s,I xs s→AWp E rd N c (qwu (fun _=>False) Q) s)
  (hstep:∀ pre a rest s,xs=pre++a::rest→I pre s→AWp E rd N c (qwu (fun s'=>I (pre++[a]) s') Q) s):AWp E rd N (.loop c) Q s:=by
 refine jx (fun (x:List α×List α) s=>xs=x.1++x.2∧I x.1 s) (fun x=>x.2.length) ([],xs) ⟨rfl,h0⟩ ?_;rintro⟨pre,rest⟩ s ⟨hx,hi⟩
 cases rest with
 |nil=>
  simp only [List.append_nil] at hx;subst hx;refine (dg s hi).mono fun e s' h=>?_
  cases e with
  |normal=>exact h.elim
  | _=>exact h
 |cons a rest=>
  refine (hstep pre a rest s hx hi).mono fun e s' h=>?_
  cases e with
  |normal=>exact⟨(pre++[a],rest),⟨by rw [hx];simp,h⟩,by simp⟩
  | _=>exact h
theorem qv2 {E:Env} {fn:Func} {R:AV→List AObj→Prop} {s:AS} {st loc ext new:List AObj} {k:Nat} {ds:List Nat} (hs:s.st=((st++loc)++ext)++new) (hd:s.df=(st.length+k)::ds) (ho:loc[k]? = some .dfr) (h:ARet E fn R ⟨s.t,((st++loc.set k .dead)++ext)++new,ds⟩):ARet E fn R s:=
 qme hd (by rw [hs];exact y8 ho) (by rw [hs,qdf _ (lt_of_getElem? ho)];exact h)
@[reducible] def q89 (F : LoopState → Option Code → AObj) (st : List AObj) (own : AObj) (I : List AObj → Prop) (D : Code → List AObj → Prop) : Exit → AS → Prop
 | .normal,s=>∃ l ext new,s.st=((st++(l++[.dfr,F .busy none,own]))++ext)++new∧I l
 | .ret,s=>∃ l ext new,s.st=((st++(l++[.dfr,F .busy none,own]))++ext)++new∧D .ret l
 | .exit id,s=>∃ l ext new,s.st=((st++(l++[.dfr,F .busy none,own]))++ext)++new∧D (.exit id) l
 | _,_=>False
theorem q0q {E:Env} {o:Nat} {xs:List AV} {st st':List AObj} {R:Bool→List AObj→Prop} (e:st=st') (h:x8 E o xs st R):x8 E o xs st' R:=e▸h
theorem qcm {st l ext:List AObj} {a b c:AObj} {n:Nat} (hl:l.length=n):(((st++(l++[a,b,c]))++ext))[st.length+(n+1)]? = some b:=by
 subst hl;rw [List.append_assoc,List.append_assoc,List.getElem?_append_right (by omega),Nat.add_sub_cancel_left,List.getElem?_append_right (by omega)];simp
theorem qeh {st l ext:List AObj} {a b c y:AObj} {n:Nat} (hl:l.length=n):((st++(l++[a,b,c]))++ext).set (st.length+(n+1)) y=(st++(l++[a,y,c]))++ext:=by
 subst hl;rw [List.append_assoc,List.append_assoc,List.set_append_right _ _ (by omega),Nat.add_sub_cancel_left,List.set_append_right _ _ (by omega)];simp
theorem zah {E:Env} {N:Nat} {t:Nat→AV} {ps:Array Tmp} {asg body:Code} {st l ext:List AObj} {own:AObj} {n:Nat} {xs:List AV} {F:LoopState→Option Code→AObj} {I:List AObj→Prop} {D:Code→List AObj→Prop} (hF:qkk F N t ps asg body) (hl:l.length=n) (pk:ps.size=xs.length)
  (hI:∀ l,I l→l.length=n) (hD:∀ c l,D c l→l.length=n)
  (h:∀ rd,AWp E (some rd) N asg (only fun s1=>∃ new,s1.st=((st++(l++[.dfr,F .ready none,own]))++ext)++new∧s1.df=[]∧AWp E (some rd) N body (q89 F st own I D) ⟨s1.t,((st++(l++[.dfr,F .busy none,own]))++ext)++new,[]⟩) ⟨qjc t (ps.toList.zip xs),((st++(l++[.dfr,F .ready none,own]))++ext)++[],[]⟩) :
  x8 E (st.length+(n+1)) xs ((st++(l++[.dfr,F .ready none,own]))++ext) fun b st2=>∃ l' ext',(b=true→st2=(st++(l'++[.dfr,F .ready none,own]))++ext'∧I l')∧(b=false→∃ c,st2=(st++(l'++[.dfr,F .done (some c),own]))++ext'∧D c l'):=by
 refine qo8 hF (qcm hl) pk fun rd=>?_;have h:=h rd;rw [List.append_nil] at h;refine h.mono fun e s1 hq=>?_
 cases e with
 |normal=>
  obtain⟨new,h1,h2,h3⟩:=hq;refine⟨by rw [h1,List.append_assoc];exact qcm hl,h2,?_⟩
  have e:s1.st.set (st.length+(n+1)) (F .busy none)=((st++(l++[.dfr,F .busy none,own]))++ext)++new:=by
   rw [h1,List.append_assoc,qeh hl,List.append_assoc _ ext]
  rw [e];refine h3.mono fun e s2 bd=>?_
  cases e with
  |normal=>
   obtain⟨l',ext',new',k1,k2⟩:=bd
   exact⟨by rw [k1,List.append_assoc];exact qcm (hI _ k2),l',ext'++new',fun _=>⟨by rw [k1,List.append_assoc,qeh (hI _ k2)],k2⟩,nofun⟩
  |ret=>
   obtain⟨l',ext',new',k1,k2⟩:=bd
   exact⟨by rw [k1,List.append_assoc];exact qcm (hD _ _ k2),l',ext'++new',nofun,fun _=>⟨_,by rw [k1,List.append_assoc,qeh (hD _ _ k2)],k2⟩⟩
  |exit id=>
   obtain⟨l',ext',new',k1,k2⟩:=bd
   exact⟨by rw [k1,List.append_assoc];exact qcm (hD _ _ k2),l',ext'++new',nofun,fun _=>⟨_,by rw [k1,List.append_assoc,qeh (hD _ _ k2)],k2⟩⟩
  | _=>exact bd.elim
 | _=>exact hq.elim
end Go.Av
namespace Go.Pl
open Go Go.Proofs
abbrev Fld:=qc×qc
def qa9 (s:qc):Prop:=∀ c∈s,v4 c
instance (s:qc):Decidable (qa9 s):=inferInstanceAs (Decidable (∀ c∈s,v4 c))
def vh (s:qc):qc:=if qa9 s∨s.head? = some 46 then 46::s else s
def jy (key p:qc):qc:=key++[58]++if p=[] then [] else [32]++p
def zm (f:Fld):List qc:=jy f.1 ((qy f.2).headD [])::(qy f.2).tail.map fun s=>[32]++vh s
def ze (ls:List qc):qc:=ls.flatMap fun s=>s++[10]
def z0 (xs:List Fld):qc:=xs.flatMap fun f=>ze (zm f)
def kg (f:Fld):Int:=if ¬ yh f.1 then 5 else if 1000<f.2.length then 6 else 0
def j9 (f:Fld):Prop:=yh f.1∧f.2.length≤1000
instance (f:Fld):Decidable (j9 f):=inferInstanceAs (Decidable (_∧_))
theorem qba (f:Fld):kg f=0↔j9 f:=by
 unfold kg j9;by_cases h:yh f.1
 ·by_cases h2:1000<f.2.length
  ·simp [h,h2]
  ·simp [h,h2];omega
 ·simp [h]
def x7 (c:UInt8) (l:qc):qc:=if l.head? = some c then l.drop 1 else l
theorem qtu (c:UInt8) (l:qc):Lib.trimPrefix l [c]=x7 c l:=by
 unfold Lib.trimPrefix x7;rw [ql0];simp
def qae (l:qc) (r:List qc):qc:=x7 32 (w8 l)++r.flatMap fun s=>[10]++x7 46 (s.drop 1)
def qp9 (ls:List qc):Prop:=ls≠[]∧qs (ls.headD [])=4∧∀ s∈ls.tail,qs s=3
instance (ls:List qc):Decidable (qp9 ls):=inferInstanceAs (Decidable (_∧_∧_))
def jt (ls:List qc):Fld×Int:=
 if qp9 ls then
  if 1000<(qae (ls.headD []) ls.tail).length then (([],[]),6) else ((z8 (ls.headD []),qae (ls.headD []) ls.tail),0)
 else (([],[]),2)
theorem qe0 (l:qc):qy l≠[]:=by
 by_cases h:10∈l
 ·rw [xv h];simp
 ·rw [xw h];simp
theorem qk9 (l:qc):qy l=(qy l).headD []::(qy l).tail:=by
 cases h:qy l with
 |nil=>exact absurd h (qe0 l)
 |cons a r=>rfl
theorem qg2:∀ (n:Nat) (l:qc),l.length≤n→(qy l).headD []++(qy l).tail.flatMap (fun s=>[10]++s)=l
 |n,l,hn=>by
  by_cases h:10∈l
  ·rw [xv h]
   have b8:l≠[]:=fun e=>by subst e;simp at h
   have d5:=xo (c:=10) b8
   cases n with
   |zero=>omega
   |succ n=>
    have ih:=qg2 n (past 10 l) (by omega);simp only [List.headD_cons,List.tail_cons];rw [qk9 (past 10 l)];simp only [List.flatMap_cons];rw [List.append_assoc,ih];have:=y6 h;simp [← this]
  ·rw [xw h];simp
theorem qdb (l:qc):∀ x∈qy l,10∉x:=fun x hx=>(qgh l.length l (Nat.le_refl _) x hx).2
theorem qdm (l:qc):∀ x∈qy l,x.length≤l.length:=fun x hx=>(qgh l.length l (Nat.le_refl _) x hx).1
theorem qpi (l:qc):(qy l).headD []∈qy l:=by
 have h:=qe0 l
 cases e:qy l with
 |nil=>exact absurd e h
 |cons a r=>simp
theorem q14 (s:qc):x7 46 (vh s)=s:=by
 unfold vh x7;by_cases h:qa9 s∨s.head? = some 46
 ·rw [if_pos h];simp
 ·rw [if_neg h,if_neg (fun h'=>h (.inr h'))]
theorem qtq (s:qc):¬ qa9 (vh s):=by
 unfold vh;by_cases h:qa9 s∨s.head? = some 46
 ·rw [if_pos h]
  intro h';have:=h' 46 (by simp);revert this;decide
 ·rw [if_neg h]
  exact fun h'=>h (.inl h')
theorem qsj {s:qc} (h:10∉s):10∉vh s:=by
 unfold vh;split
 ·simp [h]
 ·exact h
theorem qvm (s:qc):(vh s).length≤s.length+1:=by
 unfold vh;split <;> simp
theorem qu4 (s:qc) (h:10∉s):qs ([32]++vh s)=3:=by
 have hn:=qsj h;have hb:=qtq s;unfold qs;have f0:10∉([32]++vh s):=by simp [hn]
 rw [if_neg f0,if_neg (fun h'=>hb fun c hc=>h' c (by simp [hc])),if_neg (by simp),if_pos ⟨32,by simp,.inl rfl⟩]
theorem qjr {k r:qc} (h:58∉k):z8 (k++[58]++r)=k:=by
 unfold z8
 induction k with
 |nil=>simp
 |cons a k ih=>
  simp only [List.mem_cons,not_or] at h;have:(58:UInt8)≠a:=h.1;simp only [List.cons_append,List.takeWhile_cons];rw [if_pos (by simpa using fun e=>this e.symm)];rw [ih h.2]
theorem qzt {k r:qc} (h:58∉k):w8 (k++[58]++r)=r:=by
 unfold w8;rw [qjr h];rw [List.drop_append_of_le_length (by simp)];simp
theorem qiz {k:qc} (h:yh k):∃ c,k.head? = some c∧¬ v4 c∧c≠35:=by
 obtain⟨h1,h2,h3,h4,h5,h6⟩:=h
 cases k with
 |nil=>exact absurd rfl h1
 |cons a r=>exact⟨a,rfl,fun hb=>h3 ⟨a,rfl,hb⟩,fun e=>h4 (by simp [e])⟩
theorem qu3 {k p:qc} (h:yh k) (hp:10∉p):qs (jy k p)=4:=by
 obtain⟨c,hc,hb,h35⟩:=qiz h;have hk10:10∉k:=h.2.2.2.2.2;have hk58:58∉k:=h.2.2.2.2.1
 have hh:(jy k p).head? = some c:=by
  unfold jy
  cases k with
  |nil=>simp at hc
  |cons a r=>simpa using hc
 have e:jy k p=k++[58]++(if p=[] then [] else [32]++p):=rfl
 have f0:10∉jy k p:=by
  rw [e];split <;> simp [hk10,hp]
 have u0:c∈jy k p:=List.mem_of_head? hh;unfold qs;rw [if_neg f0,if_neg (fun h'=>hb (h' c u0)),if_neg (by rw [hh];simpa using h35),if_neg (fun ⟨d,hd,s3⟩=>by rw [hh] at hd;cases hd;exact hb s3)];rw [if_pos];refine⟨by rw [e];simp,?_⟩;rw [e,qjr hk58];exact h
theorem q7v (k p:qc) (h:58∉k):x7 32 (w8 (jy k p))=p:=by
 unfold jy;rw [qzt h];by_cases hp:p=[]
 ·rw [if_pos hp];simp [x7,hp]
 ·rw [if_neg hp];simp [x7]
theorem qv8 {f:Fld} (h:j9 f):jt (zm f)=(f,0):=by
 obtain⟨hk,hv⟩:=h;have hk58:58∉f.1:=hk.2.2.2.2.1;have f0:=qdb f.2
 have dw:qae (jy f.1 ((qy f.2).headD [])) ((qy f.2).tail.map fun s=>[32]++vh s)=f.2:=by
  unfold qae;rw [q7v _ _ hk58]
  have:((qy f.2).tail.map fun s=>[32]++vh s).flatMap (fun s=>[10]++x7 46 (s.drop 1))=(qy f.2).tail.flatMap (fun s=>[10]++s):=by
   rw [List.flatMap_map];congr 1;funext s;simp [q14]
  rw [this,qg2 _ _ (Nat.le_refl _)]
 unfold jt zm;rw [if_pos]
 ·simp only [List.headD_cons,List.tail_cons]
  refine (if_neg (by rw [dw];omega)).trans ?_;have:z8 (jy f.1 ((qy f.2).headD []))=f.1:=qjr hk58;rw [this,dw]
 ·refine⟨by simp,?_,?_⟩
  ·simp only [List.headD_cons]
   exact qu3 hk (f0 _ (qpi _))
  ·intro s hs
   simp only [List.tail_cons,List.mem_map] at hs;obtain⟨x,hx,rfl⟩:=hs;exact qu4 x (f0 x (List.mem_of_mem_tail hx))
end Go.Pl
namespace Go.Av
open Go Go.RowKit
section
variable {E : Env} {rd : Option Nat} {N : Nat} {ops : Array Oper} {K : AS → Prop} {s : AS} {rest : List Oper} {d : Option Tmp} {T : TypeId} {p : String} {af : Array Edge}
theorem ya {t e:TypeId} {len sz:Nat} {agg:Bool} {parts:Array (Nat×Operand)} {zs cs:List AV} {st loc:List AObj} (e7:s.st=st++loc) (hu:E.P.underlying t=some (.slice e)) (ht:tyOf E.P e=some (sz,agg)) (hz:qdn E.P e len=some zs)
  (hf:qbw (fun i=>some (i * sz,sz)) zs (ve N s parts)=some cs) (f8:Nat.ble (len * sz) 16777216=true)
  (h:AOps E rd N ops rest K (AS.put ⟨s.t,st++(loc++[.cells 0 e cs]),s.df⟩ d (.os (st.length+loc.length) 0 0 len len))):AOps E rd N ops (⟨d,.buildSlice t len parts,T,p,af,none⟩::rest) K s:=by
 refine qz rfl (qx nofun fun B0 w0 G a w _ hI=>?_);obtain⟨c',a8,h2⟩:=qj5 (d:=d) (T:=T) (p:=p) (af:=af) hI hu ht hz hf f8;have hA:=hI.agree.newCells e c' cs h2.1 h2.2;have hn:=hI.agree.n;rw [e7] at hA hn;simp only [List.append_assoc,List.length_append] at hA hn;exact⟨_,_,_,_,_,a8,G.le_new _ _ _ _,hA,.os _ _ _ _ _ _ (by simp [Gh.new,hn]) (Nat.zero_le _) (fun _=>by simp [Gh.new,hn]),h⟩
theorem zi.ownTip {B0:Nat} {w0:World} {G:Gh} {st:List AObj} {w:World} (h:zi B0 w0 G st w) {o sz len cap:Nat} {T:TypeId} {cs:List AV} {xs:List AV} (ho:st[o]? = some (.cells 0 T cs)) (hc:cs.length=cap * sz) (b9:xs.length=len) (h0:0<len) (c9:len≤cap) (cz:cap≤maxLen) (hw:∀ x∈xs,x.cells.length=sz) (g8:flat xs=cs.take (len * sz)) :
  ∃ G',G.le G'∧zi B0 w0 G' (st.set o (.tip len sz T)) w∧Rel G' (.sl sz xs (some o)) (.slice (some ⟨(G.ob o).blk,0,none⟩) len cap):=by
 subst b9;have pj:=lt_of_getElem? ho;obtain⟨g0,g1,g2,g3,c,g4,g5,g6⟩:=h.ob o _ ho;have m6:G.le (G.publish (G.ob o).blk (c.toList.take (xs.length * sz))):=G.le_publish _ _ [] [] (.inl g3)
 -- dead, published
 have key:∀ (k:Nat) (x:AObj),(st.set o .dead)[k]? = some x→x = .dead∨(k≠o∧st[k]? = some x):=fun k x hx=>by
  rcases getElem?_set' _ _ _ _ _ hx with⟨_,e⟩|e
  ·exact .inl e
  ·exact .inr e
 have bg:zi B0 w0 (G.publish (G.ob o).blk (c.toList.take (xs.length * sz))) (st.set o .dead) w:=by
  refine⟨h.below,h.hB,by simp [h.n,Gh.publish],fun b vs hb=>?_,fun k x hx=>?_,fun k k' x x' b8 hx d7 hl m9=>?_⟩
  ·simp only [Gh.publish] at hb
   by_cases e:b=(G.ob o).blk
   ·rw [if_pos e] at hb
    cases hb
    subst e;refine⟨c,T,(0,0),g4,fun i y hy=>?_⟩;rw [List.getElem?_take] at hy;split at hy
    ·simpa using hy
    ·simp at hy
   ·rw [if_neg e] at hb
    exact h.pub b vs hb
  ·rcases key k x hx with rfl | ⟨hk,hx⟩
   ·trivial
   ·refine (h.ob k x hx).mono m6 rfl (fun hl=>?_) (fun _=>rfl)
    have:=h.sep k o x _ hk hx ho hl trivial;simp [Gh.publish,this]
  ·rcases key k x hx with rfl | ⟨hk,hx⟩
   ·exact hl.elim
   ·rcases key k' x' d7 with rfl | ⟨l8,d7⟩
    ·exact m9.elim
    ·exact h.sep k k' x x' b8 hx d7 hl m9
 have lq:(c.toList.take (xs.length * sz)).length=xs.length * sz:=by
  have:xs.length * sz≤cap * sz:=Nat.mul_le_mul_right _ c9;simp;omega
 obtain⟨n9,bf⟩:=bg.setTip (t:=o) (n:=0) (n':=xs.length) (k:=(G.ob o).blk) (cap:=c.size) (sz:=sz) (T:=T) (c:=c) (vs:=c.toList.take (xs.length * sz)) (by simp [pj]) g0 g1 h0 g4 (by simp [Gh.publish]) lq rfl g2 (fun k x hx hl=>by
  rcases key k x hx with rfl | ⟨hk,hx⟩
  ·exact hl.elim
  ·exact h.sep k o x _ hk hx ho hl trivial)
 rw [List.set_set] at bf;refine⟨_,m6.trans n9,bf,?_⟩;have hgn:o<G.n:=by rw [h.n];exact pj
 refine .sl sz xs (some o) (G.ob o).blk 0 cap (c.toList.take (xs.length * sz)) (by simp [Gh.setOb,Gh.publish]) hw (by rw [g8,lq];simp;omega) (fun i x y h1 h2=>?_) (fun t ht=>?_) (by omega)
 ·rw [g8] at h1
  rw [Nat.zero_add] at h2;rw [List.getElem?_take] at h1 h2;split at h1
  ·rename_i hi
   rw [if_pos hi] at h2;exact ((g6 i x y h1 (by simpa using h2)).mono m6).mono n9
  ·simp at h1
 ·simp only [Option.some.injEq] at ht
  subst ht;refine⟨by simpa [Gh.setOb,Gh.publish] using hgn,by omega,by simp [Gh.setOb],fun _=>⟨by simp [Gh.setOb],rfl,by simp [Gh.setOb,← g5,hc],cz,by omega⟩⟩
theorem Inv.osTip {B0:Nat} {w0:World} {G:Gh} {a:Act} {w:World} (h:Inv B0 w0 N G s a w) {i o sz len cap:Nat} {T':TypeId} {cs xs:List AV} (hi:s.t i = .os o 0 0 len cap) (ho:s.st[o]? = some (.cells 0 T' cs)) (hc:cs.length=cap * sz) (b9:xs.length=len) (h0:0<len) (c9:len≤cap) (cz:cap≤maxLen) (hw:∀ x∈xs,x.cells.length=sz) (g8:flat xs=cs.take (len * sz)) :
  ∃ G',G.le G'∧Inv B0 w0 N G' ⟨Av.put s.t i (.sl sz xs (some o)),s.st.set o (.tip len sz T'),s.df⟩ a w:=by
 obtain⟨G',hG,hA,hR⟩:=h.agree.ownTip ho hc b9 h0 c9 cz hw g8;obtain⟨_,g1,_⟩:=h.agree.ob o _ ho;refine⟨G',hG,hA,h.defers_mono hG,h.size,fun j y hy=>?_⟩;have hj:=h.tmps j y hy;by_cases e:j=i
 ·subst e
  simp only [wt];rw [hi] at hj
  cases hj with
  |os _ _ _ _ b _ hn hv hb=>
   have hb:=hb g1;subst hb;exact hR
 ·simp only
  rw [yo _ _ _ _ e];exact hj.mono hG
theorem q6r {c:Code} {Q:Exit→AS→Prop} (i:Nat) {o sz len cap:Nat} {T':TypeId} {cs xs:List AV} (hi:s.t i = .os o 0 0 len cap) (ho:s.st[o]? = some (.cells 0 T' cs)) (hc:cs.length=cap * sz) (b9:xs.length=len) (h0:0<len) (c9:len≤cap) (cz:cap≤maxLen) (hw:∀ x∈xs,x.cells.length=sz) (g8:flat xs=cs.take (len * sz))
  (h:AWp E rd N c Q ⟨Av.put s.t i (.sl sz xs (some o)),s.st.set o (.tip len sz T'),s.df⟩):AWp E rd N c Q s:=
 ⟨fun B0 w0 G a w hL hI=>let ⟨G1,h1,h2⟩:=hI.osTip hi ho hc b9 h0 c9 cz hw g8;wpIn_mono (h.run B0 w0 _ a w hL h2) fun _ _ _ ⟨G',s',hG,k1,k2⟩=>⟨G',s',h1.trans hG,k1,k2⟩⟩
theorem q3x {l:List Oper} (i:Nat) {o sz len cap:Nat} {T':TypeId} {cs xs:List AV} (hi:s.t i = .os o 0 0 len cap) (ho:s.st[o]? = some (.cells 0 T' cs)) (hc:cs.length=cap * sz) (b9:xs.length=len) (h0:0<len) (c9:len≤cap) (cz:cap≤maxLen) (hw:∀ x∈xs,x.cells.length=sz) (g8:flat xs=cs.take (len * sz))
  (h:AOps E rd N ops l K ⟨Av.put s.t i (.sl sz xs (some o)),s.st.set o (.tip len sz T'),s.df⟩):AOps E rd N ops l K s:=
 ⟨fun B0 w0 G a w hL hI Q hQ=>let ⟨G1,h1,h2⟩:=hI.osTip hi ho hc b9 h0 c9 cz hw g8;h.run B0 w0 _ a w hL h2 Q fun G' s' a' w' hG k1 k2=>hQ G' s' a' w' (h1.trans hG) k1 k2⟩
theorem Inv.osPub {B0:Nat} {w0:World} {G:Gh} {a:Act} {w:World} (h:Inv B0 w0 N G s a w) {i o ver off sz len cap:Nat} {T':TypeId} {cs xs:List AV} (hi:s.t i = .os o ver off len cap) (ho:s.st[o]? = some (.cells ver T' cs)) (b9:xs.length=len) (c9:len≤cap) (hw:∀ x∈xs,x.cells.length=sz) (dk:off+len * sz≤cs.length) (g8:flat xs=(cs.drop off).take (len * sz)) :
  ∃ G',G.le G'∧Inv B0 w0 N G' ⟨Av.put s.t i (.sl sz xs none),s.st.set o .dead,s.df⟩ a w:=by
 obtain⟨vs,m6,hA,hv,hp,hl,hr⟩:=h.agree.pubOb ho;refine⟨_,m6,hA,h.defers_mono m6,h.size,fun j y hy=>?_⟩;have hj:=h.tmps j y hy;by_cases e:j=i
 ·subst e
  simp only [wt];rw [hi] at hj
  cases hj with
  |os _ _ _ _ b _ hn r7 hb=>
   have hb:=hb hv;subst hb;rw [← b9];refine .sl sz xs none _ off cap vs hp hw (by rw [g8];simp;omega) (fun k x y hx hy=>?_) (fun t ht=>by simp at ht) (by omega);rw [g8,List.getElem?_take] at hx;split at hx
   ·rw [List.getElem?_drop] at hx
    exact hr _ x y hx hy
   ·simp at hx
 ·simp only
  rw [yo _ _ _ _ e];exact hj.mono m6
theorem q6i {l:List Oper} (i:Nat) {x r:AV} (hi:s.t i=x) (hw:∀ G v,Rel G x v→Rel G r v) (h:AOps E rd N ops l K ⟨Av.put s.t i r,s.st,s.df⟩):AOps E rd N ops l K s:=
 ⟨fun B0 w0 G a w hL hI Q hQ=>h.run B0 w0 G a w hL ⟨hI.agree,hI.defers,hI.size,fun j y hy=>by
  have hj:=hI.tmps j y hy;by_cases e:j=i
  ·subst e;simp only [wt];rw [hi] at hj;exact hw G y hj
  ·simp only;rw [yo _ _ _ _ e];exact hj⟩ Q hQ⟩
theorem qsf {P:Program} {t e:TypeId} {sz:Nat} {agg:Bool} (hu:P.underlying t=some (.slice e)) (ht:tyOf P e=some (sz,agg)) (a:Option Addr) (len cap:Nat) (lo hi:Option Value) (i j:Nat) (w:World)
  (r8:match lo with|none=>i=0|some v=>∃ k,v = .int k (i:Int)) (o9:match hi with|none=>j=len|some v=>(∃ k,v = .int k (j:Int))∧j≤cap) (h1:i≤j) :
  (Instr.slice t (.slice a len cap) lo hi none).run P w = .ok (.slice (if cap=i then a else a.map (·.add (i * sz))) (j - i) (cap - i)) w:=by
 have hs:=(vb ht w).1
 cases lo with
 |none=>
  simp only at r8;subst r8
  cases hi with
  |none=>
   simp only at o9;subst o9
   simp [Instr.slice,run_underlying hu,Instr.sliceBounds,hs]
  |some v=>
   obtain⟨⟨k,rfl⟩,h2⟩:=o9
   simp [Instr.slice,run_underlying hu,Instr.sliceBounds,Instr.sliceBound,asIntOf,hs,h2]
 |some u=>
  obtain⟨k',rfl⟩:=r8
  cases hi with
  |none=>
   simp only at o9;subst o9
   simp [Instr.slice,run_underlying hu,Instr.sliceBounds,Instr.sliceBound,asIntOf,hs,h1]
  |some v=>
   obtain⟨⟨k,rfl⟩,h2⟩:=o9;simp [Instr.slice,run_underlying hu,Instr.sliceBounds,Instr.sliceBound,asIntOf,hs,h1,h2]
theorem qsa {G:Gh} {sz:Nat} {xs:List AV} {tip:Option Nat} {a:Option Addr} {len cap:Nat} (h:Rel G (.sl sz xs tip) (.slice a len cap)) {i j:Nat} (h1:i≤j) (h2:j≤xs.length) :
  len=xs.length∧len≤cap∧Rel G (.sl sz ((xs.take j).drop i) none) (.slice (if cap=i then a else a.map (·.add (i * sz))) (j - i) (cap - i)):=by
 cases h with
 |sl0=>
  simp at h2;subst h2;have:i=0:=by omega
  subst this;refine⟨rfl,Nat.zero_le _,?_⟩;simp
  exact .sl0 sz none _ _ (by simp)
 |sl _ _ _ b off cap pub hp hw b9 hr ht i4=>
  refine⟨rfl,i4,?_⟩;have hl:((xs.take j).drop i).length=j - i:=by simp;omega
  by_cases p8:j=i
  ·subst p8
   have e:(xs.take j).drop j=[]:=List.length_eq_zero_iff.1 (by rw [hl];omega);rw [e,Nat.sub_self];exact .sl0 sz none _ _ (by simp)
  ·have b8:cap≠i:=by omega
   rw [if_neg b8];simp only [Option.map_some];have bj:Addr.add ⟨b,off,none⟩ (i * sz)=⟨b,off+i * sz,none⟩:=Addr.add_lit ..;rw [bj,← hl];have l6:∀ x∈(xs.take j).drop i,x.cells.length=sz:=fun x hx=>hw x (List.mem_of_mem_take (List.mem_of_mem_drop hx));have cw:(flat xs).length=xs.length * sz:=zq hw
   have o7:flat xs=flat (xs.take i)++flat ((xs.take j).drop i)++flat (xs.drop j):=by
    have e:xs.take i++(xs.take j).drop i=xs.take j:=by
     conv=>rhs;rw [← List.take_append_drop i (xs.take j),List.take_take,Nat.min_eq_left h1]
    rw [← wc,← wc,e,List.take_append_drop]
   have hti:(flat (xs.take i)).length=i * sz:=by
    rw [zq (fun x hx=>hw x (List.mem_of_mem_take hx)),List.length_take,Nat.min_eq_left (by omega)]
   have hmid:(flat ((xs.take j).drop i)).length=(j - i) * sz:=by rw [zq l6,hl]
   refine .sl sz _ none b (off+i * sz) (cap - i) pub hp l6 ?_ (fun k x y hx hy=>?_) (fun t ht=>by simp at ht) (by rw [hl];omega)
   ·have:=congrArg List.length o7
    simp only [List.length_append] at this;omega
   ·refine hr (i * sz+k) x y ?_ (by rw [← hy];congr 1;omega)
    have hk:=lt_of_getElem? hx;rw [o7,List.append_assoc,List.getElem?_append_right (by omega),hti,Nat.add_sub_cancel_left,List.getElem?_append_left hk];exact hx
theorem q0n {x:Operand} {t e:TypeId} {lo hi:Option Operand} {sz:Nat} {agg:Bool} {xs ys:List AV} {tip:Option Nat} {i j:Nat} (hx:qi N s x = .sl sz xs tip) (hu:E.P.underlying t=some (.slice e)) (ht:tyOf E.P e=some (sz,agg))
  (r8:match lo with|none=>i=0|some y=>∃ k,qi N s y = .v (.int k (i:Int))) (o9:match hi with|none=>j=xs.length|some y=>∃ k,qi N s y = .v (.int k (j:Int))) (h1:i≤j) (h2:j≤xs.length) (hy:(xs.take j).drop i=ys)
  (h:AOps E rd N ops rest K (s.put d (.sl sz ys none))):AOps E rd N ops (⟨d,.slice t x lo hi none,T,p,af,none⟩::rest) K s:=by
 subst hy;refine qz rfl (qx nofun fun B0 w0 G a w _ hI=>?_);have he:=hI.eval_of hx;generalize hv:a.eval x=v at he;have fk:∃ b len cap,v = .slice b len cap:=by cases he <;> exact⟨_,_,_,rfl⟩
 obtain⟨b,len,cap,rfl⟩:=fk;obtain⟨hl,rz,hr⟩:=qsa he h1 h2;refine⟨_,w,G,_,s.st,?_,.refl G,hI.agree,hr,h⟩
 have a8:=qsf hu ht b len cap (lo.map a.eval) (hi.map a.eval) i j w (by
  cases lo with
  |none=>exact r8
  |some y=>obtain⟨k,hy⟩:=r8;exact⟨k,hI.evalv hy⟩) (by
  cases hi with
  |none=>simp only at o9;simp only [Option.map_none];omega
  |some y=>obtain⟨k,hy⟩:=o9;exact⟨⟨k,hI.evalv hy⟩,by omega⟩) h1
 generalize a.eval = ρ at hv a8;simp only [execOp,hv];simp [Instr.sliceAt,run_underlying hu,a8]
theorem qj0 {x y:Operand} {t e:TypeId} {sz:Nat} {agg:Bool} {xs ys:List AV} {tip:Option Nat} {k:IntKind} {i:Nat} (hx:qi N s x = .sl sz xs tip) (hy:qi N s y = .v (.int k (i:Int))) (hu:E.P.underlying t=some (.slice e)) (ht:tyOf E.P e=some (sz,agg)) (h1:i≤xs.length) (hz:xs.drop i=ys)
  (h:AOps E rd N ops rest K (s.put d (.sl sz ys none))):AOps E rd N ops (⟨d,.slice t x (some y) none none,T,p,af,none⟩::rest) K s:=
 q0n (i:=i) (j:=xs.length) hx hu ht ⟨k,hy⟩ rfl h1 (Nat.le_refl _) (by rw [List.take_length];exact hz) h
end
end Go.Av
namespace Go.Av
open Go Go.RowKit
inductive Vec (sz:Nat) (T:TypeId) (o:Nat) (xs:List AV):AV→AObj→Prop
 |nil (h:xs=[]):Vec sz T o xs zx (.tip 0 sz T)
 |os (ver cap:Nat) (pad:List AV) (hl:(flat xs++pad).length=cap * sz) (hw:∀ x∈xs,x.cells.length=sz) (c9:xs.length≤cap) (cz:cap≤maxLen):Vec sz T o xs (.os o ver 0 xs.length cap) (.cells ver T (flat xs++pad))
section
variable {B0 : Nat} {w0 : World} {G : Gh} {st : List AObj} {w : World}
theorem zi.setCells (h:zi B0 w0 G st w) {t k cap v':Nat} {T:TypeId} {cs:List AV} (ht:st[t]? = some .dead) (hraw:(G.ob t).raw=false) (p6:(G.ob t).ver<v')
  {c:Array Value} (hc:w.heap[k]? = some (.cells c T (0,0))) (hp:G.pub k=none) (hl:cs.length=c.size) (hr:∀ (i:Nat) (x:AV) (y:Value),cs[i]? = some x→c[i]? = some y→Rel G x y) (hk:B0≤k) (hs:∀ o x,st[o]? = some x→x.live→(G.ob o).blk≠k) :
  G.le (G.setOb t ⟨v',k,cap,false⟩)∧zi B0 w0 (G.setOb t ⟨v',k,cap,false⟩) (st.set t (.cells v' T cs)) w:=by
 have c9:=G.le_setOb t ⟨v',k,cap,false⟩ p6 hraw;have t6:∀ o,o≠t→(G.setOb t ⟨v',k,cap,false⟩).ob o=G.ob o:=fun o ho=>by simp [Gh.setOb,ho]
 have p5:(G.setOb t ⟨v',k,cap,false⟩).ob t=⟨v',k,cap,false⟩:=by simp [Gh.setOb]
 refine⟨c9,h.below,h.hB,by simp [h.n,Gh.setOb],h.pub,fun o x hx=>?_,fun o o' x x' b8 hx d7 o0 bz=>?_⟩
 ·rcases getElem?_set' _ _ _ _ _ hx with⟨rfl,rfl⟩ | ⟨ho,hx⟩
  ·exact⟨by rw [p5],by rw [p5],by rw [p5];exact hk,by rw [p5];exact hp,c,by rw [p5];exact hc,hl,fun i x y h1 h2=>(hr i x y h1 h2).mono c9⟩
  ·exact (h.ob o x hx).mono c9 (t6 o ho) (fun _=>rfl) (fun _=>rfl)
 ·rcases getElem?_set' _ _ _ _ _ hx with⟨e1,e2⟩ | ⟨ho,hx⟩
  ·rcases getElem?_set' _ _ _ _ _ d7 with⟨e3,_⟩ | ⟨d6,d7⟩
   ·exact absurd (e1.trans e3.symm) b8
   ·rw [e1,p5,t6 o' d6]
    exact (hs o' x' d7 bz).symm
  ·rcases getElem?_set' _ _ _ _ _ d7 with⟨e3,_⟩ | ⟨d6,d7⟩
   ·rw [e3,p5,t6 o ho]
    exact hs o x hx o0
   ·rw [t6 o ho,t6 o' d6]
    exact h.sep o o' x x' b8 hx d7 o0 bz
theorem yg {G:Gh} {cs ds:List AV} {vs us:List Value} (hl:cs.length=vs.length) (h1:∀ (i:Nat) (x:AV) (y:Value),cs[i]? = some x→vs[i]? = some y→Rel G x y) (h2:∀ (i:Nat) (x:AV) (y:Value),ds[i]? = some x→us[i]? = some y→Rel G x y) :
  ∀ (i:Nat) (x:AV) (y:Value),(cs++ds)[i]? = some x→(vs++us)[i]? = some y→Rel G x y:=fun i x y hx hy=>by
 by_cases hi:i<cs.length
 ·rw [List.getElem?_append_left hi] at hx
  rw [List.getElem?_append_left (by omega)] at hy;exact h1 i x y hx hy
 ·rw [List.getElem?_append_right (by omega)] at hx
  rw [List.getElem?_append_right (by omega),← hl] at hy;exact h2 _ x y hx hy
theorem qgd {P:Program} (hA:zi B0 w0 G st w) {tt u ty T:TypeId} {du:TypeDesc} (htt:P.underlying tt=some (.slice T)) (hu:P.underlying u=some du) (hd:qhh du)
  {sz bytes:Nat} (hT:wx P T sz bytes) {o:Nat} {xs ys:List AV} {a:AV} {ob:AObj} {v x:Value} (hV:Vec sz T o xs a ob) (ho:st[o]? = some ob) (hv:Rel G a v)
  {news:List Value} (hx:Src P w x ys.length sz news) (gr:∀ y∈ys,y.cells.length=sz) (e8:∀ (i:Nat) (a:AV) (b:Value),(flat ys)[i]? = some a→news[i]? = some b→Rel G a b)
  (l7:xs.length+ys.length≤maxLen) (bn:(xs.length+ys.length) * bytes≤140737488355328) :
  ∃ v' w' G' a' ob',(Builtin.append_ #[tt,u] ty #[v,x]).run P w = .ok v' w'∧G.le G'∧zi B0 w0 G' (st.set o ob') w'∧Rel G' a' v'∧Vec sz T o (xs++ys) a' ob':=by
 obtain⟨i,z,hi,hz,rfl,rfl,cg⟩:=hT.ex;have pj:=lt_of_getElem? ho;have htn:o<G.n:=by rw [hA.n];exact pj
 have hraw:(G.ob o).raw=false:=by
  have:=hA.ob o _ ho
  cases hV with
  |nil h=>exact this.1
  |os=>exact this.1
 have hk:=hA.kill o;have fg:(st.set o .dead)[o]? = some .dead:=ym ho
 have f9:∀ k x,(st.set o .dead)[k]? = some x→x.live→k≠o∧st[k]? = some x:=fun k x hx hl=>by
  rcases getElem?_set' _ _ _ _ _ hx with⟨_,e⟩ | ⟨h1,h2⟩
  ·subst e;exact hl.elim
  ·exact⟨h1,h2⟩
 have l9:st.set o ob=st:=by
  apply List.ext_getElem?;intro k;by_cases e:o=k
  ·subst e;rw [List.getElem?_set_self pj];exact ho.symm
  ·rw [List.getElem?_set_ne e]
 have gx:(flat ys).length=ys.length * i.size:=zq gr
 have grow:∀ (base:Option Addr) (c:Nat) (olds:List Value),(Builtin.firstCells i.size xs.length (.slice base xs.length c)).run P w.drew = .ok olds.toArray w.drew→c<xs.length+ys.length→olds.length=xs.length * i.size→(∀ x∈xs,x.cells.length=i.size) →
   (∀ (j:Nat) (a:AV) (b:Value),(flat xs)[j]? = some a→olds[j]? = some b→Rel G a b)→Builtin.nextslicecap (xs.length+ys.length) c * i.bytes≤281474976710656 →
   ∃ v' w' G' a' ob',(Builtin.append_ #[tt,u] ty #[.slice base xs.length c,x]).run P w = .ok v' w'∧G.le G'∧zi B0 w0 G' (st.set o ob') w'∧Rel G' a' v'∧Vec i.size T o (xs++ys) a' ob':=by
  intro base c olds d8 hc lj hwx sr e9;have cw:(flat xs).length=xs.length * i.size:=zq hwx;have a8:=qcx (ty:=ty) htt hu hd hi hz hx base xs.length c olds d8 hc (by simp only [maxLen] at l7;omega) e9;have ck:=grownCap_ge w (xs.length+ys.length) c T;have c9:=grownCap_le_maxLen w (xs.length+ys.length) c T l7;generalize grownCap w (xs.length+ys.length) c T=cap at a8 ck c9;generalize hzc:(Builtin.zeroCells z.cells (cap - (xs.length+ys.length)))=zc at a8;have ft:zc.size=(cap - (xs.length+ys.length)) * i.size:=by rw [← hzc,size_zeroCells,cg]
  have m5:Below w.heap.size w w.drew:=⟨rfl,rfl,rfl,Nat.le_refl _,fun _ _=>rfl⟩
  have cq:(flat (xs++ys)++zc.toList.map AV.v).length=(olds.toArray++news.toArray++zc).size:=by
   rw [wc];simp [cw,gx,lj,hx.count];omega
  have bg:=(hk.fresh m5).fresh (w':=w.drew.alloc (.cells (olds.toArray++news.toArray++zc) T)) ⟨rfl,rfl,rfl,by simp [World.alloc],fun b hb=>ye _ _ _ hb⟩
  have hnp:G.pub w.heap.size=none:=by
   cases hp:G.pub w.heap.size with
   |none=>rfl
   |some vs=>exact absurd (hA.pub_lt hp) (Nat.lt_irrefl _)
  obtain⟨n9,bf⟩:=bg.setCells (t:=o) (k:=w.heap.size) (cap:=0) (v':=(G.ob o).ver+1) (T:=T) (cs:=flat (xs++ys)++zc.toList.map AV.v) fg hraw (Nat.lt_succ_self _) (yc w.drew _) hnp cq (by
   have h1:=yg (G:=G) (cs:=flat xs) (ds:=flat ys) (vs:=olds) (us:=news) (by omega) sr e8
   have h2:=yg (G:=G) (cs:=flat xs++flat ys) (ds:=zc.toList.map AV.v) (vs:=olds++news) (us:=zc.toList) (by simp [cw,gx,lj,hx.count]) h1 (fun j a b h1 h2=>by
    rw [List.getElem?_map,h2] at h1;simp at h1;subst h1
    exact .v _)
   rw [wc];intro j a b g1 g2
   exact h2 j a b g1 (by rw [← g2];simp [← Array.getElem?_toList])) hA.hB (fun k x hx hl=>by
   obtain⟨_,d7⟩:=f9 k x hx hl
   exact Nat.ne_of_lt ((hA.ob k x d7).lt hl))
  rw [List.set_set] at bf;refine⟨_,_,_,_,_,a8,n9,bf,.os o ((G.ob o).ver+1) 0 (xs.length+ys.length) w.heap.size cap (by simpa [Gh.setOb] using htn) (by simp [Gh.setOb]) (fun _=>by simp [Gh.setOb]),?_⟩
  have:=Vec.os (o:=o) (T:=T) (xs:=xs++ys) ((G.ob o).ver+1) cap (zc.toList.map AV.v) (sz:=i.size) (by
   have h1:zc.toList.length=(cap - (xs.length+ys.length)) * i.size:=by rw [← ft];simp
   rw [List.length_append,wc,List.length_append,cw,gx,List.length_map,h1,← Nat.add_mul,← Nat.add_mul];congr 1
   omega) (fun y hy=>by
   rcases List.mem_append.1 hy with h|h
   ·exact hwx y h
   ·exact gr y h) (by simpa using ck) c9
  rw [List.length_append] at this;exact this
 cases hV with
 |nil h=>
  subst h
  cases hv with
  |v _=>
  by_cases fj:ys.length=0
  ·have gj:ys=[]:=List.eq_nil_of_length_eq_zero fj
   subst gj;have dp:news=[]:=List.eq_nil_of_length_eq_zero (by simpa using hx.count);subst dp;exact⟨_,_,G,_,_,qbn htt hu hd hi hx none 0 0 (Nat.le_refl _),.refl G,by rw [l9];exact hA,.v _,.nil (by simp)⟩
  ·exact grow none 0 [] (by simp [run_firstCells_none]) (by simp;omega) (by simp) (by simp) (by simp [flat]) (by
    simp only [List.length_nil,Nat.zero_add] at bn ⊢;rw [nextslicecap_zero (by omega)]
    omega)
 |os ver cap pad hl hw c9 cz=>
  obtain⟨g0,g1,g2,g3,c,g4,g5,g6⟩:=hA.ob o _ ho;have cw:(flat xs).length=xs.length * i.size:=zq hw
  cases hv with
  |os _ _ _ _ b _ hn r7 hb=>
  have hb:=hb g1;subst hb;have gw:c.size=cap * i.size:=by rw [← g5,hl]
  by_cases fj:ys.length=0
  ·have gj:ys=[]:=List.eq_nil_of_length_eq_zero fj
   subst gj;have dp:news=[]:=List.eq_nil_of_length_eq_zero (by simpa using hx.count);subst dp;exact⟨_,_,G,_,_,qbn htt hu hd hi hx _ xs.length cap c9,.refl G,by rw [l9];exact hA,.os _ _ _ _ _ _ hn r7 (fun _=>rfl),by rw [List.append_nil];exact .os ver cap pad hl hw c9 cz⟩
  ·by_cases i3:xs.length+ys.length≤cap
   ·have dn:(xs.length+ys.length) * i.size≤cap * i.size:=Nat.mul_le_mul_right _ i3
    rw [Nat.add_mul] at dn;have e9:xs.length * i.size+news.length≤c.size:=by rw [hx.count,gw];omega
    have a8:=qh9 (ty:=ty) htt hu hd hi hx (G.ob o).blk xs.length cap c g4 i3 e9
    have s0:pad.length=cap * i.size - xs.length * i.size:=by
     have:=hl;rw [List.length_append,cw] at this;omega
    have bf:=hA.setRow (cs':=flat (xs++ys)++pad.drop (ys.length * i.size)) (c':=(c.toList.take (xs.length * i.size)++news++c.toList.drop (xs.length * i.size+news.length)).toArray) ho (by
     rw [wc];simp [cw,gx,hx.count,s0,gw,Nat.min_eq_left c9]
     omega) (by
     have e1:∀ (j:Nat) (a:AV) (b:Value),(flat xs)[j]? = some a→(c.toList.take (xs.length * i.size))[j]? = some b→Rel G a b:=fun j a b h1 h2=>by
      have hj:=lt_of_getElem? h1;rw [List.getElem?_take_of_lt (by omega)] at h2;exact g6 j a b (by rw [List.getElem?_append_left hj];exact h1) (by simpa using h2)
     have e2:=yg (G:=G) (cs:=flat xs) (ds:=flat ys) (vs:=c.toList.take (xs.length * i.size)) (us:=news) (by simp;omega) e1 e8
     have e3:=yg (G:=G) (cs:=flat xs++flat ys) (ds:=pad.drop (ys.length * i.size)) (vs:=c.toList.take (xs.length * i.size)++news) (us:=c.toList.drop (xs.length * i.size+news.length)) (by
      simp [cw,gx,hx.count]
      omega) e2 (fun j a b h1 h2=>by
      rw [List.getElem?_drop] at h1 h2;refine g6 (xs.length * i.size+news.length+j) a b ?_ (by simpa using h2);rw [List.getElem?_append_right (by rw [cw];omega),cw,← h1,hx.count];congr 1
      omega)
     rw [wc];intro j a b h1 h2
     exact e3 j a b h1 (by simpa using h2))
    refine⟨_,_,G,_,_,a8,.refl G,bf,.os o ver 0 (xs.length+ys.length) _ cap hn r7 (fun _=>rfl),?_⟩
    have:=Vec.os (o:=o) (T:=T) (xs:=xs++ys) ver cap (pad.drop (ys.length * i.size)) (sz:=i.size) (by
     rw [List.length_append,wc,List.length_append,cw,gx,List.length_drop,s0]
     omega) (fun y hy=>by
     rcases List.mem_append.1 hy with h|h
     ·exact hw y h
     ·exact gr y h) (by simpa using i3) cz
    rw [List.length_append] at this;exact this
   ·refine grow (some ⟨(G.ob o).blk,0,none⟩) cap (c.toList.take (xs.length * i.size)) ?_ (by omega) (by
     have:xs.length * i.size≤cap * i.size:=Nat.mul_le_mul_right _ c9;simp
     omega) hw (fun j a b h1 h2=>?_) (growslice_fits (by omega) bn)
    ·refine run_firstCells_some w.drew i.size xs.length ⟨(G.ob o).blk,0,none⟩ xs.length cap _ (by
      have:xs.length * i.size≤cap * i.size:=Nat.mul_le_mul_right _ c9;simp
      omega) fun j y hy=>?_
     have e1':w.drew.heap[(G.ob o).blk]? = some (.cells c T (0,0)):=g4;rw [Addr.add_lit];rw [List.getElem?_take] at hy;split at hy
     ·simp only [Array.getElem?_toList] at hy
      simp [World.cell?,e1',hy]
     ·simp at hy
    ·have hj:=lt_of_getElem? h1
     rw [List.getElem?_take_of_lt (by omega)] at h2;exact g6 j a b (by rw [List.getElem?_append_left hj];exact h1) (by simpa using h2)
end
section
variable {E : Env} {rd : Option Nat} {N : Nat} {ops : Array Oper} {K : AS → Prop} {s : AS} {rest : List Oper} {d : Option Tmp} {T : TypeId} {p : String} {af : Array Edge}
theorem qw7 {x y:Operand} {t u T':TypeId} {sz bytes o:Nat} {xs ys:List AV} {tip:Option Nat} {a:AV} {ob:AObj} (hx:qi N s x=a) (hy:qi N s y = .sl sz ys tip) (hV:Vec sz T' o xs a ob) (ho:s.st[o]? = some ob)
  (ht:E.P.underlying t=some (.slice T')) (hu:E.P.underlying u=some (.slice T')) (hT:wx E.P T' sz bytes) (d9:jv (flat ys)=true) (l7:xs.length+ys.length≤maxLen) (hb:(xs.length+ys.length) * bytes≤140737488355328)
  (h:∀ a' ob',Vec sz T' o (xs++ys) a' ob'→AOps E rd N ops rest K (AS.put ⟨s.t,s.st.set o ob',s.df⟩ d a')):AOps E rd N ops (⟨d,.call ⟨.builtin .append,#[x,y],#[t,u]⟩,T,p,af,none⟩::rest) K s:=by
 refine qz rfl (qx nofun fun B0 w0 G a0 w _ hI=>?_);obtain⟨news,h1,h2,h3⟩:=x5 (P:=E.P) hI.agree (hI.eval_of hy) (by simpa [jv] using d9);obtain⟨v',w',G',a',ob',e1,e2,e3,e4,e5⟩:=qgd (ty:=T) hI.agree ht hu (.inr ⟨_,rfl⟩) hT hV ho (hI.eval_of hx) h1 h2 h3 l7 hb;refine⟨v',w',G',_,_,?_,e2,e3,e4,h a' ob' e5⟩;generalize a0.eval = ρ at e1;simp [execOp,resolve,invoke,builtin,e1]
theorem qsn {sz:Nat} {T:TypeId} {o:Nat} {xs:List AV} {a:AV} {ob:AObj} (h:Vec sz T o xs a ob):(xs=[]∧a=zx∧ob = .tip 0 sz T)∨∃ ver cap pad,a = .os o ver 0 xs.length cap∧ob = .cells ver T (flat xs++pad)∧(flat xs++pad).length=cap * sz∧(∀ x∈xs,x.cells.length=sz)∧xs.length≤cap∧cap≤maxLen:=by
 cases h with
 |nil h=>exact .inl ⟨h,rfl,rfl⟩
 |os ver cap pad h1 h2 h3 h4=>exact .inr ⟨ver,cap,pad,rfl,rfl,h1,h2,h3,h4⟩
theorem qpe {sz:Nat}:∀ {xs:List AV} {i:Nat} {x:AV},(∀ x∈xs,x.cells.length=sz)→x.cells.length=sz→i<xs.length→∀ pad,zu (flat xs++pad) (0+i * sz) x.cells=flat (xs.set i x)++pad
 | [],_,_,_,_,h,_=>by simp at h
 |y::xs,0,x,hw,hx,_,pad=>by
  have hy:=hw y (by simp);simp only [List.set_cons_zero,qa0,zu,Nat.zero_mul,Nat.zero_add,List.take_zero,List.nil_append,hx];rw [List.append_assoc,List.drop_append_of_le_length (by omega),← hy,List.drop_length]
  simp
 |y::xs,i+1,x,hw,hx,h,pad=>by
  have hy:=hw y (by simp);have ih:=qpe (xs:=xs) (i:=i) (x:=x) (fun z hz=>hw z (by simp [hz])) hx (by simpa using h) pad;simp only [List.set_cons_succ,qa0,zu,Nat.zero_add] at ih ⊢;have e:(i+1) * sz=y.cells.length+i * sz:=by rw [Nat.add_mul,hy];omega
  simp only [List.append_assoc] at ih ⊢;rw [e,List.take_length_add_append,show y.cells.length+i * sz+x.cells.length=y.cells.length+(i * sz+x.cells.length) by omega,List.drop_length_add_append];simp only [List.append_assoc];rw [ih]
theorem zgn {sz:Nat} {T:TypeId} {o ver cap:Nat} {xs pad:List AV} (hl:(flat xs++pad).length=cap * sz) (hw:∀ x∈xs,x.cells.length=sz) (c9:xs.length≤cap) (cz:cap≤maxLen) {i:Nat} {x:AV} (hx:x.cells.length=sz) (hi:i<xs.length) :
  Vec sz T o (xs.set i x) (.os o ver 0 xs.length cap) (.cells ver T (zu (flat xs++pad) (0+i * sz) x.cells)):=by
 rw [qpe hw hx hi]
 have l6:∀ y∈xs.set i x,y.cells.length=sz:=fun y hy=>by
  rcases List.mem_or_eq_of_mem_set hy with h|rfl
  ·exact hw y h
  ·exact hx
 have:=Vec.os (o:=o) (T:=T) (xs:=xs.set i x) ver cap pad (sz:=sz) (by
  rw [List.length_append] at hl ⊢;rw [zq l6,List.length_set,← zq hw]
  exact hl) l6 (by simpa using c9) cz
 rw [List.length_set] at this;exact this
theorem q3j {sz:Nat} {xs pad:List AV} (hw:∀ x∈xs,x.cells.length=sz) {i:Nat} {x:AV} (hi:xs[i]? = some x):((flat xs++pad).drop (i * sz)).take sz=x.cells:=by
 have d5:=lt_of_getElem? hi;have hx:=hw x (List.mem_of_getElem? hi);apply List.ext_getElem?;intro j;rw [List.getElem?_take];by_cases hj:j<sz
 ·rw [if_pos hj,List.getElem?_drop,← qhs hw hi j hj]
  have c9:(i+1) * sz≤xs.length * sz:=Nat.mul_le_mul_right _ d5;rw [Nat.succ_mul] at c9;rw [List.getElem?_append_left (by rw [zq hw];omega)]
 ·rw [if_neg hj,List.getElem?_eq_none (by omega)]
end
structure Chg (N:Nat) (s s':AS):Prop where
 run:∀ (B0:Nat) (w0:World) (G:Gh) (a:Act) (w:World),Inv B0 w0 N G s a w→∃ G',G.le G'∧Inv B0 w0 N G' s' a w
theorem Chg.trans {N:Nat} {s s' s'':AS} (h:Chg N s s') (k:Chg N s' s''):Chg N s s'':=⟨fun B0 w0 G a w hI=>let ⟨G1,h1,h2⟩:=h.run B0 w0 G a w hI;let ⟨G2,k1,k2⟩:=k.run B0 w0 G1 a w h2;⟨G2,h1.trans k1,k2⟩⟩
section
variable {E : Env} {rd : Option Nat} {N : Nat} {ops : Array Oper} {K : AS → Prop} {s s' : AS}
theorem zae {fn:Func} {R:AV→List AObj→Prop} (hc:Chg fn.ntmps s s') (h:ARet E fn R s'):ARet E fn R s:=
 ⟨fun B0 w0 G a w hL hI R2 fv=>let ⟨G1,h1,h2⟩:=hc.run B0 w0 G a w hI;h.run B0 w0 G1 a w hL h2 R2 fun v G' r st' w' hG k1 k2 k3=>fv v G' r st' w' (h1.trans hG) k1 k2 k3⟩
theorem zan (i:Nat) {x r:AV} (hi:s.t i=x) (hw:∀ G v,Rel G x v→Rel G r v):Chg N s ⟨Av.put s.t i r,s.st,s.df⟩:=
 ⟨fun B0 w0 G a w hI=>⟨G,.refl G,hI.agree,hI.defers,hI.size,fun j y hy=>by
  have hj:=hI.tmps j y hy;by_cases e:j=i
  ·subst e;simp only [wt];rw [hi] at hj;exact hw G y hj
  ·simp only;rw [yo _ _ _ _ e];exact hj⟩⟩
theorem zam (o:Nat):Chg N s ⟨s.t,s.st.set o .dead,s.df⟩:=⟨fun B0 w0 G a w hI=>⟨G,.refl G,hI.agree.kill o,hI.defers,hI.size,hI.tmps⟩⟩
theorem q4a (i:Nat) {sz o:Nat} {T':TypeId} {xs:List AV} {v:AV} {ob:AObj} (hi:s.t i=v) (hV:Vec sz T' o xs v ob) (ho:s.st[o]? = some ob):Chg N s ⟨Av.put s.t i (.sl sz xs none),s.st.set o .dead,s.df⟩:=by
 cases hV with
 |nil hx=>
  subst hx
  exact (zan i hi (fun _ _ h=>qa5 h)).trans (zam o)
 |os ver cap pad hl hw c9 cz=>
  have hm:xs.length * sz≤cap * sz:=Nat.mul_le_mul_right _ c9;refine⟨fun _ _ _ _ _ hI=>hI.osPub hi ho rfl c9 hw (by omega) ?_⟩;rw [List.drop_zero,List.take_append_of_le_length (by rw [zq hw];exact Nat.le_refl _),List.take_of_length_le (by rw [zq hw];exact Nat.le_refl _)]
theorem q0x (i:Nat) {sz k:Nat} {T':TypeId} {xs:List AV} {v:AV} {ob:AObj} {st loc ext new:List AObj} (hs:s.st=((st++loc)++ext)++new) (hi:s.t i=v) (hV:Vec sz T' (st.length+k) xs v ob) (ho:loc[k]? = some ob):Chg N s ⟨Av.put s.t i (.sl sz xs none),((st++loc.set k .dead)++ext)++new,s.df⟩:=by
 have:=q4a (N:=N) i hi hV (by rw [hs];exact y8 ho);rw [hs,qdf _ (lt_of_getElem? ho)] at this;exact this
theorem qvy {rest:List Oper} {d:Option Tmp} {T:TypeId} {p:String} {af:Array Edge} {x y:Operand} {t u T':TypeId} {sz bytes k:Nat} {xs ys:List AV} {tip:Option Nat} {a:AV} {ob:AObj} {st loc ext new:List AObj} (hs:s.st=((st++loc)++ext)++new) (hx:qi N s x=a) (hy:qi N s y = .sl sz ys tip) (hV:Vec sz T' (st.length+k) xs a ob) (ho:loc[k]? = some ob)
  (ht:E.P.underlying t=some (.slice T')) (hu:E.P.underlying u=some (.slice T')) (hT:wx E.P T' sz bytes) (d9:jv (flat ys)=true) (l7:xs.length+ys.length≤maxLen) (hb:(xs.length+ys.length) * bytes≤140737488355328)
  (h:∀ a' ob',Vec sz T' (st.length+k) (xs++ys) a' ob'→AOps E rd N ops rest K (AS.put ⟨s.t,((st++loc.set k ob')++ext)++new,s.df⟩ d a')):AOps E rd N ops (⟨d,.call ⟨.builtin .append,#[x,y],#[t,u]⟩,T,p,af,none⟩::rest) K s:=
 qw7 hx hy hV (by rw [hs];exact y8 ho) ht hu hT d9 l7 hb fun a' ob' hV'=>by rw [hs,qdf _ (lt_of_getElem? ho)];exact h a' ob' hV'
end
end Go.Av
namespace Go.Proofs.YtapblfabkbdgcaaGreatDoor
open Go Go.Av Go.RowKit Go.Proofs Go.Pl
theorem q9l (text:List UInt8) (o kb ver n:Nat) (I:Nat→List UInt8→List AObj→Prop) (D:List AObj→Prop) (st l0:List AObj) (ht:text.length<4294967281) (h0:I 0 text l0)
  (hI:∀ k rest l,I k rest l→l.length=n∧(st++l)[kb]? = some (.cells ver 9 [Sv text]))
  (hY:∀ k rest l own ext,I k rest l→rest≠[]→rest.length≤text.length→x8 E o [qc7 k text rest] (st++(l++own::ext)) fun b st2=>∃ l' ext',st2=st++(l'++own::ext')∧(b=true→I (k+1) (past 10 rest) l')∧(b=false→D l'∧l'.length=n)) :
  qn E 120 [.yd o,.bx kb ver 0] (st++l0) fun r st'=>∃ l own ext',st'=st++(l++own::ext')∧((∃ k,I k [] l)∨D l):=by
 refine qr Tryz.func120 rfl (Nat.le_of_ble_eq_true rfl) ?_;obtain⟨hn,hb⟩:=hI 0 text l0 h0;repeat' (first|apply qm|apply qt|apply qg|apply qh|apply qj|(apply jp;exact rfl;exact rfl)|(apply zz;(iterate 11 exact rfl))|(apply xh;(iterate 3 exact rfl))|(apply qak;exact rfl;exact rfl;exact hb;exact rfl;exact rfl))
 refine jx (fun (x:Nat×List UInt8) s=>match x with|(k,rest)=>∃ l at' ta eb ext,I k rest l∧k+rest.length≤text.length∧at'=(text.length:Int) - rest.length∧StA [(0,.yd o),(1,.bx kb ver 0),(3,.bx ((st++l0).length+0) 0 0),(4,Sv rest)] ((st++l)++(.cells 0 164 [Iv k,Iv at',Sv ta,Bv eb]::ext)) [] s) (fun x=>x.2.length) (0,text)
  ⟨l0,0,[],false,[],h0,by simp,by simp,?_⟩ ?_
 ·exact jg ⟨rfl,rfl,rfl,rfl,trivial⟩
 rintro⟨k,rest⟩ _ ⟨l,_,ta,eb,ext,hi,c9,rfl,t,rfl⟩;obtain⟨pf,dx⟩:=hI k rest l hi;have hq:(st++l).length=(st++l0).length:=by simp [hn,pf]
 repeat' (first|apply qm|apply qt|apply qg|apply qh|apply ql|apply qj|(apply zp;exact rfl;exact rfl)|(apply vm;(iterate 3 exact rfl))|(apply qe;exact rfl;apply cd_d <;> intro h)|(apply zh;(iterate 3 exact rfl))|apply qw|apply ji|(apply qp;exact Tryz.call39;exact qj9 _ _ _ (by omega))|(apply qas;exact rfl;exact hq;(iterate 10 exact rfl))|(apply qbj;exact rfl;exact hq;(iterate 4 exact rfl)))
 ·refine qc1 rfl (q0q (List.append_assoc st l (_::ext)).symm ((hY k rest l _ ext hi h (by omega)).mono ?_))
  rintro b _ ⟨l',ext',rfl,h1,h2⟩
  cases b
  ·skip
   rw [← List.append_assoc];repeat' (first|apply qh|(apply kj;exact rfl)|(apply qe;exact rfl;apply qkp;exact cRa)|apply q6)
   refine qo rfl (yj rfl) ⟨l',_,ext',List.append_assoc _ _ _,.inr (h2 rfl).1⟩
  ·have tv:=h1 rfl
   obtain⟨hn3,px⟩:=hI _ _ _ tv;have hp:=vj 10 rest;have cm:0<rest.length:=List.length_pos_iff.2 h;have hq3:(st++l').length=(st++l0).length:=by simp [hn,hn3]
   rw [← List.append_assoc];repeat' (first|apply qm|apply qg|apply qh|apply ql|(apply kj;exact rfl)|(apply qe;exact rfl;apply qqv;exact cRa)|(apply kz;(iterate 3 exact rfl))|(apply zn;exact rfl;exact rfl;exact zg (by omega) (by omega))|(apply qbs;exact rfl;exact rfl;exact zg (by omega) (by omega))|(apply zh;(iterate 3 exact rfl))|apply qw|(apply qak;exact rfl;exact rfl;exact px;exact rfl;exact rfl)|(apply qas;exact rfl;exact hq3;(iterate 10 exact rfl))|(apply qbj;exact rfl;exact hq3;(iterate 4 exact rfl)))
   exact⟨(k+1,past 10 rest),⟨l',_,_,_,_,tv,by omega,rfl,jg ⟨rfl,rfl,rfl,rfl,trivial⟩⟩,by simp only;omega⟩
 ·have hr:rest=[]:=Classical.not_not.1 h
  subst hr;exact qo rfl (yj rfl) ⟨l,_,ext,List.append_assoc _ _ _,.inl ⟨k,hi⟩⟩
theorem qs0 {N:Nat} {Q:Exit→AS→Prop} {s:AS} {f:Operand} {p:Tmp} {asg body:Code} {st loc:List AObj} {kb ver:Nat} (text:List UInt8) (e7:s.st=st++loc) (hx:qi N s f = .fn (.func 120) [] [.bx (st.length+kb) ver 0]) (ht:text.length<4294967281)
  (I:Nat→List UInt8→List AObj→Prop) (D:Code→List AObj→Prop) (h0:I 0 text loc)
  (hI:∀ k rest l,I k rest l→l.length=loc.length∧l[kb]? = some (.cells ver 9 [Sv text])) (hD:∀ c l,D c l→l.length=loc.length)
  (hb:∀ F own rd k rest l ext m,qkk F N s.t #[p] asg body→I k rest l→rest≠[]→rest.length≤text.length→((st++(l++[.dfr,F .ready none,own]))++ext).length=m→((st++(l++[.dfr,F .busy none,own]))++ext).length=m →
   AWp E (some rd) N asg (only fun s1=>∃ new,s1.st=((st++(l++[.dfr,F .ready none,own]))++ext)++new∧s1.df=[]∧AWp E (some rd) N body (q89 F st own (I (k+1) (past 10 rest)) D) ⟨s1.t,((st++(l++[.dfr,F .busy none,own]))++ext)++new,[]⟩) ⟨put s.t p (qc7 k text rest),((st++(l++[.dfr,F .ready none,own]))++ext)++[],[]⟩)
  (hn:∀ k l ext,I k [] l→Q .normal ⟨s.t,((st++(l++[.dfr,.dead]))++ext)++[],(st.length+loc.length)::s.df⟩)
  (hd:∀ c l ext,D c l→AWp E none N c Q ⟨s.t,((st++(l++[.dfr,.dead]))++ext)++[],(st.length+loc.length)::s.df⟩):AWp E none N (.rangeFunc f #[p] asg body) Q s:=by
 refine qko e7 hx Tryz.call120 fun F hF=>?_;refine qn.mono (q9l text (st.length+(loc.length+1)) (st.length+kb) ver (loc.length+2) (fun k rest l=>∃ l1,l=l1++[.dfr,F .ready none]∧I k rest l1) (fun l=>∃ l1 c,l=l1++[.dfr,F .done (some c)]∧D c l1) st (loc++[.dfr,F .ready none]) ht ⟨loc,rfl,h0⟩ ?_ ?_) ?_
 ·rintro k rest _ ⟨l,rfl,hi⟩
  obtain⟨h1,h2⟩:=hI k rest l hi;exact⟨by simp [h1],jl (by rw [List.getElem?_append_left (lt_of_getElem? h2)];exact h2)⟩
 ·rintro k rest _ own ext ⟨l,rfl,hi⟩ b8 c9
  obtain⟨h1,h2⟩:=hI k rest l hi;have hy:=zah (E:=E) (st:=st) (l:=l) (ext:=ext) (own:=own) (n:=loc.length) (xs:=[qc7 k text rest]) (I:=I (k+1) (past 10 rest)) (D:=D) hF h1 rfl (fun l hl=>(hI _ _ l hl).1) hD (fun rd=>hb F own rd k rest l ext _ hF hi b8 c9 rfl (by simp));have e:(st++(l++[.dfr,F .ready none,own]))++ext=st++((l++[.dfr,F .ready none])++own::ext):=by simp
  rw [e] at hy;refine hy.mono ?_;rintro b st2 ⟨l',ext',g1,g2⟩
  cases b with
  |true=>
   obtain⟨rfl,g⟩:=g1 rfl
   exact⟨l'++[.dfr,F .ready none],ext',by simp,fun _=>⟨l',rfl,g⟩,nofun⟩
  |false=>
   obtain⟨c,rfl,g⟩:=g2 rfl;exact⟨l'++[.dfr,F .done (some c)],ext',by simp,nofun,fun _=>⟨⟨l',c,rfl,g⟩,by simp [hD c l' g]⟩⟩
 ·rintro r _ ⟨_,own,ext,rfl,⟨k,l,rfl,hi⟩ | ⟨l,c,rfl,hdl⟩⟩
  ·have h1:=(hI _ _ _ hi).1
   have e:st++((l++[.dfr,F .ready none])++own::ext)=(st++(l++[.dfr,F .ready none,own]))++ext:=by simp
   rw [e];refine⟨.ready,none,nofun,qcm h1,?_⟩;rw [qeh h1];have:=hn k l (own::ext) hi
   simpa using this
  ·have h1:=hD _ _ hdl
   have e:st++((l++[.dfr,F .done (some c)])++own::ext)=(st++(l++[.dfr,F .done (some c),own]))++ext:=by simp
   rw [e];refine⟨.done,some c,nofun,qcm h1,?_⟩;rw [qeh h1];have:=hd c l (own::ext) hdl
   simpa using this
abbrev Ss (xs:List qc):AV:=.sl 1 (xs.map fun x=>Sv x) none
theorem qne (l m:List UInt8) (st:List AObj):qn E 40 [Sv l,Sv m] st fun r st'=>r=Sv (Lib.trimPrefix l m)∧st'=st:=
 y7 (vals:= #[.string ⟨l.toArray⟩,.string ⟨m.toArray⟩]) rfl fun _ _ w _ _=>(Tryz.strings_TrimPrefix ⟨l.toArray⟩ ⟨m.toArray⟩ w).mono fun _ _ ⟨h1,h2⟩=>⟨h1,qdj h2⟩
theorem q3i (l:List UInt8) (c:UInt8) (st:List AObj):qn E 40 [Sv l,Sv [c]] st fun r st'=>r=Sv (x7 c l)∧st'=st:=by
 rw [← qtu];exact qne _ _ _
theorem q5w {B0:Nat} {w0:World} {G:Gh} {st:List AObj} {w:World} (hA:zi B0 w0 G st w) {xs:List qc} {tip:Option Nat} {v:Value} (h:Rel G (.sl 1 (xs.map fun x=>Sv x) tip) v) :
  (xs=[]∧∃ a c,v = .slice a 0 c)∨∃ b off cap,v = .slice (some ⟨b,off,none⟩) xs.length cap∧b<w.heap.size∧xs.length≤cap∧∀ (j:Nat) (x:qc),xs[j]? = some x→w.cell? ⟨b,off+j,none⟩=some (.string ⟨x.toArray⟩):=by
 generalize hq:xs.map (fun x=>Sv x)=q at h
 cases h with
 |sl0 sz tip base cap ht=>exact .inl ⟨by simpa using hq,base,cap,rfl⟩
 |sl _ _ _ b off cap pub hp hw b9 hr ht i4=>
  subst hq;obtain⟨c,T,fz,hc,mf⟩:=hA.pub b pub hp;refine .inr ⟨b,off,cap,by simp,hA.pub_lt hp,by simpa using i4,fun j x hx=>?_⟩
  have g8:flat (xs.map fun x=>Sv x)=xs.map fun x=>Sv x:=by
   clear hx hr b9 hw ht i4
   induction xs with
   |nil=>rfl
   |cons a xs ih=>rw [List.map_cons,qa0,ih];rfl
  have hj:=lt_of_getElem? hx;rw [g8] at b9;simp only [List.length_map] at b9;have hy:pub[off+j]? = some (pub[off+j]'(by omega)):=List.getElem?_eq_getElem (by omega);have hrj:=hr j (Sv x) _ (by rw [g8,List.getElem?_map,hx];rfl) hy;generalize hz:pub[off+j]'(by omega)=z at hrj hy;generalize hSx:Sv x=sx at hrj
  cases hrj <;> simp_all
  subst_vars
  simp [World.cell?,hc,mf _ _ hy]
theorem q71 (xs:List qc) (tip:Option Nat) (sep:qc) (st:List AObj) (hN:xs.length≤140737488355328) (hl:(Lib.join xs sep).length≤140737488355328):qn E 105 [.sl 1 (xs.map fun x=>Sv x) tip,Sv sep] st fun r st'=>r=Sv (Lib.join xs sep)∧st'=st:=by
 refine⟨fun B0 w0 G vs w hL hA hR=>?_⟩;have hs:vs.size=2:=by have:=hR.1;simpa using this.symm
 have e0:vs[0]? = some vs[0]:=by simp [hs]
 have e1:vs[1]? = some vs[1]:=by simp [hs]
 have h0:=hR.2 0 _ _ rfl e0;have h1:=hR.2 1 _ _ rfl e1;have hv1:vs[1] = .string ⟨sep.toArray⟩:=by generalize vs[1]=y at h1;cases h1;rfl
 have hvs:vs = #[vs[0],.string ⟨sep.toArray⟩]:=by
  apply Array.ext (by simp [hs]);intro i g1 g2
  match i with
  | 0=>rfl
  | 1=>exact hv1
  |i+2=>simp [hs] at g1;omega
 rw [hvs];rcases q5w hA h0 with⟨hx,a,c,hv⟩ | ⟨b,off,cap,hv,hb,i4,p7⟩
 ·rw [hv]
  subst hx;refine (Tryz.strings_Join_none a c ⟨sep.toArray⟩ w).mono ?_;rintro e w' ⟨rfl,rfl⟩;exact⟨_,G,Sv [],st,rfl,.refl G,hA,.v _,rfl,rfl⟩
 ·rw [hv]
  have hm:(xs.map fun l:qc=>(⟨l.toArray⟩:ByteArray)).map (·.data.toList)=xs:=by simp [List.map_map,Function.comp_def]
  have hc:=Tryz.strings_Join b off cap (xs.map fun l=>⟨l.toArray⟩) ⟨sep.toArray⟩ w (fun j x hx=>by
   rw [List.getElem?_map] at hx
   cases hq:xs[j]? with
   |none=>rw [hq] at hx;simp at hx
   |some y=>rw [hq] at hx;simp at hx;subst hx;exact p7 j y hq) hb (by simpa using hN) (by simpa using i4) (by rw [hm];simpa using hl)
  rw [hm] at hc;simp only [List.length_map] at hc;refine hc.mono ?_;rintro e w' ⟨rfl,hbw⟩;exact⟨_,G,Sv _,st,rfl,.refl G,hA.fresh hbw,.v _,rfl,rfl⟩
def Weak (x r:AV):Prop:=∀ (G:Gh) (v:Value),Rel G x v→Rel G r v
theorem qa6 (x:AV):Weak x x:=fun _ _ h=>h
theorem qls (sz:Nat) (xs:List AV) (tip:Option Nat):Weak (.sl sz xs tip) (.sl sz xs none):=fun _ _ h=>qi9 h
theorem qe2 (sz:Nat):Weak zx (.sl sz [] none):=fun _ _ h=>qa5 h
theorem qdz {x y x' y':AV} (h1:Weak x x') (h2:Weak y y'):Weak (.tu [x,y]) (.tu [x',y']):=fun G v h=>by
 cases h with
 |tu _ vs hl hr=>
  refine .tu _ vs hl fun i a b ha hb=>?_
  match i with
  | 0=>simp at ha;subst ha;exact h1 G b (hr 0 x b rfl hb)
  | 1=>simp at ha;subst ha;exact h2 G b (hr 1 y b rfl hb)
  |i+2=>simp at ha
theorem zgp {xs ys:List AV} (hl:xs.length=ys.length) (h:∀ (i:Nat) (x y:AV),xs[i]? = some x→ys[i]? = some y→Weak x y):Weak (.ag xs) (.ag ys):=fun G v hr=>by
 cases hr with
 |ag _ vs m9 hr=>
  refine .ag _ vs (by omega) fun i a b ha hb=>?_;have hi:=lt_of_getElem? ha;exact h i _ a (List.getElem?_eq_getElem (by omega)) ha G b (hr i _ b (List.getElem?_eq_getElem (by omega)) hb)
theorem q30 {fn:Func} {s:AS} {t u:Tmp} {x y x' y':AV} (hr:fn.results = #[.tmp t,.tmp u]) (hx:qi fn.ntmps s (.tmp t)=x) (hy:qi fn.ntmps s (.tmp u)=y) (h1:Weak x x') (h2:Weak y y'):ARes E fn s (.tu [x',y']):=
 wp (yx hr) (by rw [hx,hy];exact qdz h1 h2)
def errN (n:Int):AV:=if n=0 then .v .nilIface else .ifc 50 (Iv n)
theorem qiu (n:Int):Pure (errN n):=by
 unfold errN;split
 ·exact q8 _
 ·exact qdw (q8 _)
theorem qka {n:Int} (h:n≠0):errN n = .ifc 50 (Iv n):=if_neg h
theorem qon (f:FldV) (st:List AObj) (hl:f.1.length<4294967281):qn E 142 [fldA f] st fun r st'=>r=errN (kg f)∧st'=st:=by
 refine zb (qiu _) (qr Tryz.func142 rfl (Nat.le_of_ble_eq_true rfl) ?_);repeat' (first|apply qm|apply qt|apply qg|apply qh|apply qj|(apply qu;(iterate 3 exact rfl))|(apply kj;exact rfl)|(apply qe;exact rfl;apply cd_n <;> intro h)|(apply qe;exact rfl;apply cd_d <;> intro h)|(apply kz;(iterate 3 exact rfl))|(apply vw;exact rfl;exact rfl)|(apply qa8;(iterate 4 exact rfl))|(apply zh;(iterate 3 exact rfl))|(apply jc;(iterate 5 exact rfl))|apply qw|apply q6|(apply qp;exact Tryz.call166;exact zdg _ _ hl))
 all_goals refine qo rfl (zf rfl) ⟨(?_:_=_),_,rfl⟩
 ·have e:kg f=5:=if_pos (by simp_all)
  rw [e];rfl
 ·have e:kg f=6:=(if_neg (by simp_all)).trans (if_pos (by omega))
  rw [e];rfl
 ·have e:kg f=0:=(if_neg (by simp_all)).trans (if_neg (by omega))
  rw [e];rfl
theorem qhu (f:FldV) (st:List AObj) (hl:f.1.length<4294967281) (h:kg f=0):qn E 142 [fldA f] st fun r st'=>r = .v .nilIface∧st'=st:=by
 have:=qon f st hl;rw [h] at this;exact this
theorem qhv (f:FldV) (st:List AObj) (hl:f.1.length<4294967281) (h:kg f≠0):qn E 142 [fldA f] st fun r st'=>r = .ifc 50 (Iv (kg f))∧st'=st:=by
 have:=qon f st hl;rw [qka h] at this;exact this
theorem q9q (s:List UInt8) (st:List AObj) (hl:s.length<4294967281):qn E 144 [Sv s] st fun r st'=>r=Sv (vh s)∧st'=st:=by
 refine zb (q8 _) (qr Tryz.func144 rfl (Nat.le_of_ble_eq_true rfl) ?_);have hb:Lib.trimS s [32,9]=[]↔qa9 s:=by rw [qvt];simp [v4,qa9]
 repeat' (first|apply qm|apply qg|apply qh|apply ql|apply qj|(apply vm;(iterate 3 exact rfl))|(apply zo;(iterate 4 exact rfl))|(apply qfa;exact cAo)|(apply qea;exact cAo)|(apply qc5 <;> intro h)|(apply q9;exact rfl;apply qg3;exact cAo)|(apply q9;exact rfl;apply qlc;exact cAo)|(apply qe;exact rfl;apply cd_t;exact cRa)|(apply qe;exact rfl;apply cd_d <;> intro h)|(apply kp;exact rfl;exact rfl;exact cOs)|apply qw|apply q6|(apply qp;exact Tryz.call164;exact zgm _ _ _ (by omega) rfl rfl)|(apply qp;exact Tryz.call154;exact qhy _ _ _))
 all_goals refine qo rfl (zf rfl) ⟨congrArg (fun l:qc=>Sv l) (?_:_=vh s),_,rfl⟩
 all_goals unfold vh
 all_goals simp_all
theorem qn1 (xs:List qc):Pure (Ss xs):=q81 xs
theorem q5u (l p:qc) (r:List qc) (st:List AObj) (hl:l.length<4294967281) (h:qy l=p::r):qn E 143 [Sv l,Sv [10]] st fun x st'=>x = .sl 1 (Sv p::r.map fun x=>Sv x) none∧st'=st:=by
 have:=q9k l st hl;rw [h] at this;exact this
def qh0 (f:FldV):AV:=.tu [Ss (if kg f=0 then zm f else []),errN (kg f)]
theorem q1e (f:FldV):Pure (qh0 f):=qfd fun x hx=>by
 simp only [List.mem_cons,List.not_mem_nil,or_false] at hx;rcases hx with rfl|rfl
 ·exact qn1 _
 ·exact qiu _
set_option maxHeartbeats 2000000 in
theorem qoo (f:FldV) (st:List AObj) (hl:f.1.length<4294967281) (hv:f.2.length<1000000):qn E 102 [fldA f] st fun r st'=>r=qh0 f∧st'=st:=by
 refine zb (q1e _) (qr Tryz.func102 rfl (Nat.le_of_ble_eq_true rfl) ?_);by_cases hc:kg f=0
 ·obtain⟨p,r,hp⟩:∃ p r,qy f.2=p::r:=⟨_,_,qk9 f.2⟩
  have s0:p.length≤f.2.length:=qdm f.2 p (by rw [hp];simp);have cx:∀ x∈r,x.length≤f.2.length:=fun x hx=>qdm f.2 x (by rw [hp];simp [hx]);have hrn:r.length≤f.2.length:=by have:=qbg _ f.2 (Nat.le_refl _);rw [hp] at this;simpa using this
  repeat' (first|(apply ya;(iterate 6 exact rfl))|(apply qt5;(iterate 5 exact rfl);kernel_rfl)|apply qm|apply qt|apply qg|apply qh|apply ql|apply qj|(apply vm;(iterate 3 exact rfl))|(apply qe;exact rfl;apply cd_f;exact cRa)|(apply qe;exact rfl;apply cd_d <;> intro h)|(apply z6;(iterate 4 exact rfl))|(apply kp;exact rfl;exact rfl;exact cOs)|(apply x3;exact rfl;exact rfl)|(apply qa8;(iterate 4 exact rfl))|(apply zh;(iterate 3 exact rfl))|(apply jh;(iterate 3 exact rfl))|(apply jc;(iterate 5 exact rfl))|(apply zz;(iterate 11 exact rfl))|(apply qj0;(iterate 4 exact rfl);(first|assumption|omega|exact Nat.succ_le_succ (Nat.zero_le _)|(simp;omega));exact rfl)|apply qfx|(apply qih;exact rfl;exact rfl;exact cOs)|(apply qep;(iterate 3 exact rfl))|(apply qob;(iterate 5 exact rfl))|apply qd2|apply qw|(apply qp;exact Tryz.call142;exact qhu _ _ hl hc)|(apply qp;exact Tryz.call143;exact q5u _ _ _ _ (by omega) hp)|(apply j6 (n:=0);(iterate 6 exact rfl))|(apply qbk (n:=0);(iterate 6 exact rfl))|(apply qij (n:=0);(iterate 5 exact rfl);omega))
  all_goals refine q6r 6 (o:=st.length+1) (sz:=1) (len:=1) (cap:=1) (xs:=[Sv (jy f.1 p)]) (T':=9) rfl (jl rfl) rfl rfl (by omega) (Nat.le_refl _) (by decide) (by simp [AV.cells]) ?_ ?_
  ·exact congrArg (fun l:qc=>[Sv l]) (by unfold jy;rw [if_neg h]:jy f.1 p=f.1++[58]++([32]++p))
  rotate_left
  ·exact congrArg (fun l:qc=>[Sv l]) (by unfold jy;rw [if_pos (Classical.not_not.1 h),List.append_nil]:jy f.1 p=f.1++[58])
  all_goals
   have sm:qh0 f = .tu [Ss (jy f.1 p::r.map fun s=>[32]++vh s),.v .nilIface]:=by
    unfold qh0 zm;rw [if_pos hc,hc,hp];rfl
   rw [sm];have e7:∀ s,(vh s).length≤s.length+1:=qvm;refine qau r (fun pre s=>StE [(6,.sl 1 (Sv (jy f.1 p)::pre.map (fun s=>Sv ([32]++vh s))) (some (st.length+1))),(35,.sl 1 (r.map fun x=>Sv x) none),(36,Iv r.length),(37,Iv pre.length)] st [.cells 0 98 [Sv f.1,Sv f.2],.tip (pre.length+1) 1 9] s) (qb8 ⟨rfl,rfl,congrArg (fun n:Nat=>Iv (n:Int)) (List.length_map ..),rfl,trivial⟩ (xp st _ 1 _)) ?_ ?_
   ·rintro _ ⟨t,ext,rfl⟩
    repeat' (first|apply qm|apply qg|apply qh|apply ql|apply qj|(apply qu;(iterate 3 exact rfl))|(apply qe;exact rfl;apply wv;exact cAo)|apply ji|apply q6)
    refine qo rfl (q30 rfl rfl rfl (qls _ _ _) (qa6 _)) ⟨?_,yb _ _ _ _⟩;simp only [Ss,List.map_cons,List.map_map];rfl
   ·rintro pre a rest _ hr ⟨t,ext,rfl⟩
    have b9:r.length=pre.length+(rest.length+1):=by rw [hr];simp
    have c8:(r.map fun x=>Sv x)[pre.length]? = some (Sv a):=by rw [hr];simp
    have ha:a.length≤f.2.length:=cx a (by rw [hr];simp);have hsa:=e7 a;repeat' (first|apply qm|apply qt|apply qg|apply qh|apply ql|apply qj|(apply qu;(iterate 3 exact rfl))|(apply qe;exact rfl;apply vk;exact cAo)|(apply kp;exact rfl;exact rfl;exact cOs)|(apply zn;exact rfl;exact rfl;exact zg (by omega) (by omega))|(apply jh;(iterate 3 exact rfl))|(apply w9;(iterate 9 exact rfl))|apply qw|(apply qp;exact Tryz.call144;exact q9q _ _ (by omega))|(apply j6 (n:=pre.length);(iterate 5 exact rfl);exact c8)|(apply qel (n:=pre.length+1) (m:=1) (sz:=1) (bytes:=16);(iterate 4 exact rfl);simp;exact rfl;exact rfl;exact⟨⟨_,_,rfl,rfl,rfl,rfl,rfl⟩⟩;exact rfl;exact rfl;(unfold maxLen;omega);omega;exact rfl))
    refine y3 ⟨?_,rfl,rfl,?_,trivial⟩ ?_
    ·exact zcs _ (fun s=>Sv ([32]++vh s)) pre a _ rfl
    ·exact qfb pre a
    ·rw [qbz pre a];rfl
 ·skip
  repeat' (first|apply qm|apply qg|apply qh|apply ql|apply qj|(apply qe;exact rfl;apply cd_t;exact cRa)|(apply yv;exact rfl;exact rfl)|(apply qa8;(iterate 4 exact rfl))|(apply jc;(iterate 5 exact rfl))|apply q6|(apply qp;exact Tryz.call142;exact qhv _ _ hl hc))
  refine qo rfl (wp (r':=.tu [Ss [],.ifc 50 (Iv (kg f))]) (yx rfl) (qdz (qe2 _) (qa6 _))) ⟨?_,_,rfl⟩;unfold qh0;rw [if_neg hc,qka hc]
theorem qfl {rd:Option Nat} {N:Nat} {ops:Array Oper} {K:AS→Prop} {s:AS} {rest:List Oper} {d:Option Tmp} {T:TypeId} {p:String} {af:Array Edge} {st loc:List AObj} (e7:s.st=st++loc)
  (h:AOps E rd N ops rest K (AS.put ⟨s.t,st++(loc++[bldO 0 (.v (.pointer none)) [] (st.length+(loc.length+1)),.tip 0 1 5]),s.df⟩ d (.bx (st.length+loc.length) 0 0))):AOps E rd N ops (⟨d,.alloc 130,T,p,af,none⟩::rest) K s:=by
 refine jp e7 rfl ?_;have e:∀ (t:Nat→AV) (st':List AObj) (df:List Nat) (x:AV),(AS.put ⟨t,st',df⟩ d x).st=st':=fun t st' df x=>by cases d <;> rfl
 have e2:∀ (t:Nat→AV) (st' st2:List AObj) (df:List Nat) (x:AV),(⟨(AS.put ⟨t,st',df⟩ d x).t,st2,(AS.put ⟨t,st',df⟩ d x).df⟩:AS)=AS.put ⟨t,st2,df⟩ d x:=fun t st' st2 df x=>by cases d <;> rfl
 refine qxf (o:=st.length+loc.length) (j:=1) (sz:=1) (T':=5) (T1:=130) (ver:=0) (cs:=[.v (.pointer none),zx]) ?_ rfl ?_
 ·rw [e,← List.append_assoc,List.getElem?_append_right (by simp)]
  simp;rfl
 ·rw [e,e2]
  have hx:(st++(loc++[AObj.cells 0 130 [.v (.pointer none),zx]])).set (st.length+loc.length) (.cells 0 130 ([AV.v (.pointer none),zx].set 1 (.sl 1 [] (some (st++(loc++[AObj.cells 0 130 [.v (.pointer none),zx]])).length))))++[AObj.tip 0 1 5]
    = st++(loc++[bldO 0 (.v (.pointer none)) [] (st.length+(loc.length+1)),.tip 0 1 5]):=by
   rw [xp,List.append_assoc,List.set_append_right _ _ (Nat.le_refl _)];simp
  have h':=h;rw [← hx] at h';exact h'
theorem qgs (st loc ext new loc':List AObj) (k kt ver:Nat) (q:AV) (l m:List UInt8) (hk:loc[k]? = some (bldO ver q l (st.length+kt))) (fg:loc[kt]? = some (.tip l.length 1 5)) (hq:q = .v (.pointer none)∨q = .bx (st.length+k) ver 0)
  (b9:l.length+m.length≤140737488355328) (hl:loc'=(loc.set k (bldO ver (.bx (st.length+k) ver 0) (l++m) (st.length+kt))).set kt (.tip (l++m).length 1 5)) :
  qn E 65 [.bx (st.length+k) ver 0,Sv m] (((st++loc)++ext)++new) fun r st'=>r = .tu [Iv m.length,.v .nilIface]∧st'=((st++loc')++ext)++new:=by
 refine (qxm (st.length+k) ver (st.length+kt) q l m _ (y8 hk) (y8 fg) hq b9).mono fun r st' ⟨h1,h2⟩=>⟨h1,?_⟩;have bw:=lt_of_getElem? hk;have bq:=lt_of_getElem? fg;rw [h2,qdf _ bw,qdf _ (by simpa using bq),hl,List.length_append]
theorem qfm (st loc ext new loc':List AObj) (k kt ver:Nat) (q:AV) (l:List UInt8) (hk:loc[k]? = some (bldO ver q l (st.length+kt))) (fg:loc[kt]? = some (.tip l.length 1 5)) (hl:loc'=loc.set kt .dead) :
  qn E 62 [.bx (st.length+k) ver 0] (((st++loc)++ext)++new) fun r st'=>r=Sv l∧st'=((st++loc')++ext)++new:=by
 refine (qt8 (st.length+k) ver (st.length+kt) q l _ (y8 hk) (y8 fg)).mono fun r st' ⟨h1,h2⟩=>⟨h1,?_⟩;rw [h2,qdf _ (lt_of_getElem? fg),hl]
theorem qp3:∀ (r:List qc),(ze (r.map fun s=>[32]++vh s)).length≤3 * (r.flatMap fun s=>[10]++s).length
 | []=>by simp [ze]
 |a::r=>by
  have ih:=qp3 r;have:=qvm a;simp only [ze,List.map_cons,List.flatMap_cons,List.length_append,List.length_cons,List.length_nil] at ih ⊢;omega
theorem x6 (a b:List qc):ze (a++b)=ze a++ze b:=by simp [ze]
theorem qgc (s:qc):ze [s]=s++[10]:=by simp [ze]
theorem qjx:∀ (l:List qc),l.length≤(ze l).length
 | []=>by simp
 |a::r=>by
  have ih:=qjx r;simp only [ze,List.flatMap_cons,List.length_append,List.length_cons,List.length_nil] at ih ⊢;omega
theorem qux (a b:List Fld):z0 (a++b)=z0 a++z0 b:=by simp [z0]
theorem quy (f:Fld):z0 [f]=ze (zm f):=by simp [z0]
theorem qrn {f:Fld} (h:j9 f):(ze (zm f)).length≤5000:=by
 obtain⟨hk,hv⟩:=h;have h1:=qp3 (qy f.2).tail;have h2:=congrArg List.length (qg2 _ f.2 (Nat.le_refl _))
 have h3:(jy f.1 ((qy f.2).headD [])).length≤32+2+((qy f.2).headD []).length:=by
  have:=hk.2.1;unfold jy;split <;> simp <;> omega
 have e:zm f=[jy f.1 ((qy f.2).headD [])]++(qy f.2).tail.map fun s=>[32]++vh s:=rfl;rw [e,x6,qgc];simp only [List.length_append,List.length_cons,List.length_nil] at h2 ⊢;omega
theorem qd7:∀ (xs:List Fld),(∀ f∈xs,j9 f)→(z0 xs).length≤5000 * xs.length
 | [],_=>by simp [z0]
 |f::r,h=>by
  have ih:=qd7 r fun x hx=>h x (by simp [hx]);have h1:=qrn (h f (by simp));have e:z0 (f::r)=ze (zm f)++z0 r:=by simp [z0]
  rw [e,List.length_append,List.length_cons];omega
def errF:List Fld→Int
 | []=>0
 |f::r=>if kg f≠0 then kg f else errF r
theorem qmn:∀ (xs:List Fld),errF xs=0↔∀ f∈xs,j9 f
 | []=>by simp [errF]
 |f::r=>by
  have ih:=qmn r;unfold errF;by_cases h:kg f≠0
  ·rw [if_pos h]
   have hg:¬ j9 f:=fun hg=>h ((qba f).2 hg);simp [h,hg]
  ·have hg:=(qba f).1 (Classical.not_not.1 h)
   rw [if_neg h,ih];simp [hg]
theorem q2q:∀ {pre:List Fld} {f:Fld} {r:List Fld},(∀ x∈pre,j9 x)→kg f≠0→errF (pre++f::r)=kg f
 | [],f,r,_,h=>by simp [errF,h]
 |x::pre,f,r,hp,h=>by
  have:=(qba x).2 (hp x (by simp));simp only [List.cons_append,errF,this];rw [if_neg (by simp)];exact q2q (fun y hy=>hp y (by simp [hy])) h
theorem qyb (f:FldV) (st:List AObj) (hl:f.1.length<4294967281) (hv:f.2.length<1000000) (h:kg f=0):qn E 102 [fldA f] st fun r st'=>r = .tu [Ss (zm f),.v .nilIface]∧st'=st:=by
 have:=qoo f st hl hv;unfold qh0 at this;rw [if_pos h,h] at this;exact this
theorem qyc (f:FldV) (st:List AObj) (hl:f.1.length<4294967281) (hv:f.2.length<1000000) (h:kg f≠0):qn E 102 [fldA f] st fun r st'=>r = .tu [Ss [],.ifc 50 (Iv (kg f))]∧st'=st:=by
 have:=qoo f st hl hv;unfold qh0 at this;rw [if_neg h,qka h] at this;exact this
def qra (xs:List Fld):AV:=.tu [Sv (if errF xs=0 then z0 xs else []),errN (errF xs)]
theorem q4y (xs:List Fld):Pure (qra xs):=qfd fun x hx=>by
 simp only [List.mem_cons,List.not_mem_nil,or_false] at hx;rcases hx with rfl|rfl
 ·exact q8 _
 ·exact qiu _
structure q3s (xs:List FldV):Prop where
 len:xs.length<1000000
 val:∀ f∈xs,f.1.length<4294967281∧f.2.length<1000000
set_option maxHeartbeats 2000000 in
theorem zhe (xs:List FldV) (st:List AObj) (hx:q3s xs):qn E 64 [zl xs] st fun r st'=>r=qra xs∧st'=st:=by
 refine zb (q4y _) (qr Tryz.func64 rfl (Nat.le_of_ble_eq_true rfl) ?_);have hxl:=hx.len;repeat' (first|(apply qfl;exact rfl)|apply qm|apply qt|apply qg|apply qh|apply ql|apply qj|(apply z6;(iterate 4 exact rfl)))
 refine qau xs (fun pre s=>(∀ f∈pre,j9 f)∧∃ q,(q = .v (.pointer none)∨q = .bx (st.length+0) 0 0)∧StE [(4,.bx (st.length+0) 0 0),(11,zl xs),(12,Iv xs.length),(13,Iv pre.length)] st [bldO 0 q (z0 pre) (st.length+1),.tip (z0 pre).length 1 5] s) ⟨by simp,_,.inl rfl,qb8 ⟨rfl,rfl,congrArg (fun n:Nat=>Iv (n:Int)) (List.length_map ..),rfl,trivial⟩ rfl⟩ ?_ ?_
 ·rintro _ ⟨hg,q,hq,t,ext,rfl⟩
  repeat' (first|apply qm|apply qg|apply qh|apply qj|(apply qu;(iterate 3 exact rfl))|(apply qe;exact rfl;apply wv;exact cAo)|apply ji|apply q6|(refine qp Tryz.call62 (qfm st _ _ _ _ 0 1 0 _ _ rfl rfl rfl) ?_))
  refine qo rfl (yx rfl) ⟨?_,yb _ _ _ _⟩;unfold qra;have h0:=(qmn xs).2 hg;rw [if_pos h0,h0];rfl
 ·rintro pre f rest _ hr ⟨hg,q,hq,t,ext,rfl⟩
  have b9:xs.length=pre.length+(rest.length+1):=by rw [hr];simp
  have c8:(xs.map fldA)[pre.length]? = some (fldA f):=by rw [hr];simp
  obtain⟨ng,hf2⟩:=hx.val f (by rw [hr];simp);by_cases hc:kg f=0
  ·have hgf:=(qba f).1 hc
   have o8:=qd7 pre hg;have bm:=qrn hgf;repeat' (first|apply qm|apply qt|apply qg|apply qh|apply ql|apply qj|(apply zp;exact rfl;exact rfl)|(apply qu;(iterate 3 exact rfl))|(apply qe;exact rfl;apply vk;exact cAo)|(apply qe;exact rfl;apply cd_f;exact cRa)|(apply z6;(iterate 4 exact rfl))|(apply x3;exact rfl;exact rfl)|(apply jp;exact rfl;exact rfl)|(apply jh;(iterate 3 exact rfl))|(apply jc;(iterate 5 exact rfl))|(apply zz;(iterate 11 exact rfl))|apply qw|(apply qp;exact Tryz.call102;exact qyb _ _ ng hf2 hc)|(apply j6 (n:=pre.length);(iterate 5 exact rfl);exact c8))
   refine qau (zm f) (fun lp s=>∃ q,(q = .v (.pointer none)∨q = .bx (st.length+0) 0 0)∧StE [(4,.bx (st.length+0) 0 0),(11,zl xs),(12,Iv xs.length),(13,Iv pre.length),(25,Ss (zm f)),(26,Iv (zm f).length),(27,Iv lp.length)] st [bldO 0 q (z0 pre++ze lp) (st.length+1),.tip (z0 pre++ze lp).length 1 5] s) ⟨_,hq,y3 ⟨rfl,rfl,rfl,rfl,rfl,congrArg (fun n:Nat=>Iv (n:Int)) (List.length_map ..),rfl,trivial⟩ (by simp [ze])⟩ ?_ ?_
   ·rintro _ ⟨q,hq,t,ext,rfl⟩
    repeat' (first|apply qm|apply qg|apply qh|apply ql|(apply qu;(iterate 3 exact rfl))|(apply qe;exact rfl;apply wv;exact cAo)|(apply zn;exact rfl;exact rfl;exact zg (by omega) (by omega))|apply ji)
    refine⟨fun x hx=>?_,q,hq,y3 ⟨rfl,rfl,rfl,?_,trivial⟩ ?_⟩
    ·rcases List.mem_append.1 hx with hx|hx
     ·exact hg x hx
     ·simp at hx;subst hx;exact hgf
    ·rw [qbz pre f];rfl
    ·rw [qux,quy]
   ·rintro lp a lr _ tx ⟨q,hq,t,ext,rfl⟩
    have hlen2:(zm f).length=lp.length+(lr.length+1):=by rw [tx];simp
    have rt:((zm f).map fun x=>Sv x)[lp.length]? = some (Sv a):=by rw [tx];simp
    have px:(ze lp).length+(a.length+1)≤5000:=by
     rw [tx,x6] at bm;have:a::lr=[a]++lr:=rfl;rw [this,x6,qgc] at bm;simp only [List.length_append,List.length_cons,List.length_nil] at bm;omega
    have hct:=qjx lp;repeat' (first|apply qm|apply qt|apply qg|apply qh|apply ql|apply qj|(apply qu;(iterate 3 exact rfl))|(apply qe;exact rfl;apply vk;exact cAo)|(apply kp;exact rfl;exact rfl;exact cOs)|(apply jh;(iterate 3 exact rfl))|apply qw|(apply j6 (n:=lp.length);(iterate 5 exact rfl);exact rt))
    refine qp Tryz.call65 (qgs st _ _ _ _ 0 1 0 _ _ _ rfl rfl ?_ ?_ rfl) ?_;(exact hq);(simp only [List.length_append,List.length_cons,List.length_nil];omega);repeat' (first|apply qg|apply qh|apply ql|(apply zn;exact rfl;exact rfl;exact zg (by omega) (by omega)))
    refine⟨_,.inr rfl,y3 ⟨rfl,rfl,rfl,rfl,rfl,rfl,?_,trivial⟩ ?_⟩
    ·rw [qbz lp a];rfl
    ·have e:z0 pre++ze (lp++[a])=(z0 pre++ze lp)++(a++[10]):=by rw [x6,qgc,List.append_assoc]
     rw [e];rfl
  ·skip
   repeat' (first|apply qm|apply qt|apply qg|apply qh|apply ql|apply qj|(apply zp;exact rfl;exact rfl)|(apply qu;(iterate 3 exact rfl))|(apply qe;exact rfl;apply vk;exact cAo)|(apply qe;exact rfl;apply cd_t;exact cRa)|(apply yv;exact rfl;exact rfl)|(apply jp;exact rfl;exact rfl)|(apply jh;(iterate 3 exact rfl))|(apply jc;(iterate 5 exact rfl))|(apply zz;(iterate 11 exact rfl))|apply qw|apply q6|(apply qp;exact Tryz.call102;exact qyc _ _ ng hf2 hc)|(apply j6 (n:=pre.length);(iterate 5 exact rfl);exact c8))
   refine qo rfl (yx rfl) ⟨?_,yb _ _ _ _⟩;unfold qra;have h0:errF xs=kg f:=by rw [hr];exact q2q hg hc
   rw [h0,if_neg hc,qka hc];rfl
theorem qvh:∀ (n:Nat) (l:qc),l.length≤n→qy (l++[10])=qy l++[[]]
 |n,l,hn=>by
  by_cases h:10∈l
  ·have b8:l≠[]:=fun e=>by subst e;simp at h
   have d5:=xo (c:=10) b8
   cases n with
   |zero=>omega
   |succ n=>
    have ih:=qvh n (past 10 l) (by omega);have e:=y6 h;have e2:l++[10]=upto 10 l++10::(past 10 l++[10]):=(congrArg (· ++ [10]) e).trans (by simp);rw [xv (by simp [h]),xv h,e2,wg _ (qa3 10 l),w7 _ (qa3 10 l),ih];rfl
  ·rw [xv (by simp),xw h,wg [] h,w7 [] h]
   rw [xw (by simp)];rfl
theorem qda:∀ (n:Nat) (l:qc) (c:UInt8),l.length≤n→c≠10→qy (l++[c])=(qy l).set ((qy l).length - 1) ((qy l).getD ((qy l).length - 1) []++[c])
 |n,l,c,hn,hc=>by
  by_cases h:10∈l
  ·have b8:l≠[]:=fun e=>by subst e;simp at h
   have d5:=xo (c:=10) b8
   cases n with
   |zero=>omega
   |succ n=>
    have ih:=qda n (past 10 l) c (by omega) hc;have e:=y6 h;have e2:l++[c]=upto 10 l++10::(past 10 l++[c]):=(congrArg (· ++ [c]) e).trans (by simp);have hp:=qe0 (past 10 l);have s0:0<(qy (past 10 l)).length:=List.length_pos_iff.2 hp;rw [xv (by simp [h]),xv h,e2,wg _ (qa3 10 l),w7 _ (qa3 10 l),ih];have e3:(upto 10 l::qy (past 10 l)).length - 1=(qy (past 10 l)).length - 1+1:=by simp;omega
    rw [e3,List.set_cons_succ];simp
  ·have h2:10∉l++[c]:=by simp [h,Ne.symm hc]
   rw [xw h,xw h2];simp
theorem q1m (l:qc):(qy l).length≤l.length+1:=qbg _ l (Nat.le_refl _)
theorem q9p (xs:List qc):flat (xs.map fun x=>Sv x)=xs.map fun x=>Sv x:=by
 induction xs with
 |nil=>rfl
 |cons a xs ih=>rw [List.map_cons,qa0,ih];rfl
set_option maxHeartbeats 2000000 in
theorem q5o (l:qc) (st:List AObj) (hl:l.length<1000000):qn E 149 [Sv l] st fun r st'=>r=Ss (qy l)∧st'=st:=by
 refine zb (qn1 _) (qr Tryz.func149 rfl (Nat.le_of_ble_eq_true rfl) ?_)
 have h0:Vec 1 9 (st.length+0) ((qy []).map fun x=>Sv x) (.os (st.length+0) 0 0 1 1) (.cells 0 9 [Sv []]):=by
  rw [xw (by simp)];exact .os 0 1 [] rfl (by simp [AV.cells]) (Nat.le_refl _) (by decide)
 repeat' (first|(apply ya;(iterate 6 exact rfl))|apply qm|apply qt|apply qg|apply qh|apply qj)
 refine qau l (fun pre s=>∃ v ob,Vec 1 9 (st.length+0) ((qy pre).map fun x=>Sv x) v ob∧StE [(0,Sv l),(3,v),(4,Iv pre.length)] st [ob] s) ⟨_,_,h0,qb8 ⟨rfl,rfl,rfl,trivial⟩ rfl⟩ ?_ ?_
 ·rintro _ ⟨v,ob,hV,t,ext,rfl⟩
  repeat' (first|apply qm|apply qg|apply qh|apply ql|apply qj|(apply qu;(iterate 3 exact rfl))|(apply qe;exact rfl;apply wv;exact cAo)|(apply kz;(iterate 3 exact rfl))|apply ji|apply q6)
  exact zae (q0x 2 rfl rfl hV rfl) (qo rfl (zf rfl) ⟨rfl,yb _ _ _ _⟩)
 ·rintro pre c rest _ hr ⟨v,ob,hV,t,ext,rfl⟩
  have b9:l.length=pre.length+(rest.length+1):=by rw [hr];simp
  have c8:l.getD pre.length 0=c:=by rw [hr];simp
  have fm:(l.take (pre.length+1)).drop pre.length=[c]:=by rw [hr,show pre++c::rest=(pre++[c])++rest by simp,List.take_left' (by simp),List.drop_left' rfl]
  have hpc:=q1m pre;rcases qsn hV with⟨h0,_⟩ | ⟨ver,cap,pad,rfl,rfl,lq,hvw,hvle,hvm⟩
  ·exact absurd (List.map_eq_nil_iff.1 h0) (qe0 pre)
  simp only [List.length_map] at hvle;have bc:0<(qy pre).length:=List.length_pos_iff.2 (qe0 pre);have g9:((qy pre).map fun x=>Sv x).length=(qy pre).length:=by simp
  have s0:((qy pre).getD ((qy pre).length - 1) []).length≤pre.length:=by
   have d5:(qy pre).length - 1<(qy pre).length:=by omega
   have e:(qy pre).getD ((qy pre).length - 1) []=(qy pre)[(qy pre).length - 1]:=by simp [List.getD,d5]
   rw [e];exact qdm pre _ (List.getElem_mem _)
  have hdl:((l.take (pre.length+1)).drop pre.length).length=1:=by rw [fm];rfl
  have hld:(flat ((qy pre).map fun x=>Sv x)++pad)[0+((qy pre).length - 1) * 1]? = some (Sv ((qy pre).getD ((qy pre).length - 1) [])):=by
   rw [q9p,Nat.zero_add,Nat.mul_one,List.getElem?_append_left (by simp;omega),List.getElem?_map]
   have:(qy pre)[(qy pre).length - 1]? = some ((qy pre).getD ((qy pre).length - 1) []):=by
    have:(qy pre).length - 1<(qy pre).length:=by omega
    simp [List.getD,this]
   rw [this];rfl
  repeat' (first|(apply qt5;(iterate 5 exact rfl);kernel_rfl)|apply qm|apply qt|apply qg|apply qh|apply ql|(apply qu;(iterate 3 exact rfl))|(apply qe;exact rfl;apply vk;exact cAo)|(apply qe;exact rfl;apply cd_d <;> intro h)|(apply kz;(iterate 3 exact rfl))|(apply yw;(iterate 3 exact rfl);exact cAs)|(apply w9;(iterate 9 exact rfl))|apply qfx|(apply q2c;(iterate 4 exact rfl))|(apply q6l;exact rfl;exact rfl;exact zg (by omega) (by omega))|(apply q2e;(iterate 4 exact rfl);exact cAs;exact cAs)|(apply qih;exact rfl;exact rfl;exact cOs)|apply qd2|(apply qxh;exact rfl;exact rfl;exact zg (by omega) (by omega))|apply qw|(apply qij (n:=(qy pre).length - 1);(iterate 4 exact rfl);(simp;omega);(simp;omega))|(apply qoc;(iterate 4 exact rfl);exact hld))
  ·refine qvy (xs:=(qy pre).map fun x=>Sv x) (ys:=[Sv []]) (sz:=1) (bytes:=16) rfl rfl rfl hV rfl rfl rfl ⟨⟨_,_,rfl,rfl,rfl,rfl,rfl⟩⟩ rfl ?_ ?_ ?_
   ·simp [maxLen];omega
   ·simp;omega
   intro a' ob' hV';repeat' (first|apply qg|apply qh|apply ql|apply qj|(apply zn;exact rfl;exact rfl;exact zg (by omega) (by omega)))
   have hc:c=10:=by rw [c8] at h;exact (qe1 c).1 h
   refine⟨a',ob',?_,y3 ⟨rfl,rfl,?_,trivial⟩ rfl⟩
   ·rw [hc,qvh _ pre (Nat.le_refl _),List.map_append]
    exact hV'
   ·rw [qbz pre c];rfl
  ·refine qqm (k:=0) (sz:=1) rfl rfl rfl rfl rfl rfl rfl rfl rfl (by show 0+((qy pre).length - 1) * 1+1≤_;rw [lq];omega) ?_
   repeat' (first|apply qg|apply qh|apply ql|apply qj|(apply zn;exact rfl;exact rfl;exact zg (by omega) (by omega)))
   have hc:c≠10:=fun e=>by rw [c8] at h;exact h ((qe1 c).2 e)
   refine⟨_,_,?_,y3 ⟨rfl,rfl,?_,trivial⟩ rfl⟩
   ·rw [qda _ pre c (Nat.le_refl _) hc,← fm]
    have:=zgn (o:=st.length+0) (T:=9) (ver:=ver) (sz:=1) lq hvw (by simpa using hvle) hvm (i:=(qy pre).length - 1) (x:=Sv ((qy pre).getD ((qy pre).length - 1) []++(l.take (pre.length+1)).drop pre.length)) rfl (by simp;omega);rw [← List.map_set] at this;exact this
   ·rw [qbz pre c];rfl
end Go.Proofs.YtapblfabkbdgcaaGreatDoor
