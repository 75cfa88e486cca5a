/- Contracts and plain facts that the closing text leans on (part 3). No condition of their own beyond those that each states. -/
import Derived.Test.YtmoklbacdkmkaaaGreatDoorK2
import Derived.Lib.SplitLaws
import Derived.Shelf.Strings.SplitShaped
import Derived.Deep.Slices
import Derived.Deep.Fields
import Derived.WideKeyArgs
import Derived.Lib.ItoaLen
set_option maxRecDepth 100000
set_option linter.unusedVariables false
set_option linter.unusedSimpArgs false
namespace Go.Pl
open Go
def sp:Bool→Bytes→Bool
 | _,[]=>true
 |f,c::l=>(!f ||decide (c=32)) && sp (decide (c=10)) l
theorem qk7:∀ l,sp false l=sp true (past 10 l)
 | []=>rfl
 |c::l=>by
  by_cases h:c=10
  ·subst h;simp [sp,past,upto]
  ·have e:past 10 (c::l)=past 10 l:=by simp [past,upto,h]
   rw [e,← qk7 l]
   simp [sp,h]
theorem qu2 {l:Bytes} (h:l≠[]):sp true l=(decide ([32] <+: upto 10 l) && sp true (past 10 l)):=by
 cases l with
 |nil=>exact absurd rfl h
 |cons c r=>
  by_cases hc:c=10
  ·subst hc;simp [sp,upto]
  ·have e:past 10 (c::r)=past 10 r:=by simp [past,upto,hc]
   have e2:upto 10 (c::r)=c::upto 10 r:=by simp [upto,hc]
   rw [e,e2,← qk7]
   simp [sp,hc,eq_comm]
theorem qkk:∀ (n:Nat) (l:Bytes),l.length≤n→((∀ x∈zr l,[32] <+: x.1)↔sp true l=true)
 | 0,l,h=>by
  have:l=[]:=List.length_eq_zero_iff.1 (by omega)
  subst this
  simp [wg,sp]
 |n+1,l,h=>by
  by_cases hl:l=[]
  ·subst hl;simp [wg,sp]
  ·rw [we hl,qu2 hl,Bool.and_eq_true,← qkk n (past 10 l) (by have:=xa (c:=10) hl;omega)]
   simp only [List.mem_cons,forall_eq_or_imp,decide_eq_true_eq]
theorem qiq (l:Bytes):(kj [32] l).2=sp true l:=by
 unfold kj
 by_cases h:sp true l=true
 ·rw [if_pos ((qkk _ l (Nat.le_refl _)).2 h),h]
 ·rw [if_neg (fun h'=>h ((qkk _ l (Nat.le_refl _)).1 h'))]
  simp only [Bool.not_eq_true] at h
  rw [h]
def qir (f:Bool) (l:Bytes):Bool:=match l.getLast? with|none=>f|some c=>decide (c=10)
theorem q06 (f:Bool) (c:UInt8) (l:Bytes):qir f (c::l)=qir (decide (c=10)) l:=by
 cases l with
 |nil=>simp [qir]
 |cons b l=>
  unfold qir
  rw [List.getLast?_cons_cons]
  cases hb:(b::l).getLast? with
  |none=>simp at hb
  |some x=>rfl
theorem quu:∀ (f:Bool) (l m:Bytes),sp f (l++m)=(sp f l && sp (qir f l) m)
 |f,[],m=>by simp [sp,qir]
 |f,c::l,m=>by
  simp only [List.cons_append,sp]
  rw [quu _ l m,q06,Bool.and_assoc]
theorem qsh (l:Bytes):xh l↔2≤l.length∧l.length≤50000∧l.getLast? = some 10∧sp true l=true:=by
 unfold xh
 rw [qiq]
theorem qd2:∀ (n u:Nat),u≤n→∀ c∈Lib.decDigits u,48≤c.toNat∧c.toNat≤57
 |n,u,hn,c,hc=>by
  by_cases h:u<10
  ·rw [Lib.decDigits_one h] at hc
   simp only [List.mem_singleton] at hc
   subst hc
   rw [UInt8.toNat_ofNat']
   omega
  ·rw [qcf h,List.mem_append] at hc
   cases n with
   |zero=>omega
   |succ n=>
    rcases hc with hc|hc
    ·exact qd2 n (u / 10) (by omega) c hc
    ·exact qd2 n (u % 10) (by omega) c hc
theorem qj7 (n:Nat):Lib.itoa (n:Int)=Lib.decDigits n:=by
 unfold Lib.itoa
 rw [if_neg (by omega)]
 simp
theorem q5r (n:Nat):∀ c∈Lib.itoa (n:Int),48≤c.toNat∧c.toNat≤57:=by
 rw [qj7]
 exact qd2 n n (Nat.le_refl _)
theorem qvd (u:Nat):Lib.decDigits u≠[]:=by
 intro h
 have:=congrArg List.length h
 rw [Lib.decDigits_length] at this
 have:=Lib.nDigits_pos u
 simp at *
 omega
theorem qsi:∀ (a:Nat) (l m:Bytes) (b:Nat),Lib.parseUint10 a l = .ok b→Lib.parseUint10 a (l++m)=Lib.parseUint10 b m
 |a,[],m,b,h=>by
  simp only [Lib.parseUint10,Lib.NumEnd.ok.injEq] at h
  subst h;rfl
 |a,c::l,m,b,h=>by
  simp only [List.cons_append,Lib.parseUint10] at h ⊢
  split at h
  ·rename_i hd
   rw [if_pos hd]
   split at h
   ·cases h
   ·rename_i h1
    rw [if_neg h1]
    split at h
    ·cases h
    ·rename_i h2
     rw [if_neg h2]
     exact qsi _ l m b h
  ·cases h
theorem qrr:∀ (n u:Nat),u≤n→u<1000000000000000000→Lib.parseUint10 0 (Lib.decDigits u) = .ok u
 |n,u,hn,hu=>by
  have key:∀ (a d:Nat),a<100000000000000000→d<10→Lib.parseUint10 a (Lib.decDigits d) = .ok (a * 10+d):=by
   intro a d ha hd
   have e:(UInt8.ofNat (48+d)).toNat=48+d:=by rw [UInt8.toNat_ofNat'];omega
   rw [Lib.decDigits_one hd]
   simp only [Lib.parseUint10,e]
   rw [if_pos (by omega),if_neg (by omega),if_neg (by omega)]
   congr 1
   omega
  by_cases h:u<10
  ·have:=key 0 u (by omega) h
   simpa using this
  ·cases n with
   |zero=>omega
   |succ n=>
    rw [qcf h,qsi 0 _ _ (u / 10) (qrr n (u / 10) (by omega) (by omega)),key _ _ (by omega) (by omega)]
    congr 1
    omega
theorem q2m {n:Nat} (h:n<1000000000000000000):Lib.atoiAll (Lib.itoa (n:Int)) = .ok (n:Int):=by
 have hp:=qrr n n (Nat.le_refl _) h
 have hd:=qd2 n n (Nat.le_refl _)
 rw [qj7]
 cases hl:Lib.decDigits n with
 |nil=>exact absurd hl (qvd n)
 |cons c r=>
  rw [hl] at hp hd
  have hc:=hd c (by simp)
  simp only [Lib.atoiAll]
  have h1:¬ (c.toNat=43∨c.toNat=45):=by omega
  rw [if_neg h1]
  have hm:Lib.parseMag (c::r) = .ok n:=by unfold Lib.parseMag;rw [if_neg (by simp)];exact hp
  rw [hm]
  have h2:¬ c.toNat=45:=by omega
  simp only [h2,not_false_iff,true_and,false_and,if_false]
  rw [if_neg (by omega)]
theorem ql9 {n:Nat} (h1:1≤n) (h2:n≤50000):vd (Lib.itoa (n:Int))=n:=by
 have:=qow (q2m (n:=n) (by omega))
 rw [if_pos ⟨rfl,by omega,by omega⟩] at this
 omega
theorem qfy {l:Bytes} {n:Nat} (h:vd l=n) (hn:1≤n):l=Lib.itoa (n:Int):=by
 unfold vd at h
 split at h
 ·split at h
  ·rename_i v _ hv
   have:v=(n:Int):=by omega
   rw [← this,hv.1]
  ·omega
 ·omega
end Go.Pl
namespace Go.Proofs.YtmoklbacdkmkaaaGreatDoor
open Go Go.Pl
def zy (n:Nat) (fig:Bytes):Bytes:=zw++(Lib.itoa n++32::fig)
theorem q41 (n:Nat) (fig:Bytes):qiz n fig=zy n fig++[10]:=by simp [qiz,zy,zw]
theorem qg2 (n:Nat) {c:UInt8} (h:¬ (48≤c.toNat∧c.toNat≤57)):c∉Lib.itoa (n:Int):=fun hc=>h (q5r n c hc)
theorem qlz {f:Bytes} (h:xy f) {c:UInt8} (hc:c∉hexL):c∉f:=fun h'=>hc (h c h')
theorem qax (n:Nat) {fig:Bytes} (h:xy fig):10∉zy n fig:=by
 unfold zy
 simp only [List.mem_append,List.mem_cons,not_or]
 exact⟨by decide,qg2 n (by decide),by decide,qlz h (by decide)⟩
theorem qkv (l:Bytes):Lib.trimPrefix (zw++l) zw=l:=by
 rw [qca (List.prefix_append _ _),List.drop_left]
theorem qwe {n:Nat} {fig:Bytes} (h2:2≤n) (hn:n≤50000) (hf:fig.length=8) (hx:xy fig):zz (zy n fig)=(n,fig,true):=by
 unfold zz zy
 have h32:32∉Lib.itoa (n:Int):=qg2 n (by decide)
 rw [qkv,w9 fig h32,yr fig h32,ql9 (by omega) hn]
 rw [decide_eq_true ⟨List.prefix_append _ _,by simp,h2,hf,hx⟩]
theorem qql {n:Nat} {fig:Bytes} (r:Bytes) (h2:2≤n) (hn:n≤50000) (hf:fig.length=8) (hx:xy fig) :
  q9 (zy n fig++10::r)=if r.length<n then (qdf r ((n:Int) - r.length),[],0)
   else if xh (r.take n) then qad (r.drop n) (r.take n) fig (qfw n) else (3,[],0):=by
 have hm:10∈zy n fig++10::r:=by simp
 have h10:=qax n hx
 unfold q9
 rw [if_pos hm,w9 r h10,yr r h10,qwe h2 hn hf hx]
 simp only [if_true]
structure qzp (n:Nat) (fig body:Bytes):Prop where
 two:2≤n
 most:n≤50000
 len:body.length=n
 good:xh body
 figs:fig.length=8
 hex:xy fig
def recL (n:Nat) (fig body:Bytes):Bytes:=zy n fig++10::(body++yx n)
theorem qeu (l:Bytes):recF l=recL l.length (sumF l) l:=by
 unfold recF recL
 rw [q41]
 simp
theorem qr8 {l a b:Bytes} (h:l <+: a++b):l <+: a∨∃ r,l=a++r∧r <+: b:=by
 rcases Nat.le_total l.length a.length with hl|hl
 ·exact .inl (List.prefix_of_prefix_length_le h (List.prefix_append _ _) hl)
 ·obtain⟨r,hr⟩:=List.prefix_of_prefix_length_le (List.prefix_append a b) h hl
  exact .inr ⟨r,hr.symm,by rw [← hr] at h;exact (List.prefix_append_right_inj a).1 h⟩
theorem qq6 {a b:Bytes} {c:UInt8} (h:a <+: b) (hc:c∉b):c∉a:=fun h'=>hc (h.subset h')
theorem q0x (f:Bytes) (hl:f.length≤8) (hx:xy f):∃ g:Bytes,g.length=8∧xy g∧f <+: g:=
 ⟨f++List.replicate (8 - f.length) 48,by simp;omega,fun c hc=>by
  rw [List.mem_append,List.mem_replicate] at hc
  rcases hc with hc | ⟨_,rfl⟩
  ·exact hx c hc
  ·decide,List.prefix_append _ _⟩
theorem qrd:∀ (k:Nat),sp false (List.replicate k 97++[10])=true
 | 0=>by simp [sp]
 |k+1=>by rw [List.replicate_succ,List.cons_append];simp only [sp];exact by simpa using qrd k
theorem qvo {n:Nat} {r:Bytes} (hn:n≤50000) (hlt:r.length<n) (h2:2≤n) (hp:qdf r ((n:Int) - r.length)=2):∃ body:Bytes,body.length=n∧xh body∧r <+: body:=by
 unfold qdf at hp
 split at hp
 ·rename_i h
  obtain⟨hs,hfr⟩:=h
  rw [qiq] at hs
  by_cases hf:r=[]∨r.getLast? = some 10
  ·have hk:r.length+2≤n:=by
    rcases Nat.lt_or_ge (r.length+1) n with h|h
    ·omega
    ·exact absurd ⟨hf,by omega⟩ hfr
   refine⟨r++(32::(List.replicate (n - r.length - 2) 97++[10])),by simp;omega,?_,List.prefix_append _ _⟩
   rw [qsh]
   refine⟨by simp;omega,by simp;omega,by simp [List.getLast?_append,List.getLast?_cons],?_⟩
   rw [quu,hs]
   simp only [sp,Bool.true_and]
   have:=qrd (n - r.length - 2)
   simpa using this
  ·refine⟨r++(List.replicate (n - r.length - 1) 97++[10]),by simp;omega,?_,List.prefix_append _ _⟩
   rw [qsh]
   refine⟨by simp;omega,by simp;omega,by simp [List.getLast?_append],?_⟩
   rw [quu,hs]
   have e:qir true r=false:=by
    unfold qir
    cases hq:r.getLast? with
    |none=>exact absurd (.inl (List.getLast?_eq_none_iff.1 hq)) hf
    |some c=>
     refine decide_eq_false fun h=>hf (.inr ?_)
     rw [hq,h]
   rw [e,qrd]
   rfl
 ·simp at hp
theorem qf7 {n:Nat} (h2:2≤n) (hn:n≤50000):∃ body:Bytes,body.length=n∧xh body:=by
 obtain⟨b,h1,h3,_⟩:=qvo (n:=n) (r:=[]) hn (by simp;omega) h2 (by
  unfold qdf
  rw [qiq]
  rw [if_pos ⟨rfl,by rintro⟨_,h⟩;simp at h;omega⟩])
 exact⟨b,h1,h3⟩
theorem qgp {a b c:Bytes} (h:a <+: b):a <+: b++c:=h.trans (List.prefix_append _ _)
theorem qgc {n:Nat} {fig body l:Bytes} (h:l <+: zy n fig):l <+: recL n fig body∧l.length<(recL n fig body).length:=by
 refine⟨qgp h,?_⟩
 have:=h.length_le
 unfold recL
 simp
 omega
theorem q77 {l:Bytes} (h:(q9 l).1=2):∃ n fig body,qzp n fig body∧l <+: recL n fig body∧l.length<(recL n fig body).length:=by
 unfold q9 at h
 split at h
 ·rename_i h10
  split at h
  ·rename_i ho
   generalize hr:past 10 l=r at *
   have hl:=y9 h10
   rw [hr] at hl
   generalize hu:upto 10 l=u at *
   -- the first line
   have hop:u=zy (zz u).1 (zz u).2.1∧2≤(zz u).1∧(zz u).1≤50000∧(zz u).2.1.length=8∧xy (zz u).2.1:=by
    simp only [zz,decide_eq_true_eq] at ho ⊢
    obtain⟨o1,o2,o3,o4,o5⟩:=ho
    refine⟨?_,o3,qb0 _,o4,o5⟩
    obtain⟨t,rfl⟩:=o1
    rw [qkv] at *
    have:=qfy rfl (Nat.le_trans (by decide) o3)
    unfold zy
    rw [← this,← y9 o2]
   generalize (zz u).1=n at *
   generalize (zz u).2.1=fig at *
   obtain⟨rfl,h2,hn,hf,hx⟩:=hop
   split at h
   ·rename_i hlt
    obtain⟨body,b1,b2,b3⟩:=qvo hn hlt h2 h
    refine⟨n,fig,body,⟨h2,hn,b1,b2,hf,hx⟩,?_,?_⟩
    ·rw [hl]
     unfold recL
     rw [List.prefix_append_right_inj,List.cons_prefix_cons]
     exact⟨rfl,qgp b3⟩
    ·rw [hl]
     unfold recL
     have:=b3.length_le
     have:=qcq n
     simp
     omega
   ·rename_i hge
    split at h
    ·rename_i hg
     have hlen:(r.take n).length=n:=by simp;omega
     refine⟨n,fig,r.take n,⟨h2,hn,hlen,hg,hf,hx⟩,?_⟩
     unfold qad at h
     rw [hlen] at h
     split at h
     ·rename_i hc
      rw [hl]
      unfold recL
      constructor
      ·rw [List.prefix_append_right_inj,List.cons_prefix_cons]
       refine⟨rfl,?_⟩
       conv=>lhs;rw [← List.take_append_drop n r]
       rw [List.prefix_append_right_inj]
       exact hc.2
      ·have:=hc.1
       simp at this ⊢
       omega
     ·split at h <;> simp at h
    ·simp at h
  ·simp at h
 ·rename_i h10
  split at h
  ·rename_i ho
   unfold qee at ho
   split at ho
   ·rename_i hb
    obtain⟨t,rfl⟩:=hb
    have ed:(zw++t).drop 7=t:=by rw [show (7:Nat)=zw.length by rfl,List.drop_left]
    rw [ed] at ho
    obtain⟨o1,o2,o3,o4⟩:=of_decide_eq_true ho
    by_cases h32:32∈t
    ·have hn2:2≤vd (upto 32 t):=by
      rcases Nat.lt_or_ge (vd (upto 32 t)) 2 with h|h
      ·exact absurd ⟨h32,h⟩ o1
      ·exact h
     obtain⟨fig,f1,f2,f3⟩:=q0x _ o3 o4
     obtain⟨body,b1,b2⟩:=qf7 hn2 (qb0 _)
     refine⟨_,fig,body,⟨hn2,qb0 _,b1,b2,f1,f2⟩,qgc ?_⟩
     unfold zy
     rw [List.prefix_append_right_inj]
     conv=>lhs;rw [y9 h32]
     rw [qfy (l:=upto 32 t) rfl (by omega)]
     rw [ql9 (by omega) (qb0 _),List.prefix_append_right_inj,List.cons_prefix_cons]
     exact⟨rfl,f3⟩
    ·rw [qeg h32] at o2
     by_cases ht:t=[]
     ·subst ht
      obtain⟨body,b1,b2⟩:=qf7 (n:=2) (by omega) (by omega)
      refine⟨2,List.replicate 8 48,body,⟨by omega,by omega,b1,b2,by simp,by decide⟩,qgc ?_⟩
      unfold zy
      simp
     ·have hpos:1≤vd t:=by
       rcases Nat.eq_zero_or_pos (vd t) with h|h
       ·exact absurd ⟨ht,h⟩ o2
       ·exact h
      have hle:=qb0 t
      have ht2:=qfy (l:=t) rfl hpos
      generalize vd t=m at *
      subst ht2
      by_cases hm:m=1
      ·subst hm
       obtain⟨body,b1,b2⟩:=qf7 (n:=10) (by omega) (by omega)
       refine⟨10,List.replicate 8 48,body,⟨by omega,by omega,b1,b2,by simp,by decide⟩,qgc ?_⟩
       unfold zy
       rw [List.prefix_append_right_inj]
       have e1:Lib.itoa ((1:Nat):Int)=[49]:=by rw [qj7,Lib.decDigits_one (by decide)];rfl
       have e2:Lib.itoa ((10:Nat):Int)=[49,48]:=by rw [qj7,qcf (by decide),Lib.decDigits_one (by decide),Lib.decDigits_one (by decide)];rfl
       rw [e1,e2]
       exact⟨_,rfl⟩
      ·obtain⟨body,b1,b2⟩:=qf7 (n:=m) (by omega) (by omega)
       refine⟨m,List.replicate 8 48,body,⟨by omega,by omega,b1,b2,by simp,by decide⟩,qgc ?_⟩
       unfold zy
       rw [List.prefix_append_right_inj]
       exact List.prefix_append _ _
   ·rename_i hb
    have hp:=of_decide_eq_true ho
    obtain⟨body,b1,b2⟩:=qf7 (n:=2) (by omega) (by omega)
    refine⟨2,List.replicate 8 48,body,⟨by omega,by omega,b1,b2,by simp,by decide⟩,qgc ?_⟩
    unfold zy
    exact qgp hp
  ·simp at h
theorem qi9 (s:BitVec 32):xy (qak s 8):=by
 intro c hc
 simp only [qak,List.mem_map] at hc
 obtain⟨j,_,rfl⟩:=hc
 unfold figP
 have h:=Go.Av.and15_lt (s >>> (4 * (7 - j)))
 generalize ((s >>> (4 * (7 - j))) &&& BitVec.ofInt 32 15).toNat=k at h
 have key:∀ i:Fin 16,([48,49,50,51,52,53,54,55,56,57,97,98,99,100,101,102]:Bytes).getD i.val 0∈hexL:=by decide
 exact key ⟨k,h⟩
theorem qpj {b:Bytes} (h:xh b):qzp b.length (sumF b) b:=⟨h.1,h.2.1,rfl,h,qf1 b,qi9 _⟩
theorem qmw (b:Bytes) (h:xh b):((recF b).length:Int)=qfw b.length:=by
 obtain⟨g1,g2,_⟩:=h
 unfold recF qfw
 rw [if_neg (by omega)]
 simp only [List.length_append,qfa,qf1]
 simp
theorem qn4 {b:Bytes} (m:Bytes) (h:xh b):q9 (recF b++m)=(1,b,((recF b).length:Int)):=by
 have R:=qpj h
 rw [qmw b h,qeu]
 unfold recL
 rw [List.append_assoc,List.cons_append,List.append_assoc,qql _ R.two R.most R.figs R.hex,if_neg (by simp),List.take_left,List.drop_left,if_pos h]
 unfold qad
 rw [if_neg (by simp;intro h;omega),if_pos ⟨List.prefix_append _ _,rfl⟩]
theorem q9u {l:Bytes} (h1:10∈l→(zz (upto 10 l)).2.2=false) (h2:10∉l→qee l=false):q9 l=(3,[],0):=by
 unfold q9
 by_cases h:10∈l
 ·rw [if_pos h,if_neg (by rw [h1 h];simp)]
 ·rw [if_neg h,if_neg (by rw [h2 h];simp)]
theorem R2 {l:Bytes} (hl:l.length≤7) (h:¬ l <+: zw):q9 l=(3,[],0):=by
 refine q9u (fun h10=>decide_eq_false fun h'=>?_) (fun h10=>?_)
 ·have:=h'.1.length_le
  have:=qdi h10
  have e:zw.length=7:=rfl
  omega
 ·unfold qee
  by_cases hb:zw <+: l
  ·have:=hb.eq_of_length_le hl
   exact absurd (this▸List.prefix_refl _) h
  ·rw [if_neg hb];exact decide_eq_false h
theorem q8k {p:UInt8→Bool} (s:Bytes):s.take (s.takeWhile p).length=s.takeWhile p:=by
 induction s with
 |nil=>rfl
 |cons b s ih=>
  by_cases h:p b=true
  ·rw [List.takeWhile_cons_of_pos h];simp [ih]
  ·rw [List.takeWhile_cons_of_neg h];rfl
theorem zac {p:UInt8→Bool} {l m:Bytes} (hm:m <+: l) (h:∀ c∈m,p c=true):m.length≤(l.takeWhile p).length:=by
 obtain⟨r,rfl⟩:=hm
 rw [List.takeWhile_append_of_pos h]
 simp
end Go.Proofs.YtmoklbacdkmkaaaGreatDoor
namespace Go.Proofs.YtmoklbacdkmkaaaGreatDoor
open Go Go.Av Go.RowKit Go.Proofs Go.Pl
structure q63 (l S:Bytes) (K n:Nat):Prop where
 hl:l=zw++S
 hK:(S.takeWhile qqg).length=K
 hD:S.take K=Lib.itoa (n:Int)
 h1:1≤n
 h2:n≤50000
theorem q63.split {l S:Bytes} {K n:Nat} (A:q63 l S K n) (h:K<S.length):S=Lib.itoa (n:Int)++S.getD K 0::S.drop (K+1)∧qqg (S.getD K 0)=false:=by
 have e:S=S.take K++S.getD K 0::S.drop (K+1):=by
  conv=>lhs;rw [← List.take_append_drop K S]
  rw [List.drop_eq_getElem_cons h]
  congr 2
  simp [List.getD,h]
 refine⟨by rw [← A.hD];exact e,?_⟩
 cases hc:qqg (S.getD K 0) with
 |false=>rfl
 |true=>
  have hp:S.take (K+1) <+: S:=List.take_prefix _ _
  have:=zac (p:=qqg) hp (fun c hc'=>by
   rw [ql5 h,List.mem_append,List.mem_singleton] at hc'
   rcases hc' with hc'|rfl
   ·rw [← A.hK,q8k] at hc'
    have ha:=List.all_takeWhile (p:=qqg) (l:=S)
    rw [List.all_eq_true] at ha
    exact ha c hc'
   ·exact hc)
  rw [A.hK] at this
  simp at this
  omega
end Go.Proofs.YtmoklbacdkmkaaaGreatDoor
namespace Go.Proofs.YtmoklbacdkmkaaaGreatDoor
open Go Go.Pl
theorem qxh {z:BitVec 32} (h:qc4 z=0#32):z=0#32:=by
 rw [qgf] at h
 cases hm:z.msb with
 |true=>
  rw [hm] at h
  simp only [if_true] at h
  have:=congrArg (fun x:BitVec 32=>x.getLsbD 0) h
  simp at this
 |false=>
  rw [hm] at h
  simp only [Bool.false_eq_true,if_false,BitVec.xor_zero] at h
  apply BitVec.eq_of_getLsbD_eq
  intro i hi
  by_cases h31:i=31
  ·subst h31
   have:z.msb=z.getLsbD 31:=BitVec.msb_eq_getLsbD_last z
   rw [← this,hm]
   simp
  ·have:=congrArg (fun x:BitVec 32=>x.getLsbD (i+1)) h
   simp [show i+1<32 by omega] at this
   have e:z.getLsbD i=z[i]:=BitVec.getLsbD_eq_getElem hi
   rw [e]
   simpa using this
theorem qlm:∀ (n:Nat) {z:BitVec 32},v4 n z=0#32→z=0#32
 | 0,z,h=>h
 |n+1,z,h=>qlm n (qxh h)
theorem qvi {a b:BitVec 32} (h:a ^^^ b=0#32):a=b:=by
 have:=congrArg (fun x=>x ^^^ b) h
 simpa [BitVec.xor_assoc] using this
theorem qm3 {n:Nat} {a b:BitVec 32} (h:v4 n a=v4 n b):a=b:=by
 apply qvi
 apply qlm n
 rw [qjk,h,BitVec.xor_self]
theorem q4o {x y:BitVec 32} {c:UInt8} (h:crcP x c=crcP y c):x=y:=by
 rw [qi2,qi2] at h
 have:=qm3 h
 have e:=congrArg (fun z=>z ^^^ (BitVec.ofNat 32 c.toNat <<< 24)) this
 simpa [BitVec.xor_assoc] using e
theorem q21 {x:BitVec 32} {c d:UInt8} (h:crcP x c=crcP x d):c=d:=by
 rw [qi2,qi2] at h
 have:=qm3 h
 have e:=congrArg (fun z=>x ^^^ z) this
 simp only [← BitVec.xor_assoc,BitVec.xor_self,BitVec.zero_xor] at e
 have e2:=congrArg BitVec.toNat e
 simp only [BitVec.toNat_shiftLeft,BitVec.toNat_ofNat,Nat.shiftLeft_eq] at e2
 have h1:=UInt8.toNat_lt c
 have h2:=UInt8.toNat_lt d
 apply UInt8.toNat_inj.1
 omega
theorem qsj:∀ (r:Bytes) {x y:BitVec 32},r.foldl crcP x=r.foldl crcP y→x=y
 | [],_,_,h=>h
 |c::r,_,_,h=>q4o (qsj r h)
theorem q4l {s:BitVec 32} {a r:Bytes} {c d:UInt8} (h:addP s (a++c::r)=addP s (a++d::r)):c=d:=by
 unfold addP at h
 have h2:=congrArg (fun z=> ~~~ z) h
 simp only [BitVec.not_not,List.foldl_append,List.foldl_cons] at h2
 exact q21 (qsj r h2)
theorem q5l {i j:Nat} (hi:i<16) (hj:j<16) (h:hexL.getD i 0=hexL.getD j 0):i=j:=by
 have key:∀ a b:Fin 16,hexL.getD a.val 0=hexL.getD b.val 0→a=b:=by decide +kernel
 have:=key ⟨i,hi⟩ ⟨j,hj⟩ h
 simpa using this
theorem q4v {x y:BitVec 32} (h:qak x 8=qak y 8):x=y:=by
 have key:∀ m,m<8→x.toNat / 2 ^ (4 * m) % 16=y.toNat / 2 ^ (4 * m) % 16:=fun m hm=>by
  have e:=congrArg (fun l:Bytes=>l[7 - m]?) h
  simp [qak,show 7 - m<8 by omega] at e
  rw [qu8 x (by omega),qu8 y (by omega),show 4 * (7 - (7 - m))=4 * m by omega] at e
  have:=q5l (Nat.mod_lt _ (by decide)) (Nat.mod_lt _ (by decide)) e
  simpa [BitVec.toNat_ushiftRight,Nat.shiftRight_eq_div_pow] using this
 apply BitVec.eq_of_toNat_eq
 have hx:=x.isLt
 have hy:=y.isLt
 have k0:=key 0 (by decide)
 have k1:=key 1 (by decide)
 have k2:=key 2 (by decide)
 have k3:=key 3 (by decide)
 have k4:=key 4 (by decide)
 have k5:=key 5 (by decide)
 have k6:=key 6 (by decide)
 have k7:=key 7 (by decide)
 simp only [Nat.reduceMul,Nat.reducePow] at *
 omega
theorem qxv {a r:Bytes} {c d:UInt8} (h:xh (a++c::r)) (hne:c≠d):q9 (zy (a++c::r).length (sumF (a++c::r))++10::((a++d::r)++yx (a++c::r).length))=(3,[],0):=by
 have R:=qpj h
 have hl:(a++d::r).length=(a++c::r).length:=by simp
 rw [qql _ R.two R.most R.figs R.hex,if_neg (by simp),← hl,List.take_left,List.drop_left]
 by_cases hg:xh (a++d::r)
 ·rw [if_pos hg]
  unfold qad
  rw [if_neg (by intro h;omega),if_neg ?_]
  rintro⟨_,h2⟩
  exact hne (q4l (q4v h2))
 ·rw [if_neg hg]
end Go.Proofs.YtmoklbacdkmkaaaGreatDoor
namespace Go.Proofs.YtmoklbacdkmkaaaGreatDoor
open Go Go.Av Go.RowKit Go.Proofs Go.Pl
theorem q17 (l:List UInt8) (st:List AObj) (hl:l.length<4294967281) (hg:xh l):qn E 76 [Sv l] st fun r st'=>r = .tu [Sv (recF l),.v .nilIface]∧st'=st:=by
 have h:=q62 l st hl
 unfold qey at h
 rw [if_pos hg] at h
 exact h
theorem q0f {b:List UInt8} (h:xh b):(recF b).length≤b.length+61∧1≤(recF b).length:=by
 have h1:=qif b.length (by have:=h.2.1;omega)
 unfold recF
 simp only [List.length_append,qfa,qf1,qcq]
 omega
theorem q8s {n:Nat} {fig r:Bytes} {k:Nat} (hx:xy fig) (hk:k≤(zy n fig).length):(zy n fig++10::r).getD k 0=10↔k=(zy n fig).length:=by
 by_cases h:k=(zy n fig).length
 ·subst h
  simp [List.getD]
 ·have hlt:k<(zy n fig).length:=by omega
  have e:(zy n fig++10::r).getD k 0=(zy n fig)[k]:=by
   simp [List.getD,List.getElem?_append_left hlt,hlt]
  rw [e]
  refine⟨fun h'=>absurd (h'▸List.getElem_mem hlt) (qax n hx),fun h'=>absurd h' h⟩
theorem q9b {body:Bytes} {j:Nat} {b:UInt8} (hj:j<body.length) (hg:xh body) (hb:b≠0) :
  q9 ((recF body).set ((zy body.length (sumF body)).length+1+j) ((recF body).getD ((zy body.length (sumF body)).length+1+j) 0 ^^^ b))=(3,[],0):=by
 have hs:body=body.take j++body[j]::body.drop (j+1):=by
  conv=>lhs;rw [← List.take_append_drop j body]
  rw [List.drop_eq_getElem_cons hj]
 have hget:(recF body).getD ((zy body.length (sumF body)).length+1+j) 0=body[j]:=by
  rw [qeu]
  unfold recL
  rw [List.getD,List.getElem?_append_right (by omega),show (zy body.length (sumF body)).length+1+j - (zy body.length (sumF body)).length=j+1 by omega,List.getElem?_cons_succ,List.getElem?_append_left hj]
  simp [hj]
 have hset:(recF body).set ((zy body.length (sumF body)).length+1+j) (body[j] ^^^ b)=zy body.length (sumF body)++10::((body.take j++(body[j] ^^^ b)::body.drop (j+1))++yx body.length):=by
  rw [qeu]
  unfold recL
  rw [List.set_append_right _ _ (by omega),show (zy body.length (sumF body)).length+1+j - (zy body.length (sumF body)).length=j+1 by omega,List.set_cons_succ,List.set_append_left _ _ hj]
  congr 3
  rw [List.set_eq_take_append_cons_drop,if_pos hj]
 have hne:body[j]≠body[j] ^^^ b:=fun h=>by
  apply hb
  have:=congrArg (fun x=>body[j] ^^^ x) h
  simpa [← UInt8.xor_assoc] using this.symm
 rw [hget,hset]
 have:=qxv (a:=body.take j) (r:=body.drop (j+1)) (c:=body[j]) (d:=body[j] ^^^ b) (by rw [← hs];exact hg) hne
 rwa [← hs] at this
end Go.Proofs.YtmoklbacdkmkaaaGreatDoor
namespace Go.Av
open Go Go.RowKit
def StE (L:List (Nat×AV)) (st loc:List AObj) (s:AS):Prop:=∃ t ext,s=⟨puts t L,((st++loc)++ext)++[],[]⟩
theorem qdy {t:Nat→AV} {L:List (Nat×AV)} {st loc loc' ext new:List AObj} (h:HasL t L) (e:loc'=loc):StE L st loc ⟨t,((st++loc')++ext)++new,[]⟩:=
 ⟨t,ext++new,by rw [qhl h,e];simp⟩
theorem qfl {t:Nat→AV} {L:List (Nat×AV)} {st loc st':List AObj} (h:HasL t L) (e:st'=st++loc):StE L st loc ⟨t,st',[]⟩:=
 ⟨t,[],by rw [qhl h,e];simp⟩
theorem x8 (st loc ext new:List AObj):∃ x,((st++loc)++ext)++new=st++x:=⟨loc++ext++new,by simp⟩
theorem qck {st loc ext new:List AObj} {k:Nat} {x:AObj} (h:loc[k]? = some x):(((st++loc)++ext)++new)[st.length+k]? = some x:=by
 have hk:=lt_of_getElem? h
 rw [List.append_assoc,List.append_assoc,List.getElem?_append_right (Nat.le_add_right _ _),Nat.add_sub_cancel_left,List.getElem?_append_left hk]
 exact h
theorem qhj {st loc ext new:List AObj} {k:Nat} (x:AObj) (hk:k<loc.length):(((st++loc)++ext)++new).set (st.length+k) x=((st++loc.set k x)++ext)++new:=by
 rw [List.append_assoc,List.append_assoc,List.set_append_right _ _ (Nat.le_add_right _ _),Nat.add_sub_cancel_left,List.set_append_left _ _ hk]
 simp
theorem qmh {G:Gh} {sz:Nat} {xs:List AV} {tip:Option Nat} {v:Value} (h:Rel G (.sl sz xs tip) v):Rel G (.sl sz xs none) v:=by
 cases h with
 |sl0 _ _ base cap ht=>exact .sl0 sz none base cap (by simp)
 |sl _ _ _ b off cap pub hp hw hlen hr ht hcap=>exact .sl sz xs none b off cap pub hp hw hlen hr (fun t ht=>by simp at ht) hcap
theorem qbt {G:Gh} {sz:Nat} {v:Value} (h:Rel G zp v):Rel G (.sl sz [] none) v:=by
 cases h
 exact .sl0 sz none none 0 (by simp)
section
variable {E : Env} {rd : Option Nat} {N : Nat} {ops : Array Oper} {K : AS → Prop} {s : AS} {rest : List Oper} {d : Option Tmp} {T : TypeId} {p : String} {af : Array Edge}
theorem wn {fn:Func} {r r':AV} (h:ARes E fn s r) (hw:∀ (G:Gh) (v:Value),Rel G r v→Rel G r' v):ARes E fn s r':=
 ⟨fun B0 w0 G a w hL hI=>let ⟨v,h1,h2⟩:=h.run B0 w0 G a w hL hI;⟨v,h1,hw G v h2⟩⟩
theorem qiy {x y:Operand} {t u T':TypeId} {sz bytes k n m:Nat} {xs ys zs:List AV} {tip:Option Nat} {st loc ext new:List AObj} (hs:s.st=((st++loc)++ext)++new) (hx:qf N s x = .sl sz xs (some (st.length+k))) (hy:qf N s y = .sl sz ys tip) (ho:loc[k]? = some (.tip n sz T')) (hn:xs.length=n)
  (ht:E.P.underlying t=some (.slice T')) (hu:E.P.underlying u=some (.slice T')) (hT:x2 E.P T' sz bytes) (hone:kc (flat ys)=true) (hm:ys.length=m) (h63:n+m≤maxLen) (hb:(n+m) * bytes≤140737488355328) (hz:xs++ys=zs)
  (h:AOps E rd N ops rest K (AS.put ⟨s.t,((st++loc.set k (.tip (n+m) sz T'))++ext)++new,s.df⟩ d (.sl sz zs (some (st.length+k))))):AOps E rd N ops (⟨d,.call ⟨.builtin .append,#[x,y],#[t,u]⟩,T,p,af,none⟩::rest) K s:=by
 subst hz
 have hk:=lt_of_getElem? ho
 exact qmy hx hy (by rw [hs];exact qck ho) hn ht hu hT hone hm h63 hb (by rw [hs,qhj _ hk];exact h)
theorem xv {x:Operand} {t:TypeId} {sz:Nat} {agg:Bool} {st loc ext new:List AObj} {k ver off:Nat} {T':TypeId} {cs:List AV} {r:AV} (hs:s.st=((st++loc)++ext)++new) (hx:qf N s x = .bx (st.length+k) ver off) (ho:loc[k]? = some (.cells ver T' cs)) (ht:tyOf E.P t=some (sz,agg)) (hr:jd sz agg off cs=some r)
  (h:AOps E rd N ops rest K (s.put d r)):AOps E rd N ops (⟨d,.load t x,T,p,af,none⟩::rest) K s:=
 j9 hx (by rw [hs];exact qck ho) ht hr h
end
end Go.Av
namespace Go.Pl
open Go
def zq (l:Bytes):List Bytes:=
 if h:10∈l then upto 10 l::zq (past 10 l) else [l]
 termination_by l.length
 decreasing_by exact xa (fun e=>by rw [e] at h;simp at h)
theorem qbc {l:Bytes} (h:10∈l):zq l=upto 10 l::zq (past 10 l):=by rw [zq,dif_pos h]
theorem qbb {l:Bytes} (h:10∉l):zq l=[l]:=by rw [zq,dif_neg h]
theorem qzc:∀ (n:Nat) (l:Bytes),l.length≤n→Lib.splitK [10] 0 (Lib.count l [10]) l=zq l
 |n,l,hn=>by
  by_cases h:10∈l
  ·have hi:=qpz 10 l h
   have hne:l≠[]:=fun e=>by rw [e] at h;simp at h
   have hlt:=xa (c:=10) hne
   rw [qbc h,Lib.count_hit (i:=(upto 10 l).length) (by simp) hi,Nat.add_comm,Lib.splitK]
   rw [if_neg (by rw [hi];simp),hi]
   cases n with
   |zero=>exact absurd (List.length_eq_zero_iff.1 (by omega)) hne
   |succ n=>
    have:=qzc n (past 10 l) (by omega)
    simp only [Int.toNat_natCast,Nat.add_zero,List.length_cons,List.length_nil,Nat.zero_add,qil]
    rw [show List.drop ((upto 10 l).length+1) l=past 10 l from rfl,this]
  ·have hi:Lib.index l [10] = -1:=by
    have:=Lib.index_ge l [10]
    have h2:¬ 0≤Lib.index l [10]:=fun h'=>h ((qc0 l 10).1 h')
    omega
   rw [qbb h,Lib.count_miss hi]
   rfl
theorem qgq:∀ (n:Nat) (l:Bytes),l.length≤n→(zq l).length≤l.length+1
 |n,l,hn=>by
  by_cases h:10∈l
  ·have hne:l≠[]:=fun e=>by rw [e] at h;simp at h
   have hlt:=xa (c:=10) hne
   rw [qbc h]
   cases n with
   |zero=>exact absurd (List.length_eq_zero_iff.1 (by omega)) hne
   |succ n=>
    have:=qgq n (past 10 l) (by omega)
    simp only [List.length_cons]
    omega
  ·rw [qbb h];simp
theorem qgm:∀ (n:Nat) (l:Bytes),l.length≤n→∀ x∈zq l,x.length≤l.length∧10∉x
 |n,l,hn,x,hx=>by
  by_cases h:10∈l
  ·have hne:l≠[]:=fun e=>by rw [e] at h;simp at h
   have hlt:=xa (c:=10) hne
   rw [qbc h,List.mem_cons] at hx
   rcases hx with rfl|hx
   ·exact⟨kf 10 l,qde 10 l⟩
   ·cases n with
    |zero=>exact absurd (List.length_eq_zero_iff.1 (by omega)) hne
    |succ n=>
     have:=qgm n (past 10 l) (by omega) x hx
     exact⟨by omega,this.2⟩
  ·rw [qbb h,List.mem_singleton] at hx
   subst hx
   exact⟨Nat.le_refl _,h⟩
end Go.Pl
namespace Go.Proofs.YtmoklbacdkmkaaaGreatDoor
open Go Go.Av Go.RowKit Go.Proofs Go.Pl
theorem qld {f:FuncId} {st:List AObj} {args:List AV} {vals:Array Value} {xs:List Bytes} {T:TypeId} (ha:args=vals.toList.map .v) (hne:xs≠[])
  (h:∀ B0 w0 w,E.L B0 w0→Below B0 w0 w→Calls E.P f vals w fun e w'=>e = .returned (.slice (some ⟨w.heap.size,0,none⟩) xs.length xs.length)∧w'=w.alloc (.cells (xs.map fun l=>Value.string ⟨l.toArray⟩).toArray T)) :
  qn E f args st fun r st'=>r = .sl 1 (xs.map fun l=>Sv l) none∧st'=st:=by
 subst ha
 refine⟨fun B0 w0 G vs w hL hA hR=>?_⟩
 have hv:vs=vals:=by
  have hs:vs.size=vals.size:=by have:=hR.1;simpa using this.symm
  apply Array.ext hs
  intro i h1 h2
  have:=hR.2 i (.v vals[i]) vs[i] (by simp [h2]) (by simp [h1])
  generalize vs[i]=y at this
  cases this
  rfl
 subst hv
 refine (h B0 w0 w hL hA.below).mono ?_
 rintro e w' ⟨rfl,rfl⟩
 obtain⟨hle,hA'⟩:=hA.newPub T (xs.map fun l=>Value.string ⟨l.toArray⟩).toArray (0,0) (xs.map fun l=>Value.string ⟨l.toArray⟩) (fun i y hy=>by simpa using hy)
 refine⟨_,_,_,st,rfl,hle,hA',?_,rfl,rfl⟩
 have hfl:flat (xs.map fun l=>Sv l)=xs.map fun l=>Sv l:=by
  clear hne h hle hA'
  induction xs with
  |nil=>rfl
  |cons a xs ih=>rw [List.map_cons,qbq,ih];rfl
 have:=Rel.sl (G:=G.publish w.heap.size (xs.map fun l=>Value.string ⟨l.toArray⟩)) 1 (xs.map fun l=>Sv l) none w.heap.size 0 xs.length (xs.map fun l=>Value.string ⟨l.toArray⟩) (by simp [Gh.publish]) (fun x hx=>by
  simp only [List.mem_map] at hx
  obtain⟨l,_,rfl⟩:=hx
  rfl) (by rw [hfl];simp) (fun i x y h1 h2=>by
  rw [hfl,List.getElem?_map] at h1
  rw [Nat.zero_add,List.getElem?_map] at h2
  cases hx:xs[i]? with
  |none=>rw [hx] at h1;simp at h1
  |some l=>
   rw [hx] at h1 h2
   simp at h1 h2
   subst h1;subst h2
   exact .v _) (fun t ht=>by simp at ht) (by simp)
 simpa using this
theorem q23 (l:List UInt8) (st:List AObj) (hl:l.length<4294967281):qn E 154 [Sv l,Sv [10]] st fun r st'=>r = .sl 1 ((zq l).map fun x=>Sv x) none∧st'=st:=by
 have hd:=Lib.splitB_data ⟨#[10]⟩ 0 (Lib.countB ⟨l.toArray⟩ ⟨#[10]⟩) ⟨l.toArray⟩
 have hs:Lib.splitK [10] 0 (Lib.count l [10]) l=zq l:=qzc _ l (Nat.le_refl _)
 have hn:=Lib.splitB_all ⟨#[10]⟩ (by simp [ByteArray.size]) 0 _ ⟨l.toArray⟩ rfl
 have hd2:(Lib.splitB ⟨#[10]⟩ 0 (Lib.countB ⟨l.toArray⟩ ⟨#[10]⟩) ⟨l.toArray⟩).map (·.data.toList)=zq l:=hd.trans hs
 have hlen:(zq l).length=Lib.countB ⟨l.toArray⟩ ⟨#[10]⟩+1:=by rw [← hd2,List.length_map,hn]
 refine qld (T:=9) (vals:= #[.string ⟨l.toArray⟩,.string ⟨#[10]⟩]) rfl (fun e=>by rw [e] at hlen;simp at hlen) fun _ _ w hL hb=>(Tryz.strings_Split_shaped ⟨l.toArray⟩ ⟨#[10]⟩ w (hL w hb).shaped (by simpa [ByteArray.size] using hl) (by simp [ByteArray.size])).mono fun e w' ⟨h1,h2⟩=>?_
 refine⟨by rw [h1,hlen],?_⟩
 rw [h2,← hd2,List.map_map]
 rfl
end Go.Proofs.YtmoklbacdkmkaaaGreatDoor
namespace Go.Av
open Go Go.RowKit
section
variable {E : Env} {N : Nat} {ops : Array Oper} {K : AS → Prop} {s : AS} {rest : List Oper} {d : Option Tmp} {T : TypeId} {p : String} {af : Array Edge}
theorem qpf {x:Operand} {t:TypeId} {sz:Nat} {agg:Bool} {o ver off:Nat} {T':TypeId} {cs:List AV} {r:AV} (hx:qf N s x = .bx o ver off) (ho:s.st[o]? = some (.cells ver T' cs)) (ht:tyOf E.P t=some (sz,agg)) (hr:jd sz agg off cs=some r)
  (h:AQ E N ops rest K (s.put d r)):AQ E N ops (⟨d,.load t x,T,p,af,none⟩::rest) K s:=by
 refine qd6 rfl nofun fun B0 w0 G a w _ hI=>?_
 have he:=hI.eval_of hx
 generalize hv:a.eval x=v at he
 cases he with
 |bx _ _ _ b hn hv' hb=>
  obtain⟨_,h1,h2,h3,c,h4,h5,h6⟩:=hI.agree.ob o _ ho
  have hb:=hb h1
  subst hb
  have hlt:(G.ob o).blk<w.heap.size:=by
   rcases Nat.lt_or_ge (G.ob o).blk w.heap.size with h'|h'
   ·exact h'
   ·rw [Array.getElem?_eq_none h'] at h4;simp at h4
  -- the value is read out of the cells, whatever is drawn behind them
  have key:∀ w',Below w.heap.size w w'→∃ v,(loadVar t ⟨(G.ob o).blk,off,none⟩).run E.P w' = .ok v w'∧Rel G r v:=fun w' hw'=>by
   have h4':w'.heap[(G.ob o).blk]? = some (.cells c T' (0,0)):=by rw [hw'.block _ hlt];exact h4
   exact x4 (w:=w') (G:=G) (b:=(G.ob o).blk) (off:=off) (off':=off) ht (fun i x hx hi=>by
    obtain⟨y,hy⟩:=kq hx (Nat.le_of_eq h5)
    refine⟨y,?_,h6 i x y hx hy⟩
    simp [World.cell?,h4',show off+(i - off)=i by omega,hy]) hr
  have hsame:∀ w',Below w.heap.size w w'→∀ v,(loadVar t ⟨(G.ob o).blk,off,none⟩).run E.P w = .ok v w→(loadVar t ⟨(G.ob o).blk,off,none⟩).run E.P w' = .ok v w':=fun w' hw' v hr1=>by
   obtain⟨i1,i2⟩:=ke ht w
   obtain⟨j1,j2⟩:=ke ht w'
   have hc:∀ k,w'.cell? ⟨(G.ob o).blk,k,none⟩=w.cell? ⟨(G.ob o).blk,k,none⟩:=fun k=>by simp [World.cell?,hw'.block _ hlt]
   obtain⟨v',h1',_⟩:=key w' hw'
   rw [h1']
   congr 1
   cases agg with
   |false=>
    simp only [jd,cond_false] at hr
    obtain⟨y,hy⟩:=kq hr (Nat.le_of_eq h5)
    have e1:w.cell? ⟨(G.ob o).blk,off,none⟩=some y:=by simp [World.cell?,h4,hy]
    have e2:w'.cell? ⟨(G.ob o).blk,off,none⟩=some y:=by rw [hc,e1]
    simp [loadVar,i2,run_load,e1] at hr1
    simp [loadVar,j2,run_load,e2] at h1'
    rw [← h1',hr1]
   |true=>
    simp only [jd,cond_true] at hr
    cases hb2:Nat.ble (off+sz) cs.length with
    |false=>rw [hb2] at hr;simp at hr
    |true=>
     have hle:off+sz≤cs.length:=Nat.le_of_ble_eq_true hb2
     have e1:∀ j,j<sz→w.cell? ⟨(G.ob o).blk,off+j,none⟩=some (c.getD (off+j) undef):=fun j hj=>by
      have:off+j<c.size:=by omega
      simp [World.cell?,h4,this]
     have e2:∀ j,j<sz→w'.cell? ⟨(G.ob o).blk,off+j,none⟩=some (c.getD (off+j) undef):=fun j hj=>by rw [hc,e1 j hj]
     have l1:=run_loadCells (P:=E.P) (w:=w) ⟨(G.ob o).blk,off,none⟩ sz (fun j=>c.getD (off+j) undef) (fun j hj=>by rw [Addr.add_lit];exact e1 j hj)
     have l2:=run_loadCells (P:=E.P) (w:=w') ⟨(G.ob o).blk,off,none⟩ sz (fun j=>c.getD (off+j) undef) (fun j hj=>by rw [Addr.add_lit];exact e2 j hj)
     simp [loadVar,i1,i2,l1] at hr1
     simp [loadVar,j1,j2,l2] at h1'
     rw [← h1',hr1]
  obtain⟨v,hrun,hR⟩:=key w (Below.refl _ _)
  exact⟨v,r,fun w' hw'=>by simp only [execOp,hv,Instr.loadAt,Instr.sureAddr];simp [hsame w' hw' v hrun],hR,h⟩
end
end Go.Av
namespace Go.Av
open Go Go.RowKit
section
variable {E : Env} {rd : Option Nat} {N : Nat} {ops : Array Oper} {K : AS → Prop} {s : AS} {rest : List Oper} {d : Option Tmp} {T : TypeId} {p : String} {af : Array Edge}
theorem y7 {x:Operand} {t:TypeId} {sz:Nat} {agg:Bool} {st loc:List AObj} {k ver off:Nat} {T':TypeId} {cs:List AV} {r:AV} (hs:s.st=st++loc) (hx:qf N s x = .bx (st.length+k) ver off) (ho:loc[k]? = some (.cells ver T' cs)) (ht:tyOf E.P t=some (sz,agg)) (hr:jd sz agg off cs=some r)
  (h:AQ E N ops rest K (s.put d r)):AQ E N ops (⟨d,.load t x,T,p,af,none⟩::rest) K s:=
 qpf hx (by rw [hs];exact z8 ho) ht hr h
end
end Go.Av
namespace Go.Proofs.YtmoklbacdkmkaaaGreatDoor
open Go Go.Av Go.RowKit Go.Proofs Go.Pl
structure qf4 where
 kind:Int
 key:Bytes
 text:Bytes
 lo:Int
 hi:Int
abbrev FldV:=Bytes×Bytes
@[reducible] def fldA (f : FldV) : AV := .ag [Sv f.1, Sv f.2]
@[reducible] def kv (l : List FldV) : AV := .sl 2 (l.map fldA) none
def q65 (r:qf4):Prop:=1≤r.kind∧r.kind≤7∧(r.kind=6∨qdm r.key)
instance (r:qf4):Decidable (q65 r):=inferInstanceAs (Decidable (_∧_∧_))
def qze (l:Bytes):List Bytes:=if l=[] then [] else zq l
theorem q4i (xs:List Bytes):Pure (.sl 1 (xs.map fun x=>Sv x) none):=qdd fun x hx=>by
 simp only [List.mem_map] at hx
 obtain⟨l,_,rfl⟩:=hx
 intro y hy
 simp [AV.cells] at hy
 subst hy
 exact q6 _
def qml (r:qf4) (n:Int):Prop:=r.lo≤n∧n≤r.hi
instance (r:qf4) (n:Int):Decidable (qml r n):=inferInstanceAs (Decidable (_∧_))
def qy3 (r:qf4) (l:Bytes):Prop:=∃ n,numZ l=some n∧qml r n
instance (r:qf4) (l:Bytes):Decidable (qy3 r l):=
 match h:numZ l with
 |some n=>decidable_of_iff (qml r n) ⟨fun h'=>⟨n,h,h'⟩,fun ⟨m,h1,h2⟩=>by rw [h] at h1;cases h1;exact h2⟩
 |none=>.isFalse fun ⟨m,h1,_⟩=>by rw [h] at h1;cases h1
def q1w (r:qf4) (f:FldV):Prop:=
 (r.kind=3→f.1=r.key→qy3 r f.2)∧(r.kind=4→f.1=r.key→f.2∈qze r.text)∧(r.kind=5→f.1=r.key→qml r f.2.length)∧(r.kind=6→f.1∈qze r.text)
instance (r:qf4) (f:FldV):Decidable (q1w r f):=inferInstanceAs (Decidable (_∧_∧_∧_))
def q3m (key:Bytes) (xs:List FldV):List Bytes:=(xs.filter fun f=>f.1=key).map Prod.snd
def q7t (r:qf4) (xs:List FldV):Prop:=q65 r∧((r.kind=1∧(q3m r.key xs).length=0)∨(r.kind=2∧1<(q3m r.key xs).length)∨(r.kind≠1∧r.kind≠2∧xs.any (fun f=> !decide (q1w r f))=true))
instance (r:qf4) (xs:List FldV):Decidable (q7t r xs):=inferInstanceAs (Decidable (_∧(_∨_∨_)))
structure q7a (xs:List FldV):Prop where
 len:xs.length<1000000
 val:∀ f∈xs,f.1.length<4294967281∧f.2.length<4294967281
end Go.Proofs.YtmoklbacdkmkaaaGreatDoor
namespace Go.Av
open Go Go.RowKit Go.WideShapes Go.ChangeShapes Go.Deep
def gW (W:World):Gh:=⟨fun b=>match W.heap[b]? with|some (.cells c _ _)=>some c.toList | _=>none,fun _=>⟨0,0,0,false⟩,0⟩
theorem zal {W:World} {b:Nat} {c:Array Value} {T:TypeId} {fz:Nat×Nat} (h:W.heap[b]? = some (.cells c T fz)):(gW W).pub b=some c.toList:=by
 simp [gW,h]
theorem qww (W:World):q8 W.heap.size W (gW W) [] W:=by
 refine⟨Below.refl _ _,Nat.le_refl _,rfl,fun b vs h=>?_,fun o x h=>by simp at h,fun o o' x x' _ h=>by simp at h⟩
 simp only [gW] at h
 split at h
 ·rename_i c T fz hb
  cases h
  exact⟨c,T,fz,hb,fun i y hy=>by simpa using hy⟩
 ·cases h
theorem qo5 {E:Env} {f:FuncId} {args:List AV} {vals:Array Value} {b:Bool} {W:World} (h:qn E f args [] fun r st'=>r=Bv b∧st'=[]) (hL:E.L W.heap.size W) (ha:RelL (gW W) args vals) :
  Calls E.P f vals W fun e w'=>e = .returned (.bool b)∧Below W.heap.size W w':=by
 refine (h.run W.heap.size W (gW W) vals W hL (qww W) ha).mono ?_
 rintro e w' ⟨v,G',r,st',rfl,_,hA,hr,rfl,_⟩
 cases hr
 exact⟨rfl,hA.below⟩
theorem q5n {G:Gh}:RelL G [] #[]:=⟨rfl,fun i x y h=>by simp at h⟩
theorem qlg {G:Gh} {a:AV} {us:List AV} {v:Value} {vs:List Value} (h:Rel G a v) (hs:RelL G us vs.toArray):RelL G (a::us) (v::vs).toArray:=by
 refine⟨by simpa using hs.1,fun i x y hx hy=>?_⟩
 cases i with
 |zero=>simp at hx hy;subst hx;subst hy;exact h
 |succ i=>exact hs.2 i x y (by simpa using hx) (by simpa using hy)
def RelK (G:Gh) (us:List AV) (cs:List Value):Prop:=us.length=cs.length∧∀ (i:Nat) (x:AV) (y:Value),us[i]? = some x→cs[i]? = some y→Rel G x y
theorem qka {G:Gh} {a:AV} {v:Value} (h:Rel G a v):RelK G [a] [v]:=⟨rfl,fun i x y hx hy=>by
 cases i with
 |zero=>simp at hx hy;subst hx;subst hy;exact h
 |succ i=>simp at hx⟩
theorem RelK.one {G:Gh} {a:AV} {v:Value} (h:RelK G [a] [v]):Rel G a v:=h.2 0 a v rfl rfl
def Opn (P:Program) (t:TypeId) (S:AV→Prop):Prop:=∀ (H:Type) (enc:TypeId×Value→H) (W:World) (fuel:Nat) (cs:List Value) (x:DataW H×List MemPlace),
 DataW.trod enc P W 0 (fun _=>true) true fuel t cs=some x→∃ a,S a∧RelK (gW W) a.cells cs
def IsS (a:AV):Prop:=∃ l:List UInt8,a=Sv l∧l.length≤maxLen
def IsI (k:IntKind) (a:AV):Prop:=∃ n:Int,a = .v (.int k n)∧(Lit.int k n).wf=true
def IsSl (sz:Nat) (S:AV→Prop) (a:AV):Prop:=∃ xs:List AV,a = .sl sz xs none∧xs.length≤maxLen∧∀ x∈xs,S x
def IsAg (Ss:List (AV→Prop)) (a:AV):Prop:=∃ vs:List AV,a = .ag vs∧vs.length=Ss.length∧∀ (i:Nat) (S:AV→Prop) (v:AV),Ss[i]? = some S→vs[i]? = some v→S v
def One (S:AV→Prop):Prop:=∀ a,S a→a.cells=[a]
theorem q7l:One IsS:=by rintro _ ⟨l,rfl,_⟩;rfl
theorem q64 (k:IntKind):One (IsI k):=by rintro _ ⟨l,rfl,_⟩;rfl
theorem q68 (s:ByteArray):Sv s.data.toList = .v (.string s):=by cases s;simp
theorem q7q {P:Program} {t:TypeId} (hu:P.underlying t=some .string):Opn P t IsS:=by
 intro H enc W fuel cs x h
 obtain⟨s,rfl,_,hs⟩:=DataW.trod_string hu h
 refine⟨Sv s.data.toList,⟨_,rfl,by simpa using hs⟩,qka ?_⟩
 rw [q68]
 exact .v _
theorem q7f {P:Program} {t:TypeId} {k:IntKind} (hu:P.underlying t=some (.int k)):Opn P t (IsI k):=by
 intro H enc W fuel cs x h
 obtain⟨n,rfl,_,hs⟩:=DataW.trod_int hu h
 exact⟨_,⟨n,rfl,hs⟩,qka (.v _)⟩
theorem qnp {n:Nat} {Q:Nat→AV→Prop} (h:∀ i,i<n→∃ a,Q i a):∃ vs:List AV,vs.length=n∧∀ i v,vs[i]? = some v→Q i v:=by
 induction n with
 |zero=>exact⟨[],rfl,fun i v h=>by simp at h⟩
 |succ n ih=>
  obtain⟨vs,hl,hv⟩:=ih fun i hi=>h i (by omega)
  obtain⟨a,ha⟩:=h n (by omega)
  refine⟨vs++[a],by simp [hl],fun i v hi=>?_⟩
  rcases Nat.lt_or_ge i n with hc|hc
  ·rw [List.getElem?_append_left (by omega)] at hi
   exact hv i v hi
  ·rw [List.getElem?_append_right (by omega)] at hi
   have:i - vs.length=0:=by
    rcases Nat.eq_zero_or_pos (i - vs.length) with h0|h0
    ·exact h0
    ·rw [List.getElem?_eq_none (by simp;omega)] at hi;cases hi
   rw [this] at hi
   simp at hi
   subst hi
   have:i=n:=by omega
   subst this
   exact ha
theorem q9p {P:Program} {t:TypeId} {fs:Array Field} {Ss:List (AV→Prop)} (hu:P.underlying t=some (.struct fs)) (hone:oneCellFields P fs=true) (hC:P.cellsOf t=fs.size) (hl:Ss.length=fs.size)
  (hS:∀ (i:Nat) (f:Field) (S:AV→Prop),fs[i]? = some f→Ss[i]? = some S→Opn P f.type S∧One S):Opn P t (IsAg Ss):=by
 intro H enc W fuel cs x h
 obtain⟨xs,n,_,_,hcl,hxl,hf⟩:=DataW.trod_struct hu h
 have hcs:cs.length=fs.size:=hcl.trans hC
 have step:∀ i,i<fs.size→∃ a:AV,(∀ S,Ss[i]? = some S→S a)∧∀ y,cs[i]? = some y→Rel (gW W) a y:=by
  intro i hi
  have hfi:fs[i]? = some fs[i]:=Array.getElem?_eq_getElem hi
  have hSi:Ss[i]? = some (Ss[i]'(by omega)):=List.getElem?_eq_getElem (by omega)
  obtain⟨hO,h1⟩:=hS i _ _ hfi hSi
  obtain⟨ho,hk⟩:=hone_of hone i _ hfi
  have ht:=hf i _ hfi
  rw [ho,hk] at ht
  have hd:(cs.drop i).take 1=[cs[i]'(by omega)]:=by
   rw [List.drop_eq_getElem_cons (by omega)]
   rfl
  rw [hd,List.getElem?_eq_getElem (by omega)] at ht
  obtain⟨a,ha,hr⟩:=hO H enc W n _ _ ht
  rw [h1 a ha] at hr
  refine⟨a,fun S hs=>?_,fun y hy=>?_⟩
  ·rw [hSi] at hs;cases hs;exact ha
  ·rw [List.getElem?_eq_getElem (by omega)] at hy;cases hy;exact hr.one
 obtain⟨vs,hvl,hv⟩:=qnp step
 refine⟨.ag vs,⟨vs,rfl,by omega,fun i S v hs hvi=>(hv i v hvi).1 S hs⟩,by show vs.length=cs.length;omega,fun i x y hx hy=>(hv i x hx).2 y hy⟩
theorem qyz {W:World} {a:Addr} {n:Nat} {v:Value} (h:W.cell? (a.add n)=some v):∃ (c:Array Value) (T:TypeId) (fz:Nat×Nat),W.heap[a.block]? = some (.cells c T fz)∧c[a.off+n]? = some v∧(n=0→a.spot=none):=by
 unfold World.cell? Addr.add at h
 by_cases hn:n=0
 ·subst hn
  simp only [if_true] at h
  split at h
  ·rename_i c T fz hb
   split at h
   ·cases h
   ·rename_i hs
    exact⟨c,T,fz,hb,by simpa using h,fun _=>by simpa using hs⟩
  ·cases h
 ·rw [if_neg hn] at h
  simp only at h
  split at h
  ·rename_i c T fz hb
   exact⟨c,T,fz,hb,by simpa using h,fun e=>absurd e hn⟩
  ·cases h
theorem q3n {P:Program} {t e:TypeId} {sz:Nat} {S:AV→Prop} (hu:P.underlying t=some (.slice e)) (hC:P.cellsOf e=sz) (hz:0<sz) (hS:Opn P e S):Opn P t (IsSl sz S):=by
 intro H enc W fuel cs x h
 rcases open_slice hu h with⟨rfl,_⟩ | ⟨a,len,cap,m,n,D,Pl,rfl,_,hlc,hcm,hm,_,hel⟩
 ·exact⟨.sl sz [] none,⟨[],rfl,by simp,by simp⟩,qka (.sl0 sz none _ _ (by simp))⟩
 ·have hm':len≤m:=by rw [hm];simpa using hlc
  rw [hC] at hel
  have step:∀ i,i<len→∃ y:AV,S y∧y.cells.length=sz∧∀ j,j<sz→∃ (u:AV) (v:Value),y.cells[j]? = some u∧W.cell? (a.add (i * sz+j))=some v∧Rel (gW W) u v:=by
   intro i hi
   obtain⟨cs',hc,ht⟩:=hel i (by omega)
   obtain⟨_,hcl,hat⟩:=World.cells?_some hc
   obtain⟨y,hy,hr⟩:=hS H enc W n cs' _ ht
   refine⟨y,hy,hr.1.trans hcl,fun j hj=>?_⟩
   have h1:y.cells[j]? = some (y.cells[j]'(by rw [hr.1,hcl];exact hj)):=List.getElem?_eq_getElem _
   have h2:cs'[j]? = some (cs'[j]'(by omega)):=List.getElem?_eq_getElem _
   refine⟨_,_,h1,?_,hr.2 j _ _ h1 h2⟩
   rw [← Go.Deep.add_add,hat j hj,h2]
  obtain⟨xs,hxl,hx⟩:=qnp step
  have hmem:∀ y∈xs,S y∧y.cells.length=sz:=fun y hy=>by
   obtain⟨i,hi,rfl⟩:=List.mem_iff_getElem.1 hy
   have:=hx i xs[i] (List.getElem?_eq_getElem hi)
   exact⟨this.1,this.2.1⟩
  refine⟨.sl sz xs none,⟨xs,rfl,by omega,fun y hy=>(hmem y hy).1⟩,qka ?_⟩
  rcases Nat.eq_zero_or_pos len with h0|h0
  ·subst h0
   have:xs=[]:=List.length_eq_zero_iff.1 hxl
   subst this
   exact .sl0 sz none _ _ (by simp)
  ·have hfl:(flat xs).length=len * sz:=by rw [z0 fun y hy=>(hmem y hy).2,hxl]
   have at0:∀ k,k<len * sz→∃ (u:AV) (v:Value),(flat xs)[k]? = some u∧W.cell? (a.add k)=some v∧Rel (gW W) u v:=by
    intro k hk
    have hq:k / sz<len:=(Nat.div_lt_iff_lt_mul hz).2 hk
    have hr:k % sz<sz:=Nat.mod_lt _ hz
    have e:k / sz * sz+k % sz=k:=by rw [Nat.mul_comm];exact Nat.div_add_mod k sz
    have hxi:xs[k / sz]? = some (xs[k / sz]'(by omega)):=List.getElem?_eq_getElem _
    obtain⟨_,_,hj⟩:=hx _ _ hxi
    obtain⟨u,v,h1,h2,h3⟩:=hj _ hr
    have:=qh2 (sz:=sz) (fun y hy=>(hmem y hy).2) hxi _ hr
    rw [e] at this h2
    exact⟨u,v,this.trans h1,h2,h3⟩
   have hpos:0<len * sz:=Nat.mul_pos h0 hz
   obtain⟨_,_,_,hc0,_⟩:=at0 0 hpos
   obtain⟨c,T,fz,hb,_,hspot⟩:=qyz hc0
   have hin:∀ k,k<len * sz→∃ (u:AV) (v:Value),(flat xs)[k]? = some u∧c.toList[a.off+k]? = some v∧Rel (gW W) u v:=by
    intro k hk
    obtain⟨u,v,h1,h2,h3⟩:=at0 k hk
    obtain⟨c',T',fz',hb',hv,_⟩:=qyz h2
    rw [hb] at hb'
    cases hb'
    exact⟨u,v,h1,by simpa using hv,h3⟩
   obtain⟨b,off,spot⟩:=a
   have hs:=hspot rfl
   simp only at hs hb hin
   subst hs
   rw [← hxl]
   refine .sl sz xs none b off cap c.toList (zal hb) (fun y hy=>(hmem y hy).2) ?_ ?_ ?_ (by omega)
   ·obtain⟨_,_,_,hv,_⟩:=hin (len * sz - 1) (by omega)
    have:=(List.getElem?_eq_some_iff.1 hv).1
    omega
   ·intro i x y hx' hy'
    have hi:i<len * sz:=by rw [← hfl];exact (List.getElem?_eq_some_iff.1 hx').1
    obtain⟨u,v,h1,h2,h3⟩:=hin i hi
    rw [hx'] at h1
    rw [hy'] at h2
    cases h1
    cases h2
    exact h3
   ·intro t ht
    simp at ht
def qfp (P:Program) (t:TypeId):Array Field:=match P.underlying t with|some (.struct fs)=>fs | _=> #[]
theorem qqp {P:Program} {t:TypeId} {As:List (Option TypeDesc×(AV→Prop))} (hu:P.underlying t=some (.struct (qfp P t))) (hone:oneCellFields P (qfp P t)=true) (hC:P.cellsOf t=(qfp P t).size)
  (hF:(qfp P t).toList.map (fun f=>P.underlying f.type)=As.map Prod.fst) (hA:∀ p∈As,(∀ u,P.underlying u=p.1→Opn P u p.2)∧One p.2):Opn P t (IsAg (As.map Prod.snd)):=by
 have hl:As.length=(qfp P t).size:=by have:=congrArg List.length hF;simpa using this.symm
 refine q9p hu hone hC (by simpa using hl) fun i f S hf hS=>?_
 obtain⟨p,hp,rfl⟩:∃ p,As[i]? = some p∧p.2=S:=by simpa using hS
 have h1:((qfp P t).toList.map (fun f=>P.underlying f.type))[i]? = some (P.underlying f.type):=by simp [hf]
 rw [hF,List.getElem?_map,hp] at h1
 obtain⟨a,b⟩:=hA p (List.mem_of_getElem? hp)
 exact⟨a _ (by simpa using h1.symm),b⟩
theorem qyk {α : Type} {g : α→AV}:∀ {xs:List AV},(∀ x∈xs,∃ r,x=g r)→∃ rs:List α,xs=rs.map g
 | [],_=>⟨[],rfl⟩
 |x::xs,h=>by
  obtain⟨r,rfl⟩:=h x (by simp)
  obtain⟨rs,rfl⟩:=qyk (xs:=xs) fun y hy=>h y (by simp [hy])
  exact⟨r::rs,rfl⟩
theorem q90 {H:Type} {enc:TypeId×Value→H} {P:Program} {W:World} {r:Reach} {b0:Nat} {t e:TypeId} {S:AV→Prop} {v:Value} {d:DataW H} {ps:List MemPlace} (hu:P.underlying t=some (.slice e)) (hO:Opn P t S) (h1:One S) (hval:Value.okWide P W r b0 t v) (hd:DataW.Trod enc P W 0 (fun _=>true) true t v d ps) :
  ∃ a,S a∧Rel (gW W) a v:=by
 obtain⟨a,len,cap,rfl⟩:=okWide_slice hu hval
 obtain⟨fuel,hf⟩:=hd
 obtain⟨y,hy,hr⟩:=hO H enc W fuel _ _ hf
 rw [h1 y hy] at hr
 exact⟨y,hy,RelK.one (by simpa [Value.cells] using hr)⟩
theorem zao {G:Gh} (s:ByteArray):Rel G (Sv s.data.toList) (.string s):=by rw [q68];exact .v _
theorem q6w {H:Type} {enc:TypeId×Value→H} {P:Program} {W W':World} {t:TypeId} (hl:laidOutB P=true) (hr:P.readableRec t=true) (hrow:t<P.types.size) {sp:Nat→Bool} {v:Value} {d:DataW H} {ps:List MemPlace}
  (hd:DataW.Trod enc P W 0 (fun _=>true) true t v d ps) (hb:Below W.heap.size W W') (hlt:∀ p∈ps,p.block<W.heap.size) (hs:∀ p∈ps,sp p.block=true):DataW.Trod enc P W' 0 sp true t v d ps:=
 Go.WideElems.Trod_stays hl hr hrow hd (fun p hp=>hb.same (hlt p hp)) hs
end Go.Av
namespace Go.Proofs.YtmoklbacdkmkaaaGreatDoor
open Go Go.Av Go.RowKit Go.Proofs Go.Pl
theorem q89:Opn Tryz.prog 156 fun a=>∃ f:FldV,a=fldA f:=by
 intro H enc W fuel cs x h
 obtain⟨a,⟨vs,rfl,hl,hv⟩,hr⟩:=qqp (As:=[(some .string,IsS),(some .string,IsS)]) (by kernel_rfl) (by kernel_rfl) (by kernel_rfl) (by kernel_rfl)
  (List.forall_mem_cons.2 ⟨⟨fun _ h=>q7q h,q7l⟩,List.forall_mem_cons.2 ⟨⟨fun _ h=>q7q h,q7l⟩,nofun⟩⟩) H enc W fuel cs x h
 match vs,hl with
 | [v0,v1],_=>
  obtain⟨l0,rfl,_⟩:=hv 0 _ _ rfl rfl
  obtain⟨l1,rfl,_⟩:=hv 1 _ _ rfl rfl
  exact⟨_,⟨(l0,l1),rfl⟩,hr⟩
theorem q42 {t:TypeId} (hu:Tryz.prog.underlying t=some (.slice 156)):Opn Tryz.prog t fun a=>∃ xs:List FldV,a=kv xs∧xs.length≤maxLen:=by
 intro H enc W fuel cs x h
 obtain⟨a,⟨xs,rfl,hl,hx⟩,hr⟩:=q3n (sz:=2) hu (by kernel_rfl) (by decide) q89 H enc W fuel cs x h
 obtain⟨rs,rfl⟩:=qyk hx
 exact⟨_,⟨rs,rfl,by simpa using hl⟩,hr⟩
theorem q5b:One fun a=>∃ xs:List FldV,a=kv xs∧xs.length≤maxLen:=by rintro _ ⟨xs,rfl,_⟩;rfl
theorem q3v {n:Nat} (h:n≤maxLen):n<9223372036854775808:=by unfold maxLen at h;omega
structure qp where
 kind:Int
 id:Int
 fields:List FldV
@[reducible] def wy (e : qp) : AV := .ag [Iv e.kind, Iv e.id, kv e.fields]
def qat (k:Int):Bytes:=if k=1 then [32,114,101,112,108,97,99,101,32] else if k=2 then [32,100,101,108,101,116,101,32] else if k=3 then [32,105,110,115,101,114,116,32] else []
def vi (e:qp):Bytes:=if 1≤e.kind∧e.kind≤3 then qat e.kind++Lib.itoa e.id else []
def qap (k:Int):Bytes:=if k=1 then [114,101,112,108,97,99,101] else if k=2 then [100,101,108,101,116,101] else if k=3 then [105,110,115,101,114,116] else []
theorem qqj (k:Int) (st:List AObj):qn E 191 [Iv k] st fun r st'=>r=Sv (qap k)∧st'=st:=by
 refine q7 (q6 _) (qo Tryz.func191 rfl (Nat.le_of_ble_eq_true rfl) ?_)
 repeat' (first|apply qk|apply qu|apply qc|apply qd|apply qj|apply qe|(apply qq;(iterate 3 exact rfl))|(apply qa;exact rfl;apply cd_d <;> intro h)|apply qs|apply qr)
 all_goals refine ql rfl (zb rfl) ⟨congrArg (fun l:Bytes=>Sv l) (?_:_=qap k),_,rfl⟩
 all_goals simp_all [qap]
theorem q2k (k:Int):(qap k).length≤7:=by
 unfold qap
 repeat' split
 all_goals simp
theorem qx8 (k:Int):qat k=if qap k=[] then [] else [32]++qap k++[32]:=by
 unfold qat qap
 repeat' split
 all_goals simp_all
theorem q19 (k:Int):qap k=[]↔¬ (1≤k∧k≤3):=by
 unfold qap
 repeat' split
 all_goals simp_all
 omega
theorem q9f (e:qp) (st:List AObj) (h1 : -9223372036854775808≤e.id) (h2:e.id≤9223372036854775807):qn E 137 [wy e] st fun r st'=>r=Sv (vi e)∧st'=st:=by
 refine q7 (q6 _) (qo Tryz.func137 rfl (Nat.le_of_ble_eq_true rfl) ?_)
 have hn:=Lib.itoa_length_le e.id h1 h2
 have hw:=q2k e.kind
 have ho:=qx8 e.kind
 have hz:=q19 e.kind
 repeat' (first|apply qk|apply qc|apply qd|apply qj|apply qe|(apply jb;(iterate 3 exact rfl))|(apply qa;exact rfl;apply cd_d <;> intro h)|(apply jq;exact rfl;exact rfl;exact cOs)|(apply vu;(iterate 4 exact rfl))|(apply qz;(iterate 3 exact rfl))|(apply zh;(iterate 5 exact rfl))|apply qs|apply qr|(apply qg;exact Tryz.call191;exact qqj _ _)|(apply qg;exact Tryz.call155;exact qlf _ _ h1 h2))
 all_goals refine ql rfl (zb rfl) ⟨congrArg (fun l:Bytes=>Sv l) (?_:_=vi e),_,rfl⟩
 all_goals unfold vi
 ·rw [if_neg (by simp_all)]
 ·rw [if_pos (by simp_all),ho,if_neg (by assumption)]
end Go.Proofs.YtmoklbacdkmkaaaGreatDoor
namespace Go.Av
open Go Go.RowKit
def noop (o:Oper):Oper:={ o with op:=.move (.const undef),guard:=none }
section
variable {F : Fence} {n : Nat} {P : Program} {ops ops' : Array Oper} {md : Region.Mode} {C : World → Prop} {Q : Exit → Act → World → Prop} {k : Nat} {o : Oper}
theorem qjx {listed:Array Bool}:∀ k,listed.getD k true=false→∃ j,j≤k∧listed.getD j true=false∧∀ i,i<j→listed.getD i true=true:=by
 intro k
 induction k using Nat.strongRecOn with
 | _ k ih=>
  intro h
  by_cases hall:∀ i,i<k→listed.getD i true=true
  ·exact⟨k,Nat.le_refl _,h,hall⟩
  ·have ⟨i,hi⟩:=Classical.not_forall.1 hall
   have ⟨hi1,hi2⟩:=Classical.not_imp.1 hi
   obtain⟨j,h1,h2,h3⟩:=ih i hi1 (by simpa using hi2)
   exact⟨j,by omega,h2,h3⟩
theorem qs4 {listed:Array Bool} {i:Nat} (h:listed.getD i true=true) (hi:i<listed.size):listed.getD i false=true:=by
 simp [Array.getD,hi] at h ⊢
 exact h
theorem qw9 {listed:Array Bool} {i:Nat} (h:listed.getD i true=false) (h2:listed.getD i false=true):False:=by
 unfold Array.getD at h h2
 by_cases hi:i<listed.size
 ·rw [dif_pos hi] at h h2
  rw [h] at h2
  cases h2
 ·rw [dif_neg hi] at h
  cases h
theorem qni {listed:Array Bool} {j:Nat} (hsz:listed.size=ops.size) (hord:∀ (j:Nat) o,ops[j]? = some o→∀ e∈o.after,e.on<j) (hj:listed.getD j true=false) (hall:∀ i,i<j→listed.getD i true=true):j∈Region.ready md ops listed:=by
 have hlt:j<listed.size:=by
  rcases Nat.lt_or_ge j listed.size with h|h
  ·exact h
  ·simp [Array.getD,Nat.not_lt.2 h] at hj
 rw [mem_ready]
 have ho:ops[j]? = some ops[j]:=Array.getElem?_eq_getElem (by omega)
 exact⟨hj,_,ho,fun e he _=>qs4 (hall _ (hord j _ ho e he)) (by have:=hord j _ ho e he;omega)⟩
theorem qkf {listed:Array Bool} (hs:ops.size=ops'.size) (hk:ops[k]? = some o) (hk':ops'[k]? = some (noop o)) (hoth:∀ j,j≠k→ops'[j]? = ops[j]?):Region.ready md ops' listed=Region.ready md ops listed:=by
 unfold Region.ready
 rw [hs]
 refine List.filter_congr fun i _=>?_
 by_cases h:i=k
 ·subst h;rw [hk,hk'];rfl
 ·rw [hoth i h]
theorem qvm (hd:o.dst=none) (hk:ops[k]? = some o) (hk':ops'[k]? = some (noop o)) (hoth:∀ j,j≠k→ops'[j]? = ops[j]?) (t:Array Value):yielded ops' t=yielded ops t:=by
 funext j
 unfold yielded
 by_cases h:j=k
 ·subst h;rw [hk,hk'];simp [noop,hd]
 ·rw [hoth j h]
theorem qlw (hro:F.round=none) (hsz:ops.size=ops'.size) (hk:ops[k]? = some o) (hk':ops'[k]? = some (noop o)) (hoth:∀ j,j≠k→ops'[j]? = ops[j]?) (hd:o.dst=none)
  (hord:∀ (j:Nat) o,ops[j]? = some o→∀ e∈o.after,e.on<j) (hcov:∀ j,j<ops.size→j≠k→∃ e∈o.after,Region.binds md e=true∧e.on=j) :
  ∀ (fuel:Nat) (listed:Array Bool) (a:Act) (w:World),C w→listed.size=ops.size→listed.getD k true=false→wpAnyQIn F n P md ops' C (fun a=>∀ w,C w→wpOpIn F n P ops Q k (Q .normal) a w) fuel listed a→wpAnyIn F n P md ops Q fuel listed a w
 | 0,listed,a,w,hC,hs,hun,h=>by
  have ⟨j,_,h2,h3⟩:=qjx k hun
  have:=qni (md:=md) hs hord h2 h3
  rw [← qkf hsz hk hk' hoth,h.1] at this
  cases this
 |fuel+1,listed,a,w,hC,hs,hun,h=>by
  obtain⟨hq1,hq2⟩:=h
  rw [qkf hsz hk hk' hoth] at hq1 hq2
  refine⟨fun h0=>?_,fun i hi=>?_⟩
  ·have ⟨j,_,h2,h3⟩:=qjx k hun
   have:=qni (md:=md) hs hord h2 h3
   rw [h0] at this
   cases this
  ·have hqi:=hq2 i hi
   by_cases hik:i=k
   ·subst hik
    obtain⟨_,o',ho',hall⟩:=mem_ready.1 hi
    rw [hk] at ho'
    cases ho'
    have hr:Region.ready md ops (listed.setIfInBounds i true)=[]:=by
     rw [List.eq_nil_iff_forall_not_mem]
     intro j hj
     obtain⟨hju,oj,hoj,_⟩:=mem_ready.1 hj
     have hjs:j<ops.size:=by
      rcases Nat.lt_or_ge j ops.size with h|h
      ·exact h
      ·rw [Array.getElem?_eq_none h] at hoj;cases hoj
     by_cases hji:j=i
     ·subst hji
      simp [Array.getD,hs,hjs] at hju
     ·obtain⟨e,he,hb,heq⟩:=hcov j hjs hji
      have h5:=hall e he hb
      rw [heq] at h5
      rw [getD_set_ne true (Ne.symm hji)] at hju
      exact qw9 hju h5
    unfold qOpIn at hqi
    rw [hk'] at hqi
    simp only at hqi
    have hqe:=hqi.2
    have hwn:Region.wanted (noop o) (yielded ops' a.tmps)=true:=by simp [noop,Region.wanted]
    rw [if_pos hwn] at hqe
    obtain⟨v,_,hK⟩:=hqe
    have hput:a.put (noop o).dst v=a:=by simp [noop,hd,Act.put]
    rw [hput] at hK
    have hQ':∀ w,C w→wpOpIn F n P ops Q i (Q .normal) a w:=by
     cases fuel with
     |zero=>exact hK.2
     |succ fuel=>exact hK.1 (by rw [qkf hsz hk hk' hoth];exact hr)
    exact wpOpIn_mono (fun a' w' h'=>wpAnyIn_done hr h' _) (hQ' w hC)
   ·have he:qOpIn F n P ops C i (wpAnyQIn F n P md ops' C (fun a=>∀ w,C w→wpOpIn F n P ops Q k (Q .normal) a w) fuel (listed.setIfInBounds i true)) a:=by
     unfold qOpIn at hqi ⊢
     rw [hoth i hik] at hqi
     rw [← qvm hd hk hk' hoth]
     exact hqi
    refine wpOpIn_of_qOpIn hro hC (fun a' w' hC' hX=>qlw hro hsz hk hk' hoth hd hord hcov fuel _ a' w' hC' (by simpa using hs) ?_ hX) he
    rw [getD_set_ne true hik]
    exact hun
def qez {α : Type}:List α→Option (List α×α)
 | []=>none
 | [x]=>some ([],x)
 |x::y::r=>match qez (y::r) with
  |some (l,o)=>some (x::l,o)
  |none=>none
theorem qls {α : Type}:∀ {L l:List α} {o : α},qez L=some (l,o)→L=l++[o]
 | [],_,_,h=>by simp [qez] at h
 | [x],_,_,h=>by simp [qez] at h;obtain⟨rfl,rfl⟩:=h;rfl
 |x::y::r,l,o,h=>by
  unfold qez at h
  split at h
  ·rename_i l' o' he
   simp only [Option.some.injEq,Prod.mk.injEq] at h
   obtain⟨rfl,rfl⟩:=h
   rw [qls he]
   rfl
  ·simp at h
def qzh (o:Oper) (k:Nat):Bool:=(List.range k).all fun j=>o.after.toList.any fun e=>Region.binds .any e && Nat.beq e.on j
def qvg (ops:List Oper):Bool:=(List.range ops.length).all fun j=>match ops[j]? with|some o=>o.after.toList.all fun e=>Nat.blt e.on j|none=>true
end
section
variable {E : Env} {N : Nat} {s : AS}
theorem q20 {id:Nat} {L l:List Oper} {o:Oper} {Q:Exit→AS→Prop} (hsp:qez L=some (l,o)) (hd:o.dst=none) (hcov:qzh o l.length=true) (hord:qvg L=true) (hm:E.P.follows .mixedOrders=true) (hB:Region.lexB .any (l++[noop o]).toArray=true)
  (h:AQ E N (l++[noop o]).toArray l (fun s'=>AOps E none N L.toArray [o] (Q .normal) s') s):AWp E none N (.region id L.toArray true) Q s:=by
 have hLe:=qls hsp
 subst hLe
 refine⟨fun B0 w0 G a w hL hI=>?_⟩
 have hB2:=hB
 simp only [Region.lexB,Bool.and_eq_true] at hB2
 have hk:(l++[o]).toArray[l.length]? = some o:=by simp
 have hk':(l++[noop o]).toArray[l.length]? = some (noop o):=by simp
 have hoth:∀ j,j≠l.length→(l++[noop o]).toArray[j]? = (l++[o]).toArray[j]?:=fun j hj=>by
  simp only [List.getElem?_toArray]
  rcases Nat.lt_or_ge j l.length with h|h
  ·rw [List.getElem?_append_left h,List.getElem?_append_left h]
  ·rw [List.getElem?_eq_none (by simp;omega),List.getElem?_eq_none (by simp;omega)]
 have hordP:∀ (j:Nat) o',(l++[o]).toArray[j]? = some o'→∀ e∈o'.after,e.on<j:=fun j o' hj e he=>by
  simp only [qvg,List.all_eq_true,List.mem_range] at hord
  simp only [List.getElem?_toArray] at hj
  have h1:=hord j (lt_of_getElem? hj)
  rw [hj] at h1
  simp only at h1
  have h2:=List.all_eq_true.1 h1 e (by simpa using he)
  exact Nat.le_of_ble_eq_true h2
 have hcovP:∀ j,j<(l++[o]).toArray.size→j≠l.length→∃ e∈o.after,Region.binds .any e=true∧e.on=j:=fun j hj hne=>by
  simp only [qzh,List.all_eq_true,List.mem_range] at hcov
  have h1:=hcov j (by simp at hj;omega)
  obtain⟨e,he,h2⟩:=List.any_eq_true.1 h1
  simp only [Bool.and_eq_true] at h2
  exact⟨e,by simpa using he,h2.1,Nat.eq_of_beq_eq_true h2.2⟩
 have hBl:Below w.heap.size w { w with drawn:=w.drawn+1 }:=⟨rfl,rfl,rfl,Nat.le_refl _,fun _ _=>rfl⟩
 refine wpIn_region_any hm (qlw (C:=fun w'=>Below w.heap.size w w') (ops':=(l++[noop o]).toArray) (k:=l.length) rfl (by simp) hk hk' hoth hd hordP hcovP _ _ _ _ hBl (by simp) (by simp [Array.getD]) ?_)
 have hq:wpQuietIn (fw none) 0 E.P (l++[noop o]).toArray (fun w'=>Below w.heap.size w w') (fun a=>∀ w',Below w.heap.size w w'→wpOpIn (fw none) 0 E.P (l++[o]).toArray (fun e a' w'=>∃ (G':Gh) (s':AS),G.le G'∧Inv B0 w0 N G' s' a' w'∧Q e s') l.length (fun a' w'=>∃ (G':Gh) (s':AS),G.le G'∧Inv B0 w0 N G' s' a' w'∧Q .normal s') a w') (l++[noop o]) a:=by
  have step:∀ (l1:List Oper) (a:Act) (X:Act→Prop),wpQuietIn (fw none) 0 E.P (l++[noop o]).toArray (fun w'=>Below w.heap.size w w') X l1 a→wpQuietIn (fw none) 0 E.P (l++[noop o]).toArray (fun w'=>Below w.heap.size w w') X (l1++[noop o]) a:=by
   intro l1
   induction l1 with
   |nil=>
    intro a X hX
    refine⟨fun _ _ _ hf=>?_,?_⟩
    ·simp [Oper.about,noop] at hf
    ·have hwn:Region.wanted (noop o) (yielded (l++[noop o]).toArray a.tmps)=true:=by simp [noop,Region.wanted]
     rw [if_pos hwn]
     refine⟨undef,fun w' _=>?_,?_⟩
     ·unfold Oper.quietAtIn
      simp [noop,execOp,Oper.quietUponIn,Act.eval]
     ·have hput:a.put (noop o).dst undef=a:=by simp [noop,hd,Act.put]
      rw [hput]
      exact hX
   |cons o1 l1 ih=>
    intro a X hX
    refine⟨hX.1,?_⟩
    have h2:=hX.2
    split
    ·rename_i hw
     rw [if_pos hw] at h2
     obtain⟨v,h3,h4⟩:=h2
     exact⟨v,h3,ih _ _ h4⟩
    ·rename_i hw
     rw [if_neg hw] at h2
     exact ih _ _ h2
  refine step l a _ (h.run B0 w0 G a w hL hI _ fun s' a' hI' hst hks w' hw'=>?_)
  have hI2:Inv B0 w0 N G s' a' w':=⟨hI'.agree.fresh hw',hI'.defers,hI'.size,hI'.tmps⟩
  have hr:=hks.run B0 w0 G a' w' hL hI2 (fun e a' w'=>∃ (G':Gh) (s':AS),G.le G'∧Inv B0 w0 N G' s' a' w'∧Q e s') (fun G' s'' a'' w'' hG hI3 hQ=>⟨G',s'',hG,hI3,hQ⟩)
  unfold wpOpIn
  rw [hk]
  exact hr
 have:=wpAnyQIn_lex (F:=fw none) (n:=0) (C:=fun w'=>Below w.heap.size w w') (md:=.any) hB2.1 (l++[noop o]) 0 (Array.replicate (l++[noop o]).length false) a (by simp) (by simpa using hB2.2) hq
 simpa using this
variable {ops : Array Oper} {K : AS → Prop} {rest : List Oper} {d : Option Tmp} {T : TypeId} {p : String} {af : Array Edge}
theorem qbs {x y:Operand} {t t':TypeId} {m n:List UInt8} (hx:qf N s x=Sv m) (hy:qf N s y=Sv n) (hl:m.length+n.length<9223372036854775808)
  (h:AQ E N ops rest K (s.put d (Sv (m++n)))):AQ E N ops (⟨d,.binOp .add t x y t',T,p,af,none⟩::rest) K s:=
 qao _ rfl nofun (fun a w he=>by
  simp only [execOp,he _ _ hx,he _ _ hy,eqGuard_at_string,binOp,Op.stringOp,qac,qsx,IntKind.max_i64]
  rw [if_neg (by omega)]
  simp) h
theorem qvp {x y:Operand} {t e:TypeId} {sz:Nat} {agg:Bool} {xs:List AV} {tip:Option Nat} {k:IntKind} {i:Int} {n:Nat} {z:AV} (hx:qf N s x = .sl sz xs tip) (hy:qf N s y = .v (.int k i)) (hu:E.P.underlying t=some (.slice e)) (ht:tyOf E.P e=some (sz,agg)) (hi:i=n) (hz:xs[n]? = some z)
  (h:AQ E N ops rest K (s.put d (.pp z.cells))):AQ E N ops (⟨d,.indexAddr t x y,T,p,af,none⟩::rest) K s:=by
 refine qd6 rfl nofun fun B0 w0 G a w _ hI=>?_
 subst hi
 have he:=hI.eval_of hx
 have hey:=hI.evalv hy
 generalize hv:a.eval x=v at he
 have hlt:=lt_of_getElem? hz
 cases he with
 |sl0=>simp at hz
 |sl _ _ _ b off cap pub hp hw hlen hrel htip hcap=>
  have hzs:z.cells.length=sz:=hw z (List.mem_of_getElem? hz)
  have hfl:=z0 hw
  have hle:(n+1) * sz≤xs.length * sz:=Nat.mul_le_mul_right _ hlt
  rw [Nat.succ_mul] at hle
  refine⟨.pointer (some ⟨b,off+n * sz,none⟩),.pp z.cells,fun w' _=>?_,?_,h⟩
  ·generalize a.eval = ρ at hv hey
   simp only [execOp,hv,hey]
   simp [Instr.indexAt,asIntOf,run_underlying hu,hlt,(ke ht w').1,Addr.add_lit]
  ·refine .pp _ b _ pub hp (by omega) fun j q r h1 h2=>?_
   have hj:j<sz:=by have:=lt_of_getElem? h1;omega
   have hf:=qh2 hw hz j hj
   exact hrel (n * sz+j) q r (by rw [hf];exact h1) (by rw [← h2];congr 1;omega)
theorem qqe {x y:Operand} {t e:TypeId} {sz:Nat} {agg:Bool} {o ver off len cp:Nat} {k:IntKind} {i:Int} {n:Nat} (hx:qf N s x = .os o ver off len cp) (hy:qf N s y = .v (.int k i)) (hu:E.P.underlying t=some (.slice e)) (ht:tyOf E.P e=some (sz,agg)) (hi:i=n) (hn:n<len)
  (h:AQ E N ops rest K (s.put d (.bx o ver (off+n * sz)))):AQ E N ops (⟨d,.indexAddr t x y,T,p,af,none⟩::rest) K s:=by
 refine qd6 rfl nofun fun B0 w0 G a w _ hI=>?_
 subst hi
 have he:=hI.eval_of hx
 have hey:=hI.evalv hy
 generalize hv:a.eval x=v at he
 cases he with
 |os _ _ _ _ b cap hn' hver hb=>
  refine⟨.pointer (some ⟨b,off+n * sz,none⟩),_,fun w' _=>?_,.bx o ver _ b hn' hver hb,h⟩
  generalize a.eval = ρ at hv hey
  simp only [execOp,hv,hey]
  simp [Instr.indexAt,asIntOf,run_underlying hu,hn,(ke ht w').1,Addr.add_lit]
theorem xk {t:TypeId} {x:Operand} {f off sz:Nat} {agg:Bool} {o ver q:Nat} (hx:qf N s x = .bx o ver q) (hf:qan E.P t f=some (off,sz,agg)) (hsz:Nat.beq sz 0=false)
  (h:AQ E N ops rest K (s.put d (.bx o ver (q+off)))):AQ E N ops (⟨d,.fieldAddr t x f,T,p,af,none⟩::rest) K s:=by
 refine qd6 rfl nofun fun B0 w0 G a w _ hI=>?_
 have he:=hI.eval_of hx
 generalize hv:a.eval x=v at he
 cases he with
 |bx _ _ _ b hn hv' hb=>
  have hs:sz≠0:=fun e=>by subst e;simp at hsz
  exact⟨_,_,fun w' _=>by simp only [execOp,hv];simp [qfz hf hs],.bx o ver _ b hn hv' hb,h⟩
theorem xj {t:TypeId} {x:Operand} {f off sz:Nat} {agg:Bool} {cs:List AV} (hx:qf N s x = .pp cs) (hf:qan E.P t f=some (off,sz,agg)) (hsz:Nat.beq sz 0=false) (hle:Nat.ble off cs.length=true)
  (h:AQ E N ops rest K (s.put d (.pp (cs.drop off)))):AQ E N ops (⟨d,.fieldAddr t x f,T,p,af,none⟩::rest) K s:=by
 refine qd6 rfl nofun fun B0 w0 G a w _ hI=>?_
 have he:=hI.eval_of hx
 generalize hv:a.eval x=v at he
 cases he with
 |pp _ b q pub hp hlen hrel=>
  have hs:sz≠0:=fun e=>by subst e;simp at hsz
  have ho:off≤cs.length:=Nat.le_of_ble_eq_true hle
  refine⟨.pointer (some ⟨b,q+off,none⟩),_,fun w' _=>by simp only [execOp,hv];simp [qfz hf hs],?_,h⟩
  exact .pp _ b (q+off) pub hp (by simp;omega) fun i x y h1 h2=>hrel (off+i) x y (by simpa using h1) (by rw [← h2];congr 1;omega)
theorem qa5 {x:Operand} {t:TypeId} {sz:Nat} {agg:Bool} {cs:List AV} {r:AV} (hx:qf N s x = .pp cs) (ht:tyOf E.P t=some (sz,agg)) (hr:jd sz agg 0 cs=some r)
  (h:AQ E N ops rest K (s.put d r)):AQ E N ops (⟨d,.load t x,T,p,af,none⟩::rest) K s:=by
 refine qd6 rfl nofun fun B0 w0 G a w _ hI=>?_
 have he:=hI.eval_of hx
 generalize hv:a.eval x=v at he
 cases he with
 |pp _ b off pub hp hlen hrel=>
  obtain⟨c,T',fz,hc,hcc⟩:=hI.agree.pub b pub hp
  have hlt:b<w.heap.size:=hI.agree.pub_lt hp
  have key:∀ w',Below w.heap.size w w'→∃ v,(loadVar t ⟨b,off,none⟩).run E.P w' = .ok v w'∧Rel G r v:=fun w' hw'=>by
   have h4':w'.heap[b]? = some (.cells c T' fz):=by rw [hw'.block _ hlt];exact hc
   exact x4 (w:=w') (G:=G) (b:=b) (off:=off) ht (fun i x hx _=>by
    have hi:=lt_of_getElem? hx
    have hy:pub[off+i]? = some (pub[off+i]'(by omega)):=List.getElem?_eq_getElem (by omega)
    refine⟨_,?_,hrel i x _ hx hy⟩
    simp [World.cell?,h4',hcc _ _ hy]) hr
  have hg:∀ w',Below w.heap.size w w'→∀ j,j<cs.length→w'.cell? ⟨b,off+j,none⟩=some (pub.getD (off+j) undef):=fun w' hw' j hj=>by
   have h4':w'.heap[b]? = some (.cells c T' fz):=by rw [hw'.block _ hlt];exact hc
   have hlt2:off+j<pub.length:=by omega
   have hy:pub[off+j]? = some (pub.getD (off+j) undef):=by simp [List.getD,hlt2]
   simp [World.cell?,h4',hcc _ _ hy]
  have hsame:∀ w',Below w.heap.size w w'→∀ v,(loadVar t ⟨b,off,none⟩).run E.P w = .ok v w→(loadVar t ⟨b,off,none⟩).run E.P w' = .ok v w':=fun w' hw' v hr1=>by
   obtain⟨i1,i2⟩:=ke ht w
   obtain⟨j1,j2⟩:=ke ht w'
   obtain⟨v',h1',_⟩:=key w' hw'
   rw [h1']
   congr 1
   cases agg with
   |false=>
    simp only [jd,cond_false] at hr
    have h0:=lt_of_getElem? hr
    have e1:=hg w (Below.refl _ _) 0 h0
    have e2:=hg w' hw' 0 h0
    rw [Nat.add_zero] at e1 e2
    simp [loadVar,i2,run_load,e1] at hr1
    simp [loadVar,j2,run_load,e2] at h1'
    rw [← h1',hr1]
   |true=>
    simp only [jd,cond_true] at hr
    cases hb2:Nat.ble (0+sz) cs.length with
    |false=>rw [hb2] at hr;simp at hr
    |true=>
     have hle:0+sz≤cs.length:=Nat.le_of_ble_eq_true hb2
     have l1:=run_loadCells (P:=E.P) (w:=w) ⟨b,off,none⟩ sz (fun j=>pub.getD (off+j) undef) (fun j hj=>by rw [Addr.add_lit];exact hg w (Below.refl _ _) j (by omega))
     have l2:=run_loadCells (P:=E.P) (w:=w') ⟨b,off,none⟩ sz (fun j=>pub.getD (off+j) undef) (fun j hj=>by rw [Addr.add_lit];exact hg w' hw' j (by omega))
     simp [loadVar,i1,i2,l1] at hr1
     simp [loadVar,j1,j2,l2] at h1'
     rw [← h1',hr1]
  obtain⟨v,hrun,hR⟩:=key w (Below.refl _ _)
  exact⟨v,r,fun w' hw'=>by simp only [execOp,hv,Instr.loadAt,Instr.sureAddr];simp [hsame w' hw' v hrun],hR,h⟩
theorem qih {x y:Operand} {t t':TypeId} {k:IntKind} {m n r:Int} (hx:qf N s x = .v (.int k m)) (hy:qf N s y = .v (.int k n)) (hr:k.wrap (m - n)=r)
  (h:AQ E N ops rest K (s.put d (.v (.int k r)))):AQ E N ops (⟨d,.binOp .sub t x y t',T,p,af,none⟩::rest) K s:=
 qao _ rfl nofun (fun a w he=>by rw [← hr];simp [execOp,he _ _ hx,he _ _ hy,eqGuard_at_int,binOp,Op.intArith]) h
theorem qfx {x y z:Operand} {t:TypeId} {k k':IntKind} {l:List UInt8} {i j:Nat} (hx:qf N s x=Sv l) (hy:qf N s y = .v (.int k' (i:Int))) (hz:qf N s z = .v (.int k (j:Int))) (hu:E.P.underlying t=some .string) (h1:i≤j) (h2:j≤l.length)
  (h:AQ E N ops rest K (s.put d (Sv ((l.take j).drop i)))):AQ E N ops (⟨d,.slice t x (some y) (some z) none,T,p,af,none⟩::rest) K s:=
 qnv (i:=i) (j:=j) hx hu ⟨_,hy⟩ ⟨_,hz⟩ (by omega) (by omega) (by omega) (by simpa using h)
theorem qft {x:Operand} {ts:Array TypeId} {t0 e:TypeId} {v:AV} {n:Nat} (hx:qf N s x=v) (hl:lenA v=some n) (ht:ts[0]? = some t0) (hu:E.P.underlying t0=some (.slice e))
  (h:AQ E N ops rest K (s.put d (Iv n))):AQ E N ops (⟨d,.call ⟨.builtin .len,#[x],ts⟩,T,p,af,none⟩::rest) K s:=by
 refine qd6 rfl nofun fun B0 w0 G a w _ hI=>?_
 have he:=hI.eval_of hx
 have key:∃ b c,a.eval x = .slice b n c:=by
  generalize a.eval x=u at he
  cases he <;> simp [lenA] at hl
  case v y=>
   cases u <;> simp at hl
   subst hl
   exact⟨_,_,rfl⟩
  case sl0=>subst hl;exact⟨_,_,rfl⟩
  case sl=>subst hl;exact⟨_,_,rfl⟩
  case os=>subst hl;exact⟨_,_,rfl⟩
 obtain⟨b,c,hv⟩:=key
 refine⟨.int .i64 n,Iv n,fun w' _=>?_,.v _,h⟩
 generalize a.eval = ρ at hv
 simp [execOp,resolve,invoke,builtin,Builtin.len_,hv,ht,run_underlying hu,goInt]
theorem qbd {x:Operand} {t:TypeId} {sz:Nat} {agg:Bool} {st loc ext new:List AObj} {k ver off:Nat} {T':TypeId} {cs:List AV} {r:AV} (hs:s.st=((st++loc)++ext)++new) (hx:qf N s x = .bx (st.length+k) ver off) (ho:loc[k]? = some (.cells ver T' cs)) (ht:tyOf E.P t=some (sz,agg)) (hr:jd sz agg off cs=some r)
  (h:AQ E N ops rest K (s.put d r)):AQ E N ops (⟨d,.load t x,T,p,af,none⟩::rest) K s:=
 qpf hx (by rw [hs];exact qck ho) ht hr h
end
end Go.Av
namespace Go.Av
open Go Go.RowKit
section
variable {B0 : Nat} {w0 : World} {G : Gh} {st : List AObj} {w : World}
theorem q8.pubOb (h:q8 B0 w0 G st w) {o ver:Nat} {T:TypeId} {cs:List AV} (ho:st[o]? = some (.cells ver T cs)) :
  ∃ vs:List Value,G.le (G.publish (G.ob o).blk vs)∧q8 B0 w0 (G.publish (G.ob o).blk vs) (st.set o .dead) w∧(G.ob o).ver=ver∧(G.publish (G.ob o).blk vs).pub (G.ob o).blk=some vs∧cs.length=vs.length ∧
   ∀ (i:Nat) (x:AV) (y:Value),cs[i]? = some x→vs[i]? = some y→Rel (G.publish (G.ob o).blk vs) x y:=by
 obtain⟨h0,h1,h2,h3,c,h4,h5,h6⟩:=h.ob o _ ho
 have hle:G.le (G.publish (G.ob o).blk c.toList):=G.le_publish _ _ [] [] (.inl h3)
 refine⟨c.toList,hle,?_,h1,by simp [Gh.publish],by simpa using h5,fun i x y hx hy=>(h6 i x y hx (by simpa using hy)).mono hle⟩
 have key:∀ (k:Nat) (x:AObj),(st.set o .dead)[k]? = some x→x = .dead∨(k≠o∧st[k]? = some x):=fun k x hx=>by
  rcases getElem?_set' _ _ _ _ _ hx with⟨_,e⟩|e
  ·exact .inl e
  ·exact .inr e
 refine⟨h.below,h.hB,by simp [h.n,Gh.publish],fun b vs hb=>?_,fun k x hx=>?_,fun k k' x x' hne hx hx' hl hl'=>?_⟩
 ·simp only [Gh.publish] at hb
  by_cases e:b=(G.ob o).blk
  ·rw [if_pos e] at hb
   cases hb
   subst e
   exact⟨c,T,(0,0),h4,fun i y hy=>by simpa using hy⟩
  ·rw [if_neg e] at hb
   exact h.pub b vs hb
 ·rcases key k x hx with rfl | ⟨hk,hx⟩
  ·trivial
  ·refine (h.ob k x hx).mono hle rfl (fun hl=>?_) (fun _=>rfl)
   have:=h.sep k o x _ hk hx ho hl trivial
   simp [Gh.publish,this]
 ·rcases key k x hx with rfl | ⟨hk,hx⟩
  ·exact hl.elim
  ·rcases key k' x' hx' with rfl | ⟨hk',hx'⟩
   ·exact hl'.elim
   ·exact h.sep k k' x x' hne hx hx' hl hl'
end
section
variable {E : Env} {rd : Option Nat} {N : Nat} {ops : Array Oper} {K : AS → Prop} {s : AS} {rest : List Oper} {d : Option Tmp} {T : TypeId} {p : String} {af : Array Edge}
theorem Inv.pub {B0:Nat} {w0:World} {G:Gh} {a:Act} {w:World} (h:Inv B0 w0 N G s a w) {i o ver:Nat} {T':TypeId} {cs:List AV} (hi:s.t i = .bx o ver 0) (ho:s.st[o]? = some (.cells ver T' cs)) :
  ∃ G',G.le G'∧Inv B0 w0 N G' ⟨Av.put s.t i (.pp cs),s.st.set o .dead,s.df⟩ a w:=by
 obtain⟨vs,hle,hA,hv,hp,hl,hr⟩:=h.agree.pubOb ho
 refine⟨_,hle,hA,h.defers_mono hle,h.size,fun j y hy=>?_⟩
 have hj:=h.tmps j y hy
 by_cases e:j=i
 ·subst e
  simp only [wm]
  rw [hi] at hj
  cases hj with
  |bx _ _ _ b hn hv' hb=>
   have hb:=hb hv
   subst hb
   exact .pp cs _ 0 vs hp (by omega) fun k x y hx hy=>hr k x y hx (by simpa using hy)
 ·simp only
  rw [yw _ _ _ _ e]
  exact hj.mono hle
theorem ve {x y:Operand} {t:TypeId} {sz:Nat} {agg:Bool} {st loc loc' ext new:List AObj} {k ver off:Nat} {T':TypeId} {cs xs:List AV} {r:AV} (hs:s.st=((st++loc)++ext)++new) (hx:qf N s x = .bx (st.length+k) ver off) (hy:qf N s y=r) (ho:loc[k]? = some (.cells ver T' cs)) (ht:tyOf E.P t=some (sz,agg))
  (hok:r.okc=true) (hc:r.cells=xs) (hsz:Nat.beq xs.length sz=true) (h1:kc xs=true) (hfit:Nat.ble (off+sz) cs.length=true) (hl:loc'=loc.set k (.cells ver T' (zu cs off xs)))
  (h:AOps E rd N ops rest K (AS.put ⟨s.t,((st++loc')++ext)++new,s.df⟩ d (.v undef))):AOps E rd N ops (⟨d,.store t x y,T,p,af,none⟩::rest) K s:=by
 have hk:=lt_of_getElem? ho
 exact xw hx hy (by rw [hs];exact qck ho) ht hok hc hsz h1 hfit (by rw [hs,qhj _ hk,← hl];exact h)
end
theorem qfo {α : Type} (l:List α) (a : α):(l++[a]).length=l.length+1:=by simp
theorem qhm {α : Type} (l:List α) (a : α):Iv ((l.length:Int)+1)=Iv ((l++[a]).length:Nat):=by rw [qfo];rfl
theorem qu3 {α : Type} {sz:Nat} {tip:Option Nat} (x0:AV) (g : α→AV) (pre:List α) (a : α) (v:AV) (h:v=g a):AV.sl sz ((x0::pre.map g)++[v]) tip=AV.sl sz (x0::(pre++[a]).map g) tip:=by rw [List.map_append,h];rfl
theorem qxa {E:Env} {rd:Option Nat} {N:Nat} {ops:Array Oper} {K:AS→Prop} {s:AS} {rest:List Oper} {d:Option Tmp} {T:TypeId} {p:String} {af:Array Edge} {t:TypeId} {st loc:List AObj} {cs:List AV} {n:Nat} (hst:s.st=st++loc) (hn:st.length=n) (hz:qhe E.P t=some cs)
  (h:AOps E rd N ops rest K (AS.put ⟨s.t,st++(loc++[.cells 0 t cs]),s.df⟩ d (.bx (n+loc.length) 0 0))):AOps E rd N ops (⟨d,.alloc t,T,p,af,none⟩::rest) K s:=by
 subst hn
 exact zm hst hz h
theorem qbo {E:Env} {rd:Option Nat} {N:Nat} {c:Code} {Q:Exit→AS→Prop} {s:AS} {α : Type} (xs:List α) (I:List α→AS→Prop) (h0:I [] s) (hend:∀ s,I xs s→AWp E rd N c (qtl (fun _=>False) Q) s)
  (hstep:∀ pre a rest s,xs=pre++a::rest→I pre s→AWp E rd N c (qtl (fun s'=>I (pre++[a]) s') Q) s):AWp E rd N (.loop c) Q s:=by
 refine xt (fun (x:List α×List α) s=>xs=x.1++x.2∧I x.1 s) (fun x=>x.2.length) ([],xs) ⟨rfl,h0⟩ ?_
 rintro⟨pre,rest⟩ s ⟨hx,hi⟩
 cases rest with
 |nil=>
  simp only [List.append_nil] at hx
  subst hx
  refine (hend s hi).mono fun e s' h=>?_
  cases e with
  |normal=>exact h.elim
  | _=>exact h
 |cons a rest=>
  refine (hstep pre a rest s hx hi).mono fun e s' h=>?_
  cases e with
  |normal=>exact⟨(pre++[a],rest),⟨by rw [hx];simp,h⟩,by simp⟩
  | _=>exact h
theorem qs5 {E:Env} {fn:Func} {R:AV→List AObj→Prop} {s:AS} {st loc ext new:List AObj} {k:Nat} {ds:List Nat} (hs:s.st=((st++loc)++ext)++new) (hd:s.df=(st.length+k)::ds) (ho:loc[k]? = some .dfr) (h:ARet E fn R ⟨s.t,((st++loc.set k .dead)++ext)++new,ds⟩):ARet E fn R s:=
 qlh hd (by rw [hs];exact qck ho) (by rw [hs,qhj _ (lt_of_getElem? ho)];exact h)
@[reducible] def q34 (F : LoopState → Option Code → AObj) (st : List AObj) (own : AObj) (I : List AObj → Prop) (D : Code → List AObj → Prop) : Exit → AS → Prop
 | .normal,s=>∃ l ext new,s.st=((st++(l++[.dfr,F .busy none,own]))++ext)++new∧I l
 | .ret,s=>∃ l ext new,s.st=((st++(l++[.dfr,F .busy none,own]))++ext)++new∧D .ret l
 | .exit id,s=>∃ l ext new,s.st=((st++(l++[.dfr,F .busy none,own]))++ext)++new∧D (.exit id) l
 | _,_=>False
theorem qxe {E:Env} {o:Nat} {xs:List AV} {st st':List AObj} {R:Bool→List AObj→Prop} (e:st=st') (h:yv E o xs st R):yv E o xs st' R:=e▸h
theorem qcr {st l ext:List AObj} {a b c:AObj} {n:Nat} (hl:l.length=n):(((st++(l++[a,b,c]))++ext))[st.length+(n+1)]? = some b:=by
 subst hl
 rw [List.append_assoc,List.append_assoc,List.getElem?_append_right (by omega),Nat.add_sub_cancel_left,List.getElem?_append_right (by omega)]
 simp
theorem qep {st l ext:List AObj} {a b c y:AObj} {n:Nat} (hl:l.length=n):((st++(l++[a,b,c]))++ext).set (st.length+(n+1)) y=(st++(l++[a,y,c]))++ext:=by
 subst hl
 rw [List.append_assoc,List.append_assoc,List.set_append_right _ _ (by omega),Nat.add_sub_cancel_left,List.set_append_right _ _ (by omega)]
 simp
theorem q5i {E:Env} {N:Nat} {t:Nat→AV} {ps:Array Tmp} {asg body:Code} {st l ext:List AObj} {own:AObj} {n:Nat} {xs:List AV} {F:LoopState→Option Code→AObj} {I:List AObj→Prop} {D:Code→List AObj→Prop} (hF:qk2 F N t ps asg body) (hl:l.length=n) (hps:ps.size=xs.length)
  (hI:∀ l,I l→l.length=n) (hD:∀ c l,D c l→l.length=n)
  (h:∀ rd,AWp E (some rd) N asg (only fun s1=>∃ new,s1.st=((st++(l++[.dfr,F .ready none,own]))++ext)++new∧s1.df=[]∧AWp E (some rd) N body (q34 F st own I D) ⟨s1.t,((st++(l++[.dfr,F .busy none,own]))++ext)++new,[]⟩) ⟨qis t (ps.toList.zip xs),((st++(l++[.dfr,F .ready none,own]))++ext)++[],[]⟩) :
  yv E (st.length+(n+1)) xs ((st++(l++[.dfr,F .ready none,own]))++ext) fun b st2=>∃ l' ext',(b=true→st2=(st++(l'++[.dfr,F .ready none,own]))++ext'∧I l')∧(b=false→∃ c,st2=(st++(l'++[.dfr,F .done (some c),own]))++ext'∧D c l'):=by
 refine qoe hF (qcr hl) hps fun rd=>?_
 have h:=h rd
 rw [List.append_nil] at h
 refine h.mono fun e s1 hq=>?_
 cases e with
 |normal=>
  obtain⟨new,h1,h2,h3⟩:=hq
  refine⟨by rw [h1,List.append_assoc];exact qcr hl,h2,?_⟩
  have e:s1.st.set (st.length+(n+1)) (F .busy none)=((st++(l++[.dfr,F .busy none,own]))++ext)++new:=by
   rw [h1,List.append_assoc,qep hl,List.append_assoc _ ext]
  rw [e]
  refine h3.mono fun e s2 hq2=>?_
  cases e with
  |normal=>
   obtain⟨l',ext',new',k1,k2⟩:=hq2
   exact⟨by rw [k1,List.append_assoc];exact qcr (hI _ k2),l',ext'++new',fun _=>⟨by rw [k1,List.append_assoc,qep (hI _ k2)],k2⟩,nofun⟩
  |ret=>
   obtain⟨l',ext',new',k1,k2⟩:=hq2
   exact⟨by rw [k1,List.append_assoc];exact qcr (hD _ _ k2),l',ext'++new',nofun,fun _=>⟨_,by rw [k1,List.append_assoc,qep (hD _ _ k2)],k2⟩⟩
  |exit id=>
   obtain⟨l',ext',new',k1,k2⟩:=hq2
   exact⟨by rw [k1,List.append_assoc];exact qcr (hD _ _ k2),l',ext'++new',nofun,fun _=>⟨_,by rw [k1,List.append_assoc,qep (hD _ _ k2)],k2⟩⟩
  | _=>exact hq2.elim
 | _=>exact hq.elim
end Go.Av
namespace Go.Pl
open Go Go.Proofs
abbrev Fld:=Bytes×Bytes
def qeh (s:Bytes):Prop:=∀ c∈s,xf c
instance (s:Bytes):Decidable (qeh s):=inferInstanceAs (Decidable (∀ c∈s,xf c))
def wj (s:Bytes):Bytes:=if qeh s∨s.head? = some 46 then 46::s else s
def kw (key p:Bytes):Bytes:=key++[58]++if p=[] then [] else [32]++p
def jf (f:Fld):List Bytes:=kw f.1 ((zq f.2).headD [])::(zq f.2).tail.map fun s=>[32]++wj s
def zj (ls:List Bytes):Bytes:=ls.flatMap fun s=>s++[10]
def jy (xs:List Fld):Bytes:=xs.flatMap fun f=>zj (jf f)
def kr (f:Fld):Int:=if ¬ qdm f.1 then 5 else if 1000<f.2.length then 6 else 0
def jw (f:Fld):Prop:=qdm f.1∧f.2.length≤1000
instance (f:Fld):Decidable (jw f):=inferInstanceAs (Decidable (_∧_))
theorem qcg (f:Fld):kr f=0↔jw f:=by
 unfold kr jw
 by_cases h:qdm f.1
 ·by_cases h2:1000<f.2.length
  ·simp [h,h2]
  ·simp [h,h2];omega
 ·simp [h]
def vn (c:UInt8) (l:Bytes):Bytes:=if l.head? = some c then l.drop 1 else l
theorem qrm (c:UInt8) (l:Bytes):Lib.trimPrefix l [c]=vn c l:=by
 unfold Lib.trimPrefix vn
 rw [qlb]
 simp
def qa7 (l:Bytes) (r:List Bytes):Bytes:=vn 32 (v7 l)++r.flatMap fun s=>[10]++vn 46 (s.drop 1)
def qod (ls:List Bytes):Prop:=ls≠[]∧qy (ls.headD [])=4∧∀ s∈ls.tail,qy s=3
instance (ls:List Bytes):Decidable (qod ls):=inferInstanceAs (Decidable (_∧_∧_))
def jm (ls:List Bytes):Fld×Int:=
 if qod ls then
  if 1000<(qa7 (ls.headD []) ls.tail).length then (([],[]),6) else ((jx (ls.headD []),qa7 (ls.headD []) ls.tail),0)
 else (([],[]),2)
theorem qks (l:Bytes):zq l≠[]:=by
 by_cases h:10∈l
 ·rw [qbc h];simp
 ·rw [qbb h];simp
theorem qpg (l:Bytes):zq l=(zq l).headD []::(zq l).tail:=by
 cases h:zq l with
 |nil=>exact absurd h (qks l)
 |cons a r=>rfl
theorem qkl:∀ (n:Nat) (l:Bytes),l.length≤n→(zq l).headD []++(zq l).tail.flatMap (fun s=>[10]++s)=l
 |n,l,hn=>by
  by_cases h:10∈l
  ·rw [qbc h]
   have hne:l≠[]:=fun e=>by subst e;simp at h
   have hlt:=xa (c:=10) hne
   cases n with
   |zero=>omega
   |succ n=>
    have ih:=qkl n (past 10 l) (by omega)
    simp only [List.headD_cons,List.tail_cons]
    rw [qpg (past 10 l)]
    simp only [List.flatMap_cons]
    rw [List.append_assoc,ih]
    have:=y9 h
    simp [← this]
  ·rw [qbb h];simp
theorem qe1 (l:Bytes):∀ x∈zq l,10∉x:=fun x hx=>(qgm l.length l (Nat.le_refl _) x hx).2
theorem qmv (l:Bytes):∀ x∈zq l,x.length≤l.length:=fun x hx=>(qgm l.length l (Nat.le_refl _) x hx).1
theorem qny (l:Bytes):(zq l).headD []∈zq l:=by
 have h:=qks l
 cases e:zq l with
 |nil=>exact absurd e h
 |cons a r=>simp
theorem qx2 (s:Bytes):vn 46 (wj s)=s:=by
 unfold wj vn
 by_cases h:qeh s∨s.head? = some 46
 ·rw [if_pos h];simp
 ·rw [if_neg h,if_neg (fun h'=>h (.inr h'))]
theorem qq0 (s:Bytes):¬ qeh (wj s):=by
 unfold wj
 by_cases h:qeh s∨s.head? = some 46
 ·rw [if_pos h]
  intro h'
  have:=h' 46 (by simp)
  revert this;decide
 ·rw [if_neg h]
  exact fun h'=>h (.inl h')
theorem qpc {s:Bytes} (h:10∉s):10∉wj s:=by
 unfold wj
 split
 ·simp [h]
 ·exact h
theorem qr5 (s:Bytes):(wj s).length≤s.length+1:=by
 unfold wj
 split <;> simp
theorem qrs (s:Bytes) (h:10∉s):qy ([32]++wj s)=3:=by
 have hn:=qpc h
 have hb:=qq0 s
 unfold qy
 have h10:10∉([32]++wj s):=by simp [hn]
 rw [if_neg h10,if_neg (fun h'=>hb fun c hc=>h' c (by simp [hc])),if_neg (by simp),if_pos ⟨32,by simp,.inl rfl⟩]
theorem qjg {k r:Bytes} (h:58∉k):jx (k++[58]++r)=k:=by
 unfold jx
 induction k with
 |nil=>simp
 |cons a k ih=>
  simp only [List.mem_cons,not_or] at h
  have:(58:UInt8)≠a:=h.1
  simp only [List.cons_append,List.takeWhile_cons]
  rw [if_pos (by simpa using fun e=>this e.symm)]
  rw [ih h.2]
theorem qvw {k r:Bytes} (h:58∉k):v7 (k++[58]++r)=r:=by
 unfold v7
 rw [qjg h]
 rw [List.drop_append_of_le_length (by simp)]
 simp
theorem qiw {k:Bytes} (h:qdm k):∃ c,k.head? = some c∧¬ xf c∧c≠35:=by
 obtain⟨h1,h2,h3,h4,h5,h6⟩:=h
 cases k with
 |nil=>exact absurd rfl h1
 |cons a r=>exact⟨a,rfl,fun hb=>h3 ⟨a,rfl,hb⟩,fun e=>h4 (by simp [e])⟩
theorem qsq {k p:Bytes} (h:qdm k) (hp:10∉p):qy (kw k p)=4:=by
 obtain⟨c,hc,hb,h35⟩:=qiw h
 have hk10:10∉k:=h.2.2.2.2.2
 have hk58:58∉k:=h.2.2.2.2.1
 have hh:(kw k p).head? = some c:=by
  unfold kw
  cases k with
  |nil=>simp at hc
  |cons a r=>simpa using hc
 have e:kw k p=k++[58]++(if p=[] then [] else [32]++p):=rfl
 have h10:10∉kw k p:=by
  rw [e]
  split <;> simp [hk10,hp]
 have hmem:c∈kw k p:=List.mem_of_head? hh
 unfold qy
 rw [if_neg h10,if_neg (fun h'=>hb (h' c hmem)),if_neg (by rw [hh];simpa using h35),if_neg (fun ⟨d,hd,hd'⟩=>by rw [hh] at hd;cases hd;exact hb hd')]
 rw [if_pos]
 refine⟨by rw [e];simp,?_⟩
 rw [e,qjg hk58]
 exact h
theorem q4t (k p:Bytes) (h:58∉k):vn 32 (v7 (kw k p))=p:=by
 unfold kw
 rw [qvw h]
 by_cases hp:p=[]
 ·rw [if_pos hp];simp [vn,hp]
 ·rw [if_neg hp];simp [vn]
theorem qtc {f:Fld} (h:jw f):jm (jf f)=(f,0):=by
 obtain⟨hk,hv⟩:=h
 have hk58:58∉f.1:=hk.2.2.2.2.1
 have h10:=qe1 f.2
 have hval:qa7 (kw f.1 ((zq f.2).headD [])) ((zq f.2).tail.map fun s=>[32]++wj s)=f.2:=by
  unfold qa7
  rw [q4t _ _ hk58]
  have:((zq f.2).tail.map fun s=>[32]++wj s).flatMap (fun s=>[10]++vn 46 (s.drop 1))=(zq f.2).tail.flatMap (fun s=>[10]++s):=by
   rw [List.flatMap_map]
   congr 1
   funext s
   simp [qx2]
  rw [this,qkl _ _ (Nat.le_refl _)]
 unfold jm jf
 rw [if_pos]
 ·simp only [List.headD_cons,List.tail_cons]
  refine (if_neg (by rw [hval];omega)).trans ?_
  have:jx (kw f.1 ((zq f.2).headD []))=f.1:=qjg hk58
  rw [this,hval]
 ·refine⟨by simp,?_,?_⟩
  ·simp only [List.headD_cons]
   exact qsq hk (h10 _ (qny _))
  ·intro s hs
   simp only [List.tail_cons,List.mem_map] at hs
   obtain⟨x,hx,rfl⟩:=hs
   exact qrs x (h10 x (List.mem_of_mem_tail hx))
end Go.Pl
namespace Go.Av
open Go Go.RowKit
section
variable {E : Env} {rd : Option Nat} {N : Nat} {ops : Array Oper} {K : AS → Prop} {s : AS} {rest : List Oper} {d : Option Tmp} {T : TypeId} {p : String} {af : Array Edge}
theorem qah {t e:TypeId} {len sz:Nat} {agg:Bool} {parts:Array (Nat×Operand)} {zs cs:List AV} {st loc:List AObj} (hst:s.st=st++loc) (hu:E.P.underlying t=some (.slice e)) (ht:tyOf E.P e=some (sz,agg)) (hz:qfd E.P e len=some zs)
  (hf:qb6 (fun i=>some (i * sz,sz)) zs (vk N s parts)=some cs) (hsz:Nat.ble (len * sz) 16777216=true)
  (h:AOps E rd N ops rest K (AS.put ⟨s.t,st++(loc++[.cells 0 e cs]),s.df⟩ d (.os (st.length+loc.length) 0 0 len len))):AOps E rd N ops (⟨d,.buildSlice t len parts,T,p,af,none⟩::rest) K s:=by
 refine qx rfl (qw nofun fun B0 w0 G a w _ hI=>?_)
 obtain⟨c',hrun,h2⟩:=qjn (d:=d) (T:=T) (p:=p) (af:=af) hI hu ht hz hf hsz
 have hA:=hI.agree.newCells e c' cs h2.1 h2.2
 have hn:=hI.agree.n
 rw [hst] at hA hn
 simp only [List.append_assoc,List.length_append] at hA hn
 exact⟨_,_,_,_,_,hrun,G.le_new _ _ _ _,hA,.os _ _ _ _ _ _ (by simp [Gh.new,hn]) (Nat.zero_le _) (fun _=>by simp [Gh.new,hn]),h⟩
theorem q8.ownTip {B0:Nat} {w0:World} {G:Gh} {st:List AObj} {w:World} (h:q8 B0 w0 G st w) {o sz len cap:Nat} {T:TypeId} {cs:List AV} {xs:List AV} (ho:st[o]? = some (.cells 0 T cs)) (hc:cs.length=cap * sz) (hlen:xs.length=len) (h0:0<len) (hle:len≤cap) (hcm:cap≤maxLen) (hw:∀ x∈xs,x.cells.length=sz) (hfl:flat xs=cs.take (len * sz)) :
  ∃ G',G.le G'∧q8 B0 w0 G' (st.set o (.tip len sz T)) w∧Rel G' (.sl sz xs (some o)) (.slice (some ⟨(G.ob o).blk,0,none⟩) len cap):=by
 subst hlen
 have hon:=lt_of_getElem? ho
 obtain⟨g0,g1,g2,g3,c,g4,g5,g6⟩:=h.ob o _ ho
 have hle1:G.le (G.publish (G.ob o).blk (c.toList.take (xs.length * sz))):=G.le_publish _ _ [] [] (.inl g3)
 -- dead, published
 have key:∀ (k:Nat) (x:AObj),(st.set o .dead)[k]? = some x→x = .dead∨(k≠o∧st[k]? = some x):=fun k x hx=>by
  rcases getElem?_set' _ _ _ _ _ hx with⟨_,e⟩|e
  ·exact .inl e
  ·exact .inr e
 have hA1:q8 B0 w0 (G.publish (G.ob o).blk (c.toList.take (xs.length * sz))) (st.set o .dead) w:=by
  refine⟨h.below,h.hB,by simp [h.n,Gh.publish],fun b vs hb=>?_,fun k x hx=>?_,fun k k' x x' hne hx hx' hl hl'=>?_⟩
  ·simp only [Gh.publish] at hb
   by_cases e:b=(G.ob o).blk
   ·rw [if_pos e] at hb
    cases hb
    subst e
    refine⟨c,T,(0,0),g4,fun i y hy=>?_⟩
    rw [List.getElem?_take] at hy
    split at hy
    ·simpa using hy
    ·simp at hy
   ·rw [if_neg e] at hb
    exact h.pub b vs hb
  ·rcases key k x hx with rfl | ⟨hk,hx⟩
   ·trivial
   ·refine (h.ob k x hx).mono hle1 rfl (fun hl=>?_) (fun _=>rfl)
    have:=h.sep k o x _ hk hx ho hl trivial
    simp [Gh.publish,this]
  ·rcases key k x hx with rfl | ⟨hk,hx⟩
   ·exact hl.elim
   ·rcases key k' x' hx' with rfl | ⟨hk',hx'⟩
    ·exact hl'.elim
    ·exact h.sep k k' x x' hne hx hx' hl hl'
 have hvl:(c.toList.take (xs.length * sz)).length=xs.length * sz:=by
  have:xs.length * sz≤cap * sz:=Nat.mul_le_mul_right _ hle
  simp
  omega
 obtain⟨hle2,hA2⟩:=hA1.setTip (t:=o) (n:=0) (n':=xs.length) (k:=(G.ob o).blk) (cap:=c.size) (sz:=sz) (T:=T) (c:=c) (vs:=c.toList.take (xs.length * sz)) (by simp [hon]) g0 g1 h0 g4 (by simp [Gh.publish]) hvl rfl g2 (fun k x hx hl=>by
  rcases key k x hx with rfl | ⟨hk,hx⟩
  ·exact hl.elim
  ·exact h.sep k o x _ hk hx ho hl trivial)
 rw [List.set_set] at hA2
 refine⟨_,hle1.trans hle2,hA2,?_⟩
 have hgn:o<G.n:=by rw [h.n];exact hon
 refine .sl sz xs (some o) (G.ob o).blk 0 cap (c.toList.take (xs.length * sz)) (by simp [Gh.setOb,Gh.publish]) hw (by rw [hfl,hvl];simp;omega) (fun i x y h1 h2=>?_) (fun t ht=>?_) (by omega)
 ·rw [hfl] at h1
  rw [Nat.zero_add] at h2
  rw [List.getElem?_take] at h1 h2
  split at h1
  ·rename_i hi
   rw [if_pos hi] at h2
   exact ((g6 i x y h1 (by simpa using h2)).mono hle1).mono hle2
  ·simp at h1
 ·simp only [Option.some.injEq] at ht
  subst ht
  refine⟨by simpa [Gh.setOb,Gh.publish] using hgn,by omega,by simp [Gh.setOb],fun _=>⟨by simp [Gh.setOb],rfl,by simp [Gh.setOb,← g5,hc],hcm,by omega⟩⟩
theorem Inv.osTip {B0:Nat} {w0:World} {G:Gh} {a:Act} {w:World} (h:Inv B0 w0 N G s a w) {i o sz len cap:Nat} {T':TypeId} {cs xs:List AV} (hi:s.t i = .os o 0 0 len cap) (ho:s.st[o]? = some (.cells 0 T' cs)) (hc:cs.length=cap * sz) (hlen:xs.length=len) (h0:0<len) (hle:len≤cap) (hcm:cap≤maxLen) (hw:∀ x∈xs,x.cells.length=sz) (hfl:flat xs=cs.take (len * sz)) :
  ∃ G',G.le G'∧Inv B0 w0 N G' ⟨Av.put s.t i (.sl sz xs (some o)),s.st.set o (.tip len sz T'),s.df⟩ a w:=by
 obtain⟨G',hG,hA,hR⟩:=h.agree.ownTip ho hc hlen h0 hle hcm hw hfl
 obtain⟨_,g1,_⟩:=h.agree.ob o _ ho
 refine⟨G',hG,hA,h.defers_mono hG,h.size,fun j y hy=>?_⟩
 have hj:=h.tmps j y hy
 by_cases e:j=i
 ·subst e
  simp only [wm]
  rw [hi] at hj
  cases hj with
  |os _ _ _ _ b _ hn hv hb=>
   have hb:=hb g1
   subst hb
   exact hR
 ·simp only
  rw [yw _ _ _ _ e]
  exact hj.mono hG
theorem qrv {c:Code} {Q:Exit→AS→Prop} (i:Nat) {o sz len cap:Nat} {T':TypeId} {cs xs:List AV} (hi:s.t i = .os o 0 0 len cap) (ho:s.st[o]? = some (.cells 0 T' cs)) (hc:cs.length=cap * sz) (hlen:xs.length=len) (h0:0<len) (hle:len≤cap) (hcm:cap≤maxLen) (hw:∀ x∈xs,x.cells.length=sz) (hfl:flat xs=cs.take (len * sz))
  (h:AWp E rd N c Q ⟨Av.put s.t i (.sl sz xs (some o)),s.st.set o (.tip len sz T'),s.df⟩):AWp E rd N c Q s:=
 ⟨fun B0 w0 G a w hL hI=>let ⟨G1,h1,h2⟩:=hI.osTip hi ho hc hlen h0 hle hcm hw hfl;wpIn_mono (h.run B0 w0 _ a w hL h2) fun _ _ _ ⟨G',s',hG,k1,k2⟩=>⟨G',s',h1.trans hG,k1,k2⟩⟩
theorem qz5 {l:List Oper} (i:Nat) {o sz len cap:Nat} {T':TypeId} {cs xs:List AV} (hi:s.t i = .os o 0 0 len cap) (ho:s.st[o]? = some (.cells 0 T' cs)) (hc:cs.length=cap * sz) (hlen:xs.length=len) (h0:0<len) (hle:len≤cap) (hcm:cap≤maxLen) (hw:∀ x∈xs,x.cells.length=sz) (hfl:flat xs=cs.take (len * sz))
  (h:AOps E rd N ops l K ⟨Av.put s.t i (.sl sz xs (some o)),s.st.set o (.tip len sz T'),s.df⟩):AOps E rd N ops l K s:=
 ⟨fun B0 w0 G a w hL hI Q hQ=>let ⟨G1,h1,h2⟩:=hI.osTip hi ho hc hlen h0 hle hcm hw hfl;h.run B0 w0 _ a w hL h2 Q fun G' s' a' w' hG k1 k2=>hQ G' s' a' w' (h1.trans hG) k1 k2⟩
theorem Inv.osPub {B0:Nat} {w0:World} {G:Gh} {a:Act} {w:World} (h:Inv B0 w0 N G s a w) {i o ver off sz len cap:Nat} {T':TypeId} {cs xs:List AV} (hi:s.t i = .os o ver off len cap) (ho:s.st[o]? = some (.cells ver T' cs)) (hlen:xs.length=len) (hle:len≤cap) (hw:∀ x∈xs,x.cells.length=sz) (hin:off+len * sz≤cs.length) (hfl:flat xs=(cs.drop off).take (len * sz)) :
  ∃ G',G.le G'∧Inv B0 w0 N G' ⟨Av.put s.t i (.sl sz xs none),s.st.set o .dead,s.df⟩ a w:=by
 obtain⟨vs,hle1,hA,hv,hp,hl,hr⟩:=h.agree.pubOb ho
 refine⟨_,hle1,hA,h.defers_mono hle1,h.size,fun j y hy=>?_⟩
 have hj:=h.tmps j y hy
 by_cases e:j=i
 ·subst e
  simp only [wm]
  rw [hi] at hj
  cases hj with
  |os _ _ _ _ b _ hn hv' hb=>
   have hb:=hb hv
   subst hb
   rw [← hlen]
   refine .sl sz xs none _ off cap vs hp hw (by rw [hfl];simp;omega) (fun k x y hx hy=>?_) (fun t ht=>by simp at ht) (by omega)
   rw [hfl,List.getElem?_take] at hx
   split at hx
   ·rw [List.getElem?_drop] at hx
    exact hr _ x y hx hy
   ·simp at hx
 ·simp only
  rw [yw _ _ _ _ e]
  exact hj.mono hle1
theorem q29 {l:List Oper} (i:Nat) {x r:AV} (hi:s.t i=x) (hw:∀ G v,Rel G x v→Rel G r v) (h:AOps E rd N ops l K ⟨Av.put s.t i r,s.st,s.df⟩):AOps E rd N ops l K s:=
 ⟨fun B0 w0 G a w hL hI Q hQ=>h.run B0 w0 G a w hL ⟨hI.agree,hI.defers,hI.size,fun j y hy=>by
  have hj:=hI.tmps j y hy
  by_cases e:j=i
  ·subst e;simp only [wm];rw [hi] at hj;exact hw G y hj
  ·simp only;rw [yw _ _ _ _ e];exact hj⟩ Q hQ⟩
theorem qo1 {P:Program} {t e:TypeId} {sz:Nat} {agg:Bool} (hu:P.underlying t=some (.slice e)) (ht:tyOf P e=some (sz,agg)) (a:Option Addr) (len cap:Nat) (lo hi:Option Value) (i j:Nat) (w:World)
  (hlo:match lo with|none=>i=0|some v=>∃ k,v = .int k (i:Int)) (hhi:match hi with|none=>j=len|some v=>(∃ k,v = .int k (j:Int))∧j≤cap) (h1:i≤j) :
  (Instr.slice t (.slice a len cap) lo hi none).run P w = .ok (.slice (if cap=i then a else a.map (·.add (i * sz))) (j - i) (cap - i)) w:=by
 have hs:=(ke ht w).1
 cases lo with
 |none=>
  simp only at hlo
  subst hlo
  cases hi with
  |none=>
   simp only at hhi
   subst hhi
   simp [Instr.slice,run_underlying hu,Instr.sliceBounds,hs]
  |some v=>
   obtain⟨⟨k,rfl⟩,h2⟩:=hhi
   simp [Instr.slice,run_underlying hu,Instr.sliceBounds,Instr.sliceBound,asIntOf,hs,h2]
 |some u=>
  obtain⟨k',rfl⟩:=hlo
  cases hi with
  |none=>
   simp only at hhi
   subst hhi
   simp [Instr.slice,run_underlying hu,Instr.sliceBounds,Instr.sliceBound,asIntOf,hs,h1]
  |some v=>
   obtain⟨⟨k,rfl⟩,h2⟩:=hhi
   simp [Instr.slice,run_underlying hu,Instr.sliceBounds,Instr.sliceBound,asIntOf,hs,h1,h2]
theorem qqf {G:Gh} {sz:Nat} {xs:List AV} {tip:Option Nat} {a:Option Addr} {len cap:Nat} (h:Rel G (.sl sz xs tip) (.slice a len cap)) {i j:Nat} (h1:i≤j) (h2:j≤xs.length) :
  len=xs.length∧len≤cap∧Rel G (.sl sz ((xs.take j).drop i) none) (.slice (if cap=i then a else a.map (·.add (i * sz))) (j - i) (cap - i)):=by
 cases h with
 |sl0=>
  simp at h2
  subst h2
  have:i=0:=by omega
  subst this
  refine⟨rfl,Nat.zero_le _,?_⟩
  simp
  exact .sl0 sz none _ _ (by simp)
 |sl _ _ _ b off cap pub hp hw hlen hr ht hcap=>
  refine⟨rfl,hcap,?_⟩
  have hl:((xs.take j).drop i).length=j - i:=by simp;omega
  by_cases hji:j=i
  ·subst hji
   have e:(xs.take j).drop j=[]:=List.length_eq_zero_iff.1 (by rw [hl];omega)
   rw [e,Nat.sub_self]
   exact .sl0 sz none _ _ (by simp)
  ·have hne:cap≠i:=by omega
   rw [if_neg hne]
   simp only [Option.map_some]
   have hadd:Addr.add ⟨b,off,none⟩ (i * sz)=⟨b,off+i * sz,none⟩:=Addr.add_lit ..
   rw [hadd,← hl]
   have hw':∀ x∈(xs.take j).drop i,x.cells.length=sz:=fun x hx=>hw x (List.mem_of_mem_take (List.mem_of_mem_drop hx))
   have hfx:(flat xs).length=xs.length * sz:=z0 hw
   have hsplit:flat xs=flat (xs.take i)++flat ((xs.take j).drop i)++flat (xs.drop j):=by
    have e:xs.take i++(xs.take j).drop i=xs.take j:=by
     conv=>rhs;rw [← List.take_append_drop i (xs.take j),List.take_take,Nat.min_eq_left h1]
    rw [← wv,← wv,e,List.take_append_drop]
   have hti:(flat (xs.take i)).length=i * sz:=by
    rw [z0 (fun x hx=>hw x (List.mem_of_mem_take hx)),List.length_take,Nat.min_eq_left (by omega)]
   have hmid:(flat ((xs.take j).drop i)).length=(j - i) * sz:=by rw [z0 hw',hl]
   refine .sl sz _ none b (off+i * sz) (cap - i) pub hp hw' ?_ (fun k x y hx hy=>?_) (fun t ht=>by simp at ht) (by rw [hl];omega)
   ·have:=congrArg List.length hsplit
    simp only [List.length_append] at this
    omega
   ·refine hr (i * sz+k) x y ?_ (by rw [← hy];congr 1;omega)
    have hk:=lt_of_getElem? hx
    rw [hsplit,List.append_assoc,List.getElem?_append_right (by omega),hti,Nat.add_sub_cancel_left,List.getElem?_append_left hk]
    exact hx
theorem qx9 {x:Operand} {t e:TypeId} {lo hi:Option Operand} {sz:Nat} {agg:Bool} {xs ys:List AV} {tip:Option Nat} {i j:Nat} (hx:qf N s x = .sl sz xs tip) (hu:E.P.underlying t=some (.slice e)) (ht:tyOf E.P e=some (sz,agg))
  (hlo:match lo with|none=>i=0|some y=>∃ k,qf N s y = .v (.int k (i:Int))) (hhi:match hi with|none=>j=xs.length|some y=>∃ k,qf N s y = .v (.int k (j:Int))) (h1:i≤j) (h2:j≤xs.length) (hy:(xs.take j).drop i=ys)
  (h:AOps E rd N ops rest K (s.put d (.sl sz ys none))):AOps E rd N ops (⟨d,.slice t x lo hi none,T,p,af,none⟩::rest) K s:=by
 subst hy
 refine qx rfl (qw nofun fun B0 w0 G a w _ hI=>?_)
 have he:=hI.eval_of hx
 generalize hv:a.eval x=v at he
 have hsl:∃ b len cap,v = .slice b len cap:=by cases he <;> exact⟨_,_,_,rfl⟩
 obtain⟨b,len,cap,rfl⟩:=hsl
 obtain⟨hl,hlc,hr⟩:=qqf he h1 h2
 refine⟨_,w,G,_,s.st,?_,.refl G,hI.agree,hr,h⟩
 have hrun:=qo1 hu ht b len cap (lo.map a.eval) (hi.map a.eval) i j w (by
  cases lo with
  |none=>exact hlo
  |some y=>obtain⟨k,hy⟩:=hlo;exact⟨k,hI.evalv hy⟩) (by
  cases hi with
  |none=>simp only at hhi;simp only [Option.map_none];omega
  |some y=>obtain⟨k,hy⟩:=hhi;exact⟨⟨k,hI.evalv hy⟩,by omega⟩) h1
 generalize a.eval = ρ at hv hrun
 simp only [execOp,hv]
 simp [Instr.sliceAt,run_underlying hu,hrun]
theorem wi {x y:Operand} {t e:TypeId} {sz:Nat} {agg:Bool} {xs ys:List AV} {tip:Option Nat} {k:IntKind} {i:Nat} (hx:qf N s x = .sl sz xs tip) (hy:qf N s y = .v (.int k (i:Int))) (hu:E.P.underlying t=some (.slice e)) (ht:tyOf E.P e=some (sz,agg)) (h1:i≤xs.length) (hz:xs.drop i=ys)
  (h:AOps E rd N ops rest K (s.put d (.sl sz ys none))):AOps E rd N ops (⟨d,.slice t x (some y) none none,T,p,af,none⟩::rest) K s:=
 qx9 (i:=i) (j:=xs.length) hx hu ht ⟨k,hy⟩ rfl h1 (Nat.le_refl _) (by rw [List.take_length];exact hz) h
end
end Go.Av
namespace Go.Av
open Go Go.RowKit
inductive Vec (sz:Nat) (T:TypeId) (o:Nat) (xs:List AV):AV→AObj→Prop
 |nil (h:xs=[]):Vec sz T o xs zp (.tip 0 sz T)
 |os (ver cap:Nat) (pad:List AV) (hl:(flat xs++pad).length=cap * sz) (hw:∀ x∈xs,x.cells.length=sz) (hle:xs.length≤cap) (hcm:cap≤maxLen):Vec sz T o xs (.os o ver 0 xs.length cap) (.cells ver T (flat xs++pad))
section
variable {B0 : Nat} {w0 : World} {G : Gh} {st : List AObj} {w : World}
theorem q8.setCells (h:q8 B0 w0 G st w) {t k cap v':Nat} {T:TypeId} {cs:List AV} (ht:st[t]? = some .dead) (hraw:(G.ob t).raw=false) (hver:(G.ob t).ver<v')
  {c:Array Value} (hc:w.heap[k]? = some (.cells c T (0,0))) (hp:G.pub k=none) (hl:cs.length=c.size) (hr:∀ (i:Nat) (x:AV) (y:Value),cs[i]? = some x→c[i]? = some y→Rel G x y) (hk:B0≤k) (hs:∀ o x,st[o]? = some x→x.live→(G.ob o).blk≠k) :
  G.le (G.setOb t ⟨v',k,cap,false⟩)∧q8 B0 w0 (G.setOb t ⟨v',k,cap,false⟩) (st.set t (.cells v' T cs)) w:=by
 have hle:=G.le_setOb t ⟨v',k,cap,false⟩ hver hraw
 have hob:∀ o,o≠t→(G.setOb t ⟨v',k,cap,false⟩).ob o=G.ob o:=fun o ho=>by simp [Gh.setOb,ho]
 have hobt:(G.setOb t ⟨v',k,cap,false⟩).ob t=⟨v',k,cap,false⟩:=by simp [Gh.setOb]
 refine⟨hle,h.below,h.hB,by simp [h.n,Gh.setOb],h.pub,fun o x hx=>?_,fun o o' x x' hne hx hx' hl1 hl2=>?_⟩
 ·rcases getElem?_set' _ _ _ _ _ hx with⟨rfl,rfl⟩ | ⟨ho,hx⟩
  ·exact⟨by rw [hobt],by rw [hobt],by rw [hobt];exact hk,by rw [hobt];exact hp,c,by rw [hobt];exact hc,hl,fun i x y h1 h2=>(hr i x y h1 h2).mono hle⟩
  ·exact (h.ob o x hx).mono hle (hob o ho) (fun _=>rfl) (fun _=>rfl)
 ·rcases getElem?_set' _ _ _ _ _ hx with⟨e1,e2⟩ | ⟨ho,hx⟩
  ·rcases getElem?_set' _ _ _ _ _ hx' with⟨e3,_⟩ | ⟨ho',hx'⟩
   ·exact absurd (e1.trans e3.symm) hne
   ·rw [e1,hobt,hob o' ho']
    exact (hs o' x' hx' hl2).symm
  ·rcases getElem?_set' _ _ _ _ _ hx' with⟨e3,_⟩ | ⟨ho',hx'⟩
   ·rw [e3,hobt,hob o ho]
    exact hs o x hx hl1
   ·rw [hob o ho,hob o' ho']
    exact h.sep o o' x x' hne hx hx' hl1 hl2
theorem qaa {G:Gh} {cs ds:List AV} {vs us:List Value} (hl:cs.length=vs.length) (h1:∀ (i:Nat) (x:AV) (y:Value),cs[i]? = some x→vs[i]? = some y→Rel G x y) (h2:∀ (i:Nat) (x:AV) (y:Value),ds[i]? = some x→us[i]? = some y→Rel G x y) :
  ∀ (i:Nat) (x:AV) (y:Value),(cs++ds)[i]? = some x→(vs++us)[i]? = some y→Rel G x y:=fun i x y hx hy=>by
 by_cases hi:i<cs.length
 ·rw [List.getElem?_append_left hi] at hx
  rw [List.getElem?_append_left (by omega)] at hy
  exact h1 i x y hx hy
 ·rw [List.getElem?_append_right (by omega)] at hx
  rw [List.getElem?_append_right (by omega),← hl] at hy
  exact h2 _ x y hx hy
theorem qtd {P:Program} (hA:q8 B0 w0 G st w) {tt u ty T:TypeId} {du:TypeDesc} (htt:P.underlying tt=some (.slice T)) (hu:P.underlying u=some du) (hd:qhk du)
  {sz bytes:Nat} (hT:x2 P T sz bytes) {o:Nat} {xs ys:List AV} {a:AV} {ob:AObj} {v x:Value} (hV:Vec sz T o xs a ob) (ho:st[o]? = some ob) (hv:Rel G a v)
  {news:List Value} (hx:Src P w x ys.length sz news) (hys:∀ y∈ys,y.cells.length=sz) (hrel:∀ (i:Nat) (a:AV) (b:Value),(flat ys)[i]? = some a→news[i]? = some b→Rel G a b)
  (h63:xs.length+ys.length≤maxLen) (hbytes:(xs.length+ys.length) * bytes≤140737488355328) :
  ∃ v' w' G' a' ob',(Builtin.append_ #[tt,u] ty #[v,x]).run P w = .ok v' w'∧G.le G'∧q8 B0 w0 G' (st.set o ob') w'∧Rel G' a' v'∧Vec sz T o (xs++ys) a' ob':=by
 obtain⟨i,z,hi,hz,rfl,rfl,hzs⟩:=hT.ex
 have hon:=lt_of_getElem? ho
 have htn:o<G.n:=by rw [hA.n];exact hon
 have hraw:(G.ob o).raw=false:=by
  have:=hA.ob o _ ho
  cases hV with
  |nil h=>exact this.1
  |os=>exact this.1
 have hk:=hA.kill o
 have hkt:(st.set o .dead)[o]? = some .dead:=qaf ho
 have hother:∀ k x,(st.set o .dead)[k]? = some x→x.live→k≠o∧st[k]? = some x:=fun k x hx hl=>by
  rcases getElem?_set' _ _ _ _ _ hx with⟨_,e⟩ | ⟨h1,h2⟩
  ·subst e;exact hl.elim
  ·exact⟨h1,h2⟩
 have hself:st.set o ob=st:=by
  apply List.ext_getElem?
  intro k
  by_cases e:o=k
  ·subst e;rw [List.getElem?_set_self hon];exact ho.symm
  ·rw [List.getElem?_set_ne e]
 have hfy:(flat ys).length=ys.length * i.size:=z0 hys
 have grow:∀ (base:Option Addr) (c:Nat) (olds:List Value),(Builtin.firstCells i.size xs.length (.slice base xs.length c)).run P w.drew = .ok olds.toArray w.drew→c<xs.length+ys.length→olds.length=xs.length * i.size→(∀ x∈xs,x.cells.length=i.size) →
   (∀ (j:Nat) (a:AV) (b:Value),(flat xs)[j]? = some a→olds[j]? = some b→Rel G a b)→Builtin.nextslicecap (xs.length+ys.length) c * i.bytes≤281474976710656 →
   ∃ v' w' G' a' ob',(Builtin.append_ #[tt,u] ty #[.slice base xs.length c,x]).run P w = .ok v' w'∧G.le G'∧q8 B0 w0 G' (st.set o ob') w'∧Rel G' a' v'∧Vec i.size T o (xs++ys) a' ob':=by
  intro base c olds hold hc hol hwx hrx hfit
  have hfx:(flat xs).length=xs.length * i.size:=z0 hwx
  have hrun:=qe2 (ty:=ty) htt hu hd hi hz hx base xs.length c olds hold hc (by simp only [maxLen] at h63;omega) hfit
  have hge:=grownCap_ge w (xs.length+ys.length) c T
  have hle:=grownCap_le_maxLen w (xs.length+ys.length) c T h63
  generalize grownCap w (xs.length+ys.length) c T=cap at hrun hge hle
  generalize hzc:(Builtin.zeroCells z.cells (cap - (xs.length+ys.length)))=zc at hrun
  have hzl:zc.size=(cap - (xs.length+ys.length)) * i.size:=by rw [← hzc,size_zeroCells,hzs]
  have hdrew:Below w.heap.size w w.drew:=⟨rfl,rfl,rfl,Nat.le_refl _,fun _ _=>rfl⟩
  have hcl:(flat (xs++ys)++zc.toList.map AV.v).length=(olds.toArray++news.toArray++zc).size:=by
   rw [wv]
   simp [hfx,hfy,hol,hx.count]
   omega
  have hA1:=(hk.fresh hdrew).fresh (w':=w.drew.alloc (.cells (olds.toArray++news.toArray++zc) T)) ⟨rfl,rfl,rfl,by simp [World.alloc],fun b hb=>x7 _ _ _ hb⟩
  have hnp:G.pub w.heap.size=none:=by
   cases hp:G.pub w.heap.size with
   |none=>rfl
   |some vs=>exact absurd (hA.pub_lt hp) (Nat.lt_irrefl _)
  obtain⟨hle2,hA2⟩:=hA1.setCells (t:=o) (k:=w.heap.size) (cap:=0) (v':=(G.ob o).ver+1) (T:=T) (cs:=flat (xs++ys)++zc.toList.map AV.v) hkt hraw (Nat.lt_succ_self _) (x9 w.drew _) hnp hcl (by
   have h1:=qaa (G:=G) (cs:=flat xs) (ds:=flat ys) (vs:=olds) (us:=news) (by omega) hrx hrel
   have h2:=qaa (G:=G) (cs:=flat xs++flat ys) (ds:=zc.toList.map AV.v) (vs:=olds++news) (us:=zc.toList) (by simp [hfx,hfy,hol,hx.count]) h1 (fun j a b h1 h2=>by
    rw [List.getElem?_map,h2] at h1
    simp at h1
    subst h1
    exact .v _)
   rw [wv]
   intro j a b g1 g2
   exact h2 j a b g1 (by rw [← g2];simp [← Array.getElem?_toList])) hA.hB (fun k x hx hl=>by
   obtain⟨_,hx'⟩:=hother k x hx hl
   exact Nat.ne_of_lt ((hA.ob k x hx').lt hl))
  rw [List.set_set] at hA2
  refine⟨_,_,_,_,_,hrun,hle2,hA2,.os o ((G.ob o).ver+1) 0 (xs.length+ys.length) w.heap.size cap (by simpa [Gh.setOb] using htn) (by simp [Gh.setOb]) (fun _=>by simp [Gh.setOb]),?_⟩
  have:=Vec.os (o:=o) (T:=T) (xs:=xs++ys) ((G.ob o).ver+1) cap (zc.toList.map AV.v) (sz:=i.size) (by
   have h1:zc.toList.length=(cap - (xs.length+ys.length)) * i.size:=by rw [← hzl];simp
   rw [List.length_append,wv,List.length_append,hfx,hfy,List.length_map,h1,← Nat.add_mul,← Nat.add_mul]
   congr 1
   omega) (fun y hy=>by
   rcases List.mem_append.1 hy with h|h
   ·exact hwx y h
   ·exact hys y h) (by simpa using hge) hle
  rw [List.length_append] at this
  exact this
 cases hV with
 |nil h=>
  subst h
  cases hv with
  |v _=>
  by_cases hm0:ys.length=0
  ·have hy0:ys=[]:=List.eq_nil_of_length_eq_zero hm0
   subst hy0
   have hn0:news=[]:=List.eq_nil_of_length_eq_zero (by simpa using hx.count)
   subst hn0
   exact⟨_,_,G,_,_,qbi htt hu hd hi hx none 0 0 (Nat.le_refl _),.refl G,by rw [hself];exact hA,.v _,.nil (by simp)⟩
  ·exact grow none 0 [] (by simp [run_firstCells_none]) (by simp;omega) (by simp) (by simp) (by simp [flat]) (by
    simp only [List.length_nil,Nat.zero_add] at hbytes ⊢
    rw [nextslicecap_zero (by omega)]
    omega)
 |os ver cap pad hl hw hle hcm=>
  obtain⟨g0,g1,g2,g3,c,g4,g5,g6⟩:=hA.ob o _ ho
  have hfx:(flat xs).length=xs.length * i.size:=z0 hw
  cases hv with
  |os _ _ _ _ b _ hn hv' hb=>
  have hb:=hb g1
  subst hb
  have hcs:c.size=cap * i.size:=by rw [← g5,hl]
  by_cases hm0:ys.length=0
  ·have hy0:ys=[]:=List.eq_nil_of_length_eq_zero hm0
   subst hy0
   have hn0:news=[]:=List.eq_nil_of_length_eq_zero (by simpa using hx.count)
   subst hn0
   exact⟨_,_,G,_,_,qbi htt hu hd hi hx _ xs.length cap hle,.refl G,by rw [hself];exact hA,.os _ _ _ _ _ _ hn hv' (fun _=>rfl),by rw [List.append_nil];exact .os ver cap pad hl hw hle hcm⟩
  ·by_cases hroom:xs.length+ys.length≤cap
   ·have hmul:(xs.length+ys.length) * i.size≤cap * i.size:=Nat.mul_le_mul_right _ hroom
    rw [Nat.add_mul] at hmul
    have hfit:xs.length * i.size+news.length≤c.size:=by rw [hx.count,hcs];omega
    have hrun:=qh4 (ty:=ty) htt hu hd hi hx (G.ob o).blk xs.length cap c g4 hroom hfit
    have hpl:pad.length=cap * i.size - xs.length * i.size:=by
     have:=hl
     rw [List.length_append,hfx] at this
     omega
    have hA2:=hA.setRow (cs':=flat (xs++ys)++pad.drop (ys.length * i.size)) (c':=(c.toList.take (xs.length * i.size)++news++c.toList.drop (xs.length * i.size+news.length)).toArray) ho (by
     rw [wv]
     simp [hfx,hfy,hx.count,hpl,hcs,Nat.min_eq_left hle]
     omega) (by
     have e1:∀ (j:Nat) (a:AV) (b:Value),(flat xs)[j]? = some a→(c.toList.take (xs.length * i.size))[j]? = some b→Rel G a b:=fun j a b h1 h2=>by
      have hj:=lt_of_getElem? h1
      rw [List.getElem?_take_of_lt (by omega)] at h2
      exact g6 j a b (by rw [List.getElem?_append_left hj];exact h1) (by simpa using h2)
     have e2:=qaa (G:=G) (cs:=flat xs) (ds:=flat ys) (vs:=c.toList.take (xs.length * i.size)) (us:=news) (by simp;omega) e1 hrel
     have e3:=qaa (G:=G) (cs:=flat xs++flat ys) (ds:=pad.drop (ys.length * i.size)) (vs:=c.toList.take (xs.length * i.size)++news) (us:=c.toList.drop (xs.length * i.size+news.length)) (by
      simp [hfx,hfy,hx.count]
      omega) e2 (fun j a b h1 h2=>by
      rw [List.getElem?_drop] at h1 h2
      refine g6 (xs.length * i.size+news.length+j) a b ?_ (by simpa using h2)
      rw [List.getElem?_append_right (by rw [hfx];omega),hfx,← h1,hx.count]
      congr 1
      omega)
     rw [wv]
     intro j a b h1 h2
     exact e3 j a b h1 (by simpa using h2))
    refine⟨_,_,G,_,_,hrun,.refl G,hA2,.os o ver 0 (xs.length+ys.length) _ cap hn hv' (fun _=>rfl),?_⟩
    have:=Vec.os (o:=o) (T:=T) (xs:=xs++ys) ver cap (pad.drop (ys.length * i.size)) (sz:=i.size) (by
     rw [List.length_append,wv,List.length_append,hfx,hfy,List.length_drop,hpl]
     omega) (fun y hy=>by
     rcases List.mem_append.1 hy with h|h
     ·exact hw y h
     ·exact hys y h) (by simpa using hroom) hcm
    rw [List.length_append] at this
    exact this
   ·refine grow (some ⟨(G.ob o).blk,0,none⟩) cap (c.toList.take (xs.length * i.size)) ?_ (by omega) (by
     have:xs.length * i.size≤cap * i.size:=Nat.mul_le_mul_right _ hle
     simp
     omega) hw (fun j a b h1 h2=>?_) (growslice_fits (by omega) hbytes)
    ·refine run_firstCells_some w.drew i.size xs.length ⟨(G.ob o).blk,0,none⟩ xs.length cap _ (by
      have:xs.length * i.size≤cap * i.size:=Nat.mul_le_mul_right _ hle
      simp
      omega) fun j y hy=>?_
     have e1':w.drew.heap[(G.ob o).blk]? = some (.cells c T (0,0)):=g4
     rw [Addr.add_lit]
     rw [List.getElem?_take] at hy
     split at hy
     ·simp only [Array.getElem?_toList] at hy
      simp [World.cell?,e1',hy]
     ·simp at hy
    ·have hj:=lt_of_getElem? h1
     rw [List.getElem?_take_of_lt (by omega)] at h2
     exact g6 j a b (by rw [List.getElem?_append_left hj];exact h1) (by simpa using h2)
end
section
variable {E : Env} {rd : Option Nat} {N : Nat} {ops : Array Oper} {K : AS → Prop} {s : AS} {rest : List Oper} {d : Option Tmp} {T : TypeId} {p : String} {af : Array Edge}
theorem q9h {sz:Nat} {T:TypeId} {o:Nat} {xs:List AV} {a:AV} {ob:AObj} (h:Vec sz T o xs a ob):(xs=[]∧a=zp∧ob = .tip 0 sz T)∨∃ ver cap pad,a = .os o ver 0 xs.length cap∧ob = .cells ver T (flat xs++pad)∧(flat xs++pad).length=cap * sz∧(∀ x∈xs,x.cells.length=sz)∧xs.length≤cap∧cap≤maxLen:=by
 cases h with
 |nil h=>exact .inl ⟨h,rfl,rfl⟩
 |os ver cap pad h1 h2 h3 h4=>exact .inr ⟨ver,cap,pad,rfl,rfl,h1,h2,h3,h4⟩
theorem qtx {sz:Nat}:∀ {xs:List AV} {i:Nat} {x:AV},(∀ x∈xs,x.cells.length=sz)→x.cells.length=sz→i<xs.length→∀ pad,zu (flat xs++pad) (0+i * sz) x.cells=flat (xs.set i x)++pad
 | [],_,_,_,_,h,_=>by simp at h
 |y::xs,0,x,hw,hx,_,pad=>by
  have hy:=hw y (by simp)
  simp only [List.set_cons_zero,qbq,zu,Nat.zero_mul,Nat.zero_add,List.take_zero,List.nil_append,hx]
  rw [List.append_assoc,List.drop_append_of_le_length (by omega),← hy,List.drop_length]
  simp
 |y::xs,i+1,x,hw,hx,h,pad=>by
  have hy:=hw y (by simp)
  have ih:=qtx (xs:=xs) (i:=i) (x:=x) (fun z hz=>hw z (by simp [hz])) hx (by simpa using h) pad
  simp only [List.set_cons_succ,qbq,zu,Nat.zero_add] at ih ⊢
  have e:(i+1) * sz=y.cells.length+i * sz:=by rw [Nat.add_mul,hy];omega
  simp only [List.append_assoc] at ih ⊢
  rw [e,List.take_length_add_append,show y.cells.length+i * sz+x.cells.length=y.cells.length+(i * sz+x.cells.length) by omega,List.drop_length_add_append]
  simp only [List.append_assoc]
  rw [ih]
theorem qzq {sz:Nat} {xs pad:List AV} (hw:∀ x∈xs,x.cells.length=sz) {i:Nat} {x:AV} (hi:xs[i]? = some x):((flat xs++pad).drop (i * sz)).take sz=x.cells:=by
 have hlt:=lt_of_getElem? hi
 have hx:=hw x (List.mem_of_getElem? hi)
 apply List.ext_getElem?
 intro j
 rw [List.getElem?_take]
 by_cases hj:j<sz
 ·rw [if_pos hj,List.getElem?_drop,← qh2 hw hi j hj]
  have hle:(i+1) * sz≤xs.length * sz:=Nat.mul_le_mul_right _ hlt
  rw [Nat.succ_mul] at hle
  rw [List.getElem?_append_left (by rw [z0 hw];omega)]
 ·rw [if_neg hj,List.getElem?_eq_none (by omega)]
end
structure Chg (N:Nat) (s s':AS):Prop where
 run:∀ (B0:Nat) (w0:World) (G:Gh) (a:Act) (w:World),Inv B0 w0 N G s a w→∃ G',G.le G'∧Inv B0 w0 N G' s' a w
theorem Chg.trans {N:Nat} {s s' s'':AS} (h:Chg N s s') (k:Chg N s' s''):Chg N s s'':=⟨fun B0 w0 G a w hI=>let ⟨G1,h1,h2⟩:=h.run B0 w0 G a w hI;let ⟨G2,k1,k2⟩:=k.run B0 w0 G1 a w h2;⟨G2,h1.trans k1,k2⟩⟩
end Go.Av
namespace Go.Proofs.YtmoklbacdkmkaaaGreatDoor
open Go Go.Av Go.RowKit Go.Proofs Go.Pl
theorem q36 (text:List UInt8) (o kb ver n:Nat) (I:Nat→List UInt8→List AObj→Prop) (D:List AObj→Prop) (st l0:List AObj) (ht:text.length<4294967281) (h0:I 0 text l0)
  (hI:∀ k rest l,I k rest l→l.length=n∧(st++l)[kb]? = some (.cells ver 9 [Sv text]))
  (hY:∀ k rest l own ext,I k rest l→rest≠[]→rest.length≤text.length→yv E o [qdc k text rest] (st++(l++own::ext)) fun b st2=>∃ l' ext',st2=st++(l'++own::ext')∧(b=true→I (k+1) (past 10 rest) l')∧(b=false→D l'∧l'.length=n)) :
  qn E 163 [.yd o,.bx kb ver 0] (st++l0) fun r st'=>∃ l own ext',st'=st++(l++own::ext')∧((∃ k,I k [] l)∨D l):=by
 refine qo Tryz.func163 rfl (Nat.le_of_ble_eq_true rfl) ?_
 obtain⟨hn,hb⟩:=hI 0 text l0 h0
 repeat' (first|apply qk|apply qu|apply qc|apply qd|apply qe|(apply zm;exact rfl;exact rfl)|(apply zf;(iterate 11 exact rfl))|(apply jr;(iterate 3 exact rfl))|(apply qcb;exact rfl;exact rfl;exact hb;exact rfl;exact rfl))
 refine xt (fun (x:Nat×List UInt8) s=>match x with|(k,rest)=>∃ l at' ta eb ext,I k rest l∧k+rest.length≤text.length∧at'=(text.length:Int) - rest.length∧StA [(0,.yd o),(1,.bx kb ver 0),(3,.bx ((st++l0).length+0) 0 0),(4,Sv rest)] ((st++l)++(.cells 0 181 [Iv k,Iv at',Sv ta,Bv eb]::ext)) [] s) (fun x=>x.2.length) (0,text)
  ⟨l0,0,[],false,[],h0,by simp,by simp,?_⟩ ?_
 ·exact ww ⟨rfl,rfl,rfl,rfl,trivial⟩
 rintro⟨k,rest⟩ _ ⟨l,_,ta,eb,ext,hi,hle,rfl,t,rfl⟩
 obtain⟨hn',hb'⟩:=hI k rest l hi
 have hq:(st++l).length=(st++l0).length:=by simp [hn,hn']
 repeat' (first|apply qk|apply qu|apply qc|apply qd|apply qj|apply qe|(apply zg;exact rfl;exact rfl)|(apply jb;(iterate 3 exact rfl))|(apply qa;exact rfl;apply cd_d <;> intro h)|(apply qz;(iterate 3 exact rfl))|apply qs|apply jp|(apply qg;exact Tryz.call96;exact qhv _ _ _ (by omega))|(apply qau;exact rfl;exact hq;(iterate 10 exact rfl))|(apply qbj;exact rfl;exact hq;(iterate 4 exact rfl)))
 ·refine qfq rfl (qxe (List.append_assoc st l (_::ext)).symm ((hY k rest l _ ext hi h (by omega)).mono ?_))
  rintro b _ ⟨l',ext',rfl,h1,h2⟩
  cases b
  ·skip
   rw [← List.append_assoc]
   repeat' (first|apply qd|(apply jc;exact rfl)|(apply qa;exact rfl;apply qd8;exact cRa)|apply qr)
   refine ql rfl (qav rfl) ⟨l',_,ext',List.append_assoc _ _ _,.inr (h2 rfl).1⟩
  ·have hi3:=h1 rfl
   obtain⟨hn3,hb3⟩:=hI _ _ _ hi3
   have hp:=ju 10 rest
   have hr0:0<rest.length:=List.length_pos_iff.2 h
   have hq3:(st++l').length=(st++l0).length:=by simp [hn,hn3]
   rw [← List.append_assoc]
   repeat' (first|apply qk|apply qc|apply qd|apply qj|(apply jc;exact rfl)|(apply qa;exact rfl;apply qe4;exact cRa)|(apply jz;(iterate 3 exact rfl))|(apply zv;exact rfl;exact rfl;exact q5 (by omega) (by omega))|(apply xn;exact rfl;exact rfl;exact q5 (by omega) (by omega))|(apply qz;(iterate 3 exact rfl))|apply qs|(apply qcb;exact rfl;exact rfl;exact hb3;exact rfl;exact rfl)|(apply qau;exact rfl;exact hq3;(iterate 10 exact rfl))|(apply qbj;exact rfl;exact hq3;(iterate 4 exact rfl)))
   exact⟨(k+1,past 10 rest),⟨l',_,_,_,_,hi3,by omega,rfl,ww ⟨rfl,rfl,rfl,rfl,trivial⟩⟩,by simp only;omega⟩
 ·have hr:rest=[]:=Classical.not_not.1 h
  subst hr
  exact ql rfl (qav rfl) ⟨l,_,ext,List.append_assoc _ _ _,.inl ⟨k,hi⟩⟩
theorem qq1 {N:Nat} {Q:Exit→AS→Prop} {s:AS} {f:Operand} {p:Tmp} {asg body:Code} {st loc:List AObj} {kb ver:Nat} (text:List UInt8) (hst:s.st=st++loc) (hx:qf N s f = .fn (.func 163) [] [.bx (st.length+kb) ver 0]) (ht:text.length<4294967281)
  (I:Nat→List UInt8→List AObj→Prop) (D:Code→List AObj→Prop) (h0:I 0 text loc)
  (hI:∀ k rest l,I k rest l→l.length=loc.length∧l[kb]? = some (.cells ver 9 [Sv text])) (hD:∀ c l,D c l→l.length=loc.length)
  (hb:∀ F own rd k rest l ext m,qk2 F N s.t #[p] asg body→I k rest l→rest≠[]→rest.length≤text.length→((st++(l++[.dfr,F .ready none,own]))++ext).length=m→((st++(l++[.dfr,F .busy none,own]))++ext).length=m →
   AWp E (some rd) N asg (only fun s1=>∃ new,s1.st=((st++(l++[.dfr,F .ready none,own]))++ext)++new∧s1.df=[]∧AWp E (some rd) N body (q34 F st own (I (k+1) (past 10 rest)) D) ⟨s1.t,((st++(l++[.dfr,F .busy none,own]))++ext)++new,[]⟩) ⟨put s.t p (qdc k text rest),((st++(l++[.dfr,F .ready none,own]))++ext)++[],[]⟩)
  (hn:∀ k l ext,I k [] l→Q .normal ⟨s.t,((st++(l++[.dfr,.dead]))++ext)++[],(st.length+loc.length)::s.df⟩)
  (hd:∀ c l ext,D c l→AWp E none N c Q ⟨s.t,((st++(l++[.dfr,.dead]))++ext)++[],(st.length+loc.length)::s.df⟩):AWp E none N (.rangeFunc f #[p] asg body) Q s:=by
 refine qk5 hst hx Tryz.call163 fun F hF=>?_
 refine qn.mono (q36 text (st.length+(loc.length+1)) (st.length+kb) ver (loc.length+2) (fun k rest l=>∃ l1,l=l1++[.dfr,F .ready none]∧I k rest l1) (fun l=>∃ l1 c,l=l1++[.dfr,F .done (some c)]∧D c l1) st (loc++[.dfr,F .ready none]) ht ⟨loc,rfl,h0⟩ ?_ ?_) ?_
 ·rintro k rest _ ⟨l,rfl,hi⟩
  obtain⟨h1,h2⟩:=hI k rest l hi
  exact⟨by simp [h1],z8 (by rw [List.getElem?_append_left (lt_of_getElem? h2)];exact h2)⟩
 ·rintro k rest _ own ext ⟨l,rfl,hi⟩ hne hle
  obtain⟨h1,h2⟩:=hI k rest l hi
  have hy:=q5i (E:=E) (st:=st) (l:=l) (ext:=ext) (own:=own) (n:=loc.length) (xs:=[qdc k text rest]) (I:=I (k+1) (past 10 rest)) (D:=D) hF h1 rfl (fun l hl=>(hI _ _ l hl).1) hD (fun rd=>hb F own rd k rest l ext _ hF hi hne hle rfl (by simp))
  have e:(st++(l++[.dfr,F .ready none,own]))++ext=st++((l++[.dfr,F .ready none])++own::ext):=by simp
  rw [e] at hy
  refine hy.mono ?_
  rintro b st2 ⟨l',ext',g1,g2⟩
  cases b with
  |true=>
   obtain⟨rfl,g⟩:=g1 rfl
   exact⟨l'++[.dfr,F .ready none],ext',by simp,fun _=>⟨l',rfl,g⟩,nofun⟩
  |false=>
   obtain⟨c,rfl,g⟩:=g2 rfl
   exact⟨l'++[.dfr,F .done (some c)],ext',by simp,nofun,fun _=>⟨⟨l',c,rfl,g⟩,by simp [hD c l' g]⟩⟩
 ·rintro r _ ⟨_,own,ext,rfl,⟨k,l,rfl,hi⟩ | ⟨l,c,rfl,hdl⟩⟩
  ·have h1:=(hI _ _ _ hi).1
   have e:st++((l++[.dfr,F .ready none])++own::ext)=(st++(l++[.dfr,F .ready none,own]))++ext:=by simp
   rw [e]
   refine⟨.ready,none,nofun,qcr h1,?_⟩
   rw [qep h1]
   have:=hn k l (own::ext) hi
   simpa using this
  ·have h1:=hD _ _ hdl
   have e:st++((l++[.dfr,F .done (some c)])++own::ext)=(st++(l++[.dfr,F .done (some c),own]))++ext:=by simp
   rw [e]
   refine⟨.done,some c,nofun,qcr h1,?_⟩
   rw [qep h1]
   have:=hd c l (own::ext) hdl
   simpa using this
abbrev Ss (xs:List Bytes):AV:=.sl 1 (xs.map fun x=>Sv x) none
theorem qht (l m:List UInt8) (st:List AObj):qn E 98 [Sv l,Sv m] st fun r st'=>r=Sv (Lib.trimPrefix l m)∧st'=st:=
 ya (vals:= #[.string ⟨l.toArray⟩,.string ⟨m.toArray⟩]) rfl fun _ _ w _ _=>(Tryz.strings_TrimPrefix ⟨l.toArray⟩ ⟨m.toArray⟩ w).mono fun _ _ ⟨h1,h2⟩=>⟨h1,qds h2⟩
theorem qyv (l:List UInt8) (c:UInt8) (st:List AObj):qn E 98 [Sv l,Sv [c]] st fun r st'=>r=Sv (vn c l)∧st'=st:=by
 rw [← qrm]
 exact qht _ _ _
theorem q1l {B0:Nat} {w0:World} {G:Gh} {st:List AObj} {w:World} (hA:q8 B0 w0 G st w) {xs:List Bytes} {tip:Option Nat} {v:Value} (h:Rel G (.sl 1 (xs.map fun x=>Sv x) tip) v) :
  (xs=[]∧∃ a c,v = .slice a 0 c)∨∃ b off cap,v = .slice (some ⟨b,off,none⟩) xs.length cap∧b<w.heap.size∧xs.length≤cap∧∀ (j:Nat) (x:Bytes),xs[j]? = some x→w.cell? ⟨b,off+j,none⟩=some (.string ⟨x.toArray⟩):=by
 generalize hq:xs.map (fun x=>Sv x)=q at h
 cases h with
 |sl0 sz tip base cap ht=>exact .inl ⟨by simpa using hq,base,cap,rfl⟩
 |sl _ _ _ b off cap pub hp hw hlen hr ht hcap=>
  subst hq
  obtain⟨c,T,fz,hc,hcc⟩:=hA.pub b pub hp
  refine .inr ⟨b,off,cap,by simp,hA.pub_lt hp,by simpa using hcap,fun j x hx=>?_⟩
  have hfl:flat (xs.map fun x=>Sv x)=xs.map fun x=>Sv x:=by
   clear hx hr hlen hw ht hcap
   induction xs with
   |nil=>rfl
   |cons a xs ih=>rw [List.map_cons,qbq,ih];rfl
  have hj:=lt_of_getElem? hx
  rw [hfl] at hlen
  simp only [List.length_map] at hlen
  have hy:pub[off+j]? = some (pub[off+j]'(by omega)):=List.getElem?_eq_getElem (by omega)
  have hrj:=hr j (Sv x) _ (by rw [hfl,List.getElem?_map,hx];rfl) hy
  generalize hz:pub[off+j]'(by omega)=z at hrj hy
  generalize hSx:Sv x=sx at hrj
  cases hrj <;> simp_all
  subst_vars
  simp [World.cell?,hc,hcc _ _ hy]
theorem q2v (xs:List Bytes) (tip:Option Nat) (sep:Bytes) (st:List AObj) (hN:xs.length≤140737488355328) (hl:(Lib.join xs sep).length≤140737488355328):qn E 156 [.sl 1 (xs.map fun x=>Sv x) tip,Sv sep] st fun r st'=>r=Sv (Lib.join xs sep)∧st'=st:=by
 refine⟨fun B0 w0 G vs w hL hA hR=>?_⟩
 have hs:vs.size=2:=by have:=hR.1;simpa using this.symm
 have e0:vs[0]? = some vs[0]:=by simp [hs]
 have e1:vs[1]? = some vs[1]:=by simp [hs]
 have h0:=hR.2 0 _ _ rfl e0
 have h1:=hR.2 1 _ _ rfl e1
 have hv1:vs[1] = .string ⟨sep.toArray⟩:=by generalize vs[1]=y at h1;cases h1;rfl
 have hvs:vs = #[vs[0],.string ⟨sep.toArray⟩]:=by
  apply Array.ext (by simp [hs])
  intro i g1 g2
  match i with
  | 0=>rfl
  | 1=>exact hv1
  |i+2=>simp [hs] at g1;omega
 rw [hvs]
 rcases q1l hA h0 with⟨hx,a,c,hv⟩ | ⟨b,off,cap,hv,hb,hcap,hcell⟩
 ·rw [hv]
  subst hx
  refine (Tryz.strings_Join_none a c ⟨sep.toArray⟩ w).mono ?_
  rintro e w' ⟨rfl,rfl⟩
  exact⟨_,G,Sv [],st,rfl,.refl G,hA,.v _,rfl,rfl⟩
 ·rw [hv]
  have hm:(xs.map fun l:Bytes=>(⟨l.toArray⟩:ByteArray)).map (·.data.toList)=xs:=by simp [List.map_map,Function.comp_def]
  have hc:=Tryz.strings_Join b off cap (xs.map fun l=>⟨l.toArray⟩) ⟨sep.toArray⟩ w (fun j x hx=>by
   rw [List.getElem?_map] at hx
   cases hq:xs[j]? with
   |none=>rw [hq] at hx;simp at hx
   |some y=>rw [hq] at hx;simp at hx;subst hx;exact hcell j y hq) hb (by simpa using hN) (by simpa using hcap) (by rw [hm];simpa using hl)
  rw [hm] at hc
  simp only [List.length_map] at hc
  refine hc.mono ?_
  rintro e w' ⟨rfl,hbw⟩
  exact⟨_,G,Sv _,st,rfl,.refl G,hA.fresh hbw,.v _,rfl,rfl⟩
def Weak (x r:AV):Prop:=∀ (G:Gh) (v:Value),Rel G x v→Rel G r v
theorem qaq (x:AV):Weak x x:=fun _ _ h=>h
theorem qkm (sz:Nat) (xs:List AV) (tip:Option Nat):Weak (.sl sz xs tip) (.sl sz xs none):=fun _ _ h=>qmh h
theorem qfc (sz:Nat):Weak zp (.sl sz [] none):=fun _ _ h=>qbt h
theorem qej {x y x' y':AV} (h1:Weak x x') (h2:Weak y y'):Weak (.tu [x,y]) (.tu [x',y']):=fun G v h=>by
 cases h with
 |tu _ vs hl hr=>
  refine .tu _ vs hl fun i a b ha hb=>?_
  match i with
  | 0=>simp at ha;subst ha;exact h1 G b (hr 0 x b rfl hb)
  | 1=>simp at ha;subst ha;exact h2 G b (hr 1 y b rfl hb)
  |i+2=>simp at ha
theorem q87 {xs ys:List AV} (hl:xs.length=ys.length) (h:∀ (i:Nat) (x y:AV),xs[i]? = some x→ys[i]? = some y→Weak x y):Weak (.ag xs) (.ag ys):=fun G v hr=>by
 cases hr with
 |ag _ vs hl' hr=>
  refine .ag _ vs (by omega) fun i a b ha hb=>?_
  have hi:=lt_of_getElem? ha
  exact h i _ a (List.getElem?_eq_getElem (by omega)) ha G b (hr i _ b (List.getElem?_eq_getElem (by omega)) hb)
theorem qzt {fn:Func} {s:AS} {t u:Tmp} {x y x' y':AV} (hr:fn.results = #[.tmp t,.tmp u]) (hx:qf fn.ntmps s (.tmp t)=x) (hy:qf fn.ntmps s (.tmp u)=y) (h1:Weak x x') (h2:Weak y y'):ARes E fn s (.tu [x',y']):=
 wn (v8 hr) (by rw [hx,hy];exact qej h1 h2)
def errN (n:Int):AV:=if n=0 then .v .nilIface else .ifc 76 (Iv n)
theorem qin (n:Int):Pure (errN n):=by
 unfold errN
 split
 ·exact q6 _
 ·exact qb1 (q6 _)
theorem qjt {n:Int} (h:n≠0):errN n = .ifc 76 (Iv n):=if_neg h
theorem qnj (f:FldV) (st:List AObj) (hl:f.1.length<4294967281):qn E 226 [fldA f] st fun r st'=>r=errN (kr f)∧st'=st:=by
 refine q7 (qin _) (qo Tryz.func226 rfl (Nat.le_of_ble_eq_true rfl) ?_)
 repeat' (first|apply qk|apply qu|apply qc|apply qd|apply qe|(apply qq;(iterate 3 exact rfl))|(apply jc;exact rfl)|(apply qa;exact rfl;apply cd_n <;> intro h)|(apply qa;exact rfl;apply cd_d <;> intro h)|(apply jz;(iterate 3 exact rfl))|(apply za;exact rfl;exact rfl)|(apply vu;(iterate 4 exact rfl))|(apply qz;(iterate 3 exact rfl))|(apply zh;(iterate 5 exact rfl))|apply qs|apply qr|(apply qg;exact Tryz.call215;exact q7n _ _ hl))
 all_goals refine ql rfl (zb rfl) ⟨(?_:_=_),_,rfl⟩
 ·have e:kr f=5:=if_pos (by simp_all)
  rw [e];rfl
 ·have e:kr f=6:=(if_neg (by simp_all)).trans (if_pos (by omega))
  rw [e];rfl
 ·have e:kr f=0:=(if_neg (by simp_all)).trans (if_neg (by omega))
  rw [e];rfl
theorem qh0 (f:FldV) (st:List AObj) (hl:f.1.length<4294967281) (h:kr f=0):qn E 226 [fldA f] st fun r st'=>r = .v .nilIface∧st'=st:=by
 have:=qnj f st hl
 rw [h] at this
 exact this
theorem qh9 (f:FldV) (st:List AObj) (hl:f.1.length<4294967281) (h:kr f≠0):qn E 226 [fldA f] st fun r st'=>r = .ifc 76 (Iv (kr f))∧st'=st:=by
 have:=qnj f st hl
 rw [qjt h] at this
 exact this
theorem q11 (s:List UInt8) (st:List AObj) (hl:s.length<4294967281):qn E 230 [Sv s] st fun r st'=>r=Sv (wj s)∧st'=st:=by
 refine q7 (q6 _) (qo Tryz.func230 rfl (Nat.le_of_ble_eq_true rfl) ?_)
 have hb:Lib.trimS s [32,9]=[]↔qeh s:=by rw [qmf];simp [xf,qeh]
 repeat' (first|apply qk|apply qc|apply qd|apply qj|apply qe|(apply jb;(iterate 3 exact rfl))|(apply ze;(iterate 4 exact rfl))|(apply wl;exact cAo)|(apply wq;exact cAo)|(apply vg <;> intro h)|(apply qi;exact rfl;apply y6;exact cAo)|(apply qi;exact rfl;apply yo;exact cAo)|(apply qa;exact rfl;apply cd_t;exact cRa)|(apply qa;exact rfl;apply cd_d <;> intro h)|(apply jq;exact rfl;exact rfl;exact cOs)|apply qs|apply qr|(apply qg;exact Tryz.call213;exact qre _ _ _ (by omega) rfl rfl)|(apply qg;exact Tryz.call164;exact qe5 _ _ _))
 all_goals refine ql rfl (zb rfl) ⟨congrArg (fun l:Bytes=>Sv l) (?_:_=wj s),_,rfl⟩
 all_goals unfold wj
 all_goals simp_all
theorem qy8 (xs:List Bytes):Pure (Ss xs):=q4i xs
theorem qz3 (l p:Bytes) (r:List Bytes) (st:List AObj) (hl:l.length<4294967281) (h:zq l=p::r):qn E 154 [Sv l,Sv [10]] st fun x st'=>x = .sl 1 (Sv p::r.map fun x=>Sv x) none∧st'=st:=by
 have:=q23 l st hl
 rw [h] at this
 exact this
def qh6 (f:FldV):AV:=.tu [Ss (if kr f=0 then jf f else []),errN (kr f)]
theorem qx5 (f:FldV):Pure (qh6 f):=qes fun x hx=>by
 simp only [List.mem_cons,List.not_mem_nil,or_false] at hx
 rcases hx with rfl|rfl
 ·exact qy8 _
 ·exact qin _
set_option maxHeartbeats 2000000 in
theorem qno (f:FldV) (st:List AObj) (hl:f.1.length<4294967281) (hv:f.2.length<1000000):qn E 189 [fldA f] st fun r st'=>r=qh6 f∧st'=st:=by
 refine q7 (qx5 _) (qo Tryz.func189 rfl (Nat.le_of_ble_eq_true rfl) ?_)
 by_cases hc:kr f=0
 ·obtain⟨p,r,hp⟩:∃ p r,zq f.2=p::r:=⟨_,_,qpg f.2⟩
  have hpl:p.length≤f.2.length:=qmv f.2 p (by rw [hp];simp)
  have hrl:∀ x∈r,x.length≤f.2.length:=fun x hx=>qmv f.2 x (by rw [hp];simp [hx])
  have hrn:r.length≤f.2.length:=by have:=qgq _ f.2 (Nat.le_refl _);rw [hp] at this;simpa using this
  repeat' (first|(apply qah;(iterate 6 exact rfl))|(apply q20;(iterate 5 exact rfl);kernel_rfl)|apply qk|apply qu|apply qc|apply qd|apply qj|apply qe|(apply jb;(iterate 3 exact rfl))|(apply qa;exact rfl;apply cd_f;exact cRa)|(apply qa;exact rfl;apply cd_d <;> intro h)|(apply zl;(iterate 4 exact rfl))|(apply jq;exact rfl;exact rfl;exact cOs)|(apply jj;exact rfl;exact rfl)|(apply vu;(iterate 4 exact rfl))|(apply qz;(iterate 3 exact rfl))|(apply zn;(iterate 3 exact rfl))|(apply zh;(iterate 5 exact rfl))|(apply zf;(iterate 11 exact rfl))|(apply wi;(iterate 4 exact rfl);(first|assumption|omega|exact Nat.succ_le_succ (Nat.zero_le _)|(simp;omega));exact rfl)|apply qdx|(apply qbs;exact rfl;exact rfl;exact cOs)|(apply qa5;(iterate 3 exact rfl))|(apply y7;(iterate 5 exact rfl))|apply qcj|apply qs|(apply qg;exact Tryz.call226;exact qh0 _ _ hl hc)|(apply qg;exact Tryz.call154;exact qz3 _ _ _ _ (by omega) hp)|(apply z6 (n:=0);(iterate 6 exact rfl))|(apply qvp (n:=0);(iterate 6 exact rfl))|(apply qqe (n:=0);(iterate 5 exact rfl);omega))
  all_goals refine qrv 6 (o:=st.length+1) (sz:=1) (len:=1) (cap:=1) (xs:=[Sv (kw f.1 p)]) (T':=9) rfl (z8 rfl) rfl rfl (by omega) (Nat.le_refl _) (by decide) (by simp [AV.cells]) ?_ ?_
  ·exact congrArg (fun l:Bytes=>[Sv l]) (by unfold kw;rw [if_neg h]:kw f.1 p=f.1++[58]++([32]++p))
  rotate_left
  ·exact congrArg (fun l:Bytes=>[Sv l]) (by unfold kw;rw [if_pos (Classical.not_not.1 h),List.append_nil]:kw f.1 p=f.1++[58])
  all_goals
   have hre:qh6 f = .tu [Ss (kw f.1 p::r.map fun s=>[32]++wj s),.v .nilIface]:=by
    unfold qh6 jf
    rw [if_pos hc,hc,hp]
    rfl
   rw [hre]
   have hst:∀ s,(wj s).length≤s.length+1:=qr5
   refine qbo r (fun pre s=>StE [(6,.sl 1 (Sv (kw f.1 p)::pre.map (fun s=>Sv ([32]++wj s))) (some (st.length+1))),(35,.sl 1 (r.map fun x=>Sv x) none),(36,Iv r.length),(37,Iv pre.length)] st [.cells 0 156 [Sv f.1,Sv f.2],.tip (pre.length+1) 1 9] s) (qfl ⟨rfl,rfl,congrArg (fun n:Nat=>Iv (n:Int)) (List.length_map ..),rfl,trivial⟩ (wt st _ 1 _)) ?_ ?_
   ·rintro _ ⟨t,ext,rfl⟩
    repeat' (first|apply qk|apply qc|apply qd|apply qj|apply qe|(apply qq;(iterate 3 exact rfl))|(apply qa;exact rfl;apply ko;exact cAo)|apply jp|apply qr)
    refine ql rfl (qzt rfl rfl rfl (qkm _ _ _) (qaq _)) ⟨?_,x8 _ _ _ _⟩
    simp only [Ss,List.map_cons,List.map_map]
    rfl
   ·rintro pre a rest _ hr ⟨t,ext,rfl⟩
    have hlen:r.length=pre.length+(rest.length+1):=by rw [hr];simp
    have hget:(r.map fun x=>Sv x)[pre.length]? = some (Sv a):=by rw [hr];simp
    have ha:a.length≤f.2.length:=hrl a (by rw [hr];simp)
    have hsa:=hst a
    repeat' (first|apply qk|apply qu|apply qc|apply qd|apply qj|apply qe|(apply qq;(iterate 3 exact rfl))|(apply qa;exact rfl;apply kl;exact cAo)|(apply jq;exact rfl;exact rfl;exact cOs)|(apply zv;exact rfl;exact rfl;exact q5 (by omega) (by omega))|(apply zn;(iterate 3 exact rfl))|(apply js;(iterate 9 exact rfl))|apply qs|(apply qg;exact Tryz.call230;exact q11 _ _ (by omega))|(apply z6 (n:=pre.length);(iterate 5 exact rfl);exact hget)|(apply qiy (n:=pre.length+1) (m:=1) (sz:=1) (bytes:=16);(iterate 4 exact rfl);simp;exact rfl;exact rfl;exact⟨⟨_,_,rfl,rfl,rfl,rfl,rfl⟩⟩;exact rfl;exact rfl;(unfold maxLen;omega);omega;exact rfl))
    refine qdy ⟨?_,rfl,rfl,?_,trivial⟩ ?_
    ·exact qu3 _ (fun s=>Sv ([32]++wj s)) pre a _ rfl
    ·exact qhm pre a
    ·rw [qfo pre a];rfl
 ·skip
  repeat' (first|apply qk|apply qc|apply qd|apply qj|apply qe|(apply qa;exact rfl;apply cd_t;exact cRa)|(apply ji;exact rfl;exact rfl)|(apply vu;(iterate 4 exact rfl))|(apply zh;(iterate 5 exact rfl))|apply qr|(apply qg;exact Tryz.call226;exact qh9 _ _ hl hc))
  refine ql rfl (wn (r':=.tu [Ss [],.ifc 76 (Iv (kr f))]) (v8 rfl) (qej (qfc _) (qaq _))) ⟨?_,_,rfl⟩
  unfold qh6
  rw [if_neg hc,qjt hc]
theorem qji {rd:Option Nat} {N:Nat} {ops:Array Oper} {K:AS→Prop} {s:AS} {rest:List Oper} {d:Option Tmp} {T:TypeId} {p:String} {af:Array Edge} {st loc:List AObj} (hst:s.st=st++loc)
  (h:AOps E rd N ops rest K (AS.put ⟨s.t,st++(loc++[bldO 0 (.v (.pointer none)) [] (st.length+(loc.length+1)),.tip 0 1 5]),s.df⟩ d (.bx (st.length+loc.length) 0 0))):AOps E rd N ops (⟨d,.alloc 219,T,p,af,none⟩::rest) K s:=by
 refine zm hst rfl ?_
 have e:∀ (t:Nat→AV) (st':List AObj) (df:List Nat) (x:AV),(AS.put ⟨t,st',df⟩ d x).st=st':=fun t st' df x=>by cases d <;> rfl
 have e2:∀ (t:Nat→AV) (st' st2:List AObj) (df:List Nat) (x:AV),(⟨(AS.put ⟨t,st',df⟩ d x).t,st2,(AS.put ⟨t,st',df⟩ d x).df⟩:AS)=AS.put ⟨t,st2,df⟩ d x:=fun t st' st2 df x=>by cases d <;> rfl
 refine qv8 (o:=st.length+loc.length) (j:=1) (sz:=1) (T':=5) (T1:=219) (ver:=0) (cs:=[.v (.pointer none),zp]) ?_ rfl ?_
 ·rw [e,← List.append_assoc,List.getElem?_append_right (by simp)]
  simp
  rfl
 ·rw [e,e2]
  have hx:(st++(loc++[AObj.cells 0 219 [.v (.pointer none),zp]])).set (st.length+loc.length) (.cells 0 219 ([AV.v (.pointer none),zp].set 1 (.sl 1 [] (some (st++(loc++[AObj.cells 0 219 [.v (.pointer none),zp]])).length))))++[AObj.tip 0 1 5]
    = st++(loc++[bldO 0 (.v (.pointer none)) [] (st.length+(loc.length+1)),.tip 0 1 5]):=by
   rw [wt,List.append_assoc,List.set_append_right _ _ (Nat.le_refl _)]
   simp
  have h':=h
  rw [← hx] at h'
  exact h'
theorem qkh (st loc ext new loc':List AObj) (k kt ver:Nat) (q:AV) (l m:List UInt8) (hk:loc[k]? = some (bldO ver q l (st.length+kt))) (hkt:loc[kt]? = some (.tip l.length 1 5)) (hq:q = .v (.pointer none)∨q = .bx (st.length+k) ver 0)
  (hlen:l.length+m.length≤140737488355328) (hl:loc'=(loc.set k (bldO ver (.bx (st.length+k) ver 0) (l++m) (st.length+kt))).set kt (.tip (l++m).length 1 5)) :
  qn E 136 [.bx (st.length+k) ver 0,Sv m] (((st++loc)++ext)++new) fun r st'=>r = .tu [Iv m.length,.v .nilIface]∧st'=((st++loc')++ext)++new:=by
 refine (qt4 (st.length+k) ver (st.length+kt) q l m _ (qck hk) (qck hkt) hq hlen).mono fun r st' ⟨h1,h2⟩=>⟨h1,?_⟩
 have hk1:=lt_of_getElem? hk
 have hk2:=lt_of_getElem? hkt
 rw [h2,qhj _ hk1,qhj _ (by simpa using hk2),hl,List.length_append]
theorem qjb (st loc ext new loc':List AObj) (k kt ver:Nat) (q:AV) (l:List UInt8) (hk:loc[k]? = some (bldO ver q l (st.length+kt))) (hkt:loc[kt]? = some (.tip l.length 1 5)) (hl:loc'=loc.set kt .dead) :
  qn E 139 [.bx (st.length+k) ver 0] (((st++loc)++ext)++new) fun r st'=>r=Sv l∧st'=((st++loc')++ext)++new:=by
 refine (qsz (st.length+k) ver (st.length+kt) q l _ (qck hk) (qck hkt)).mono fun r st' ⟨h1,h2⟩=>⟨h1,?_⟩
 rw [h2,qhj _ (lt_of_getElem? hkt),hl]
theorem qwa:∀ (r:List Bytes),(zj (r.map fun s=>[32]++wj s)).length≤3 * (r.flatMap fun s=>[10]++s).length
 | []=>by simp [zj]
 |a::r=>by
  have ih:=qwa r
  have:=qr5 a
  simp only [zj,List.map_cons,List.flatMap_cons,List.length_append,List.length_cons,List.length_nil] at ih ⊢
  omega
theorem qc5 (a b:List Bytes):zj (a++b)=zj a++zj b:=by simp [zj]
theorem qlt (s:Bytes):zj [s]=s++[10]:=by simp [zj]
theorem qnq:∀ (l:List Bytes),l.length≤(zj l).length
 | []=>by simp
 |a::r=>by
  have ih:=qnq r
  simp only [zj,List.flatMap_cons,List.length_append,List.length_cons,List.length_nil] at ih ⊢
  omega
theorem q2u (a b:List Fld):jy (a++b)=jy a++jy b:=by simp [jy]
theorem q31 (f:Fld):jy [f]=zj (jf f):=by simp [jy]
theorem qp6 {f:Fld} (h:jw f):(zj (jf f)).length≤5000:=by
 obtain⟨hk,hv⟩:=h
 have h1:=qwa (zq f.2).tail
 have h2:=congrArg List.length (qkl _ f.2 (Nat.le_refl _))
 have h3:(kw f.1 ((zq f.2).headD [])).length≤32+2+((zq f.2).headD []).length:=by
  have:=hk.2.1
  unfold kw
  split <;> simp <;> omega
 have e:jf f=[kw f.1 ((zq f.2).headD [])]++(zq f.2).tail.map fun s=>[32]++wj s:=rfl
 rw [e,qc5,qlt]
 simp only [List.length_append,List.length_cons,List.length_nil] at h2 ⊢
 omega
theorem qip:∀ (xs:List Fld),(∀ f∈xs,jw f)→(jy xs).length≤5000 * xs.length
 | [],_=>by simp [jy]
 |f::r,h=>by
  have ih:=qip r fun x hx=>h x (by simp [hx])
  have h1:=qp6 (h f (by simp))
  have e:jy (f::r)=zj (jf f)++jy r:=by simp [jy]
  rw [e,List.length_append,List.length_cons]
  omega
def errF:List Fld→Int
 | []=>0
 |f::r=>if kr f≠0 then kr f else errF r
theorem qmg:∀ (xs:List Fld),errF xs=0↔∀ f∈xs,jw f
 | []=>by simp [errF]
 |f::r=>by
  have ih:=qmg r
  unfold errF
  by_cases h:kr f≠0
  ·rw [if_pos h]
   have hg:¬ jw f:=fun hg=>h ((qcg f).2 hg)
   simp [h,hg]
  ·have hg:=(qcg f).1 (Classical.not_not.1 h)
   rw [if_neg h,ih]
   simp [hg]
theorem qy9:∀ {pre:List Fld} {f:Fld} {r:List Fld},(∀ x∈pre,jw x)→kr f≠0→errF (pre++f::r)=kr f
 | [],f,r,_,h=>by simp [errF,h]
 |x::pre,f,r,hp,h=>by
  have:=(qcg x).2 (hp x (by simp))
  simp only [List.cons_append,errF,this]
  rw [if_neg (by simp)]
  exact qy9 (fun y hy=>hp y (by simp [hy])) h
theorem quz (f:FldV) (st:List AObj) (hl:f.1.length<4294967281) (hv:f.2.length<1000000) (h:kr f=0):qn E 189 [fldA f] st fun r st'=>r = .tu [Ss (jf f),.v .nilIface]∧st'=st:=by
 have:=qno f st hl hv
 unfold qh6 at this
 rw [if_pos h,h] at this
 exact this
theorem qwj (f:FldV) (st:List AObj) (hl:f.1.length<4294967281) (hv:f.2.length<1000000) (h:kr f≠0):qn E 189 [fldA f] st fun r st'=>r = .tu [Ss [],.ifc 76 (Iv (kr f))]∧st'=st:=by
 have:=qno f st hl hv
 unfold qh6 at this
 rw [if_neg h,qjt h] at this
 exact this
def qo4 (xs:List Fld):AV:=.tu [Sv (if errF xs=0 then jy xs else []),errN (errF xs)]
theorem qzw (xs:List Fld):Pure (qo4 xs):=qes fun x hx=>by
 simp only [List.mem_cons,List.not_mem_nil,or_false] at hx
 rcases hx with rfl|rfl
 ·exact q6 _
 ·exact qin _
structure q7b (xs:List FldV):Prop where
 len:xs.length<1000000
 val:∀ f∈xs,f.1.length<4294967281∧f.2.length<1000000
set_option maxHeartbeats 2000000 in
theorem q9s (xs:List FldV) (st:List AObj) (hx:q7b xs):qn E 135 [kv xs] st fun r st'=>r=qo4 xs∧st'=st:=by
 refine q7 (qzw _) (qo Tryz.func135 rfl (Nat.le_of_ble_eq_true rfl) ?_)
 have hxl:=hx.len
 repeat' (first|(apply qji;exact rfl)|apply qk|apply qu|apply qc|apply qd|apply qj|apply qe|(apply zl;(iterate 4 exact rfl)))
 refine qbo xs (fun pre s=>(∀ f∈pre,jw f)∧∃ q,(q = .v (.pointer none)∨q = .bx (st.length+0) 0 0)∧StE [(4,.bx (st.length+0) 0 0),(11,kv xs),(12,Iv xs.length),(13,Iv pre.length)] st [bldO 0 q (jy pre) (st.length+1),.tip (jy pre).length 1 5] s) ⟨by simp,_,.inl rfl,qfl ⟨rfl,rfl,congrArg (fun n:Nat=>Iv (n:Int)) (List.length_map ..),rfl,trivial⟩ rfl⟩ ?_ ?_
 ·rintro _ ⟨hg,q,hq,t,ext,rfl⟩
  repeat' (first|apply qk|apply qc|apply qd|apply qe|(apply qq;(iterate 3 exact rfl))|(apply qa;exact rfl;apply ko;exact cAo)|apply jp|apply qr|(refine qg Tryz.call139 (qjb st _ _ _ _ 0 1 0 _ _ rfl rfl rfl) ?_))
  refine ql rfl (v8 rfl) ⟨?_,x8 _ _ _ _⟩
  unfold qo4
  have h0:=(qmg xs).2 hg
  rw [if_pos h0,h0]
  rfl
 ·rintro pre f rest _ hr ⟨hg,q,hq,t,ext,rfl⟩
  have hlen:xs.length=pre.length+(rest.length+1):=by rw [hr];simp
  have hget:(xs.map fldA)[pre.length]? = some (fldA f):=by rw [hr];simp
  obtain⟨hf1,hf2⟩:=hx.val f (by rw [hr];simp)
  by_cases hc:kr f=0
  ·have hgf:=(qcg f).1 hc
   have hb1:=qip pre hg
   have hb2:=qp6 hgf
   repeat' (first|apply qk|apply qu|apply qc|apply qd|apply qj|apply qe|(apply zg;exact rfl;exact rfl)|(apply qq;(iterate 3 exact rfl))|(apply qa;exact rfl;apply kl;exact cAo)|(apply qa;exact rfl;apply cd_f;exact cRa)|(apply zl;(iterate 4 exact rfl))|(apply jj;exact rfl;exact rfl)|(apply zm;exact rfl;exact rfl)|(apply zn;(iterate 3 exact rfl))|(apply zh;(iterate 5 exact rfl))|(apply zf;(iterate 11 exact rfl))|apply qs|(apply qg;exact Tryz.call189;exact quz _ _ hf1 hf2 hc)|(apply z6 (n:=pre.length);(iterate 5 exact rfl);exact hget))
   refine qbo (jf f) (fun lp s=>∃ q,(q = .v (.pointer none)∨q = .bx (st.length+0) 0 0)∧StE [(4,.bx (st.length+0) 0 0),(11,kv xs),(12,Iv xs.length),(13,Iv pre.length),(25,Ss (jf f)),(26,Iv (jf f).length),(27,Iv lp.length)] st [bldO 0 q (jy pre++zj lp) (st.length+1),.tip (jy pre++zj lp).length 1 5] s) ⟨_,hq,qdy ⟨rfl,rfl,rfl,rfl,rfl,congrArg (fun n:Nat=>Iv (n:Int)) (List.length_map ..),rfl,trivial⟩ (by simp [zj])⟩ ?_ ?_
   ·rintro _ ⟨q,hq,t,ext,rfl⟩
    repeat' (first|apply qk|apply qc|apply qd|apply qj|(apply qq;(iterate 3 exact rfl))|(apply qa;exact rfl;apply ko;exact cAo)|(apply zv;exact rfl;exact rfl;exact q5 (by omega) (by omega))|apply jp)
    refine⟨fun x hx=>?_,q,hq,qdy ⟨rfl,rfl,rfl,?_,trivial⟩ ?_⟩
    ·rcases List.mem_append.1 hx with hx|hx
     ·exact hg x hx
     ·simp at hx;subst hx;exact hgf
    ·rw [qfo pre f];rfl
    ·rw [q2u,q31]
   ·rintro lp a lr _ hlr ⟨q,hq,t,ext,rfl⟩
    have hlen2:(jf f).length=lp.length+(lr.length+1):=by rw [hlr];simp
    have hget2:((jf f).map fun x=>Sv x)[lp.length]? = some (Sv a):=by rw [hlr];simp
    have hb3:(zj lp).length+(a.length+1)≤5000:=by
     rw [hlr,qc5] at hb2
     have:a::lr=[a]++lr:=rfl
     rw [this,qc5,qlt] at hb2
     simp only [List.length_append,List.length_cons,List.length_nil] at hb2
     omega
    have hct:=qnq lp
    repeat' (first|apply qk|apply qu|apply qc|apply qd|apply qj|apply qe|(apply qq;(iterate 3 exact rfl))|(apply qa;exact rfl;apply kl;exact cAo)|(apply jq;exact rfl;exact rfl;exact cOs)|(apply zn;(iterate 3 exact rfl))|apply qs|(apply z6 (n:=lp.length);(iterate 5 exact rfl);exact hget2))
    refine qg Tryz.call136 (qkh st _ _ _ _ 0 1 0 _ _ _ rfl rfl ?_ ?_ rfl) ?_;(exact hq);(simp only [List.length_append,List.length_cons,List.length_nil];omega)
    repeat' (first|apply qc|apply qd|apply qj|(apply zv;exact rfl;exact rfl;exact q5 (by omega) (by omega)))
    refine⟨_,.inr rfl,qdy ⟨rfl,rfl,rfl,rfl,rfl,rfl,?_,trivial⟩ ?_⟩
    ·rw [qfo lp a];rfl
    ·have e:jy pre++zj (lp++[a])=(jy pre++zj lp)++(a++[10]):=by rw [qc5,qlt,List.append_assoc]
     rw [e];rfl
  ·skip
   repeat' (first|apply qk|apply qu|apply qc|apply qd|apply qj|apply qe|(apply zg;exact rfl;exact rfl)|(apply qq;(iterate 3 exact rfl))|(apply qa;exact rfl;apply kl;exact cAo)|(apply qa;exact rfl;apply cd_t;exact cRa)|(apply ji;exact rfl;exact rfl)|(apply zm;exact rfl;exact rfl)|(apply zn;(iterate 3 exact rfl))|(apply zh;(iterate 5 exact rfl))|(apply zf;(iterate 11 exact rfl))|apply qs|apply qr|(apply qg;exact Tryz.call189;exact qwj _ _ hf1 hf2 hc)|(apply z6 (n:=pre.length);(iterate 5 exact rfl);exact hget))
   refine ql rfl (v8 rfl) ⟨?_,x8 _ _ _ _⟩
   unfold qo4
   have h0:errF xs=kr f:=by rw [hr];exact qy9 hg hc
   rw [h0,if_neg hc,qjt hc]
   rfl
theorem qe8:∀ (n:Nat) (l:Bytes) (c:UInt8),l.length≤n→c≠10→zq (l++[c])=(zq l).set ((zq l).length - 1) ((zq l).getD ((zq l).length - 1) []++[c])
 |n,l,c,hn,hc=>by
  by_cases h:10∈l
  ·have hne:l≠[]:=fun e=>by subst e;simp at h
   have hlt:=xa (c:=10) hne
   cases n with
   |zero=>omega
   |succ n=>
    have ih:=qe8 n (past 10 l) c (by omega) hc
    have e:=y9 h
    have e2:l++[c]=upto 10 l++10::(past 10 l++[c]):=(congrArg (· ++ [c]) e).trans (by simp)
    have hp:=qks (past 10 l)
    have hpl:0<(zq (past 10 l)).length:=List.length_pos_iff.2 hp
    rw [qbc (by simp [h]),qbc h,e2,w9 _ (qde 10 l),yr _ (qde 10 l),ih]
    have e3:(upto 10 l::zq (past 10 l)).length - 1=(zq (past 10 l)).length - 1+1:=by simp;omega
    rw [e3,List.set_cons_succ]
    simp
  ·have h2:10∉l++[c]:=by simp [h,Ne.symm hc]
   rw [qbb h,qbb h2]
   simp
end Go.Proofs.YtmoklbacdkmkaaaGreatDoor
namespace Go.Av
open Go Go.RowKit
@[reducible] def qot (K : Act → World → Prop) : Exit → Act → World → Prop
 | .normal,a,w=>K a w
 | _,_,_=>False
structure AZ (E:Env) (N:Nat) (ops:Array Oper) (fuel:Nat) (listed:Array Bool) (K:AS→Prop) (s:AS):Prop where
 run:∀ (B0:Nat) (w0:World) (G:Gh) (a:Act) (w:World),E.L B0 w0→Inv B0 w0 N G s a w→∀ K':Act→World→Prop,(∀ G' s' a' w',G.le G'→Inv B0 w0 N G' s' a' w'→K s'→K' a' w')→wpAnyIn (fw none) 0 E.P .any ops (qot K') fuel listed a w
structure AY (E:Env) (N:Nat) (o:Oper) (s:AS) (r:AV):Prop where
 run:∀ (B0:Nat) (w0:World) (G:Gh) (a:Act) (w:World),Inv B0 w0 N G s a w→∃ v,(∀ w',(execOp a.eval o).run E.P w' = .ok (.value v) w')∧(∀ w',o.about E.P w' a.eval=none)∧Rel G r v
section
variable {E : Env} {N : Nat} {ops : Array Oper} {K : AS → Prop} {s : AS} {fuel : Nat} {listed : Array Bool}
theorem qi6 {id:Nat} {Q:Exit→AS→Prop} {n:Nat} (hm:E.P.follows .mixedOrders=true) (hn:ops.size=n) (h:AZ E N ops n (Array.replicate n false) (Q .normal) s):AWp E none N (.region id ops true) Q s:=by
 subst hn
 refine⟨fun B0 w0 G a w hL hI=>?_⟩
 have hBl:Below w.heap.size w { w with drawn:=w.drawn+1 }:=⟨rfl,rfl,rfl,Nat.le_refl _,fun _ _=>rfl⟩
 have hI2:Inv B0 w0 N G s a { w with drawn:=w.drawn+1 }:=⟨hI.agree.fresh hBl,hI.defers,hI.size,hI.tmps⟩
 have:=h.run B0 w0 G a _ hL hI2 (fun a' w'=>∃ (G':Gh) (s':AS),G.le G'∧Inv B0 w0 N G' s' a' w'∧Q .normal s') fun G' s' a' w' hG hI' hk=>⟨G',s',hG,hI',hk⟩
 refine wpIn_mono (wpIn_region_any hm this) fun e a' w' hq=>?_
 cases e with
 |normal=>exact hq
 | _=>exact hq.elim
theorem qcl (hr:Region.ready .any ops listed=[]) (h:K s):AZ E N ops fuel listed K s:=
 ⟨fun B0 w0 G a w hL hI K' hK=>wpAnyIn_done hr (hK G s a w (.refl G) hI h) fuel⟩
theorem xp (i:Nat) {oi:Oper} {r:AV} (hi:ops[i]? = some oi) (hs:Region.noSelect ops=true) (hf:Region.free .any ops listed i=true) (hr:(Region.ready .any ops listed).contains i=true) (hg:oi.guard=none) (hy:AY E N oi s r)
  (h:AZ E N ops fuel (listed.setIfInBounds i true) K (s.put oi.dst r)):AZ E N ops (fuel+1) listed K s:=by
 refine⟨fun B0 w0 G a w hL hI K' hK=>?_⟩
 obtain⟨v,h1,h2,h3⟩:=hy.run B0 w0 G a w hI
 have hwn:Region.wanted oi (yielded ops a.tmps)=true:=by simp [Region.wanted,hg]
 refine wpAnyIn_take (v:=v) rfl hi hs hf hr (fun c a w hq=>hq.elim) ⟨.inl ⟨hwn,h1⟩,h2⟩ (h.run B0 w0 G _ w hL (hI.put (.refl G) hI.agree oi.dst h3) K' fun G' s' a' w' hG hI' hk=>hK G' s' a' w' hG hI' hk)
theorem qx0 {F:Fence} {n:Nat} {P:Program} {o:Oper} {a:Act} {w:World} {next X Y:Act→World→Prop} (h:o.wpIn F n P a w next (qot X)):o.wpIn F n P a w next (qot Y):=by
 unfold Oper.wpIn at *
 refine⟨h.1,?_⟩
 have h:=h.2
 generalize (o.semAt F.round a.eval).run P w=r at *
 cases r with
 |ok x w'=>
  cases x <;> simp only [Oper.uponIn] at h ⊢
  case value u=>exact h
  case skip=>exact h
  case defer d=>exact h
  case enter f args=>
   refine⟨h.1,CallsIn.mono h.2 fun e w'' he=>?_⟩
   cases e with
   |returned u=>exact he
   |panicked c=>exact he.elim
   |outgrown=>exact absurd he (by simp [LetsOut])
  case row row args=>exact h
  case round l f tmps assign body=>
   refine⟨h.1,RoundIn.mono h.2 fun e w'' he=>?_⟩
   cases e with
   |returned u=>exact he
   |panicked c=>exact he.elim
   |outgrown=>exact absurd he (by simp [LetsOut])
 |halt x w'=>
  cases x <;> simp only [Oper.uponIn] at h ⊢
  case panic u=>exact h.elim
def qtj (P:Nat→Prop):List Nat→Prop
 | []=>True
 |i::r=>P i∧qtj P r
theorem qsy {P:Nat→Prop}:∀ {l:List Nat},qtj P l→∀ i∈l,P i
 | [],_,_,h=>by simp at h
 |j::l,h,i,hi=>by
  rcases List.mem_cons.1 hi with rfl|hi
  ·exact h.1
  ·exact qsy h.2 i hi
theorem wa (rs:List Nat) (hr:Region.ready .any ops listed=rs) (hne:Nat.blt 0 rs.length=true)
  (h:qtj (fun i=>∃ o,ops[i]? = some o∧AOps E none N ops [o] (AZ E N ops fuel (listed.setIfInBounds i true) K) s) rs):AZ E N ops (fuel+1) listed K s:=by
 refine⟨fun B0 w0 G a w hL hI K' hK=>wpAnyIn_all hr (fun e=>by subst e;simp at hne) fun i hi=>?_⟩
 obtain⟨o,ho,h⟩:=qsy h i hi
 have hrun:=h.run B0 w0 G a w hL hI (qot fun a' w'=>wpAnyIn (fw none) 0 E.P .any ops (qot K') fuel (listed.setIfInBounds i true) a' w') fun G' s' a' w' hG hI' hk=>hk.run B0 w0 G' a' w' hL hI' K' fun G2 s2 a2 w2 hG2 hI2 hk2=>hK G2 s2 a2 w2 (hG.trans hG2) hI2 hk2
 unfold wpOpIn
 rw [ho]
 simp only [wpListIn] at hrun ⊢
 split
 ·rename_i hw
  rw [if_pos hw] at hrun
  exact qx0 hrun
 ·rename_i hw
  rw [if_neg hw] at hrun
  exact hrun
variable {d : Option Tmp} {T : TypeId} {p : String} {af : Array Edge}
theorem q7k {op:Op} {r:AV} (hnc:∀ c,op≠.call c) (h:∀ (G:Gh) (ρ : Operand→Value),(∀ x,Rel G (qf N s x) (ρ x))→∃ v,(∀ w',(execOp ρ ⟨d,op,T,p,af,none⟩).run E.P w' = .ok (.value v) w')∧Rel G r v):AY E N ⟨d,op,T,p,af,none⟩ s r:=
 ⟨fun B0 w0 G a w hI=>let ⟨v,h1,h2⟩:=h G a.eval hI.eval;⟨v,h1,fun w'=>by unfold Oper.about;cases op <;> first|rfl|exact absurd rfl (hnc _),h2⟩⟩
theorem yq {x:Operand}:AY E N ⟨d,.move x,T,p,af,none⟩ s (qf N s x):=q7k nofun fun G ρ hρ=>⟨ρ x,fun w'=>by simp [execOp],hρ x⟩
theorem qst {x:Operand}:AY E N ⟨d,.assign x,T,p,af,none⟩ s (qf N s x):=q7k nofun fun G ρ hρ=>⟨ρ x,fun w'=>by simp [execOp],hρ x⟩
end
theorem qri {E:Env} {rd:Option Nat} {N:Nat} {c:Code} {Q:Exit→AS→Prop} {s:AS} (I:AS→Prop) (h:AWp E rd N c (only I) s) (hk:∀ s',I s'→Q .normal s'):AWp E rd N c Q s:=h.mono fun e s' h=>by
 cases e <;> first|exact hk _ h|exact h.elim
end Go.Av
