/- Contracts and plain facts that the closing text leans on (part 3). No condition of their own beyond those that each states. -/
import Derived.Test.YtmoklbacdkmkaaaGreatDoorK2
import Derived.Lib.SplitLaws
import Derived.Shelf.Strings.SplitShaped
import Derived.Deep.Slices
import Derived.Deep.Fields
import Derived.WideKeyArgs
import Derived.Lib.ItoaLen
set_option maxRecDepth 100000
set_option linter.unusedVariables false
set_option linter.unusedSimpArgs false
namespace Go.Proofs.YtmoklbacdkmkaaaGreatDoor
open Go Go.Av Go.RowKit Go.Proofs Go.Pl
theorem q4v {l:qb} {v:Int} (h:l=Lib.itoa v):(v<0→(l.getD 0 0).toNat=45∧l.drop 1=Lib.decDigits v.natAbs)∧(0≤v→(l.getD 0 0).toNat≠45∧l=Lib.decDigits v.toNat):=by
 subst h
 refine⟨fun h=>?_,fun h=>?_⟩
 ·rw [qhq h];exact⟨rfl,rfl⟩
 ·rw [qhr h]
  refine⟨?_,rfl⟩
  have hp:=qf7 v.toNat
  have hd:=wt v.toNat v.toNat (Nat.le_refl _)
  cases hl:Lib.decDigits v.toNat with
  |nil=>rw [hl] at hp;simp at hp
  |cons c r=>
   rw [hl] at hd
   have:=hd c (by simp)
   simp
   omega
def sgn (l:qb):Nat:=if (l.getD 0 0).toNat=45 then 1 else 0
theorem qnw {l:qb} {v:Int} (h:l=Lib.itoa v):l.drop (sgn l)=Lib.decDigits v.natAbs:=by
 obtain⟨h1,h2⟩:=q4v h
 unfold sgn
 by_cases hv:v<0
 ·obtain⟨a,b⟩:=h1 hv
  rw [if_pos a,b]
 ·obtain⟨a,b⟩:=h2 (by omega)
  rw [if_neg a,List.drop_zero,show v.natAbs=v.toNat by omega]
  exact b
end Go.Proofs.YtmoklbacdkmkaaaGreatDoor
namespace Go.Pl
open Go
def sp:Bool→qb→Bool
 | _,[]=>true
 |f,c::l=>(!f ||decide (c=32)) && sp (decide (c=10)) l
theorem qlj:∀ l,sp false l=sp true (past 10 l)
 | []=>rfl
 |c::l=>by
  by_cases h:c=10
  ·subst h;simp [sp,past,upto]
  ·have e:past 10 (c::l)=past 10 l:=by simp [past,upto,h]
   rw [e,← qlj l]
   simp [sp,h]
theorem qx2 {l:qb} (h:l≠[]):sp true l=(decide ([32] <+: upto 10 l) && sp true (past 10 l)):=by
 cases l with
 |nil=>exact absurd rfl h
 |cons c r=>
  by_cases hc:c=10
  ·subst hc;simp [sp,upto]
  ·have e:past 10 (c::r)=past 10 r:=by simp [past,upto,hc]
   have e2:upto 10 (c::r)=c::upto 10 r:=by simp [upto,hc]
   rw [e,e2,← qlj]
   simp [sp,hc,eq_comm]
theorem qkh:∀ (n:Nat) (l:qb),l.length≤n→((∀ x∈zl l,[32] <+: x.1)↔sp true l=true)
 | 0,l,h=>by
  have:l=[]:=List.length_eq_zero_iff.1 (by omega)
  subst this
  simp [vq,sp]
 |n+1,l,h=>by
  by_cases hl:l=[]
  ·subst hl;simp [vq,sp]
  ·rw [v7 hl,qx2 hl,Bool.and_eq_true,← qkh n (past 10 l) (by have:=wo (c:=10) hl;omega)]
   simp only [List.mem_cons,forall_eq_or_imp,decide_eq_true_eq]
theorem qik (l:qb):(vn [32] l).2=sp true l:=by
 unfold vn
 by_cases h:sp true l=true
 ·rw [if_pos ((qkh _ l (Nat.le_refl _)).2 h),h]
 ·rw [if_neg (fun h'=>h ((qkh _ l (Nat.le_refl _)).1 h'))]
  simp only [Bool.not_eq_true] at h
  rw [h]
def qin (f:Bool) (l:qb):Bool:=match l.getLast? with|none=>f|some c=>decide (c=10)
theorem q1z (f:Bool) (c:UInt8) (l:qb):qin f (c::l)=qin (decide (c=10)) l:=by
 cases l with
 |nil=>simp [qin]
 |cons b l=>
  unfold qin
  rw [List.getLast?_cons_cons]
  cases hb:(b::l).getLast? with
  |none=>simp at hb
  |some x=>rfl
theorem qx1:∀ (f:Bool) (l m:qb),sp f (l++m)=(sp f l && sp (qin f l) m)
 |f,[],m=>by simp [sp,qin]
 |f,c::l,m=>by
  simp only [List.cons_append,sp]
  rw [qx1 _ l m,q1z,Bool.and_assoc]
theorem qtj (l:qb):qas l↔2≤l.length∧l.length≤50000∧l.getLast? = some 10∧sp true l=true:=by
 unfold qas
 rw [qik]
theorem qdj:∀ (n u:Nat),u≤n→∀ c∈Lib.decDigits u,48≤c.toNat∧c.toNat≤57
 |n,u,hn,c,hc=>by
  by_cases h:u<10
  ·rw [Lib.decDigits_one h] at hc
   simp only [List.mem_singleton] at hc
   subst hc
   rw [UInt8.toNat_ofNat']
   omega
  ·rw [qb1 h,List.mem_append] at hc
   cases n with
   |zero=>omega
   |succ n=>
    rcases hc with hc|hc
    ·exact qdj n (u / 10) (by omega) c hc
    ·exact qdj n (u % 10) (by omega) c hc
theorem qke (n:Nat):Lib.itoa (n:Int)=Lib.decDigits n:=by
 unfold Lib.itoa
 rw [if_neg (by omega)]
 simp
theorem q8c (n:Nat):∀ c∈Lib.itoa (n:Int),48≤c.toNat∧c.toNat≤57:=by
 rw [qke]
 exact qdj n n (Nat.le_refl _)
theorem qv1 (u:Nat):Lib.decDigits u≠[]:=by
 intro h
 have:=congrArg List.length h
 rw [Lib.decDigits_length] at this
 have:=Lib.nDigits_pos u
 simp at *
 omega
theorem qtr:∀ (a:Nat) (l m:qb) (b:Nat),Lib.parseUint10 a l = .ok b→Lib.parseUint10 a (l++m)=Lib.parseUint10 b m
 |a,[],m,b,h=>by
  simp only [Lib.parseUint10,Lib.NumEnd.ok.injEq] at h
  subst h;rfl
 |a,c::l,m,b,h=>by
  simp only [List.cons_append,Lib.parseUint10] at h ⊢
  split at h
  ·rename_i hd
   rw [if_pos hd]
   split at h
   ·cases h
   ·rename_i h1
    rw [if_neg h1]
    split at h
    ·cases h
    ·rename_i h2
     rw [if_neg h2]
     exact qtr _ l m b h
  ·cases h
theorem qtt:∀ (n u:Nat),u≤n→u<1000000000000000000→Lib.parseUint10 0 (Lib.decDigits u) = .ok u
 |n,u,hn,hu=>by
  have key:∀ (a d:Nat),a<100000000000000000→d<10→Lib.parseUint10 a (Lib.decDigits d) = .ok (a * 10+d):=by
   intro a d ha hd
   have e:(UInt8.ofNat (48+d)).toNat=48+d:=by rw [UInt8.toNat_ofNat'];omega
   rw [Lib.decDigits_one hd]
   simp only [Lib.parseUint10,e]
   rw [if_pos (by omega),if_neg (by omega),if_neg (by omega)]
   congr 1
   omega
  by_cases h:u<10
  ·have:=key 0 u (by omega) h
   simpa using this
  ·cases n with
   |zero=>omega
   |succ n=>
    rw [qb1 h,qtr 0 _ _ (u / 10) (qtt n (u / 10) (by omega) (by omega)),key _ _ (by omega) (by omega)]
    congr 1
    omega
theorem q3t {n:Nat} (h:n<1000000000000000000):Lib.atoiAll (Lib.itoa (n:Int)) = .ok (n:Int):=by
 have hp:=qtt n n (Nat.le_refl _) h
 have hd:=qdj n n (Nat.le_refl _)
 rw [qke]
 cases hl:Lib.decDigits n with
 |nil=>exact absurd hl (qv1 n)
 |cons c r=>
  rw [hl] at hp hd
  have hc:=hd c (by simp)
  simp only [Lib.atoiAll]
  have h1:¬ (c.toNat=43∨c.toNat=45):=by omega
  rw [if_neg h1]
  have hm:Lib.parseMag (c::r) = .ok n:=by unfold Lib.parseMag;rw [if_neg (by simp)];exact hp
  rw [hm]
  have h2:¬ c.toNat=45:=by omega
  simp only [h2,not_false_iff,true_and,false_and,if_false]
  rw [if_neg (by omega)]
theorem qw7 {n:Nat} (h1:1≤n) (h2:n≤50000):vc (Lib.itoa (n:Int))=n:=by
 have:=qq1 (q3t (n:=n) (by omega))
 rw [if_pos ⟨rfl,by omega,by omega⟩] at this
 omega
theorem qfk {l:qb} {n:Nat} (h:vc l=n) (hn:1≤n):l=Lib.itoa (n:Int):=by
 unfold vc at h
 split at h
 ·split at h
  ·rename_i v _ hv
   have:v=(n:Int):=by omega
   rw [← this,hv.1]
  ·omega
 ·omega
end Go.Pl
namespace Go.Proofs.YtmoklbacdkmkaaaGreatDoor
open Go Go.Pl
def xh (n:Nat) (fig:qb):qb:=zy++(Lib.itoa n++32::fig)
theorem q74 (n:Nat) (fig:qb):qip n fig=xh n fig++[10]:=by simp [qip,xh,zy]
theorem qqy (n:Nat) {c:UInt8} (h:¬ (48≤c.toNat∧c.toNat≤57)):c∉Lib.itoa (n:Int):=fun hc=>h (q8c n c hc)
theorem ql7 {f:qb} (h:qau f) {c:UInt8} (hc:c∉hexL):c∉f:=fun h'=>hc (h c h')
theorem qel (n:Nat) {fig:qb} (h:qau fig):10∉xh n fig:=by
 unfold xh
 simp only [List.mem_append,List.mem_cons,not_or]
 exact⟨by decide,qqy n (by decide),by decide,ql7 h (by decide)⟩
theorem qro (l:qb):Lib.trimPrefix (zy++l) zy=l:=by
 rw [qb3 (List.prefix_append _ _),List.drop_left]
structure zac (n:Nat) (fig body:qb):Prop where
 two:2≤n
 most:n≤50000
 len:body.length=n
 good:qas body
 figs:fig.length=8
 hex:qau fig
def recL (n:Nat) (fig body:qb):qb:=xh n fig++10::(body++qdl n)
theorem qm2 (l:qb):recF l=recL l.length (sumF l) l:=by
 unfold recF recL
 rw [q74]
 simp
theorem qtx {l a b:qb} (h:l <+: a++b):l <+: a∨∃ r,l=a++r∧r <+: b:=by
 rcases Nat.le_total l.length a.length with hl|hl
 ·exact .inl (List.prefix_of_prefix_length_le h (List.prefix_append _ _) hl)
 ·obtain⟨r,hr⟩:=List.prefix_of_prefix_length_le (List.prefix_append a b) h hl
  exact .inr ⟨r,hr.symm,by rw [← hr] at h;exact (List.prefix_append_right_inj a).1 h⟩
theorem qsf {a b:qb} {c:UInt8} (h:a <+: b) (hc:c∉b):c∉a:=fun h'=>hc (h.subset h')
theorem q2p (f:qb) (hl:f.length≤8) (hx:qau f):∃ g:qb,g.length=8∧qau g∧f <+: g:=
 ⟨f++List.replicate (8 - f.length) 48,by simp;omega,fun c hc=>by
  rw [List.mem_append,List.mem_replicate] at hc
  rcases hc with hc | ⟨_,rfl⟩
  ·exact hx c hc
  ·decide,List.prefix_append _ _⟩
theorem qsk:∀ (k:Nat),sp false (List.replicate k 97++[10])=true
 | 0=>by simp [sp]
 |k+1=>by rw [List.replicate_succ,List.cons_append];simp only [sp];exact by simpa using qsk k
theorem qvt {n:Nat} {r:qb} (hn:n≤50000) (hlt:r.length<n) (h2:2≤n) (hp:qd4 r ((n:Int) - r.length)=2):∃ body:qb,body.length=n∧qas body∧r <+: body:=by
 unfold qd4 at hp
 split at hp
 ·rename_i h
  obtain⟨hs,hfr⟩:=h
  rw [qik] at hs
  by_cases hf:r=[]∨r.getLast? = some 10
  ·have hk:r.length+2≤n:=by
    rcases Nat.lt_or_ge (r.length+1) n with h|h
    ·omega
    ·exact absurd ⟨hf,by omega⟩ hfr
   refine⟨r++(32::(List.replicate (n - r.length - 2) 97++[10])),by simp;omega,?_,List.prefix_append _ _⟩
   rw [qtj]
   refine⟨by simp;omega,by simp;omega,by simp [List.getLast?_append,List.getLast?_cons],?_⟩
   rw [qx1,hs]
   simp only [sp,Bool.true_and]
   have:=qsk (n - r.length - 2)
   simpa using this
  ·refine⟨r++(List.replicate (n - r.length - 1) 97++[10]),by simp;omega,?_,List.prefix_append _ _⟩
   rw [qtj]
   refine⟨by simp;omega,by simp;omega,by simp [List.getLast?_append],?_⟩
   rw [qx1,hs]
   have e:qin true r=false:=by
    unfold qin
    cases hq:r.getLast? with
    |none=>exact absurd (.inl (List.getLast?_eq_none_iff.1 hq)) hf
    |some c=>
     refine decide_eq_false fun h=>hf (.inr ?_)
     rw [hq,h]
   rw [e,qsk]
   rfl
 ·simp at hp
theorem qf4 {n:Nat} (h2:2≤n) (hn:n≤50000):∃ body:qb,body.length=n∧qas body:=by
 obtain⟨b,h1,h3,_⟩:=qvt (n:=n) (r:=[]) hn (by simp;omega) h2 (by
  unfold qd4
  rw [qik]
  rw [if_pos ⟨rfl,by rintro⟨_,h⟩;simp at h;omega⟩])
 exact⟨b,h1,h3⟩
theorem qgb {a b c:qb} (h:a <+: b):a <+: b++c:=h.trans (List.prefix_append _ _)
theorem qf0 {n:Nat} {fig body l:qb} (h:l <+: xh n fig):l <+: recL n fig body∧l.length<(recL n fig body).length:=by
 refine⟨qgb h,?_⟩
 have:=h.length_le
 unfold recL
 simp
 omega
theorem zbr {l:qb} (h:(z8 l).1=2):∃ n fig body,zac n fig body∧l <+: recL n fig body∧l.length<(recL n fig body).length:=by
 unfold z8 at h
 split at h
 ·rename_i h10
  split at h
  ·rename_i ho
   generalize hr:past 10 l=r at *
   have hl:=xw h10
   rw [hr] at hl
   generalize hu:upto 10 l=u at *
   -- the first line
   have hop:u=xh (jd u).1 (jd u).2.1∧2≤(jd u).1∧(jd u).1≤50000∧(jd u).2.1.length=8∧qau (jd u).2.1:=by
    simp only [jd,decide_eq_true_eq] at ho ⊢
    obtain⟨o1,o2,o3,o4,o5⟩:=ho
    refine⟨?_,o3,qbw _,o4,o5⟩
    obtain⟨t,rfl⟩:=o1
    rw [qro] at *
    have:=qfk rfl (Nat.le_trans (by decide) o3)
    unfold xh
    rw [← this,← xw o2]
   generalize (jd u).1=n at *
   generalize (jd u).2.1=fig at *
   obtain⟨rfl,h2,hn,hf,hx⟩:=hop
   split at h
   ·rename_i hlt
    obtain⟨body,b1,b2,b3⟩:=qvt hn hlt h2 h
    refine⟨n,fig,body,⟨h2,hn,b1,b2,hf,hx⟩,?_,?_⟩
    ·rw [hl]
     unfold recL
     rw [List.prefix_append_right_inj,List.cons_prefix_cons]
     exact⟨rfl,qgb b3⟩
    ·rw [hl]
     unfold recL
     have:=b3.length_le
     have:=qet n
     simp
     omega
   ·rename_i hge
    split at h
    ·rename_i hg
     have hlen:(r.take n).length=n:=by simp;omega
     refine⟨n,fig,r.take n,⟨h2,hn,hlen,hg,hf,hx⟩,?_⟩
     unfold qb8 at h
     rw [hlen] at h
     split at h
     ·rename_i hc
      rw [hl]
      unfold recL
      constructor
      ·rw [List.prefix_append_right_inj,List.cons_prefix_cons]
       refine⟨rfl,?_⟩
       conv=>lhs;rw [← List.take_append_drop n r]
       rw [List.prefix_append_right_inj]
       exact hc.2
      ·have:=hc.1
       simp at this ⊢
       omega
     ·split at h <;> simp at h
    ·simp at h
  ·simp at h
 ·rename_i h10
  split at h
  ·rename_i ho
   unfold qdp at ho
   split at ho
   ·rename_i hb
    obtain⟨t,rfl⟩:=hb
    have ed:(zy++t).drop 7=t:=by rw [show (7:Nat)=zy.length by rfl,List.drop_left]
    rw [ed] at ho
    obtain⟨o1,o2,o3,o4⟩:=of_decide_eq_true ho
    by_cases h32:32∈t
    ·have hn2:2≤vc (upto 32 t):=by
      rcases Nat.lt_or_ge (vc (upto 32 t)) 2 with h|h
      ·exact absurd ⟨h32,h⟩ o1
      ·exact h
     obtain⟨fig,f1,f2,f3⟩:=q2p _ o3 o4
     obtain⟨body,b1,b2⟩:=qf4 hn2 (qbw _)
     refine⟨_,fig,body,⟨hn2,qbw _,b1,b2,f1,f2⟩,qf0 ?_⟩
     unfold xh
     rw [List.prefix_append_right_inj]
     conv=>lhs;rw [xw h32]
     rw [qfk (l:=upto 32 t) rfl (by omega)]
     rw [qw7 (by omega) (qbw _),List.prefix_append_right_inj,List.cons_prefix_cons]
     exact⟨rfl,f3⟩
    ·rw [qb0 h32] at o2
     by_cases ht:t=[]
     ·subst ht
      obtain⟨body,b1,b2⟩:=qf4 (n:=2) (by omega) (by omega)
      refine⟨2,List.replicate 8 48,body,⟨by omega,by omega,b1,b2,by simp,by decide⟩,qf0 ?_⟩
      unfold xh
      simp
     ·have hpos:1≤vc t:=by
       rcases Nat.eq_zero_or_pos (vc t) with h|h
       ·exact absurd ⟨ht,h⟩ o2
       ·exact h
      have hle:=qbw t
      have ht2:=qfk (l:=t) rfl hpos
      generalize vc t=m at *
      subst ht2
      by_cases hm:m=1
      ·subst hm
       obtain⟨body,b1,b2⟩:=qf4 (n:=10) (by omega) (by omega)
       refine⟨10,List.replicate 8 48,body,⟨by omega,by omega,b1,b2,by simp,by decide⟩,qf0 ?_⟩
       unfold xh
       rw [List.prefix_append_right_inj]
       have e1:Lib.itoa ((1:Nat):Int)=[49]:=by rw [qke,Lib.decDigits_one (by decide)];rfl
       have e2:Lib.itoa ((10:Nat):Int)=[49,48]:=by rw [qke,qb1 (by decide),Lib.decDigits_one (by decide),Lib.decDigits_one (by decide)];rfl
       rw [e1,e2]
       exact⟨_,rfl⟩
      ·obtain⟨body,b1,b2⟩:=qf4 (n:=m) (by omega) (by omega)
       refine⟨m,List.replicate 8 48,body,⟨by omega,by omega,b1,b2,by simp,by decide⟩,qf0 ?_⟩
       unfold xh
       rw [List.prefix_append_right_inj]
       exact List.prefix_append _ _
   ·rename_i hb
    have hp:=of_decide_eq_true ho
    obtain⟨body,b1,b2⟩:=qf4 (n:=2) (by omega) (by omega)
    refine⟨2,List.replicate 8 48,body,⟨by omega,by omega,b1,b2,by simp,by decide⟩,qf0 ?_⟩
    unfold xh
    exact qgb hp
  ·simp at h
theorem qy2 (s:BitVec 32):qau (qbq s 8):=by
 intro c hc
 simp only [qbq,List.mem_map] at hc
 obtain⟨j,_,rfl⟩:=hc
 unfold figP
 have h:=Go.Av.and15_lt (s >>> (4 * (7 - j)))
 generalize ((s >>> (4 * (7 - j))) &&& BitVec.ofInt 32 15).toNat=k at h
 have key:∀ i:Fin 16,([48,49,50,51,52,53,54,55,56,57,97,98,99,100,101,102]:qb).getD i.val 0∈hexL:=by decide
 exact key ⟨k,h⟩
theorem qzf (b:qb) (h:qas b):((recF b).length:Int)=qg6 b.length:=by
 obtain⟨g1,g2,_⟩:=h
 unfold recF qg6
 rw [if_neg (by omega)]
 simp only [List.length_append,qem,qja]
 simp
theorem zdi {l:qb} (h1:10∈l→(jd (upto 10 l)).2.2=false) (h2:10∉l→qdp l=false):z8 l=(3,[],0):=by
 unfold z8
 by_cases h:10∈l
 ·rw [if_pos h,if_neg (by rw [h1 h];simp)]
 ·rw [if_neg h,if_neg (by rw [h2 h];simp)]
theorem R2 {l:qb} (hl:l.length≤7) (h:¬ l <+: zy):z8 l=(3,[],0):=by
 refine zdi (fun h10=>decide_eq_false fun h'=>?_) (fun h10=>?_)
 ·have:=h'.1.length_le
  have:=qc8 h10
  have e:zy.length=7:=rfl
  omega
 ·unfold qdp
  by_cases hb:zy <+: l
  ·have:=hb.eq_of_length_le hl
   exact absurd (this▸List.prefix_refl _) h
  ·rw [if_neg hb];exact decide_eq_false h
theorem zcc {p:UInt8→Bool} (s:qb):s.take (s.takeWhile p).length=s.takeWhile p:=by
 induction s with
 |nil=>rfl
 |cons b s ih=>
  by_cases h:p b=true
  ·rw [List.takeWhile_cons_of_pos h];simp [ih]
  ·rw [List.takeWhile_cons_of_neg h];rfl
theorem zd0 {p:UInt8→Bool} {l m:qb} (hm:m <+: l) (h:∀ c∈m,p c=true):m.length≤(l.takeWhile p).length:=by
 obtain⟨r,rfl⟩:=hm
 rw [List.takeWhile_append_of_pos h]
 simp
end Go.Proofs.YtmoklbacdkmkaaaGreatDoor
namespace Go.Proofs.YtmoklbacdkmkaaaGreatDoor
open Go Go.Av Go.RowKit Go.Proofs Go.Pl
structure q9u (l S:qb) (K n:Nat):Prop where
 hl:l=zy++S
 hK:(S.takeWhile qqn).length=K
 hD:S.take K=Lib.itoa (n:Int)
 h1:1≤n
 h2:n≤50000
theorem q9u.split {l S:qb} {K n:Nat} (A:q9u l S K n) (h:K<S.length):S=Lib.itoa (n:Int)++S.getD K 0::S.drop (K+1)∧qqn (S.getD K 0)=false:=by
 have e:S=S.take K++S.getD K 0::S.drop (K+1):=by
  conv=>lhs;rw [← List.take_append_drop K S]
  rw [List.drop_eq_getElem_cons h]
  congr 2
  simp [List.getD,h]
 refine⟨by rw [← A.hD];exact e,?_⟩
 cases hc:qqn (S.getD K 0) with
 |false=>rfl
 |true=>
  have hp:S.take (K+1) <+: S:=List.take_prefix _ _
  have:=zd0 (p:=qqn) hp (fun c hc'=>by
   rw [qcr h,List.mem_append,List.mem_singleton] at hc'
   rcases hc' with hc'|rfl
   ·rw [← A.hK,zcc] at hc'
    have ha:=List.all_takeWhile (p:=qqn) (l:=S)
    rw [List.all_eq_true] at ha
    exact ha c hc'
   ·exact hc)
  rw [A.hK] at this
  simp at this
  omega
theorem q5t (l:List UInt8) (st:List AObj) (hl:l.length<4294967281) (hg:qas l):qm E 76 [Sv l] st fun r st'=>r = .tu [Sv (recF l),.v .nilIface]∧st'=st:=by
 have h:=q87 l st hl
 unfold qd6 at h
 rw [if_pos hg] at h
 exact h
theorem q2s {b:List UInt8} (h:qas b):(recF b).length≤b.length+61∧1≤(recF b).length:=by
 have h1:=qhp b.length (by have:=h.2.1;omega)
 unfold recF
 simp only [List.length_append,qem,qja,qet]
 omega
end Go.Proofs.YtmoklbacdkmkaaaGreatDoor
namespace Go.Av
open Go Go.RowKit
def StE (L:List (Nat×AV)) (st loc:List AObj) (s:AS):Prop:=∃ t ext,s=⟨puts t L,((st++loc)++ext)++[],[]⟩
theorem xf {t:Nat→AV} {L:List (Nat×AV)} {st loc loc' ext new:List AObj} (h:HasL t L) (e:loc'=loc):StE L st loc ⟨t,((st++loc')++ext)++new,[]⟩:=
 ⟨t,ext++new,by rw [qg7 h,e];simp⟩
theorem qbg {t:Nat→AV} {L:List (Nat×AV)} {st loc st':List AObj} (h:HasL t L) (e:st'=st++loc):StE L st loc ⟨t,st',[]⟩:=
 ⟨t,[],by rw [qg7 h,e];simp⟩
theorem wx (st loc ext new:List AObj):∃ x,((st++loc)++ext)++new=st++x:=⟨loc++ext++new,by simp⟩
theorem yy {st loc ext new:List AObj} {k:Nat} {x:AObj} (h:loc[k]? = some x):(((st++loc)++ext)++new)[st.length+k]? = some x:=by
 have hk:=lt_of_getElem? h
 rw [List.append_assoc,List.append_assoc,List.getElem?_append_right (Nat.le_add_right _ _),Nat.add_sub_cancel_left,List.getElem?_append_left hk]
 exact h
theorem qc6 {st loc ext new:List AObj} {k:Nat} (x:AObj) (hk:k<loc.length):(((st++loc)++ext)++new).set (st.length+k) x=((st++loc.set k x)++ext)++new:=by
 rw [List.append_assoc,List.append_assoc,List.set_append_right _ _ (Nat.le_add_right _ _),Nat.add_sub_cancel_left,List.set_append_left _ _ hk]
 simp
theorem qix {G:Gh} {sz:Nat} {xs:List AV} {tip:Option Nat} {v:Value} (h:Rel G (.sl sz xs tip) v):Rel G (.sl sz xs none) v:=by
 cases h with
 |sl0 _ _ base cap ht=>exact .sl0 sz none base cap (by simp)
 |sl _ _ _ b off cap pub hp hw hlen hr ht hcap=>exact .sl sz xs none b off cap pub hp hw hlen hr (fun t ht=>by simp at ht) hcap
theorem qa1 {G:Gh} {sz:Nat} {v:Value} (h:Rel G zh v):Rel G (.sl sz [] none) v:=by
 cases h
 exact .sl0 sz none none 0 (by simp)
section
variable {E : Env} {rd : Option Nat} {N : Nat} {ops : Array Oper} {K : AS → Prop} {s : AS} {rest : List Oper} {d : Option Tmp} {T : TypeId} {p : String} {af : Array Edge}
theorem wb {fn:Func} {r r':AV} (h:ARes E fn s r) (hw:∀ (G:Gh) (v:Value),Rel G r v→Rel G r' v):ARes E fn s r':=
 ⟨fun B0 w0 G a w hL hI=>let ⟨v,h1,h2⟩:=h.run B0 w0 G a w hL hI;⟨v,h1,hw G v h2⟩⟩
theorem qpv {fn:Func} {t:Tmp} {sz:Nat} {xs:List AV} {tip:Option Nat} (hr:fn.results = #[.tmp t]) (hx:qj fn.ntmps s (.tmp t) = .sl sz xs tip):ARes E fn s (.sl sz xs none):=
 wb (q9 hr) fun G v h=>by rw [hx] at h;exact qix h
theorem yi {x y:Operand} {t u T':TypeId} {sz bytes k n m:Nat} {xs ys zs:List AV} {tip:Option Nat} {st loc ext new:List AObj} (hs:s.st=((st++loc)++ext)++new) (hx:qj N s x = .sl sz xs (some (st.length+k))) (hy:qj N s y = .sl sz ys tip) (ho:loc[k]? = some (.tip n sz T')) (hn:xs.length=n)
  (ht:E.P.underlying t=some (.slice T')) (hu:E.P.underlying u=some (.slice T')) (hT:xb E.P T' sz bytes) (hone:ju (flat ys)=true) (hm:ys.length=m) (h63:n+m≤maxLen) (hb:(n+m) * bytes≤140737488355328) (hz:xs++ys=zs)
  (h:AOps E rd N ops rest K (AS.put ⟨s.t,((st++loc.set k (.tip (n+m) sz T'))++ext)++new,s.df⟩ d (.sl sz zs (some (st.length+k))))):AOps E rd N ops (⟨d,.call ⟨.builtin .append,#[x,y],#[t,u]⟩,T,p,af,none⟩::rest) K s:=by
 subst hz
 have hk:=lt_of_getElem? ho
 exact qnc hx hy (by rw [hs];exact yy ho) hn ht hu hT hone hm h63 hb (by rw [hs,qc6 _ hk];exact h)
theorem qlc {x:Operand} {t:TypeId} {sz:Nat} {agg:Bool} {st loc ext new:List AObj} {k ver off:Nat} {T':TypeId} {cs:List AV} {r:AV} (hs:s.st=((st++loc)++ext)++new) (hx:qj N s x = .bx (st.length+k) ver off) (ho:loc[k]? = some (.cells ver T' cs)) (ht:tyOf E.P t=some (sz,agg)) (hr:jk sz agg off cs=some r)
  (h:AOps E rd N ops rest K (s.put d r)):AOps E rd N ops (⟨d,.load t x,T,p,af,none⟩::rest) K s:=
 ka hx (by rw [hs];exact yy ho) ht hr h
end
end Go.Av
namespace Go.Pl
open Go
def q5 (l:qb):List qb:=
 if h:10∈l then upto 10 l::q5 (past 10 l) else [l]
 termination_by l.length
 decreasing_by exact wo (fun e=>by rw [e] at h;simp at h)
theorem xi {l:qb} (h:10∈l):q5 l=upto 10 l::q5 (past 10 l):=by rw [q5,dif_pos h]
theorem xj {l:qb} (h:10∉l):q5 l=[l]:=by rw [q5,dif_neg h]
theorem q0s:∀ (n:Nat) (l:qb),l.length≤n→Lib.splitK [10] 0 (Lib.count l [10]) l=q5 l
 |n,l,hn=>by
  by_cases h:10∈l
  ·have hi:=qqm 10 l h
   have hne:l≠[]:=fun e=>by rw [e] at h;simp at h
   have hlt:=wo (c:=10) hne
   rw [xi h,Lib.count_hit (i:=(upto 10 l).length) (by simp) hi,Nat.add_comm,Lib.splitK]
   rw [if_neg (by rw [hi];simp),hi]
   cases n with
   |zero=>exact absurd (List.length_eq_zero_iff.1 (by omega)) hne
   |succ n=>
    have:=q0s n (past 10 l) (by omega)
    simp only [Int.toNat_natCast,Nat.add_zero,List.length_cons,List.length_nil,Nat.zero_add,qiz]
    rw [show List.drop ((upto 10 l).length+1) l=past 10 l from rfl,this]
  ·have hi:Lib.index l [10] = -1:=by
    have:=Lib.index_ge l [10]
    have h2:¬ 0≤Lib.index l [10]:=fun h'=>h ((qcn l 10).1 h')
    omega
   rw [xj h,Lib.count_miss hi]
   rfl
theorem qba:∀ (n:Nat) (l:qb),l.length≤n→(q5 l).length≤l.length+1
 |n,l,hn=>by
  by_cases h:10∈l
  ·have hne:l≠[]:=fun e=>by rw [e] at h;simp at h
   have hlt:=wo (c:=10) hne
   rw [xi h]
   cases n with
   |zero=>exact absurd (List.length_eq_zero_iff.1 (by omega)) hne
   |succ n=>
    have:=qba n (past 10 l) (by omega)
    simp only [List.length_cons]
    omega
  ·rw [xj h];simp
theorem qga:∀ (n:Nat) (l:qb),l.length≤n→∀ x∈q5 l,x.length≤l.length∧10∉x
 |n,l,hn,x,hx=>by
  by_cases h:10∈l
  ·have hne:l≠[]:=fun e=>by rw [e] at h;simp at h
   have hlt:=wo (c:=10) hne
   rw [xi h,List.mem_cons] at hx
   rcases hx with rfl|hx
   ·exact⟨j8 10 l,qaw 10 l⟩
   ·cases n with
    |zero=>exact absurd (List.length_eq_zero_iff.1 (by omega)) hne
    |succ n=>
     have:=qga n (past 10 l) (by omega) x hx
     exact⟨by omega,this.2⟩
  ·rw [xj h,List.mem_singleton] at hx
   subst hx
   exact⟨Nat.le_refl _,h⟩
end Go.Pl
namespace Go.Proofs.YtmoklbacdkmkaaaGreatDoor
open Go Go.Av Go.RowKit Go.Proofs Go.Pl
theorem qlk {f:FuncId} {st:List AObj} {args:List AV} {vals:Array Value} {xs:List qb} {T:TypeId} (ha:args=vals.toList.map .v) (hne:xs≠[])
  (h:∀ B0 w0 w,E.L B0 w0→Below B0 w0 w→Calls E.P f vals w fun e w'=>e = .returned (.slice (some ⟨w.heap.size,0,none⟩) xs.length xs.length)∧w'=w.alloc (.cells (xs.map fun l=>Value.string ⟨l.toArray⟩).toArray T)) :
  qm E f args st fun r st'=>r = .sl 1 (xs.map fun l=>Sv l) none∧st'=st:=by
 subst ha
 refine⟨fun B0 w0 G vs w hL hA hR=>?_⟩
 have hv:vs=vals:=by
  have hs:vs.size=vals.size:=by have:=hR.1;simpa using this.symm
  apply Array.ext hs
  intro i h1 h2
  have:=hR.2 i (.v vals[i]) vs[i] (by simp [h2]) (by simp [h1])
  generalize vs[i]=y at this
  cases this
  rfl
 subst hv
 refine (h B0 w0 w hL hA.below).mono ?_
 rintro e w' ⟨rfl,rfl⟩
 obtain⟨hle,hA'⟩:=hA.newPub T (xs.map fun l=>Value.string ⟨l.toArray⟩).toArray (0,0) (xs.map fun l=>Value.string ⟨l.toArray⟩) (fun i y hy=>by simpa using hy)
 refine⟨_,_,_,st,rfl,hle,hA',?_,rfl,rfl⟩
 have hfl:flat (xs.map fun l=>Sv l)=xs.map fun l=>Sv l:=by
  clear hne h hle hA'
  induction xs with
  |nil=>rfl
  |cons a xs ih=>rw [List.map_cons,qao,ih];rfl
 have:=Rel.sl (G:=G.publish w.heap.size (xs.map fun l=>Value.string ⟨l.toArray⟩)) 1 (xs.map fun l=>Sv l) none w.heap.size 0 xs.length (xs.map fun l=>Value.string ⟨l.toArray⟩) (by simp [Gh.publish]) (fun x hx=>by
  simp only [List.mem_map] at hx
  obtain⟨l,_,rfl⟩:=hx
  rfl) (by rw [hfl];simp) (fun i x y h1 h2=>by
  rw [hfl,List.getElem?_map] at h1
  rw [Nat.zero_add,List.getElem?_map] at h2
  cases hx:xs[i]? with
  |none=>rw [hx] at h1;simp at h1
  |some l=>
   rw [hx] at h1 h2
   simp at h1 h2
   subst h1;subst h2
   exact .v _) (fun t ht=>by simp at ht) (by simp)
 simpa using this
theorem q57 (l:List UInt8) (st:List AObj) (hl:l.length<4294967281):qm E 154 [Sv l,Sv [10]] st fun r st'=>r = .sl 1 ((q5 l).map fun x=>Sv x) none∧st'=st:=by
 have hd:=Lib.splitB_data ⟨#[10]⟩ 0 (Lib.countB ⟨l.toArray⟩ ⟨#[10]⟩) ⟨l.toArray⟩
 have hs:Lib.splitK [10] 0 (Lib.count l [10]) l=q5 l:=q0s _ l (Nat.le_refl _)
 have hn:=Lib.splitB_all ⟨#[10]⟩ (by simp [ByteArray.size]) 0 _ ⟨l.toArray⟩ rfl
 have hd2:(Lib.splitB ⟨#[10]⟩ 0 (Lib.countB ⟨l.toArray⟩ ⟨#[10]⟩) ⟨l.toArray⟩).map (·.data.toList)=q5 l:=hd.trans hs
 have hlen:(q5 l).length=Lib.countB ⟨l.toArray⟩ ⟨#[10]⟩+1:=by rw [← hd2,List.length_map,hn]
 refine qlk (T:=9) (vals:= #[.string ⟨l.toArray⟩,.string ⟨#[10]⟩]) rfl (fun e=>by rw [e] at hlen;simp at hlen) fun _ _ w hL hb=>(Tryz.strings_Split_shaped ⟨l.toArray⟩ ⟨#[10]⟩ w (hL w hb).shaped (by simpa [ByteArray.size] using hl) (by simp [ByteArray.size])).mono fun e w' ⟨h1,h2⟩=>?_
 refine⟨by rw [h1,hlen],?_⟩
 rw [h2,← hd2,List.map_map]
 rfl
end Go.Proofs.YtmoklbacdkmkaaaGreatDoor
namespace Go.Av
open Go Go.RowKit
section
variable {E : Env} {N : Nat} {ops : Array Oper} {K : AS → Prop} {s : AS} {rest : List Oper} {d : Option Tmp} {T : TypeId} {p : String} {af : Array Edge}
theorem qpt {x:Operand} {t:TypeId} {sz:Nat} {agg:Bool} {o ver off:Nat} {T':TypeId} {cs:List AV} {r:AV} (hx:qj N s x = .bx o ver off) (ho:s.st[o]? = some (.cells ver T' cs)) (ht:tyOf E.P t=some (sz,agg)) (hr:jk sz agg off cs=some r)
  (h:AQ E N ops rest K (s.put d r)):AQ E N ops (⟨d,.load t x,T,p,af,none⟩::rest) K s:=by
 refine qcu rfl nofun fun B0 w0 G a w _ hI=>?_
 have he:=hI.eval_of hx
 generalize hv:a.eval x=v at he
 cases he with
 |bx _ _ _ b hn hv' hb=>
  obtain⟨_,h1,h2,h3,c,h4,h5,h6⟩:=hI.agree.ob o _ ho
  have hb:=hb h1
  subst hb
  have hlt:(G.ob o).blk<w.heap.size:=by
   rcases Nat.lt_or_ge (G.ob o).blk w.heap.size with h'|h'
   ·exact h'
   ·rw [Array.getElem?_eq_none h'] at h4;simp at h4
  -- the value is read out of the cells, whatever is drawn behind them
  have key:∀ w',Below w.heap.size w w'→∃ v,(loadVar t ⟨(G.ob o).blk,off,none⟩).run E.P w' = .ok v w'∧Rel G r v:=fun w' hw'=>by
   have h4':w'.heap[(G.ob o).blk]? = some (.cells c T' (0,0)):=by rw [hw'.block _ hlt];exact h4
   exact yz (w:=w') (G:=G) (b:=(G.ob o).blk) (off:=off) (off':=off) ht (fun i x hx hi=>by
    obtain⟨y,hy⟩:=vp hx (Nat.le_of_eq h5)
    refine⟨y,?_,h6 i x y hx hy⟩
    simp [World.cell?,h4',show off+(i - off)=i by omega,hy]) hr
  have hsame:∀ w',Below w.heap.size w w'→∀ v,(loadVar t ⟨(G.ob o).blk,off,none⟩).run E.P w = .ok v w→(loadVar t ⟨(G.ob o).blk,off,none⟩).run E.P w' = .ok v w':=fun w' hw' v hr1=>by
   obtain⟨i1,i2⟩:=kq ht w
   obtain⟨j1,j2⟩:=kq ht w'
   have hc:∀ k,w'.cell? ⟨(G.ob o).blk,k,none⟩=w.cell? ⟨(G.ob o).blk,k,none⟩:=fun k=>by simp [World.cell?,hw'.block _ hlt]
   obtain⟨v',h1',_⟩:=key w' hw'
   rw [h1']
   congr 1
   cases agg with
   |false=>
    simp only [jk,cond_false] at hr
    obtain⟨y,hy⟩:=vp hr (Nat.le_of_eq h5)
    have e1:w.cell? ⟨(G.ob o).blk,off,none⟩=some y:=by simp [World.cell?,h4,hy]
    have e2:w'.cell? ⟨(G.ob o).blk,off,none⟩=some y:=by rw [hc,e1]
    simp [loadVar,i2,run_load,e1] at hr1
    simp [loadVar,j2,run_load,e2] at h1'
    rw [← h1',hr1]
   |true=>
    simp only [jk,cond_true] at hr
    cases hb2:Nat.ble (off+sz) cs.length with
    |false=>rw [hb2] at hr;simp at hr
    |true=>
     have hle:off+sz≤cs.length:=Nat.le_of_ble_eq_true hb2
     have e1:∀ j,j<sz→w.cell? ⟨(G.ob o).blk,off+j,none⟩=some (c.getD (off+j) undef):=fun j hj=>by
      have:off+j<c.size:=by omega
      simp [World.cell?,h4,this]
     have e2:∀ j,j<sz→w'.cell? ⟨(G.ob o).blk,off+j,none⟩=some (c.getD (off+j) undef):=fun j hj=>by rw [hc,e1 j hj]
     have l1:=run_loadCells (P:=E.P) (w:=w) ⟨(G.ob o).blk,off,none⟩ sz (fun j=>c.getD (off+j) undef) (fun j hj=>by rw [Addr.add_lit];exact e1 j hj)
     have l2:=run_loadCells (P:=E.P) (w:=w') ⟨(G.ob o).blk,off,none⟩ sz (fun j=>c.getD (off+j) undef) (fun j hj=>by rw [Addr.add_lit];exact e2 j hj)
     simp [loadVar,i1,i2,l1] at hr1
     simp [loadVar,j1,j2,l2] at h1'
     rw [← h1',hr1]
  obtain⟨v,hrun,hR⟩:=key w (Below.refl _ _)
  exact⟨v,r,fun w' hw'=>by simp only [execOp,hv,Instr.loadAt,Instr.sureAddr];simp [hsame w' hw' v hrun],hR,h⟩
end
end Go.Av
namespace Go.Av
open Go Go.RowKit
section
variable {E : Env} {rd : Option Nat} {N : Nat} {ops : Array Oper} {K : AS → Prop} {s : AS} {rest : List Oper} {d : Option Tmp} {T : TypeId} {p : String} {af : Array Edge}
theorem qnf {x:Operand} {t:TypeId} {sz:Nat} {agg:Bool} {st loc:List AObj} {k ver off:Nat} {T':TypeId} {cs:List AV} {r:AV} (hs:s.st=st++loc) (hx:qj N s x = .bx (st.length+k) ver off) (ho:loc[k]? = some (.cells ver T' cs)) (ht:tyOf E.P t=some (sz,agg)) (hr:jk sz agg off cs=some r)
  (h:AQ E N ops rest K (s.put d r)):AQ E N ops (⟨d,.load t x,T,p,af,none⟩::rest) K s:=
 qpt hx (by rw [hs];exact jb ho) ht hr h
end
end Go.Av
namespace Go.Proofs.YtmoklbacdkmkaaaGreatDoor
open Go Go.Av Go.RowKit Go.Proofs Go.Pl
structure qfb where
 kind:Int
 key:qb
 text:qb
 lo:Int
 hi:Int
abbrev FldV:=qb×qb
@[reducible] def fldA (f : FldV) : AV := .ag [Sv f.1, Sv f.2]
@[reducible] def zz (l : List FldV) : AV := .sl 2 (l.map fldA) none
def q91 (r:qfb):Prop:=1≤r.kind∧r.kind≤7∧(r.kind=6∨yl r.key)
instance (r:qfb):Decidable (q91 r):=inferInstanceAs (Decidable (_∧_∧_))
def q0z (l:qb):List qb:=if l=[] then [] else q5 l
theorem q5p (xs:List qb):Pure (.sl 1 (xs.map fun x=>Sv x) none):=qaf fun x hx=>by
 simp only [List.mem_map] at hx
 obtain⟨l,_,rfl⟩:=hx
 intro y hy
 simp [AV.cells] at hy
 subst hy
 exact qq _
def qm8 (r:qfb) (n:Int):Prop:=r.lo≤n∧n≤r.hi
instance (r:qfb) (n:Int):Decidable (qm8 r n):=inferInstanceAs (Decidable (_∧_))
def q0j (r:qfb) (l:qb):Prop:=∃ n,numZ l=some n∧qm8 r n
instance (r:qfb) (l:qb):Decidable (q0j r l):=
 match h:numZ l with
 |some n=>decidable_of_iff (qm8 r n) ⟨fun h'=>⟨n,h,h'⟩,fun ⟨m,h1,h2⟩=>by rw [h] at h1;cases h1;exact h2⟩
 |none=>.isFalse fun ⟨m,h1,_⟩=>by rw [h] at h1;cases h1
def q6g (r:qfb) (f:FldV):Prop:=
 (r.kind=3→f.1=r.key→q0j r f.2)∧(r.kind=4→f.1=r.key→f.2∈q0z r.text)∧(r.kind=5→f.1=r.key→qm8 r f.2.length)∧(r.kind=6→f.1∈q0z r.text)
instance (r:qfb) (f:FldV):Decidable (q6g r f):=inferInstanceAs (Decidable (_∧_∧_∧_))
theorem qj9 {xs:List FldV} {k:Nat} (hk:k<xs.length):(xs.map fldA)[k]? = some (fldA (xs.getD k ([],[]))):=by
 simp [List.getD,hk]
def q6n (key:qb) (xs:List FldV):List qb:=(xs.filter fun f=>f.1=key).map Prod.snd
def zao (r:qfb) (xs:List FldV):Prop:=q91 r∧((r.kind=1∧(q6n r.key xs).length=0)∨(r.kind=2∧1<(q6n r.key xs).length)∨(r.kind≠1∧r.kind≠2∧xs.any (fun f=> !decide (q6g r f))=true))
instance (r:qfb) (xs:List FldV):Decidable (zao r xs):=inferInstanceAs (Decidable (_∧(_∨_∨_)))
structure q9w (xs:List FldV):Prop where
 len:xs.length<1000000
 val:∀ f∈xs,f.1.length<4294967281∧f.2.length<4294967281
end Go.Proofs.YtmoklbacdkmkaaaGreatDoor
namespace Go.Av
open Go Go.RowKit Go.WideShapes Go.ChangeShapes Go.Deep
def gW (W:World):Gh:=⟨fun b=>match W.heap[b]? with|some (.cells c _ _)=>some c.toList | _=>none,fun _=>⟨0,0,0,false⟩,0⟩
theorem zc2 {W:World} {b:Nat} {c:Array Value} {T:TypeId} {fz:Nat×Nat} (h:W.heap[b]? = some (.cells c T fz)):(gW W).pub b=some c.toList:=by
 simp [gW,h]
theorem qu7 (W:World):zf W.heap.size W (gW W) [] W:=by
 refine⟨Below.refl _ _,Nat.le_refl _,rfl,fun b vs h=>?_,fun o x h=>by simp at h,fun o o' x x' _ h=>by simp at h⟩
 simp only [gW] at h
 split at h
 ·rename_i c T fz hb
  cases h
  exact⟨c,T,fz,hb,fun i y hy=>by simpa using hy⟩
 ·cases h
theorem qp0 {E:Env} {f:FuncId} {args:List AV} {vals:Array Value} {b:Bool} {W:World} (h:qm E f args [] fun r st'=>r=Bv b∧st'=[]) (hL:E.L W.heap.size W) (ha:RelL (gW W) args vals) :
  Calls E.P f vals W fun e w'=>e = .returned (.bool b)∧Below W.heap.size W w':=by
 refine (h.run W.heap.size W (gW W) vals W hL (qu7 W) ha).mono ?_
 rintro e w' ⟨v,G',r,st',rfl,_,hA,hr,rfl,_⟩
 cases hr
 exact⟨rfl,hA.below⟩
theorem q88 {G:Gh}:RelL G [] #[]:=⟨rfl,fun i x y h=>by simp at h⟩
theorem qt1 {G:Gh} {a:AV} {us:List AV} {v:Value} {vs:List Value} (h:Rel G a v) (hs:RelL G us vs.toArray):RelL G (a::us) (v::vs).toArray:=by
 refine⟨by simpa using hs.1,fun i x y hx hy=>?_⟩
 cases i with
 |zero=>simp at hx hy;subst hx;subst hy;exact h
 |succ i=>exact hs.2 i x y (by simpa using hx) (by simpa using hy)
def RelK (G:Gh) (us:List AV) (cs:List Value):Prop:=us.length=cs.length∧∀ (i:Nat) (x:AV) (y:Value),us[i]? = some x→cs[i]? = some y→Rel G x y
theorem qky {G:Gh} {a:AV} {v:Value} (h:Rel G a v):RelK G [a] [v]:=⟨rfl,fun i x y hx hy=>by
 cases i with
 |zero=>simp at hx hy;subst hx;subst hy;exact h
 |succ i=>simp at hx⟩
theorem RelK.one {G:Gh} {a:AV} {v:Value} (h:RelK G [a] [v]):Rel G a v:=h.2 0 a v rfl rfl
def Opn (P:Program) (t:TypeId) (S:AV→Prop):Prop:=∀ (H:Type) (enc:TypeId×Value→H) (W:World) (fuel:Nat) (cs:List Value) (x:DataW H×List MemPlace),
 DataW.trod enc P W 0 (fun _=>true) true fuel t cs=some x→∃ a,S a∧RelK (gW W) a.cells cs
def IsS (a:AV):Prop:=∃ l:List UInt8,a=Sv l∧l.length≤maxLen
def IsI (k:IntKind) (a:AV):Prop:=∃ n:Int,a = .v (.int k n)∧(Lit.int k n).wf=true
def IsSl (sz:Nat) (S:AV→Prop) (a:AV):Prop:=∃ xs:List AV,a = .sl sz xs none∧xs.length≤maxLen∧∀ x∈xs,S x
def IsAg (Ss:List (AV→Prop)) (a:AV):Prop:=∃ vs:List AV,a = .ag vs∧vs.length=Ss.length∧∀ (i:Nat) (S:AV→Prop) (v:AV),Ss[i]? = some S→vs[i]? = some v→S v
def One (S:AV→Prop):Prop:=∀ a,S a→a.cells=[a]
theorem quz:One IsS:=by rintro _ ⟨l,rfl,_⟩;rfl
theorem q2k (k:IntKind):One (IsI k):=by rintro _ ⟨l,rfl,_⟩;rfl
theorem q5e (sz:Nat) (S:AV→Prop):One (IsSl sz S):=by rintro _ ⟨l,rfl,_⟩;rfl
theorem zed (s:ByteArray):Sv s.data.toList = .v (.string s):=by cases s;simp
theorem qu1 {P:Program} {t:TypeId} (hu:P.underlying t=some .string):Opn P t IsS:=by
 intro H enc W fuel cs x h
 obtain⟨s,rfl,_,hs⟩:=DataW.trod_string hu h
 refine⟨Sv s.data.toList,⟨_,rfl,by simpa using hs⟩,qky ?_⟩
 rw [zed]
 exact .v _
theorem qu0 {P:Program} {t:TypeId} {k:IntKind} (hu:P.underlying t=some (.int k)):Opn P t (IsI k):=by
 intro H enc W fuel cs x h
 obtain⟨n,rfl,_,hs⟩:=DataW.trod_int hu h
 exact⟨_,⟨n,rfl,hs⟩,qky (.v _)⟩
theorem qnk {n:Nat} {Q:Nat→AV→Prop} (h:∀ i,i<n→∃ a,Q i a):∃ vs:List AV,vs.length=n∧∀ i v,vs[i]? = some v→Q i v:=by
 induction n with
 |zero=>exact⟨[],rfl,fun i v h=>by simp at h⟩
 |succ n ih=>
  obtain⟨vs,hl,hv⟩:=ih fun i hi=>h i (by omega)
  obtain⟨a,ha⟩:=h n (by omega)
  refine⟨vs++[a],by simp [hl],fun i v hi=>?_⟩
  rcases Nat.lt_or_ge i n with hc|hc
  ·rw [List.getElem?_append_left (by omega)] at hi
   exact hv i v hi
  ·rw [List.getElem?_append_right (by omega)] at hi
   have:i - vs.length=0:=by
    rcases Nat.eq_zero_or_pos (i - vs.length) with h0|h0
    ·exact h0
    ·rw [List.getElem?_eq_none (by simp;omega)] at hi;cases hi
   rw [this] at hi
   simp at hi
   subst hi
   have:i=n:=by omega
   subst this
   exact ha
theorem zdl {P:Program} {t:TypeId} {fs:Array Field} {Ss:List (AV→Prop)} (hu:P.underlying t=some (.struct fs)) (hone:oneCellFields P fs=true) (hC:P.cellsOf t=fs.size) (hl:Ss.length=fs.size)
  (hS:∀ (i:Nat) (f:Field) (S:AV→Prop),fs[i]? = some f→Ss[i]? = some S→Opn P f.type S∧One S):Opn P t (IsAg Ss):=by
 intro H enc W fuel cs x h
 obtain⟨xs,n,_,_,hcl,hxl,hf⟩:=DataW.trod_struct hu h
 have hcs:cs.length=fs.size:=hcl.trans hC
 have step:∀ i,i<fs.size→∃ a:AV,(∀ S,Ss[i]? = some S→S a)∧∀ y,cs[i]? = some y→Rel (gW W) a y:=by
  intro i hi
  have hfi:fs[i]? = some fs[i]:=Array.getElem?_eq_getElem hi
  have hSi:Ss[i]? = some (Ss[i]'(by omega)):=List.getElem?_eq_getElem (by omega)
  obtain⟨hO,h1⟩:=hS i _ _ hfi hSi
  obtain⟨ho,hk⟩:=hone_of hone i _ hfi
  have ht:=hf i _ hfi
  rw [ho,hk] at ht
  have hd:(cs.drop i).take 1=[cs[i]'(by omega)]:=by
   rw [List.drop_eq_getElem_cons (by omega)]
   rfl
  rw [hd,List.getElem?_eq_getElem (by omega)] at ht
  obtain⟨a,ha,hr⟩:=hO H enc W n _ _ ht
  rw [h1 a ha] at hr
  refine⟨a,fun S hs=>?_,fun y hy=>?_⟩
  ·rw [hSi] at hs;cases hs;exact ha
  ·rw [List.getElem?_eq_getElem (by omega)] at hy;cases hy;exact hr.one
 obtain⟨vs,hvl,hv⟩:=qnk step
 refine⟨.ag vs,⟨vs,rfl,by omega,fun i S v hs hvi=>(hv i v hvi).1 S hs⟩,by show vs.length=cs.length;omega,fun i x y hx hy=>(hv i x hx).2 y hy⟩
theorem qz3 {W:World} {a:Addr} {n:Nat} {v:Value} (h:W.cell? (a.add n)=some v):∃ (c:Array Value) (T:TypeId) (fz:Nat×Nat),W.heap[a.block]? = some (.cells c T fz)∧c[a.off+n]? = some v∧(n=0→a.spot=none):=by
 unfold World.cell? Addr.add at h
 by_cases hn:n=0
 ·subst hn
  simp only [if_true] at h
  split at h
  ·rename_i c T fz hb
   split at h
   ·cases h
   ·rename_i hs
    exact⟨c,T,fz,hb,by simpa using h,fun _=>by simpa using hs⟩
  ·cases h
 ·rw [if_neg hn] at h
  simp only at h
  split at h
  ·rename_i c T fz hb
   exact⟨c,T,fz,hb,by simpa using h,fun e=>absurd e hn⟩
  ·cases h
theorem qq3 {P:Program} {t e:TypeId} {sz:Nat} {S:AV→Prop} (hu:P.underlying t=some (.slice e)) (hC:P.cellsOf e=sz) (hz:0<sz) (hS:Opn P e S):Opn P t (IsSl sz S):=by
 intro H enc W fuel cs x h
 rcases open_slice hu h with⟨rfl,_⟩ | ⟨a,len,cap,m,n,D,Pl,rfl,_,hlc,hcm,hm,_,hel⟩
 ·exact⟨.sl sz [] none,⟨[],rfl,by simp,by simp⟩,qky (.sl0 sz none _ _ (by simp))⟩
 ·have hm':len≤m:=by rw [hm];simpa using hlc
  rw [hC] at hel
  have step:∀ i,i<len→∃ y:AV,S y∧y.cells.length=sz∧∀ j,j<sz→∃ (u:AV) (v:Value),y.cells[j]? = some u∧W.cell? (a.add (i * sz+j))=some v∧Rel (gW W) u v:=by
   intro i hi
   obtain⟨cs',hc,ht⟩:=hel i (by omega)
   obtain⟨_,hcl,hat⟩:=World.cells?_some hc
   obtain⟨y,hy,hr⟩:=hS H enc W n cs' _ ht
   refine⟨y,hy,hr.1.trans hcl,fun j hj=>?_⟩
   have h1:y.cells[j]? = some (y.cells[j]'(by rw [hr.1,hcl];exact hj)):=List.getElem?_eq_getElem _
   have h2:cs'[j]? = some (cs'[j]'(by omega)):=List.getElem?_eq_getElem _
   refine⟨_,_,h1,?_,hr.2 j _ _ h1 h2⟩
   rw [← Go.Deep.add_add,hat j hj,h2]
  obtain⟨xs,hxl,hx⟩:=qnk step
  have hmem:∀ y∈xs,S y∧y.cells.length=sz:=fun y hy=>by
   obtain⟨i,hi,rfl⟩:=List.mem_iff_getElem.1 hy
   have:=hx i xs[i] (List.getElem?_eq_getElem hi)
   exact⟨this.1,this.2.1⟩
  refine⟨.sl sz xs none,⟨xs,rfl,by omega,fun y hy=>(hmem y hy).1⟩,qky ?_⟩
  rcases Nat.eq_zero_or_pos len with h0|h0
  ·subst h0
   have:xs=[]:=List.length_eq_zero_iff.1 hxl
   subst this
   exact .sl0 sz none _ _ (by simp)
  ·have hfl:(flat xs).length=len * sz:=by rw [zt fun y hy=>(hmem y hy).2,hxl]
   have at0:∀ k,k<len * sz→∃ (u:AV) (v:Value),(flat xs)[k]? = some u∧W.cell? (a.add k)=some v∧Rel (gW W) u v:=by
    intro k hk
    have hq:k / sz<len:=(Nat.div_lt_iff_lt_mul hz).2 hk
    have hr:k % sz<sz:=Nat.mod_lt _ hz
    have e:k / sz * sz+k % sz=k:=by rw [Nat.mul_comm];exact Nat.div_add_mod k sz
    have hxi:xs[k / sz]? = some (xs[k / sz]'(by omega)):=List.getElem?_eq_getElem _
    obtain⟨_,_,hj⟩:=hx _ _ hxi
    obtain⟨u,v,h1,h2,h3⟩:=hj _ hr
    have:=qhj (sz:=sz) (fun y hy=>(hmem y hy).2) hxi _ hr
    rw [e] at this h2
    exact⟨u,v,this.trans h1,h2,h3⟩
   have hpos:0<len * sz:=Nat.mul_pos h0 hz
   obtain⟨_,_,_,hc0,_⟩:=at0 0 hpos
   obtain⟨c,T,fz,hb,_,hspot⟩:=qz3 hc0
   have hin:∀ k,k<len * sz→∃ (u:AV) (v:Value),(flat xs)[k]? = some u∧c.toList[a.off+k]? = some v∧Rel (gW W) u v:=by
    intro k hk
    obtain⟨u,v,h1,h2,h3⟩:=at0 k hk
    obtain⟨c',T',fz',hb',hv,_⟩:=qz3 h2
    rw [hb] at hb'
    cases hb'
    exact⟨u,v,h1,by simpa using hv,h3⟩
   obtain⟨b,off,spot⟩:=a
   have hs:=hspot rfl
   simp only at hs hb hin
   subst hs
   rw [← hxl]
   refine .sl sz xs none b off cap c.toList (zc2 hb) (fun y hy=>(hmem y hy).2) ?_ ?_ ?_ (by omega)
   ·obtain⟨_,_,_,hv,_⟩:=hin (len * sz - 1) (by omega)
    have:=(List.getElem?_eq_some_iff.1 hv).1
    omega
   ·intro i x y hx' hy'
    have hi:i<len * sz:=by rw [← hfl];exact (List.getElem?_eq_some_iff.1 hx').1
    obtain⟨u,v,h1,h2,h3⟩:=hin i hi
    rw [hx'] at h1
    rw [hy'] at h2
    cases h1
    cases h2
    exact h3
   ·intro t ht
    simp at ht
def fieldsOf (P:Program) (t:TypeId):Array Field:=match P.underlying t with|some (.struct fs)=>fs | _=> #[]
theorem qkm {P:Program} {t:TypeId} {As:List (Option TypeDesc×(AV→Prop))} (hu:P.underlying t=some (.struct (fieldsOf P t))) (hone:oneCellFields P (fieldsOf P t)=true) (hC:P.cellsOf t=(fieldsOf P t).size)
  (hF:(fieldsOf P t).toList.map (fun f=>P.underlying f.type)=As.map Prod.fst) (hA:∀ p∈As,(∀ u,P.underlying u=p.1→Opn P u p.2)∧One p.2):Opn P t (IsAg (As.map Prod.snd)):=by
 have hl:As.length=(fieldsOf P t).size:=by have:=congrArg List.length hF;simpa using this.symm
 refine zdl hu hone hC (by simpa using hl) fun i f S hf hS=>?_
 obtain⟨p,hp,rfl⟩:∃ p,As[i]? = some p∧p.2=S:=by simpa using hS
 have h1:((fieldsOf P t).toList.map (fun f=>P.underlying f.type))[i]? = some (P.underlying f.type):=by simp [hf]
 rw [hF,List.getElem?_map,hp] at h1
 obtain⟨a,b⟩:=hA p (List.mem_of_getElem? hp)
 exact⟨a _ (by simpa using h1.symm),b⟩
theorem qzu {α : Type} {g : α→AV}:∀ {xs:List AV},(∀ x∈xs,∃ r,x=g r)→∃ rs:List α,xs=rs.map g
 | [],_=>⟨[],rfl⟩
 |x::xs,h=>by
  obtain⟨r,rfl⟩:=h x (by simp)
  obtain⟨rs,rfl⟩:=qzu (xs:=xs) fun y hy=>h y (by simp [hy])
  exact⟨r::rs,rfl⟩
theorem q67 {H:Type} {enc:TypeId×Value→H} {P:Program} {W W':World} {t:TypeId} (hl:laidOutB P=true) (hr:P.readableRec t=true) (hrow:t<P.types.size) {sp:Nat→Bool} {v:Value} {d:DataW H} {ps:List MemPlace}
  (hd:DataW.Trod enc P W 0 (fun _=>true) true t v d ps) (hb:Below W.heap.size W W') (hlt:∀ p∈ps,p.block<W.heap.size) (hs:∀ p∈ps,sp p.block=true):DataW.Trod enc P W' 0 sp true t v d ps:=
 Go.WideElems.Trod_stays hl hr hrow hd (fun p hp=>hb.same (hlt p hp)) hs
end Go.Av
namespace Go.Proofs.YtmoklbacdkmkaaaGreatDoor
open Go Go.Av Go.RowKit Go.Proofs Go.Pl
theorem zbt:Opn Tryz.prog 156 fun a=>∃ f:FldV,a=fldA f:=by
 intro H enc W fuel cs x h
 obtain⟨a,⟨vs,rfl,hl,hv⟩,hr⟩:=qkm (As:=[(some .string,IsS),(some .string,IsS)]) (by kernel_rfl) (by kernel_rfl) (by kernel_rfl) (by kernel_rfl)
  (List.forall_mem_cons.2 ⟨⟨fun _ h=>qu1 h,quz⟩,List.forall_mem_cons.2 ⟨⟨fun _ h=>qu1 h,quz⟩,nofun⟩⟩) H enc W fuel cs x h
 match vs,hl with
 | [v0,v1],_=>
  obtain⟨l0,rfl,_⟩:=hv 0 _ _ rfl rfl
  obtain⟨l1,rfl,_⟩:=hv 1 _ _ rfl rfl
  exact⟨_,⟨(l0,l1),rfl⟩,hr⟩
theorem q8t {t:TypeId} (hu:Tryz.prog.underlying t=some (.slice 156)):Opn Tryz.prog t fun a=>∃ xs:List FldV,a=zz xs∧xs.length≤maxLen:=by
 intro H enc W fuel cs x h
 obtain⟨a,⟨xs,rfl,hl,hx⟩,hr⟩:=qq3 (sz:=2) hu (by kernel_rfl) (by decide) zbt H enc W fuel cs x h
 obtain⟨rs,rfl⟩:=qzu hx
 exact⟨_,⟨rs,rfl,by simpa using hl⟩,hr⟩
theorem q8q:One fun a=>∃ xs:List FldV,a=zz xs∧xs.length≤maxLen:=by rintro _ ⟨xs,rfl,_⟩;rfl
theorem qwu {n:Nat} (h:n≤maxLen):n<9223372036854775808:=by unfold maxLen at h;omega
structure qu where
 kind:Int
 id:Int
 fields:List FldV
@[reducible] def j6 (e : qu) : AV := .ag [Iv e.kind, Iv e.id, zz e.fields]
def qen (k:Int):qb:=if k=1 then [32,114,101,112,108,97,99,101,32] else if k=2 then [32,100,101,108,101,116,101,32] else if k=3 then [32,105,110,115,101,114,116,32] else []
def qce (e:qu):qb:=if 1≤e.kind∧e.kind≤3 then qen e.kind++Lib.itoa e.id else []
def qa4 (k:Int):qb:=if k=1 then [114,101,112,108,97,99,101] else if k=2 then [100,101,108,101,116,101] else if k=3 then [105,110,115,101,114,116] else []
theorem qrq (k:Int) (st:List AObj):qm E 191 [Iv k] st fun r st'=>r=Sv (qa4 k)∧st'=st:=by
 refine qy (qq _) (qp Tryz.func191 rfl (Nat.le_of_ble_eq_true rfl) ?_)
 repeat' (first|apply ql|apply qv|apply qe|apply qf|apply qi|apply qg|(apply qr;(iterate 3 exact rfl))|(apply qc;exact rfl;apply cd_d <;> intro h)|apply qs|apply qt)
 all_goals refine qn rfl (q9 rfl) ⟨congrArg (fun l:qb=>Sv l) (?_:_=qa4 k),_,rfl⟩
 all_goals simp_all [qa4]
theorem q6r (k:Int):(qa4 k).length≤7:=by
 unfold qa4
 repeat' split
 all_goals simp
theorem qy1 (k:Int):qen k=if qa4 k=[] then [] else [32]++qa4 k++[32]:=by
 unfold qen qa4
 repeat' split
 all_goals simp_all
theorem q6s (k:Int):qa4 k=[]↔¬ (1≤k∧k≤3):=by
 unfold qa4
 repeat' split
 all_goals simp_all
 omega
theorem zdb (e:qu) (st:List AObj) (h1 : -9223372036854775808≤e.id) (h2:e.id≤9223372036854775807):qm E 137 [j6 e] st fun r st'=>r=Sv (qce e)∧st'=st:=by
 refine qy (qq _) (qp Tryz.func137 rfl (Nat.le_of_ble_eq_true rfl) ?_)
 have hn:=Lib.itoa_length_le e.id h1 h2
 have hw:=q6r e.kind
 have ho:=qy1 e.kind
 have hz:=q6s e.kind
 repeat' (first|apply ql|apply qe|apply qf|apply qi|apply qg|(apply jo;(iterate 3 exact rfl))|(apply qc;exact rfl;apply cd_d <;> intro h)|(apply jt;exact rfl;exact rfl;exact cOs)|(apply qa5;(iterate 4 exact rfl))|(apply zg;(iterate 3 exact rfl))|(apply jc;(iterate 5 exact rfl))|apply qs|apply qt|(apply qk;exact Tryz.call191;exact qrq _ _)|(apply qk;exact Tryz.call155;exact ql8 _ _ h1 h2))
 all_goals refine qn rfl (q9 rfl) ⟨congrArg (fun l:qb=>Sv l) (?_:_=qce e),_,rfl⟩
 all_goals unfold qce
 ·rw [if_neg (by simp_all)]
 ·rw [if_pos (by simp_all),ho,if_neg (by assumption)]
end Go.Proofs.YtmoklbacdkmkaaaGreatDoor
namespace Go.Av
open Go Go.RowKit
def noop (o:Oper):Oper:={ o with op:=.move (.const undef),guard:=none }
section
variable {F : Fence} {n : Nat} {P : Program} {ops ops' : Array Oper} {md : Region.Mode} {C : World → Prop} {Q : Exit → Act → World → Prop} {k : Nat} {o : Oper}
theorem qjn {listed:Array Bool}:∀ k,listed.getD k true=false→∃ j,j≤k∧listed.getD j true=false∧∀ i,i<j→listed.getD i true=true:=by
 intro k
 induction k using Nat.strongRecOn with
 | _ k ih=>
  intro h
  by_cases hall:∀ i,i<k→listed.getD i true=true
  ·exact⟨k,Nat.le_refl _,h,hall⟩
  ·have ⟨i,hi⟩:=Classical.not_forall.1 hall
   have ⟨hi1,hi2⟩:=Classical.not_imp.1 hi
   obtain⟨j,h1,h2,h3⟩:=ih i hi1 (by simpa using hi2)
   exact⟨j,by omega,h2,h3⟩
theorem quj {listed:Array Bool} {i:Nat} (h:listed.getD i true=true) (hi:i<listed.size):listed.getD i false=true:=by
 simp [Array.getD,hi] at h ⊢
 exact h
theorem qy0 {listed:Array Bool} {i:Nat} (h:listed.getD i true=false) (h2:listed.getD i false=true):False:=by
 unfold Array.getD at h h2
 by_cases hi:i<listed.size
 ·rw [dif_pos hi] at h h2
  rw [h] at h2
  cases h2
 ·rw [dif_neg hi] at h
  cases h
theorem qn1 {listed:Array Bool} {j:Nat} (hsz:listed.size=ops.size) (hord:∀ (j:Nat) o,ops[j]? = some o→∀ e∈o.after,e.on<j) (hj:listed.getD j true=false) (hall:∀ i,i<j→listed.getD i true=true):j∈Region.ready md ops listed:=by
 have hlt:j<listed.size:=by
  rcases Nat.lt_or_ge j listed.size with h|h
  ·exact h
  ·simp [Array.getD,Nat.not_lt.2 h] at hj
 rw [mem_ready]
 have ho:ops[j]? = some ops[j]:=Array.getElem?_eq_getElem (by omega)
 exact⟨hj,_,ho,fun e he _=>quj (hall _ (hord j _ ho e he)) (by have:=hord j _ ho e he;omega)⟩
theorem qkv {listed:Array Bool} (hs:ops.size=ops'.size) (hk:ops[k]? = some o) (hk':ops'[k]? = some (noop o)) (hoth:∀ j,j≠k→ops'[j]? = ops[j]?):Region.ready md ops' listed=Region.ready md ops listed:=by
 unfold Region.ready
 rw [hs]
 refine List.filter_congr fun i _=>?_
 by_cases h:i=k
 ·subst h;rw [hk,hk'];rfl
 ·rw [hoth i h]
theorem qye (hd:o.dst=none) (hk:ops[k]? = some o) (hk':ops'[k]? = some (noop o)) (hoth:∀ j,j≠k→ops'[j]? = ops[j]?) (t:Array Value):yielded ops' t=yielded ops t:=by
 funext j
 unfold yielded
 by_cases h:j=k
 ·subst h;rw [hk,hk'];simp [noop,hd]
 ·rw [hoth j h]
theorem qmp (hro:F.round=none) (hsz:ops.size=ops'.size) (hk:ops[k]? = some o) (hk':ops'[k]? = some (noop o)) (hoth:∀ j,j≠k→ops'[j]? = ops[j]?) (hd:o.dst=none)
  (hord:∀ (j:Nat) o,ops[j]? = some o→∀ e∈o.after,e.on<j) (hcov:∀ j,j<ops.size→j≠k→∃ e∈o.after,Region.binds md e=true∧e.on=j) :
  ∀ (fuel:Nat) (listed:Array Bool) (a:Act) (w:World),C w→listed.size=ops.size→listed.getD k true=false→wpAnyQIn F n P md ops' C (fun a=>∀ w,C w→wpOpIn F n P ops Q k (Q .normal) a w) fuel listed a→wpAnyIn F n P md ops Q fuel listed a w
 | 0,listed,a,w,hC,hs,hun,h=>by
  have ⟨j,_,h2,h3⟩:=qjn k hun
  have:=qn1 (md:=md) hs hord h2 h3
  rw [← qkv hsz hk hk' hoth,h.1] at this
  cases this
 |fuel+1,listed,a,w,hC,hs,hun,h=>by
  obtain⟨hq1,hq2⟩:=h
  rw [qkv hsz hk hk' hoth] at hq1 hq2
  refine⟨fun h0=>?_,fun i hi=>?_⟩
  ·have ⟨j,_,h2,h3⟩:=qjn k hun
   have:=qn1 (md:=md) hs hord h2 h3
   rw [h0] at this
   cases this
  ·have hqi:=hq2 i hi
   by_cases hik:i=k
   ·subst hik
    obtain⟨_,o',ho',hall⟩:=mem_ready.1 hi
    rw [hk] at ho'
    cases ho'
    have hr:Region.ready md ops (listed.setIfInBounds i true)=[]:=by
     rw [List.eq_nil_iff_forall_not_mem]
     intro j hj
     obtain⟨hju,oj,hoj,_⟩:=mem_ready.1 hj
     have hjs:j<ops.size:=by
      rcases Nat.lt_or_ge j ops.size with h|h
      ·exact h
      ·rw [Array.getElem?_eq_none h] at hoj;cases hoj
     by_cases hji:j=i
     ·subst hji
      simp [Array.getD,hs,hjs] at hju
     ·obtain⟨e,he,hb,heq⟩:=hcov j hjs hji
      have h5:=hall e he hb
      rw [heq] at h5
      rw [getD_set_ne true (Ne.symm hji)] at hju
      exact qy0 hju h5
    unfold qOpIn at hqi
    rw [hk'] at hqi
    simp only at hqi
    have hqe:=hqi.2
    have hwn:Region.wanted (noop o) (yielded ops' a.tmps)=true:=by simp [noop,Region.wanted]
    rw [if_pos hwn] at hqe
    obtain⟨v,_,hK⟩:=hqe
    have hput:a.put (noop o).dst v=a:=by simp [noop,hd,Act.put]
    rw [hput] at hK
    have hQ':∀ w,C w→wpOpIn F n P ops Q i (Q .normal) a w:=by
     cases fuel with
     |zero=>exact hK.2
     |succ fuel=>exact hK.1 (by rw [qkv hsz hk hk' hoth];exact hr)
    exact wpOpIn_mono (fun a' w' h'=>wpAnyIn_done hr h' _) (hQ' w hC)
   ·have he:qOpIn F n P ops C i (wpAnyQIn F n P md ops' C (fun a=>∀ w,C w→wpOpIn F n P ops Q k (Q .normal) a w) fuel (listed.setIfInBounds i true)) a:=by
     unfold qOpIn at hqi ⊢
     rw [hoth i hik] at hqi
     rw [← qye hd hk hk' hoth]
     exact hqi
    refine wpOpIn_of_qOpIn hro hC (fun a' w' hC' hX=>qmp hro hsz hk hk' hoth hd hord hcov fuel _ a' w' hC' (by simpa using hs) ?_ hX) he
    rw [getD_set_ne true hik]
    exact hun
def qea {α : Type}:List α→Option (List α×α)
 | []=>none
 | [x]=>some ([],x)
 |x::y::r=>match qea (y::r) with
  |some (l,o)=>some (x::l,o)
  |none=>none
theorem qml {α : Type}:∀ {L l:List α} {o : α},qea L=some (l,o)→L=l++[o]
 | [],_,_,h=>by simp [qea] at h
 | [x],_,_,h=>by simp [qea] at h;obtain⟨rfl,rfl⟩:=h;rfl
 |x::y::r,l,o,h=>by
  unfold qea at h
  split at h
  ·rename_i l' o' he
   simp only [Option.some.injEq,Prod.mk.injEq] at h
   obtain⟨rfl,rfl⟩:=h
   rw [qml he]
   rfl
  ·simp at h
def qz5 (o:Oper) (k:Nat):Bool:=(List.range k).all fun j=>o.after.toList.any fun e=>Region.binds .any e && Nat.beq e.on j
def qxe (ops:List Oper):Bool:=(List.range ops.length).all fun j=>match ops[j]? with|some o=>o.after.toList.all fun e=>Nat.blt e.on j|none=>true
end
section
variable {E : Env} {N : Nat} {s : AS}
theorem qsw {id:Nat} {L l:List Oper} {o:Oper} {Q:Exit→AS→Prop} (hsp:qea L=some (l,o)) (hd:o.dst=none) (hcov:qz5 o l.length=true) (hord:qxe L=true) (hm:E.P.follows .mixedOrders=true) (hB:Region.lexB .any (l++[noop o]).toArray=true)
  (h:AQ E N (l++[noop o]).toArray l (fun s'=>AOps E none N L.toArray [o] (Q .normal) s') s):AWp E none N (.region id L.toArray true) Q s:=by
 have hLe:=qml hsp
 subst hLe
 refine⟨fun B0 w0 G a w hL hI=>?_⟩
 have hB2:=hB
 simp only [Region.lexB,Bool.and_eq_true] at hB2
 have hk:(l++[o]).toArray[l.length]? = some o:=by simp
 have hk':(l++[noop o]).toArray[l.length]? = some (noop o):=by simp
 have hoth:∀ j,j≠l.length→(l++[noop o]).toArray[j]? = (l++[o]).toArray[j]?:=fun j hj=>by
  simp only [List.getElem?_toArray]
  rcases Nat.lt_or_ge j l.length with h|h
  ·rw [List.getElem?_append_left h,List.getElem?_append_left h]
  ·rw [List.getElem?_eq_none (by simp;omega),List.getElem?_eq_none (by simp;omega)]
 have hordP:∀ (j:Nat) o',(l++[o]).toArray[j]? = some o'→∀ e∈o'.after,e.on<j:=fun j o' hj e he=>by
  simp only [qxe,List.all_eq_true,List.mem_range] at hord
  simp only [List.getElem?_toArray] at hj
  have h1:=hord j (lt_of_getElem? hj)
  rw [hj] at h1
  simp only at h1
  have h2:=List.all_eq_true.1 h1 e (by simpa using he)
  exact Nat.le_of_ble_eq_true h2
 have hcovP:∀ j,j<(l++[o]).toArray.size→j≠l.length→∃ e∈o.after,Region.binds .any e=true∧e.on=j:=fun j hj hne=>by
  simp only [qz5,List.all_eq_true,List.mem_range] at hcov
  have h1:=hcov j (by simp at hj;omega)
  obtain⟨e,he,h2⟩:=List.any_eq_true.1 h1
  simp only [Bool.and_eq_true] at h2
  exact⟨e,by simpa using he,h2.1,Nat.eq_of_beq_eq_true h2.2⟩
 have hBl:Below w.heap.size w { w with drawn:=w.drawn+1 }:=⟨rfl,rfl,rfl,Nat.le_refl _,fun _ _=>rfl⟩
 refine wpIn_region_any hm (qmp (C:=fun w'=>Below w.heap.size w w') (ops':=(l++[noop o]).toArray) (k:=l.length) rfl (by simp) hk hk' hoth hd hordP hcovP _ _ _ _ hBl (by simp) (by simp [Array.getD]) ?_)
 have hq:wpQuietIn (fw none) 0 E.P (l++[noop o]).toArray (fun w'=>Below w.heap.size w w') (fun a=>∀ w',Below w.heap.size w w'→wpOpIn (fw none) 0 E.P (l++[o]).toArray (fun e a' w'=>∃ (G':Gh) (s':AS),G.le G'∧Inv B0 w0 N G' s' a' w'∧Q e s') l.length (fun a' w'=>∃ (G':Gh) (s':AS),G.le G'∧Inv B0 w0 N G' s' a' w'∧Q .normal s') a w') (l++[noop o]) a:=by
  have step:∀ (l1:List Oper) (a:Act) (X:Act→Prop),wpQuietIn (fw none) 0 E.P (l++[noop o]).toArray (fun w'=>Below w.heap.size w w') X l1 a→wpQuietIn (fw none) 0 E.P (l++[noop o]).toArray (fun w'=>Below w.heap.size w w') X (l1++[noop o]) a:=by
   intro l1
   induction l1 with
   |nil=>
    intro a X hX
    refine⟨fun _ _ _ hf=>?_,?_⟩
    ·simp [Oper.about,noop] at hf
    ·have hwn:Region.wanted (noop o) (yielded (l++[noop o]).toArray a.tmps)=true:=by simp [noop,Region.wanted]
     rw [if_pos hwn]
     refine⟨undef,fun w' _=>?_,?_⟩
     ·unfold Oper.quietAtIn
      simp [noop,execOp,Oper.quietUponIn,Act.eval]
     ·have hput:a.put (noop o).dst undef=a:=by simp [noop,hd,Act.put]
      rw [hput]
      exact hX
   |cons o1 l1 ih=>
    intro a X hX
    refine⟨hX.1,?_⟩
    have h2:=hX.2
    split
    ·rename_i hw
     rw [if_pos hw] at h2
     obtain⟨v,h3,h4⟩:=h2
     exact⟨v,h3,ih _ _ h4⟩
    ·rename_i hw
     rw [if_neg hw] at h2
     exact ih _ _ h2
  refine step l a _ (h.run B0 w0 G a w hL hI _ fun s' a' hI' hst hks w' hw'=>?_)
  have hI2:Inv B0 w0 N G s' a' w':=⟨hI'.agree.fresh hw',hI'.defers,hI'.size,hI'.tmps⟩
  have hr:=hks.run B0 w0 G a' w' hL hI2 (fun e a' w'=>∃ (G':Gh) (s':AS),G.le G'∧Inv B0 w0 N G' s' a' w'∧Q e s') (fun G' s'' a'' w'' hG hI3 hQ=>⟨G',s'',hG,hI3,hQ⟩)
  unfold wpOpIn
  rw [hk]
  exact hr
 have:=wpAnyQIn_lex (F:=fw none) (n:=0) (C:=fun w'=>Below w.heap.size w w') (md:=.any) hB2.1 (l++[noop o]) 0 (Array.replicate (l++[noop o]).length false) a (by simp) (by simpa using hB2.2) hq
 simpa using this
variable {ops : Array Oper} {K : AS → Prop} {rest : List Oper} {d : Option Tmp} {T : TypeId} {p : String} {af : Array Edge}
theorem qlq {x y:Operand} {t t':TypeId} {m n:List UInt8} (hx:qj N s x=Sv m) (hy:qj N s y=Sv n) (hl:m.length+n.length<9223372036854775808)
  (h:AQ E N ops rest K (s.put d (Sv (m++n)))):AQ E N ops (⟨d,.binOp .add t x y t',T,p,af,none⟩::rest) K s:=
 qak _ rfl nofun (fun a w he=>by
  simp only [execOp,he _ _ hx,he _ _ hy,eqGuard_at_string,binOp,Op.stringOp,y0,qsu,IntKind.max_i64]
  rw [if_neg (by omega)]
  simp) h
theorem qci {x y:Operand} {t e:TypeId} {sz:Nat} {agg:Bool} {xs:List AV} {tip:Option Nat} {k:IntKind} {i:Int} {n:Nat} {z:AV} (hx:qj N s x = .sl sz xs tip) (hy:qj N s y = .v (.int k i)) (hu:E.P.underlying t=some (.slice e)) (ht:tyOf E.P e=some (sz,agg)) (hi:i=n) (hz:xs[n]? = some z)
  (h:AQ E N ops rest K (s.put d (.pp z.cells))):AQ E N ops (⟨d,.indexAddr t x y,T,p,af,none⟩::rest) K s:=by
 refine qcu rfl nofun fun B0 w0 G a w _ hI=>?_
 subst hi
 have he:=hI.eval_of hx
 have hey:=hI.evalv hy
 generalize hv:a.eval x=v at he
 have hlt:=lt_of_getElem? hz
 cases he with
 |sl0=>simp at hz
 |sl _ _ _ b off cap pub hp hw hlen hrel htip hcap=>
  have hzs:z.cells.length=sz:=hw z (List.mem_of_getElem? hz)
  have hfl:=zt hw
  have hle:(n+1) * sz≤xs.length * sz:=Nat.mul_le_mul_right _ hlt
  rw [Nat.succ_mul] at hle
  refine⟨.pointer (some ⟨b,off+n * sz,none⟩),.pp z.cells,fun w' _=>?_,?_,h⟩
  ·generalize a.eval = ρ at hv hey
   simp only [execOp,hv,hey]
   simp [Instr.indexAt,asIntOf,run_underlying hu,hlt,(kq ht w').1,Addr.add_lit]
  ·refine .pp _ b _ pub hp (by omega) fun j q r h1 h2=>?_
   have hj:j<sz:=by have:=lt_of_getElem? h1;omega
   have hf:=qhj hw hz j hj
   exact hrel (n * sz+j) q r (by rw [hf];exact h1) (by rw [← h2];congr 1;omega)
theorem qie {x y:Operand} {t e:TypeId} {sz:Nat} {agg:Bool} {o ver off len cp:Nat} {k:IntKind} {i:Int} {n:Nat} (hx:qj N s x = .os o ver off len cp) (hy:qj N s y = .v (.int k i)) (hu:E.P.underlying t=some (.slice e)) (ht:tyOf E.P e=some (sz,agg)) (hi:i=n) (hn:n<len)
  (h:AQ E N ops rest K (s.put d (.bx o ver (off+n * sz)))):AQ E N ops (⟨d,.indexAddr t x y,T,p,af,none⟩::rest) K s:=by
 refine qcu rfl nofun fun B0 w0 G a w _ hI=>?_
 subst hi
 have he:=hI.eval_of hx
 have hey:=hI.evalv hy
 generalize hv:a.eval x=v at he
 cases he with
 |os _ _ _ _ b cap hn' hver hb=>
  refine⟨.pointer (some ⟨b,off+n * sz,none⟩),_,fun w' _=>?_,.bx o ver _ b hn' hver hb,h⟩
  generalize a.eval = ρ at hv hey
  simp only [execOp,hv,hey]
  simp [Instr.indexAt,asIntOf,run_underlying hu,hn,(kq ht w').1,Addr.add_lit]
theorem qpr {t:TypeId} {x:Operand} {f off sz:Nat} {agg:Bool} {o ver q:Nat} (hx:qj N s x = .bx o ver q) (hf:qab E.P t f=some (off,sz,agg)) (hsz:Nat.beq sz 0=false)
  (h:AQ E N ops rest K (s.put d (.bx o ver (q+off)))):AQ E N ops (⟨d,.fieldAddr t x f,T,p,af,none⟩::rest) K s:=by
 refine qcu rfl nofun fun B0 w0 G a w _ hI=>?_
 have he:=hI.eval_of hx
 generalize hv:a.eval x=v at he
 cases he with
 |bx _ _ _ b hn hv' hb=>
  have hs:sz≠0:=fun e=>by subst e;simp at hsz
  exact⟨_,_,fun w' _=>by simp only [execOp,hv];simp [qfn hf hs],.bx o ver _ b hn hv' hb,h⟩
theorem qps {t:TypeId} {x:Operand} {f off sz:Nat} {agg:Bool} {cs:List AV} (hx:qj N s x = .pp cs) (hf:qab E.P t f=some (off,sz,agg)) (hsz:Nat.beq sz 0=false) (hle:Nat.ble off cs.length=true)
  (h:AQ E N ops rest K (s.put d (.pp (cs.drop off)))):AQ E N ops (⟨d,.fieldAddr t x f,T,p,af,none⟩::rest) K s:=by
 refine qcu rfl nofun fun B0 w0 G a w _ hI=>?_
 have he:=hI.eval_of hx
 generalize hv:a.eval x=v at he
 cases he with
 |pp _ b q pub hp hlen hrel=>
  have hs:sz≠0:=fun e=>by subst e;simp at hsz
  have ho:off≤cs.length:=Nat.le_of_ble_eq_true hle
  refine⟨.pointer (some ⟨b,q+off,none⟩),_,fun w' _=>by simp only [execOp,hv];simp [qfn hf hs],?_,h⟩
  exact .pp _ b (q+off) pub hp (by simp;omega) fun i x y h1 h2=>hrel (off+i) x y (by simpa using h1) (by rw [← h2];congr 1;omega)
theorem qgi {x:Operand} {t:TypeId} {sz:Nat} {agg:Bool} {cs:List AV} {r:AV} (hx:qj N s x = .pp cs) (ht:tyOf E.P t=some (sz,agg)) (hr:jk sz agg 0 cs=some r)
  (h:AQ E N ops rest K (s.put d r)):AQ E N ops (⟨d,.load t x,T,p,af,none⟩::rest) K s:=by
 refine qcu rfl nofun fun B0 w0 G a w _ hI=>?_
 have he:=hI.eval_of hx
 generalize hv:a.eval x=v at he
 cases he with
 |pp _ b off pub hp hlen hrel=>
  obtain⟨c,T',fz,hc,hcc⟩:=hI.agree.pub b pub hp
  have hlt:b<w.heap.size:=hI.agree.pub_lt hp
  have key:∀ w',Below w.heap.size w w'→∃ v,(loadVar t ⟨b,off,none⟩).run E.P w' = .ok v w'∧Rel G r v:=fun w' hw'=>by
   have h4':w'.heap[b]? = some (.cells c T' fz):=by rw [hw'.block _ hlt];exact hc
   exact yz (w:=w') (G:=G) (b:=b) (off:=off) ht (fun i x hx _=>by
    have hi:=lt_of_getElem? hx
    have hy:pub[off+i]? = some (pub[off+i]'(by omega)):=List.getElem?_eq_getElem (by omega)
    refine⟨_,?_,hrel i x _ hx hy⟩
    simp [World.cell?,h4',hcc _ _ hy]) hr
  have hg:∀ w',Below w.heap.size w w'→∀ j,j<cs.length→w'.cell? ⟨b,off+j,none⟩=some (pub.getD (off+j) undef):=fun w' hw' j hj=>by
   have h4':w'.heap[b]? = some (.cells c T' fz):=by rw [hw'.block _ hlt];exact hc
   have hlt2:off+j<pub.length:=by omega
   have hy:pub[off+j]? = some (pub.getD (off+j) undef):=by simp [List.getD,hlt2]
   simp [World.cell?,h4',hcc _ _ hy]
  have hsame:∀ w',Below w.heap.size w w'→∀ v,(loadVar t ⟨b,off,none⟩).run E.P w = .ok v w→(loadVar t ⟨b,off,none⟩).run E.P w' = .ok v w':=fun w' hw' v hr1=>by
   obtain⟨i1,i2⟩:=kq ht w
   obtain⟨j1,j2⟩:=kq ht w'
   obtain⟨v',h1',_⟩:=key w' hw'
   rw [h1']
   congr 1
   cases agg with
   |false=>
    simp only [jk,cond_false] at hr
    have h0:=lt_of_getElem? hr
    have e1:=hg w (Below.refl _ _) 0 h0
    have e2:=hg w' hw' 0 h0
    rw [Nat.add_zero] at e1 e2
    simp [loadVar,i2,run_load,e1] at hr1
    simp [loadVar,j2,run_load,e2] at h1'
    rw [← h1',hr1]
   |true=>
    simp only [jk,cond_true] at hr
    cases hb2:Nat.ble (0+sz) cs.length with
    |false=>rw [hb2] at hr;simp at hr
    |true=>
     have hle:0+sz≤cs.length:=Nat.le_of_ble_eq_true hb2
     have l1:=run_loadCells (P:=E.P) (w:=w) ⟨b,off,none⟩ sz (fun j=>pub.getD (off+j) undef) (fun j hj=>by rw [Addr.add_lit];exact hg w (Below.refl _ _) j (by omega))
     have l2:=run_loadCells (P:=E.P) (w:=w') ⟨b,off,none⟩ sz (fun j=>pub.getD (off+j) undef) (fun j hj=>by rw [Addr.add_lit];exact hg w' hw' j (by omega))
     simp [loadVar,i1,i2,l1] at hr1
     simp [loadVar,j1,j2,l2] at h1'
     rw [← h1',hr1]
  obtain⟨v,hrun,hR⟩:=key w (Below.refl _ _)
  exact⟨v,r,fun w' hw'=>by simp only [execOp,hv,Instr.loadAt,Instr.sureAddr];simp [hsame w' hw' v hrun],hR,h⟩
theorem q3q {x y:Operand} {t t':TypeId} {k:IntKind} {m n r:Int} (hx:qj N s x = .v (.int k m)) (hy:qj N s y = .v (.int k n)) (hr:k.wrap (m - n)=r)
  (h:AQ E N ops rest K (s.put d (.v (.int k r)))):AQ E N ops (⟨d,.binOp .sub t x y t',T,p,af,none⟩::rest) K s:=
 qak _ rfl nofun (fun a w he=>by rw [← hr];simp [execOp,he _ _ hx,he _ _ hy,eqGuard_at_int,binOp,Op.intArith]) h
theorem qzz {x y z:Operand} {t:TypeId} {k k':IntKind} {l:List UInt8} {i j:Nat} (hx:qj N s x=Sv l) (hy:qj N s y = .v (.int k' (i:Int))) (hz:qj N s z = .v (.int k (j:Int))) (hu:E.P.underlying t=some .string) (h1:i≤j) (h2:j≤l.length)
  (h:AQ E N ops rest K (s.put d (Sv ((l.take j).drop i)))):AQ E N ops (⟨d,.slice t x (some y) (some z) none,T,p,af,none⟩::rest) K s:=
 qn9 (i:=i) (j:=j) hx hu ⟨_,hy⟩ ⟨_,hz⟩ (by omega) (by omega) (by omega) (by simpa using h)
theorem qzx {x:Operand} {ts:Array TypeId} {t0 e:TypeId} {v:AV} {n:Nat} (hx:qj N s x=v) (hl:lenA v=some n) (ht:ts[0]? = some t0) (hu:E.P.underlying t0=some (.slice e))
  (h:AQ E N ops rest K (s.put d (Iv n))):AQ E N ops (⟨d,.call ⟨.builtin .len,#[x],ts⟩,T,p,af,none⟩::rest) K s:=by
 refine qcu rfl nofun fun B0 w0 G a w _ hI=>?_
 have he:=hI.eval_of hx
 have key:∃ b c,a.eval x = .slice b n c:=by
  generalize a.eval x=u at he
  cases he <;> simp [lenA] at hl
  case v y=>
   cases u <;> simp at hl
   subst hl
   exact⟨_,_,rfl⟩
  case sl0=>subst hl;exact⟨_,_,rfl⟩
  case sl=>subst hl;exact⟨_,_,rfl⟩
  case os=>subst hl;exact⟨_,_,rfl⟩
 obtain⟨b,c,hv⟩:=key
 refine⟨.int .i64 n,Iv n,fun w' _=>?_,.v _,h⟩
 generalize a.eval = ρ at hv
 simp [execOp,resolve,invoke,builtin,Builtin.len_,hv,ht,run_underlying hu,goInt]
theorem qng {x:Operand} {t:TypeId} {sz:Nat} {agg:Bool} {st loc ext new:List AObj} {k ver off:Nat} {T':TypeId} {cs:List AV} {r:AV} (hs:s.st=((st++loc)++ext)++new) (hx:qj N s x = .bx (st.length+k) ver off) (ho:loc[k]? = some (.cells ver T' cs)) (ht:tyOf E.P t=some (sz,agg)) (hr:jk sz agg off cs=some r)
  (h:AQ E N ops rest K (s.put d r)):AQ E N ops (⟨d,.load t x,T,p,af,none⟩::rest) K s:=
 qpt hx (by rw [hs];exact yy ho) ht hr h
end
end Go.Av
namespace Go.Av
open Go Go.RowKit
section
variable {B0 : Nat} {w0 : World} {G : Gh} {st : List AObj} {w : World}
theorem zf.pubOb (h:zf B0 w0 G st w) {o ver:Nat} {T:TypeId} {cs:List AV} (ho:st[o]? = some (.cells ver T cs)) :
  ∃ vs:List Value,G.le (G.publish (G.ob o).blk vs)∧zf B0 w0 (G.publish (G.ob o).blk vs) (st.set o .dead) w∧(G.ob o).ver=ver∧(G.publish (G.ob o).blk vs).pub (G.ob o).blk=some vs∧cs.length=vs.length ∧
   ∀ (i:Nat) (x:AV) (y:Value),cs[i]? = some x→vs[i]? = some y→Rel (G.publish (G.ob o).blk vs) x y:=by
 obtain⟨h0,h1,h2,h3,c,h4,h5,h6⟩:=h.ob o _ ho
 have hle:G.le (G.publish (G.ob o).blk c.toList):=G.le_publish _ _ [] [] (.inl h3)
 refine⟨c.toList,hle,?_,h1,by simp [Gh.publish],by simpa using h5,fun i x y hx hy=>(h6 i x y hx (by simpa using hy)).mono hle⟩
 have key:∀ (k:Nat) (x:AObj),(st.set o .dead)[k]? = some x→x = .dead∨(k≠o∧st[k]? = some x):=fun k x hx=>by
  rcases getElem?_set' _ _ _ _ _ hx with⟨_,e⟩|e
  ·exact .inl e
  ·exact .inr e
 refine⟨h.below,h.hB,by simp [h.n,Gh.publish],fun b vs hb=>?_,fun k x hx=>?_,fun k k' x x' hne hx hx' hl hl'=>?_⟩
 ·simp only [Gh.publish] at hb
  by_cases e:b=(G.ob o).blk
  ·rw [if_pos e] at hb
   cases hb
   subst e
   exact⟨c,T,(0,0),h4,fun i y hy=>by simpa using hy⟩
  ·rw [if_neg e] at hb
   exact h.pub b vs hb
 ·rcases key k x hx with rfl | ⟨hk,hx⟩
  ·trivial
  ·refine (h.ob k x hx).mono hle rfl (fun hl=>?_) (fun _=>rfl)
   have:=h.sep k o x _ hk hx ho hl trivial
   simp [Gh.publish,this]
 ·rcases key k x hx with rfl | ⟨hk,hx⟩
  ·exact hl.elim
  ·rcases key k' x' hx' with rfl | ⟨hk',hx'⟩
   ·exact hl'.elim
   ·exact h.sep k k' x x' hne hx hx' hl hl'
end
section
variable {E : Env} {rd : Option Nat} {N : Nat} {ops : Array Oper} {K : AS → Prop} {s : AS} {rest : List Oper} {d : Option Tmp} {T : TypeId} {p : String} {af : Array Edge}
theorem Inv.pub {B0:Nat} {w0:World} {G:Gh} {a:Act} {w:World} (h:Inv B0 w0 N G s a w) {i o ver:Nat} {T':TypeId} {cs:List AV} (hi:s.t i = .bx o ver 0) (ho:s.st[o]? = some (.cells ver T' cs)) :
  ∃ G',G.le G'∧Inv B0 w0 N G' ⟨Av.put s.t i (.pp cs),s.st.set o .dead,s.df⟩ a w:=by
 obtain⟨vs,hle,hA,hv,hp,hl,hr⟩:=h.agree.pubOb ho
 refine⟨_,hle,hA,h.defers_mono hle,h.size,fun j y hy=>?_⟩
 have hj:=h.tmps j y hy
 by_cases e:j=i
 ·subst e
  simp only [wi]
  rw [hi] at hj
  cases hj with
  |bx _ _ _ b hn hv' hb=>
   have hb:=hb hv
   subst hb
   exact .pp cs _ 0 vs hp (by omega) fun k x y hx hy=>hr k x y hx (by simpa using hy)
 ·simp only
  rw [yh _ _ _ _ e]
  exact hj.mono hle
theorem yx {x y:Operand} {t:TypeId} {sz:Nat} {agg:Bool} {st loc loc' ext new:List AObj} {k ver off:Nat} {T':TypeId} {cs xs:List AV} {r:AV} (hs:s.st=((st++loc)++ext)++new) (hx:qj N s x = .bx (st.length+k) ver off) (hy:qj N s y=r) (ho:loc[k]? = some (.cells ver T' cs)) (ht:tyOf E.P t=some (sz,agg))
  (hok:r.okc=true) (hc:r.cells=xs) (hsz:Nat.beq xs.length sz=true) (h1:ju xs=true) (hfit:Nat.ble (off+sz) cs.length=true) (hl:loc'=loc.set k (.cells ver T' (zu cs off xs)))
  (h:AOps E rd N ops rest K (AS.put ⟨s.t,((st++loc')++ext)++new,s.df⟩ d (.v undef))):AOps E rd N ops (⟨d,.store t x y,T,p,af,none⟩::rest) K s:=by
 have hk:=lt_of_getElem? ho
 exact xq hx hy (by rw [hs];exact yy ho) ht hok hc hsz h1 hfit (by rw [hs,qc6 _ hk,← hl];exact h)
end
theorem xl {α : Type} (l:List α) (a : α):(l++[a]).length=l.length+1:=by simp
theorem qd1 {α : Type} (l:List α) (a : α):Iv ((l.length:Int)+1)=Iv ((l++[a]).length:Nat):=by rw [xl];rfl
theorem qoq {α : Type} (l:List α) (a : α):Iv ((l.length:Int)+1+1)=Iv (((l++[a]).length:Nat)+1):=by rw [xl];rfl
theorem qh3 {α : Type} {sz:Nat} {tip:Option Nat} (x0:AV) (g : α→AV) (pre:List α) (a : α) (v:AV) (h:v=g a):AV.sl sz ((x0::pre.map g)++[v]) tip=AV.sl sz (x0::(pre++[a]).map g) tip:=by rw [List.map_append,h];rfl
theorem qyg {E:Env} {rd:Option Nat} {N:Nat} {ops:Array Oper} {K:AS→Prop} {s:AS} {rest:List Oper} {d:Option Tmp} {T:TypeId} {p:String} {af:Array Edge} {t:TypeId} {st loc:List AObj} {cs:List AV} {n:Nat} (hst:s.st=st++loc) (hn:st.length=n) (hz:qg4 E.P t=some cs)
  (h:AOps E rd N ops rest K (AS.put ⟨s.t,st++(loc++[.cells 0 t cs]),s.df⟩ d (.bx (n+loc.length) 0 0))):AOps E rd N ops (⟨d,.alloc t,T,p,af,none⟩::rest) K s:=by
 subst hn
 exact ja hst hz h
theorem qpo {E:Env} {rd:Option Nat} {N:Nat} {ops:Array Oper} {K:AS→Prop} {s:AS} {rest:List Oper} {d:Option Tmp} {T:TypeId} {p:String} {af:Array Edge} {x y:Operand} {t:TypeId} {sz:Nat} {agg:Bool} {st loc ext new:List AObj} {k ver off:Nat} {T':TypeId} {cs xs:List AV} {r:AV} (hs:s.st=((st++loc)++ext)++new) (hx:qj N s x = .bx (st.length+k) ver off) (hy:qj N s y=r) (ho:loc[k]? = some (.cells ver T' cs)) (ht:tyOf E.P t=some (sz,agg))
  (hok:r.okc=true) (hc:r.cells=xs) (hsz:xs.length=sz) (h1:ju xs=true) (hfit:off+sz≤cs.length)
  (h:AOps E rd N ops rest K (AS.put ⟨s.t,((st++loc.set k (.cells ver T' (zu cs off xs)))++ext)++new,s.df⟩ d (.v undef))):AOps E rd N ops (⟨d,.store t x y,T,p,af,none⟩::rest) K s:=by
 have hk:=lt_of_getElem? ho
 exact qef hx hy (by rw [hs];exact yy ho) ht hok hc hsz (by simpa [ju] using h1) hfit (by rw [hs,qc6 _ hk];exact h)
theorem xu {E:Env} {rd:Option Nat} {N:Nat} {c:Code} {Q:Exit→AS→Prop} {s:AS} {α : Type} (xs:List α) (I:List α→AS→Prop) (h0:I [] s) (hend:∀ s,I xs s→AWp E rd N c (qu4 (fun _=>False) Q) s)
  (hstep:∀ pre a rest s,xs=pre++a::rest→I pre s→AWp E rd N c (qu4 (fun s'=>I (pre++[a]) s') Q) s):AWp E rd N (.loop c) Q s:=by
 refine kh (fun (x:List α×List α) s=>xs=x.1++x.2∧I x.1 s) (fun x=>x.2.length) ([],xs) ⟨rfl,h0⟩ ?_
 rintro⟨pre,rest⟩ s ⟨hx,hi⟩
 cases rest with
 |nil=>
  simp only [List.append_nil] at hx
  subst hx
  refine (hend s hi).mono fun e s' h=>?_
  cases e with
  |normal=>exact h.elim
  | _=>exact h
 |cons a rest=>
  refine (hstep pre a rest s hx hi).mono fun e s' h=>?_
  cases e with
  |normal=>exact⟨(pre++[a],rest),⟨by rw [hx];simp,h⟩,by simp⟩
  | _=>exact h
theorem quf {E:Env} {fn:Func} {R:AV→List AObj→Prop} {s:AS} {st loc ext new:List AObj} {k:Nat} {ds:List Nat} (hs:s.st=((st++loc)++ext)++new) (hd:s.df=(st.length+k)::ds) (ho:loc[k]? = some .dfr) (h:ARet E fn R ⟨s.t,((st++loc.set k .dead)++ext)++new,ds⟩):ARet E fn R s:=
 qlr hd (by rw [hs];exact yy ho) (by rw [hs,qc6 _ (lt_of_getElem? ho)];exact h)
@[reducible] def q51 (F : LoopState → Option Code → AObj) (st : List AObj) (own : AObj) (I : List AObj → Prop) (D : Code → List AObj → Prop) : Exit → AS → Prop
 | .normal,s=>∃ l ext new,s.st=((st++(l++[.dfr,F .busy none,own]))++ext)++new∧I l
 | .ret,s=>∃ l ext new,s.st=((st++(l++[.dfr,F .busy none,own]))++ext)++new∧D .ret l
 | .exit id,s=>∃ l ext new,s.st=((st++(l++[.dfr,F .busy none,own]))++ext)++new∧D (.exit id) l
 | _,_=>False
theorem qym {E:Env} {o:Nat} {xs:List AV} {st st':List AObj} {R:Bool→List AObj→Prop} (e:st=st') (h:xx E o xs st R):xx E o xs st' R:=e▸h
theorem qcl {st l ext:List AObj} {a b c:AObj} {n:Nat} (hl:l.length=n):(((st++(l++[a,b,c]))++ext))[st.length+(n+1)]? = some b:=by
 subst hl
 rw [List.append_assoc,List.append_assoc,List.getElem?_append_right (by omega),Nat.add_sub_cancel_left,List.getElem?_append_right (by omega)]
 simp
theorem qd9 {st l ext:List AObj} {a b c y:AObj} {n:Nat} (hl:l.length=n):((st++(l++[a,b,c]))++ext).set (st.length+(n+1)) y=(st++(l++[a,y,c]))++ext:=by
 subst hl
 rw [List.append_assoc,List.append_assoc,List.set_append_right _ _ (by omega),Nat.add_sub_cancel_left,List.set_append_right _ _ (by omega)]
 simp
theorem q69 {E:Env} {N:Nat} {t:Nat→AV} {ps:Array Tmp} {asg body:Code} {st l ext:List AObj} {own:AObj} {n:Nat} {xs:List AV} {F:LoopState→Option Code→AObj} {I:List AObj→Prop} {D:Code→List AObj→Prop} (hF:qjv F N t ps asg body) (hl:l.length=n) (hps:ps.size=xs.length)
  (hI:∀ l,I l→l.length=n) (hD:∀ c l,D c l→l.length=n)
  (h:∀ rd,AWp E (some rd) N asg (only fun s1=>∃ new,s1.st=((st++(l++[.dfr,F .ready none,own]))++ext)++new∧s1.df=[]∧AWp E (some rd) N body (q51 F st own I D) ⟨s1.t,((st++(l++[.dfr,F .busy none,own]))++ext)++new,[]⟩) ⟨qiy t (ps.toList.zip xs),((st++(l++[.dfr,F .ready none,own]))++ext)++[],[]⟩) :
  xx E (st.length+(n+1)) xs ((st++(l++[.dfr,F .ready none,own]))++ext) fun b st2=>∃ l' ext',(b=true→st2=(st++(l'++[.dfr,F .ready none,own]))++ext'∧I l')∧(b=false→∃ c,st2=(st++(l'++[.dfr,F .done (some c),own]))++ext'∧D c l'):=by
 refine qob hF (qcl hl) hps fun rd=>?_
 have h:=h rd
 rw [List.append_nil] at h
 refine h.mono fun e s1 hq=>?_
 cases e with
 |normal=>
  obtain⟨new,h1,h2,h3⟩:=hq
  refine⟨by rw [h1,List.append_assoc];exact qcl hl,h2,?_⟩
  have e:s1.st.set (st.length+(n+1)) (F .busy none)=((st++(l++[.dfr,F .busy none,own]))++ext)++new:=by
   rw [h1,List.append_assoc,qd9 hl,List.append_assoc _ ext]
  rw [e]
  refine h3.mono fun e s2 hq2=>?_
  cases e with
  |normal=>
   obtain⟨l',ext',new',k1,k2⟩:=hq2
   exact⟨by rw [k1,List.append_assoc];exact qcl (hI _ k2),l',ext'++new',fun _=>⟨by rw [k1,List.append_assoc,qd9 (hI _ k2)],k2⟩,nofun⟩
  |ret=>
   obtain⟨l',ext',new',k1,k2⟩:=hq2
   exact⟨by rw [k1,List.append_assoc];exact qcl (hD _ _ k2),l',ext'++new',nofun,fun _=>⟨_,by rw [k1,List.append_assoc,qd9 (hD _ _ k2)],k2⟩⟩
  |exit id=>
   obtain⟨l',ext',new',k1,k2⟩:=hq2
   exact⟨by rw [k1,List.append_assoc];exact qcl (hD _ _ k2),l',ext'++new',nofun,fun _=>⟨_,by rw [k1,List.append_assoc,qd9 (hD _ _ k2)],k2⟩⟩
  | _=>exact hq2.elim
 | _=>exact hq.elim
end Go.Av
namespace Go.Pl
open Go Go.Proofs
abbrev Fld:=qb×qb
def qdo (s:qb):Prop:=∀ c∈s,vu c
instance (s:qb):Decidable (qdo s):=inferInstanceAs (Decidable (∀ c∈s,vu c))
def wl (s:qb):qb:=if qdo s∨s.head? = some 46 then 46::s else s
def kv (key p:qb):qb:=key++[58]++if p=[] then [] else [32]++p
def kr (f:Fld):List qb:=kv f.1 ((q5 f.2).headD [])::(q5 f.2).tail.map fun s=>[32]++wl s
def zi (ls:List qb):qb:=ls.flatMap fun s=>s++[10]
def zx (xs:List Fld):qb:=xs.flatMap fun f=>zi (kr f)
def kc (f:Fld):Int:=if ¬ yl f.1 then 5 else if 1000<f.2.length then 6 else 0
def vi (f:Fld):Prop:=yl f.1∧f.2.length≤1000
instance (f:Fld):Decidable (vi f):=inferInstanceAs (Decidable (_∧_))
theorem qb7 (f:Fld):kc f=0↔vi f:=by
 unfold kc vi
 by_cases h:yl f.1
 ·by_cases h2:1000<f.2.length
  ·simp [h,h2]
  ·simp [h,h2];omega
 ·simp [h]
def ko (c:UInt8) (l:qb):qb:=if l.head? = some c then l.drop 1 else l
theorem qss (c:UInt8) (l:qb):Lib.trimPrefix l [c]=ko c l:=by
 unfold Lib.trimPrefix ko
 rw [qlf]
 simp
def qb4 (l:qb) (r:List qb):qb:=ko 32 (js l)++r.flatMap fun s=>[10]++ko 46 (s.drop 1)
def qpa (ls:List qb):Prop:=ls≠[]∧qw (ls.headD [])=4∧∀ s∈ls.tail,qw s=3
instance (ls:List qb):Decidable (qpa ls):=inferInstanceAs (Decidable (_∧_∧_))
def je (ls:List qb):Fld×Int:=
 if qpa ls then
  if 1000<(qb4 (ls.headD []) ls.tail).length then (([],[]),6) else ((z4 (ls.headD []),qb4 (ls.headD []) ls.tail),0)
 else (([],[]),2)
theorem qer (l:qb):q5 l≠[]:=by
 by_cases h:10∈l
 ·rw [xi h];simp
 ·rw [xj h];simp
theorem qko (l:qb):q5 l=(q5 l).headD []::(q5 l).tail:=by
 cases h:q5 l with
 |nil=>exact absurd h (qer l)
 |cons a r=>rfl
theorem qkp:∀ (n:Nat) (l:qb),l.length≤n→(q5 l).headD []++(q5 l).tail.flatMap (fun s=>[10]++s)=l
 |n,l,hn=>by
  by_cases h:10∈l
  ·rw [xi h]
   have hne:l≠[]:=fun e=>by subst e;simp at h
   have hlt:=wo (c:=10) hne
   cases n with
   |zero=>omega
   |succ n=>
    have ih:=qkp n (past 10 l) (by omega)
    simp only [List.headD_cons,List.tail_cons]
    rw [qko (past 10 l)]
    simp only [List.flatMap_cons]
    rw [List.append_assoc,ih]
    have:=xw h
    simp [← this]
  ·rw [xj h];simp
theorem qkq (l:qb):∀ x∈q5 l,10∉x:=fun x hx=>(qga l.length l (Nat.le_refl _) x hx).2
theorem qdg (l:qb):∀ x∈q5 l,x.length≤l.length:=fun x hx=>(qga l.length l (Nat.le_refl _) x hx).1
theorem q76 (l:qb):(q5 l).headD []∈q5 l:=by
 have h:=qer l
 cases e:q5 l with
 |nil=>exact absurd e h
 |cons a r=>simp
theorem q29 {s:qb} (h:10∉s):10∉wl s:=by
 unfold wl
 split
 ·simp [h]
 ·exact h
theorem qmn (s:qb):(wl s).length≤s.length+1:=by
 unfold wl
 split <;> simp
theorem qqr {k:qb} (h:yl k):∃ c,k.head? = some c∧¬ vu c∧c≠35:=by
 obtain⟨h1,h2,h3,h4,h5,h6⟩:=h
 cases k with
 |nil=>exact absurd rfl h1
 |cons a r=>exact⟨a,rfl,fun hb=>h3 ⟨a,rfl,hb⟩,fun e=>h4 (by simp [e])⟩
end Go.Pl
namespace Go.Av
open Go Go.RowKit
section
variable {E : Env} {rd : Option Nat} {N : Nat} {ops : Array Oper} {K : AS → Prop} {s : AS} {rest : List Oper} {d : Option Tmp} {T : TypeId} {p : String} {af : Array Edge}
theorem w8 {t e:TypeId} {len sz:Nat} {agg:Bool} {parts:Array (Nat×Operand)} {zs cs:List AV} {st loc:List AObj} (hst:s.st=st++loc) (hu:E.P.underlying t=some (.slice e)) (ht:tyOf E.P e=some (sz,agg)) (hz:qew E.P e len=some zs)
  (hf:qbr (fun i=>some (i * sz,sz)) zs (vl N s parts)=some cs) (hsz:Nat.ble (len * sz) 16777216=true)
  (h:AOps E rd N ops rest K (AS.put ⟨s.t,st++(loc++[.cells 0 e cs]),s.df⟩ d (.os (st.length+loc.length) 0 0 len len))):AOps E rd N ops (⟨d,.buildSlice t len parts,T,p,af,none⟩::rest) K s:=by
 refine q6 rfl (qz nofun fun B0 w0 G a w _ hI=>?_)
 obtain⟨c',hrun,h2⟩:=qjf (d:=d) (T:=T) (p:=p) (af:=af) hI hu ht hz hf hsz
 have hA:=hI.agree.newCells e c' cs h2.1 h2.2
 have hn:=hI.agree.n
 rw [hst] at hA hn
 simp only [List.append_assoc,List.length_append] at hA hn
 exact⟨_,_,_,_,_,hrun,G.le_new _ _ _ _,hA,.os _ _ _ _ _ _ (by simp [Gh.new,hn]) (Nat.zero_le _) (fun _=>by simp [Gh.new,hn]),h⟩
theorem zf.ownTip {B0:Nat} {w0:World} {G:Gh} {st:List AObj} {w:World} (h:zf B0 w0 G st w) {o sz len cap:Nat} {T:TypeId} {cs:List AV} {xs:List AV} (ho:st[o]? = some (.cells 0 T cs)) (hc:cs.length=cap * sz) (hlen:xs.length=len) (h0:0<len) (hle:len≤cap) (hcm:cap≤maxLen) (hw:∀ x∈xs,x.cells.length=sz) (hfl:flat xs=cs.take (len * sz)) :
  ∃ G',G.le G'∧zf B0 w0 G' (st.set o (.tip len sz T)) w∧Rel G' (.sl sz xs (some o)) (.slice (some ⟨(G.ob o).blk,0,none⟩) len cap):=by
 subst hlen
 have hon:=lt_of_getElem? ho
 obtain⟨g0,g1,g2,g3,c,g4,g5,g6⟩:=h.ob o _ ho
 have hle1:G.le (G.publish (G.ob o).blk (c.toList.take (xs.length * sz))):=G.le_publish _ _ [] [] (.inl g3)
 -- dead, published
 have key:∀ (k:Nat) (x:AObj),(st.set o .dead)[k]? = some x→x = .dead∨(k≠o∧st[k]? = some x):=fun k x hx=>by
  rcases getElem?_set' _ _ _ _ _ hx with⟨_,e⟩|e
  ·exact .inl e
  ·exact .inr e
 have hA1:zf B0 w0 (G.publish (G.ob o).blk (c.toList.take (xs.length * sz))) (st.set o .dead) w:=by
  refine⟨h.below,h.hB,by simp [h.n,Gh.publish],fun b vs hb=>?_,fun k x hx=>?_,fun k k' x x' hne hx hx' hl hl'=>?_⟩
  ·simp only [Gh.publish] at hb
   by_cases e:b=(G.ob o).blk
   ·rw [if_pos e] at hb
    cases hb
    subst e
    refine⟨c,T,(0,0),g4,fun i y hy=>?_⟩
    rw [List.getElem?_take] at hy
    split at hy
    ·simpa using hy
    ·simp at hy
   ·rw [if_neg e] at hb
    exact h.pub b vs hb
  ·rcases key k x hx with rfl | ⟨hk,hx⟩
   ·trivial
   ·refine (h.ob k x hx).mono hle1 rfl (fun hl=>?_) (fun _=>rfl)
    have:=h.sep k o x _ hk hx ho hl trivial
    simp [Gh.publish,this]
  ·rcases key k x hx with rfl | ⟨hk,hx⟩
   ·exact hl.elim
   ·rcases key k' x' hx' with rfl | ⟨hk',hx'⟩
    ·exact hl'.elim
    ·exact h.sep k k' x x' hne hx hx' hl hl'
 have hvl:(c.toList.take (xs.length * sz)).length=xs.length * sz:=by
  have:xs.length * sz≤cap * sz:=Nat.mul_le_mul_right _ hle
  simp
  omega
 obtain⟨hle2,hA2⟩:=hA1.setTip (t:=o) (n:=0) (n':=xs.length) (k:=(G.ob o).blk) (cap:=c.size) (sz:=sz) (T:=T) (c:=c) (vs:=c.toList.take (xs.length * sz)) (by simp [hon]) g0 g1 h0 g4 (by simp [Gh.publish]) hvl rfl g2 (fun k x hx hl=>by
  rcases key k x hx with rfl | ⟨hk,hx⟩
  ·exact hl.elim
  ·exact h.sep k o x _ hk hx ho hl trivial)
 rw [List.set_set] at hA2
 refine⟨_,hle1.trans hle2,hA2,?_⟩
 have hgn:o<G.n:=by rw [h.n];exact hon
 refine .sl sz xs (some o) (G.ob o).blk 0 cap (c.toList.take (xs.length * sz)) (by simp [Gh.setOb,Gh.publish]) hw (by rw [hfl,hvl];simp;omega) (fun i x y h1 h2=>?_) (fun t ht=>?_) (by omega)
 ·rw [hfl] at h1
  rw [Nat.zero_add] at h2
  rw [List.getElem?_take] at h1 h2
  split at h1
  ·rename_i hi
   rw [if_pos hi] at h2
   exact ((g6 i x y h1 (by simpa using h2)).mono hle1).mono hle2
  ·simp at h1
 ·simp only [Option.some.injEq] at ht
  subst ht
  refine⟨by simpa [Gh.setOb,Gh.publish] using hgn,by omega,by simp [Gh.setOb],fun _=>⟨by simp [Gh.setOb],rfl,by simp [Gh.setOb,← g5,hc],hcm,by omega⟩⟩
theorem Inv.osTip {B0:Nat} {w0:World} {G:Gh} {a:Act} {w:World} (h:Inv B0 w0 N G s a w) {i o sz len cap:Nat} {T':TypeId} {cs xs:List AV} (hi:s.t i = .os o 0 0 len cap) (ho:s.st[o]? = some (.cells 0 T' cs)) (hc:cs.length=cap * sz) (hlen:xs.length=len) (h0:0<len) (hle:len≤cap) (hcm:cap≤maxLen) (hw:∀ x∈xs,x.cells.length=sz) (hfl:flat xs=cs.take (len * sz)) :
  ∃ G',G.le G'∧Inv B0 w0 N G' ⟨Av.put s.t i (.sl sz xs (some o)),s.st.set o (.tip len sz T'),s.df⟩ a w:=by
 obtain⟨G',hG,hA,hR⟩:=h.agree.ownTip ho hc hlen h0 hle hcm hw hfl
 obtain⟨_,g1,_⟩:=h.agree.ob o _ ho
 refine⟨G',hG,hA,h.defers_mono hG,h.size,fun j y hy=>?_⟩
 have hj:=h.tmps j y hy
 by_cases e:j=i
 ·subst e
  simp only [wi]
  rw [hi] at hj
  cases hj with
  |os _ _ _ _ b _ hn hv hb=>
   have hb:=hb g1
   subst hb
   exact hR
 ·simp only
  rw [yh _ _ _ _ e]
  exact hj.mono hG
theorem qlt {c:Code} {Q:Exit→AS→Prop} (i:Nat) {o sz len cap:Nat} {T':TypeId} {cs xs:List AV} (hi:s.t i = .os o 0 0 len cap) (ho:s.st[o]? = some (.cells 0 T' cs)) (hc:cs.length=cap * sz) (hlen:xs.length=len) (h0:0<len) (hle:len≤cap) (hcm:cap≤maxLen) (hw:∀ x∈xs,x.cells.length=sz) (hfl:flat xs=cs.take (len * sz))
  (h:AWp E rd N c Q ⟨Av.put s.t i (.sl sz xs (some o)),s.st.set o (.tip len sz T'),s.df⟩):AWp E rd N c Q s:=
 ⟨fun B0 w0 G a w hL hI=>let ⟨G1,h1,h2⟩:=hI.osTip hi ho hc hlen h0 hle hcm hw hfl;wpIn_mono (h.run B0 w0 _ a w hL h2) fun _ _ _ ⟨G',s',hG,k1,k2⟩=>⟨G',s',h1.trans hG,k1,k2⟩⟩
theorem q1a {l:List Oper} (i:Nat) {o sz len cap:Nat} {T':TypeId} {cs xs:List AV} (hi:s.t i = .os o 0 0 len cap) (ho:s.st[o]? = some (.cells 0 T' cs)) (hc:cs.length=cap * sz) (hlen:xs.length=len) (h0:0<len) (hle:len≤cap) (hcm:cap≤maxLen) (hw:∀ x∈xs,x.cells.length=sz) (hfl:flat xs=cs.take (len * sz))
  (h:AOps E rd N ops l K ⟨Av.put s.t i (.sl sz xs (some o)),s.st.set o (.tip len sz T'),s.df⟩):AOps E rd N ops l K s:=
 ⟨fun B0 w0 G a w hL hI Q hQ=>let ⟨G1,h1,h2⟩:=hI.osTip hi ho hc hlen h0 hle hcm hw hfl;h.run B0 w0 _ a w hL h2 Q fun G' s' a' w' hG k1 k2=>hQ G' s' a' w' (h1.trans hG) k1 k2⟩
theorem Inv.osPub {B0:Nat} {w0:World} {G:Gh} {a:Act} {w:World} (h:Inv B0 w0 N G s a w) {i o ver off sz len cap:Nat} {T':TypeId} {cs xs:List AV} (hi:s.t i = .os o ver off len cap) (ho:s.st[o]? = some (.cells ver T' cs)) (hlen:xs.length=len) (hle:len≤cap) (hw:∀ x∈xs,x.cells.length=sz) (hin:off+len * sz≤cs.length) (hfl:flat xs=(cs.drop off).take (len * sz)) :
  ∃ G',G.le G'∧Inv B0 w0 N G' ⟨Av.put s.t i (.sl sz xs none),s.st.set o .dead,s.df⟩ a w:=by
 obtain⟨vs,hle1,hA,hv,hp,hl,hr⟩:=h.agree.pubOb ho
 refine⟨_,hle1,hA,h.defers_mono hle1,h.size,fun j y hy=>?_⟩
 have hj:=h.tmps j y hy
 by_cases e:j=i
 ·subst e
  simp only [wi]
  rw [hi] at hj
  cases hj with
  |os _ _ _ _ b _ hn hv' hb=>
   have hb:=hb hv
   subst hb
   rw [← hlen]
   refine .sl sz xs none _ off cap vs hp hw (by rw [hfl];simp;omega) (fun k x y hx hy=>?_) (fun t ht=>by simp at ht) (by omega)
   rw [hfl,List.getElem?_take] at hx
   split at hx
   ·rw [List.getElem?_drop] at hx
    exact hr _ x y hx hy
   ·simp at hx
 ·simp only
  rw [yh _ _ _ _ e]
  exact hj.mono hle1
theorem q3n {l:List Oper} (i:Nat) {x r:AV} (hi:s.t i=x) (hw:∀ G v,Rel G x v→Rel G r v) (h:AOps E rd N ops l K ⟨Av.put s.t i r,s.st,s.df⟩):AOps E rd N ops l K s:=
 ⟨fun B0 w0 G a w hL hI Q hQ=>h.run B0 w0 G a w hL ⟨hI.agree,hI.defers,hI.size,fun j y hy=>by
  have hj:=hI.tmps j y hy
  by_cases e:j=i
  ·subst e;simp only [wi];rw [hi] at hj;exact hw G y hj
  ·simp only;rw [yh _ _ _ _ e];exact hj⟩ Q hQ⟩
theorem qrh {P:Program} {t e:TypeId} {sz:Nat} {agg:Bool} (hu:P.underlying t=some (.slice e)) (ht:tyOf P e=some (sz,agg)) (a:Option Addr) (len cap:Nat) (lo hi:Option Value) (i j:Nat) (w:World)
  (hlo:match lo with|none=>i=0|some v=>∃ k,v = .int k (i:Int)) (hhi:match hi with|none=>j=len|some v=>(∃ k,v = .int k (j:Int))∧j≤cap) (h1:i≤j) :
  (Instr.slice t (.slice a len cap) lo hi none).run P w = .ok (.slice (if cap=i then a else a.map (·.add (i * sz))) (j - i) (cap - i)) w:=by
 have hs:=(kq ht w).1
 cases lo with
 |none=>
  simp only at hlo
  subst hlo
  cases hi with
  |none=>
   simp only at hhi
   subst hhi
   simp [Instr.slice,run_underlying hu,Instr.sliceBounds,hs]
  |some v=>
   obtain⟨⟨k,rfl⟩,h2⟩:=hhi
   simp [Instr.slice,run_underlying hu,Instr.sliceBounds,Instr.sliceBound,asIntOf,hs,h2]
 |some u=>
  obtain⟨k',rfl⟩:=hlo
  cases hi with
  |none=>
   simp only at hhi
   subst hhi
   simp [Instr.slice,run_underlying hu,Instr.sliceBounds,Instr.sliceBound,asIntOf,hs,h1]
  |some v=>
   obtain⟨⟨k,rfl⟩,h2⟩:=hhi
   simp [Instr.slice,run_underlying hu,Instr.sliceBounds,Instr.sliceBound,asIntOf,hs,h1,h2]
theorem qrd {G:Gh} {sz:Nat} {xs:List AV} {tip:Option Nat} {a:Option Addr} {len cap:Nat} (h:Rel G (.sl sz xs tip) (.slice a len cap)) {i j:Nat} (h1:i≤j) (h2:j≤xs.length) :
  len=xs.length∧len≤cap∧Rel G (.sl sz ((xs.take j).drop i) none) (.slice (if cap=i then a else a.map (·.add (i * sz))) (j - i) (cap - i)):=by
 cases h with
 |sl0=>
  simp at h2
  subst h2
  have:i=0:=by omega
  subst this
  refine⟨rfl,Nat.zero_le _,?_⟩
  simp
  exact .sl0 sz none _ _ (by simp)
 |sl _ _ _ b off cap pub hp hw hlen hr ht hcap=>
  refine⟨rfl,hcap,?_⟩
  have hl:((xs.take j).drop i).length=j - i:=by simp;omega
  by_cases hji:j=i
  ·subst hji
   have e:(xs.take j).drop j=[]:=List.length_eq_zero_iff.1 (by rw [hl];omega)
   rw [e,Nat.sub_self]
   exact .sl0 sz none _ _ (by simp)
  ·have hne:cap≠i:=by omega
   rw [if_neg hne]
   simp only [Option.map_some]
   have hadd:Addr.add ⟨b,off,none⟩ (i * sz)=⟨b,off+i * sz,none⟩:=Addr.add_lit ..
   rw [hadd,← hl]
   have hw':∀ x∈(xs.take j).drop i,x.cells.length=sz:=fun x hx=>hw x (List.mem_of_mem_take (List.mem_of_mem_drop hx))
   have hfx:(flat xs).length=xs.length * sz:=zt hw
   have hsplit:flat xs=flat (xs.take i)++flat ((xs.take j).drop i)++flat (xs.drop j):=by
    have e:xs.take i++(xs.take j).drop i=xs.take j:=by
     conv=>rhs;rw [← List.take_append_drop i (xs.take j),List.take_take,Nat.min_eq_left h1]
    rw [← wy,← wy,e,List.take_append_drop]
   have hti:(flat (xs.take i)).length=i * sz:=by
    rw [zt (fun x hx=>hw x (List.mem_of_mem_take hx)),List.length_take,Nat.min_eq_left (by omega)]
   have hmid:(flat ((xs.take j).drop i)).length=(j - i) * sz:=by rw [zt hw',hl]
   refine .sl sz _ none b (off+i * sz) (cap - i) pub hp hw' ?_ (fun k x y hx hy=>?_) (fun t ht=>by simp at ht) (by rw [hl];omega)
   ·have:=congrArg List.length hsplit
    simp only [List.length_append] at this
    omega
   ·refine hr (i * sz+k) x y ?_ (by rw [← hy];congr 1;omega)
    have hk:=lt_of_getElem? hx
    rw [hsplit,List.append_assoc,List.getElem?_append_right (by omega),hti,Nat.add_sub_cancel_left,List.getElem?_append_left hk]
    exact hx
theorem qyj {x:Operand} {t e:TypeId} {lo hi:Option Operand} {sz:Nat} {agg:Bool} {xs ys:List AV} {tip:Option Nat} {i j:Nat} (hx:qj N s x = .sl sz xs tip) (hu:E.P.underlying t=some (.slice e)) (ht:tyOf E.P e=some (sz,agg))
  (hlo:match lo with|none=>i=0|some y=>∃ k,qj N s y = .v (.int k (i:Int))) (hhi:match hi with|none=>j=xs.length|some y=>∃ k,qj N s y = .v (.int k (j:Int))) (h1:i≤j) (h2:j≤xs.length) (hy:(xs.take j).drop i=ys)
  (h:AOps E rd N ops rest K (s.put d (.sl sz ys none))):AOps E rd N ops (⟨d,.slice t x lo hi none,T,p,af,none⟩::rest) K s:=by
 subst hy
 refine q6 rfl (qz nofun fun B0 w0 G a w _ hI=>?_)
 have he:=hI.eval_of hx
 generalize hv:a.eval x=v at he
 have hsl:∃ b len cap,v = .slice b len cap:=by cases he <;> exact⟨_,_,_,rfl⟩
 obtain⟨b,len,cap,rfl⟩:=hsl
 obtain⟨hl,hlc,hr⟩:=qrd he h1 h2
 refine⟨_,w,G,_,s.st,?_,.refl G,hI.agree,hr,h⟩
 have hrun:=qrh hu ht b len cap (lo.map a.eval) (hi.map a.eval) i j w (by
  cases lo with
  |none=>exact hlo
  |some y=>obtain⟨k,hy⟩:=hlo;exact⟨k,hI.evalv hy⟩) (by
  cases hi with
  |none=>simp only at hhi;simp only [Option.map_none];omega
  |some y=>obtain⟨k,hy⟩:=hhi;exact⟨⟨k,hI.evalv hy⟩,by omega⟩) h1
 generalize a.eval = ρ at hv hrun
 simp only [execOp,hv]
 simp [Instr.sliceAt,run_underlying hu,hrun]
theorem qex {x y:Operand} {t e:TypeId} {sz:Nat} {agg:Bool} {xs ys:List AV} {tip:Option Nat} {k:IntKind} {i:Nat} (hx:qj N s x = .sl sz xs tip) (hy:qj N s y = .v (.int k (i:Int))) (hu:E.P.underlying t=some (.slice e)) (ht:tyOf E.P e=some (sz,agg)) (h1:i≤xs.length) (hz:xs.drop i=ys)
  (h:AOps E rd N ops rest K (s.put d (.sl sz ys none))):AOps E rd N ops (⟨d,.slice t x (some y) none none,T,p,af,none⟩::rest) K s:=
 qyj (i:=i) (j:=xs.length) hx hu ht ⟨k,hy⟩ rfl h1 (Nat.le_refl _) (by rw [List.take_length];exact hz) h
end
end Go.Av
namespace Go.Av
open Go Go.RowKit
inductive Vec (sz:Nat) (T:TypeId) (o:Nat) (xs:List AV):AV→AObj→Prop
 |nil (h:xs=[]):Vec sz T o xs zh (.tip 0 sz T)
 |os (ver cap:Nat) (pad:List AV) (hl:(flat xs++pad).length=cap * sz) (hw:∀ x∈xs,x.cells.length=sz) (hle:xs.length≤cap) (hcm:cap≤maxLen):Vec sz T o xs (.os o ver 0 xs.length cap) (.cells ver T (flat xs++pad))
section
variable {B0 : Nat} {w0 : World} {G : Gh} {st : List AObj} {w : World}
theorem zf.setCells (h:zf B0 w0 G st w) {t k cap v':Nat} {T:TypeId} {cs:List AV} (ht:st[t]? = some .dead) (hraw:(G.ob t).raw=false) (hver:(G.ob t).ver<v')
  {c:Array Value} (hc:w.heap[k]? = some (.cells c T (0,0))) (hp:G.pub k=none) (hl:cs.length=c.size) (hr:∀ (i:Nat) (x:AV) (y:Value),cs[i]? = some x→c[i]? = some y→Rel G x y) (hk:B0≤k) (hs:∀ o x,st[o]? = some x→x.live→(G.ob o).blk≠k) :
  G.le (G.setOb t ⟨v',k,cap,false⟩)∧zf B0 w0 (G.setOb t ⟨v',k,cap,false⟩) (st.set t (.cells v' T cs)) w:=by
 have hle:=G.le_setOb t ⟨v',k,cap,false⟩ hver hraw
 have hob:∀ o,o≠t→(G.setOb t ⟨v',k,cap,false⟩).ob o=G.ob o:=fun o ho=>by simp [Gh.setOb,ho]
 have hobt:(G.setOb t ⟨v',k,cap,false⟩).ob t=⟨v',k,cap,false⟩:=by simp [Gh.setOb]
 refine⟨hle,h.below,h.hB,by simp [h.n,Gh.setOb],h.pub,fun o x hx=>?_,fun o o' x x' hne hx hx' hl1 hl2=>?_⟩
 ·rcases getElem?_set' _ _ _ _ _ hx with⟨rfl,rfl⟩ | ⟨ho,hx⟩
  ·exact⟨by rw [hobt],by rw [hobt],by rw [hobt];exact hk,by rw [hobt];exact hp,c,by rw [hobt];exact hc,hl,fun i x y h1 h2=>(hr i x y h1 h2).mono hle⟩
  ·exact (h.ob o x hx).mono hle (hob o ho) (fun _=>rfl) (fun _=>rfl)
 ·rcases getElem?_set' _ _ _ _ _ hx with⟨e1,e2⟩ | ⟨ho,hx⟩
  ·rcases getElem?_set' _ _ _ _ _ hx' with⟨e3,_⟩ | ⟨ho',hx'⟩
   ·exact absurd (e1.trans e3.symm) hne
   ·rw [e1,hobt,hob o' ho']
    exact (hs o' x' hx' hl2).symm
  ·rcases getElem?_set' _ _ _ _ _ hx' with⟨e3,_⟩ | ⟨ho',hx'⟩
   ·rw [e3,hobt,hob o ho]
    exact hs o x hx hl1
   ·rw [hob o ho,hob o' ho']
    exact h.sep o o' x x' hne hx hx' hl1 hl2
theorem yv {G:Gh} {cs ds:List AV} {vs us:List Value} (hl:cs.length=vs.length) (h1:∀ (i:Nat) (x:AV) (y:Value),cs[i]? = some x→vs[i]? = some y→Rel G x y) (h2:∀ (i:Nat) (x:AV) (y:Value),ds[i]? = some x→us[i]? = some y→Rel G x y) :
  ∀ (i:Nat) (x:AV) (y:Value),(cs++ds)[i]? = some x→(vs++us)[i]? = some y→Rel G x y:=fun i x y hx hy=>by
 by_cases hi:i<cs.length
 ·rw [List.getElem?_append_left hi] at hx
  rw [List.getElem?_append_left (by omega)] at hy
  exact h1 i x y hx hy
 ·rw [List.getElem?_append_right (by omega)] at hx
  rw [List.getElem?_append_right (by omega),← hl] at hy
  exact h2 _ x y hx hy
theorem qla {P:Program} (hA:zf B0 w0 G st w) {tt u ty T:TypeId} {du:TypeDesc} (htt:P.underlying tt=some (.slice T)) (hu:P.underlying u=some du) (hd:qg8 du)
  {sz bytes:Nat} (hT:xb P T sz bytes) {o:Nat} {xs ys:List AV} {a:AV} {ob:AObj} {v x:Value} (hV:Vec sz T o xs a ob) (ho:st[o]? = some ob) (hv:Rel G a v)
  {news:List Value} (hx:Src P w x ys.length sz news) (hys:∀ y∈ys,y.cells.length=sz) (hrel:∀ (i:Nat) (a:AV) (b:Value),(flat ys)[i]? = some a→news[i]? = some b→Rel G a b)
  (h63:xs.length+ys.length≤maxLen) (hbytes:(xs.length+ys.length) * bytes≤140737488355328) :
  ∃ v' w' G' a' ob',(Builtin.append_ #[tt,u] ty #[v,x]).run P w = .ok v' w'∧G.le G'∧zf B0 w0 G' (st.set o ob') w'∧Rel G' a' v'∧Vec sz T o (xs++ys) a' ob':=by
 obtain⟨i,z,hi,hz,rfl,rfl,hzs⟩:=hT.ex
 have hon:=lt_of_getElem? ho
 have htn:o<G.n:=by rw [hA.n];exact hon
 have hraw:(G.ob o).raw=false:=by
  have:=hA.ob o _ ho
  cases hV with
  |nil h=>exact this.1
  |os=>exact this.1
 have hk:=hA.kill o
 have hkt:(st.set o .dead)[o]? = some .dead:=qcm ho
 have hother:∀ k x,(st.set o .dead)[k]? = some x→x.live→k≠o∧st[k]? = some x:=fun k x hx hl=>by
  rcases getElem?_set' _ _ _ _ _ hx with⟨_,e⟩ | ⟨h1,h2⟩
  ·subst e;exact hl.elim
  ·exact⟨h1,h2⟩
 have hself:st.set o ob=st:=by
  apply List.ext_getElem?
  intro k
  by_cases e:o=k
  ·subst e;rw [List.getElem?_set_self hon];exact ho.symm
  ·rw [List.getElem?_set_ne e]
 have hfy:(flat ys).length=ys.length * i.size:=zt hys
 have grow:∀ (base:Option Addr) (c:Nat) (olds:List Value),(Builtin.firstCells i.size xs.length (.slice base xs.length c)).run P w.drew = .ok olds.toArray w.drew→c<xs.length+ys.length→olds.length=xs.length * i.size→(∀ x∈xs,x.cells.length=i.size) →
   (∀ (j:Nat) (a:AV) (b:Value),(flat xs)[j]? = some a→olds[j]? = some b→Rel G a b)→Builtin.nextslicecap (xs.length+ys.length) c * i.bytes≤281474976710656 →
   ∃ v' w' G' a' ob',(Builtin.append_ #[tt,u] ty #[.slice base xs.length c,x]).run P w = .ok v' w'∧G.le G'∧zf B0 w0 G' (st.set o ob') w'∧Rel G' a' v'∧Vec i.size T o (xs++ys) a' ob':=by
  intro base c olds hold hc hol hwx hrx hfit
  have hfx:(flat xs).length=xs.length * i.size:=zt hwx
  have hrun:=qes (ty:=ty) htt hu hd hi hz hx base xs.length c olds hold hc (by simp only [maxLen] at h63;omega) hfit
  have hge:=grownCap_ge w (xs.length+ys.length) c T
  have hle:=grownCap_le_maxLen w (xs.length+ys.length) c T h63
  generalize grownCap w (xs.length+ys.length) c T=cap at hrun hge hle
  generalize hzc:(Builtin.zeroCells z.cells (cap - (xs.length+ys.length)))=zc at hrun
  have hzl:zc.size=(cap - (xs.length+ys.length)) * i.size:=by rw [← hzc,size_zeroCells,hzs]
  have hdrew:Below w.heap.size w w.drew:=⟨rfl,rfl,rfl,Nat.le_refl _,fun _ _=>rfl⟩
  have hcl:(flat (xs++ys)++zc.toList.map AV.v).length=(olds.toArray++news.toArray++zc).size:=by
   rw [wy]
   simp [hfx,hfy,hol,hx.count]
   omega
  have hA1:=(hk.fresh hdrew).fresh (w':=w.drew.alloc (.cells (olds.toArray++news.toArray++zc) T)) ⟨rfl,rfl,rfl,by simp [World.alloc],fun b hb=>x7 _ _ _ hb⟩
  have hnp:G.pub w.heap.size=none:=by
   cases hp:G.pub w.heap.size with
   |none=>rfl
   |some vs=>exact absurd (hA.pub_lt hp) (Nat.lt_irrefl _)
  obtain⟨hle2,hA2⟩:=hA1.setCells (t:=o) (k:=w.heap.size) (cap:=0) (v':=(G.ob o).ver+1) (T:=T) (cs:=flat (xs++ys)++zc.toList.map AV.v) hkt hraw (Nat.lt_succ_self _) (x6 w.drew _) hnp hcl (by
   have h1:=yv (G:=G) (cs:=flat xs) (ds:=flat ys) (vs:=olds) (us:=news) (by omega) hrx hrel
   have h2:=yv (G:=G) (cs:=flat xs++flat ys) (ds:=zc.toList.map AV.v) (vs:=olds++news) (us:=zc.toList) (by simp [hfx,hfy,hol,hx.count]) h1 (fun j a b h1 h2=>by
    rw [List.getElem?_map,h2] at h1
    simp at h1
    subst h1
    exact .v _)
   rw [wy]
   intro j a b g1 g2
   exact h2 j a b g1 (by rw [← g2];simp [← Array.getElem?_toList])) hA.hB (fun k x hx hl=>by
   obtain⟨_,hx'⟩:=hother k x hx hl
   exact Nat.ne_of_lt ((hA.ob k x hx').lt hl))
  rw [List.set_set] at hA2
  refine⟨_,_,_,_,_,hrun,hle2,hA2,.os o ((G.ob o).ver+1) 0 (xs.length+ys.length) w.heap.size cap (by simpa [Gh.setOb] using htn) (by simp [Gh.setOb]) (fun _=>by simp [Gh.setOb]),?_⟩
  have:=Vec.os (o:=o) (T:=T) (xs:=xs++ys) ((G.ob o).ver+1) cap (zc.toList.map AV.v) (sz:=i.size) (by
   have h1:zc.toList.length=(cap - (xs.length+ys.length)) * i.size:=by rw [← hzl];simp
   rw [List.length_append,wy,List.length_append,hfx,hfy,List.length_map,h1,← Nat.add_mul,← Nat.add_mul]
   congr 1
   omega) (fun y hy=>by
   rcases List.mem_append.1 hy with h|h
   ·exact hwx y h
   ·exact hys y h) (by simpa using hge) hle
  rw [List.length_append] at this
  exact this
 cases hV with
 |nil h=>
  subst h
  cases hv with
  |v _=>
  by_cases hm0:ys.length=0
  ·have hy0:ys=[]:=List.eq_nil_of_length_eq_zero hm0
   subst hy0
   have hn0:news=[]:=List.eq_nil_of_length_eq_zero (by simpa using hx.count)
   subst hn0
   exact⟨_,_,G,_,_,qbe htt hu hd hi hx none 0 0 (Nat.le_refl _),.refl G,by rw [hself];exact hA,.v _,.nil (by simp)⟩
  ·exact grow none 0 [] (by simp [run_firstCells_none]) (by simp;omega) (by simp) (by simp) (by simp [flat]) (by
    simp only [List.length_nil,Nat.zero_add] at hbytes ⊢
    rw [nextslicecap_zero (by omega)]
    omega)
 |os ver cap pad hl hw hle hcm=>
  obtain⟨g0,g1,g2,g3,c,g4,g5,g6⟩:=hA.ob o _ ho
  have hfx:(flat xs).length=xs.length * i.size:=zt hw
  cases hv with
  |os _ _ _ _ b _ hn hv' hb=>
  have hb:=hb g1
  subst hb
  have hcs:c.size=cap * i.size:=by rw [← g5,hl]
  by_cases hm0:ys.length=0
  ·have hy0:ys=[]:=List.eq_nil_of_length_eq_zero hm0
   subst hy0
   have hn0:news=[]:=List.eq_nil_of_length_eq_zero (by simpa using hx.count)
   subst hn0
   exact⟨_,_,G,_,_,qbe htt hu hd hi hx _ xs.length cap hle,.refl G,by rw [hself];exact hA,.os _ _ _ _ _ _ hn hv' (fun _=>rfl),by rw [List.append_nil];exact .os ver cap pad hl hw hle hcm⟩
  ·by_cases hroom:xs.length+ys.length≤cap
   ·have hmul:(xs.length+ys.length) * i.size≤cap * i.size:=Nat.mul_le_mul_right _ hroom
    rw [Nat.add_mul] at hmul
    have hfit:xs.length * i.size+news.length≤c.size:=by rw [hx.count,hcs];omega
    have hrun:=qh2 (ty:=ty) htt hu hd hi hx (G.ob o).blk xs.length cap c g4 hroom hfit
    have hpl:pad.length=cap * i.size - xs.length * i.size:=by
     have:=hl
     rw [List.length_append,hfx] at this
     omega
    have hA2:=hA.setRow (cs':=flat (xs++ys)++pad.drop (ys.length * i.size)) (c':=(c.toList.take (xs.length * i.size)++news++c.toList.drop (xs.length * i.size+news.length)).toArray) ho (by
     rw [wy]
     simp [hfx,hfy,hx.count,hpl,hcs,Nat.min_eq_left hle]
     omega) (by
     have e1:∀ (j:Nat) (a:AV) (b:Value),(flat xs)[j]? = some a→(c.toList.take (xs.length * i.size))[j]? = some b→Rel G a b:=fun j a b h1 h2=>by
      have hj:=lt_of_getElem? h1
      rw [List.getElem?_take_of_lt (by omega)] at h2
      exact g6 j a b (by rw [List.getElem?_append_left hj];exact h1) (by simpa using h2)
     have e2:=yv (G:=G) (cs:=flat xs) (ds:=flat ys) (vs:=c.toList.take (xs.length * i.size)) (us:=news) (by simp;omega) e1 hrel
     have e3:=yv (G:=G) (cs:=flat xs++flat ys) (ds:=pad.drop (ys.length * i.size)) (vs:=c.toList.take (xs.length * i.size)++news) (us:=c.toList.drop (xs.length * i.size+news.length)) (by
      simp [hfx,hfy,hx.count]
      omega) e2 (fun j a b h1 h2=>by
      rw [List.getElem?_drop] at h1 h2
      refine g6 (xs.length * i.size+news.length+j) a b ?_ (by simpa using h2)
      rw [List.getElem?_append_right (by rw [hfx];omega),hfx,← h1,hx.count]
      congr 1
      omega)
     rw [wy]
     intro j a b h1 h2
     exact e3 j a b h1 (by simpa using h2))
    refine⟨_,_,G,_,_,hrun,.refl G,hA2,.os o ver 0 (xs.length+ys.length) _ cap hn hv' (fun _=>rfl),?_⟩
    have:=Vec.os (o:=o) (T:=T) (xs:=xs++ys) ver cap (pad.drop (ys.length * i.size)) (sz:=i.size) (by
     rw [List.length_append,wy,List.length_append,hfx,hfy,List.length_drop,hpl]
     omega) (fun y hy=>by
     rcases List.mem_append.1 hy with h|h
     ·exact hw y h
     ·exact hys y h) (by simpa using hroom) hcm
    rw [List.length_append] at this
    exact this
   ·refine grow (some ⟨(G.ob o).blk,0,none⟩) cap (c.toList.take (xs.length * i.size)) ?_ (by omega) (by
     have:xs.length * i.size≤cap * i.size:=Nat.mul_le_mul_right _ hle
     simp
     omega) hw (fun j a b h1 h2=>?_) (growslice_fits (by omega) hbytes)
    ·refine run_firstCells_some w.drew i.size xs.length ⟨(G.ob o).blk,0,none⟩ xs.length cap _ (by
      have:xs.length * i.size≤cap * i.size:=Nat.mul_le_mul_right _ hle
      simp
      omega) fun j y hy=>?_
     have e1':w.drew.heap[(G.ob o).blk]? = some (.cells c T (0,0)):=g4
     rw [Addr.add_lit]
     rw [List.getElem?_take] at hy
     split at hy
     ·simp only [Array.getElem?_toList] at hy
      simp [World.cell?,e1',hy]
     ·simp at hy
    ·have hj:=lt_of_getElem? h1
     rw [List.getElem?_take_of_lt (by omega)] at h2
     exact g6 j a b (by rw [List.getElem?_append_left hj];exact h1) (by simpa using h2)
end
section
variable {E : Env} {rd : Option Nat} {N : Nat} {ops : Array Oper} {K : AS → Prop} {s : AS} {rest : List Oper} {d : Option Tmp} {T : TypeId} {p : String} {af : Array Edge}
theorem qvg {x y:Operand} {t u T':TypeId} {sz bytes o:Nat} {xs ys:List AV} {tip:Option Nat} {a:AV} {ob:AObj} (hx:qj N s x=a) (hy:qj N s y = .sl sz ys tip) (hV:Vec sz T' o xs a ob) (ho:s.st[o]? = some ob)
  (ht:E.P.underlying t=some (.slice T')) (hu:E.P.underlying u=some (.slice T')) (hT:xb E.P T' sz bytes) (hone:ju (flat ys)=true) (h63:xs.length+ys.length≤maxLen) (hb:(xs.length+ys.length) * bytes≤140737488355328)
  (h:∀ a' ob',Vec sz T' o (xs++ys) a' ob'→AOps E rd N ops rest K (AS.put ⟨s.t,s.st.set o ob',s.df⟩ d a')):AOps E rd N ops (⟨d,.call ⟨.builtin .append,#[x,y],#[t,u]⟩,T,p,af,none⟩::rest) K s:=by
 refine q6 rfl (qz nofun fun B0 w0 G a0 w _ hI=>?_)
 obtain⟨news,h1,h2,h3⟩:=xv (P:=E.P) hI.agree (hI.eval_of hy) (by simpa [ju] using hone)
 obtain⟨v',w',G',a',ob',e1,e2,e3,e4,e5⟩:=qla (ty:=T) hI.agree ht hu (.inr ⟨_,rfl⟩) hT hV ho (hI.eval_of hx) h1 h2 h3 h63 hb
 refine⟨v',w',G',_,_,?_,e2,e3,e4,h a' ob' e5⟩
 generalize a0.eval = ρ at e1
 simp [execOp,resolve,invoke,builtin,e1]
theorem q6o {sz:Nat} {T:TypeId} {o:Nat} {xs:List AV} {a:AV} {ob:AObj} (h:Vec sz T o xs a ob):(xs=[]∧a=zh∧ob = .tip 0 sz T)∨∃ ver cap pad,a = .os o ver 0 xs.length cap∧ob = .cells ver T (flat xs++pad)∧(flat xs++pad).length=cap * sz∧(∀ x∈xs,x.cells.length=sz)∧xs.length≤cap∧cap≤maxLen:=by
 cases h with
 |nil h=>exact .inl ⟨h,rfl,rfl⟩
 |os ver cap pad h1 h2 h3 h4=>exact .inr ⟨ver,cap,pad,rfl,rfl,h1,h2,h3,h4⟩
theorem qoi {sz:Nat}:∀ {xs:List AV} {i:Nat} {x:AV},(∀ x∈xs,x.cells.length=sz)→x.cells.length=sz→i<xs.length→∀ pad,zu (flat xs++pad) (0+i * sz) x.cells=flat (xs.set i x)++pad
 | [],_,_,_,_,h,_=>by simp at h
 |y::xs,0,x,hw,hx,_,pad=>by
  have hy:=hw y (by simp)
  simp only [List.set_cons_zero,qao,zu,Nat.zero_mul,Nat.zero_add,List.take_zero,List.nil_append,hx]
  rw [List.append_assoc,List.drop_append_of_le_length (by omega),← hy,List.drop_length]
  simp
 |y::xs,i+1,x,hw,hx,h,pad=>by
  have hy:=hw y (by simp)
  have ih:=qoi (xs:=xs) (i:=i) (x:=x) (fun z hz=>hw z (by simp [hz])) hx (by simpa using h) pad
  simp only [List.set_cons_succ,qao,zu,Nat.zero_add] at ih ⊢
  have e:(i+1) * sz=y.cells.length+i * sz:=by rw [Nat.add_mul,hy];omega
  simp only [List.append_assoc] at ih ⊢
  rw [e,List.take_length_add_append,show y.cells.length+i * sz+x.cells.length=y.cells.length+(i * sz+x.cells.length) by omega,List.drop_length_add_append]
  simp only [List.append_assoc]
  rw [ih]
theorem zce {sz:Nat} {T:TypeId} {o ver cap:Nat} {xs pad:List AV} (hl:(flat xs++pad).length=cap * sz) (hw:∀ x∈xs,x.cells.length=sz) (hle:xs.length≤cap) (hcm:cap≤maxLen) {i:Nat} {x:AV} (hx:x.cells.length=sz) (hi:i<xs.length) :
  Vec sz T o (xs.set i x) (.os o ver 0 xs.length cap) (.cells ver T (zu (flat xs++pad) (0+i * sz) x.cells)):=by
 rw [qoi hw hx hi]
 have hw':∀ y∈xs.set i x,y.cells.length=sz:=fun y hy=>by
  rcases List.mem_or_eq_of_mem_set hy with h|rfl
  ·exact hw y h
  ·exact hx
 have:=Vec.os (o:=o) (T:=T) (xs:=xs.set i x) ver cap pad (sz:=sz) (by
  rw [List.length_append] at hl ⊢
  rw [zt hw',List.length_set,← zt hw]
  exact hl) hw' (by simpa using hle) hcm
 rw [List.length_set] at this
 exact this
theorem q0x {sz:Nat} {xs pad:List AV} (hw:∀ x∈xs,x.cells.length=sz) {i:Nat} {x:AV} (hi:xs[i]? = some x):((flat xs++pad).drop (i * sz)).take sz=x.cells:=by
 have hlt:=lt_of_getElem? hi
 have hx:=hw x (List.mem_of_getElem? hi)
 apply List.ext_getElem?
 intro j
 rw [List.getElem?_take]
 by_cases hj:j<sz
 ·rw [if_pos hj,List.getElem?_drop,← qhj hw hi j hj]
  have hle:(i+1) * sz≤xs.length * sz:=Nat.mul_le_mul_right _ hlt
  rw [Nat.succ_mul] at hle
  rw [List.getElem?_append_left (by rw [zt hw];omega)]
 ·rw [if_neg hj,List.getElem?_eq_none (by omega)]
end
structure Chg (N:Nat) (s s':AS):Prop where
 run:∀ (B0:Nat) (w0:World) (G:Gh) (a:Act) (w:World),Inv B0 w0 N G s a w→∃ G',G.le G'∧Inv B0 w0 N G' s' a w
theorem Chg.trans {N:Nat} {s s' s'':AS} (h:Chg N s s') (k:Chg N s' s''):Chg N s s'':=⟨fun B0 w0 G a w hI=>let ⟨G1,h1,h2⟩:=h.run B0 w0 G a w hI;let ⟨G2,k1,k2⟩:=k.run B0 w0 G1 a w h2;⟨G2,h1.trans k1,k2⟩⟩
section
variable {E : Env} {rd : Option Nat} {N : Nat} {ops : Array Oper} {K : AS → Prop} {s s' : AS}
theorem q66 {fn:Func} {R:AV→List AObj→Prop} (hc:Chg fn.ntmps s s') (h:ARet E fn R s'):ARet E fn R s:=
 ⟨fun B0 w0 G a w hL hI R2 hR2=>let ⟨G1,h1,h2⟩:=hc.run B0 w0 G a w hI;h.run B0 w0 G1 a w hL h2 R2 fun v G' r st' w' hG k1 k2 k3=>hR2 v G' r st' w' (h1.trans hG) k1 k2 k3⟩
theorem q7i (i:Nat) {x r:AV} (hi:s.t i=x) (hw:∀ G v,Rel G x v→Rel G r v):Chg N s ⟨Av.put s.t i r,s.st,s.df⟩:=
 ⟨fun B0 w0 G a w hI=>⟨G,.refl G,hI.agree,hI.defers,hI.size,fun j y hy=>by
  have hj:=hI.tmps j y hy
  by_cases e:j=i
  ·subst e;simp only [wi];rw [hi] at hj;exact hw G y hj
  ·simp only;rw [yh _ _ _ _ e];exact hj⟩⟩
theorem q7h (o:Nat):Chg N s ⟨s.t,s.st.set o .dead,s.df⟩:=⟨fun B0 w0 G a w hI=>⟨G,.refl G,hI.agree.kill o,hI.defers,hI.size,hI.tmps⟩⟩
theorem q1l (i:Nat) {sz o:Nat} {T':TypeId} {xs:List AV} {v:AV} {ob:AObj} (hi:s.t i=v) (hV:Vec sz T' o xs v ob) (ho:s.st[o]? = some ob):Chg N s ⟨Av.put s.t i (.sl sz xs none),s.st.set o .dead,s.df⟩:=by
 cases hV with
 |nil hx=>
  subst hx
  exact (q7i i hi (fun _ _ h=>qa1 h)).trans (q7h o)
 |os ver cap pad hl hw hle hcm=>
  have hm:xs.length * sz≤cap * sz:=Nat.mul_le_mul_right _ hle
  refine⟨fun _ _ _ _ _ hI=>hI.osPub hi ho rfl hle hw (by omega) ?_⟩
  rw [List.drop_zero,List.take_append_of_le_length (by rw [zt hw];exact Nat.le_refl _),List.take_of_length_le (by rw [zt hw];exact Nat.le_refl _)]
theorem qyu (i:Nat) {sz k:Nat} {T':TypeId} {xs:List AV} {v:AV} {ob:AObj} {st loc ext new:List AObj} (hs:s.st=((st++loc)++ext)++new) (hi:s.t i=v) (hV:Vec sz T' (st.length+k) xs v ob) (ho:loc[k]? = some ob):Chg N s ⟨Av.put s.t i (.sl sz xs none),((st++loc.set k .dead)++ext)++new,s.df⟩:=by
 have:=q1l (N:=N) i hi hV (by rw [hs];exact yy ho)
 rw [hs,qc6 _ (lt_of_getElem? ho)] at this
 exact this
theorem qua {rest:List Oper} {d:Option Tmp} {T:TypeId} {p:String} {af:Array Edge} {x y:Operand} {t u T':TypeId} {sz bytes k:Nat} {xs ys:List AV} {tip:Option Nat} {a:AV} {ob:AObj} {st loc ext new:List AObj} (hs:s.st=((st++loc)++ext)++new) (hx:qj N s x=a) (hy:qj N s y = .sl sz ys tip) (hV:Vec sz T' (st.length+k) xs a ob) (ho:loc[k]? = some ob)
  (ht:E.P.underlying t=some (.slice T')) (hu:E.P.underlying u=some (.slice T')) (hT:xb E.P T' sz bytes) (hone:ju (flat ys)=true) (h63:xs.length+ys.length≤maxLen) (hb:(xs.length+ys.length) * bytes≤140737488355328)
  (h:∀ a' ob',Vec sz T' (st.length+k) (xs++ys) a' ob'→AOps E rd N ops rest K (AS.put ⟨s.t,((st++loc.set k ob')++ext)++new,s.df⟩ d a')):AOps E rd N ops (⟨d,.call ⟨.builtin .append,#[x,y],#[t,u]⟩,T,p,af,none⟩::rest) K s:=
 qvg hx hy hV (by rw [hs];exact yy ho) ht hu hT hone h63 hb fun a' ob' hV'=>by rw [hs,qc6 _ (lt_of_getElem? ho)];exact h a' ob' hV'
end
end Go.Av
namespace Go.Proofs.YtmoklbacdkmkaaaGreatDoor
open Go Go.Av Go.RowKit Go.Proofs Go.Pl
theorem q58 (text:List UInt8) (o kb ver n:Nat) (I:Nat→List UInt8→List AObj→Prop) (D:List AObj→Prop) (st l0:List AObj) (ht:text.length<4294967281) (h0:I 0 text l0)
  (hI:∀ k rest l,I k rest l→l.length=n∧(st++l)[kb]? = some (.cells ver 9 [Sv text]))
  (hY:∀ k rest l own ext,I k rest l→rest≠[]→rest.length≤text.length→xx E o [qcy k text rest] (st++(l++own::ext)) fun b st2=>∃ l' ext',st2=st++(l'++own::ext')∧(b=true→I (k+1) (past 10 rest) l')∧(b=false→D l'∧l'.length=n)) :
  qm E 163 [.yd o,.bx kb ver 0] (st++l0) fun r st'=>∃ l own ext',st'=st++(l++own::ext')∧((∃ k,I k [] l)∨D l):=by
 refine qp Tryz.func163 rfl (Nat.le_of_ble_eq_true rfl) ?_
 obtain⟨hn,hb⟩:=hI 0 text l0 h0
 repeat' (first|apply ql|apply qv|apply qe|apply qf|apply qg|(apply ja;exact rfl;exact rfl)|(apply zp;(iterate 11 exact rfl))|(apply vd;(iterate 3 exact rfl))|(apply y9;exact rfl;exact rfl;exact hb;exact rfl;exact rfl))
 refine kh (fun (x:Nat×List UInt8) s=>match x with|(k,rest)=>∃ l at' ta eb ext,I k rest l∧k+rest.length≤text.length∧at'=(text.length:Int) - rest.length∧StA [(0,.yd o),(1,.bx kb ver 0),(3,.bx ((st++l0).length+0) 0 0),(4,Sv rest)] ((st++l)++(.cells 0 181 [Iv k,Iv at',Sv ta,Bv eb]::ext)) [] s) (fun x=>x.2.length) (0,text)
  ⟨l0,0,[],false,[],h0,by simp,by simp,?_⟩ ?_
 ·exact jw ⟨rfl,rfl,rfl,rfl,trivial⟩
 rintro⟨k,rest⟩ _ ⟨l,_,ta,eb,ext,hi,hle,rfl,t,rfl⟩
 obtain⟨hn',hb'⟩:=hI k rest l hi
 have hq:(st++l).length=(st++l0).length:=by simp [hn,hn']
 repeat' (first|apply ql|apply qv|apply qe|apply qf|apply qi|apply qg|(apply za;exact rfl;exact rfl)|(apply jo;(iterate 3 exact rfl))|(apply qc;exact rfl;apply cd_d <;> intro h)|(apply zg;(iterate 3 exact rfl))|apply qs|apply jh|(apply qk;exact Tryz.call96;exact qhg _ _ _ (by omega))|(apply qai;exact rfl;exact hq;(iterate 10 exact rfl))|(apply qbc;exact rfl;exact hq;(iterate 4 exact rfl)))
 ·refine qct rfl (qym (List.append_assoc st l (_::ext)).symm ((hY k rest l _ ext hi h (by omega)).mono ?_))
  rintro b _ ⟨l',ext',rfl,h1,h2⟩
  cases b
  ·skip
   rw [← List.append_assoc]
   repeat' (first|apply qf|(apply z6;exact rfl)|(apply qc;exact rfl;apply qii;exact cRa)|apply qt)
   refine qn rfl (yc rfl) ⟨l',_,ext',List.append_assoc _ _ _,.inr (h2 rfl).1⟩
  ·have hi3:=h1 rfl
   obtain⟨hn3,hb3⟩:=hI _ _ _ hi3
   have hp:=j9 10 rest
   have hr0:0<rest.length:=List.length_pos_iff.2 h
   have hq3:(st++l').length=(st++l0).length:=by simp [hn,hn3]
   rw [← List.append_assoc]
   repeat' (first|apply ql|apply qe|apply qf|apply qi|(apply z6;exact rfl)|(apply qc;exact rfl;apply qmt;exact cRa)|(apply jp;(iterate 3 exact rfl))|(apply zk;exact rfl;exact rfl;exact zb (by omega) (by omega))|(apply qch;exact rfl;exact rfl;exact zb (by omega) (by omega))|(apply zg;(iterate 3 exact rfl))|apply qs|(apply y9;exact rfl;exact rfl;exact hb3;exact rfl;exact rfl)|(apply qai;exact rfl;exact hq3;(iterate 10 exact rfl))|(apply qbc;exact rfl;exact hq3;(iterate 4 exact rfl)))
   exact⟨(k+1,past 10 rest),⟨l',_,_,_,_,hi3,by omega,rfl,jw ⟨rfl,rfl,rfl,rfl,trivial⟩⟩,by simp only;omega⟩
 ·have hr:rest=[]:=Classical.not_not.1 h
  subst hr
  exact qn rfl (yc rfl) ⟨l,_,ext,List.append_assoc _ _ _,.inl ⟨k,hi⟩⟩
theorem qr1 {N:Nat} {Q:Exit→AS→Prop} {s:AS} {f:Operand} {p:Tmp} {asg body:Code} {st loc:List AObj} {kb ver:Nat} (text:List UInt8) (hst:s.st=st++loc) (hx:qj N s f = .fn (.func 163) [] [.bx (st.length+kb) ver 0]) (ht:text.length<4294967281)
  (I:Nat→List UInt8→List AObj→Prop) (D:Code→List AObj→Prop) (h0:I 0 text loc)
  (hI:∀ k rest l,I k rest l→l.length=loc.length∧l[kb]? = some (.cells ver 9 [Sv text])) (hD:∀ c l,D c l→l.length=loc.length)
  (hb:∀ F own rd k rest l ext m,qjv F N s.t #[p] asg body→I k rest l→rest≠[]→rest.length≤text.length→((st++(l++[.dfr,F .ready none,own]))++ext).length=m→((st++(l++[.dfr,F .busy none,own]))++ext).length=m →
   AWp E (some rd) N asg (only fun s1=>∃ new,s1.st=((st++(l++[.dfr,F .ready none,own]))++ext)++new∧s1.df=[]∧AWp E (some rd) N body (q51 F st own (I (k+1) (past 10 rest)) D) ⟨s1.t,((st++(l++[.dfr,F .busy none,own]))++ext)++new,[]⟩) ⟨put s.t p (qcy k text rest),((st++(l++[.dfr,F .ready none,own]))++ext)++[],[]⟩)
  (hn:∀ k l ext,I k [] l→Q .normal ⟨s.t,((st++(l++[.dfr,.dead]))++ext)++[],(st.length+loc.length)::s.df⟩)
  (hd:∀ c l ext,D c l→AWp E none N c Q ⟨s.t,((st++(l++[.dfr,.dead]))++ext)++[],(st.length+loc.length)::s.df⟩):AWp E none N (.rangeFunc f #[p] asg body) Q s:=by
 refine qj1 hst hx Tryz.call163 fun F hF=>?_
 refine qm.mono (q58 text (st.length+(loc.length+1)) (st.length+kb) ver (loc.length+2) (fun k rest l=>∃ l1,l=l1++[.dfr,F .ready none]∧I k rest l1) (fun l=>∃ l1 c,l=l1++[.dfr,F .done (some c)]∧D c l1) st (loc++[.dfr,F .ready none]) ht ⟨loc,rfl,h0⟩ ?_ ?_) ?_
 ·rintro k rest _ ⟨l,rfl,hi⟩
  obtain⟨h1,h2⟩:=hI k rest l hi
  exact⟨by simp [h1],jb (by rw [List.getElem?_append_left (lt_of_getElem? h2)];exact h2)⟩
 ·rintro k rest _ own ext ⟨l,rfl,hi⟩ hne hle
  obtain⟨h1,h2⟩:=hI k rest l hi
  have hy:=q69 (E:=E) (st:=st) (l:=l) (ext:=ext) (own:=own) (n:=loc.length) (xs:=[qcy k text rest]) (I:=I (k+1) (past 10 rest)) (D:=D) hF h1 rfl (fun l hl=>(hI _ _ l hl).1) hD (fun rd=>hb F own rd k rest l ext _ hF hi hne hle rfl (by simp))
  have e:(st++(l++[.dfr,F .ready none,own]))++ext=st++((l++[.dfr,F .ready none])++own::ext):=by simp
  rw [e] at hy
  refine hy.mono ?_
  rintro b st2 ⟨l',ext',g1,g2⟩
  cases b with
  |true=>
   obtain⟨rfl,g⟩:=g1 rfl
   exact⟨l'++[.dfr,F .ready none],ext',by simp,fun _=>⟨l',rfl,g⟩,nofun⟩
  |false=>
   obtain⟨c,rfl,g⟩:=g2 rfl
   exact⟨l'++[.dfr,F .done (some c)],ext',by simp,nofun,fun _=>⟨⟨l',c,rfl,g⟩,by simp [hD c l' g]⟩⟩
 ·rintro r _ ⟨_,own,ext,rfl,⟨k,l,rfl,hi⟩ | ⟨l,c,rfl,hdl⟩⟩
  ·have h1:=(hI _ _ _ hi).1
   have e:st++((l++[.dfr,F .ready none])++own::ext)=(st++(l++[.dfr,F .ready none,own]))++ext:=by simp
   rw [e]
   refine⟨.ready,none,nofun,qcl h1,?_⟩
   rw [qd9 h1]
   have:=hn k l (own::ext) hi
   simpa using this
  ·have h1:=hD _ _ hdl
   have e:st++((l++[.dfr,F .done (some c)])++own::ext)=(st++(l++[.dfr,F .done (some c),own]))++ext:=by simp
   rw [e]
   refine⟨.done,some c,nofun,qcl h1,?_⟩
   rw [qd9 h1]
   have:=hd c l (own::ext) hdl
   simpa using this
abbrev Ss (xs:List qb):AV:=.sl 1 (xs.map fun x=>Sv x) none
theorem qh6 (l m:List UInt8) (st:List AObj):qm E 98 [Sv l,Sv m] st fun r st'=>r=Sv (Lib.trimPrefix l m)∧st'=st:=
 x5 (vals:= #[.string ⟨l.toArray⟩,.string ⟨m.toArray⟩]) rfl fun _ _ w _ _=>(Tryz.strings_TrimPrefix ⟨l.toArray⟩ ⟨m.toArray⟩ w).mono fun _ _ ⟨h1,h2⟩=>⟨h1,qdc h2⟩
theorem q0w (l:List UInt8) (c:UInt8) (st:List AObj):qm E 98 [Sv l,Sv [c]] st fun r st'=>r=Sv (ko c l)∧st'=st:=by
 rw [← qss]
 exact qh6 _ _ _
theorem q28 {B0:Nat} {w0:World} {G:Gh} {st:List AObj} {w:World} (hA:zf B0 w0 G st w) {xs:List qb} {tip:Option Nat} {v:Value} (h:Rel G (.sl 1 (xs.map fun x=>Sv x) tip) v) :
  (xs=[]∧∃ a c,v = .slice a 0 c)∨∃ b off cap,v = .slice (some ⟨b,off,none⟩) xs.length cap∧b<w.heap.size∧xs.length≤cap∧∀ (j:Nat) (x:qb),xs[j]? = some x→w.cell? ⟨b,off+j,none⟩=some (.string ⟨x.toArray⟩):=by
 generalize hq:xs.map (fun x=>Sv x)=q at h
 cases h with
 |sl0 sz tip base cap ht=>exact .inl ⟨by simpa using hq,base,cap,rfl⟩
 |sl _ _ _ b off cap pub hp hw hlen hr ht hcap=>
  subst hq
  obtain⟨c,T,fz,hc,hcc⟩:=hA.pub b pub hp
  refine .inr ⟨b,off,cap,by simp,hA.pub_lt hp,by simpa using hcap,fun j x hx=>?_⟩
  have hfl:flat (xs.map fun x=>Sv x)=xs.map fun x=>Sv x:=by
   clear hx hr hlen hw ht hcap
   induction xs with
   |nil=>rfl
   |cons a xs ih=>rw [List.map_cons,qao,ih];rfl
  have hj:=lt_of_getElem? hx
  rw [hfl] at hlen
  simp only [List.length_map] at hlen
  have hy:pub[off+j]? = some (pub[off+j]'(by omega)):=List.getElem?_eq_getElem (by omega)
  have hrj:=hr j (Sv x) _ (by rw [hfl,List.getElem?_map,hx];rfl) hy
  generalize hz:pub[off+j]'(by omega)=z at hrj hy
  generalize hSx:Sv x=sx at hrj
  cases hrj <;> simp_all
  subst_vars
  simp [World.cell?,hc,hcc _ _ hy]
theorem q4x (xs:List qb) (tip:Option Nat) (sep:qb) (st:List AObj) (hN:xs.length≤140737488355328) (hl:(Lib.join xs sep).length≤140737488355328):qm E 156 [.sl 1 (xs.map fun x=>Sv x) tip,Sv sep] st fun r st'=>r=Sv (Lib.join xs sep)∧st'=st:=by
 refine⟨fun B0 w0 G vs w hL hA hR=>?_⟩
 have hs:vs.size=2:=by have:=hR.1;simpa using this.symm
 have e0:vs[0]? = some vs[0]:=by simp [hs]
 have e1:vs[1]? = some vs[1]:=by simp [hs]
 have h0:=hR.2 0 _ _ rfl e0
 have h1:=hR.2 1 _ _ rfl e1
 have hv1:vs[1] = .string ⟨sep.toArray⟩:=by generalize vs[1]=y at h1;cases h1;rfl
 have hvs:vs = #[vs[0],.string ⟨sep.toArray⟩]:=by
  apply Array.ext (by simp [hs])
  intro i g1 g2
  match i with
  | 0=>rfl
  | 1=>exact hv1
  |i+2=>simp [hs] at g1;omega
 rw [hvs]
 rcases q28 hA h0 with⟨hx,a,c,hv⟩ | ⟨b,off,cap,hv,hb,hcap,hcell⟩
 ·rw [hv]
  subst hx
  refine (Tryz.strings_Join_none a c ⟨sep.toArray⟩ w).mono ?_
  rintro e w' ⟨rfl,rfl⟩
  exact⟨_,G,Sv [],st,rfl,.refl G,hA,.v _,rfl,rfl⟩
 ·rw [hv]
  have hm:(xs.map fun l:qb=>(⟨l.toArray⟩:ByteArray)).map (·.data.toList)=xs:=by simp [List.map_map,Function.comp_def]
  have hc:=Tryz.strings_Join b off cap (xs.map fun l=>⟨l.toArray⟩) ⟨sep.toArray⟩ w (fun j x hx=>by
   rw [List.getElem?_map] at hx
   cases hq:xs[j]? with
   |none=>rw [hq] at hx;simp at hx
   |some y=>rw [hq] at hx;simp at hx;subst hx;exact hcell j y hq) hb (by simpa using hN) (by simpa using hcap) (by rw [hm];simpa using hl)
  rw [hm] at hc
  simp only [List.length_map] at hc
  refine hc.mono ?_
  rintro e w' ⟨rfl,hbw⟩
  exact⟨_,G,Sv _,st,rfl,.refl G,hA.fresh hbw,.v _,rfl,rfl⟩
def Weak (x r:AV):Prop:=∀ (G:Gh) (v:Value),Rel G x v→Rel G r v
theorem qa2 (x:AV):Weak x x:=fun _ _ h=>h
theorem qg2 (sz:Nat) (xs:List AV) (tip:Option Nat):Weak (.sl sz xs tip) (.sl sz xs none):=fun _ _ h=>qix h
theorem qev (sz:Nat):Weak zh (.sl sz [] none):=fun _ _ h=>qa1 h
theorem qds {x y x' y':AV} (h1:Weak x x') (h2:Weak y y'):Weak (.tu [x,y]) (.tu [x',y']):=fun G v h=>by
 cases h with
 |tu _ vs hl hr=>
  refine .tu _ vs hl fun i a b ha hb=>?_
  match i with
  | 0=>simp at ha;subst ha;exact h1 G b (hr 0 x b rfl hb)
  | 1=>simp at ha;subst ha;exact h2 G b (hr 1 y b rfl hb)
  |i+2=>simp at ha
theorem zcf {xs ys:List AV} (hl:xs.length=ys.length) (h:∀ (i:Nat) (x y:AV),xs[i]? = some x→ys[i]? = some y→Weak x y):Weak (.ag xs) (.ag ys):=fun G v hr=>by
 cases hr with
 |ag _ vs hl' hr=>
  refine .ag _ vs (by omega) fun i a b ha hb=>?_
  have hi:=lt_of_getElem? ha
  exact h i _ a (List.getElem?_eq_getElem (by omega)) ha G b (hr i _ b (List.getElem?_eq_getElem (by omega)) hb)
theorem q1d {fn:Func} {s:AS} {t u:Tmp} {x y x' y':AV} (hr:fn.results = #[.tmp t,.tmp u]) (hx:qj fn.ntmps s (.tmp t)=x) (hy:qj fn.ntmps s (.tmp u)=y) (h1:Weak x x') (h2:Weak y y'):ARes E fn s (.tu [x',y']):=
 wb (wc hr) (by rw [hx,hy];exact qds h1 h2)
theorem q1c {fn:Func} {s:AS} {t:Tmp} {x x':AV} (hr:fn.results = #[.tmp t]) (hx:qj fn.ntmps s (.tmp t)=x) (h1:Weak x x'):ARes E fn s x':=
 wb (q9 hr) (by rw [hx];exact h1)
def errN (n:Int):AV:=if n=0 then .v .nilIface else .ifc 76 (Iv n)
theorem qio (n:Int):Pure (errN n):=by
 unfold errN
 split
 ·exact qq _
 ·exact qbx (qq _)
theorem qjj {n:Int} (h:n≠0):errN n = .ifc 76 (Iv n):=if_neg h
theorem qnq (f:FldV) (st:List AObj) (hl:f.1.length<4294967281):qm E 226 [fldA f] st fun r st'=>r=errN (kc f)∧st'=st:=by
 refine qy (qio _) (qp Tryz.func226 rfl (Nat.le_of_ble_eq_true rfl) ?_)
 repeat' (first|apply ql|apply qv|apply qe|apply qf|apply qg|(apply qr;(iterate 3 exact rfl))|(apply z6;exact rfl)|(apply qc;exact rfl;apply cd_n <;> intro h)|(apply qc;exact rfl;apply cd_d <;> intro h)|(apply jp;(iterate 3 exact rfl))|(apply jq;exact rfl;exact rfl)|(apply qa5;(iterate 4 exact rfl))|(apply zg;(iterate 3 exact rfl))|(apply jc;(iterate 5 exact rfl))|apply qs|apply qt|(apply qk;exact Tryz.call215;exact q93 _ _ hl))
 all_goals refine qn rfl (q9 rfl) ⟨(?_:_=_),_,rfl⟩
 ·have e:kc f=5:=if_pos (by simp_all)
  rw [e];rfl
 ·have e:kc f=6:=(if_neg (by simp_all)).trans (if_pos (by omega))
  rw [e];rfl
 ·have e:kc f=0:=(if_neg (by simp_all)).trans (if_neg (by omega))
  rw [e];rfl
theorem qhl (f:FldV) (st:List AObj) (hl:f.1.length<4294967281) (h:kc f=0):qm E 226 [fldA f] st fun r st'=>r = .v .nilIface∧st'=st:=by
 have:=qnq f st hl
 rw [h] at this
 exact this
theorem qhm (f:FldV) (st:List AObj) (hl:f.1.length<4294967281) (h:kc f≠0):qm E 226 [fldA f] st fun r st'=>r = .ifc 76 (Iv (kc f))∧st'=st:=by
 have:=qnq f st hl
 rw [qjj h] at this
 exact this
theorem q6d (s:List UInt8) (st:List AObj) (hl:s.length<4294967281):qm E 230 [Sv s] st fun r st'=>r=Sv (wl s)∧st'=st:=by
 refine qy (qq _) (qp Tryz.func230 rfl (Nat.le_of_ble_eq_true rfl) ?_)
 have hb:Lib.trimS s [32,9]=[]↔qdo s:=by rw [qmo];simp [vu,qdo]
 repeat' (first|apply ql|apply qe|apply qf|apply qi|apply qg|(apply jo;(iterate 3 exact rfl))|(apply qx;(iterate 4 exact rfl))|(apply yn;exact cAo)|(apply ye;exact cAo)|(apply wg <;> intro h)|(apply qo;exact rfl;apply y6;exact cAo)|(apply qo;exact rfl;apply qay;exact cAo)|(apply qc;exact rfl;apply cd_t;exact cRa)|(apply qc;exact rfl;apply cd_d <;> intro h)|(apply jt;exact rfl;exact rfl;exact cOs)|apply qs|apply qt|(apply qk;exact Tryz.call213;exact qsr _ _ _ (by omega) rfl rfl)|(apply qk;exact Tryz.call164;exact qek _ _ _))
 all_goals refine qn rfl (q9 rfl) ⟨congrArg (fun l:qb=>Sv l) (?_:_=wl s),_,rfl⟩
 all_goals unfold wl
 all_goals simp_all
theorem qjq (xs:List qb):Pure (Ss xs):=q5p xs
theorem q26 (l p:qb) (r:List qb) (st:List AObj) (hl:l.length<4294967281) (h:q5 l=p::r):qm E 154 [Sv l,Sv [10]] st fun x st'=>x = .sl 1 (Sv p::r.map fun x=>Sv x) none∧st'=st:=by
 have:=q57 l st hl
 rw [h] at this
 exact this
def qht (f:FldV):AV:=.tu [Ss (if kc f=0 then kr f else []),errN (kc f)]
theorem qy5 (f:FldV):Pure (qht f):=qca fun x hx=>by
 simp only [List.mem_cons,List.not_mem_nil,or_false] at hx
 rcases hx with rfl|rfl
 ·exact qjq _
 ·exact qio _
set_option maxHeartbeats 2000000 in
theorem qnr (f:FldV) (st:List AObj) (hl:f.1.length<4294967281) (hv:f.2.length<1000000):qm E 189 [fldA f] st fun r st'=>r=qht f∧st'=st:=by
 refine qy (qy5 _) (qp Tryz.func189 rfl (Nat.le_of_ble_eq_true rfl) ?_)
 by_cases hc:kc f=0
 ·obtain⟨p,r,hp⟩:∃ p r,q5 f.2=p::r:=⟨_,_,qko f.2⟩
  have hpl:p.length≤f.2.length:=qdg f.2 p (by rw [hp];simp)
  have hrl:∀ x∈r,x.length≤f.2.length:=fun x hx=>qdg f.2 x (by rw [hp];simp [hx])
  have hrn:r.length≤f.2.length:=by have:=qba _ f.2 (Nat.le_refl _);rw [hp] at this;simpa using this
  repeat' (first|(apply w8;(iterate 6 exact rfl))|(apply qsw;(iterate 5 exact rfl);kernel_rfl)|apply ql|apply qv|apply qe|apply qf|apply qi|apply qg|(apply jo;(iterate 3 exact rfl))|(apply qc;exact rfl;apply cd_f;exact cRa)|(apply qc;exact rfl;apply cd_d <;> intro h)|(apply zr;(iterate 4 exact rfl))|(apply jt;exact rfl;exact rfl;exact cOs)|(apply vb;exact rfl;exact rfl)|(apply qa5;(iterate 4 exact rfl))|(apply zg;(iterate 3 exact rfl))|(apply zo;(iterate 3 exact rfl))|(apply jc;(iterate 5 exact rfl))|(apply zp;(iterate 11 exact rfl))|(apply qex;(iterate 4 exact rfl);(first|assumption|omega|exact Nat.succ_le_succ (Nat.zero_le _)|(simp;omega));exact rfl)|apply qfq|(apply qlq;exact rfl;exact rfl;exact cOs)|(apply qgi;(iterate 3 exact rfl))|(apply qnf;(iterate 5 exact rfl))|apply qdw|apply qs|(apply qk;exact Tryz.call226;exact qhl _ _ hl hc)|(apply qk;exact Tryz.call154;exact q26 _ _ _ _ (by omega) hp)|(apply zw (n:=0);(iterate 6 exact rfl))|(apply qci (n:=0);(iterate 6 exact rfl))|(apply qie (n:=0);(iterate 5 exact rfl);omega))
  all_goals refine qlt 6 (o:=st.length+1) (sz:=1) (len:=1) (cap:=1) (xs:=[Sv (kv f.1 p)]) (T':=9) rfl (jb rfl) rfl rfl (by omega) (Nat.le_refl _) (by decide) (by simp [AV.cells]) ?_ ?_
  ·exact congrArg (fun l:qb=>[Sv l]) (by unfold kv;rw [if_neg h]:kv f.1 p=f.1++[58]++([32]++p))
  rotate_left
  ·exact congrArg (fun l:qb=>[Sv l]) (by unfold kv;rw [if_pos (Classical.not_not.1 h),List.append_nil]:kv f.1 p=f.1++[58])
  all_goals
   have hre:qht f = .tu [Ss (kv f.1 p::r.map fun s=>[32]++wl s),.v .nilIface]:=by
    unfold qht kr
    rw [if_pos hc,hc,hp]
    rfl
   rw [hre]
   have hst:∀ s,(wl s).length≤s.length+1:=qmn
   refine xu r (fun pre s=>StE [(6,.sl 1 (Sv (kv f.1 p)::pre.map (fun s=>Sv ([32]++wl s))) (some (st.length+1))),(35,.sl 1 (r.map fun x=>Sv x) none),(36,Iv r.length),(37,Iv pre.length)] st [.cells 0 156 [Sv f.1,Sv f.2],.tip (pre.length+1) 1 9] s) (qbg ⟨rfl,rfl,congrArg (fun n:Nat=>Iv (n:Int)) (List.length_map ..),rfl,trivial⟩ (wp st _ 1 _)) ?_ ?_
   ·rintro _ ⟨t,ext,rfl⟩
    repeat' (first|apply ql|apply qe|apply qf|apply qi|apply qg|(apply qr;(iterate 3 exact rfl))|(apply qc;exact rfl;apply vo;exact cAo)|apply jh|apply qt)
    refine qn rfl (q1d rfl rfl rfl (qg2 _ _ _) (qa2 _)) ⟨?_,wx _ _ _ _⟩
    simp only [Ss,List.map_cons,List.map_map]
    rfl
   ·rintro pre a rest _ hr ⟨t,ext,rfl⟩
    have hlen:r.length=pre.length+(rest.length+1):=by rw [hr];simp
    have hget:(r.map fun x=>Sv x)[pre.length]? = some (Sv a):=by rw [hr];simp
    have ha:a.length≤f.2.length:=hrl a (by rw [hr];simp)
    have hsa:=hst a
    repeat' (first|apply ql|apply qv|apply qe|apply qf|apply qi|apply qg|(apply qr;(iterate 3 exact rfl))|(apply qc;exact rfl;apply km;exact cAo)|(apply jt;exact rfl;exact rfl;exact cOs)|(apply zk;exact rfl;exact rfl;exact zb (by omega) (by omega))|(apply zo;(iterate 3 exact rfl))|(apply j7;(iterate 9 exact rfl))|apply qs|(apply qk;exact Tryz.call230;exact q6d _ _ (by omega))|(apply zw (n:=pre.length);(iterate 5 exact rfl);exact hget)|(apply yi (n:=pre.length+1) (m:=1) (sz:=1) (bytes:=16);(iterate 4 exact rfl);simp;exact rfl;exact rfl;exact⟨⟨_,_,rfl,rfl,rfl,rfl,rfl⟩⟩;exact rfl;exact rfl;(unfold maxLen;omega);omega;exact rfl))
    refine xf ⟨?_,rfl,rfl,?_,trivial⟩ ?_
    ·exact qh3 _ (fun s=>Sv ([32]++wl s)) pre a _ rfl
    ·exact qd1 pre a
    ·rw [xl pre a];rfl
 ·skip
  repeat' (first|apply ql|apply qe|apply qf|apply qi|apply qg|(apply qc;exact rfl;apply cd_t;exact cRa)|(apply vz;exact rfl;exact rfl)|(apply qa5;(iterate 4 exact rfl))|(apply jc;(iterate 5 exact rfl))|apply qt|(apply qk;exact Tryz.call226;exact qhm _ _ hl hc))
  refine qn rfl (wb (r':=.tu [Ss [],.ifc 76 (Iv (kc f))]) (wc rfl) (qds (qev _) (qa2 _))) ⟨?_,_,rfl⟩
  unfold qht
  rw [if_neg hc,qjj hc]
theorem qfd {rd:Option Nat} {N:Nat} {ops:Array Oper} {K:AS→Prop} {s:AS} {rest:List Oper} {d:Option Tmp} {T:TypeId} {p:String} {af:Array Edge} {st loc:List AObj} (hst:s.st=st++loc)
  (h:AOps E rd N ops rest K (AS.put ⟨s.t,st++(loc++[bldO 0 (.v (.pointer none)) [] (st.length+(loc.length+1)),.tip 0 1 5]),s.df⟩ d (.bx (st.length+loc.length) 0 0))):AOps E rd N ops (⟨d,.alloc 219,T,p,af,none⟩::rest) K s:=by
 refine ja hst rfl ?_
 have e:∀ (t:Nat→AV) (st':List AObj) (df:List Nat) (x:AV),(AS.put ⟨t,st',df⟩ d x).st=st':=fun t st' df x=>by cases d <;> rfl
 have e2:∀ (t:Nat→AV) (st' st2:List AObj) (df:List Nat) (x:AV),(⟨(AS.put ⟨t,st',df⟩ d x).t,st2,(AS.put ⟨t,st',df⟩ d x).df⟩:AS)=AS.put ⟨t,st2,df⟩ d x:=fun t st' st2 df x=>by cases d <;> rfl
 refine qvl (o:=st.length+loc.length) (j:=1) (sz:=1) (T':=5) (T1:=219) (ver:=0) (cs:=[.v (.pointer none),zh]) ?_ rfl ?_
 ·rw [e,← List.append_assoc,List.getElem?_append_right (by simp)]
  simp
  rfl
 ·rw [e,e2]
  have hx:(st++(loc++[AObj.cells 0 219 [.v (.pointer none),zh]])).set (st.length+loc.length) (.cells 0 219 ([AV.v (.pointer none),zh].set 1 (.sl 1 [] (some (st++(loc++[AObj.cells 0 219 [.v (.pointer none),zh]])).length))))++[AObj.tip 0 1 5]
    = st++(loc++[bldO 0 (.v (.pointer none)) [] (st.length+(loc.length+1)),.tip 0 1 5]):=by
   rw [wp,List.append_assoc,List.set_append_right _ _ (Nat.le_refl _)]
   simp
  have h':=h
  rw [← hx] at h'
  exact h'
theorem qgk (st loc ext new loc':List AObj) (k kt ver:Nat) (q:AV) (l m:List UInt8) (hk:loc[k]? = some (bldO ver q l (st.length+kt))) (hkt:loc[kt]? = some (.tip l.length 1 5)) (hq:q = .v (.pointer none)∨q = .bx (st.length+k) ver 0)
  (hlen:l.length+m.length≤140737488355328) (hl:loc'=(loc.set k (bldO ver (.bx (st.length+k) ver 0) (l++m) (st.length+kt))).set kt (.tip (l++m).length 1 5)) :
  qm E 136 [.bx (st.length+k) ver 0,Sv m] (((st++loc)++ext)++new) fun r st'=>r = .tu [Iv m.length,.v .nilIface]∧st'=((st++loc')++ext)++new:=by
 refine (qvr (st.length+k) ver (st.length+kt) q l m _ (yy hk) (yy hkt) hq hlen).mono fun r st' ⟨h1,h2⟩=>⟨h1,?_⟩
 have hk1:=lt_of_getElem? hk
 have hk2:=lt_of_getElem? hkt
 rw [h2,qc6 _ hk1,qc6 _ (by simpa using hk2),hl,List.length_append]
theorem qfe (st loc ext new loc':List AObj) (k kt ver:Nat) (q:AV) (l:List UInt8) (hk:loc[k]? = some (bldO ver q l (st.length+kt))) (hkt:loc[kt]? = some (.tip l.length 1 5)) (hl:loc'=loc.set kt .dead) :
  qm E 139 [.bx (st.length+k) ver 0] (((st++loc)++ext)++new) fun r st'=>r=Sv l∧st'=((st++loc')++ext)++new:=by
 refine (qsy (st.length+k) ver (st.length+kt) q l _ (yy hk) (yy hkt)).mono fun r st' ⟨h1,h2⟩=>⟨h1,?_⟩
 rw [h2,qc6 _ (lt_of_getElem? hkt),hl]
theorem qo3:∀ (r:List qb),(zi (r.map fun s=>[32]++wl s)).length≤3 * (r.flatMap fun s=>[10]++s).length
 | []=>by simp [zi]
 |a::r=>by
  have ih:=qo3 r
  have:=qmn a
  simp only [zi,List.map_cons,List.flatMap_cons,List.length_append,List.length_cons,List.length_nil] at ih ⊢
  omega
theorem xg (a b:List qb):zi (a++b)=zi a++zi b:=by simp [zi]
theorem qeb (s:qb):zi [s]=s++[10]:=by simp [zi]
theorem qjc:∀ (l:List qb),l.length≤(zi l).length
 | []=>by simp
 |a::r=>by
  have ih:=qjc r
  simp only [zi,List.flatMap_cons,List.length_append,List.length_cons,List.length_nil] at ih ⊢
  omega
theorem qtg (a b:List Fld):zx (a++b)=zx a++zx b:=by simp [zx]
theorem qth (f:Fld):zx [f]=zi (kr f):=by simp [zx]
theorem qqt {f:Fld} (h:vi f):(zi (kr f)).length≤5000:=by
 obtain⟨hk,hv⟩:=h
 have h1:=qo3 (q5 f.2).tail
 have h2:=congrArg List.length (qkp _ f.2 (Nat.le_refl _))
 have h3:(kv f.1 ((q5 f.2).headD [])).length≤32+2+((q5 f.2).headD []).length:=by
  have:=hk.2.1
  unfold kv
  split <;> simp <;> omega
 have e:kr f=[kv f.1 ((q5 f.2).headD [])]++(q5 f.2).tail.map fun s=>[32]++wl s:=rfl
 rw [e,xg,qeb]
 simp only [List.length_append,List.length_cons,List.length_nil] at h2 ⊢
 omega
theorem qfw:∀ (xs:List Fld),(∀ f∈xs,vi f)→(zx xs).length≤5000 * xs.length
 | [],_=>by simp [zx]
 |f::r,h=>by
  have ih:=qfw r fun x hx=>h x (by simp [hx])
  have h1:=qqt (h f (by simp))
  have e:zx (f::r)=zi (kr f)++zx r:=by simp [zx]
  rw [e,List.length_append,List.length_cons]
  omega
def errF:List Fld→Int
 | []=>0
 |f::r=>if kc f≠0 then kc f else errF r
theorem ql1:∀ (xs:List Fld),errF xs=0↔∀ f∈xs,vi f
 | []=>by simp [errF]
 |f::r=>by
  have ih:=ql1 r
  unfold errF
  by_cases h:kc f≠0
  ·rw [if_pos h]
   have hg:¬ vi f:=fun hg=>h ((qb7 f).2 hg)
   simp [h,hg]
  ·have hg:=(qb7 f).1 (Classical.not_not.1 h)
   rw [if_neg h,ih]
   simp [hg]
theorem qz7:∀ {pre:List Fld} {f:Fld} {r:List Fld},(∀ x∈pre,vi x)→kc f≠0→errF (pre++f::r)=kc f
 | [],f,r,_,h=>by simp [errF,h]
 |x::pre,f,r,hp,h=>by
  have:=(qb7 x).2 (hp x (by simp))
  simp only [List.cons_append,errF,this]
  rw [if_neg (by simp)]
  exact qz7 (fun y hy=>hp y (by simp [hy])) h
theorem qwf (f:FldV) (st:List AObj) (hl:f.1.length<4294967281) (hv:f.2.length<1000000) (h:kc f=0):qm E 189 [fldA f] st fun r st'=>r = .tu [Ss (kr f),.v .nilIface]∧st'=st:=by
 have:=qnr f st hl hv
 unfold qht at this
 rw [if_pos h,h] at this
 exact this
theorem qwg (f:FldV) (st:List AObj) (hl:f.1.length<4294967281) (hv:f.2.length<1000000) (h:kc f≠0):qm E 189 [fldA f] st fun r st'=>r = .tu [Ss [],.ifc 76 (Iv (kc f))]∧st'=st:=by
 have:=qnr f st hl hv
 unfold qht at this
 rw [if_neg h,qjj h] at this
 exact this
def qqg (xs:List Fld):AV:=.tu [Sv (if errF xs=0 then zx xs else []),errN (errF xs)]
theorem q14 (xs:List Fld):Pure (qqg xs):=qca fun x hx=>by
 simp only [List.mem_cons,List.not_mem_nil,or_false] at hx
 rcases hx with rfl|rfl
 ·exact qq _
 ·exact qio _
structure quu (xs:List FldV):Prop where
 len:xs.length<1000000
 val:∀ f∈xs,f.1.length<4294967281∧f.2.length<1000000
set_option maxHeartbeats 2000000 in
theorem zc1 (xs:List FldV) (st:List AObj) (hx:quu xs):qm E 135 [zz xs] st fun r st'=>r=qqg xs∧st'=st:=by
 refine qy (q14 _) (qp Tryz.func135 rfl (Nat.le_of_ble_eq_true rfl) ?_)
 have hxl:=hx.len
 repeat' (first|(apply qfd;exact rfl)|apply ql|apply qv|apply qe|apply qf|apply qi|apply qg|(apply zr;(iterate 4 exact rfl)))
 refine xu xs (fun pre s=>(∀ f∈pre,vi f)∧∃ q,(q = .v (.pointer none)∨q = .bx (st.length+0) 0 0)∧StE [(4,.bx (st.length+0) 0 0),(11,zz xs),(12,Iv xs.length),(13,Iv pre.length)] st [bldO 0 q (zx pre) (st.length+1),.tip (zx pre).length 1 5] s) ⟨by simp,_,.inl rfl,qbg ⟨rfl,rfl,congrArg (fun n:Nat=>Iv (n:Int)) (List.length_map ..),rfl,trivial⟩ rfl⟩ ?_ ?_
 ·rintro _ ⟨hg,q,hq,t,ext,rfl⟩
  repeat' (first|apply ql|apply qe|apply qf|apply qg|(apply qr;(iterate 3 exact rfl))|(apply qc;exact rfl;apply vo;exact cAo)|apply jh|apply qt|(refine qk Tryz.call139 (qfe st _ _ _ _ 0 1 0 _ _ rfl rfl rfl) ?_))
  refine qn rfl (wc rfl) ⟨?_,wx _ _ _ _⟩
  unfold qqg
  have h0:=(ql1 xs).2 hg
  rw [if_pos h0,h0]
  rfl
 ·rintro pre f rest _ hr ⟨hg,q,hq,t,ext,rfl⟩
  have hlen:xs.length=pre.length+(rest.length+1):=by rw [hr];simp
  have hget:(xs.map fldA)[pre.length]? = some (fldA f):=by rw [hr];simp
  obtain⟨hf1,hf2⟩:=hx.val f (by rw [hr];simp)
  by_cases hc:kc f=0
  ·have hgf:=(qb7 f).1 hc
   have hb1:=qfw pre hg
   have hb2:=qqt hgf
   repeat' (first|apply ql|apply qv|apply qe|apply qf|apply qi|apply qg|(apply za;exact rfl;exact rfl)|(apply qr;(iterate 3 exact rfl))|(apply qc;exact rfl;apply km;exact cAo)|(apply qc;exact rfl;apply cd_f;exact cRa)|(apply zr;(iterate 4 exact rfl))|(apply vb;exact rfl;exact rfl)|(apply ja;exact rfl;exact rfl)|(apply zo;(iterate 3 exact rfl))|(apply jc;(iterate 5 exact rfl))|(apply zp;(iterate 11 exact rfl))|apply qs|(apply qk;exact Tryz.call189;exact qwf _ _ hf1 hf2 hc)|(apply zw (n:=pre.length);(iterate 5 exact rfl);exact hget))
   refine xu (kr f) (fun lp s=>∃ q,(q = .v (.pointer none)∨q = .bx (st.length+0) 0 0)∧StE [(4,.bx (st.length+0) 0 0),(11,zz xs),(12,Iv xs.length),(13,Iv pre.length),(25,Ss (kr f)),(26,Iv (kr f).length),(27,Iv lp.length)] st [bldO 0 q (zx pre++zi lp) (st.length+1),.tip (zx pre++zi lp).length 1 5] s) ⟨_,hq,xf ⟨rfl,rfl,rfl,rfl,rfl,congrArg (fun n:Nat=>Iv (n:Int)) (List.length_map ..),rfl,trivial⟩ (by simp [zi])⟩ ?_ ?_
   ·rintro _ ⟨q,hq,t,ext,rfl⟩
    repeat' (first|apply ql|apply qe|apply qf|apply qi|(apply qr;(iterate 3 exact rfl))|(apply qc;exact rfl;apply vo;exact cAo)|(apply zk;exact rfl;exact rfl;exact zb (by omega) (by omega))|apply jh)
    refine⟨fun x hx=>?_,q,hq,xf ⟨rfl,rfl,rfl,?_,trivial⟩ ?_⟩
    ·rcases List.mem_append.1 hx with hx|hx
     ·exact hg x hx
     ·simp at hx;subst hx;exact hgf
    ·rw [xl pre f];rfl
    ·rw [qtg,qth]
   ·rintro lp a lr _ hlr ⟨q,hq,t,ext,rfl⟩
    have hlen2:(kr f).length=lp.length+(lr.length+1):=by rw [hlr];simp
    have hget2:((kr f).map fun x=>Sv x)[lp.length]? = some (Sv a):=by rw [hlr];simp
    have hb3:(zi lp).length+(a.length+1)≤5000:=by
     rw [hlr,xg] at hb2
     have:a::lr=[a]++lr:=rfl
     rw [this,xg,qeb] at hb2
     simp only [List.length_append,List.length_cons,List.length_nil] at hb2
     omega
    have hct:=qjc lp
    repeat' (first|apply ql|apply qv|apply qe|apply qf|apply qi|apply qg|(apply qr;(iterate 3 exact rfl))|(apply qc;exact rfl;apply km;exact cAo)|(apply jt;exact rfl;exact rfl;exact cOs)|(apply zo;(iterate 3 exact rfl))|apply qs|(apply zw (n:=lp.length);(iterate 5 exact rfl);exact hget2))
    refine qk Tryz.call136 (qgk st _ _ _ _ 0 1 0 _ _ _ rfl rfl ?_ ?_ rfl) ?_;(exact hq);(simp only [List.length_append,List.length_cons,List.length_nil];omega)
    repeat' (first|apply qe|apply qf|apply qi|(apply zk;exact rfl;exact rfl;exact zb (by omega) (by omega)))
    refine⟨_,.inr rfl,xf ⟨rfl,rfl,rfl,rfl,rfl,rfl,?_,trivial⟩ ?_⟩
    ·rw [xl lp a];rfl
    ·have e:zx pre++zi (lp++[a])=(zx pre++zi lp)++(a++[10]):=by rw [xg,qeb,List.append_assoc]
     rw [e];rfl
  ·skip
   repeat' (first|apply ql|apply qv|apply qe|apply qf|apply qi|apply qg|(apply za;exact rfl;exact rfl)|(apply qr;(iterate 3 exact rfl))|(apply qc;exact rfl;apply km;exact cAo)|(apply qc;exact rfl;apply cd_t;exact cRa)|(apply vz;exact rfl;exact rfl)|(apply ja;exact rfl;exact rfl)|(apply zo;(iterate 3 exact rfl))|(apply jc;(iterate 5 exact rfl))|(apply zp;(iterate 11 exact rfl))|apply qs|apply qt|(apply qk;exact Tryz.call189;exact qwg _ _ hf1 hf2 hc)|(apply zw (n:=pre.length);(iterate 5 exact rfl);exact hget))
   refine qn rfl (wc rfl) ⟨?_,wx _ _ _ _⟩
   unfold qqg
   have h0:errF xs=kc f:=by rw [hr];exact qz7 hg hc
   rw [h0,if_neg hc,qjj hc]
   rfl
theorem qtu:∀ (n:Nat) (l:qb),l.length≤n→q5 (l++[10])=q5 l++[[]]
 |n,l,hn=>by
  by_cases h:10∈l
  ·have hne:l≠[]:=fun e=>by subst e;simp at h
   have hlt:=wo (c:=10) hne
   cases n with
   |zero=>omega
   |succ n=>
    have ih:=qtu n (past 10 l) (by omega)
    have e:=xw h
    have e2:l++[10]=upto 10 l++10::(past 10 l++[10]):=(congrArg (· ++ [10]) e).trans (by simp)
    rw [xi (by simp [h]),xi h,e2,yp _ (qaw 10 l),qa7 _ (qaw 10 l),ih]
    rfl
  ·rw [xi (by simp),xj h,yp [] h,qa7 [] h]
   rw [xj (by simp)]
   rfl
theorem qgw:∀ (n:Nat) (l:qb) (c:UInt8),l.length≤n→c≠10→q5 (l++[c])=(q5 l).set ((q5 l).length - 1) ((q5 l).getD ((q5 l).length - 1) []++[c])
 |n,l,c,hn,hc=>by
  by_cases h:10∈l
  ·have hne:l≠[]:=fun e=>by subst e;simp at h
   have hlt:=wo (c:=10) hne
   cases n with
   |zero=>omega
   |succ n=>
    have ih:=qgw n (past 10 l) c (by omega) hc
    have e:=xw h
    have e2:l++[c]=upto 10 l++10::(past 10 l++[c]):=(congrArg (· ++ [c]) e).trans (by simp)
    have hp:=qer (past 10 l)
    have hpl:0<(q5 (past 10 l)).length:=List.length_pos_iff.2 hp
    rw [xi (by simp [h]),xi h,e2,yp _ (qaw 10 l),qa7 _ (qaw 10 l),ih]
    have e3:(upto 10 l::q5 (past 10 l)).length - 1=(q5 (past 10 l)).length - 1+1:=by simp;omega
    rw [e3,List.set_cons_succ]
    simp
  ·have h2:10∉l++[c]:=by simp [h,Ne.symm hc]
   rw [xj h,xj h2]
   simp
theorem qzc (l:qb):(q5 l).length≤l.length+1:=qba _ l (Nat.le_refl _)
theorem q6c (xs:List qb):flat (xs.map fun x=>Sv x)=xs.map fun x=>Sv x:=by
 induction xs with
 |nil=>rfl
 |cons a xs ih=>rw [List.map_cons,qao,ih];rfl
set_option maxHeartbeats 2000000 in
theorem q21 (l:qb) (st:List AObj) (hl:l.length<1000000):qm E 260 [Sv l] st fun r st'=>r=Ss (q5 l)∧st'=st:=by
 refine qy (qjq _) (qp Tryz.func260 rfl (Nat.le_of_ble_eq_true rfl) ?_)
 have h0:Vec 1 9 (st.length+0) ((q5 []).map fun x=>Sv x) (.os (st.length+0) 0 0 1 1) (.cells 0 9 [Sv []]):=by
  rw [xj (by simp)]
  exact .os 0 1 [] rfl (by simp [AV.cells]) (Nat.le_refl _) (by decide)
 repeat' (first|(apply w8;(iterate 6 exact rfl))|apply ql|apply qv|apply qe|apply qf|apply qg)
 refine xu l (fun pre s=>∃ v ob,Vec 1 9 (st.length+0) ((q5 pre).map fun x=>Sv x) v ob∧StE [(0,Sv l),(3,v),(4,Iv pre.length)] st [ob] s) ⟨_,_,h0,qbg ⟨rfl,rfl,rfl,trivial⟩ rfl⟩ ?_ ?_
 ·rintro _ ⟨v,ob,hV,t,ext,rfl⟩
  repeat' (first|apply ql|apply qe|apply qf|apply qi|apply qg|(apply qr;(iterate 3 exact rfl))|(apply qc;exact rfl;apply vo;exact cAo)|(apply jp;(iterate 3 exact rfl))|apply jh|apply qt)
  exact q66 (qyu 2 rfl rfl hV rfl) (qn rfl (q9 rfl) ⟨rfl,wx _ _ _ _⟩)
 ·rintro pre c rest _ hr ⟨v,ob,hV,t,ext,rfl⟩
  have hlen:l.length=pre.length+(rest.length+1):=by rw [hr];simp
  have hget:l.getD pre.length 0=c:=by rw [hr];simp
  have hsp:(l.take (pre.length+1)).drop pre.length=[c]:=by rw [hr,show pre++c::rest=(pre++[c])++rest by simp,List.take_left' (by simp),List.drop_left' rfl]
  have hpc:=qzc pre
  rcases q6o hV with⟨h0,_⟩ | ⟨ver,cap,pad,rfl,rfl,hvl,hvw,hvle,hvm⟩
  ·exact absurd (List.map_eq_nil_iff.1 h0) (qer pre)
  simp only [List.length_map] at hvle
  have hpos:0<(q5 pre).length:=List.length_pos_iff.2 (qer pre)
  have hml:((q5 pre).map fun x=>Sv x).length=(q5 pre).length:=by simp
  have hpl:((q5 pre).getD ((q5 pre).length - 1) []).length≤pre.length:=by
   have hlt:(q5 pre).length - 1<(q5 pre).length:=by omega
   have e:(q5 pre).getD ((q5 pre).length - 1) []=(q5 pre)[(q5 pre).length - 1]:=by simp [List.getD,hlt]
   rw [e]
   exact qdg pre _ (List.getElem_mem _)
  have hdl:((l.take (pre.length+1)).drop pre.length).length=1:=by rw [hsp];rfl
  have hld:(flat ((q5 pre).map fun x=>Sv x)++pad)[0+((q5 pre).length - 1) * 1]? = some (Sv ((q5 pre).getD ((q5 pre).length - 1) [])):=by
   rw [q6c,Nat.zero_add,Nat.mul_one,List.getElem?_append_left (by simp;omega),List.getElem?_map]
   have:(q5 pre)[(q5 pre).length - 1]? = some ((q5 pre).getD ((q5 pre).length - 1) []):=by
    have:(q5 pre).length - 1<(q5 pre).length:=by omega
    simp [List.getD,this]
   rw [this]
   rfl
  repeat' (first|(apply qsw;(iterate 5 exact rfl);kernel_rfl)|apply ql|apply qv|apply qe|apply qf|apply qi|(apply qr;(iterate 3 exact rfl))|(apply qc;exact rfl;apply km;exact cAo)|(apply qc;exact rfl;apply cd_d <;> intro h)|(apply jp;(iterate 3 exact rfl))|(apply ym;(iterate 3 exact rfl);exact cAs)|(apply j7;(iterate 9 exact rfl))|apply qfq|(apply qzx;(iterate 4 exact rfl))|(apply q3q;exact rfl;exact rfl;exact zb (by omega) (by omega))|(apply qzz;(iterate 4 exact rfl);exact cAs;exact cAs)|(apply qlq;exact rfl;exact rfl;exact cOs)|apply qdw|(apply qvm;exact rfl;exact rfl;exact zb (by omega) (by omega))|apply qs|(apply qie (n:=(q5 pre).length - 1);(iterate 4 exact rfl);(simp;omega);(simp;omega))|(apply qng;(iterate 4 exact rfl);exact hld))
  ·refine qua (xs:=(q5 pre).map fun x=>Sv x) (ys:=[Sv []]) (sz:=1) (bytes:=16) rfl rfl rfl hV rfl rfl rfl ⟨⟨_,_,rfl,rfl,rfl,rfl,rfl⟩⟩ rfl ?_ ?_ ?_
   ·simp [maxLen];omega
   ·simp;omega
   intro a' ob' hV'
   repeat' (first|apply qe|apply qf|apply qi|apply qg|(apply zk;exact rfl;exact rfl;exact zb (by omega) (by omega)))
   have hc:c=10:=by rw [hget] at h;exact (qeu c).1 h
   refine⟨a',ob',?_,xf ⟨rfl,rfl,?_,trivial⟩ rfl⟩
   ·rw [hc,qtu _ pre (Nat.le_refl _),List.map_append]
    exact hV'
   ·rw [xl pre c];rfl
  ·refine qpo (k:=0) (sz:=1) rfl rfl rfl rfl rfl rfl rfl rfl rfl (by show 0+((q5 pre).length - 1) * 1+1≤_;rw [hvl];omega) ?_
   repeat' (first|apply qe|apply qf|apply qi|apply qg|(apply zk;exact rfl;exact rfl;exact zb (by omega) (by omega)))
   have hc:c≠10:=fun e=>by rw [hget] at h;exact h ((qeu c).2 e)
   refine⟨_,_,?_,xf ⟨rfl,rfl,?_,trivial⟩ rfl⟩
   ·rw [qgw _ pre c (Nat.le_refl _) hc,← hsp]
    have:=zce (o:=st.length+0) (T:=9) (ver:=ver) (sz:=1) hvl hvw (by simpa using hvle) hvm (i:=(q5 pre).length - 1) (x:=Sv ((q5 pre).getD ((q5 pre).length - 1) []++(l.take (pre.length+1)).drop pre.length)) rfl (by simp;omega)
    rw [← List.map_set] at this
    exact this
   ·rw [xl pre c];rfl
end Go.Proofs.YtmoklbacdkmkaaaGreatDoor
