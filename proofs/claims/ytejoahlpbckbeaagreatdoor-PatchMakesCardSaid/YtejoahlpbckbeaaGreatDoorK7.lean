/- Contracts and plain facts that the closing text leans on (part 7). No condition of their own beyond those that each states. -/
import Derived.Test.YtejoahlpbckbeaaGreatDoorK6
set_option maxRecDepth 100000
set_option linter.unusedVariables false
set_option linter.unusedSimpArgs false
namespace Go.Pl
open Go Go.Proofs Go.Proofs.YtejoahlpbckbeaaGreatDoor
def trL (ls:List qc):List (qc×Bool):=ls.map fun s=>(s,true)
def now0:qu:=⟨2,[],[]⟩
def blkR:Bool→qu→List qc→Option qu
 | _,now,[]=>some now
 |prev,now,t::r=>
  if jf prev t true (trL r) now.fields.length 0≠0∨qm t=1 then none
  else if qm t=4 then blkR true ⟨3,now.raw++t++[10],now.fields++[(ja (t::j5 (trL r))).1]⟩ r
  else blkR (decide (qm t=3)) ⟨now.kind,now.raw++t++[10],now.fields⟩ r
def qr7:List (qc×Bool)→Prop
 | []=>True
 |(t,_)::_=>qm t=1
theorem qf4:∀ (ls:List qc) (rest:List (qc×Bool)),qr7 rest→j5 (trL ls++rest)=j5 (trL ls)
 | [],[],_=>rfl
 | [],(t,e)::r,h=>by
  have h:qm t=1:=h
  show (if qm t=3 then _ else _)=_
  rw [if_neg (by omega)]
  rfl
 |t::r,rest,h=>by
  show (if qm t=3 then t::j5 (trL r++rest) else [])=(if qm t=3 then t::j5 (trL r) else [])
  rw [qf4 r rest h]
theorem qik (prev:Bool) (t:qc) (ls:List qc) (rest:List (qc×Bool)) (n:Nat) (rec:Int) (h:qr7 rest):jf prev t true (trL ls++rest) n rec=jf prev t true (trL ls) n rec:=by
 unfold jf
 rw [qf4 ls rest h]
theorem q32 {prev:Bool} {t:qc} {L:List (qc×Bool)} {n:Nat} {rec:Int} (h:jf prev t true L n 0=0) (hr:qm t=4→n=0→rec<400):jf prev t true L n rec=0:=by
 unfold jf at h ⊢
 split
 ·rename_i h1;rw [if_pos h1] at h;exact h
 ·rename_i h1
  rw [if_neg h1] at h
  split
  ·rfl
  ·rename_i h4
   rw [if_neg h4] at h
   split
   ·rename_i hu;rw [if_pos hu] at h;exact h
   ·rename_i hu
    rw [if_neg hu] at h
    have h4:=Classical.not_not.1 h4
    rw [if_neg]
    intro hh
    rcases hh with hh|hh
    ·rw [if_pos (.inl hh)] at h;omega
    ·have:=hr h4 hh.1;omega
theorem qou {prev:Bool} {t:qc} {e:Bool} {L:List (qc×Bool)} {n:Nat} {rec:Int} (h:jf prev t e L n rec=0):jf prev t e L n 0=0:=by
 unfold jf at h ⊢
 split
 ·rename_i h1;rw [if_pos h1] at h;exact h
 ·rename_i h1
  rw [if_neg h1] at h
  split
  ·rfl
  ·rename_i h4
   rw [if_neg h4] at h
   split
   ·rename_i hu;rw [if_pos hu] at h;exact h
   ·rename_i hu
    rw [if_neg hu] at h
    rw [if_neg]
    intro hh
    rcases hh with hh|hh
    ·rw [if_pos (.inl hh)] at h;omega
    ·omega
theorem q31 {prev:Bool} {t:qc} {e:Bool} {L:List (qc×Bool)} {n:Nat} {rec:Int} (h:jf prev t e L n rec=0):e=true∧10∉t:=by
 unfold jf at h
 split at h
 ·omega
 ·rename_i h1
  refine⟨by cases e with|true=>rfl|false=>exact absurd (.inr (.inr rfl)) h1,fun h10=>h1 (.inl ?_)⟩
  unfold qm
  rw [if_pos h10]
theorem qlg {prev:Bool} {t:qc} {L:List (qc×Bool)} {n:Nat} {rec:Int} (h:qm t=1):jf prev t true L n rec=0:=by
 unfold jf
 rw [if_neg (by simp [h]),if_pos (by omega)]
theorem qfr:∀ (ls:List qc) (prev:Bool) (now x:qu),blkR prev now ls=some x→now.kind=3→x.kind=3
 | [],_,now,x,h,hk=>by cases h;exact hk
 |t::r,prev,now,x,h,hk=>by
  rw [blkR] at h
  split at h
  ·cases h
  ·split at h
   ·exact qfr r _ _ _ h rfl
   ·exact qfr r _ _ _ h hk
theorem qj7:∀ (ls:List qc) (prev:Bool) (now x:qu),blkR prev now ls=some x→x.raw=now.raw++q6 ls
 | [],_,now,x,h=>by cases h;simp [q6]
 |t::r,prev,now,x,h=>by
  rw [blkR] at h
  split at h
  ·cases h
  ·split at h
   ·rw [qj7 r _ _ _ h,yi];simp
   ·rw [qj7 r _ _ _ h,yi];simp
def qiv (x:qu):Prop:=x.kind=3∧x.fields≠[]∨x.kind=2∧x.fields=[]
theorem qgw:∀ (ls:List qc) (k:Nat) (prev:Bool) (now x:qu) (rec:Int) (out:List qu) (rest:List (qc×Bool)),qr7 rest→blkR prev now ls=some x→qiv now→(now.kind=2→x.kind=3→rec<400) →
  (∃ prev',refL k (trL ls++rest) prev now rec out=refL (k+ls.length) rest prev' x (if now.kind=2∧x.kind=3 then rec+1 else rec) out)∧qiv x
 | [],k,prev,now,x,rec,out,rest,hs,h,hk,hr=>by
  cases h
  refine⟨⟨prev,?_⟩,hk⟩
  rw [if_neg (by omega)]
  rfl
 |t::r,k,prev,now,x,rec,out,rest,hs,h,hk,hr=>by
  rw [blkR] at h
  split at h
  ·cases h
  ·rename_i hc
   simp only [not_or,Classical.not_not] at hc
   have hrec:qm t=4→now.fields.length=0→rec<400:=fun h4 h0=>by
    rw [if_pos h4] at h
    rcases hk with hk|hk
    ·exact absurd (List.length_eq_zero_iff.1 h0) hk.2
    ·exact hr hk.1 (qfr r _ _ _ h rfl)
   have hw:jf prev t true (trL r++rest) now.fields.length rec=0:=by
    rw [qik _ _ _ _ _ _ hs]
    exact q32 hc.1 hrec
   have hst:trL (t::r)++rest=(t,true)::(trL r++rest):=rfl
   rw [hst,refL,if_neg (by simp [hw]),if_neg hc.2]
   split at h
   ·rename_i h4
    rw [if_pos h4,qf4 r rest hs]
    have hx3:=qfr r _ _ _ h rfl
    obtain⟨⟨p',e⟩,hkx⟩:=qgw r (k+1) _ _ x (if now.kind=2 then rec+1 else rec) out rest hs h (.inl ⟨rfl,by simp⟩) (by simp)
    refine⟨⟨p',?_⟩,hkx⟩
    rw [e,if_neg (by simp)]
    simp only [hx3,and_true,List.length_cons]
    congr 1
    omega
   ·rename_i h4
    rw [if_neg h4]
    obtain⟨⟨p',e⟩,hkx⟩:=qgw r (k+1) _ _ x rec out rest hs h hk hr
    refine⟨⟨p',?_⟩,hkx⟩
    rw [e,List.length_cons]
    congr 1
    omega
theorem qpn:∀ (L:List (qc×Bool)) (k:Nat) (prev:Bool) (now:qu) (rec:Int) (out its:List qu),refL k L prev now rec out=(none,its) →
  ∃ (ls:List qc) (rest:List (qc×Bool)) (prev':Bool) (x:qu) (rec':Int) (k':Nat),L=trL ls++rest∧qr7 rest∧blkR prev now ls=some x∧refL k' rest prev' x rec' out=(none,its)∧∀ t∈ls,10∉t
 | [],k,prev,now,rec,out,its,h=>⟨[],[],prev,now,rec,k,rfl,trivial,rfl,h,by simp⟩
 |(t,e)::r,k,prev,now,rec,out,its,h=>by
  have h0:=h
  rw [refL] at h
  split at h
  ·simp at h
  ·rename_i hw
   have hw:=Classical.not_not.1 hw
   obtain⟨rfl,h10⟩:=q31 hw
   split at h
   ·rename_i h1
    exact⟨[],(t,true)::r,prev,now,rec,k,rfl,h1,rfl,h0,by simp⟩
   ·rename_i h1
    split at h
    ·rename_i h4
     obtain⟨ls,rest,p',x,rc,k',rfl,hs,hb,hr,hten⟩:=qpn r _ _ _ _ _ _ h
     rw [qf4 ls rest hs] at hb
     rw [qik _ _ _ _ _ _ hs] at hw
     refine⟨t::ls,rest,p',x,rc,k',rfl,hs,?_,hr,by simpa using ⟨h10,hten⟩⟩
     rw [blkR,if_neg (by simp [qou hw,h1]),if_pos h4]
     exact hb
    ·rename_i h4
     obtain⟨ls,rest,p',x,rc,k',rfl,hs,hb,hr,hten⟩:=qpn r _ _ _ _ _ _ h
     rw [qik _ _ _ _ _ _ hs] at hw
     refine⟨t::ls,rest,p',x,rc,k',rfl,hs,?_,hr,by simpa using ⟨h10,hten⟩⟩
     rw [blkR,if_neg (by simp [qou hw,h1]),if_neg h4]
     exact hb
def wv (x:qu):Prop:=(∃ t,x=⟨1,t++[10],[]⟩∧qm t=1)∨∃ ls,ls≠[]∧blkR false now0 ls=some x∧∀ t∈ls,10∉t
theorem qq7 (out:List qu):outR now0 out=out:=rfl
theorem qq1 {t:qc} (h:qm t=1):10∉t:=fun h10=>by
 unfold qm at h
 rw [if_pos h10] at h
 omega
theorem q3e:∀ (n:Nat) (L:List (qc×Bool)) (k:Nat) (rec:Int) (out its:List qu),L.length≤n→refL k L false now0 rec out=(none,its)→(∀ x∈out,wv x)→∀ x∈its,wv x:=by
 intro n
 induction n with
 |zero=>
  intro L k rec out its hn h ho
  have:L=[]:=List.length_eq_zero_iff.1 (by omega)
  subst this
  have h:(none,outR now0 out)=(none,its):=h
  simp only [Prod.mk.injEq,true_and] at h
  subst h
  exact ho
 |succ n ih=>
  intro L k rec out its hn h ho
  obtain⟨ls,rest,p',x,rc,k',rfl,hs,hb,hr,hten⟩:=qpn L _ _ _ _ _ _ h
  have hout:∀ y∈outR x out,wv y:=fun y hy=>by
   unfold outR at hy
   split at hy
   ·exact ho y hy
   ·rename_i hx
    rcases List.mem_append.1 hy with hy|hy
    ·exact ho y hy
    ·simp only [List.mem_cons,List.not_mem_nil,or_false] at hy
     subst hy
     refine .inr ⟨ls,fun e=>hx ?_,hb,hten⟩
     subst e
     cases hb
     rfl
  cases rest with
  |nil=>
   have hr:(none,outR x out)=(none,its):=hr
   simp only [Prod.mk.injEq,true_and] at hr
   subst hr
   exact hout
  |cons y r=>
   obtain⟨t,e⟩:=y
   have h1:qm t=1:=hs
   rw [refL] at hr
   split at hr
   ·simp at hr
   ·try rw [if_pos h1] at hr
    refine ih r _ _ _ _ (by simp at hn;omega) hr fun y hy=>?_
    rcases List.mem_append.1 hy with hy|hy
    ·exact hout y hy
    ·simp only [List.mem_cons,List.not_mem_nil,or_false] at hy
     subst hy
     exact .inl ⟨t,rfl,h1⟩
theorem qjr {text:qc} (h:(jw text).1=none):∀ x∈(jw text).2,wv x:=by
 refine q3e _ (zj text) 0 0 [] _ (Nat.le_refl _) ((qbk text).trans (Prod.ext h rfl)) (by simp)
theorem qwi {fs:List Fld} (hg:GF fs) (hne:fs≠[]):wv ⟨3,js fs,fs⟩:=by
 have h:=qz1 hg hne
 exact qjr (by rw [h]) _ (by rw [h];simp)
def SepI:List qu→Prop
 | []=>True
 | [_]=>True
 |x::y::r=>(x.kind≠1→y.kind=1)∧SepI (y::r)
def cntI (its:List qu):Nat:=its.countP fun x=>x.kind=3
theorem qjl:∀ (ls:List qc) (R:qc),(∀ s∈ls,10∉s)→zj (q6 ls++R)=trL ls++zj R
 | [],R,_=>rfl
 |s::r,R,h=>by
  have hs:=h s (by simp)
  have e:q6 (s::r)++R=s++10::(q6 r++R):=by rw [yi];simp
  rw [e,wq (by simp),qb1 _ hs,qfe _ hs,qjl r R fun x hx=>h x (by simp [hx])]
  simp [trL]
theorem qk9 {t:qc} {R:qc} (h:10∉t):zj (t++[10]++R)=(t,true)::zj R:=by
 have:=qjl [t] R (by simpa using h)
 simpa [q6,trL] using this
theorem qgl {x:qu} (h:wv x):x.kind=1∧(∃ t,x=⟨1,t++[10],[]⟩∧qm t=1)∨qiv x∧x.raw≠[]∧∃ ls,ls≠[]∧blkR false now0 ls=some x∧∀ t∈ls,10∉t:=by
 rcases h with⟨t,rfl,ht⟩ | ⟨ls,hne,hb,hten⟩
 ·exact .inl ⟨rfl,t,rfl,ht⟩
 ·refine .inr ⟨(qgw ls 0 false now0 x 0 [] [] trivial hb (.inr ⟨rfl,rfl⟩) (by omega)).2,?_,ls,hne,hb,hten⟩
  rw [qj7 _ _ _ _ hb]
  cases ls with
  |nil=>exact absurd rfl hne
  |cons t r=>simp [q6,now0]
theorem qhx:∀ (its:List qu) (k:Nat) (rec:Int) (out:List qu),(∀ x∈its,wv x)→SepI its→rec+cntI its≤400→refL k (zj (zu its)) false now0 rec out=(none,out++its)
 | [],k,rec,out,_,_,_=>by
  have:zu []=[]:=rfl
  rw [this,vg]
  simp [refL,qq7]
 |x::r,k,rec,out,hok,hsep,hc=>by
  have hraw:zu (x::r)=x.raw++zu r:=rfl
  rw [hraw]
  rcases qgl (hok x (by simp)) with⟨hk1,t,rfl,ht⟩ | ⟨hkx,hrx,ls,hne,hb,hten⟩
  ·rw [qk9 (qq1 ht),refL,if_neg (by rw [qlg ht];simp),if_pos ht,qq7]
   have hs:SepI r:=by cases r with|nil=>trivial|cons y q=>exact hsep.2
   have:=qhx r (k+1) rec (out++[⟨1,t++[10],[]⟩]) (fun y hy=>hok y (by simp [hy])) hs (by simpa [cntI] using hc)
   rw [show (⟨2,[],[]⟩:qu)=now0 from rfl,this]
   simp
  ·have hx1:x.kind≠1:=by rcases hkx with h|h <;> omega
   have hc3:x.kind=3→rec<400:=fun h=>by simp [cntI,h] at hc;omega
   have hre:x.raw=q6 ls:=by rw [qj7 _ _ _ _ hb];rfl
   rw [hre,qjl ls _ hten]
   match r,hok,hsep,hc with
   | [],hok,hsep,hc=>
    have:zu []=[]:=rfl
    rw [this,vg]
    obtain⟨⟨p',e⟩,_⟩:=qgw ls k false now0 x rec out [] trivial hb (.inr ⟨rfl,rfl⟩) fun _ h=>hc3 h
    rw [e,refL]
    unfold outR
    rw [if_neg hrx]
   |y::q,hok,hsep,hc=>
    have hy1:=hsep.1 hx1
    rcases qgl (hok y (by simp)) with⟨_,t,rfl,ht⟩ | ⟨hky,_⟩
    ·have hraw:zu (⟨1,t++[10],[]⟩::q)=(t++[10])++zu q:=rfl
     rw [hraw,qk9 (qq1 ht)]
     obtain⟨⟨p',e⟩,_⟩:=qgw ls k false now0 x rec out ((t,true)::zj (zu q)) ht hb (.inr ⟨rfl,rfl⟩) fun _ h=>hc3 h
     rw [e,refL,if_neg (by rw [qlg ht];simp),if_pos ht]
     have hs:SepI q:=by cases q with|nil=>trivial|cons z q'=>exact hsep.2.2
     have ho:outR x out=out++[x]:=by unfold outR;rw [if_neg hrx]
     rw [ho,show (⟨2,[],[]⟩:qu)=now0 from rfl]
     have hcc:(if now0.kind=2∧x.kind=3 then rec+1 else rec)+(cntI q:Int)≤400:=by
      simp only [cntI,List.countP_cons] at hc ⊢
      by_cases h3:x.kind=3
      ·rw [if_pos ⟨rfl,h3⟩]
       simp [h3] at hc
       omega
      ·rw [if_neg fun h=>h3 h.2]
       simp [h3] at hc
       omega
     rw [qhx q _ _ _ (fun y hy=>hok y (by simp [hy])) hs hcc]
     simp
    ·exfalso
     rcases hky with h|h <;> omega
theorem xv (a b:List qu):cntI (a++b)=cntI a+cntI b:=by simp [cntI]
theorem vz (x:qu) (b:List qu):cntI (x::b)=(if x.kind=3 then 1 else 0)+cntI b:=by
 simp only [cntI,List.countP_cons,decide_eq_true_eq]
 omega
theorem qp6:∀ (its:List qu) (prev:Bool),SepI (z6 prev its)∧(prev=true→∀ x,(z6 prev its).head? = some x→x.kind=1)
 | [],prev=>⟨trivial,by simp [z6]⟩
 |x::r,prev=>by
  obtain⟨h1,h2⟩:=qp6 r (decide (x.kind≠1))
  have key:SepI (x::z6 (decide (x.kind≠1)) r):=by
   cases hq:z6 (decide (x.kind≠1)) r with
   |nil=>trivial
   |cons y q=>
    rw [hq] at h1 h2
    exact⟨fun hk=>h2 (by simpa using hk) y rfl,h1⟩
  rw [z6]
  by_cases hp:prev=true∧x.kind≠1
  ·rw [if_pos hp]
   exact⟨⟨fun h=>absurd rfl h,key⟩,fun _ y hy=>by simp at hy;subst hy;rfl⟩
  ·rw [if_neg hp]
   exact⟨key,fun hpr y hy=>by
    simp at hy
    subst hy
    exact Classical.byContradiction fun h=>hp ⟨hpr,h⟩⟩
theorem qs2:∀ (its:List qu) (prev:Bool),(∀ x∈its,wv x)→(∀ x∈z6 prev its,wv x)∧cntI (z6 prev its)=cntI its
 | [],prev,_=>by simp [z6]
 |x::r,prev,h=>by
  obtain⟨h1,h2⟩:=qs2 r (decide (x.kind≠1)) fun y hy=>h y (by simp [hy])
  have hx:=h x (by simp)
  have hbl:wv ⟨1,[10],[]⟩:=.inl ⟨[],rfl,by decide⟩
  rw [z6]
  split
  ·refine⟨fun y hy=>?_,by simp only [List.cons_append,List.nil_append,vz];rw [h2];try simp⟩
   simp only [List.cons_append,List.nil_append,List.mem_cons] at hy
   rcases hy with rfl|rfl|hy
   ·exact hbl
   ·exact hx
   ·exact h1 y hy
  ·refine⟨fun y hy=>?_,by simp only [List.cons_append,List.nil_append,vz];rw [h2];try simp⟩
   simp only [List.cons_append,List.nil_append,List.mem_cons] at hy
   rcases hy with rfl|hy
   ·exact hx
   ·exact h1 y hy
theorem qjs {its:List qu} (h:∀ x∈its,wv x) (hc:cntI its≤400):jw (zu (ww its))=(none,ww its):=by
 obtain⟨h1,h2⟩:=qs2 its false h
 have:=qhx (ww its) 0 0 [] h1 (qp6 its false).1 (by unfold ww;rw [h2];omega)
 rw [List.nil_append] at this
 rw [← qbk]
 exact this
theorem qut {now:qu} {out:List qu} (hk:qiv now) (hr:now.kind=3→now.raw≠[]):(cntI (outR now out):Int)=(cntI out:Int)+(if now.kind=3 then 1 else 0):=by
 have h0:cntI []=0:=rfl
 unfold outR
 by_cases he:now.raw=[]
 ·rw [if_pos he,if_neg fun h=>hr h he]
  omega
 ·rw [if_neg he,xv,vz,h0]
  by_cases h3:now.kind=3
  ·rw [if_pos h3,if_pos h3];omega
  ·rw [if_neg h3,if_neg h3];omega
theorem qkm:∀ (L:List (qc×Bool)) (k:Nat) (prev:Bool) (now:qu) (rec:Int) (out its:List qu),refL k L prev now rec out=(none,its)→qiv now→(now.kind=3→now.raw≠[])→(cntI out:Int)+(if now.kind=3 then 1 else 0)=rec→rec≤400→cntI its≤400
 | [],k,prev,now,rec,out,its,h,hk,hr,hc,hm=>by
  have h:(none,outR now out)=(none,its):=h
  simp only [Prod.mk.injEq,true_and] at h
  subst h
  have:=qut (out:=out) hk hr
  omega
 |(t,e)::r,k,prev,now,rec,out,its,h,hk,hr,hc,hm=>by
  rw [refL] at h
  split at h
  ·simp at h
  ·rename_i hw
   have hw:=Classical.not_not.1 hw
   split at h
   ·refine qkm r _ _ _ _ _ _ h (.inr ⟨rfl,rfl⟩) (by simp) ?_ hm
    have:=qut (out:=out) hk hr
    rw [xv,vz,show cntI []=0 from rfl,if_neg (by omega:¬ (1:Int)=3),if_neg (by omega:¬ (2:Int)=3)]
    omega
   ·split at h
    ·rename_i h4
     refine qkm r _ _ _ _ _ _ h (.inl ⟨rfl,by simp⟩) (by simp) ?_ ?_
     ·rcases hk with hk|hk
      ·rw [if_pos hk.1] at hc
       rw [if_pos rfl,if_neg (by omega)]
       exact hc
      ·rw [if_neg (by omega)] at hc
       rw [if_pos rfl,if_pos hk.1]
       omega
     ·rcases hk with hk|hk
      ·rw [if_neg (by omega)];exact hm
      ·rw [if_pos hk.1]
       unfold jf at hw
       split at hw
       ·omega
       ·rw [if_neg (by omega)] at hw
        split at hw
        ·omega
        ·split at hw
         ·omega
         ·rename_i hf
          have:now.fields.length=0:=by rw [hk.2];rfl
          omega
    ·exact qkm r _ _ _ _ _ _ h hk (fun h3=>by simp) hc hm
theorem q2z {text:qc} (h:(jw text).1=none):cntI (jw text).2≤400:=
 qkm (zj text) 0 false now0 0 [] _ ((qbk text).trans (Prod.ext h rfl)) (.inr ⟨rfl,rfl⟩) (by simp [now0]) (by simp [cntI,now0]) (by omega)
structure GL (l:qp):Prop where
 ok:∀ e∈l.ents,wv e.x∧(0<e.id↔e.x.kind=3)
 nx:1≤l.next
 mn:l.many=cntI (ze l)
 le:cntI (ze l)≤400
theorem q2t {l:qp} {x:qu} (h:GL l) (hx:wv x) (hc:cntI (ze l)+cntI [x]≤400):GL (ve l x):=by
 obtain⟨h1,h2,h3,h4⟩:=h
 rw [vz] at hc
 unfold ve
 by_cases hk:x.kind=3
 ·rw [if_pos hk]
  refine⟨fun e he=>?_,by simp only;omega,?_,?_⟩
  ·rcases List.mem_append.1 he with he|he
   ·exact h1 e he
   ·simp only [List.mem_cons,List.not_mem_nil,or_false] at he
    subst he
    exact⟨hx,fun _=>hk,fun _=>by show 0<l.next;omega⟩
  ·simp only [ze,List.map_append,xv,List.map_cons,List.map_nil,vz] at h3 ⊢
   rw [if_pos hk]
   simp [cntI] at h3 ⊢
   omega
  ·rw [if_pos hk] at hc
   simp only [ze,List.map_append,xv,List.map_cons,List.map_nil,vz] at hc ⊢
   rw [if_pos hk]
   exact hc
 ·rw [if_neg hk]
  refine⟨fun e he=>?_,h2,?_,?_⟩
  ·rcases List.mem_append.1 he with he|he
   ·exact h1 e he
   ·simp only [List.mem_cons,List.not_mem_nil,or_false] at he
    subst he
    exact⟨hx,by simp [hk]⟩
  ·simp only [ze,List.map_append,xv,List.map_cons,List.map_nil,vz] at h3 ⊢
   rw [if_neg hk]
   simp [cntI] at h3 ⊢
   omega
  ·rw [if_neg hk] at hc
   simp only [ze,List.map_append,xv,List.map_cons,List.map_nil,vz] at hc ⊢
   rw [if_neg hk]
   exact hc
theorem qk6 (l:qp) (x:qu):ze (ve l x)=ze l++[x]:=by
 unfold ve ze
 split <;> simp
theorem qq4:∀ (its:List qu) (l:qp),GL l→(∀ x∈its,wv x)→cntI (ze l)+cntI its≤400→GL (its.foldl ve l)
 | [],l,h,_,_=>h
 |x::r,l,h,hx,hc=>by
  rw [vz] at hc
  refine qq4 r (ve l x) (q2t h (hx x (by simp)) ?_) (fun y hy=>hx y (by simp [hy])) ?_
  ·rw [vz,show cntI []=0 from rfl];omega
  ·rw [qk6,xv,vz]
   rw [show cntI []=0 from rfl]
   omega
theorem zax {its:List qu} (hx:∀ x∈its,wv x) (hc:cntI its≤400):GL (ofF its):=
 qq4 its ⟨[],1,0⟩ ⟨by simp,by simp,by simp [ze,cntI],by simp [ze,cntI]⟩ hx (by simpa [ze,cntI] using hc)
theorem qu1 {fs:List Fld} (h:zl fs = .no):wv (wb fs)∧(wb fs).kind=3:=by
 obtain⟨h1,h2,h3⟩:=qck h
 unfold wb
 rw [if_pos h]
 exact⟨qwi ⟨h2,h3⟩ h1,rfl⟩
theorem qi1 {l:List qu} {i:Nat} {x:qu} (h:l[i]? = some x):cntI l=cntI (l.take i)+(if x.kind=3 then 1 else 0)+cntI (l.drop (i+1)):=by
 obtain⟨hlt,rfl⟩:=List.getElem?_eq_some_iff.1 h
 have:=congrArg cntI (List.take_append_drop i l)
 rw [xv,List.drop_eq_getElem_cons hlt,vz] at this
 omega
theorem q5v {l:qp} (h:GL l) (id:Int) (fs:List Fld):GL (v8 l id fs).2:=by
 unfold v8
 split
 ·exact h
 ·rename_i ha
  split
  ·rename_i hf
   obtain⟨hp,hp3⟩:=qu1 hf
   rcases qgv l id with g | ⟨i,e,g1,g2,g3,g4⟩
   ·omega
   ·rw [g1,Int.toNat_natCast]
    unfold qeh
    rw [g2]
    simp only
    have hem:=List.mem_of_getElem? g2
    obtain⟨hlt,hge⟩:=List.getElem?_eq_some_iff.1 g2
    have hek:e.x.kind=3:=(h.ok e hem).2.1 (by omega)
    have hcnt:cntI ((l.ents.set i ⟨wb fs,e.id⟩).map fun e=>e.x)=cntI (l.ents.map fun e=>e.x):=by
     have a1:=qi1 (l:=l.ents.map fun e=>e.x) (i:=i) (x:=e.x) (by simp [g2])
     have a2:=qi1 (l:=(l.ents.set i ⟨wb fs,e.id⟩).map fun e=>e.x) (i:=i) (x:=wb fs) (by simp [hlt])
     rw [a1,a2,← List.map_take,← List.map_take,← List.map_drop,← List.map_drop,List.take_set_of_le (Nat.le_refl _),List.drop_set_of_lt (by omega),hek,hp3]
    refine⟨fun y hy=>?_,h.nx,?_,?_⟩
    ·rcases List.mem_or_eq_of_mem_set hy with hy|rfl
     ·exact h.ok y hy
     ·exact⟨hp,fun _=>hp3,fun _=>by show 0<e.id;omega⟩
    ·exact h.mn.trans (congrArg Int.ofNat hcnt).symm
    ·exact Nat.le_trans (Nat.le_of_eq hcnt) h.le
  ·exact h
theorem q7n {l:qp} (h:GL l) (id:Int):GL (delF l id).2:=by
 unfold delF
 split
 ·exact h
 ·rcases qgv l id with g | ⟨i,e,g1,g2,g3,g4⟩
  ·omega
  ·rw [g1,Int.toNat_natCast]
   have hem:=List.mem_of_getElem? g2
   have hek:e.x.kind=3:=(h.ok e hem).2.1 (by omega)
   have a1:=qi1 (l:=ze l) (i:=i) (x:=e.x) (by simp [ze,g2])
   rw [hek,if_pos rfl] at a1
   have a2:cntI (ze (delL l i))=cntI ((ze l).take i)+cntI ((ze l).drop (i+1)):=by
    unfold delL ze
    rw [List.map_append,xv,List.map_take,List.map_drop]
   have hm:=h.mn
   have hl:=h.le
   refine⟨fun y hy=>?_,h.nx,?_,?_⟩
   ·rcases List.mem_append.1 hy with hy|hy
    ·exact h.ok y (List.mem_of_mem_take hy)
    ·exact h.ok y (List.mem_of_mem_drop hy)
   ·rw [a2]
    show l.many - 1=_
    omega
   ·rw [a2]
    omega
theorem q75 {l:qp} (h:GL l) (id:Int) (fs:List Fld):GL (insF l id fs).2.2:=by
 unfold insF
 split
 ·exact h
 ·split
  ·rename_i hf
   obtain⟨hp,hp3⟩:=qu1 hf
   split
   ·exact h
   ·rename_i hm4
    generalize (atF l id+1).toNat=k
    have a1:cntI (ze (insL l k (wb fs)))=cntI (ze l)+1:=by
     unfold insL ze
     rw [List.map_append,xv,List.map_cons,vz,hp3,if_pos rfl,List.map_take,List.map_drop]
     have:=congrArg cntI (List.take_append_drop k (l.ents.map fun e=>e.x))
     rw [xv] at this
     omega
    have hm:=h.mn
    have hl:=h.le
    have hn:=h.nx
    refine⟨fun y hy=>?_,?_,?_,?_⟩
    ·rcases List.mem_append.1 hy with hy|hy
     ·exact h.ok y (List.mem_of_mem_take hy)
     ·rcases List.mem_cons.1 hy with rfl|hy
      ·exact⟨hp,fun _=>hp3,fun _=>by show 0<l.next;omega⟩
      ·exact h.ok y (List.mem_of_mem_drop hy)
    ·show 1≤l.next+1
     omega
    ·rw [a1]
     show l.many+1=_
     omega
    ·rw [a1]
     omega
  ·exact h
theorem q8w {l:qp} (h:GL l) (x:qr):GL (oneF l x).2.2:=by
 unfold oneF
 split
 ·exact q5v h _ _
 ·split
  ·exact q7n h _
  ·exact q75 h _ _
theorem qqk:∀ (b:List qr) (k:Nat) (l:qp) (ids:List Int),GL l→GL (ke k b l ids).2.1
 | [],_,l,_,h=>h
 |x::r,k,l,ids,h=>by
  unfold ke
  split
  ·exact qqk r _ _ _ (q8w h x)
  ·exact h
theorem q98 {l:qp} (h:GL l) (b:List qr):GL (doF l b).2.1:=by
 unfold doF
 split
 ·exact qqk b 0 l [] h
 ·exact h
theorem qdh {text:qc} (h:zx text = .no):(jw text).1=none∧text.length≤60000∧itsE text=(jw text).2:=by
 unfold zx at h
 unfold itsE
 split at h
 ·simp at h
 ·rename_i hl
  rw [if_neg hl]
  refine⟨?_,by omega,rfl⟩
  cases hp:(jw text).1 with
  |none=>rfl
  |some x=>rw [hp] at h;simp at h
theorem qrm {l:qp} (h:GL l):jw (wo l)=(none,ww (ze l)):=by
 refine qjs (fun x hx=>?_) h.le
 obtain⟨e,he,rfl⟩:=List.mem_map.1 hx
 exact (h.ok e he).1
theorem q2d (its:List qu):ze (ofF its)=its:=by
 have key:∀ (its:List qu) (l:qp),ze (its.foldl ve l)=ze l++its:=by
  intro its
  induction its with
  |nil=>simp
  |cons x r ih=>intro l;rw [List.foldl_cons,ih,qk6];simp
 have:=key its ⟨[],1,0⟩
 exact this
end Go.Pl
namespace Go.Pl
open Go Go.Proofs
def cntF (es:List EntV):Nat:=es.countP fun e=>decide (0<e.id)
theorem qqd (es:List EntV) (e:EntV):cntF (es++[e])=cntF es+if 0<e.id then 1 else 0:=by
 unfold cntF
 rw [List.countP_append]
 by_cases h:0<e.id <;> simp [h]
end Go.Pl
namespace Go.Pl
open Go Go.Proofs Go.Av
def LM (l:qp):Prop:=l.many=cntF l.ents
theorem qcy (a b:List EntV):cntF (a++b)=cntF a+cntF b:=by simp [cntF]
theorem qfs (e:EntV) (b:List EntV):cntF (e::b)=(if 0<e.id then 1 else 0)+cntF b:=by
 by_cases h:0<e.id <;> simp [cntF,h] <;> omega
theorem q1s {l:List EntV} {i:Nat} {e:EntV} (h:l[i]? = some e):l=l.take i++e::l.drop (i+1):=by
 obtain⟨hi,rfl⟩:=List.getElem?_eq_some_iff.1 h
 rw [← List.drop_eq_getElem_cons hi,List.take_append_drop]
theorem q5z {l:qp} (h:LM l) (id:Int) (fs:List Fld):LM (v8 l id fs).2:=by
 unfold v8
 split
 ·exact h
 ·split
  ·unfold qeh
   split
   ·rename_i e he
    unfold LM at h ⊢
    simp only
    rw [h]
    have h1:=q1s he
    have hi:=lt_of_getElem? he
    rw [List.set_eq_take_append_cons_drop,if_pos hi]
    conv=>lhs;rw [h1]
    rw [qcy,qcy,qfs,qfs]
   ·exact h
  ·exact h
theorem q7r {l:qp} (h:LM l) (id:Int):LM (delF l id).2:=by
 unfold delF
 split
 ·exact h
 ·rename_i hn
  rcases qgv l id with g | ⟨i,e,g,he,hid,hid1⟩
  ·exact absurd (by rw [g];decide) hn
  ·rw [g,Int.toNat_natCast]
   unfold LM delL at *
   simp only
   rw [h]
   have h1:=q1s he
   conv=>lhs;rw [h1]
   rw [qcy,qcy,qfs,if_pos (by omega)]
   omega
theorem q79 {l:qp} (h:LM l) (hn:1≤l.next) (id:Int) (fs:List Fld):LM (insF l id fs).2.2:=by
 unfold insF
 split
 ·exact h
 ·split
  ·split
   ·exact h
   ·unfold LM insL at *
    simp only
    rw [h,qcy,qfs,if_pos (by simp only;omega)]
    conv=>lhs;rw [← List.take_append_drop (atF l id+1).toNat l.ents]
    rw [qcy]
    omega
  ·exact h
theorem qup:∀ (its:List qu) (l:qp),LM l→1≤l.next→LM (its.foldl ve l)∧1≤(its.foldl ve l).next
 | [],l,h,hn=>⟨h,hn⟩
 |x::r,l,h,hn=>by
  rw [List.foldl_cons]
  unfold ve
  split
  ·refine qup r _ ?_ (by simp only;omega)
   unfold LM at *
   simp only
   rw [qqd,if_pos (by simp only;omega),h]
   omega
  ·refine qup r _ ?_ hn
   unfold LM at *
   simp only
   rw [qqd,if_neg (by simp),h]
   omega
theorem q2q (its:List qu):LM (ofF its):=(qup its ⟨[],1,0⟩ (by simp [LM,cntF]) (by decide)).1
end Go.Pl
namespace Go.Proofs.YtejoahlpbckbeaaGreatDoor
open Go Go.Av Go.RowKit Go.Proofs Go.Pl
theorem q8y {l:qp} (h:LM l) (hn:1≤l.next) (x:qr):LM (oneF l x).2.2:=by
 unfold oneF
 split
 ·exact q5z h _ _
 ·split
  ·exact q7r h _
  ·exact q79 h hn _ _
theorem qqn:∀ (b:List qr) (k n:Nat) (l:qp) (ids:List Int),LM l→LB n l→n+b.length<900000→LM (ke k b l ids).2.1
 | [],k,n,l,ids,h,_,_=>h
 |x::r,k,n,l,ids,h,hB,hs=>by
  simp only [List.length_cons] at hs
  unfold ke
  split
  ·exact qqn r (k+1) (n+1) _ _ (q8y h hB.nx0 x) (qpg hB (by omega) x) (by omega)
  ·exact h
theorem zab {n:Nat} {l:qp} (h:LM l) (hB:LB n l) (hs:n+40<900000) (b:List qr):LM (doF l b).2.1:=by
 unfold doF
 split
 ·rename_i he
  obtain⟨h1,h2,_⟩:=qg2 he
  exact qqn b 0 n l [] h hB (by omega)
 ·exact h
end Go.Proofs.YtejoahlpbckbeaaGreatDoor
namespace Go.Pl
open Go Go.Proofs Go.Proofs.YtejoahlpbckbeaaGreatDoor
theorem qod (x:qu) (r:List qu):zu (x::r)=x.raw++zu r:=by simp [zu]
theorem q5q {its:List qu} {x:qu} (h:x∈its):x.raw.length≤(zu its).length:=by
 induction its with
 |nil=>simp at h
 |cons y r ih=>
  rw [qod,List.length_append]
  rcases List.mem_cons.1 h with rfl|h
  ·omega
  ·have:=ih h
   omega
structure PR (m:Nat) (p:PSt):Prop where
 tot:(zu p.items).length+(q6 p.block).length≤m
 fl:∀ x∈p.items,x.fields.length<900000
theorem qi9 {m:Nat} {p:PSt} (h:PR m p):PR m (z4 p).2:=by
 unfold z4
 split
 ·exact h
 ·split
  ·exact h
  ·split
   ·exact h
   ·exact⟨h.tot,h.fl⟩
theorem q1p {m:Nat} {p:PSt} (h:PR m p) (hf:p.fields.length<900000):PR m (wj p):=by
 have ht:=h.tot
 unfold wj
 split
 ·exact⟨by simp only [q6,List.flatMap_nil,List.length_nil];omega,h.fl⟩
 ·refine⟨?_,fun x hx=>?_⟩
  ·simp only [qca,qcb,List.length_append]
   simp only [q6,List.flatMap_nil,List.length_nil] at ht ⊢
   omega
  ·simp only [List.mem_append,List.mem_singleton] at hx
   rcases hx with hx|rfl
   ·exact h.fl x hx
   ·exact hf
theorem qpb {m n:Nat} {p:PSt} (h:PR m p) (hB:PB n p) (hs:n+1<900000):PR m (endP p).2:=by
 unfold endP
 split
 ·exact h
 ·have:=(qdr hB hs).fields
  exact q1p (qi9 h) (by omega)
theorem q0x {m n:Nat} {p:PSt} {no:Int} {text:qc} {ended:Bool} {kind:Int} (h:PR m p) (hB:PB n p) (hs:n+1<900000):PR m (zt p no text ended kind).2:=by
 unfold zt
 split
 ·split
  ·exact h
  ·split
   ·exact⟨h.tot,h.fl⟩
   ·exact qi9 ⟨h.tot,h.fl⟩
 ·split
  ·exact qpb h hB hs
  ·exact qi9 h
theorem yh (a b:List qc):q6 (a++b)=q6 a++q6 b:=by simp [q6]
theorem q6d {m n:Nat} {p:PSt} {no:Int} {text:qc} {ended:Bool} (h:PR m p) (hB:PB n p) (hs:n+1<900000):PR (m+text.length+1) (vc p no text ended).2:=by
 have more:∀ {q:PSt},PR m q→PR (m+text.length+1) q:=fun h=>⟨by have:=h.tot;omega,h.fl⟩
 have h2:PR m (zt p no text ended (qm text)).2:=q0x h hB hs
 have ht:=h2.tot
 unfold vc
 split
 ·exact more h
 ·split
  ·exact more h
  ·split
   ·refine⟨?_,fun x hx=>?_⟩
    ·simp only [qca,qcb,List.length_append,List.length_cons,List.length_nil]
     omega
    ·simp only [List.mem_append,List.mem_singleton] at hx
     rcases hx with hx|rfl
     ·exact h2.fl x hx
     ·simp
   ·split
    ·refine⟨?_,h2.fl⟩
     simp only [jk,yh,List.length_append]
     simp only [q6,List.flatMap_cons,List.flatMap_nil,List.length_append,List.length_cons,List.length_nil] at ht ⊢
     omega
    ·refine⟨?_,h2.fl⟩
     simp only [yh,List.length_append]
     simp only [q6,List.flatMap_cons,List.flatMap_nil,List.length_append,List.length_cons,List.length_nil] at ht ⊢
     omega
theorem qx6:∀ (n:Nat) (rest:qc) (k m:Nat) (p:PSt),rest.length≤n→PB (4 * k) p→PR m p→k+rest.length≤60000→PR (m+2 * rest.length) (runL k (zj rest) p).2:=by
 intro n
 induction n with
 |zero=>
  intro rest k m p hr hB hR hk
  obtain rfl:rest=[]:=List.eq_nil_of_length_eq_zero (by omega)
  rw [vg,runL]
  exact qpb hR hB (by omega)
 |succ n ih=>
  intro rest k m p hr hB hR hk
  by_cases hne:rest=[]
  ·subst hne
   rw [vg,runL]
   exact qpb hR hB (by omega)
  ·have hu:=yw 10 rest
   have hpl:=xn 10 rest
   have hr0:0<rest.length:=List.length_pos_iff.2 hne
   rw [wq hne]
   simp only [runL]
   have hB2:=qmc (no:=k) (text:=upto 10 rest) (ended:=decide (10∈rest)) hB (by omega) (by omega)
   have hR2:=q6d (no:=k) (text:=upto 10 rest) (ended:=decide (10∈rest)) hR hB (by omega)
   split
   ·exact⟨by have:=hR.tot;simp only;omega,hR.fl⟩
   ·have:=ih (past 10 rest) (k+1) _ _ (by omega) hB2 hR2 (by omega)
    exact⟨by have:=this.tot;omega,this.fl⟩
theorem q8c (text:qc):(zu (itsE text)).length≤120000∧∀ x∈itsE text,x.fields.length<900000:=by
 unfold itsE
 split
 ·simp [zu]
 ·have h:=qx6 text.length text 0 0 p0 (Nat.le_refl _) qsi ⟨by simp [p0,zu,q6],by simp [p0]⟩ (by omega)
  unfold jw
  split
  ·simp [zu]
  ·have:=h.tot
   exact⟨by simp only;omega,h.fl⟩
def LI (l:qp):Prop:=∀ e∈l.ents,e.x.raw.length≤1000000∧e.x.fields.length<900000
theorem q2s:∀ (its:List qu) (l:qp),LI l→(∀ x∈its,x.raw.length≤1000000∧x.fields.length<900000)→LI (its.foldl ve l)
 | [],l,h,_=>h
 |x::r,l,h,hx=>by
  rw [List.foldl_cons]
  refine q2s r _ ?_ fun y hy=>hx y (by simp [hy])
  have h1:=hx x (by simp)
  unfold ve
  split
  ·intro e he
   simp only [List.mem_append,List.mem_singleton] at he
   rcases he with he|rfl
   ·exact h e he
   ·exact h1
  ·intro e he
   simp only [List.mem_append,List.mem_singleton] at he
   rcases he with he|rfl
   ·exact h e he
   ·exact h1
theorem qcr (text:qc):LI (ofF (itsE text)):=by
 obtain⟨h1,h2⟩:=q8c text
 refine q2s _ _ (by simp [LI]) fun x hx=>⟨?_,h2 x hx⟩
 have:=q5q hx
 omega
theorem qrd (fs:List Fld):(wb fs).raw.length≤1000000∧(wb fs).fields.length<900000:=by
 unfold wb
 split
 ·rename_i h
  obtain⟨_,g1,g2⟩:=qck h
  have:=qfz fs g2
  exact⟨by simp only;omega,by simp only;omega⟩
 ·exact⟨by simp,by simp⟩
theorem q5y {l:qp} (h:LI l) (id:Int) (fs:List Fld):LI (v8 l id fs).2:=by
 unfold v8
 split
 ·exact h
 ·split
  ·unfold qeh
   split
   ·intro y hy
    rcases List.mem_or_eq_of_mem_set hy with hy|rfl
    ·exact h y hy
    ·exact qrd fs
   ·exact h
  ·exact h
theorem q7q {l:qp} (h:LI l) (id:Int):LI (delF l id).2:=by
 unfold delF
 split
 ·exact h
 ·intro y hy
  simp only [delL,List.mem_append] at hy
  rcases hy with hy|hy
  ·exact h y (List.mem_of_mem_take hy)
  ·exact h y (List.mem_of_mem_drop hy)
theorem q78 {l:qp} (h:LI l) (id:Int) (fs:List Fld):LI (insF l id fs).2.2:=by
 unfold insF
 split
 ·exact h
 ·split
  ·split
   ·exact h
   ·intro y hy
    simp only [insL,List.mem_append,List.mem_cons] at hy
    rcases hy with hy|rfl|hy
    ·exact h y (List.mem_of_mem_take hy)
    ·exact qrd fs
    ·exact h y (List.mem_of_mem_drop hy)
  ·exact h
theorem qmx:∀ (its:List qu) (b:Bool),(∀ x∈its,x.raw.length≤1000000)→(zu (z6 b its)).length≤1000001 * its.length
 | [],b,h=>by simp [z6,zu]
 |x::r,b,h=>by
  have ih:=qmx r (decide (x.kind≠1)) fun y hy=>h y (by simp [hy])
  have hx:=h x (by simp)
  rw [z6,qca,List.length_append]
  split
  ·rw [qod,qcb]
   simp only [List.length_append,List.length_cons,List.length_nil]
   omega
  ·rw [qcb]
   simp only [List.length_cons]
   omega
theorem q6f {n:Nat} {l:qp} (hB:LB n l) (h:LI l):(wo l).length≤1000000000000:=by
 have h1:=qmx (ze l) false fun x hx=>by
  obtain⟨e,he,rfl⟩:=List.mem_map.1 hx
  exact (h e he).1
 have h2:=hB.len
 have h3:=hB.small
 unfold wo ww
 have:(ze l).length=l.ents.length:=by simp [ze]
 omega
end Go.Pl
namespace Go.Proofs.YtejoahlpbckbeaaGreatDoor
open Go Go.Av Go.RowKit Go.Proofs Go.Pl
theorem q8x {l:qp} (h:LI l) (x:qr):LI (oneF l x).2.2:=by
 unfold oneF
 split
 ·exact q5y h _ _
 ·split
  ·exact q7q h _
  ·exact q78 h _ _
theorem qqm:∀ (b:List qr) (k:Nat) (l:qp) (ids:List Int),LI l→LI (ke k b l ids).2.1
 | [],k,l,ids,h=>h
 |x::r,k,l,ids,h=>by
  unfold ke
  split
  ·exact qqm r (k+1) _ _ (q8x h x)
  ·exact h
theorem zaa {l:qp} (h:LI l) (b:List qr):LI (doF l b).2.1:=by
 unfold doF
 split
 ·exact qqm b 0 l [] h
 ·exact h
theorem q8b {n:Nat} {l:qp} (hB:LB n l) (h:LI l):ItsB (ze l):=by
 have h1:=hB.len
 have h2:=hB.small
 refine⟨by simp [ze];omega,fun x hx=>?_⟩
 obtain⟨e,he,rfl⟩:=List.mem_map.1 hx
 have:=(h e he).2
 omega
theorem qk0:∀ (b:List qr) (k:Nat) (l:qp) (ids:List Int),(ke k b l ids).1≠.no→(ke k b l ids).1.code≠0
 | [],k,l,ids,h=>by simp [ke] at h
 |x::r,k,l,ids,h=>by
  unfold ke at h ⊢
  split
  ·rename_i he
   rw [if_pos he] at h
   exact qk0 r _ _ _ h
  ·rename_i he
   exact qq6 he
theorem q4n {l:qp} {b:List qr} (h:(doF l b).1≠.no):(doF l b).1.code≠0:=by
 unfold doF at h ⊢
 split
 ·rename_i he
  rw [if_pos he] at h
  exact qk0 _ _ _ _ h
 ·rename_i he
  exact fun h'=>he ((q1y b).1 h')
theorem qux {text:qc} (h:zx text≠.no):(zx text).code≠0:=by
 cases hpe:zx text with
 |no=>exact absurd hpe h
 |num n=>have:=qz0 hpe;simp [ErrV.code];omega
 |at' a n=>have:=q2y hpe;simpa [ErrV.code] using this
theorem quq {e:ErrV} (h:e≠.no→e.code≠0):okE e:=by
 cases e with
 |no=>trivial
 |num n=>exact h (by simp)
 |at' a n=>exact h (by simp)
end Go.Proofs.YtejoahlpbckbeaaGreatDoor
namespace Go.Pl
open Go Go.Proofs
def yf:List EntV→Option (EntV×List EntV)
 | []=>none
 |e::r=>if 0<e.id then some (e,r) else yf r
def stzF (es:List EntV):List (Int×List Fld):=(es.filter fun e=>decide (0<e.id)).map fun e=>(e.id,e.x.fields)
theorem qn0:∀ {r:List EntV},yf r=none→stzF r=[]
 | [],_=>rfl
 |e::r,h=>by
  unfold yf at h
  split at h
  ·simp at h
  ·rename_i h0
   have:=qn0 h
   simpa [stzF,h0] using this
theorem qn1:∀ {r:List EntV} {e:EntV} {q:List EntV},yf r=some (e,q)→0<e.id∧e∈r∧stzF r=(e.id,e.x.fields)::stzF q∧q.length<r.length∧∀ y∈q,y∈r
 |x::r,e,q,h=>by
  unfold yf at h
  split at h
  ·rename_i h0
   simp only [Option.some.injEq,Prod.mk.injEq] at h
   obtain⟨rfl,rfl⟩:=h
   exact⟨h0,by simp,by simp [stzF,h0],by simp,fun y hy=>by simp [hy]⟩
  ·rename_i h0
   obtain⟨h1,h2,h3,h4,h5⟩:=qn1 h
   exact⟨h1,by simp [h2],by simpa [stzF,h0] using h3,by simp;omega,fun y hy=>by simp [h5 y hy]⟩
end Go.Pl
namespace Go.Proofs.YtejoahlpbckbeaaGreatDoor
open Go Go.Av Go.RowKit Go.Proofs Go.Pl
theorem za0 {m:Nat} {T:TypeId} {S':List AObj} {cs0:List AV} (h:S'.length=m∨∃ cs,S'[m]? = some (.cells 0 T cs)):∃ cs,(S'++[AObj.cells 0 T cs0])[m]? = some (.cells 0 T cs):=by
 rcases h with rfl | ⟨cs,h⟩
 ·exact⟨cs0,by simp⟩
 ·exact⟨cs,by rw [List.getElem?_append_left (lt_of_getElem? h)];exact h⟩
theorem za1 {m:Nat} {T:TypeId} {S':List AObj} (h:S'.length=m∨∃ cs,S'[m]? = some (.cells 0 T cs)):m≤S'.length:=by
 rcases h with rfl | ⟨cs,h⟩
 ·omega
 ·exact Nat.le_of_lt (lt_of_getElem? h)
theorem qps {L:List (Tmp×AV)} {st:List AObj} {df:List Nat} {s:AS} (h:StA L st df s):StA L (st++[]) df s:=by
 rw [List.append_nil]
 exact h
theorem q62 (l:qp) (o kb n m:Nat) (I:List EntV→List AObj→Prop) (D:List AObj→Prop) (S:List AObj) (hm:S.length=m) (hn:n≤m) (hl:l.ents.length<1000000) (h0:I l.ents S)
  (hI:∀ r S',I r S'→S'[kb]? = some (.cells 0 46 [ki l]))
  (hst:∀ r S' S'',Ext n S' S''→I r S'→I r S'')
  (hY:∀ r e q S' cs,I r S'→S'[m]? = some (.cells 0 114 cs)→yf r=some (e,q)→qap E o [entA e] S' fun b S''=>S''[m]? = some (.cells 0 114 cs)∧(b=true→I q S'')∧(b=false→D S'')) :
  qn E 166 [.yd o,.bx kb 0 0] S fun r S'=>(∃ i,yf i=none∧I i S')∨D S':=by
 refine qx Tryz.func166 rfl (Nat.le_of_ble_eq_true rfl) ?_
 have hb:=hI _ S h0
 have hmi:(l.ents.map entA).length=l.ents.length:=by simp
 repeat' (first|apply qt|apply za|apply qj|apply qi|apply ql|(apply qh;exact rfl;apply cd_f;exact cRa)|(apply jx;(iterate 4 exact rfl))|(apply xj;(iterate 4 exact rfl))|(apply j9;(iterate 3 exact rfl))|(apply wc;exact rfl;exact rfl)|(apply x5;(iterate 3 exact rfl))|apply q9|(apply qio;exact rfl;exact rfl;exact hb;exact rfl;exact rfl))
 refine vw (fun (k:Nat) s=>∃ S' r,I r S'∧(S'.length=m∨∃ cs,S'[m]? = some (.cells 0 114 cs))∧k≤l.ents.length∧yf r=yf (l.ents.drop k)∧StA [(0,.yd o),(10,.sl 4 (l.ents.map entA) none),(11,Iv l.ents.length),(12,Iv k)] (S'++[]) [] s) (fun k=>l.ents.length - k) 0
  ⟨_,_,hst _ _ _ (qen (by omega)) h0,.inl (by simpa using hm),by omega,by simp,qps (kz ⟨rfl,rfl,congrArg (fun n:Nat=>Iv (n:Int)) hmi,rfl,trivial⟩)⟩ ?_
 rintro k _ ⟨S',r,hi,hown,hk,hnx,t,rfl⟩
 have hml:=za1 hown
 by_cases hkn:k<l.ents.length
 ·have hx:l.ents[k]? = some l.ents[k]:=List.getElem?_eq_getElem hkn
  have hxm:(l.ents.map entA)[k]? = some (entA l.ents[k]):=by rw [List.getElem?_map,hx];rfl
  rw [List.drop_eq_getElem_cons hkn,yf] at hnx
  generalize l.ents[k]=e at hx hxm hnx
  obtain⟨cs,hcs⟩:=za0 (cs0:=(entA e).cells) hown
  by_cases he:0<e.id
  ·rw [if_pos he] at hnx
   repeat' (first|apply qt|apply za|apply qj|apply qi|apply ql|(apply q7;(iterate 3 exact rfl))|(apply jr;(iterate 4 exact rfl))|(apply qe6;exact cAo)|(apply qh;exact rfl;apply xk;exact cAo)|(apply vo;exact rfl;exact rfl)|(apply jg;(iterate 3 exact rfl))|(apply j9;(iterate 3 exact rfl))|(apply km;(iterate 5 exact rfl))|(apply kp;(iterate 11 exact rfl))|apply q9|(apply vp (n:=k);(iterate 5 exact rfl);exact hxm))
   apply qgs (o:=o) rfl
   refine qap.mono (hY r e _ _ cs (hst _ _ _ (qen (by omega)) hi) hcs hnx) ?_
   rintro b S2 ⟨h1,h2,h3⟩
   show AOps _ _ _ _ _ _ _
   cases b
   ·skip
    repeat' (first|apply qi|(apply wx;exact rfl)|(apply jr;(iterate 4 exact rfl))|(apply qe6;exact cAo)|(apply zf;exact rfl;apply qkj;exact cAo)|(apply qh;exact rfl;apply qsc;exact cRa)|apply zi)
    exact qv rfl (qas rfl) (.inr (h3 rfl))
   ·skip
    repeat' (first|apply qj|apply qi|apply ql|(apply wx;exact rfl)|(apply jr;(iterate 4 exact rfl))|(apply qe6;exact cAo)|(apply zf;exact rfl;apply qkj;exact cAo)|(apply qh;exact rfl;apply qyw;exact cRa)|(apply jj;exact rfl;exact rfl;exact zy (by omega) (by omega))|apply q9)
    exact⟨k+1,⟨_,_,h2 rfl,.inr ⟨cs,h1⟩,by omega,rfl,qps (kz ⟨rfl,rfl,rfl,rfl,trivial⟩)⟩,by omega⟩
  ·rw [if_neg he] at hnx
   repeat' (first|apply qt|apply za|apply qj|apply qi|apply ql|(apply q7;(iterate 3 exact rfl))|(apply jr;(iterate 4 exact rfl))|(apply qqv;exact cAo)|(apply zf;exact rfl;apply qsj;exact cAo)|(apply qh;exact rfl;apply xk;exact cAo)|(apply qh;exact rfl;apply cd_f;exact cRa)|(apply jj;exact rfl;exact rfl;exact zy (by omega) (by omega))|(apply vo;exact rfl;exact rfl)|(apply jg;(iterate 3 exact rfl))|(apply j9;(iterate 3 exact rfl))|(apply km;(iterate 5 exact rfl))|(apply kp;(iterate 11 exact rfl))|apply q9|(apply vp (n:=k);(iterate 5 exact rfl);exact hxm))
   exact⟨k+1,⟨_,_,hst _ _ _ (qen (by omega)) hi,.inr ⟨cs,hcs⟩,by omega,hnx,qps (kz ⟨rfl,rfl,rfl,rfl,trivial⟩)⟩,by omega⟩
 ·rw [List.drop_of_length_le (by omega),yf] at hnx
  repeat' (first|apply qt|apply qj|apply qi|(apply q7;(iterate 3 exact rfl))|(apply qh;exact rfl;apply y4;exact cAo)|apply vt)
  exact qv rfl (qas rfl) (.inl ⟨r,hnx,hst _ _ _ (qen (by omega)) hi⟩)
def allY (r:List EntV):Option (SV×List EntV):=(yf r).map fun x=>(.a (entA x.1),x.2)
theorem q9v (l:qp) (hl:l.ents.length<1000000):ItC 166 46 [ki l] (evY allY) l.ents:=⟨fun o kb n m I D S hm hn h0 hI hst hY=>by
 refine (q62 l o kb n m I D S hm hn hl h0 hI hst fun r e q S' cs hi hown hx=>?_).mono ?_
 ·refine (hY r (entA e) q S' [.cells 0 114 cs] hi (fun j y hy=>?_) (by simp [evY,allY,hx,SV.ev])).mono fun b S'' ⟨h1,h2,h3⟩=>⟨by have:=h1 0 _ rfl;simpa using this,h2,h3⟩
  match j with
  | 0=>
   simp only [List.getElem?_cons_zero,Option.some.injEq] at hy
   subst hy
   exact⟨hown,xw rfl⟩
  |j+1=>simp at hy
 ·rintro r S' (⟨i,h1,h2⟩|h)
  ·exact .inl ⟨i,by simp [evY,allY,h1],h2⟩
  ·exact .inr h⟩
theorem zam (l:qp):jo E 108 [.a (ki l)] 0 (hpF []) ⟨.fn (.func 166) [] [.bx 0 0],je [],[(0,some (.cells 46 [.a (ki l)]))]++j6 [],1⟩:=by
 refine vj [.a (ki l)] [] 0 (.fn (.func 166) [] [.bx 0 0]) [(0,some (.cells 46 [.a (ki l)]))] 1 Tryz.func108 rfl rfl rfl rfl fun S F ρ=>?_
 apply qe [1]
 repeat' (first|apply And.intro|(intro h;try exact cDd)|exact cSd|apply qd [1]|refine exr ?_|refine qg ?_)
@[reducible] def stzA (x : Int × List Fld) : AV := .ag [Iv x.1, zr x.2]
@[reducible] def qsl (s : List (Int × List Fld)) : AV := .sl 2 (s.map stzA) none
theorem q0h (s:List (Int×List Fld)):Pure (qsl s):=qa7 fun x hx=>by
 obtain⟨f,_,rfl⟩:=List.mem_map.1 hx
 intro y hy
 simp only [AV.cells,List.mem_cons,List.not_mem_nil,or_false] at hy
 rcases hy with rfl|rfl
 ·exact q8 _
 ·exact qa4 _
theorem qc8 (es:List EntV):(stzF es).length≤es.length:=by
 unfold stzF
 rw [List.length_map]
 exact List.length_filter_le _ _
theorem qve {N:Nat} {B:Bs} {C:Conf} {Q:Exit→Conf→Prop} {X:Type} {f:Operand} {p:Tmp} {asg body:Code} (l:qp) (kb n0:Nat) (ks:List Nat) (I:X→Conf) (sl0:List (Nat×SV)) (P:List EntV→X→Prop) (D:Code→X→Prop) (x0:X) (h0:P l.ents x0)
  (he:EntA B.n0 C (I x0)) (hz:¬ B.dz) (hl:l.ents.length<1000000) (hsl:∀ x,(I x).sl=sl0)
  (hf:sval N sl0 f=some (.fn (.func 166) [] [.bx kb 0]))
  (hkb:∀ x,lkS (I x).hp kb=some (some (.cells 46 [.a (ki l)])))
  (hr:∀ x,y9 n0 ks (I x).sl (I x).hp (I x).nx=true) (h0r:(ksIn n0 ks (I x0).hp && Nat.ble B.n0 n0)=true)
  (hb:∀ r e q x,P r x→yf r=some (e,q)→RA E N n0 asg (fun F ρ C1=>RB E N F ρ n0 body (rndQ n0 (P q) D I) C1) ⟨(p,.a (entA e))::(I x).sl,(I x).hp,(I x).nx⟩)
  (hn:∀ r x,yf r=none→P r x→Q .normal (I x)) (hd:∀ c x,D c x→qy0 Q c (I x)):Sm E none N B (.rangeFunc f #[p] asg body) Q C:=by
 refine qle (q9v l hl) Tryz.call166 (fun i v j h=>?_) kb n0 [.a (ki l)] (fun _=>rfl) ks I sl0 P D x0 h0 he hz hsl hf hkb hr h0r (fun i x v j hp h=>?_) (fun i x h hp=>?_) hd
 ·unfold allY at h
  cases hx:yf i with
  |none=>rw [hx] at h;simp at h
  |some y=>
   rw [hx] at h
   simp only [Option.map_some,Option.some.injEq,Prod.mk.injEq] at h
   rw [← h.1]
   try rfl
 ·unfold allY at h
  cases hx:yf i with
  |none=>rw [hx] at h;simp at h
  |some y=>
   rw [hx] at h
   simp only [Option.map_some,Option.some.injEq,Prod.mk.injEq] at h
   obtain⟨h1,h2⟩:=h
   rw [← h1,← h2]
   exact hb i y.1 y.2 x hp hx
 ·unfold allY at h
  cases hx:yf i with
  |none=>exact hn i x hx hp
  |some y=>rw [hx] at h;simp at h
theorem qny (l:qp) (st:List AObj) (hl:l.ents.length<1000000) (hI:∀ e∈l.ents,e.x.fields.length<1000000):qn E 59 [ki l] st fun r st'=>r=qsl (stzF l.ents)∧st'=st:=by
 refine jc [.a (ki l)] (q0h _) Tryz.func59 rfl rfl (fun _=>rfl) rfl fun S0=>?_
 apply qe []
 repeat' (first|apply And.intro|(intro h;try exact cDd)|exact⟨Tryz.call108⟩|(refine z0 (zam l) ?_)|exact cSd|apply qd []|refine exr ?_|refine qg ?_)
 refine qve (X:=List (Int×List Fld)) l 1 2 [0,1] (fun out=>⟨[(3,.bx 0 0),(6,.fn (.func 166) [] [.bx 1 0])],[(0,some (.cells 117 [.tp 2])),(1,some (.cells 46 [.a (ki l)])),(2,some (.tip 2 120 (out.map stzA)))],3⟩) _
  (fun r out=>out++stzF r=stzF l.ents∧out.length+r.length≤l.ents.length∧∀ y∈r,y∈l.ents) (fun _ _=>False) [] ⟨by simp,by simp,fun _ h=>h⟩ ?_ id hl (fun _=>rfl) rfl (fun _=>rfl) (fun _=>rfl) rfl ?_ ?_ (fun _ _ h=>h.elim)
 ·skip
  repeat' (first|apply And.intro|(intro h;try exact cDd)|exact cSd|apply qd []|refine exr ?_|refine qg ?_)
 ·rintro r e q out ⟨h1,h2,h3⟩ hx
  obtain⟨g1,g2,g3,g4,g5⟩:=qn1 hx
  rw [g3] at h1
  have hcl:=fun st=>y5 e.x.fields st (hI e (h3 e g2))
  have hml:(out.map stzA).length=out.length:=by simp
  refine RA.mk fun S F ρ rd=>?_
  apply qe []
  repeat' (first|apply And.intro|(intro h;try exact cDd)|(refine RB.mk fun S rd=>?_;apply qe [])|exact⟨Tryz.call109⟩|refine cpe hcl ?_|(refine Exists.intro (out++[(e.id,e.x.fields)]) ⟨⟨by rw [← h1];simp,by simp;omega,fun y hy=>h3 y (g5 y hy)⟩,?_⟩)|exact cSd|apply qd []|refine exr ?_|refine qg ?_)
  all_goals first|(simp [SV.evs,SV.ev];done)|(simp [SV.evs];omega)
 ·rintro r out hx ⟨h1,h2,h3⟩
  rw [qn0 hx,List.append_nil] at h1
  rw [← h1]
  repeat' (first|apply And.intro|(intro h;try exact cDd)|exact cSd|apply qd []|refine exr ?_|refine qg ?_)
end Go.Proofs.YtejoahlpbckbeaaGreatDoor
namespace Go.Pl
open Go Go.Proofs
theorem qid (a b:List EntV):stzF (a++b)=stzF a++stzF b:=by simp [stzF]
end Go.Pl
namespace Go.Pl
open Go Go.Proofs Go.Proofs.YtejoahlpbckbeaaGreatDoor
def recI (its:List qu):List qu:=its.filter fun x=>decide (x.kind=3)
theorem qoe:∀ (its:List qu) (p:Bool),recI (z6 p its)=recI its
 | [],_=>rfl
 |x::r,p=>by
  have ih:=qoe r (decide (x.kind≠1))
  unfold recI at ih
  rw [z6]
  split
  ·simp only [recI,List.cons_append,List.nil_append,List.filter_cons]
   rw [ih]
   simp
  ·simp only [recI,List.cons_append,List.nil_append,List.filter_cons]
   rw [ih]
theorem qqq:∀ (es:List EntV),(∀ e∈es,0<e.id↔e.x.kind=3)→(es.filter fun e=>decide (0<e.id)).map (fun e=>e.x)=recI (es.map fun e=>e.x)
 | [],_=>rfl
 |e::r,h=>by
  have ih:=qqq r fun y hy=>h y (by simp [hy])
  have he:=h e (by simp)
  unfold recI at ih ⊢
  by_cases hk:e.x.kind=3
  ·rw [List.filter_cons_of_pos (by simpa using he.2 hk),List.map_cons,List.map_cons,List.filter_cons_of_pos (by simpa using hk),ih]
  ·rw [List.filter_cons_of_neg (by simpa using fun h=>hk (he.1 h)),List.map_cons,List.filter_cons_of_neg (by simpa using hk),ih]
theorem qvk {l:qp} (h:GL l):(stzF l.ents).map Prod.snd=Go.Proofs.YtejoahlpbckbeaaGreatDoor.recsF (ze l):=by
 have:=qqq l.ents fun e he=>(h.ok e he).2
 unfold stzF Go.Proofs.YtejoahlpbckbeaaGreatDoor.recsF
 rw [List.map_map,show ze l=l.ents.map (fun e=>e.x) from rfl]
 unfold recI at this
 rw [← this,List.map_map]
 rfl
theorem q0l {l:qp} (h:GL l):Go.Proofs.YtejoahlpbckbeaaGreatDoor.recsF (jw (wo l)).2=(stzF l.ents).map Prod.snd:=by
 rw [qvk h,qrm h]
 unfold Go.Proofs.YtejoahlpbckbeaaGreatDoor.recsF
 have:=qoe (ze l) false
 unfold recI at this
 unfold ww
 rw [this]
theorem qxb {l:qp} (h:GL l) (hl:(wo l).length≤60000):zx (wo l) = .no:=by
 unfold zx
 rw [if_neg (by omega),qrm h]
def idsL (es:List EntV):List Int:=(es.filter fun e=>decide (0<e.id)).map fun e=>e.id
theorem ym (a b:List EntV):idsL (a++b)=idsL a++idsL b:=by simp [idsL]
theorem qb8 (e:EntV) (b:List EntV):idsL (e::b)=if 0<e.id then e.id::idsL b else idsL b:=by
 unfold idsL
 by_cases h:0<e.id
 ·rw [if_pos h,List.filter_cons_of_pos (by simpa using h)];rfl
 ·rw [if_neg h,List.filter_cons_of_neg (by simpa using h)]
theorem ql2 {es:List EntV} {n:Int}:n∈idsL es↔0<n∧∃ e∈es,e.id=n:=by
 unfold idsL
 simp only [List.mem_map,List.mem_filter,decide_eq_true_eq]
 constructor
 ·rintro⟨e,⟨he,h⟩,rfl⟩
  exact⟨h,e,he,rfl⟩
 ·rintro⟨h,e,he,rfl⟩
  exact⟨e,⟨he,h⟩,rfl⟩
structure GN (l:qp):Prop where
 nd:(idsL l.ents).Nodup
 lt:∀ e∈l.ents,e.id<l.next
 nx:1≤l.next
theorem q2u {l:qp} {x:qu} (h:GN l):GN (ve l x):=by
 obtain⟨h1,h2,h3⟩:=h
 unfold ve
 split
 ·refine⟨?_,fun e he=>?_,by simp only;omega⟩
  ·simp only
   rw [ym,qb8,if_pos (by simp only;omega)]
   refine List.nodup_append.2 ⟨h1,by simp [idsL],fun a ha b hb=>?_⟩
   obtain⟨_,e,he,rfl⟩:=ql2.1 ha
   have:=h2 e he
   simp [idsL] at hb
   omega
  ·rcases List.mem_append.1 he with he|he
   ·have:=h2 e he;simp only;omega
   ·simp only [List.mem_cons,List.not_mem_nil,or_false] at he;subst he;simp only;omega
 ·refine⟨?_,fun e he=>?_,h3⟩
  ·simp only
   rw [ym,qb8,if_neg (by simp)]
   simpa [idsL] using h1
  ·rcases List.mem_append.1 he with he|he
   ·exact h2 e he
   ·simp only [List.mem_cons,List.not_mem_nil,or_false] at he;subst he;simp only;omega
theorem qq5:∀ (its:List qu) (l:qp),GN l→GN (its.foldl ve l)
 | [],l,h=>h
 |x::r,l,h=>qq5 r (ve l x) (q2u h)
theorem qum (its:List qu):GN (ofF its):=qq5 its ⟨[],1,0⟩ ⟨by simp [idsL],by simp,by simp⟩
theorem q42 {es:List EntV} {i:Nat} {e:EntV} {x:qu} (h:es[i]? = some e):idsL (es.set i ⟨x,e.id⟩)=idsL es:=by
 obtain⟨hlt,rfl⟩:=List.getElem?_eq_some_iff.1 h
 have e1:=List.take_append_drop i es
 rw [List.drop_eq_getElem_cons hlt] at e1
 rw [List.set_eq_take_append_cons_drop,if_pos hlt]
 conv=>rhs;rw [← e1]
 rw [ym,ym,qb8,qb8]
theorem q5w {l:qp} (h:GN l) (id:Int) (fs:List Fld):GN (v8 l id fs).2:=by
 unfold v8
 split
 ·exact h
 ·split
  ·unfold qeh
   split
   ·rename_i e he
    refine⟨by simp only;rw [q42 he];exact h.nd,fun y hy=>?_,h.nx⟩
    rcases List.mem_or_eq_of_mem_set hy with hy|rfl
    ·exact h.lt y hy
    ·exact h.lt e (List.mem_of_getElem? he)
   ·exact h
  ·exact h
theorem q7o {l:qp} (h:GN l) (id:Int):GN (delF l id).2:=by
 unfold delF
 split
 ·exact h
 ·generalize (atF l id).toNat=i
  refine⟨?_,fun y hy=>?_,h.nx⟩
  ·have:=h.nd
   rw [← List.take_append_drop i l.ents,ym] at this
   unfold delL
   simp only
   rw [ym]
   refine List.Nodup.sublist (List.Sublist.append (List.Sublist.refl _) ?_) this
   unfold idsL
   refine List.Sublist.map _ (List.Sublist.filter _ ?_)
   rw [← List.drop_drop]
   exact List.drop_sublist 1 _
  ·rcases List.mem_append.1 hy with hy|hy
   ·exact h.lt y (List.mem_of_mem_take hy)
   ·exact h.lt y (List.mem_of_mem_drop hy)
theorem q76 {l:qp} (h:GN l) (id:Int) (fs:List Fld):GN (insF l id fs).2.2:=by
 unfold insF
 split
 ·exact h
 ·split
  ·split
   ·exact h
   ·generalize (atF l id+1).toNat=k
    have hn:=h.nx
    refine⟨?_,fun y hy=>?_,by simp only [insL];omega⟩
    ·have:=h.nd
     rw [← List.take_append_drop k l.ents,ym] at this
     unfold insL
     simp only
     rw [ym,qb8,if_pos (by simp only;omega)]
     refine (List.perm_middle.nodup_iff).2 (List.nodup_cons.2 ⟨fun hm=>?_,this⟩)
     rw [← ym,List.take_append_drop] at hm
     obtain⟨_,e,he,hen⟩:=ql2.1 hm
     have hen:e.id=l.next:=hen
     have:=h.lt e he
     omega
    ·show y.id<l.next+1
     rcases List.mem_append.1 hy with hy|hy
     ·have:=h.lt y (List.mem_of_mem_take hy);omega
     ·rcases List.mem_cons.1 hy with rfl|hy
      ·simp only;omega
      ·have:=h.lt y (List.mem_of_mem_drop hy);omega
  ·exact h
theorem qce (e:EntV) (b:List EntV):stzF (e::b)=if 0<e.id then (e.id,e.x.fields)::stzF b else stzF b:=by
 unfold stzF
 by_cases h:0<e.id
 ·rw [if_pos h,List.filter_cons_of_pos (by simpa using h)];rfl
 ·rw [if_neg h,List.filter_cons_of_neg (by simpa using h)]
theorem qdx:∀ (es:List EntV) (a b:List (Int×List Fld)) (x:Int×List Fld),stzF es=a++x::b→∃ A e B,es=A++e::B∧stzF A=a∧stzF B=b∧0<e.id∧x=(e.id,e.x.fields)
 | [],a,b,x,h=>by
  have:stzF []=[]:=rfl
  rw [this] at h
  cases a <;> simp at h
 |e::r,a,b,x,h=>by
  rw [qce] at h
  by_cases he:0<e.id
  ·rw [if_pos he] at h
   cases a with
   |nil=>
    simp only [List.nil_append,List.cons.injEq] at h
    exact⟨[],e,r,rfl,rfl,h.2,he,h.1.symm⟩
   |cons y a=>
    simp only [List.cons_append,List.cons.injEq] at h
    obtain⟨A,e',B,rfl,h1,h2,h3,h4⟩:=qdx r a b x h.2
    exact⟨e::A,e',B,rfl,by rw [qce,if_pos he,h1,h.1],h2,h3,h4⟩
  ·rw [if_neg he] at h
   obtain⟨A,e',B,rfl,h1,h2,h3,h4⟩:=qdx r a b x h
   exact⟨e::A,e',B,rfl,by rw [qce,if_neg he,h1],h2,h3,h4⟩
theorem qxq {id:Int} {e:EntV} {B:List EntV} (he:e.id=id):∀ (A:List EntV) (k:Nat),(∀ y∈A,y.id≠id)→xi id k (A++e::B)=((k+A.length:Nat):Int)
 | [],k,_=>by
  rw [List.nil_append,xi,if_pos he]
  rfl
 |y::A,k,h=>by
  rw [List.cons_append,xi,if_neg (h y (by simp)),qxq he A (k+1) fun z hz=>h z (by simp [hz])]
  simp only [List.length_cons]
  omega
theorem qlm {l:qp} {A B:List EntV} {e:EntV} (h:GN l) (hs:l.ents=A++e::B) (he:0<e.id):atF l e.id=(A.length:Int):=by
 unfold atF
 rw [if_neg (by omega),hs,qxq rfl A 0 fun y hy hh=>?_]
 ·simp
 ·have hnd:=h.nd
  rw [hs,ym,qb8,if_pos he] at hnd
  have hm:y.id∈idsL A:=ql2.2 ⟨by omega,y,hy,rfl⟩
  exact (List.nodup_append.1 hnd).2.2 _ hm _ (by simp) hh
theorem q50 {l:qp} {a b:List (Int×List Fld)} {id:Int} {f fs:List Fld} (h:GN l) (hs:stzF l.ents=a++(id,f)::b) (hc:zl fs = .no):(v8 l id fs).1 = .no∧stzF (v8 l id fs).2.ents=a++(id,fs)::b∧(v8 l id fs).2.next=l.next:=by
 obtain⟨A,e,B,h1,h2,h3,h4,h5⟩:=qdx _ _ _ _ hs
 simp only [Prod.mk.injEq] at h5
 obtain⟨rfl,rfl⟩:=h5
 unfold v8
 rw [qlm h h1 h4,if_neg (by omega),if_pos hc,Int.toNat_natCast]
 unfold qeh
 have hg:l.ents[A.length]? = some e:=by rw [h1];simp
 rw [hg]
 refine⟨rfl,?_,rfl⟩
 simp only
 rw [h1,List.set_append_right _ _ (Nat.le_refl _),Nat.sub_self,List.set_cons_zero,qid,qce,if_pos h4,h2,h3]
 unfold wb
 rw [if_pos hc]
theorem q7s {l:qp} {a b:List (Int×List Fld)} {id:Int} {f:List Fld} (h:GN l) (hs:stzF l.ents=a++(id,f)::b):(delF l id).1 = .no∧stzF (delF l id).2.ents=a++b∧(delF l id).2.next=l.next:=by
 obtain⟨A,e,B,h1,h2,h3,h4,h5⟩:=qdx _ _ _ _ hs
 simp only [Prod.mk.injEq] at h5
 obtain⟨rfl,rfl⟩:=h5
 unfold delF
 rw [qlm h h1 h4,if_neg (by omega),Int.toNat_natCast]
 refine⟨rfl,?_,rfl⟩
 unfold delL
 simp only
 rw [h1,List.take_left,show (A++e::B).drop (A.length+1)=B by simp,qid,h2,h3]
theorem q8a {l:qp} {a b:List (Int×List Fld)} {bh:Int} {fs:List Fld} (h:GN l) (hs:stzF l.ents=a++b) (hb:bh=(a.getLast?.map Prod.fst).getD 0) (hc:zl fs = .no) :
  (400≤l.many∧(insF l bh fs).2.1 = .num 11)∨((insF l bh fs).2.1 = .no∧stzF (insF l bh fs).2.2.ents=a++(l.next,fs)::b∧(insF l bh fs).2.2.next=l.next+1∧(insF l bh fs).1=l.next):=by
 have hn:=h.nx
 have fin:∀ A B:List EntV,l.ents=A++B→stzF A=a→stzF B=b→atF l bh+1=(A.length:Int)→(¬ (atF l bh<0∧bh≠0)) →
   (400≤l.many∧(insF l bh fs).2.1 = .num 11)∨((insF l bh fs).2.1 = .no∧stzF (insF l bh fs).2.2.ents=a++(l.next,fs)::b∧(insF l bh fs).2.2.next=l.next+1∧(insF l bh fs).1=l.next):=fun A B h1 h2 h3 h4 h5=>by
  unfold insF
  rw [if_neg h5,if_pos hc]
  by_cases hm:400≤l.many
  ·rw [if_pos hm]
   exact .inl ⟨hm,rfl⟩
  ·rw [if_neg hm,h4,Int.toNat_natCast]
   refine .inr ⟨rfl,?_,rfl,rfl⟩
   unfold insL
   simp only
   rw [h1,List.take_left,List.drop_left,qid,qce,if_pos (by simp only;omega),h2,h3]
   unfold wb
   rw [if_pos hc]
 rcases List.eq_nil_or_concat a with rfl | ⟨a',x,rfl⟩
 ·have h0:bh=0:=by simpa using hb
  subst h0
  refine fin [] l.ents rfl rfl (by simpa using hs) ?_ (by simp)
  unfold atF
  rw [if_pos (by omega)]
  rfl
 ·have hx:bh=x.1:=by simpa using hb
  subst hx
  rw [List.concat_eq_append,List.append_assoc] at hs
  obtain⟨A,e,B,h1,h2,h3,h4,h5⟩:=qdx _ _ _ _ hs
  subst h5
  have ha:=qlm h h1 h4
  refine fin (A++[e]) B (by rw [h1];simp) ?_ h3 (by rw [ha];simp) (by rw [ha];omega)
  rw [qid,qce,if_pos h4,h2]
  simp [stzF]
def zb:List Int→List (Int×List Fld)→List (List Fld)→Int→Int→List qr
 | [],_,_,_,_=>[]
 |w::ws,S,R,bh,nx=>
  if w=4 then⟨3,bh,R.headD []⟩::zb ws S R.tail nx (nx+1)
  else if w=3 then⟨2,(S.headD (0,[])).1,[]⟩::zb ws S.tail R bh nx
  else if w=2 then⟨1,(S.headD (0,[])).1,R.headD []⟩::zb ws S.tail R.tail (S.headD (0,[])).1 nx
  else zb ws S.tail R.tail (S.headD (0,[])).1 nx
inductive OkW:List Int→List (Int×List Fld)→List (List Fld)→Prop
 |nil:OkW [] [] []
 |keep {s:Int×List Fld} {S:List (Int×List Fld)} {R:List (List Fld)} {ws:List Int}:OkW ws S R→OkW (1::ws) (s::S) (s.2::R)
 |change {s:Int×List Fld} {r:List Fld} {S:List (Int×List Fld)} {R:List (List Fld)} {ws:List Int}:OkW ws S R→OkW (2::ws) (s::S) (r::R)
 |drop {s:Int×List Fld} {S:List (Int×List Fld)} {R:List (List Fld)} {ws:List Int}:OkW ws S R→OkW (3::ws) (s::S) R
 |add {r:List Fld} {S:List (Int×List Fld)} {R:List (List Fld)} {ws:List Int}:OkW ws S R→OkW (4::ws) S (r::R)
def vd (done:List (Int×List Fld)):Int:=(done.getLast?.map Prod.fst).getD 0
theorem qgn (done:List (Int×List Fld)) (x:Int×List Fld):vd (done++[x])=x.1:=by simp [vd]
theorem q3f {ws:List Int} {S:List (Int×List Fld)} {R:List (List Fld)} (h:OkW ws S R):∀ (l:qp) (done:List (Int×List Fld)) (k:Nat) (ids:List Int),GN l→stzF l.ents=done++S→(∀ r∈R,zl r = .no) →
  (∃ j,(ke k (zb ws S R (vd done) l.next) l ids).1 = .at' j 11)∨((ke k (zb ws S R (vd done) l.next) l ids).1 = .no∧(stzF (ke k (zb ws S R (vd done) l.next) l ids).2.1.ents).map Prod.snd=done.map Prod.snd++R):=by
 induction h with
 |nil=>
  intro l done k ids hg hs hc
  refine .inr ⟨rfl,?_⟩
  show (stzF l.ents).map Prod.snd=_
  rw [hs]
  simp
 | @keep s S R ws h ih=>
  intro l done k ids hg hs hc
  have e:zb (1::ws) (s::S) (s.2::R) (vd done) l.next=zb ws S R (vd (done++[s])) l.next:=by
   rw [qgn]
   simp [zb]
  rw [e]
  have:=ih l (done++[s]) k ids hg (by simpa using hs) fun r hr=>hc r (by simp [hr])
  simpa using this
 | @change s r S R ws h ih=>
  intro l done k ids hg hs hc
  obtain⟨h1,h2,h3⟩:=q50 (fs:=r) hg hs (hc r (by simp))
  have e:zb (2::ws) (s::S) (r::R) (vd done) l.next=⟨1,s.1,r⟩::zb ws S R (vd (done++[(s.1,r)])) (v8 l s.1 r).2.next:=by
   rw [qgn,h3]
   simp [zb]
  have ho:oneF l ⟨1,s.1,r⟩=(0,v8 l s.1 r):=by simp [oneF]
  rw [e,ke,ho]
  simp only
  rw [if_pos h1]
  have:=ih (v8 l s.1 r).2 (done++[(s.1,r)]) (k+1) (if (0:Int)<0 then ids++[0] else ids) (q5w hg _ _) (by simpa using h2) fun r hr=>hc r (by simp [hr])
  simpa using this
 | @drop s S R ws h ih=>
  intro l done k ids hg hs hc
  obtain⟨h1,h2,h3⟩:=q7s hg hs
  have e:zb (3::ws) (s::S) R (vd done) l.next=⟨2,s.1,[]⟩::zb ws S R (vd done) (delF l s.1).2.next:=by
   rw [h3]
   simp [zb]
  have ho:oneF l ⟨2,s.1,[]⟩=(0,delF l s.1):=by simp [oneF]
  rw [e,ke,ho]
  simp only
  rw [if_pos h1]
  have:=ih (delF l s.1).2 done (k+1) (if (0:Int)<0 then ids++[0] else ids) (q7o hg _) h2 hc
  simpa using this
 | @add r S R ws h ih=>
  intro l done k ids hg hs hc
  have ho:oneF l ⟨3,vd done,r⟩=insF l (vd done) r:=by simp [oneF]
  have e0:zb (4::ws) S (r::R) (vd done) l.next=⟨3,vd done,r⟩::zb ws S R l.next (l.next+1):=by simp [zb]
  rw [e0,ke,ho]
  rcases q8a (fs:=r) hg hs rfl (hc r (by simp)) with⟨_,h1⟩ | ⟨h1,h2,h3,h4⟩
  ·have hi:(insF l (vd done) r).2.1 = .num 11:=h1
   rw [hi,if_neg (by simp)]
   exact .inl ⟨k,rfl⟩
  ·have h1:(insF l (vd done) r).2.1 = .no:=h1
   have h2:stzF (insF l (vd done) r).2.2.ents=done++(l.next,r)::S:=h2
   have h3:(insF l (vd done) r).2.2.next=l.next+1:=h3
   rw [h1,if_pos rfl]
   have e:zb ws S R l.next (l.next+1)=zb ws S R (vd (done++[(l.next,r)])) (insF l (vd done) r).2.2.next:=by rw [qgn,h3]
   rw [e]
   have:=ih (insF l (vd done) r).2.2 (done++[(l.next,r)]) (k+1) (if 0<(insF l (vd done) r).1 then ids++[(insF l (vd done) r).1] else ids) (q76 hg _ _) (by simpa using h2) fun r hr=>hc r (by simp [hr])
   simpa using this
theorem qkg {ws t:List Int} {S S2:List (Int×List Fld)} {R R2:List (List Fld)} (h:OkW ws S R) (h2:OkW t S2 R2):OkW (ws++t) (S++S2) (R++R2):=by
 induction h with
 |nil=>exact h2
 |keep _ ih=>exact .keep ih
 |change _ ih=>exact .change ih
 |drop _ ih=>exact .drop ih
 |add _ ih=>exact .add ih
theorem qfj (S:List (Int×List Fld)) (R:List (List Fld)):∀ (n i j:Nat),i≤S.length→j≤R.length→i+j≤n→OkW (wayB (S.map Prod.snd) R n i j).reverse (S.take i) (R.take j)
 | 0,i,j,hi,hj,h=>by
  obtain⟨rfl,rfl⟩:i=0∧j=0:=by omega
  exact .nil
 |n+1,i,j,hi,hj,h=>by
  rw [wayB]
  by_cases h0:i=0∧j=0
  ·obtain⟨rfl,rfl⟩:=h0
   rw [if_pos ⟨rfl,rfl⟩]
   exact .nil
  ·rw [if_neg h0]
   have hl:=qji (S.map Prod.snd) R i j
   have hr:=qhs (S.map Prod.snd) R i j h0
   have htS:0<i→∃ s,S.take i=S.take (i - 1)++[s]∧S[i - 1]? = some s:=fun hp=>by
    have hlt:i - 1<S.length:=by omega
    refine⟨S[i - 1],?_,List.getElem?_eq_getElem hlt⟩
    rw [List.take_append_getElem hlt,show i - 1+1=i by omega]
   have htR:0<j→∃ r,R.take j=R.take (j - 1)++[r]∧R[j - 1]? = some r:=fun hp=>by
    have hlt:j - 1<R.length:=by omega
    refine⟨R[j - 1],?_,List.getElem?_eq_getElem hlt⟩
    rw [List.take_append_getElem hlt,show j - 1+1=j by omega]
   rw [List.reverse_cons]
   have hv:=qjj (S.map Prod.snd) R i j
   by_cases w4:v6 (S.map Prod.snd) R i j=4
   ·have hj0:=hr (by omega)
    obtain⟨r,e1,_⟩:=htR hj0
    rw [if_pos w4,if_neg (by omega),w4,e1]
    have:=qkg (qfj S R n i (j - 1) hi (by omega) (by omega)) (OkW.add (r:=r) .nil)
    simpa using this
   ·have hi0:=hl w4
    obtain⟨s,e1,e3⟩:=htS hi0
    by_cases w3:v6 (S.map Prod.snd) R i j=3
    ·rw [if_neg w4,if_pos w3,w3,e1]
     have:=qkg (qfj S R n (i - 1) j (by omega) hj (by omega)) (OkW.drop (s:=s) .nil)
     simpa using this
    ·have hj0:=hr w3
     obtain⟨r,e2,e4⟩:=htR hj0
     rw [if_neg w4,if_neg w3,e1,e2]
     by_cases w2:v6 (S.map Prod.snd) R i j=2
     ·rw [w2]
      exact qkg (qfj S R n (i - 1) (j - 1) (by omega) (by omega) (by omega)) (OkW.change (s:=s) (r:=r) .nil)
     ·have w1:v6 (S.map Prod.snd) R i j=1:=by omega
      have hk:(S.map Prod.snd)[i - 1]? = R[j - 1]?:=by
       unfold v6 at w1
       split at w1
       ·rename_i hh;exact hh.2.2.1
       ·split at w1
        ·omega
        ·split at w1 <;> omega
      rw [List.getElem?_map,e3,e4] at hk
      simp only [Option.map_some,Option.some.injEq] at hk
      subst hk
      rw [w1]
      exact qkg (qfj S R n (i - 1) (j - 1) (by omega) (by omega) (by omega)) (OkW.keep (s:=s) .nil)
theorem qp0 (S:List (Int×List Fld)) (R:List (List Fld)):OkW (wayF (S.map Prod.snd) R) S R:=by
 have:=qfj S R (S.length+R.length) S.length R.length (Nat.le_refl _) (Nat.le_refl _) (Nat.le_refl _)
 rw [List.take_length,List.take_length] at this
 unfold wayF
 rw [List.length_map]
 exact this
theorem qyy {fs:List Fld} (h:GF fs) (hne:fs≠[]):zl fs = .no:=by
 unfold zl
 rw [if_neg hne,if_neg (by have:=h.1;omega)]
 have:=qkx 0 fs [] fun x hx=>(yj x).2 (h.2 x hx)
 rw [List.append_nil] at this
 rw [this]
 rfl
theorem qwp {x:qu} (h:wv x) (hk:x.kind=3):zl x.fields = .no:=by
 have hp:=qjs (its:=[x]) (by simpa using h) (by simp [cntI,hk])
 have ha:ww [x]=[x]:=by simp [ww,z6]
 have hm:=qwy (zu (ww [x])) x (by rw [hp,ha];simp)
 exact qyy hm.1 (hm.2.1 hk)
theorem q3p {l:qp} (h:GL l):∀ r∈(stzF l.ents).map Prod.snd,zl r = .no:=fun r hr=>by
 unfold stzF at hr
 simp only [List.map_map,List.mem_map,List.mem_filter,decide_eq_true_eq] at hr
 obtain⟨e,⟨he,h0⟩,rfl⟩:=hr
 exact qwp (h.ok e he).1 ((h.ok e he).2.1 h0)
theorem qnb:∀ (b:List qr) (k:Nat),(∀ x∈b,gErr x = .no)→yo k b = .no
 | [],_,_=>rfl
 |x::r,k,h=>by
  rw [yo,if_pos (by rw [h x (by simp)];rfl),qnb r (k+1) fun y hy=>h y (by simp [hy])]
theorem qld {ws:List Int} {S:List (Int×List Fld)} {R:List (List Fld)} (h:OkW ws S R):∀ (bh nx:Int),(∀ r∈R,zl r = .no)→∀ x∈zb ws S R bh nx,gErr x = .no:=by
 induction h with
 |nil=>intro bh nx hc x hx;simp [zb] at hx
 | @keep s S R ws h ih=>
  intro bh nx hc x hx
  have e:zb (1::ws) (s::S) (s.2::R) bh nx=zb ws S R s.1 nx:=by simp [zb]
  rw [e] at hx
  exact ih _ _ (fun r hr=>hc r (by simp [hr])) x hx
 | @change s r S R ws h ih=>
  intro bh nx hc x hx
  have e:zb (2::ws) (s::S) (r::R) bh nx=⟨1,s.1,r⟩::zb ws S R s.1 nx:=by simp [zb]
  rw [e] at hx
  rcases List.mem_cons.1 hx with rfl|hx
  ·simpa [gErr] using hc r (by simp)
  ·exact ih _ _ (fun r hr=>hc r (by simp [hr])) x hx
 | @drop s S R ws h ih=>
  intro bh nx hc x hx
  have e:zb (3::ws) (s::S) R bh nx=⟨2,s.1,[]⟩::zb ws S R bh nx:=by simp [zb]
  rw [e] at hx
  rcases List.mem_cons.1 hx with rfl|hx
  ·simp [gErr]
  ·exact ih _ _ hc x hx
 | @add r S R ws h ih=>
  intro bh nx hc x hx
  have e:zb (4::ws) S (r::R) bh nx=⟨3,bh,r⟩::zb ws S R nx (nx+1):=by simp [zb]
  rw [e] at hx
  rcases List.mem_cons.1 hx with rfl|hx
  ·simpa [gErr] using hc r (by simp)
  ·exact ih _ _ (fun r hr=>hc r (by simp [hr])) x hx
def va (l:qp) (R:List (List Fld)):List qr:=zb (wayF ((stzF l.ents).map Prod.snd) R) (stzF l.ents) R 0 l.next
def jn (l:qp) (b:List qr):ErrV×qp:=if b=[] then (.no,l) else ((doF l b).1,(doF l b).2.1)
theorem qqi {l:qp} {R:List (List Fld)} (h:GN l) (hc:∀ r∈R,zl r = .no) (h40:(va l R).length≤40) :
  (∃ j,(jn l (va l R)).1 = .at' j 11)∨((jn l (va l R)).1 = .no∧(stzF (jn l (va l R)).2.ents).map Prod.snd=R):=by
 have hw:=qp0 (stzF l.ents) R
 have hs:=q3f hw l [] 0 [] h rfl hc
 have hg:=qld hw 0 l.next hc
 have hl:vd []=0:=rfl
 rw [hl] at hs
 unfold jn
 by_cases hb:va l R=[]
 ·rw [if_pos hb]
  unfold va at hb
  rw [hb] at hs
  rcases hs with⟨j,hs⟩ | ⟨_,hs⟩
  ·simp [ke] at hs
  ·exact .inr ⟨rfl,by simpa [ke] using hs⟩
 ·rw [if_neg hb]
  have he:eErr (va l R) = .no:=by
   have:=List.length_pos_iff.2 hb
   unfold eErr
   rw [if_neg (by omega)]
   exact qnb _ 0 hg
  unfold doF
  rw [if_pos he]
  simpa [va] using hs
def runT (text:qc):RunV:=(zbq (q6p text).2.base (q6p text).2.batches).2
end Go.Pl
namespace Go.Pl
open Go Go.Proofs Go.Av Go.Proofs.YtejoahlpbckbeaaGreatDoor
def dupS (key:qc) (pre:List (Int×List Fld)) (x:Int×List Fld):Bool:=(qj0 key x.2).any fun v=>pre.any fun y=>decide (v∈qj0 key y.2)
def q4h (r:qaj) (pre:List (Int×List Fld)) (x:Int×List Fld):Prop:=x.2.any (badR r)=true∨(r.kind=1∧cntR r x.2=0)∨(r.kind=2∧1<cntR r x.2)∨(r.kind=7∧dupS r.key pre x=true)
instance (r:qaj) (pre:List (Int×List Fld)) (x:Int×List Fld):Decidable (q4h r pre x):=inferInstanceAs (Decidable (_∨(_∧_)∨(_∧_)∨(_∧_)))
end Go.Pl
namespace Go.Pl
open Go
def i64 (n:Int):Prop:= -9223372036854775808≤n∧n≤9223372036854775807
end Go.Pl
namespace Go.Pl
open Go Go.Proofs Go.Proofs.YtejoahlpbckbeaaGreatDoor
theorem q2c (p:qc):∀ ls:List (qc×Bool),lsum ls≤(indF p ls).length
 | []=>by simp [lsum]
 |x::r=>by
  have ih:=q2c p r
  unfold lsum indF at ih ⊢
  simp only [List.map_cons,List.sum_cons,List.flatMap_cons,List.length_append]
  omega
theorem zaf (x:qr):(js x.fields).length≤(qbe x).length:=by
 have h1:=q2c [32,32] (zj (js x.fields))
 rw [(qjm _ _ (Nat.le_refl _)).1] at h1
 unfold qbe qeo
 simp only [List.length_append]
 omega
def wE (es:List EntV):Nat:=(es.map fun e=>e.x.raw.length).sum
theorem qor (a b:List EntV):wE (a++b)=wE a+wE b:=by simp [wE]
theorem qpz (e:EntV) (b:List EntV):wE (e::b)=e.x.raw.length+wE b:=by simp [wE]
theorem qos (es:List EntV) (i:Nat):wE es=wE (es.take i)+wE (es.drop i):=by rw [← qor,List.take_append_drop]
theorem qya (es:List EntV) (i:Nat):wE (es.drop (i+1))≤wE (es.drop i):=by
 have:=qos (es.drop i) 1
 rw [List.drop_drop] at this
 omega
theorem qyb:∀ es:List EntV,(zu (es.map fun e=>e.x)).length=wE es
 | []=>by simp [zu,wE]
 |e::r=>by
  have ih:=qyb r
  rw [qpz,List.map_cons]
  unfold zu at ih ⊢
  rw [List.flatMap_cons,List.length_append,ih]
theorem q81 (fs:List Fld):(wb fs).raw.length≤(js fs).length:=by
 unfold wb
 split
 ·exact Nat.le_refl _
 ·simp
theorem zaz (l:qp) (x:qr):wE (oneF l x).2.2.ents≤wE l.ents+(js x.fields).length:=by
 have hp:=q81 x.fields
 unfold oneF
 split
 ·unfold v8
  split
  ·simp only;omega
  ·split
   ·unfold qeh
    split
    ·rename_i e he
     obtain⟨hlt,_⟩:=List.getElem?_eq_some_iff.1 he
     simp only
     rw [List.set_eq_take_append_cons_drop,if_pos hlt,qor,qpz]
     have h1:=qos l.ents (atF l x.id).toNat
     have h2:=qya l.ents (atF l x.id).toNat
     simp only
     omega
    ·simp only;omega
   ·simp only;omega
 ·split
  ·unfold delF
   split
   ·simp only;omega
   ·unfold delL
    simp only
    rw [qor]
    have h1:=qos l.ents (atF l x.id).toNat
    have h2:=qya l.ents (atF l x.id).toNat
    omega
  ·unfold insF
   split
   ·simp only;omega
   ·split
    ·split
     ·simp only;omega
     ·unfold insL
      simp only
      rw [qor,qpz]
      have h1:=qos l.ents (atF l x.id+1).toNat
      simp only
      omega
    ·simp only;omega
theorem qtg:∀ (b:List qr) (k:Nat) (l:qp) (ids:List Int),wE (ke k b l ids).2.1.ents≤wE l.ents+(encF b).length
 | [],k,l,ids=>by simp [ke]
 |x::r,k,l,ids=>by
  have h1:=zaz l x
  have h2:=zaf x
  have h3:(encF (x::r)).length=(qbe x).length+(encF r).length:=by simp [encF]
  unfold ke
  split
  ·have:=qtg r (k+1) (oneF l x).2.2 (if 0<(oneF l x).1 then ids++[(oneF l x).1] else ids)
   omega
  ·simp only;omega
theorem zbl (l:qp) (b:List qr):wE (doF l b).2.1.ents≤wE l.ents+(encF b).length:=by
 unfold doF
 split
 ·exact qtg b 0 l []
 ·simp only;omega
theorem q5h (l:qp) (x:qu):wE (ve l x).ents=wE l.ents+x.raw.length:=by
 unfold ve
 split <;> simp [wE]
theorem qun:∀ (its:List qu) (l:qp),wE (its.foldl ve l).ents=wE l.ents+(zu its).length
 | [],l=>by simp [zu]
 |x::r,l=>by
  rw [List.foldl_cons,qun r,q5h]
  have:(zu (x::r)).length=x.raw.length+(zu r).length:=by simp [zu]
  omega
theorem zal (text:qc):(zu (itsE text)).length≤2 * text.length:=by
 unfold itsE
 split
 ·simp [zu]
 ·have h:=qx6 text.length text 0 0 p0 (Nat.le_refl _) qsi ⟨by simp [p0,zu,q6],by simp [p0]⟩ (by omega)
  unfold jw
  split
  ·simp [zu]
  ·have:=h.tot
   simp only
   omega
theorem qxg:∀ (its:List qu) (p:Bool),(zu (z6 p its)).length≤(zu its).length+its.length
 | [],p=>by simp [z6,zu]
 |x::r,p=>by
  have ih:=qxg r (decide (x.kind≠1))
  unfold zu at ih ⊢
  rw [z6,List.flatMap_append,List.length_append,List.flatMap_cons,List.length_append,List.length_cons]
  have h:((if p=true∧x.kind≠1 then [⟨1,[10],[]⟩,x] else [x]:List qu).flatMap fun x=>x.raw).length≤x.raw.length+1:=by split <;> simp
  omega
theorem q2f:∀ its:List qu,(∀ x∈its,wv x)→its.length≤(zu its).length
 | [],_=>by simp
 |x::r,h=>by
  have ih:=q2f r fun y hy=>h y (by simp [hy])
  have hx:0<x.raw.length:=by
   rcases qgl (h x (by simp)) with⟨_,t,rfl,_⟩ | ⟨_,h1,_⟩
   ·simp
   ·exact List.length_pos_iff.2 h1
  unfold zu at ih ⊢
  rw [List.flatMap_cons,List.length_append,List.length_cons]
  omega
theorem q9n {l:qp} (h:GL l):(wo l).length≤2 * wE l.ents:=by
 have h1:=qxg (ze l) false
 have h2:=q2f (ze l) fun x hx=>by
  obtain⟨e,he,rfl⟩:=List.mem_map.1 hx
  exact (h.ok e he).1
 have h3:=qyb l.ents
 unfold wo ww
 unfold ze at *
 omega
end Go.Pl
namespace Go.Av
open Go Go.RowKit
section
variable {B0 : Nat} {w0 : World} {G : Gh} {st : List AObj} {w : World}
theorem qw.recell (h:qw B0 w0 G st w) {o ver:Nat} {T:TypeId} {cs cs':List AV} (ho:st[o]? = some (.cells ver T cs)) (hl:cs'.length=cs.length)
  (hr:∀ (i:Nat) (x x':AV) (v:Value),cs[i]? = some x→cs'[i]? = some x'→Rel G x v→Rel G x' v):qw B0 w0 G (st.set o (.cells ver T cs')) w:=by
 obtain⟨h0,h1,h2,h3,c,h4,h5,h6⟩:=h.ob o _ ho
 refine⟨h.below,h.hB,by simp [h.n],h.pub,fun k x hx=>?_,fun k k' x x' hne hx hx' hl1 hl2=>?_⟩
 ·rcases getElem?_set' _ _ _ _ _ hx with⟨rfl,rfl⟩ | ⟨hne,hx⟩
  ·refine⟨h0,h1,h2,h3,c,h4,by omega,fun i x y hx hy=>?_⟩
   have hi:i<cs.length:=by have:=lt_of_getElem? hx;omega
   exact hr i _ x y (List.getElem?_eq_getElem hi) hx (h6 i _ y (List.getElem?_eq_getElem hi) hy)
  ·exact h.ob k x hx
 ·rcases getElem?_set' _ _ _ _ _ hx with⟨e1,e2⟩ | ⟨_,e2⟩
  ·rcases getElem?_set' _ _ _ _ _ hx' with⟨e3,_⟩ | ⟨_,e4⟩
   ·exact absurd (e1.trans e3.symm) hne
   ·rw [e1];exact h.sep o k' _ x' (fun e=>hne (e1.trans e)) ho e4 trivial hl2
  ·rcases getElem?_set' _ _ _ _ _ hx' with⟨e3,_⟩ | ⟨_,e4⟩
   ·rw [e3];exact h.sep k o x _ (fun e=>hne (e.trans e3.symm)) e2 ho hl1 trivial
   ·exact h.sep k k' x x' hne e2 e4 hl1 hl2
end
theorem q6a {α : Type} {A B:List α} {x x' u u' : α} {i:Nat} (h:(A++x::B)[i]? = some u) (h':(A++x'::B)[i]? = some u'):u=u'∨(u=x∧u'=x'):=by
 rcases Nat.lt_trichotomy i A.length with hi|hi|hi
 ·rw [List.getElem?_append_left hi] at h h'
  rw [h] at h'
  exact .inl (Option.some.inj h')
 ·subst hi
  rw [List.getElem?_append_right (Nat.le_refl _),Nat.sub_self] at h h'
  simp at h h'
  exact .inr ⟨h.symm,h'.symm⟩
 ·obtain⟨j,hj⟩:∃ j,i - A.length=j+1:=⟨i - A.length - 1,by omega⟩
  rw [List.getElem?_append_right (by omega),hj,List.getElem?_cons_succ] at h h'
  rw [h] at h'
  exact .inl (Option.some.inj h')
theorem qnh (ρ : Nat→AV) (a b:List SV):SV.evs ρ (a++b)=SV.evs ρ a++SV.evs ρ b:=by simp [jl]
theorem q4z {xs:List AV} (h:∀ x∈xs,x.one=true):flat xs=xs:=by
 unfold flat
 induction xs with
 |nil=>rfl
 |cons a r ih=>rw [List.flatMap_cons,ih fun x hx=>h x (by simp [hx]),qf5 (h a (by simp))];rfl
theorem q53 {E:Env} {rd:Option Nat} {N:Nat} {B:Bs} {c:Code} {Q:Exit→Conf→Prop} {C:Conf} {b r sz:Nat} {T T2:TypeId} {zs:List AV} {ys:List AV} (hb:hpF C.hp b=some (.rows T zs [.tp r])) (hr:hpF C.hp r=some (.own sz T2 ys)) (hy:ys≠[])
  (h:Sm E rd N B c Q ⟨C.sl,(b,some (.rows T (zs++[.sl sz ys none]) []))::(r,none)::C.hp,C.nx⟩):Sm E rd N B c Q C:=⟨fun s hs=>by
 obtain⟨t,S,df⟩:=s
 obtain⟨ρ,hF,hR⟩:=hs
 simp only at hF hR
 have hbr:b≠r:=fun e=>by subst e;rw [hb] at hr;simp at hr
 rcases hR.hp.ok r _ hr with⟨e,_⟩ | ⟨o,ver,cap,pad,f1,f2,f3,f4,f5,f6⟩
 ·exact absurd e hy
 rcases hR.hp.ok b _ hb with⟨e,_⟩ | ⟨o2,ver2,cap2,pad2,g1,g2,g3,g4,g5,g6⟩
 ·simp [SV.evs] at e
 have htr:tpAt (ρ r) = ρ r:=by rw [f1];rfl
 have hev:zs++SV.evs ρ [.tp r]=zs++[ρ r]:=by simp [SV.evs,SV.ev,htr]
 have hev2:(zs++[.sl sz ys none])++SV.evs ρ []=zs++[.sl sz ys none]:=by simp [SV.evs]
 rw [hev] at g1 g2 g3 g4 g5
 have hfa:flat (zs++[ρ r])++pad2=flat (zs) ++ ρ r::pad2:=by rw [vf,f1];simp [flat,AV.cells]
 have hfb:flat (zs++[.sl sz ys none])++pad2=flat (zs) ++ .sl sz ys none::pad2:=by rw [vf];simp [flat,AV.cells]
 have hoo:o≠o2:=fun e=>hR.hp.sep r b _ _ (fun e=>hbr e.symm) hr hb o (by rw [f1];rfl) (by rw [g1,e];rfl)
 have hget:∀ k x,hpF ((b,some (.rows T (zs++[.sl sz ys none]) []))::(r,none)::C.hp) k=some x→(k=b∧x = .rows T (zs++[.sl sz ys none]) [])∨(k≠b∧k≠r∧hpF C.hp k=some x):=fun k x hk=>by
  unfold hpF at hk ⊢
  simp only [lkS] at hk
  by_cases e:b=k
  ·subst e
   simp at hk
   exact .inl ⟨rfl,hk.symm⟩
  ·rw [zp e] at hk
   by_cases e2:r=k
   ·subst e2;simp at hk
   ·rw [zp e2] at hk
    exact .inr ⟨fun h=>e h.symm,fun h=>e2 h.symm,hk⟩
 have hlo:∀ k x,k≠b→k≠r→hpF C.hp k=some x→∀ j,qy (ρ k)=some j→o≠j∧o2≠j:=fun k x h1 h2 hk j hj=>
  ⟨fun e=>hR.hp.sep k r _ _ h2 hk hr j hj (by rw [f1,← e];rfl),fun e=>hR.hp.sep k b _ _ h1 hk hb j hj (by rw [g1,← e];rfl)⟩
 have hset:∀ j,o≠j→o2≠j→((S.set o .dead).set o2 (.cells ver2 T (flat (zs++[.sl sz ys none])++pad2)))[j]? = S[j]?:=fun j h1 h2=>by rw [List.getElem?_set_ne h2,List.getElem?_set_ne h1]
 have g2':(S.set o .dead)[o2]? = some (.cells ver2 T (flat (zs++[ρ r])++pad2)):=(List.getElem?_set_ne hoo).trans g2
 have hP:SatR B.S0 B.F ⟨C.sl,(b,some (.rows T (zs++[.sl sz ys none]) []))::(r,none)::C.hp,C.nx⟩ ρ t ((S.set o .dead).set o2 (.cells ver2 T (flat (zs++[.sl sz ys none])++pad2))):=by
  refine⟨hR.sl,⟨fun k x hk=>?_,fun k k' x x' hne hk hk'=>?_⟩,fun k x hk j hj=>?_,fun j hj hFj=>?_,by simpa using hR.len,hR.wsl,fun k x hk=>?_⟩
  ·rcases hget k x hk with⟨rfl,rfl⟩ | ⟨n1,n2,hk⟩
   ·show OwnS _ 1 T ((zs++[.sl sz ys none])++SV.evs ρ []) (ρ k)
    rw [hev2]
    refine .inr ⟨o2,ver2,cap2,pad2,by rw [g1];simp,xc g2',?_,fun y hy=>?_,by simpa using g5,g6⟩
    ·rw [hfb]
     rw [hfa] at g3
     simpa using g3
    ·rcases List.mem_append.1 hy with h|h
     ·exact g4 y (by simp [h])
     ·simp only [List.mem_singleton] at h
      subst h
      rfl
   ·refine SR.ok_of (f:=fun _=>true) (SR.all_mono (fun _ _=>rfl) x (hR.whp k x hk).2) (fun _ _=>rfl) (hR.hp.ok k x hk) fun j hj=>?_
    obtain⟨q1,q2⟩:=hlo k x n1 n2 hk j hj
    exact hset j q1 q2
  ·rcases hget k x hk with⟨rfl,rfl⟩ | ⟨n1,n2,q1⟩
   ·rcases hget k' x' hk' with⟨rfl,rfl⟩ | ⟨m1,m2,q2⟩
    ·exact absurd rfl hne
    ·exact hR.hp.sep _ _ _ _ hne hb q2
   ·rcases hget k' x' hk' with⟨rfl,rfl⟩ | ⟨m1,m2,q2⟩
    ·exact hR.hp.sep _ _ _ _ hne q1 hb
    ·exact hR.hp.sep _ _ _ _ hne q1 q2
  ·rcases hget k x hk with⟨rfl,rfl⟩ | ⟨n1,n2,hk⟩
   ·exact hR.own _ _ hb j hj
   ·exact hR.own _ _ hk j hj
  ·refine (hset j (fun e=>?_) (fun e=>?_)).trans (hR.low j hj hFj)
   ·rcases hR.own r _ hr o (by rw [f1];rfl) with q|q
    ·omega
    ·exact hFj (e▸q)
   ·rcases hR.own b _ hb o2 (by rw [g1];rfl) with q|q
    ·omega
    ·exact hFj (e▸q)
  ·rcases hget k x hk with⟨rfl,rfl⟩ | ⟨n1,n2,hk⟩
   ·exact⟨(hR.whp _ _ hb).1,rfl⟩
   ·exact hR.whp k x hk
 have hr2:=h.run ⟨t,(S.set o .dead).set o2 (.cells ver2 T (flat (zs++[.sl sz ys none])++pad2)),df⟩ ⟨ρ,⟨fun x hx=>?_,hF.nd,hF.rig,hF.le,hF.dz⟩,hP⟩
 ·exact⟨fun B0 w0 G a w hL hI=>by
   obtain⟨vs,hle,hA,hv,hp,hl2,hrl⟩:=hI.agree.pubOb f2
   have hA2:=hA.recell (cs':=flat (zs++[.sl sz ys none])++pad2) g2' (by rw [hfa,hfb];simp) fun i x x' v hx hx' hv2=>by
    rw [hfa] at hx
    rw [hfb] at hx'
    rcases q6a hx hx' with rfl | ⟨rfl,rfl⟩
    ·exact hv2
    ·rw [f1] at hv2
     cases hv2 with
     |os _ _ _ _ bl _ hn hv' hbl=>
      have hbl:=hbl hv
      subst hbl
      exact .sl sz ys none _ 0 (cap+1) vs hp f4 (by rw [← hl2];simp) (fun k x y g1 g2=>hrl k x y (by rw [List.getElem?_append_left (lt_of_getElem? g1)];exact g1) (by simpa using g2)) (fun t ht=>by simp at ht) f5
   exact wpIn_mono (hr2.run B0 w0 _ a w hL (hI.restate hle hA2)) fun _ _ _ ⟨G',s',hG,k1,k2⟩=>⟨G',s',hle.trans hG,k1,k2⟩⟩
 ·have hm:=hF.dm x hx
  refine⟨?_,hm.2⟩
  simp only
  refine (hset x (fun e=>?_) (fun e=>?_)).trans hm.1
  ·rw [← e] at hm
   rw [f2] at hm
   simp at hm
  ·rw [← e] at hm
   rw [g2] at hm
   simp at hm⟩
theorem qw3 {E:Env} {rd:Option Nat} {N:Nat} {B:Bs} {c:Code} {Q:Exit→Conf→Prop} {C:Conf} {b:Nat} {T:TypeId} {xs:List AV} (hb:hpF C.hp b=some (.rows T xs []))
  (h:Sm E rd N B c Q ⟨C.sl,(b,some (.own 1 T xs))::C.hp,C.nx⟩):Sm E rd N B c Q C:=⟨fun s hs=>by
 obtain⟨ρ,hF,hR⟩:=hs
 have hget:∀ k x,hpF ((b,some (.own 1 T xs))::C.hp) k=some x→(k=b∧x = .own 1 T xs)∨(k≠b∧hpF C.hp k=some x):=fun k x hk=>by
  unfold hpF at hk ⊢
  simp only [lkS] at hk
  by_cases e:b=k
  ·subst e
   simp at hk
   exact .inl ⟨rfl,hk.symm⟩
  ·rw [zp e] at hk
   exact .inr ⟨fun h=>e h.symm,hk⟩
 have hev:∀ ρ,xs++SV.evs ρ []=xs:=fun ρ=>by simp [SV.evs]
 refine h.run s ⟨ρ,⟨hF.dm,hF.nd,hF.rig,hF.le,hF.dz⟩,⟨hR.sl,⟨fun k x hk=>?_,fun k k' x x' hne hk hk'=>?_⟩,fun k x hk j hj=>?_,hR.low,hR.len,hR.wsl,fun k x hk=>?_⟩⟩
 ·rcases hget k x hk with⟨rfl,rfl⟩ | ⟨n1,hk⟩
  ·have:OwnS s.st 1 T (xs++SV.evs ρ []) (ρ k):=hR.hp.ok k _ hb
   rw [hev] at this
   exact this
  ·exact hR.hp.ok k x hk
 ·rcases hget k x hk with⟨rfl,rfl⟩ | ⟨n1,q1⟩
  ·rcases hget k' x' hk' with⟨rfl,rfl⟩ | ⟨m1,q2⟩
   ·exact absurd rfl hne
   ·exact hR.hp.sep _ _ _ _ hne hb q2
  ·rcases hget k' x' hk' with⟨rfl,rfl⟩ | ⟨m1,q2⟩
   ·exact hR.hp.sep _ _ _ _ hne q1 hb
   ·exact hR.hp.sep _ _ _ _ hne q1 q2
 ·rcases hget k x hk with⟨rfl,rfl⟩ | ⟨n1,hk⟩
  ·exact hR.own _ _ hb j hj
  ·exact hR.own _ _ hk j hj
 ·rcases hget k x hk with⟨rfl,rfl⟩ | ⟨n1,hk⟩
  ·exact⟨(hR.whp _ _ hb).1,rfl⟩
  ·exact hR.whp k x hk⟩
section
variable {E : Env} {rd : Option Nat} {N : Nat} {ops : Array Oper} {K : AS → Prop} {s : AS} {rest : List Oper} {d : Option Tmp} {T : TypeId} {p : String} {af : Array Edge}
theorem qrr {x y:Operand} {t u T':TypeId} {sz bytes o:Nat} {xs ys:List AV} {a b:AV} {ob:AObj} (hx:qf N s x=a) (hy:qf N s y=b) (hsrc:SrcA s.st sz b ys.length ys.length (flat ys)) (hys:∀ y∈ys,y.cells.length=sz) (hV:Vec sz T' o xs a ob) (ho:s.st[o]? = some ob)
  (ht:E.P.underlying t=some (.slice T')) (hu:E.P.underlying u=some (.slice T')) (hT:wh E.P T' sz bytes) (h63:xs.length+ys.length≤maxLen) (hb:(xs.length+ys.length) * bytes≤140737488355328)
  (h:∀ a' ob',Vec sz T' o (xs++ys) a' ob'→AOps E rd N ops rest K (AS.put ⟨s.t,s.st.set o ob',s.df⟩ d a')):AOps E rd N ops (⟨d,.call ⟨.builtin .append,#[x,y],#[t,u]⟩,T,p,af,none⟩::rest) K s:=by
 refine qs rfl (qq nofun fun B0 w0 G a0 w _ hI=>?_)
 obtain⟨news,h1,h2,h3⟩:=qkn (P:=E.P) hI.agree hsrc (hI.eval_of hy)
 obtain⟨v',w',G',a',ob',e1,e2,e3,e4,e5⟩:=qil (ty:=T) hI.agree ht hu (.inr ⟨_,rfl⟩) hT hV ho (hI.eval_of hx) ⟨h1.len,h1.cells,h1.count,h1.one⟩ hys h3 h63 hb
 refine⟨v',w',G',_,_,?_,e2,e3,e4,h a' ob' e5⟩
 generalize a0.eval = ρ at e1
 simp [execOp,resolve,invoke,builtin,e1]
theorem qrq {x y:Operand} {t u T':TypeId} {sz bytes:Nat} {ys:List AV} {b:AV} (hx:∀ (G:Gh) (v:Value),Rel G (qf N s x) v→∃ base,v = .slice base 0 0) (hy:qf N s y=b) (hsrc:SrcA s.st sz b ys.length ys.length (flat ys)) (hys:∀ y∈ys,y.cells.length=sz)
  (ht:E.P.underlying t=some (.slice T')) (hu:E.P.underlying u=some (.slice T')) (hT:wh E.P T' sz bytes) (h0:ys≠[]) (h63:ys.length≤maxLen) (hb:ys.length * bytes≤140737488355328)
  (h:∀ cap pad,(flat ys++pad).length=(cap+1) * sz→ys.length≤cap+1→cap+1≤maxLen→AOps E rd N ops rest K (AS.put ⟨s.t,s.st++[.cells 0 T' (flat ys++pad)],s.df⟩ d (.os s.st.length 0 0 ys.length (cap+1)))):AOps E rd N ops (⟨d,.call ⟨.builtin .append,#[x,y],#[t,u]⟩,T,p,af,none⟩::rest) K s:=by
 refine qs rfl (qq nofun fun B0 w0 G a0 w _ hI=>?_)
 obtain⟨i,z,hi,hz,rfl,rfl,hzs⟩:=hT.ex
 obtain⟨news,hS,h2,h3⟩:=qkn (P:=E.P) hI.agree hsrc (hI.eval_of hy)
 have h1:Src E.P w (a0.eval y) ys.length i.size news:=⟨hS.len,hS.cells,hS.count,hS.one⟩
 obtain⟨base,hv⟩:=hx _ _ (hI.eval x)
 have hlen:0<ys.length:=List.length_pos_iff.2 h0
 have hold:(Builtin.firstCells i.size 0 (.slice base 0 0)).run E.P w.drew = .ok ([]:List Value).toArray w.drew:=by
  cases base with
  |none=>simp [run_firstCells_none]
  |some a=>exact run_firstCells_some w.drew i.size 0 a 0 0 [] (by simp) (by simp)
 have hrun:=qay (ty:=T) ht hu (.inr ⟨_,rfl⟩) hi hz h1 base 0 0 [] hold (by omega) (by simp only [maxLen] at h63;omega) (by simp only [Nat.zero_add];rw [nextslicecap_zero (by omega)];omega)
 simp only [Nat.zero_add] at hrun
 have hge:=grownCap_ge w ys.length 0 T'
 have hle:=grownCap_le_maxLen w ys.length 0 T' h63
 generalize grownCap w ys.length 0 T'=cap at hrun hge hle
 obtain⟨cap,rfl⟩:∃ c,cap=c+1:=⟨cap - 1,by omega⟩
 generalize hzc:Builtin.zeroCells z.cells (cap+1 - ys.length)=zc at hrun
 have hzl:zc.size=(cap+1 - ys.length) * i.size:=by rw [← hzc,size_zeroCells,hzs]
 have hfy:(flat ys).length=ys.length * i.size:=zo hys
 have hdrew:Below w.heap.size w w.drew:=⟨rfl,rfl,rfl,Nat.le_refl _,fun _ _=>rfl⟩
 have hr:=w8 (G:=G) (cs:=flat ys) (ds:=zc.toList.map AV.v) (vs:=news) (us:=zc.toList) (by rw [hfy,h1.count]) h3 (fun j a b h1 h2=>by
  rw [List.getElem?_map,h2] at h1
  simp at h1
  subst h1
  exact .v _)
 have hA:=(hI.agree.fresh hdrew).newCells T' (([]:List Value).toArray++news.toArray++zc) (flat ys++zc.toList.map AV.v) (by simp [hfy,h1.count]) (fun j a b q1 q2=>hr j a b q1 (by rw [← q2];simp [← Array.getElem?_toList]))
 have hn:=hI.agree.n
 refine⟨_,_,_,_,_,?_,G.le_new _ _ _ _,hA,.os _ _ _ _ _ _ (by simp [Gh.new,hn]) (Nat.zero_le _) (fun _=>by simp [Gh.new,hn];rfl),h cap (zc.toList.map AV.v) ?_ hge hle⟩
 ·generalize a0.eval = ρ at hrun hv ⊢
  simp [execOp,resolve,invoke,builtin,hv,hrun]
 ·have h1:zc.toList.length=(cap+1 - ys.length) * i.size:=by rw [← hzl];simp
  rw [List.length_append,hfy,List.length_map,h1,← Nat.add_mul]
  congr 1
  omega
end
section
variable {E : Env} {N : Nat} {ops : Array Oper} {nx : Nat} {sl : List (Nat × SV)} {H : Nat → Option SR} {k : Ef → Prop} {d : Option Tmp} {T : TypeId} {p : String} {af : Array Edge}
theorem qz9 {t e:TypeId} {parts:Array (Nat×Operand)} {v:SV} {agg:Bool} {zs:List AV} (hp:qic N sl parts.toList=some [(0,v)]) (hv:(v.one && v.okc && v.all (fun k=> !Nat.beq k nx))=true) (he:elT (E.P.underlying t)=some e) (ht:tyOf E.P e=some (1,agg)) (hz:qbl E.P e 1=some zs) (hzl:zs.length=1)
  (h:k ⟨.tp nx,[],[(nx,some (.rows e [] [v]))],nx+1⟩):∃ e,Loc E N ops ⟨d,.buildSlice t 1 parts,T,p,af,none⟩ nx sl H e∧k e:=by
 simp only [Bool.and_eq_true] at hv
 refine⟨_,qer (fun k r hk=>by rw [qax] at hk;simp at hk) fun df rd K rest ρ t' S hs _ hk=>?_,h⟩
 have h1:=qpq ρ v hv.1.1
 have hc:=qf5 h1
 have hpa:j7 N ⟨t',S,df⟩ parts=zq 0 [v.ev ρ]:=by unfold j7;exact qc7 hs hp
 have hfill:=qhi (sz:=1) [v.ev ρ] 0 [] zs (fun y hy=>by
  simp only [List.mem_singleton] at hy
  subst hy
  exact⟨qn7 ρ v hv.1.2,by rw [hc];rfl⟩) (by simp) (by simpa using hzl)
 have hfl:flat [v.ev ρ]=[v.ev ρ]:=by simp [flat,hc]
 rw [hfl] at hfill
 refine xq (loc:=[]) (st:=S) (by simp) (vm he) ht hz (by rw [hpa];simpa using hfill) (by decide) ?_
 have hev:∀ c,SV.evs (upd ρ nx c) [v]=[v.ev ρ]:=fun c=>by
  simp only [SV.evs]
  rw [yl (f:=fun k=> !Nat.beq k nx) (ρ:= ρ) (ρ':=upd ρ nx c) (fun k hk=>vr _ _ (fun e=>by subst e;simp at hk)) v hv.2]
 have:=hk (.os S.length 0 0 1 1) [.cells 0 e [v.ev ρ]]
  (by
   show OwnS _ 1 e (SV.evs (upd ρ nx (.os S.length 0 0 1 1)) [v]) _
   rw [hev]
   refine .inr ⟨S.length,0,0,[],rfl,by rw [hfl];exact wl,by rw [hfl];rfl,fun x hx=>?_,by simp,by simp [maxLen]⟩
   simp only [List.mem_singleton] at hx
   subst hx
   rw [hc];rfl)
  (fun o ho=>by simp only [qy,Option.some.injEq] at ho;omega)
 simpa [SV.ev,z8,tpAt,AV.one] using this
theorem q15 (ρ : Nat→AV) (zs:List AV) (cs:List SV):SV.evs ρ (zs.map SV.a++cs)=zs++SV.evs ρ cs:=by
 rw [qnh,jl,List.map_map]
 congr 1
 conv=>rhs;rw [← List.map_id zs]
 exact List.map_congr_left fun x _=>rfl
theorem qf8 {t e e':TypeId} {x y:Operand} {b i:Nat} {agg:Bool} {zs:List AV} {cs:List SV} {kd:IntKind} {v:SV} (hx:sval N sl x=some (.tp b)) (hH:H b=some (.rows e zs cs)) (hy:sval N sl y=some v) (hv:x3 v=some (kd,(i:Int))) (he:elT (E.P.underlying t)=some e') (ht:tyOf E.P e'=some (1,agg)) (hi:i<zs.length+cs.length)
  (h:k ⟨.bx b (0+i * 1),[b],[],nx⟩):∃ e,Loc E N ops ⟨d,.indexAddr t x y,T,p,af,none⟩ nx sl H e∧k e:=by
 refine⟨_,we (v:=.bx b (0+i * 1)) fun df rd K rest ρ t' S hs hS hk=>?_,h⟩
 have hlen:(zs++SV.evs ρ cs).length=zs.length+cs.length:=by rw [List.length_append,jl,List.length_map]
 rcases hS.ok b _ ((vn b).trans hH) with⟨e0,_⟩ | ⟨o,ver,cap,pad,e1,e2,_⟩
 ·rw [e0] at hlen
  simp at hlen
  omega
 ·refine qd5 (o:=o) (ver:=ver) (off:=0) (len:=(zs++SV.evs ρ cs).length) (cp:=cap+1) ((qo hs hx).trans (by simp [SV.ev,e1,tpAt,AV.one])) ((qo hs hy).trans (wd hv ρ)) (vm he) ht rfl (by omega) ?_
  simpa only [SV.ev,e1,bxAt] using hk
theorem qf9 {t e:TypeId} {x:Operand} {b off i:Nat} {zs:List AV} {cs:List SV} {v:SV} (hx:sval N sl x=some (.bx b off)) (hH:H b=some (.rows e zs cs)) (ht:tyOf E.P t=some (1,false)) (ho:off=0+i * 1+0) (hz:(zs.map SV.a++cs)[i]? = some v) (hone:v.one=true)
  (h:k ⟨v,[b],[],nx⟩):∃ e,Loc E N ops ⟨d,.load t x,T,p,af,none⟩ nx sl H e∧k e:=by
 refine⟨_,we (v:=v) fun df rd K rest ρ t' S hs hS hk=>?_,h⟩
 have hz2:(zs++SV.evs ρ cs)[i]? = some (v.ev ρ):=by rw [← q15,jl,List.getElem?_map,hz];rfl
 rcases hS.ok b _ ((vn b).trans hH) with⟨e0,_⟩ | ⟨o,ver,cap,pad,e1,e2,e3,e4,_⟩
 ·rw [e0] at hz2
  simp at hz2
 ·subst ho
  refine ko (o:=o) (ver:=ver) (off:=0+i * 1+0) ((qo hs hx).trans (by simp only [SV.ev,e1,bxAt])) e2 ht (qqr (sz:=1) e4 hz2 (by rw [qf5 (qpq ρ v hone)];rfl) (by omega) fun _=>by omega) hk
theorem qw2 {x y:Operand} {t u e:TypeId} {b c bytes:Nat} {zs:List AV} {cs ds:List SV} (hx:sval N sl x=some (.tp b)) (hH:H b=some (.rows e zs cs)) (hy:sval N sl y=some (.tp c)) (hK:H c=some (.rows e [] ds)) (hbc:(!Nat.beq b c && !Nat.beq b nx && !Nat.beq c nx && SV.alls (fun k=> !Nat.beq k nx) (cs++ds) && ones ds)=true) (hd:ds≠[])
  (ht:elT (E.P.underlying t)=some e) (hu:elT (E.P.underlying u)=some e) (hb:qnd E.P e=some (1,bytes)) (hn:(Nat.blt 0 bytes && Nat.ble bytes 140737)=true) (h1:zs.length+cs.length+ds.length≤1000000000)
  (h:k ⟨.tp nx,[b,c],[(b,none),(c,none),(nx,some (.rows e zs (cs++ds)))],nx+1⟩):∃ e,Loc E N ops ⟨d,.call ⟨.builtin .append,#[x,y],#[t,u]⟩,T,p,af,none⟩ nx sl H e∧k e:=by
 simp only [Bool.and_eq_true] at hbc hn
 obtain⟨⟨⟨⟨b1,b2⟩,b3⟩,b4⟩,b5⟩:=hbc
 have nbc:b≠c:=fun e=>by subst e;simp at b1
 have nbn:b≠nx:=fun e=>by subst e;simp at b2
 have ncn:c≠nx:=fun e=>by subst e;simp at b3
 have hbl:=Nat.le_of_ble_eq_true hn.2
 refine⟨_,fun df rd K rest ρ t' S hs hS hk=>?_,h⟩
 have rb:resF [b,c] H b=some (.rows e zs cs):=by unfold resF;simp [memN,hH]
 have rc:resF [b,c] H c=some (.rows e [] ds):=by unfold resF;simp [memN,hK]
 have hlc:(zs++SV.evs ρ cs).length=zs.length+cs.length:=by rw [List.length_append,jl,List.length_map]
 have hld:(SV.evs ρ ds).length=ds.length:=by rw [jl,List.length_map]
 have hnil:([]:List AV)++SV.evs ρ ds=SV.evs ρ ds:=rfl
 have hds:SV.evs ρ ds≠[]:=fun e=>by rw [e] at hld;exact hd (List.eq_nil_of_length_eq_zero (by simpa using hld.symm))
 have hmul:((zs++SV.evs ρ cs).length+(SV.evs ρ ds).length) * bytes≤140737488355328:=by
  rw [hlc,hld]
  exact Nat.le_trans (Nat.mul_le_mul h1 hbl) (by decide)
 have hone:=qph ρ ds b5
 have hfd:flat (SV.evs ρ ds)=SV.evs ρ ds:=q4z hone
 rcases hS.ok c _ rc with⟨e0,_⟩ | ⟨o2,ver2,cap2,pad2,g1,g2,g3,g4,g5,g6⟩
 ·exact absurd e0 hds
 rw [hnil] at g1 g2 g3 g4 g5
 have hey:qf N ⟨t',S,df⟩ y = .os o2 ver2 0 (SV.evs ρ ds).length (cap2+1):=(qo hs hy).trans (by simp [SV.ev,g1,tpAt,AV.one])
 have hsrc:SrcA S 1 (.os o2 ver2 0 (SV.evs ρ ds).length (cap2+1)) (SV.evs ρ ds).length (SV.evs ρ ds).length (flat (SV.evs ρ ds)):=by
  have ht0:((flat (SV.evs ρ ds)++pad2).drop (0 * 1)).take ((SV.evs ρ ds).length * 1)=flat (SV.evs ρ ds):=by
   rw [Nat.zero_mul,List.drop_zero,Nat.mul_one,hfd,List.take_left]
  have:=SrcA.os (st:=S) (sz:=1) o2 ver2 0 (SV.evs ρ ds).length (cap2+1) (SV.evs ρ ds).length e _ g2 (by rw [List.length_append,hfd];omega) (by
   rw [ht0,hfd]
   exact List.all_eq_true.2 hone)
  rw [ht0] at this
  exact this
 have hok:=hS.ok b _ rb
 have hev:qf N ⟨t',S,df⟩ x = ρ b:=(qo hs hx).trans (qb0 hok)
 have key:∀ k q,chF [(b,none),(c,none),(nx,some (SR.rows e zs (cs++ds)))] (resF [b,c] H) k=some q→k=nx∧q = .rows e zs (cs++ds):=fun k q hk=>by
  simp only [chF,lkS] at hk
  by_cases e1:b=k
  ·subst e1;simp at hk
  ·rw [zp e1] at hk
   simp only [cond_false] at hk
   by_cases e2:c=k
   ·subst e2;simp at hk
   ·rw [zp e2] at hk
    simp only [cond_false] at hk
    by_cases e3:nx=k
    ·subst e3
     simp at hk
     exact⟨rfl,hk.symm⟩
    ·rw [zp e3] at hk
     simp only [cond_false] at hk
     have:=(kh hk).1
     simp only [memN,List.any_cons,List.any_nil,Bool.or_false,Bool.or_eq_true] at this
     rcases this with h|h
     ·exact absurd (Nat.eq_of_beq_eq_true h).symm e1
     ·exact absurd (Nat.eq_of_beq_eq_true h).symm e2
 have fin:∀ (a:AV) (S':List AObj),OwnS S' 1 e ((zs++SV.evs ρ cs)++SV.evs ρ ds) a→S.length≤S'.length→(∀ j,j<S.length→qy (ρ b)≠some j→S'[j]? = S[j]?)→(∀ o,qy a=some o→S.length≤o∨qy (ρ b)=some o)→AOps E rd N ops rest K (AS.put ⟨t',S',df⟩ d a):=fun a S' q1 q2 q3 q4=>by
  have hev2:zs++SV.evs (upd ρ nx a) (cs++ds)=(zs++SV.evs ρ cs)++SV.evs ρ ds:=by
   rw [xb (f:=fun k=> !Nat.beq k nx) (ρ:= ρ) (fun k hk=>vr _ _ (fun e=>by subst e;simp at hk)) _ b4,qnh,List.append_assoc]
  have:=hk (upd ρ nx a) S' ⟨fun k hk=>vr _ _ (by simp only at hk;omega),⟨fun k r hk=>?_,fun k k' r r' hne z1 z2=>absurd ((key k r z1).1.trans (key k' r' z2).1.symm) hne⟩,q2,fun j hj hne=>q3 j hj (hne b _ rb),fun k r hk o ho=>?_⟩
  ·simpa only [SV.ev,z8,qb0 q1] using this
  ·obtain⟨rfl,rfl⟩:=key k r hk
   rw [z8]
   show OwnS S' 1 e (zs++SV.evs (upd ρ k a) (cs++ds)) a
   rw [hev2]
   exact q1
  ·obtain⟨rfl,rfl⟩:=key k r hk
   rw [z8] at ho
   exact (q4 o ho).imp_right fun h=>⟨b,_,rb,h⟩
 rcases hok with⟨e0,e1⟩ | ⟨o,ver,cap,pad,e1,e2,e3,e4,e5,e6⟩
 ·refine qrq (by rw [hev];exact e1.val) hey hsrc g4 (vm ht) (vm hu) (qcz hb) hds (by simp only [maxLen];omega) (by rw [e0] at hmul;simpa using hmul) fun cap pad z1 z2 z3=>?_
  refine fin _ _ (.inr ⟨S.length,0,cap,pad,by rw [e0];rfl,?_,?_,?_,?_,z3⟩) (by simp) (fun j hj _=>List.getElem?_append_left hj) fun o ho=>.inl (by simp only [qy,Option.some.injEq] at ho;omega)
  ·rw [e0,List.nil_append];exact wl
  ·rw [e0,List.nil_append];exact z1
  ·rw [e0,List.nil_append];exact g4
  ·rw [e0,List.nil_append];exact z2
 ·refine qrr (o:=o) (hev.trans e1) hey hsrc g4 (.os ver (cap+1) pad e3 e4 e5 e6) e2 (vm ht) (vm hu) (qcz hb) (by simp only [maxLen];omega) hmul fun a' ob' hV=>?_
  rcases qvs hV with⟨q,_,_⟩ | ⟨ver',cap',pad',rfl,rfl,q1,q2,q3,q4⟩
  ·simp [hds] at q
  ·obtain⟨cap',rfl⟩:∃ c,cap'=c+1:=⟨cap' - 1,by
    have:0<(SV.evs ρ ds).length:=List.length_pos_iff.2 hds
    simp at q3
    omega⟩
   refine fin _ _ (.inr ⟨o,ver',cap',pad',rfl,xc e2,q1,q2,q3,q4⟩) (by simp) (fun j hj hne=>List.getElem?_set_ne fun e=>hne (by rw [e1,e];rfl)) fun o' ho'=>.inr (by rw [e1];exact ho')
end
end Go.Av
namespace Go.Av
open Go Go.RowKit
section
variable {E : Env} {N : Nat} {ops : Array Oper} {nx : Nat} {sl : List (Nat × SV)} {H : Nat → Option SR} {k : Ef → Prop} {d : Option Tmp} {T : TypeId} {p : String} {af : Array Edge}
theorem q8p {ts:Array TypeId} {x y z:Operand} {u v w:SV} {a b c:Int} (hx:sval N sl x=some u) (hy:sval N sl y=some v) (hz:sval N sl z=some w) (ia:x3 u=some (.i64,a)) (ib:x3 v=some (.i64,b)) (ic:x3 w=some (.i64,c))
  (h:k (kj nx (.i (min (min a b) c)))):∃ e,Loc E N ops ⟨d,.call ⟨.builtin .min,#[x,y,z],ts⟩,T,p,af,none⟩ nx sl H e∧k e:=by
 refine⟨_,zm (v:=.i (min (min a b) c)) fun df rd K rest ρ t' S hs hk=>zk (.int .i64 (min (min a b) c)) rfl nofun (fun a' w' he=>by
  have e1:=he _ _ ((qo hs hx).trans (wd ia ρ))
  have e2:=he _ _ ((qo hs hy).trans (wd ib ρ))
  have e3:=he _ _ ((qo hs hz).trans (wd ic ρ))
  by_cases h1:b<a
  ·have e4:min a b=b:=by omega
   by_cases h2:c<b
   ·have e5:min (min a b) c=c:=by omega
    rw [e5]
    simp [execOp,resolve,invoke,builtin,Builtin.min_,Builtin.min2,e1,e2,e3,h1,h2]
   ·have e5:min (min a b) c=b:=by omega
    rw [e5]
    simp [execOp,resolve,invoke,builtin,Builtin.min_,Builtin.min2,e1,e2,e3,h1,h2]
  ·have e4:min a b=a:=by omega
   by_cases h2:c<a
   ·have e5:min (min a b) c=c:=by omega
    rw [e5]
    simp [execOp,resolve,invoke,builtin,Builtin.min_,Builtin.min2,e1,e2,e3,h1,h2]
   ·have e5:min (min a b) c=a:=by omega
    rw [e5]
    simp [execOp,resolve,invoke,builtin,Builtin.min_,Builtin.min2,e1,e2,e3,h1,h2]) hk,h⟩
end
end Go.Av
namespace Go.Av
open Go Go.RowKit
theorem ix64 {n m:Int} (h:n=m):x3 (.i n)=some (IntKind.i64,m):=by rw [h];rfl
def q0a (H:Nat→Option SR):List (Nat×Option SR)→Prop
 | []=>True
 |(k,r)::l=>H k=r∧q0a H l
theorem qrg {H:Nat→Option SR}:∀ {hp:List (Nat×Option SR)},q0a H hp→resF (je hp) H=hpF hp
 | [],_=>by funext k;simp [resF,je,memN,hpF,lkS]
 |(i,r)::l,h=>by
  have ih:=congrFun (qrg h.2)
  funext k
  have:=ih k
  unfold resF memN je hpF at this ⊢
  simp only [List.map_cons,List.any_cons,lkS]
  by_cases e:i=k
  ·subst e
   simp [h.1]
  ·rw [zp e,zp fun h=>e h.symm,Bool.false_or,cond_false]
   exact this
theorem q7g {E:Env} {f:FuncId} {vs:List SV} {hp0:List (Nat×Option SR)} {nx0 nx:Nat} {v:SV} {H:Nat→Option SR} (h:jo E f vs nx0 (hpF hp0) ⟨v,je hp0,hp0++j6 hp0,nx0⟩) (hs:q0a H hp0) :
  jo E f vs nx H ⟨v,je hp0,[],nx⟩:=fun ρ S hS=>by
 have hr:=qrg hs
 simp only [hr] at hS
 refine (h ρ S (by simpa only [kw] using hS)).mono ?_
 rintro r S' ⟨ρ',rfl,hp⟩
 have e : ρ' = ρ:=funext fun k=>hp.old k (by simp only;omega)
 subst e
 refine⟨ρ',rfl,fun _ _=>rfl,?_,hp.len,fun j hj hn=>?_,fun k r hk o ho=>?_⟩
 ·have:=hp.sat
  simp only [kw,qb4] at this
  have e2:chF [] (resF (je hp0) H)=hpF hp0:=by rw [hr];rfl
  simp only [e2]
  exact this
 ·refine hp.fr j hj fun k r hk=>?_
  simp only [kw] at hk
  exact hn k r (by simp only [hr];exact hk)
 ·have e2:chF [] (resF (je hp0) H)=hpF hp0:=by rw [hr];rfl
  simp only [e2] at hk
  exact .inr ⟨k,r,by simp only [hr];exact hk,ho⟩
structure LocK (E:Env) (N:Nat) (l:List Oper) (o:Oper) (nx:Nat) (sl:List (Nat×SV)) (H:Nat→Option SR) (k:Ef→Prop):Prop where
 ex:∃ e,Loc E N l.toArray o nx sl H e∧k e
def q0r (E:Env) (N:Nat) (l:List Oper):Nat→List Oper→List Tr→(List Tr→Conf→Prop)→Conf→Prop
 | _,[],tr,K,C=>K tr C
 |i,o::r,tr,K,⟨sl,hp,nx⟩=>LocK E N l o nx (rs (rdOf l o) sl) (hpF hp) (gdW (isGd i l) (fcE fun e=>qn2 sl hp nx o.dst (q0r E N l (i+1) r (tr++[⟨rdOf l o,o.dst,e,nx⟩]) K) e))
theorem qvv {E:Env} {N:Nat} {l:List Oper} {C0:Conf} {K:List Tr→Conf→Prop}:∀ {r:List Oper} {i:Nat} {tr:List Tr} {C:Conf},(∀ k,r[k]? = l[i+k]?)→tr.length=i→i+r.length=l.length→C=runT tr C0 →
  (∀ j o t,l[j]? = some o→tr[j]? = some t→Loc E N l.toArray o t.nx (rs t.rd (runT (tr.take j) C0).sl) (hpF (runT (tr.take j) C0).hp) t.e∧t.e.wf t.nx=true∧t.nx=(runT (tr.take j) C0).nx∧t.dst=o.dst) →
  q0r E N l i r tr K C→∃ tr',qr8 E N l C0 tr'∧K tr' (runT tr' C0)
 | [],i,tr,C,hr,hl,hn,hC,hw,h=>⟨tr,⟨by simpa [hl] using hn,hw⟩,by rw [← hC];exact h⟩
 |o::r,i,tr,⟨sl,hp,nx⟩,hr,hl,hn,hC,hw,h=>by
  obtain⟨e,hL,h⟩:=h.ex
  obtain⟨e,hL,h⟩:=qtz hL h
  rw [qto] at h
  obtain⟨hwf,h⟩:=ql4 h
  ·refine qvv (r:=r) (i:=i+1) (tr:=tr++[⟨rdOf l o,o.dst,e,nx⟩]) (fun k=>?_) (by simp [hl]) (by simp at hn;omega) (by rw [qva,← hC]) (fun j o' t ho ht=>?_) h
   ·have:=hr (k+1)
    rw [show i+1+k=i+(k+1) by omega,← this]
    rfl
   ·by_cases hj:j<tr.length
    ·rw [List.getElem?_append_left hj] at ht
     rw [List.take_append_of_le_length (by omega)]
     exact hw j o' t ho ht
    ·have hji:j=tr.length:=by
      have:=lt_of_getElem? ht
      simp at this
      omega
     subst hji
     simp only [List.getElem?_concat_length,Option.some.injEq] at ht
     subst ht
     have ho2:=hr 0
     rw [← hl,Nat.add_zero,ho] at ho2
     simp only [List.getElem?_cons_zero,Option.some.injEq] at ho2
     subst ho2
     rw [List.take_left,← hC]
     exact⟨hL,hwf,rfl,rfl⟩
theorem q3h {E:Env} {rd:Option Nat} {N:Nat} {B:Bs} {Q:Exit→Conf→Prop} {C:Conf} {id:Nat} {ops:Array Oper}
  (h:q0r E N ops.toList 0 ops.toList [] (fun tr C'=>DrOk E ops.toList tr∧Q .normal C') C):Sm E rd N B (.region id ops true) Q C:=⟨fun s hs=>by
 obtain⟨tr,hw,hb,hq⟩:=qvv (C0:=C) (l:=ops.toList) (i:=0) (tr:=[]) (fun k=>by rw [Nat.zero_add]) rfl (by simp) rfl (fun j o t _ ht=>by simp at ht) h
 have hb:=hb.ok
 simp only [drB,Bool.and_eq_true] at hb
 have e:ops=ops.toList.toArray:=by simp
 rw [e]
 exact qqa hb.1.1.1 hb.1.1.2 hb.1.2 hw hb.2 hs fun s' hs'=>⟨_,hq,hs'⟩⟩
theorem locK {E:Env} {N:Nat} {l:List Oper} {o:Oper} {nx:Nat} {sl:List (Nat×SV)} {H:Nat→Option SR} {k:Ef→Prop} (h:opG E N l [] nx sl H k o):LocK E N l o nx sl H k:=⟨qur h⟩
theorem locX {E:Env} {N:Nat} {l:List Oper} {o:Oper} {nx:Nat} {sl:List (Nat×SV)} {H:Nat→Option SR} {k:Ef→Prop} (h:∃ e,Loc E N l.toArray o nx sl H e∧k e):LocK E N l o nx sl H k:=⟨h⟩
end Go.Av
namespace Go.Pl
open Go Go.Proofs Go.Proofs.YtejoahlpbckbeaaGreatDoor
section
variable {α : Type} [DecidableEq α]
def jd (a b:List α) (i j:Nat):Int:=(kq a b i j:Int)
def rowF (a b:List α) (i n:Nat):List Int:=(List.range n).map (jd a b i)
theorem qc6 (a b:List α) (i n:Nat):(rowF a b i n).length=n:=by simp [rowF]
theorem q3c (a b:List α) (i n:Nat):rowF a b i (n+1)=rowF a b i n++[jd a b i n]:=by simp [rowF,List.range_succ]
theorem qu7 (a b:List α) (i:Nat) {n j:Nat} (h:j<n):(rowF a b i n)[j]? = some (jd a b i j):=by
 unfold rowF
 rw [List.getElem?_map,List.getElem?_range h]
 rfl
def w9 (a b:List α) (i n j:Nat):List Int:=rowF a b i j++List.replicate (n - j) 0
theorem q22 (a b:List α) (i:Nat) {n j:Nat} (h:j≤n):(w9 a b i n j).length=n:=by
 unfold w9
 rw [List.length_append,qc6,List.length_replicate]
 omega
theorem qz3 (a b:List α) (i n:Nat):w9 a b i n 0=List.replicate n 0:=by simp [w9,rowF]
theorem qz2 (a b:List α) (i n:Nat):w9 a b i n n=rowF a b i n:=by simp [w9]
theorem q21 (a b:List α) (i:Nat) {n j k:Nat} (h:k<j):(w9 a b i n j)[k]? = some (jd a b i k):=by
 unfold w9
 rw [List.getElem?_append_left (by rw [qc6];exact h)]
 exact qu7 a b i h
theorem q23 (a b:List α) (i:Nat) {n j:Nat} (h:j<n):(w9 a b i n j).set j (jd a b i j)=w9 a b i n (j+1):=by
 unfold w9
 have e:n - j=n - (j+1)+1:=by omega
 rw [List.set_append_right _ _ (by rw [qc6];exact Nat.le_refl _),qc6,Nat.sub_self,e,List.replicate_succ,List.set_cons_zero,q3c,List.append_assoc]
 rfl
theorem q7k (a b:List α) (j:Nat):jd a b 0 j=j:=by unfold jd;rw [qft]
theorem qo7 (a b:List α) (i:Nat):jd a b i 0=i:=by unfold jd;rw [qdm]
theorem qy2 (a b:List α) {i j:Nat} (h:a[i]? = b[j]?):jd a b (i+1) (j+1)=jd a b i j:=by unfold jd;rw [qj9,if_pos h]
theorem qwc (a b:List α) {i j:Nat} (h:¬ a[i]? = b[j]?):jd a b (i+1) (j+1)=1+min (min (jd a b i j) (jd a b i (j+1))) (jd a b (i+1) j):=by
 unfold jd
 rw [qj9,if_neg h]
 omega
def qdy (a b:List α) (n m:Nat):List (List Int):=(List.range n).map fun i=>rowF a b i m
theorem qw7 (a b:List α) (n m:Nat):qdy a b (n+1) m=qdy a b n m++[rowF a b n m]:=by simp [qdy,List.range_succ]
theorem q0i (a b:List α) (m:Nat) {n i:Nat} (h:i<n):(qdy a b n m)[i]? = some (rowF a b i m):=by
 unfold qdy
 rw [List.getElem?_map,List.getElem?_range h]
 rfl
theorem q0j (a b:List α) (n m:Nat):(qdy a b n m).length=n:=by simp [qdy]
def qf3 (i j:Nat) (same:Bool) (diag up here:Int):Int:=
 if 0<i∧0<j∧same=true∧diag=here then 1 else if 0<i∧0<j∧diag=here - 1 then 2 else if 0<i∧up=here - 1 then 3 else 4
theorem q47 (a b:List α) (i j:Nat):qf3 i j (decide (a[i - 1]? = b[j - 1]?)) (jd a b (i - 1) (j - 1)) (jd a b (i - 1) j) (jd a b i j)=v6 a b i j:=by
 have e1:∀ x y:Nat,((x:Int)=(y:Int) - 1)↔x+1=y:=fun x y=>by omega
 have e2:∀ x y:Nat,((x:Int)=(y:Int))↔x=y:=fun x y=>by omega
 unfold qf3 v6 jd
 simp only [decide_eq_true_eq,e1,e2]
structure qd9 (a b:List α) (out:List Int) (n i j:Nat):Prop where
 le:i+j≤n
 hi:i≤a.length
 hj:j≤b.length
 eq:(wayF a b).reverse=out++wayB a b n i j
theorem q3z (a b:List α):qd9 a b [] (a.length+b.length) a.length b.length:=⟨Nat.le_refl _,Nat.le_refl _,Nat.le_refl _,by simp [wayF]⟩
theorem q6j {a b:List α} {out:List Int} {n i j:Nat} (h:qd9 a b out n i j) (h0:¬ (i=0∧j=0)) :
  ∃ m,m+1=n∧qd9 a b (out++[v6 a b i j]) m (if v6 a b i j=4 then i else i - 1) (if v6 a b i j=3 then j else j - 1):=by
 obtain⟨m,rfl⟩:∃ m,n=m+1:=⟨n - 1,by have:=h.le;omega⟩
 have h1:=h.le
 have h2:=h.hi
 have h3:=h.hj
 refine⟨m,rfl,?_,by split <;> omega,by split <;> omega,?_⟩
 ·have l:=qji a b i j
  have r:=qhs a b i j h0
  rcases qjj a b i j with e|e|e|e <;> rw [e] at l r ⊢ <;> simp at l r ⊢ <;> omega
 ·rw [h.eq,wayB,if_neg h0]
  simp
theorem q9s {a b:List α} {out:List Int} {n:Nat} (h:qd9 a b out n 0 0):out.reverse=wayF a b:=by
 have:=h.eq
 have e:wayB a b n 0 0=[]:=by cases n <;> simp [wayB]
 rw [e,List.append_nil] at this
 rw [← this,List.reverse_reverse]
end
theorem q8u {w:Int} {ws:List Int} {S:List (Int×List Fld)} {R:List (List Fld)} (h:OkW (w::ws) S R) :
  (w=1∧∃ s S' R',S=s::S'∧R=s.2::R'∧OkW ws S' R')∨(w=2∧∃ s S' r R',S=s::S'∧R=r::R'∧OkW ws S' R')∨(w=3∧∃ s S',S=s::S'∧OkW ws S' R)∨(w=4∧∃ r R',R=r::R'∧OkW ws S R'):=by
 cases h with
 |keep h=>exact .inl ⟨rfl,_,_,_,rfl,rfl,h⟩
 |change h=>exact .inr (.inl ⟨rfl,_,_,_,_,rfl,rfl,h⟩)
 |drop h=>exact .inr (.inr (.inl ⟨rfl,_,_,rfl,h⟩))
 |add h=>exact .inr (.inr (.inr ⟨rfl,_,_,rfl,h⟩))
theorem q8v {S:List (Int×List Fld)} {R:List (List Fld)} (h:OkW [] S R):S=[]∧R=[]:=by
 cases h
 exact⟨rfl,rfl⟩
theorem q7w (ws:List Int) (s:Int×List Fld) (S:List (Int×List Fld)) (r:List Fld) (R:List (List Fld)) (bh nx:Int):zb (1::ws) (s::S) (r::R) bh nx=zb ws S R s.1 nx:=by simp [zb]
theorem q1z (ws:List Int) (s:Int×List Fld) (S:List (Int×List Fld)) (r:List Fld) (R:List (List Fld)) (bh nx:Int):zb (2::ws) (s::S) (r::R) bh nx=⟨1,s.1,r⟩::zb ws S R s.1 nx:=by simp [zb]
theorem q7v (ws:List Int) (s:Int×List Fld) (S:List (Int×List Fld)) (R:List (List Fld)) (bh nx:Int):zb (3::ws) (s::S) R bh nx=⟨2,s.1,[]⟩::zb ws S R bh nx:=by simp [zb]
theorem zad (ws:List Int) (S:List (Int×List Fld)) (r:List Fld) (R:List (List Fld)) (bh nx:Int):zb (4::ws) S (r::R) bh nx=⟨3,bh,r⟩::zb ws S R nx (nx+1):=by simp [zb]
structure EdAt (full out:List qr) (ws:List Int) (S:List (Int×List Fld)) (R:List (List Fld)) (bh nx:Int):Prop where
 ok:OkW ws S R
 eq:full=out++zb ws S R bh nx
theorem q4v {ws:List Int} {S:List (Int×List Fld)} {R:List (List Fld)} (h:OkW ws S R) (bh nx:Int):EdAt (zb ws S R bh nx) [] ws S R bh nx:=⟨h,rfl⟩
theorem zae {full out:List qr} {S:List (Int×List Fld)} {R:List (List Fld)} {bh nx:Int} (h:EdAt full out [] S R bh nx):full=out:=by
 rw [h.eq,zb,List.append_nil]
theorem q7x {full out:List qr} {w:Int} {ws:List Int} {S:List (Int×List Fld)} {R:List (List Fld)} {bh nx:Int} (h:EdAt full out (w::ws) S R bh nx) :
  (w=1∧∃ s S' R',S=s::S'∧R=s.2::R'∧EdAt full out ws S' R' s.1 nx)∨(w=2∧∃ s S' r R',S=s::S'∧R=r::R'∧EdAt full (out++[⟨1,s.1,r⟩]) ws S' R' s.1 nx) ∨
  (w=3∧∃ s S',S=s::S'∧EdAt full (out++[⟨2,s.1,[]⟩]) ws S' R bh nx)∨(w=4∧∃ r R',R=r::R'∧EdAt full (out++[⟨3,bh,r⟩]) ws S R' nx (nx+1)):=by
 obtain⟨ho,he⟩:=h
 rcases q8u ho with⟨rfl,s,S',R',rfl,rfl,h⟩ | ⟨rfl,s,S',r,R',rfl,rfl,h⟩ | ⟨rfl,s,S',rfl,h⟩ | ⟨rfl,r,R',rfl,h⟩
 ·rw [q7w] at he
  exact .inl ⟨rfl,s,S',R',rfl,rfl,h,he⟩
 ·rw [q1z] at he
  exact .inr (.inl ⟨rfl,s,S',r,R',rfl,rfl,h,by rw [he];simp⟩)
 ·rw [q7v] at he
  exact .inr (.inr (.inl ⟨rfl,s,S',rfl,h,by rw [he];simp⟩))
 ·rw [zad] at he
  exact .inr (.inr (.inr ⟨rfl,r,R',rfl,h,by rw [he];simp⟩))
end Go.Pl
namespace Go.Pl
open Go Go.Proofs Go.Proofs.YtejoahlpbckbeaaGreatDoor
structure PatV where
 fr:BitVec 32
 to':BitVec 32
 b:List qr
def pat0:PatV:=⟨0,0,[]⟩
def jt (l:qp):List (List Fld):=(stzF l.ents).map Prod.snd
def xu (text:qc) (l:qp) (R:List (List Fld)):ErrV×PatV:=
 if 40<(va l R).length then (.num 1,pat0)
 else if (jn l (va l R)).1 = .no then (.no,⟨addP 0 text,addP 0 (wo (jn l (va l R)).2),va l R⟩)
 else ((jn l (va l R)).1,pat0)
def qz (old now:qc):ErrV×PatV:=
 if zx old = .no then (if zx now = .no then xu old (ofF (itsE old)) (jt (ofF (itsE now))) else (zx now,pat0)) else (zx old,pat0)
def jb (text:qc) (p:PatV):ErrV×qc:=
 if zx text = .no then
  (if addP 0 text=p.fr then
   (if (jn (ofF (itsE text)) p.b).1 = .no then
    (if addP 0 (wo (jn (ofF (itsE text)) p.b).2)=p.to' then (.no,wo (jn (ofF (itsE text)) p.b).2) else (.num 10,[]))
   else ((jn (ofF (itsE text)) p.b).1,[]))
  else (.num 13,[]))
 else (zx text,[])
def qsa (text:qc) (p:PatV):ErrV×PatV:=if (jb text p).1 = .no then qz (jb text p).2 text else ((jb text p).1,pat0)
theorem qg6 {text:qc} (h:zx text = .no):GL (ofF (itsE text)):=by
 obtain⟨h1,_,h3⟩:=qdh h
 refine zax ?_ ?_
 ·rw [h3];exact qjr h1
 ·rw [h3];exact q2z h1
theorem qth {l:qp} (h:GL l) (b:List qr):GL (jn l b).2:=by
 unfold jn
 split
 ·exact h
 ·exact q98 h b
theorem qh8 {l:qp} (h:GL l):∀ r∈jt l,zl r = .no:=q3p h
theorem qpe {old now:qc} (h:(qz old now).1 = .no):zx old = .no∧zx now = .no∧(qz old now).2=⟨addP 0 old,addP 0 (wo (jn (ofF (itsE old)) (qz old now).2.b).2),(qz old now).2.b⟩∧(jn (ofF (itsE old)) (qz old now).2.b).1 = .no∧jt (jn (ofF (itsE old)) (qz old now).2.b).2=jt (ofF (itsE now)):=by
 unfold qz at h ⊢
 by_cases h1:zx old = .no
 ·rw [if_pos h1] at h ⊢
  by_cases h2:zx now = .no
  ·rw [if_pos h2] at h ⊢
   unfold xu at h ⊢
   by_cases h3:40<(va (ofF (itsE old)) (jt (ofF (itsE now)))).length
   ·rw [if_pos h3] at h
    simp at h
   ·rw [if_neg h3] at h ⊢
    have hd:=qqi (l:=ofF (itsE old)) (R:=jt (ofF (itsE now))) (qum _) (qh8 (qg6 h2)) (by omega)
    by_cases h4:(jn (ofF (itsE old)) (va (ofF (itsE old)) (jt (ofF (itsE now))))).1 = .no
    ·rw [if_pos h4]
     rcases hd with⟨j,hd⟩ | ⟨_,hd⟩
     ·rw [h4] at hd
      simp at hd
     ·exact⟨h1,h2,rfl,h4,hd⟩
    ·rw [if_neg h4] at h
     exact absurd h h4
  ·rw [if_neg h2] at h
   exact absurd h h2
 ·rw [if_neg h1] at h
  exact absurd h h1
theorem q5c {old now:qc} (h1:zx old = .no) (h2:zx now = .no):(qz old now).1 = .no∨(qz old now).1 = .num 1∨∃ j,(qz old now).1 = .at' j 11:=by
 unfold qz
 rw [if_pos h1,if_pos h2]
 unfold xu
 by_cases h3:40<(va (ofF (itsE old)) (jt (ofF (itsE now)))).length
 ·rw [if_pos h3]
  exact .inr (.inl rfl)
 ·rw [if_neg h3]
  have hd:=qqi (l:=ofF (itsE old)) (R:=jt (ofF (itsE now))) (qum _) (qh8 (qg6 h2)) (by omega)
  by_cases h4:(jn (ofF (itsE old)) (va (ofF (itsE old)) (jt (ofF (itsE now))))).1 = .no
  ·rw [if_pos h4]
   exact .inl rfl
  ·rw [if_neg h4]
   rcases hd with⟨j,hd⟩ | ⟨hd,_⟩
   ·exact .inr (.inr ⟨j,hd⟩)
   ·exact absurd hd h4
theorem qdt {old now:qc} (h:(qz old now).1 = .no):(jb old (qz old now).2).1 = .no∧(jb old (qz old now).2).2=wo (jn (ofF (itsE old)) (qz old now).2.b).2:=by
 obtain⟨h1,h2,h3,h4,_⟩:=qpe h
 have hf:=congrArg PatV.fr h3
 have ht:=congrArg PatV.to' h3
 dsimp only at hf ht
 unfold jb
 rw [if_pos h1,if_pos hf.symm,if_pos h4,if_pos ht.symm]
 exact⟨rfl,rfl⟩
theorem qq3 {old now s:qc} (h:(qz old now).1 = .no) (hs:s=(jb old (qz old now).2).2) (hl:s.length≤60000):zx s = .no∧jt (ofF (itsE s))=jt (ofF (itsE now)):=by
 obtain⟨h1,h2,h3,h4,h5⟩:=qpe h
 have hG:=qth (qg6 h1) (qz old now).2.b
 rw [(qdt h).2] at hs
 subst hs
 have hp:=qxb hG hl
 refine⟨hp,?_⟩
 rw [← h5]
 unfold jt
 have hG2:=qg6 hp
 rw [qvk hG2]
 have e:ze (ofF (itsE (wo (jn (ofF (itsE old)) (qz old now).2.b).2)))=itsE (wo (jn (ofF (itsE old)) (qz old now).2.b).2):=q2d _
 rw [e,(qdh hp).2.2,q0l hG]
end Go.Pl
namespace Go.Pl
open Go Go.Proofs Go.Av Go.Proofs.YtejoahlpbckbeaaGreatDoor
theorem q0t (x y:BitVec 32):(x.toNat:Int)=y.toNat↔x=y:=by
 constructor
 ·intro h
  exact BitVec.eq_of_toNat_eq (by omega)
 ·rintro rfl
  rfl
theorem qcl (C:Int):∀ (ws:List Int) (S:List (Int×List Fld)) (R:List (List Fld)) (bh nx:Int),(∀ s∈S,0≤s.1∧s.1≤C)→0≤bh→bh≤C→0≤nx→nx+ws.length≤C→∀ x∈zb ws S R bh nx,0≤x.id∧x.id≤C
 | [],_,_,_,_,_,_,_,_,_,x,hx=>by simp [zb] at hx
 |w::ws,S,R,bh,nx,hS,b0,b1,n0,n1,x,hx=>by
  have hT:∀ s∈S.tail,0≤s.1∧s.1≤C:=fun s hs=>hS s (List.mem_of_mem_tail hs)
  have hh:0≤(S.headD (0,[])).1∧(S.headD (0,[])).1≤C:=by
   cases S with
   |nil=>simp;omega
   |cons s r=>exact hS s (by simp)
  simp only [List.length_cons] at n1
  rw [zb] at hx
  split at hx
  ·rcases List.mem_cons.1 hx with rfl|hx
   ·exact⟨b0,b1⟩
   ·exact qcl C ws S R.tail nx (nx+1) hS n0 (by omega) (by omega) (by omega) x hx
  ·split at hx
   ·rcases List.mem_cons.1 hx with rfl|hx
    ·exact hh
    ·exact qcl C ws S.tail R bh nx hT b0 b1 n0 (by omega) x hx
   ·split at hx
    ·rcases List.mem_cons.1 hx with rfl|hx
     ·exact hh
     ·exact qcl C ws S.tail R.tail _ nx hT hh.1 hh.2 n0 (by omega) x hx
    ·exact qcl C ws S.tail R.tail _ nx hT hh.1 hh.2 n0 (by omega) x hx
theorem qvt {α : Type} [DecidableEq α] (a b:List α):∀ n i j:Nat,(wayB a b n i j).length≤n
 | 0,_,_=>by simp [wayB]
 |n+1,i,j=>by
  rw [wayB]
  split
  ·simp
  ·have:=qvt a b n (if v6 a b i j=4 then i else i - 1) (if v6 a b i j=3 then j else j - 1)
   simp only [List.length_cons]
   omega
theorem qmh {α : Type} [DecidableEq α] (a b:List α):(wayF a b).length≤a.length+b.length:=by
 unfold wayF
 rw [List.length_reverse]
 exact qvt a b _ _ _
structure qaq (b:List qr):Prop where
 ed:∀ x∈b,EdB x
 len:b.length≤60
 fl:∀ x∈b,x.fields.length<1000000
theorem qu9 {text:qc} (h:zx text = .no):∀ r∈jt (ofF (itsE text)),zl r = .no:=qh8 (qg6 h)
theorem q9g (text:qc):∀ s∈stzF (ofF (itsE text)).ents,0≤s.1∧s.1≤(ofF (itsE text)).next:=fun s hs=>by
 obtain⟨e,he,rfl⟩:=List.mem_map.1 hs
 obtain⟨h1,h2⟩:=List.mem_filter.1 he
 have:=of_decide_eq_true h2
 have:=(qum (itsE text)).lt e h1
 simp only
 omega
theorem q1x {text:qc} {R:List (List Fld)} (hR:∀ r∈R,zl r = .no) (hl:R.length<1000000) (h40:(va (ofF (itsE text)) R).length≤40):qaq (va (ofF (itsE text)) R):=by
 have hB:=yg text
 have hn0:=hB.nx0
 have hn1:=hB.nx1
 have hg:=qld (qp0 (stzF (ofF (itsE text)).ents) R) 0 (ofF (itsE text)).next hR
 have hw:=qmh ((stzF (ofF (itsE text)).ents).map Prod.snd) R
 have hsl:=qc8 (ofF (itsE text)).ents
 have hel:=hB.len
 rw [List.length_map] at hw
 have hi:=qcl 10000000 (wayF ((stzF (ofF (itsE text)).ents).map Prod.snd) R) (stzF (ofF (itsE text)).ents) R 0 (ofF (itsE text)).next (fun s hs=>by have:=q9g text s hs;omega) (by omega) (by omega) (by omega) (by omega)
 refine⟨fun x hx=>?_,by omega,fun x hx=>by have:=(qg4 (hg x hx)).1;omega⟩
 obtain⟨h1,h2⟩:=qg4 (hg x hx)
 obtain⟨h3,h4⟩:=hi x hx
 exact⟨fun f hf=>((q19 h1 h2).val f hf).1,by omega,by omega,by omega⟩
end Go.Pl
namespace Go.Proofs.YtejoahlpbckbeaaGreatDoor
open Go Go.Av Go.RowKit Go.Proofs Go.Pl
def qem (b:List qr):AV:=if 40<b.length then .tu [yr [],errA (.num 1)] else .tu [yr b,errA .no]
theorem qtj (b:List qr):Pure (qem b):=by
 unfold qem
 split
 ·exact w6 (qgi _) (kg _)
 ·exact w6 (qgi _) (kg _)
theorem q13:EqT Tryz.prog 130:=⟨by kernel_rfl,by kernel_rfl,by kernel_rfl⟩
theorem q9l {α : Type} {a b:List α} {k:Nat} {x y : α} (hx:a[k]? = some x) (hy:b[k]? = some y) (h:x≠y):a≠b:=fun e=>by
 subst e
 rw [hx] at hy
 exact h (by simpa using hy)
theorem qjy {α : Type} {a:List α} {k:Nat} {x : α} (hx:a[k]? = some x):a.take (k+1)=a.take k++[x]:=by rw [List.take_add_one,hx];rfl
theorem q4x (a b:List Fld) (st:List AObj) (ha:a.length<1000000):qn E 107 [zr a,zr b] st fun r st'=>r=Bv (decide (a=b))∧st'=st:=by
 refine jc [.a (zr a),.a (zr b)] (q8 _) Tryz.func107 rfl rfl (fun _=>rfl) rfl fun S0=>?_
 have hma:(a.map fldA).length=a.length:=by simp
 have hmb:(b.map fldA).length=b.length:=by simp
 by_cases hl:a.length=b.length
 ·apply qe []
  repeat' (first|apply And.intro|(intro h;try exact cDd)|exact cSd|apply qd []|refine exr ?_|refine qg ?_)
  refine vv (X:=Nat) (fun k=>⟨[(0,.a (zr a)),(1,.a (zr b)),(12,.i a.length),(13,.i k)],[],0⟩) (fun k=>k≤a.length∧a.take k=b.take k) (fun k=>a.length - k) 0 ⟨by omega,by simp⟩ ?_ ?_
  ·skip
   repeat' (first|apply And.intro|(intro h;try exact cDd)|exact cSd|apply qd []|refine exr ?_|refine qg ?_)
   all_goals first|rfl|(simp;done)
  ·rintro k ⟨hk,ht⟩
   by_cases hkn:k<a.length
   ·have hx:a[k]? = some a[k]:=List.getElem?_eq_getElem hkn
    have hy:b[k]? = some (b[k]'(by omega)):=List.getElem?_eq_getElem (by omega)
    have hxm:(a.map fldA)[k]? = some (fldA a[k]):=by rw [List.getElem?_map,hx];rfl
    have hym:(b.map fldA)[k]? = some (fldA (b[k]'(by omega))):=by rw [List.getElem?_map,hy];rfl
    have h1:=qjy hx
    have h2:=qjy hy
    generalize a[k]=x at hx hxm h1
    generalize b[k]'(by omega)=y at hy hym h2
    by_cases hxy:x=y
    ·subst hxy
     have hq:x.1=x.1∧x.2=x.2∧True:=⟨rfl,rfl,trivial⟩
     apply qe []
     repeat' (first|apply And.intro|(intro h;try exact cDd)|(refine Exists.intro (k) ⟨by omega,_,hxm,?_⟩)|(refine Exists.intro (k) ⟨by omega,_,hym,?_⟩)|(refine q6w q13 rfl rfl rfl rfl rfl ?_)|exact absurd hq (by assumption)|(refine Exists.intro (k+1) ⟨⟨by omega,by rw [h1,h2,ht]⟩,by omega,?_⟩)|exact cSd|apply qd []|refine exr ?_|refine qg ?_)
     all_goals first|rfl|(simp;done)
    ·have hne:=q9l hx hy hxy
     rw [decide_eq_false hne]
     have hq:¬ (x.1=y.1∧x.2=y.2∧True):=fun h=>hxy (Prod.ext h.1 h.2.1)
     apply qe []
     repeat' (first|apply And.intro|(intro h;try exact cDd)|(refine Exists.intro (k) ⟨by omega,_,hxm,?_⟩)|(refine Exists.intro (k) ⟨by omega,_,hym,?_⟩)|(refine q6w q13 rfl rfl rfl rfl rfl ?_)|exact absurd (by assumption) hq|exact absurd hq (by assumption)|exact cSd|apply qd []|refine exr ?_|refine qg ?_)
     all_goals first|rfl|(simp;done)
   ·have hkn:k=a.length:=by omega
    subst hkn
    rw [List.take_length,hl,List.take_length] at ht
    rw [decide_eq_true ht]
    apply qe []
    repeat' (first|apply And.intro|(intro h;try exact cDd)|exact cSd|apply qd []|refine exr ?_|refine qg ?_)
 ·rw [decide_eq_false fun e=>hl (congrArg List.length e)]
  apply qe []
  repeat' (first|apply And.intro|(intro h;try exact cDd)|exact cSd|apply qd []|refine exr ?_|refine qg ?_)
theorem qo9 (a b:List Fld) (st:List AObj) (ha:a.length<1000000):qn E 58 [zr a,zr b] st fun r st'=>r=Bv (decide (a=b))∧st'=st:=by
 refine jc [.a (zr a),.a (zr b)] (q8 _) Tryz.func58 rfl rfl (fun _=>rfl) rfl fun S0=>?_
 have h:=fun st=>q4x a b st ha
 apply qe []
 repeat' (first|apply And.intro|(intro h;try exact cDd)|exact⟨Tryz.call107⟩|refine cpe h ?_|exact cSd|apply qd []|refine exr ?_|refine qg ?_)
theorem q1w (R:List (List Fld)) (st:List AObj) (hl:R.length<1000000) (hf:∀ r∈R,r.length<1000000):qn E 57 [kf R,kf R,.fn (.func 58) [] []] st fun r st'=>r=Bv true∧st'=st:=by
 refine jc [.a (kf R),.a (kf R),.fn (.func 58) [] []] (q8 _) Tryz.func57 rfl rfl (fun _=>rfl) rfl fun S0=>?_
 have hm:(R.map zr).length=R.length:=by simp
 apply qe []
 repeat' (first|apply And.intro|(intro h;try exact cDd)|exact cSd|apply qd []|refine exr ?_|refine qg ?_)
 refine vv (X:=Nat) (fun k=>⟨[(1,.a (kf R)),(2,.fn (.func 58) [] []),(15,.a (kf R)),(16,.i R.length),(17,.i k)],[],0⟩) (fun k=>k≤R.length) (fun k=>R.length - k) 0 (by omega) ?_ ?_
 ·skip
  repeat' (first|apply And.intro|(intro h;try exact cDd)|exact cSd|apply qd []|refine exr ?_|refine qg ?_)
  all_goals first|rfl|(simp;done)
 ·rintro k hk
  by_cases hkn:k<R.length
  ·have hx:R[k]? = some R[k]:=List.getElem?_eq_getElem hkn
   have hxm:(R.map zr)[k]? = some (zr R[k]):=by rw [List.getElem?_map,hx];rfl
   have hs:=fun st=>qo9 R[k] R[k] st (hf _ (List.getElem_mem hkn))
   rw [decide_eq_true rfl] at hs
   generalize R[k]=x at hx hxm hs
   apply qe []
   repeat' (first|apply And.intro|(intro h;try exact cDd)|(refine Exists.intro (k) ⟨by omega,_,hxm,?_⟩)|exact⟨Tryz.call58⟩|refine cpe hs ?_|(refine Exists.intro (k+1) ⟨by omega,by omega,?_⟩)|exact cSd|apply qd []|refine exr ?_|refine qg ?_)
  ·have hkn:k=R.length:=by omega
   subst hkn
   apply qe []
   repeat' (first|apply And.intro|(intro h;try exact cDd)|exact cSd|apply qd []|refine exr ?_|refine qg ?_)
theorem qk1 (R:List (List Fld)) (st:List AObj) (hl:R.length<1000000) (hf:∀ r∈R,r.length<1000000):qn E 23 [kf R,kf R] st fun r st'=>r=Bv true∧st'=st:=by
 refine jc [.a (kf R),.a (kf R)] (q8 _) Tryz.func23 rfl rfl (fun _=>rfl) rfl fun S0=>?_
 have h:=fun st=>q1w R st hl hf
 apply qe []
 repeat' (first|apply And.intro|(intro h;try exact cDd)|exact⟨Tryz.call57⟩|refine cpe h ?_|exact cSd|apply qd []|refine exr ?_|refine qg ?_)
@[reducible] def yb (a b : List (List Fld)) (i : Nat) : List AV := (qdy a b i (b.length + 1)).map qdf
@[reducible] def tblH (a b : List (List Fld)) (i j : Nat) : List (Nat × Option SR) := [(0, some (.cells 285 [.a (kf a), .a (kf b), .tp 1])), (1, some (.rows 75 (yb a b i) [.tp 2])), (2, some (.own 1 3 ((w9 a b i (b.length + 1) j).map fun n => Iv n)))]
theorem qdn (a b:List (List Fld)) (i:Nat):(yb a b i).length=i:=by simp [yb,q0j]
theorem qi4 (a b:List (List Fld)) {i k:Nat} (h:k<i):(yb a b i)[k]? = some (qdf (rowF a b k (b.length+1))):=by
 unfold yb
 rw [List.getElem?_map,q0i a b (b.length+1) h]
 rfl
theorem q1q (a b:List (List Fld)) {i k:Nat} (h:k<i) (cs:List SV):((yb a b i).map SV.a++cs)[k]? = some (.a (qdf (rowF a b k (b.length+1)))):=by
 rw [List.getElem?_append_left (by rw [List.length_map,qdn];exact h),List.getElem?_map,qi4 a b h]
 rfl
theorem qqe (a b:List (List Fld)) (i:Nat) (v:SV):((yb a b i).map SV.a++[v])[i]? = some v:=by
 rw [List.getElem?_append_right (by rw [List.length_map,qdn];omega),List.length_map,qdn,Nat.sub_self]
 rfl
theorem qff (a b:List (List Fld)) (i:Nat) {n j:Nat} (h:j<n):((rowF a b i n).map fun n=>Iv n)[j]? = some (Iv (jd a b i j)):=by
 rw [List.getElem?_map,qu7 a b i h]
 rfl
theorem q20 (a b:List (List Fld)) (i:Nat) {n j k:Nat} (h:k<j):((w9 a b i n j).map fun n=>Iv n)[k]? = some (Iv (jd a b i k)):=by
 rw [List.getElem?_map,q21 a b i h]
 rfl
theorem qrc (a b:List (List Fld)) (i:Nat) {n j:Nat} (h:j≤n):((w9 a b i n j).map fun n=>Iv n).length=n:=by rw [List.length_map,q22 a b i h]
theorem qh9 {R:List (List Fld)} {k:Nat} (h:k<R.length):(R.map zr)[k]? = some (zr R[k]):=by rw [List.getElem?_map,List.getElem?_eq_getElem h];rfl
theorem qb5 (a b:List (List Fld)) (i j:Nat):0≤jd a b i j∧jd a b i j≤(i:Int)+j:=by
 have:=qxk a b i j
 unfold jd
 omega
theorem q8i (a b:List (List Fld)) (i j:Nat) (hi:i≤a.length) (hj:j≤b.length) (ha:a.length<1000000) (hb:b.length<1000000) (hf:∀ r∈a,r.length<1000000):jo E 230 [.bx 0 0,.i i,.i j] 3 (hpF (tblH a b i j)) ⟨.i (jd a b i j),je (tblH a b i j),tblH a b i j++j6 (tblH a b i j),3⟩:=by
 refine vj [.bx 0 0,.i i,.i j] (tblH a b i j) 3 (.i (jd a b i j)) (tblH a b i j) 3 Tryz.func230 rfl rfl rfl rfl fun S F ρ=>?_
 cases i with
 |zero=>
  rw [q7k]
  apply qe []
  repeat' (first|apply And.intro|(intro h;try exact cDd)|exact cSd|apply qd []|refine exr ?_|refine qg ?_)
  all_goals first|rfl|assumption|(simp;done)
 |succ i=>
  cases j with
  |zero=>
   rw [qo7]
   apply qe []
   repeat' (first|apply And.intro|(intro h;try exact cDd)|exact cSd|apply qd []|refine exr ?_|refine qg ?_)
   all_goals first|rfl|assumption|(simp;done)
  |succ j=>
   have hx:=qh9 (R:=a) (k:=i) (by omega)
   have hy:=qh9 (R:=b) (k:=j) (by omega)
   have hs:=fun st=>qo9 (a[i]'(by omega)) (b[j]'(by omega)) st (hf _ (List.getElem_mem _))
   have hr1:=q1q a b (show i<i+1 by omega) [.tp 2]
   have hr2:=qqe a b (i+1) (.tp 2)
   have hl:=qdn a b (i+1)
   have g1:=qff a b i (n:=b.length+1) (j:=j) (by omega)
   have g2:=qff a b i (n:=b.length+1) (j:=j+1) (by omega)
   have g3:=q20 a b (i+1) (n:=b.length+1) (j:=j+1) (k:=j) (by omega)
   have gl:=qrc a b (i+1) (n:=b.length+1) (j:=j+1) (by omega)
   have p1:=qb5 a b i j
   have p2:=qb5 a b i (j+1)
   have p3:=qb5 a b (i+1) j
   have hsame:=@qy2 _ _ a b i j
   have hoth:=@qwc _ _ a b i j
   have ei:a[i]? = some (a[i]'(by omega)):=List.getElem?_eq_getElem (by omega)
   have ej:b[j]? = some (b[j]'(by omega)):=List.getElem?_eq_getElem (by omega)
   rw [ei,ej,Option.some.injEq] at hsame hoth
   generalize a[i]'(by omega)=x at *
   generalize b[j]'(by omega)=y at *
   by_cases hxy:x=y
   ·rw [decide_eq_true hxy] at hs
    rw [hsame hxy]
    apply qe []
    repeat' (first|apply And.intro|(intro h;try exact cDd)|(refine Exists.intro (i) ⟨by omega,_,hx,?_⟩)|(refine Exists.intro (j) ⟨by omega,_,hy,?_⟩)|(refine Exists.intro (j) ⟨by omega,_,g1,?_⟩)|exact⟨Tryz.call58⟩|refine cpe hs ?_|(refine qf8 (i:=i) rfl rfl rfl (ix64 (by omega)) rfl rfl (by omega) ?_)|(refine qf9 (i:=i) rfl rfl rfl rfl hr1 rfl ?_)|exact cSd|apply qd []|refine exr ?_|refine qg ?_)
    all_goals first|rfl|assumption|(simp;done)
   ·rw [decide_eq_false hxy] at hs
    rw [hoth hxy]
    apply qe []
    repeat' (first|apply And.intro|(intro h;try exact cDd)|(refine Exists.intro (i) ⟨by omega,_,hx,?_⟩)|(refine Exists.intro (j) ⟨by omega,_,hy,?_⟩)|(refine Exists.intro (j) ⟨by omega,_,g1,?_⟩)|(refine Exists.intro ((j+1)) ⟨by omega,_,g2,?_⟩)|exact⟨Tryz.call58⟩|refine cpe hs ?_|(refine qf8 (i:=i) rfl rfl rfl (ix64 (by omega)) rfl rfl (by omega) ?_)|(refine qf9 (i:=i) rfl rfl rfl rfl hr1 rfl ?_)|(refine qf8 (i:=i+1) rfl rfl rfl (ix64 (by omega)) rfl rfl (by simp only [List.length_cons,List.length_nil];omega) ?_)|(refine qf9 (i:=i+1) rfl rfl rfl rfl hr2 rfl ?_)|(refine qbx (i:=j) rfl rfl rfl (ix64 (by omega)) rfl rfl (by omega) ?_)|(refine qfd (i:=j) (j:=0) rfl rfl rfl rfl g3 rfl rfl ?_)|(refine q8p rfl rfl rfl rfl rfl rfl ?_)|exact cSd|apply qd []|refine exr ?_|refine qg ?_)
    all_goals first|rfl|assumption|(simp;done)|omega
theorem qy3 (a b:List (List Fld)) (i:Nat):yb a b (i+1)=yb a b i++[qdf (rowF a b i (b.length+1))]:=by
 unfold yb
 rw [qw7,List.map_append]
 rfl
@[reducible] def tblA (a b : List (List Fld)) : AV := .pp [kf a, kf b, .sl 1 (yb a b (a.length + 1)) none]
theorem q6e (a b:List (List Fld)):Pure (tblA a b):=qpm fun x hx=>by
 simp only [List.mem_cons,List.not_mem_nil,or_false] at hx
 rcases hx with rfl|rfl|rfl
 ·exact qh7 _
 ·exact qh7 _
 ·refine qa7 fun x hx=>?_
  obtain⟨f,_,rfl⟩:=List.mem_map.1 hx
  intro y hy
  simp only [AV.cells,List.mem_singleton] at hy
  subst hy
  exact qco _
set_option maxHeartbeats 2000000 in
theorem q6c (a b:List (List Fld)) (st:List AObj) (ha:a.length<1000000) (hb:b.length<1000000) (hf:∀ r∈a,r.length<1000000):qn E 193 [kf a,kf b] st fun r st'=>r=tblA a b∧st'=st:=by
 refine qh3 [.a (kf a),.a (kf b)] (q6e a b) Tryz.func193 rfl rfl (fun _=>rfl) rfl fun S0=>?_
 have hma:(a.map zr).length=a.length:=by simp
 have hmb:(b.map zr).length=b.length:=by simp
 apply qe [11]
 repeat' (first|apply And.intro|(intro h;try exact cDd)|exact cSd|apply qd [11]|refine exr ?_|refine qg ?_)
 refine vv (X:=Nat) (fun i=>⟨[(1,.a (kf b)),(5,.bx 0 0),(14,.i (a.length+1)),(15,.i i)],[(0,some (.cells 285 [.a (kf a),.a (kf b),.tp 1])),(1,some (.rows 75 (yb a b i) []))],2⟩) (fun i=>i≤a.length+1) (fun i=>a.length+1 - i) 0 (by omega) ?_ ?_
 ·skip
  repeat' (first|apply And.intro|(intro h;try exact cDd)|exact cSd|apply qd []|refine exr ?_|refine qg ?_)
  all_goals first|rfl|(simp [SV.evs,SV.rens,SV.ren,SV.ev];done)
 ·rintro i hi
  have hcl:=qdn a b i
  have hcn:=qqe a b i (.tp 2)
  have hp0:((List.replicate (b.length+1) (Value.int .i64 0)).map AV.v)=(w9 a b i (b.length+1) 0).map fun n=>Iv n:=by rw [qz3];simp
  by_cases hin:i<a.length+1
  ·apply qe []
   repeat' (first|apply And.intro|(intro h;try exact cDd)|apply q3h|(refine locX (q5j (n:=b.length) rfl (fun _=>congrArg (fun x:Int=>Iv x) (by omega)) rfl (fun _=>congrArg (fun x:Int=>Iv x) (by omega)) rfl rfl rfl rfl rfl rfl (show 8 * (b.length+1)≤281474976710656 by omega) (by omega) ?_))|(refine locX (qz9 rfl rfl rfl rfl rfl rfl ?_))|(refine locX (qw2 rfl rfl rfl rfl rfl (by simp) rfl rfl rfl rfl (by simp only [List.length_cons,List.length_nil];omega) ?_))|(refine locK ?_)|exact cSd|apply qd []|refine exr ?_|refine qg ?_)
   refine vv (X:=Nat) (fun j=>⟨[(1,.a (kf b)),(5,.bx 0 0),(6,.i i),(14,.i (a.length+1)),(15,.i i),(26,.tp 2),(33,.i (b.length+1)),(34,.i j)],tblH a b i j,3⟩) (fun j=>j≤b.length+1) (fun j=>b.length+1 - j) 0 (by omega) ?_ ?_
   ·skip
    repeat' (first|apply And.intro|(intro h;try exact cDd)|exact cSd|apply qd []|refine exr ?_|refine qg ?_)
    all_goals first|rfl|(rw [hp0];done)|(simp [SV.evs,SV.rens,SV.ren,SV.ev];done)
   ·rintro j hj
    have hpl:=qrc a b i (n:=b.length+1) (j:=j) (by omega)
    by_cases hjn:j<b.length+1
    ·have hlt:=q8i a b i j (by omega) (by omega) ha hb hf
     have hz:((w9 a b i (b.length+1) j).map fun n=>Iv n)[j]? = some (Iv 0):=by
      unfold w9
      rw [List.getElem?_map,List.getElem?_append_right (by rw [qc6];omega),qc6,Nat.sub_self,List.getElem?_replicate,if_pos (by omega)]
      rfl
     have hs:((w9 a b i (b.length+1) j).map fun n=>Iv n).set j (Iv (jd a b i j))=(w9 a b i (b.length+1) (j+1)).map fun n=>Iv n:=by
      rw [← q23 a b i hjn,List.map_set]
     apply qe []
     repeat' (first|apply And.intro|(intro h;try exact cDd)|(refine qf8 (i:=i) rfl rfl rfl rfl rfl rfl (by simp only [List.length_cons,List.length_nil];omega) ?_)|(refine qf9 (i:=i) rfl rfl rfl rfl hcn rfl ?_)|exact⟨Tryz.call230⟩|(refine Exists.intro _ ⟨q7g hlt ⟨rfl,rfl,rfl,trivial⟩,?_⟩)|(refine qbx (i:=j) rfl rfl rfl rfl rfl rfl (by omega) ?_)|(refine qf6 (i:=j) (j:=0) (z:=Iv 0) (z':=Iv (jd a b i j)) (u:=Iv (jd a b i j)) rfl rfl (fun _=>rfl) rfl rfl rfl hz rfl rfl ?_)|(refine Exists.intro (j+1) ⟨by omega,by omega,?_⟩)|exact cSd|apply qd []|refine exr ?_|refine qg ?_)
     all_goals first|rfl|(rw [hs];done)|(simp [SV.evs,SV.rens,SV.ren,SV.ev];done)
    ·have hjn:j=b.length+1:=by omega
     subst hjn
     have hne:((w9 a b i (b.length+1) (b.length+1)).map fun n=>Iv n)≠[]:=fun h=>by
      rw [h] at hpl
      simp at hpl
     have hsn:yb a b (i+1)=yb a b i++[.sl 1 ((w9 a b i (b.length+1) (b.length+1)).map fun n=>Iv n) none]:=by rw [qy3,qz2]
     refine q53 (b:=1) (r:=2) rfl rfl hne ?_
     apply qe []
     repeat' (first|apply And.intro|(intro h;try exact cDd)|(refine Exists.intro (i+1) ⟨by omega,by omega,?_⟩)|exact cSd|apply qd []|refine exr ?_|refine qg ?_)
     all_goals first|rfl|(rw [hsn];done)|(simp [SV.evs,SV.rens,SV.ren,SV.ev];done)
  ·have hin:i=a.length+1:=by omega
   subst hin
   refine qw3 (b:=1) rfl ?_
   apply qe []
   repeat' (first|apply And.intro|(intro h;try exact cDd)|exact cSd|apply qd []|refine exr ?_|refine qg ?_)
set_option maxHeartbeats 4000000 in
theorem zan (a b:List (List Fld)) (i j:Nat) (st:List AObj) (h0:¬ (i=0∧j=0)) (hi:i≤a.length) (hj:j≤b.length) (ha:a.length<1000000) (hb:b.length<1000000) (hf:∀ r∈a,r.length<1000000):qn E 231 [tblA a b,Iv i,Iv j] st fun r st'=>r=Iv (v6 a b i j)∧st'=st:=by
 refine jc [.a (tblA a b),.i i,.i j] (q8 _) Tryz.func231 rfl rfl (fun _=>rfl) rfl fun S0=>?_
 rw [← q47]
 have hr0:=qi4 a b (show i<a.length+1 by omega)
 have g0:=qff a b i (n:=b.length+1) (j:=j) (by omega)
 have p0:=qb5 a b i j
 cases i with
 |zero=>
  have hn:qf3 0 j (decide (a[0 - 1]? = b[j - 1]?)) (jd a b (0 - 1) (j - 1)) (jd a b (0 - 1) j) (jd a b 0 j)=4:=by simp [qf3]
  rw [hn]
  apply qe []
  repeat' (first|apply And.intro|(intro h;try exact cDd)|(refine Exists.intro (0) ⟨by omega,_,hr0,?_⟩)|(refine Exists.intro (j) ⟨by omega,_,g0,?_⟩)|exact cSd|apply qd []|refine exr ?_|refine qg ?_)
  all_goals first|rfl|(simp;done)
 |succ i=>
  simp only [Nat.add_sub_cancel]
  have hr1:=qi4 a b (show i<a.length+1 by omega)
  have g1:=qff a b i (n:=b.length+1) (j:=j) (by omega)
  have p1:=qb5 a b i j
  cases j with
  |zero=>
   have e1:jd a b (i+1) 0=jd a b i 0+1:=by rw [qo7,qo7];omega
   have hn:qf3 (i+1) 0 (decide (a[i]? = b[0 - 1]?)) (jd a b i (0 - 1)) (jd a b i 0) (jd a b (i+1) 0)=3:=by
    unfold qf3
    rw [if_neg (by omega),if_neg (by omega),if_pos ⟨by omega,by omega⟩]
   rw [hn]
   generalize jd a b (i+1) 0=c0 at *
   generalize jd a b i 0=c1 at *
   apply qe []
   repeat' (first|apply And.intro|(intro h;try exact cDd)|(refine Exists.intro ((i+1)) ⟨by omega,_,hr0,?_⟩)|(refine Exists.intro (i) ⟨by omega,_,hr1,?_⟩)|(refine Exists.intro (0) ⟨by omega,_,g0,?_⟩)|(refine Exists.intro (0) ⟨by omega,_,g1,?_⟩)|exact cSd|apply qd []|refine exr ?_|refine qg ?_)
   all_goals first|rfl|(simp;done)|omega
  |succ j=>
   simp only [Nat.add_sub_cancel]
   have hx:=qh9 (R:=a) (k:=i) (by omega)
   have hy:=qh9 (R:=b) (k:=j) (by omega)
   have hs:=fun st=>qo9 (a[i]'(by omega)) (b[j]'(by omega)) st (hf _ (List.getElem_mem _))
   have g2:=qff a b i (n:=b.length+1) (j:=j) (by omega)
   have p2:=qb5 a b i j
   have ei:a[i]? = some (a[i]'(by omega)):=List.getElem?_eq_getElem (by omega)
   have ej:b[j]? = some (b[j]'(by omega)):=List.getElem?_eq_getElem (by omega)
   rw [ei,ej]
   simp only [Option.some.injEq]
   generalize a[i]'(by omega)=x at *
   generalize b[j]'(by omega)=y at *
   generalize jd a b (i+1) (j+1)=c0 at *
   generalize jd a b i (j+1)=c1 at *
   generalize jd a b i j=c2 at *
   have hl:∀ q:Bool,qf3 (i+1) (j+1) q c2 c1 c0=if q=true∧c2=c0 then 1 else if c2=c0 - 1 then 2 else if c1=c0 - 1 then 3 else 4:=fun q=>by
    unfold qf3
    simp
   rw [hl]
   by_cases hxy:x=y
   ·rw [decide_eq_true hxy] at hs ⊢
    simp only [true_and]
    by_cases h1:c2=c0
    ·rw [if_pos h1]
     apply qe []
     repeat' (first|apply And.intro|(intro h;try exact cDd)|(refine Exists.intro ((i+1)) ⟨by omega,_,hr0,?_⟩)|(refine Exists.intro (i) ⟨by omega,_,hr1,?_⟩)|(refine Exists.intro ((j+1)) ⟨by omega,_,g0,?_⟩)|(refine Exists.intro ((j+1)) ⟨by omega,_,g1,?_⟩)|(refine Exists.intro (j) ⟨by omega,_,g2,?_⟩)|(refine Exists.intro (i) ⟨by omega,_,hx,?_⟩)|(refine Exists.intro (j) ⟨by omega,_,hy,?_⟩)|exact⟨Tryz.call58⟩|refine cpe hs ?_|exact cSd|apply qd []|refine exr ?_|refine qg ?_)
     all_goals first|rfl|(simp;done)|omega
    ·rw [if_neg h1]
     by_cases h2:c2=c0 - 1
     ·rw [if_pos h2]
      apply qe []
      repeat' (first|apply And.intro|(intro h;try exact cDd)|(refine Exists.intro ((i+1)) ⟨by omega,_,hr0,?_⟩)|(refine Exists.intro (i) ⟨by omega,_,hr1,?_⟩)|(refine Exists.intro ((j+1)) ⟨by omega,_,g0,?_⟩)|(refine Exists.intro ((j+1)) ⟨by omega,_,g1,?_⟩)|(refine Exists.intro (j) ⟨by omega,_,g2,?_⟩)|(refine Exists.intro (i) ⟨by omega,_,hx,?_⟩)|(refine Exists.intro (j) ⟨by omega,_,hy,?_⟩)|exact⟨Tryz.call58⟩|refine cpe hs ?_|exact cSd|apply qd []|refine exr ?_|refine qg ?_)
      all_goals first|rfl|(simp;done)|omega
     ·rw [if_neg h2]
      by_cases h3:c1=c0 - 1
      ·rw [if_pos h3]
       apply qe []
       repeat' (first|apply And.intro|(intro h;try exact cDd)|(refine Exists.intro ((i+1)) ⟨by omega,_,hr0,?_⟩)|(refine Exists.intro (i) ⟨by omega,_,hr1,?_⟩)|(refine Exists.intro ((j+1)) ⟨by omega,_,g0,?_⟩)|(refine Exists.intro ((j+1)) ⟨by omega,_,g1,?_⟩)|(refine Exists.intro (j) ⟨by omega,_,g2,?_⟩)|(refine Exists.intro (i) ⟨by omega,_,hx,?_⟩)|(refine Exists.intro (j) ⟨by omega,_,hy,?_⟩)|exact⟨Tryz.call58⟩|refine cpe hs ?_|exact cSd|apply qd []|refine exr ?_|refine qg ?_)
       all_goals first|rfl|(simp;done)|omega
      ·rw [if_neg h3]
       apply qe []
       repeat' (first|apply And.intro|(intro h;try exact cDd)|(refine Exists.intro ((i+1)) ⟨by omega,_,hr0,?_⟩)|(refine Exists.intro (i) ⟨by omega,_,hr1,?_⟩)|(refine Exists.intro ((j+1)) ⟨by omega,_,g0,?_⟩)|(refine Exists.intro ((j+1)) ⟨by omega,_,g1,?_⟩)|(refine Exists.intro (j) ⟨by omega,_,g2,?_⟩)|(refine Exists.intro (i) ⟨by omega,_,hx,?_⟩)|(refine Exists.intro (j) ⟨by omega,_,hy,?_⟩)|exact⟨Tryz.call58⟩|refine cpe hs ?_|exact cSd|apply qd []|refine exr ?_|refine qg ?_)
       all_goals first|rfl|(simp;done)|omega
   ·rw [decide_eq_false hxy] at hs ⊢
    rw [if_neg (by simp)]
    by_cases h2:c2=c0 - 1
    ·rw [if_pos h2]
     apply qe []
     repeat' (first|apply And.intro|(intro h;try exact cDd)|(refine Exists.intro ((i+1)) ⟨by omega,_,hr0,?_⟩)|(refine Exists.intro (i) ⟨by omega,_,hr1,?_⟩)|(refine Exists.intro ((j+1)) ⟨by omega,_,g0,?_⟩)|(refine Exists.intro ((j+1)) ⟨by omega,_,g1,?_⟩)|(refine Exists.intro (j) ⟨by omega,_,g2,?_⟩)|(refine Exists.intro (i) ⟨by omega,_,hx,?_⟩)|(refine Exists.intro (j) ⟨by omega,_,hy,?_⟩)|exact⟨Tryz.call58⟩|refine cpe hs ?_|exact cSd|apply qd []|refine exr ?_|refine qg ?_)
     all_goals first|rfl|(simp;done)|omega
    ·rw [if_neg h2]
     by_cases h3:c1=c0 - 1
     ·rw [if_pos h3]
      apply qe []
      repeat' (first|apply And.intro|(intro h;try exact cDd)|(refine Exists.intro ((i+1)) ⟨by omega,_,hr0,?_⟩)|(refine Exists.intro (i) ⟨by omega,_,hr1,?_⟩)|(refine Exists.intro ((j+1)) ⟨by omega,_,g0,?_⟩)|(refine Exists.intro ((j+1)) ⟨by omega,_,g1,?_⟩)|(refine Exists.intro (j) ⟨by omega,_,g2,?_⟩)|(refine Exists.intro (i) ⟨by omega,_,hx,?_⟩)|(refine Exists.intro (j) ⟨by omega,_,hy,?_⟩)|exact⟨Tryz.call58⟩|refine cpe hs ?_|exact cSd|apply qd []|refine exr ?_|refine qg ?_)
      all_goals first|rfl|(simp;done)|omega
     ·rw [if_neg h3]
      apply qe []
      repeat' (first|apply And.intro|(intro h;try exact cDd)|(refine Exists.intro ((i+1)) ⟨by omega,_,hr0,?_⟩)|(refine Exists.intro (i) ⟨by omega,_,hr1,?_⟩)|(refine Exists.intro ((j+1)) ⟨by omega,_,g0,?_⟩)|(refine Exists.intro ((j+1)) ⟨by omega,_,g1,?_⟩)|(refine Exists.intro (j) ⟨by omega,_,g2,?_⟩)|(refine Exists.intro (i) ⟨by omega,_,hx,?_⟩)|(refine Exists.intro (j) ⟨by omega,_,hy,?_⟩)|exact⟨Tryz.call58⟩|refine cpe hs ?_|exact cSd|apply qd []|refine exr ?_|refine qg ?_)
      all_goals first|rfl|(simp;done)|omega
end Go.Proofs.YtejoahlpbckbeaaGreatDoor
namespace Go.Pl
open Go Go.Proofs
def revP (ns:List Int) (i:Nat):List Int:=(List.range ns.length).map fun k=>if k<i∨ns.length - i≤k then ns.getD (ns.length - 1 - k) 0 else ns.getD k 0
theorem qc5 (ns:List Int) (i:Nat):(revP ns i).length=ns.length:=by simp [revP]
theorem qc4 (ns:List Int) (i:Nat) {k:Nat} (h:k<ns.length):(revP ns i)[k]? = some (if k<i∨ns.length - i≤k then ns.getD (ns.length - 1 - k) 0 else ns.getD k 0):=by
 unfold revP
 rw [List.getElem?_map,List.getElem?_range h]
 rfl
theorem q3b (ns:List Int):revP ns 0=ns:=by
 refine List.ext_getElem? fun k=>?_
 by_cases h:k<ns.length
 ·rw [qc4 ns 0 h,if_neg (by omega),List.getElem?_eq_getElem h,List.getD_eq_getElem?_getD,List.getElem?_eq_getElem h]
  rfl
 ·rw [List.getElem?_eq_none (by rw [qc5];omega),List.getElem?_eq_none (by omega)]
theorem q3a (ns:List Int) {i j:Nat} (h:i<j) (hj:i+j+1=ns.length):((revP ns i).set i (ns.getD j 0)).set j (ns.getD i 0)=revP ns (i+1):=by
 refine List.ext_getElem? fun k=>?_
 by_cases hk:k<ns.length
 ·rw [qc4 ns (i+1) hk,List.getElem?_set,List.getElem?_set,qc4 ns i hk]
  simp only [List.length_set,qc5]
  by_cases e1:j=k
  ·subst e1
   rw [if_pos rfl,if_pos hk,if_pos (by omega),show ns.length - 1 - j=i by omega]
  ·rw [if_neg e1]
   by_cases e2:i=k
   ·subst e2
    rw [if_pos rfl,if_pos hk,if_pos (by omega),show ns.length - 1 - i=j by omega]
   ·rw [if_neg e2]
    by_cases c:k<i∨ns.length - i≤k
    ·rw [if_pos c,if_pos (by omega)]
    ·rw [if_neg c,if_neg (by omega)]
 ·rw [List.getElem?_eq_none (by simp [qc5];omega),List.getElem?_eq_none (by rw [qc5];omega)]
theorem q51 (ns:List Int) {i:Nat} (h:ns.length≤2 * i+1):revP ns i=ns.reverse:=by
 refine List.ext_getElem? fun k=>?_
 by_cases hk:k<ns.length
 ·rw [qc4 ns i hk,List.getElem?_reverse hk,List.getElem?_eq_getElem (show ns.length - 1 - k<ns.length by omega)]
  by_cases c:k<i∨ns.length - i≤k
  ·rw [if_pos c,List.getD_eq_getElem?_getD,List.getElem?_eq_getElem (show ns.length - 1 - k<ns.length by omega)]
   rfl
  ·have e:ns.length - 1 - k=k:=by omega
   rw [if_neg c,List.getD_eq_getElem?_getD,List.getElem?_eq_getElem hk]
   simp only [e]
   rfl
 ·rw [List.getElem?_eq_none (by rw [qc5];omega),List.getElem?_eq_none (by simp;omega)]
end Go.Pl
namespace Go.Proofs.YtejoahlpbckbeaaGreatDoor
open Go Go.Av Go.RowKit Go.Proofs Go.Pl
theorem zbr (ns:List Int) (hl:ns.length<1000000000):jo E 232 [.tp 0] 1 (hpF [(0,some (.own 1 3 (ns.map fun n=>Iv n)))]) ⟨.tu [],je [(0,some (SR.own 1 3 (ns.map fun n=>Iv n)))],[(0,some (.own 1 3 (ns.reverse.map fun n=>Iv n)))]++j6 [(0,some (SR.own 1 3 (ns.map fun n=>Iv n)))],1⟩:=by
 refine vj [.tp 0] [(0,some (.own 1 3 (ns.map fun n=>Iv n)))] 1 (.tu []) [(0,some (.own 1 3 (ns.reverse.map fun n=>Iv n)))] 1 Tryz.func232 rfl rfl rfl rfl fun S F ρ=>?_
 have hml:(ns.map fun n=>Iv n).length=ns.length:=by simp
 apply qe []
 repeat' (first|apply And.intro|(intro h;try exact cDd)|exact cSd|apply qd []|refine exr ?_|refine qg ?_)
 refine vv (X:=Nat) (fun i=>⟨[(0,.tp 0),(2,.i i),(3,.i ((ns.length:Int) - 1 - i))],[(0,some (.own 1 3 ((revP ns i).map fun n=>Iv n)))],1⟩) (fun i=>2 * i≤ns.length+1) (fun i=>ns.length - i) 0 (by omega) ?_ ?_
 ·skip
  repeat' (first|apply And.intro|(intro h;try exact cDd)|exact cSd|apply qd []|refine exr ?_|refine qg ?_)
  all_goals first|rfl|(rw [q3b];done)|(rw [hml];simp;done)|(simp;done)
 ·rintro i hi
  have hlen:((revP ns i).map fun n=>Iv n).length=ns.length:=by rw [List.length_map,qc5]
  by_cases h:2 * i+1<ns.length
  ·obtain⟨j,hj⟩:∃ j,i+j+1=ns.length:=⟨ns.length - 1 - i,by omega⟩
   have g1:((revP ns i).map fun n=>Iv n)[i]? = some (Iv (ns.getD i 0)):=by rw [List.getElem?_map,qc4 ns i (by omega),if_neg (by omega)];rfl
   have g2:((revP ns i).map fun n=>Iv n)[j]? = some (Iv (ns.getD j 0)):=by rw [List.getElem?_map,qc4 ns i (by omega),if_neg (by omega)];rfl
   have g3:(((revP ns i).map fun n=>Iv n).set i (Iv (ns.getD j 0)))[j]? = some (Iv (ns.getD j 0)):=by rw [List.getElem?_set_ne (by omega)];exact g2
   have hs:(((revP ns i).map fun n=>Iv n).set i (Iv (ns.getD j 0))).set j (Iv (ns.getD i 0))=(revP ns (i+1)).map fun n=>Iv n:=by
    rw [← q3a ns (by omega:i<j) hj,List.map_set,List.map_set]
   apply qe []
   repeat' (first|apply And.intro|(intro h;try exact cDd)|(refine qbx (i:=i) rfl rfl rfl rfl rfl rfl (by first|omega|(rw [List.length_set];omega)) ?_)|(refine qbx (i:=j) rfl rfl rfl (ix64 (by omega)) rfl rfl (by first|omega|(rw [List.length_set];omega)) ?_)|(refine qfd (i:=i) (j:=0) rfl rfl rfl rfl g1 rfl rfl ?_)|(refine qfd (i:=j) (j:=0) rfl rfl rfl rfl g2 rfl rfl ?_)|(refine qf6 (i:=i) (j:=0) (z:=Iv (ns.getD i 0)) (z':=Iv (ns.getD j 0)) (u:=Iv (ns.getD j 0)) rfl rfl (fun _=>rfl) rfl rfl rfl g1 rfl rfl ?_)|(refine qf6 (i:=j) (j:=0) (z:=Iv (ns.getD j 0)) (z':=Iv (ns.getD i 0)) (u:=Iv (ns.getD i 0)) rfl rfl (fun _=>rfl) rfl rfl rfl g3 rfl rfl ?_)|(refine Exists.intro (i+1) ⟨by omega,by omega,?_⟩)|exact cSd|apply qd []|refine exr ?_|refine qg ?_)
   all_goals first|rfl|(rw [hs];done)|exact congrArg (fun n:Int=>Iv n) (by omega)|(simp;done)
  ·rw [q51 ns (by omega)]
   apply qe []
   repeat' (first|apply And.intro|(intro h;try exact cDd)|exact cSd|apply qd []|refine exr ?_|refine qg ?_)
   all_goals first|rfl|(simp;done)
set_option maxHeartbeats 1000000 in
theorem zbw (a b:List (List Fld)) (st:List AObj) (ha:a.length<1000000) (hb:b.length<1000000) (hf:∀ r∈a,r.length<1000000):qn E 194 [tblA a b] st fun r st'=>r=qdf (wayF a b)∧st'=st:=by
 refine qh3 [.a (tblA a b)] (qco _) Tryz.func194 rfl rfl (fun _=>rfl) rfl fun S0=>?_
 have hma:(a.map zr).length=a.length:=by simp
 have hmb:(b.map zr).length=b.length:=by simp
 have hwl:=qmh a b
 apply qe []
 repeat' (first|apply And.intro|(intro h;try exact cDd)|exact cSd|apply qd []|refine exr ?_|refine qg ?_)
 refine vv (X:=List Int×Nat×Nat×Nat) (fun (out,n,i,j)=>⟨[(0,.a (tblA a b)),(3,.tp 0),(4,.i i),(5,.i j)],[(0,some (.own 1 3 (out.map fun n=>Iv n)))],1⟩) (fun (out,n,i,j)=>qd9 a b out n i j) (fun (out,n,i,j)=>i+j) ([],a.length+b.length,a.length,b.length) (q3z a b) ?_ ?_
 ·skip
  repeat' (first|apply And.intro|(intro h;try exact cDd)|exact cSd|apply qd []|refine exr ?_|refine qg ?_)
  all_goals first|rfl|(simp;done)
 ·rintro⟨out,n,i,j⟩ hW
  have h1:=hW.hi
  have h2:=hW.hj
  have hol:out.length≤a.length+b.length:=by
   have:=congrArg List.length hW.eq
   rw [List.length_reverse,List.length_append] at this
   omega
  have hml:(out.map fun n=>Iv n).length=out.length:=by simp
  by_cases h0:i=0∧j=0
  ·obtain⟨rfl,rfl⟩:=h0
   have he:=q9s hW
   have hr:=zbr out (by omega)
   rw [he] at hr
   apply qe []
   repeat' (first|apply And.intro|(intro h;try exact cDd)|exact⟨Tryz.call232⟩|(refine z0 hr ?_)|exact cSd|apply qd []|refine exr ?_|refine qg ?_)
   all_goals first|rfl|(simp;done)
  ·have hc:=fun st=>zan a b i j st h0 h1 h2 ha hb hf
   obtain⟨m,hm,hM⟩:=q6j hW h0
   have hll:=qji a b i j
   have hlr:=qhs a b i j h0
   rcases qjj a b i j with e|e|e|e
   ·rw [e] at hc hM hll hlr
    obtain⟨i,rfl⟩:∃ k,i=k+1:=⟨i - 1,by have:=hll (by decide);omega⟩
    obtain⟨j,rfl⟩:∃ k,j=k+1:=⟨j - 1,by have:=hlr (by decide);omega⟩
    have hM:qd9 a b (out++[1]) m i j:=by simpa using hM
    apply qe []
    repeat' (first|apply And.intro|(intro h;try exact cDd)|exact⟨Tryz.call231⟩|refine cpe hc ?_|(refine qef (ys:=[Iv 1]) rfl rfl rfl rfl rfl rfl rfl rfl (by simp only [List.length_cons,List.length_nil];omega) rfl ?_)|(refine Exists.intro (out++[1],m,i,j) ⟨hM,by simp only;omega,?_⟩)|exact cSd|apply qd []|refine exr ?_|refine qg ?_)
    all_goals first|rfl|exact congrArg (fun n:Int=>Iv n) (by omega)|(simp;done)
   ·rw [e] at hc hM hll hlr
    obtain⟨i,rfl⟩:∃ k,i=k+1:=⟨i - 1,by have:=hll (by decide);omega⟩
    obtain⟨j,rfl⟩:∃ k,j=k+1:=⟨j - 1,by have:=hlr (by decide);omega⟩
    have hM:qd9 a b (out++[2]) m i j:=by simpa using hM
    apply qe []
    repeat' (first|apply And.intro|(intro h;try exact cDd)|exact⟨Tryz.call231⟩|refine cpe hc ?_|(refine qef (ys:=[Iv 2]) rfl rfl rfl rfl rfl rfl rfl rfl (by simp only [List.length_cons,List.length_nil];omega) rfl ?_)|(refine Exists.intro (out++[2],m,i,j) ⟨hM,by simp only;omega,?_⟩)|exact cSd|apply qd []|refine exr ?_|refine qg ?_)
    all_goals first|rfl|exact congrArg (fun n:Int=>Iv n) (by omega)|(simp;done)
   ·rw [e] at hc hM hll
    obtain⟨i,rfl⟩:∃ k,i=k+1:=⟨i - 1,by have:=hll (by decide);omega⟩
    have hM:qd9 a b (out++[3]) m i j:=by simpa using hM
    apply qe []
    repeat' (first|apply And.intro|(intro h;try exact cDd)|exact⟨Tryz.call231⟩|refine cpe hc ?_|(refine qef (ys:=[Iv 3]) rfl rfl rfl rfl rfl rfl rfl rfl (by simp only [List.length_cons,List.length_nil];omega) rfl ?_)|(refine Exists.intro (out++[3],m,i,j) ⟨hM,by simp only;omega,?_⟩)|exact cSd|apply qd []|refine exr ?_|refine qg ?_)
    all_goals first|rfl|exact congrArg (fun n:Int=>Iv n) (by omega)|(simp;done)
   ·rw [e] at hc hM hlr
    obtain⟨j,rfl⟩:∃ k,j=k+1:=⟨j - 1,by have:=hlr (by decide);omega⟩
    have hM:qd9 a b (out++[4]) m i j:=by simpa using hM
    apply qe []
    repeat' (first|apply And.intro|(intro h;try exact cDd)|exact⟨Tryz.call231⟩|refine cpe hc ?_|(refine qef (ys:=[Iv 4]) rfl rfl rfl rfl rfl rfl rfl rfl (by simp only [List.length_cons,List.length_nil];omega) rfl ?_)|(refine Exists.intro (out++[4],m,i,j) ⟨hM,by simp only;omega,?_⟩)|exact cSd|apply qd []|refine exr ?_|refine qg ?_)
    all_goals first|rfl|exact congrArg (fun n:Int=>Iv n) (by omega)|(simp;done)
theorem zac (a b:List (List Fld)) (st:List AObj) (ha:a.length<1000000) (hb:b.length<1000000) (hf:∀ r∈a,r.length<1000000):qn E 148 [kf a,kf b] st fun r st'=>r=qdf (wayF a b)∧st'=st:=by
 refine jc [.a (kf a),.a (kf b)] (qco _) Tryz.func148 rfl rfl (fun _=>rfl) rfl fun S0=>?_
 have ht:=fun st=>q6c a b st ha hb hf
 have hw:=fun st=>zbw a b st ha hb hf
 apply qe []
 repeat' (first|apply And.intro|(intro h;try exact cDd)|exact⟨Tryz.call193⟩|refine cpe ht ?_|exact⟨Tryz.call194⟩|refine cpe hw ?_|exact cSd|apply qd []|refine exr ?_|refine qg ?_)
theorem qel (l:qp) (st:List AObj) (hl:l.ents.length<1000000) (hI:∀ e∈l.ents,e.x.fields.length<1000000):qn E 24 [ki l] st fun r st'=>r=kf (jt l)∧st'=st:=by
 refine jc [.a (ki l)] (qh7 _) Tryz.func24 rfl rfl (fun _=>rfl) rfl fun S0=>?_
 have hz:=fun st=>qny l st hl hI
 have hsl:=qc8 l.ents
 unfold jt
 generalize stzF l.ents=s at *
 have hms:(s.map stzA).length=s.length:=by simp
 apply qe []
 repeat' (first|apply And.intro|(intro h;try exact cDd)|exact⟨Tryz.call59⟩|refine cpe hz ?_|exact cSd|apply qd []|refine exr ?_|refine qg ?_)
 refine vv (X:=Nat) (fun k=>⟨[(3,.tp 0),(7,.a (qsl s)),(8,.i s.length),(9,.i k)],[(0,some (.tip 1 70 (((s.take k).map Prod.snd).map zr)))],1⟩) (fun k=>k≤s.length) (fun k=>s.length - k) 0 (by omega) ?_ ?_
 ·skip
  repeat' (first|apply And.intro|(intro h;try exact cDd)|exact cSd|apply qd []|refine exr ?_|refine qg ?_)
  all_goals first|rfl|(simp;done)
 ·rintro k hk
  by_cases hkn:k<s.length
  ·have hx:s[k]? = some s[k]:=List.getElem?_eq_getElem hkn
   have hxm:(s.map stzA)[k]? = some (stzA s[k]):=by rw [List.getElem?_map,hx];rfl
   have htk:=qjy hx
   have htl:(((s.take k).map Prod.snd).map zr).length≤s.length:=by simp;omega
   generalize s[k]=x at hx hxm htk
   apply qe []
   repeat' (first|apply And.intro|(intro h;try exact cDd)|(refine Exists.intro (k) ⟨by omega,_,hxm,?_⟩)|(refine Exists.intro (k+1) ⟨by omega,by omega,?_⟩)|exact cSd|apply qd []|refine exr ?_|refine qg ?_)
   all_goals first|rfl|(rw [htk];simp;done)|(simp;omega)
  ·have hkn:k=s.length:=by omega
   subst hkn
   rw [List.take_length]
   apply qe []
   repeat' (first|apply And.intro|(intro h;try exact cDd)|exact cSd|apply qd []|refine exr ?_|refine qg ?_)
@[reducible] def wkH (n : Nat) (S : List (Int × List Fld)) (R : List (List Fld)) (bh nx : Int) (out : List qr) : List (Nat × Option SR) := [(0, some (.cells 220 [.a (qsl S), .a (kf R), .i bh, .i nx, .tp n])), (n, some (.tip 3 72 (out.map x2)))]
theorem q9h (s:Int×List Fld) (S:List (Int×List Fld)) (r:List Fld) (R:List (List Fld)) (bh nx:Int) (out:List qr) (hr:r.length<1000000) (hS:S.length<1000000) (hR:R.length<1000000):jo E 149 [.bx 0 0,.i 1] 2 (hpF (wkH 1 (s::S) (r::R) bh nx out)) ⟨.tu [],je (wkH 1 (s::S) (r::R) bh nx out),wkH 1 S R s.1 nx out++j6 (wkH 1 (s::S) (r::R) bh nx out),2⟩:=by
 refine vj [.bx 0 0,.i 1] (wkH 1 (s::S) (r::R) bh nx out) 2 (.tu []) (wkH 1 S R s.1 nx out) 2 Tryz.func149 rfl rfl rfl rfl fun S0 F ρ=>?_
 have hc:=fun st=>y5 r st hr
 have h1:((s::S).map stzA)[0]? = some (stzA s):=rfl
 have h2:((r::R).map zr)[0]? = some (zr r):=rfl
 have l1:((s::S).map stzA).length=S.length+1:=by simp
 have l2:((r::R).map zr).length=R.length+1:=by simp
 apply qe []
 repeat' (first|apply And.intro|(intro h;try exact cDd)|(refine Exists.intro (0) ⟨by omega,_,h1,?_⟩)|(refine Exists.intro (0) ⟨by omega,_,h2,?_⟩)|exact⟨Tryz.call109⟩|refine cpe hc ?_|exact cSd|apply qd []|refine exr ?_|refine qg ?_)
 all_goals first|rfl|(simp;done)
theorem q9i (s:Int×List Fld) (S:List (Int×List Fld)) (r:List Fld) (R:List (List Fld)) (bh nx:Int) (out:List qr) (hr:r.length<1000000) (hS:S.length<1000000) (hR:R.length<1000000) (ho:out.length<10000000):jo E 149 [.bx 0 0,.i 2] 2 (hpF (wkH 1 (s::S) (r::R) bh nx out)) ⟨.tu [],je (wkH 1 (s::S) (r::R) bh nx out),wkH 2 S R s.1 nx (out++[(⟨1,s.1,r⟩:qr)])++j6 (wkH 1 (s::S) (r::R) bh nx out),3⟩:=by
 refine vj [.bx 0 0,.i 2] (wkH 1 (s::S) (r::R) bh nx out) 2 (.tu []) (wkH 2 S R s.1 nx (out++[(⟨1,s.1,r⟩:qr)])) 3 Tryz.func149 rfl rfl rfl rfl fun S0 F ρ=>?_
 have hc:=fun st=>y5 r st hr
 have h1:((s::S).map stzA)[0]? = some (stzA s):=rfl
 have h2:((r::R).map zr)[0]? = some (zr r):=rfl
 have l1:((s::S).map stzA).length=S.length+1:=by simp
 have l2:((r::R).map zr).length=R.length+1:=by simp
 have l3:(out.map x2).length=out.length:=by simp
 apply qe []
 repeat' (first|apply And.intro|(intro h;try exact cDd)|(refine Exists.intro (0) ⟨by omega,_,h1,?_⟩)|(refine Exists.intro (0) ⟨by omega,_,h2,?_⟩)|exact⟨Tryz.call109⟩|refine cpe hc ?_|exact cSd|apply qd []|refine exr ?_|refine qg ?_)
 all_goals first|rfl|(simp;done)|(simp [SV.evs,SV.rens,SV.ren,SV.ev];done)
theorem q9j (s:Int×List Fld) (S:List (Int×List Fld)) (R:List (List Fld)) (bh nx:Int) (out:List qr) (hS:S.length<1000000) (ho:out.length<10000000):jo E 149 [.bx 0 0,.i 3] 2 (hpF (wkH 1 (s::S) R bh nx out)) ⟨.tu [],je (wkH 1 (s::S) R bh nx out),wkH 2 S R bh nx (out++[(⟨2,s.1,[]⟩:qr)])++j6 (wkH 1 (s::S) R bh nx out),3⟩:=by
 refine vj [.bx 0 0,.i 3] (wkH 1 (s::S) R bh nx out) 2 (.tu []) (wkH 2 S R bh nx (out++[(⟨2,s.1,[]⟩:qr)])) 3 Tryz.func149 rfl rfl rfl rfl fun S0 F ρ=>?_
 have h1:((s::S).map stzA)[0]? = some (stzA s):=rfl
 have l1:((s::S).map stzA).length=S.length+1:=by simp
 have l3:(out.map x2).length=out.length:=by simp
 apply qe []
 repeat' (first|apply And.intro|(intro h;try exact cDd)|(refine Exists.intro (0) ⟨by omega,_,h1,?_⟩)|exact cSd|apply qd []|refine exr ?_|refine qg ?_)
 all_goals first|rfl|(simp;done)|(simp [SV.evs,SV.rens,SV.ren,SV.ev];done)
theorem q9k (S:List (Int×List Fld)) (r:List Fld) (R:List (List Fld)) (bh nx:Int) (out:List qr) (hr:r.length<1000000) (hR:R.length<1000000) (ho:out.length<10000000) (hn:0≤nx∧nx<100000000):jo E 149 [.bx 0 0,.i 4] 2 (hpF (wkH 1 S (r::R) bh nx out)) ⟨.tu [],je (wkH 1 S (r::R) bh nx out),wkH 2 S R nx (nx+1) (out++[(⟨3,bh,r⟩:qr)])++j6 (wkH 1 S (r::R) bh nx out),3⟩:=by
 refine vj [.bx 0 0,.i 4] (wkH 1 S (r::R) bh nx out) 2 (.tu []) (wkH 2 S R nx (nx+1) (out++[(⟨3,bh,r⟩:qr)])) 3 Tryz.func149 rfl rfl rfl rfl fun S0 F ρ=>?_
 have hc:=fun st=>y5 r st hr
 have h2:((r::R).map zr)[0]? = some (zr r):=rfl
 have l2:((r::R).map zr).length=R.length+1:=by simp
 have l3:(out.map x2).length=out.length:=by simp
 apply qe []
 repeat' (first|apply And.intro|(intro h;try exact cDd)|(refine Exists.intro (0) ⟨by omega,_,h2,?_⟩)|exact⟨Tryz.call109⟩|refine cpe hc ?_|exact cSd|apply qd []|refine exr ?_|refine qg ?_)
 all_goals first|rfl|(simp;done)|(simp [SV.evs,SV.rens,SV.ren,SV.ev];done)
set_option maxHeartbeats 1000000 in
theorem q4l (text:qc) (R:List (List Fld)) (st:List AObj) (hR:∀ r∈R,zl r = .no) (hrl:R.length<1000000):qn E 94 [ki (ofF (itsE text)),kf R] st fun r st'=>r=qem (va (ofF (itsE text)) R)∧st'=st:=by
 have hB:=yg text
 have hI:=qcr text
 have hb1:=hB.len
 have hb2:=hB.nx0
 have hb3:=hB.nx1
 have hz:=fun st=>qny (ofF (itsE text)) st (by omega) fun e he=>by have:=(hI e he).2;omega
 have hn:=fun st=>q8l (ofF (itsE text)) st
 have hr:=fun st=>qel (ofF (itsE text)) st (by omega) fun e he=>by have:=(hI e he).2;omega
 have hsl:=qc8 (ofF (itsE text)).ents
 have hrf:∀ r∈R,r.length<1000000:=fun r h=>by have:=(qck (hR r h)).2.1;omega
 have hw:=fun st=>zac (jt (ofF (itsE text))) R st (by unfold jt;rw [List.length_map];omega) hrl fun r hr=>by
  unfold jt at hr
  obtain⟨s,hs,rfl⟩:=List.mem_map.1 hr
  obtain⟨e,he,rfl⟩:=List.mem_map.1 hs
  have:=(hI e (List.mem_filter.1 he).1).2
  simp only
  omega
 have hwl:=qmh (jt (ofF (itsE text))) R
 have hrll:(jt (ofF (itsE text))).length=(stzF (ofF (itsE text)).ents).length:=by simp [jt]
 have hst:=q4v (qp0 (stzF (ofF (itsE text)).ents) R) 0 (ofF (itsE text)).next
 refine jc [.a (ki (ofF (itsE text))),.a (kf R)] (qtj _) Tryz.func94 rfl rfl (fun _=>rfl) rfl fun S0=>?_
 unfold va
 unfold jt at hw hwl hrll hr
 generalize ofF (itsE text)=l at *
 generalize hws:wayF ((stzF l.ents).map Prod.snd) R=ws at *
 generalize stzF l.ents=S1 at *
 generalize zb ws S1 R 0 l.next=full at *
 have hml:(ws.map fun n=>Iv n).length=ws.length:=by simp
 apply qe [18]
 repeat' (first|apply And.intro|(intro h;try exact cDd)|exact⟨Tryz.call59⟩|refine cpe hz ?_|exact⟨Tryz.call147⟩|refine cpe hn ?_|exact⟨Tryz.call24⟩|refine cpe hr ?_|exact⟨Tryz.call148⟩|refine cpe hw ?_|exact cSd|apply qd [18]|refine exr ?_|refine qg ?_)
 refine vv (X:=Nat×List (Int×List Fld)×List (List Fld)×Int×Int×List qr) (fun (k,S,Q,bh,nx,out)=>⟨[(6,.bx 0 0),(22,.a (qdf ws)),(23,.i ws.length),(24,.i k)],wkH 1 S Q bh nx out,2⟩)
  (fun (k,S,Q,bh,nx,out)=>(k≤ws.length∧EdAt full out (ws.drop k) S Q bh nx)∧out.length≤k∧0≤nx∧nx≤l.next+k∧S.length≤S1.length∧Q.length≤R.length∧∀ r∈Q,r.length<1000000) (fun (k,_)=>ws.length - k) (0,S1,R,0,l.next,[]) ⟨⟨by omega,by simpa using hst⟩,by simp,by omega,by omega,by omega,by omega,hrf⟩ ?_ ?_
 ·skip
  repeat' (first|apply And.intro|(intro h;try exact cDd)|exact cSd|apply qd []|refine exr ?_|refine qg ?_)
  all_goals first|rfl|(simp;done)
 ·rintro⟨k,S,Q,bh,nx,out⟩ ⟨⟨hk,hE⟩,ho,hn0,hn1,hS,hQ,hQf⟩
  by_cases hkn:k<ws.length
  ·have hx:ws[k]? = some ws[k]:=List.getElem?_eq_getElem hkn
   have hxm:(ws.map fun n=>Iv n)[k]? = some (Iv ws[k]):=by rw [List.getElem?_map,hx];rfl
   rw [List.drop_eq_getElem_cons hkn] at hE
   generalize ws[k]=w at hx hxm hE
   rcases q7x hE with⟨rfl,s,S',Q',rfl,rfl,hE2⟩ | ⟨rfl,s,S',r,Q',rfl,rfl,hE2⟩ | ⟨rfl,s,S',rfl,hE2⟩ | ⟨rfl,r,Q',rfl,hE2⟩
   ·simp only [List.length_cons] at hS hQ
    have hc:=q9h s S' s.2 Q' bh nx out (hQf _ (by simp)) (by omega) (by omega)
    apply qe []
    repeat' (first|apply And.intro|(intro h;try exact cDd)|(refine Exists.intro (k) ⟨by omega,_,hxm,?_⟩)|exact⟨Tryz.call149⟩|(refine z0 hc ?_)|(refine Exists.intro (k+1,S',Q',s.1,nx,out) ⟨⟨⟨by omega,hE2⟩,by omega,by omega,by omega,by omega,by omega,fun r hr=>hQf r (by simp [hr])⟩,by simp only;omega,?_⟩)|exact cSd|apply qd []|refine exr ?_|refine qg ?_)
    all_goals first|rfl|(simp;done)
   ·simp only [List.length_cons] at hS hQ
    have hc:=q9i s S' r Q' bh nx out (hQf _ (by simp)) (by omega) (by omega) (by omega)
    apply qe []
    repeat' (first|apply And.intro|(intro h;try exact cDd)|(refine Exists.intro (k) ⟨by omega,_,hxm,?_⟩)|exact⟨Tryz.call149⟩|(refine z0 hc ?_)|(refine Exists.intro (k+1,S',Q',s.1,nx,out++[(⟨1,s.1,r⟩:qr)]) ⟨⟨⟨by omega,hE2⟩,by simp;omega,by omega,by omega,by omega,by omega,fun r hr=>hQf r (by simp [hr])⟩,by simp only;omega,?_⟩)|exact cSd|apply qd []|refine exr ?_|refine qg ?_)
    all_goals first|rfl|(simp;done)
   ·simp only [List.length_cons] at hS
    have hc:=q9j s S' Q bh nx out (by omega) (by omega)
    apply qe []
    repeat' (first|apply And.intro|(intro h;try exact cDd)|(refine Exists.intro (k) ⟨by omega,_,hxm,?_⟩)|exact⟨Tryz.call149⟩|(refine z0 hc ?_)|(refine Exists.intro (k+1,S',Q,bh,nx,out++[(⟨2,s.1,[]⟩:qr)]) ⟨⟨⟨by omega,hE2⟩,by simp;omega,by omega,by omega,by omega,by omega,hQf⟩,by simp only;omega,?_⟩)|exact cSd|apply qd []|refine exr ?_|refine qg ?_)
    all_goals first|rfl|(simp;done)
   ·simp only [List.length_cons] at hQ
    have hc:=q9k S r Q' bh nx out (hQf _ (by simp)) (by omega) (by omega) (by omega)
    apply qe []
    repeat' (first|apply And.intro|(intro h;try exact cDd)|(refine Exists.intro (k) ⟨by omega,_,hxm,?_⟩)|exact⟨Tryz.call149⟩|(refine z0 hc ?_)|(refine Exists.intro (k+1,S,Q',nx,nx+1,out++[(⟨3,bh,r⟩:qr)]) ⟨⟨⟨by omega,hE2⟩,by simp;omega,by omega,by omega,by omega,by omega,fun r hr=>hQf r (by simp [hr])⟩,by simp only;omega,?_⟩)|exact cSd|apply qd []|refine exr ?_|refine qg ?_)
    all_goals first|rfl|(simp;done)
  ·have hkn:k=ws.length:=by omega
   subst hkn
   rw [List.drop_length] at hE
   have hsq:=q8v hE.ok
   have hfull:=zae hE
   rw [hfull]
   have hmo:(out.map x2).length=out.length:=by simp
   unfold qem
   by_cases h40:40<out.length
   ·rw [if_pos h40]
    apply qe []
    repeat' (first|apply And.intro|(intro h;try exact cDd)|exact cSd|apply qd []|refine exr ?_|refine qg ?_)
   ·rw [if_neg h40]
    apply qe []
    repeat' (first|apply And.intro|(intro h;try exact cDd)|exact cSd|apply qd []|refine exr ?_|refine qg ?_)
end Go.Proofs.YtejoahlpbckbeaaGreatDoor
