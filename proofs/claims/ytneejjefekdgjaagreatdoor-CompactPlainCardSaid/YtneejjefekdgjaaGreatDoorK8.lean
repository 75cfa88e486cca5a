/- Contracts and plain facts that the closing text leans on (part 8). No condition of their own beyond those that each states. -/
import Derived.Test.YtneejjefekdgjaaGreatDoorK7
import Derived.Test.YtneejjefekdgjaaGreatDoorK0
set_option maxRecDepth 100000
set_option linter.unusedVariables false
set_option linter.unusedSimpArgs false
namespace Go.Proofs.YtneejjefekdgjaaGreatDoor
open Go Go.Av Go.RowKit Go.Proofs Go.Pl
structure BkB (b:v6):Prop where
 base:b.base.length<1000000
 len:b.batches.length≤14000
 bat:∀ x∈b.batches,BB x∧x.length≤5000
theorem q42 (b:List qq):9≤(recE b).length:=by
 unfold recE recF qhv
 simp [zr]
 omega
theorem qqu:∀ r:List (List qq),9 * r.length≤(ke r).length
 | []=>by simp [ke]
 |b::r=>by
  have h1:=qqu r
  have h2:=q42 b
  rw [x4]
  simp only [List.length_append,List.length_cons]
  omega
theorem qjc {text:qa} {b:v6} (h:x9 text b):BkB b:=by
 have h1:=congrArg List.length h.split
 have h2:=h.len
 have h3:=qqu b.batches
 simp only [List.length_append,xt] at h1
 refine⟨by omega,by omega,fun x hx=>?_⟩
 obtain⟨g1,g2,_⟩:=qed (h.good x hx).ok
 exact⟨⟨by omega,(h.good x hx).B⟩,by omega⟩
def qea (b:v6) (n:Int):ErrV×RunV:=if n<0∨(b.batches.length:Int)<n then (.num 1,⟨ofF [],[],[]⟩) else wp b.base (b.batches.take n.toNat)
theorem qlu (b:v6) (n:Int) (st:List AObj) (hB:BkB b):ql E 30 [qb8 b,Iv n] st fun r st'=>r=qqb (qea b n).1 (qea b n).2.l∧st'=st:=by
 refine z4 [.a (qb8 b),.i n] (qih _ _) Tryz.func30 rfl rfl (fun _=>rfl) rfl fun S0=>?_
 have hbl:=hB.len
 have hml:(b.batches.map ku).length=b.batches.length:=by simp
 unfold qea
 by_cases hn:n<0∨(b.batches.length:Int)<n
 ·rw [if_pos hn]
  apply qd []
  repeat' (first|apply And.intro|(intro h;try exact cDd)|exact cSd|apply qb []|refine exr ?_|refine qj ?_)
 ·rw [if_neg hn]
  obtain⟨k,rfl⟩:∃ k:Nat,n=(k:Int):=⟨n.toNat,by omega⟩
  rw [Int.toNat_natCast]
  have hp:=fun st=>zbb b.base (b.batches.take k) st hB.base (by simp;omega) (fun x hx=>hB.bat x (List.mem_of_mem_take hx))
  unfold qd9 at hp
  rw [List.map_take] at hp
  generalize wp b.base (b.batches.take k)=p at hp
  obtain⟨e,r⟩:=p
  cases e with
  |no=>
   apply qd []
   repeat' (first|apply And.intro|(intro h;try exact cDd)|exact⟨Tryz.call76⟩|refine cpe hp ?_|exact cSd|apply qb []|refine exr ?_|refine qj ?_)
  |num m=>
   apply qd []
   repeat' (first|apply And.intro|(intro h;try exact cDd)|exact⟨Tryz.call76⟩|refine cpe hp ?_|exact cSd|apply qb []|refine exr ?_|refine qj ?_)
  |at' a m=>
   apply qd []
   repeat' (first|apply And.intro|(intro h;try exact cDd)|exact⟨Tryz.call76⟩|refine cpe hp ?_|exact cSd|apply qb []|refine exr ?_|refine qj ?_)
theorem zdp (b:v6) (st:List AObj) (hB:BkB b):ql E 64 [qb8 b] st fun r st'=>r=qqb (wp b.base b.batches).1 (wp b.base b.batches).2.l∧st'=st:=by
 refine z4 [.a (qb8 b)] (qih _ _) Tryz.func64 rfl rfl (fun _=>rfl) rfl fun S0=>?_
 have hml:(b.batches.map ku).length=b.batches.length:=by simp
 have e:qea b (((b.batches.map ku).length:Nat):Int)=wp b.base b.batches:=by
  unfold qea
  rw [hml,if_neg (by omega),Int.toNat_natCast,List.take_length]
 have hp:=fun st=>qlu b (((b.batches.map ku).length:Nat):Int) st hB
 rw [e] at hp
 generalize wp b.base b.batches=p at hp
 obtain⟨er,r⟩:=p
 cases er with
 |no=>
  apply qd []
  repeat' (first|apply And.intro|(intro h;try exact cDd)|exact⟨Tryz.call30⟩|refine cpe hp ?_|exact cSd|apply qb []|refine exr ?_|refine qj ?_)
 |num m=>
  apply qd []
  repeat' (first|apply And.intro|(intro h;try exact cDd)|exact⟨Tryz.call30⟩|refine cpe hp ?_|exact cSd|apply qb []|refine exr ?_|refine qj ?_)
 |at' a m=>
  apply qd []
  repeat' (first|apply And.intro|(intro h;try exact cDd)|exact⟨Tryz.call30⟩|refine cpe hp ?_|exact cSd|apply qb []|refine exr ?_|refine qj ?_)
def zg (text:qa):ErrV×v6×qs:=if (ja text).1 = .no then (if (wp (ja text).2.base (ja text).2.batches).1 = .no then (.no,(ja text).2,(wp (ja text).2.base (ja text).2.batches).2.l) else ((wp (ja text).2.base (ja text).2.batches).1,qev,ofF [])) else ((ja text).1,qev,ofF [])
def qiz (r:ErrV×v6×qs):AV:=match r.1 with
 | .no=>.tu [qb8 r.2.1,jx r.2.2,errA .no]
 |e=>.tu [qb8 r.2.1,.v (.pointer none),errA e]
theorem qyo (r:ErrV×v6×qs):Pure (qiz r):=by
 unfold qiz
 split
 ·exact qjz (qjb _) (qf6 _) (j6 _)
 ·exact qjz (qjb _) (qu _) (j6 _)
theorem qmn (text:qa) (st:List AObj) (hl:text.length<1000000):ql E 21 [Sv text] st fun r st'=>r=qiz (zg text)∧st'=st:=by
 refine z4 [.s text] (qyo _) Tryz.func21 rfl rfl (fun _=>rfl) rfl fun S0=>?_
 have hbr:=fun st=>qy6 text st hl
 have hbk:(ja text).1 = .no→BkB (ja text).2:=fun h=>qjc (qgp (text:=text) (b:=(ja text).2) (by rw [← h]))
 unfold zg
 generalize ja text=q at hbr hbk
 obtain⟨e,b⟩:=q
 cases e with
 |num m=>
  rw [if_neg (by simp)]
  apply qd []
  repeat' (first|apply And.intro|(intro h;try exact cDd)|exact⟨Tryz.call22⟩|refine cpe hbr ?_|exact cSd|apply qb []|refine exr ?_|refine qj ?_)
 |at' a m=>
  rw [if_neg (by simp)]
  apply qd []
  repeat' (first|apply And.intro|(intro h;try exact cDd)|exact⟨Tryz.call22⟩|refine cpe hbr ?_|exact cSd|apply qb []|refine exr ?_|refine qj ?_)
 |no=>
  rw [if_pos rfl]
  have hof:=fun st=>zdp b st (hbk rfl)
  dsimp only
  generalize wp b.base b.batches=p at hof
  obtain⟨e,r⟩:=p
  cases e with
  |no=>
   rw [if_pos rfl]
   apply qd []
   repeat' (first|apply And.intro|(intro h;try exact cDd)|exact⟨Tryz.call22⟩|refine cpe hbr ?_|exact⟨Tryz.call64⟩|refine cpe hof ?_|exact cSd|apply qb []|refine exr ?_|refine qj ?_)
  |num m=>
   rw [if_neg (by simp)]
   apply qd []
   repeat' (first|apply And.intro|(intro h;try exact cDd)|exact⟨Tryz.call22⟩|refine cpe hbr ?_|exact⟨Tryz.call64⟩|refine cpe hof ?_|exact cSd|apply qb []|refine exr ?_|refine qj ?_)
  |at' a m=>
   rw [if_neg (by simp)]
   apply qd []
   repeat' (first|apply And.intro|(intro h;try exact cDd)|exact⟨Tryz.call22⟩|refine cpe hbr ?_|exact⟨Tryz.call64⟩|refine cpe hof ?_|exact cSd|apply qb []|refine exr ?_|refine qj ?_)
end Go.Proofs.YtneejjefekdgjaaGreatDoor
namespace Go.Pl
open Go Go.Proofs Go.Proofs.YtneejjefekdgjaaGreatDoor
def trL (ls:List qa):List (qa×Bool):=ls.map fun s=>(s,true)
def now0:qt:=⟨2,[],[]⟩
def blkR:Bool→qt→List qa→Option qt
 | _,now,[]=>some now
 |prev,now,t::r=>
  if jo prev t true (trL r) now.fields.length 0≠0∨qr t=1 then none
  else if qr t=4 then blkR true ⟨3,now.raw++t++[10],now.fields++[(jh (t::kv (trL r))).1]⟩ r
  else blkR (decide (qr t=3)) ⟨now.kind,now.raw++t++[10],now.fields⟩ r
def qud:List (qa×Bool)→Prop
 | []=>True
 |(t,_)::_=>qr t=1
theorem qh0:∀ (ls:List qa) (rest:List (qa×Bool)),qud rest→kv (trL ls++rest)=kv (trL ls)
 | [],[],_=>rfl
 | [],(t,e)::r,h=>by
  have h:qr t=1:=h
  show (if qr t=3 then _ else _)=_
  rw [if_neg (by omega)]
  rfl
 |t::r,rest,h=>by
  show (if qr t=3 then t::kv (trL r++rest) else [])=(if qr t=3 then t::kv (trL r) else [])
  rw [qh0 r rest h]
theorem qkc (prev:Bool) (t:qa) (ls:List qa) (rest:List (qa×Bool)) (n:Nat) (rec:Int) (h:qud rest):jo prev t true (trL ls++rest) n rec=jo prev t true (trL ls) n rec:=by
 unfold jo
 rw [qh0 ls rest h]
theorem q54 {prev:Bool} {t:qa} {L:List (qa×Bool)} {n:Nat} {rec:Int} (h:jo prev t true L n 0=0) (hr:qr t=4→n=0→rec<400):jo prev t true L n rec=0:=by
 unfold jo at h ⊢
 split
 ·rename_i h1;rw [if_pos h1] at h;exact h
 ·rename_i h1
  rw [if_neg h1] at h
  split
  ·rfl
  ·rename_i h4
   rw [if_neg h4] at h
   split
   ·rename_i hu;rw [if_pos hu] at h;exact h
   ·rename_i hu
    rw [if_neg hu] at h
    have h4:=Classical.not_not.1 h4
    rw [if_neg]
    intro hh
    rcases hh with hh|hh
    ·rw [if_pos (.inl hh)] at h;omega
    ·have:=hr h4 hh.1;omega
theorem qra {prev:Bool} {t:qa} {e:Bool} {L:List (qa×Bool)} {n:Nat} {rec:Int} (h:jo prev t e L n rec=0):jo prev t e L n 0=0:=by
 unfold jo at h ⊢
 split
 ·rename_i h1;rw [if_pos h1] at h;exact h
 ·rename_i h1
  rw [if_neg h1] at h
  split
  ·rfl
  ·rename_i h4
   rw [if_neg h4] at h
   split
   ·rename_i hu;rw [if_pos hu] at h;exact h
   ·rename_i hu
    rw [if_neg hu] at h
    rw [if_neg]
    intro hh
    rcases hh with hh|hh
    ·rw [if_pos (.inl hh)] at h;omega
    ·omega
theorem q53 {prev:Bool} {t:qa} {e:Bool} {L:List (qa×Bool)} {n:Nat} {rec:Int} (h:jo prev t e L n rec=0):e=true∧10∉t:=by
 unfold jo at h
 split at h
 ·omega
 ·rename_i h1
  refine⟨by cases e with|true=>rfl|false=>exact absurd (.inr (.inr rfl)) h1,fun h10=>h1 (.inl ?_)⟩
  unfold qr
  rw [if_pos h10]
theorem qnp {prev:Bool} {t:qa} {L:List (qa×Bool)} {n:Nat} {rec:Int} (h:qr t=1):jo prev t true L n rec=0:=by
 unfold jo
 rw [if_neg (by simp [h]),if_pos (by omega)]
theorem qhl:∀ (ls:List qa) (prev:Bool) (now x:qt),blkR prev now ls=some x→now.kind=3→x.kind=3
 | [],_,now,x,h,hk=>by cases h;exact hk
 |t::r,prev,now,x,h,hk=>by
  rw [blkR] at h
  split at h
  ·cases h
  ·split at h
   ·exact qhl r _ _ _ h rfl
   ·exact qhl r _ _ _ h hk
theorem qmb:∀ (ls:List qa) (prev:Bool) (now x:qt),blkR prev now ls=some x→x.raw=now.raw++q9 ls
 | [],_,now,x,h=>by cases h;simp [q9]
 |t::r,prev,now,x,h=>by
  rw [blkR] at h
  split at h
  ·cases h
  ·split at h
   ·rw [qmb r _ _ _ h,we];simp
   ·rw [qmb r _ _ _ h,we];simp
def qko (x:qt):Prop:=x.kind=3∧x.fields≠[]∨x.kind=2∧x.fields=[]
theorem qin:∀ (ls:List qa) (k:Nat) (prev:Bool) (now x:qt) (rec:Int) (out:List qt) (rest:List (qa×Bool)),qud rest→blkR prev now ls=some x→qko now→(now.kind=2→x.kind=3→rec<400) →
  (∃ prev',refL k (trL ls++rest) prev now rec out=refL (k+ls.length) rest prev' x (if now.kind=2∧x.kind=3 then rec+1 else rec) out)∧qko x
 | [],k,prev,now,x,rec,out,rest,hs,h,hk,hr=>by
  cases h
  refine⟨⟨prev,?_⟩,hk⟩
  rw [if_neg (by omega)]
  rfl
 |t::r,k,prev,now,x,rec,out,rest,hs,h,hk,hr=>by
  rw [blkR] at h
  split at h
  ·cases h
  ·rename_i hc
   simp only [not_or,Classical.not_not] at hc
   have hrec:qr t=4→now.fields.length=0→rec<400:=fun h4 h0=>by
    rw [if_pos h4] at h
    rcases hk with hk|hk
    ·exact absurd (List.length_eq_zero_iff.1 h0) hk.2
    ·exact hr hk.1 (qhl r _ _ _ h rfl)
   have hw:jo prev t true (trL r++rest) now.fields.length rec=0:=by
    rw [qkc _ _ _ _ _ _ hs]
    exact q54 hc.1 hrec
   have hst:trL (t::r)++rest=(t,true)::(trL r++rest):=rfl
   rw [hst,refL,if_neg (by simp [hw]),if_neg hc.2]
   split at h
   ·rename_i h4
    rw [if_pos h4,qh0 r rest hs]
    have hx3:=qhl r _ _ _ h rfl
    obtain⟨⟨p',e⟩,hkx⟩:=qin r (k+1) _ _ x (if now.kind=2 then rec+1 else rec) out rest hs h (.inl ⟨rfl,by simp⟩) (by simp)
    refine⟨⟨p',?_⟩,hkx⟩
    rw [e,if_neg (by simp)]
    simp only [hx3,and_true,List.length_cons]
    congr 1
    omega
   ·rename_i h4
    rw [if_neg h4]
    obtain⟨⟨p',e⟩,hkx⟩:=qin r (k+1) _ _ x rec out rest hs h hk hr
    refine⟨⟨p',?_⟩,hkx⟩
    rw [e,List.length_cons]
    congr 1
    omega
theorem qr0:∀ (L:List (qa×Bool)) (k:Nat) (prev:Bool) (now:qt) (rec:Int) (out its:List qt),refL k L prev now rec out=(none,its) →
  ∃ (ls:List qa) (rest:List (qa×Bool)) (prev':Bool) (x:qt) (rec':Int) (k':Nat),L=trL ls++rest∧qud rest∧blkR prev now ls=some x∧refL k' rest prev' x rec' out=(none,its)∧∀ t∈ls,10∉t
 | [],k,prev,now,rec,out,its,h=>⟨[],[],prev,now,rec,k,rfl,trivial,rfl,h,by simp⟩
 |(t,e)::r,k,prev,now,rec,out,its,h=>by
  have h0:=h
  rw [refL] at h
  split at h
  ·simp at h
  ·rename_i hw
   have hw:=Classical.not_not.1 hw
   obtain⟨rfl,h10⟩:=q53 hw
   split at h
   ·rename_i h1
    exact⟨[],(t,true)::r,prev,now,rec,k,rfl,h1,rfl,h0,by simp⟩
   ·rename_i h1
    split at h
    ·rename_i h4
     obtain⟨ls,rest,p',x,rc,k',rfl,hs,hb,hr,hten⟩:=qr0 r _ _ _ _ _ _ h
     rw [qh0 ls rest hs] at hb
     rw [qkc _ _ _ _ _ _ hs] at hw
     refine⟨t::ls,rest,p',x,rc,k',rfl,hs,?_,hr,by simpa using ⟨h10,hten⟩⟩
     rw [blkR,if_neg (by simp [qra hw,h1]),if_pos h4]
     exact hb
    ·rename_i h4
     obtain⟨ls,rest,p',x,rc,k',rfl,hs,hb,hr,hten⟩:=qr0 r _ _ _ _ _ _ h
     rw [qkc _ _ _ _ _ _ hs] at hw
     refine⟨t::ls,rest,p',x,rc,k',rfl,hs,?_,hr,by simpa using ⟨h10,hten⟩⟩
     rw [blkR,if_neg (by simp [qra hw,h1]),if_neg h4]
     exact hb
def xq (x:qt):Prop:=(∃ t,x=⟨1,t++[10],[]⟩∧qr t=1)∨∃ ls,ls≠[]∧blkR false now0 ls=some x∧∀ t∈ls,10∉t
theorem qte (out:List qt):outR now0 out=out:=rfl
theorem qs8 {t:qa} (h:qr t=1):10∉t:=fun h10=>by
 unfold qr at h
 rw [if_pos h10] at h
 omega
theorem q5a:∀ (n:Nat) (L:List (qa×Bool)) (k:Nat) (rec:Int) (out its:List qt),L.length≤n→refL k L false now0 rec out=(none,its)→(∀ x∈out,xq x)→∀ x∈its,xq x:=by
 intro n
 induction n with
 |zero=>
  intro L k rec out its hn h ho
  have:L=[]:=List.length_eq_zero_iff.1 (by omega)
  subst this
  have h:(none,outR now0 out)=(none,its):=h
  simp only [Prod.mk.injEq,true_and] at h
  subst h
  exact ho
 |succ n ih=>
  intro L k rec out its hn h ho
  obtain⟨ls,rest,p',x,rc,k',rfl,hs,hb,hr,hten⟩:=qr0 L _ _ _ _ _ _ h
  have hout:∀ y∈outR x out,xq y:=fun y hy=>by
   unfold outR at hy
   split at hy
   ·exact ho y hy
   ·rename_i hx
    rcases List.mem_append.1 hy with hy|hy
    ·exact ho y hy
    ·simp only [List.mem_cons,List.not_mem_nil,or_false] at hy
     subst hy
     refine .inr ⟨ls,fun e=>hx ?_,hb,hten⟩
     subst e
     cases hb
     rfl
  cases rest with
  |nil=>
   have hr:(none,outR x out)=(none,its):=hr
   simp only [Prod.mk.injEq,true_and] at hr
   subst hr
   exact hout
  |cons y r=>
   obtain⟨t,e⟩:=y
   have h1:qr t=1:=hs
   rw [refL] at hr
   split at hr
   ·simp at hr
   ·try rw [if_pos h1] at hr
    refine ih r _ _ _ _ (by simp at hn;omega) hr fun y hy=>?_
    rcases List.mem_append.1 hy with hy|hy
    ·exact hout y hy
    ·simp only [List.mem_cons,List.not_mem_nil,or_false] at hy
     subst hy
     exact .inl ⟨t,rfl,h1⟩
theorem qls {text:qa} (h:(zn text).1=none):∀ x∈(zn text).2,xq x:=by
 refine q5a _ (zb text) 0 0 [] _ (Nat.le_refl _) ((qe0 text).trans (Prod.ext h rfl)) (by simp)
theorem qx7 {fs:List Fld} (hg:GF fs) (hne:fs≠[]):xq ⟨3,jk fs,fs⟩:=by
 have h:=qqn hg hne
 exact qls (by rw [h]) _ (by rw [h];simp)
def SepI:List qt→Prop
 | []=>True
 | [_]=>True
 |x::y::r=>(x.kind≠1→y.kind=1)∧SepI (y::r)
def cntI (its:List qt):Nat:=its.countP fun x=>x.kind=3
theorem qlk:∀ (ls:List qa) (R:qa),(∀ s∈ls,10∉s)→zb (q9 ls++R)=trL ls++zb R
 | [],R,_=>rfl
 |s::r,R,h=>by
  have hs:=h s (by simp)
  have e:q9 (s::r)++R=s++10::(q9 r++R):=by rw [we];simp
  rw [e,vk (by simp),wx _ hs,xy _ hs,qlk r R fun x hx=>h x (by simp [hx])]
  simp [trL]
theorem qne {t:qa} {R:qa} (h:10∉t):zb (t++[10]++R)=(t,true)::zb R:=by
 have:=qlk [t] R (by simpa using h)
 simpa [q9,trL] using this
theorem qif {x:qt} (h:xq x):x.kind=1∧(∃ t,x=⟨1,t++[10],[]⟩∧qr t=1)∨qko x∧x.raw≠[]∧∃ ls,ls≠[]∧blkR false now0 ls=some x∧∀ t∈ls,10∉t:=by
 rcases h with⟨t,rfl,ht⟩ | ⟨ls,hne,hb,hten⟩
 ·exact .inl ⟨rfl,t,rfl,ht⟩
 ·refine .inr ⟨(qin ls 0 false now0 x 0 [] [] trivial hb (.inr ⟨rfl,rfl⟩) (by omega)).2,?_,ls,hne,hb,hten⟩
  rw [qmb _ _ _ _ hb]
  cases ls with
  |nil=>exact absurd rfl hne
  |cons t r=>simp [q9,now0]
theorem qjr:∀ (its:List qt) (k:Nat) (rec:Int) (out:List qt),(∀ x∈its,xq x)→SepI its→rec+cntI its≤400→refL k (zb (zw its)) false now0 rec out=(none,out++its)
 | [],k,rec,out,_,_,_=>by
  have:zw []=[]:=rfl
  rw [this,kq]
  simp [refL,qte]
 |x::r,k,rec,out,hok,hsep,hc=>by
  have hraw:zw (x::r)=x.raw++zw r:=rfl
  rw [hraw]
  rcases qif (hok x (by simp)) with⟨hk1,t,rfl,ht⟩ | ⟨hkx,hrx,ls,hne,hb,hten⟩
  ·rw [qne (qs8 ht),refL,if_neg (by rw [qnp ht];simp),if_pos ht,qte]
   have hs:SepI r:=by cases r with|nil=>trivial|cons y q=>exact hsep.2
   have:=qjr r (k+1) rec (out++[⟨1,t++[10],[]⟩]) (fun y hy=>hok y (by simp [hy])) hs (by simpa [cntI] using hc)
   rw [show (⟨2,[],[]⟩:qt)=now0 from rfl,this]
   simp
  ·have hx1:x.kind≠1:=by rcases hkx with h|h <;> omega
   have hc3:x.kind=3→rec<400:=fun h=>by simp [cntI,h] at hc;omega
   have hre:x.raw=q9 ls:=by rw [qmb _ _ _ _ hb];rfl
   rw [hre,qlk ls _ hten]
   match r,hok,hsep,hc with
   | [],hok,hsep,hc=>
    have:zw []=[]:=rfl
    rw [this,kq]
    obtain⟨⟨p',e⟩,_⟩:=qin ls k false now0 x rec out [] trivial hb (.inr ⟨rfl,rfl⟩) fun _ h=>hc3 h
    rw [e,refL]
    unfold outR
    rw [if_neg hrx]
   |y::q,hok,hsep,hc=>
    have hy1:=hsep.1 hx1
    rcases qif (hok y (by simp)) with⟨_,t,rfl,ht⟩ | ⟨hky,_⟩
    ·have hraw:zw (⟨1,t++[10],[]⟩::q)=(t++[10])++zw q:=rfl
     rw [hraw,qne (qs8 ht)]
     obtain⟨⟨p',e⟩,_⟩:=qin ls k false now0 x rec out ((t,true)::zb (zw q)) ht hb (.inr ⟨rfl,rfl⟩) fun _ h=>hc3 h
     rw [e,refL,if_neg (by rw [qnp ht];simp),if_pos ht]
     have hs:SepI q:=by cases q with|nil=>trivial|cons z q'=>exact hsep.2.2
     have ho:outR x out=out++[x]:=by unfold outR;rw [if_neg hrx]
     rw [ho,show (⟨2,[],[]⟩:qt)=now0 from rfl]
     have hcc:(if now0.kind=2∧x.kind=3 then rec+1 else rec)+(cntI q:Int)≤400:=by
      simp only [cntI,List.countP_cons] at hc ⊢
      by_cases h3:x.kind=3
      ·rw [if_pos ⟨rfl,h3⟩]
       simp [h3] at hc
       omega
      ·rw [if_neg fun h=>h3 h.2]
       simp [h3] at hc
       omega
     rw [qjr q _ _ _ (fun y hy=>hok y (by simp [hy])) hs hcc]
     simp
    ·exfalso
     rcases hky with h|h <;> omega
theorem yq (a b:List qt):cntI (a++b)=cntI a+cntI b:=by simp [cntI]
theorem vp (x:qt) (b:List qt):cntI (x::b)=(if x.kind=3 then 1 else 0)+cntI b:=by
 simp only [cntI,List.countP_cons,decide_eq_true_eq]
 omega
theorem qsg:∀ (its:List qt) (prev:Bool),SepI (z8 prev its)∧(prev=true→∀ x,(z8 prev its).head? = some x→x.kind=1)
 | [],prev=>⟨trivial,by simp [z8]⟩
 |x::r,prev=>by
  obtain⟨h1,h2⟩:=qsg r (decide (x.kind≠1))
  have key:SepI (x::z8 (decide (x.kind≠1)) r):=by
   cases hq:z8 (decide (x.kind≠1)) r with
   |nil=>trivial
   |cons y q=>
    rw [hq] at h1 h2
    exact⟨fun hk=>h2 (by simpa using hk) y rfl,h1⟩
  rw [z8]
  by_cases hp:prev=true∧x.kind≠1
  ·rw [if_pos hp]
   exact⟨⟨fun h=>absurd rfl h,key⟩,fun _ y hy=>by simp at hy;subst hy;rfl⟩
  ·rw [if_neg hp]
   exact⟨key,fun hpr y hy=>by
    simp at hy
    subst hy
    exact Classical.byContradiction fun h=>hp ⟨hpr,h⟩⟩
theorem qu1:∀ (its:List qt) (prev:Bool),(∀ x∈its,xq x)→(∀ x∈z8 prev its,xq x)∧cntI (z8 prev its)=cntI its
 | [],prev,_=>by simp [z8]
 |x::r,prev,h=>by
  obtain⟨h1,h2⟩:=qu1 r (decide (x.kind≠1)) fun y hy=>h y (by simp [hy])
  have hx:=h x (by simp)
  have hbl:xq ⟨1,[10],[]⟩:=.inl ⟨[],rfl,by decide⟩
  rw [z8]
  split
  ·refine⟨fun y hy=>?_,by simp only [List.cons_append,List.nil_append,vp];rw [h2];try simp⟩
   simp only [List.cons_append,List.nil_append,List.mem_cons] at hy
   rcases hy with rfl|rfl|hy
   ·exact hbl
   ·exact hx
   ·exact h1 y hy
  ·refine⟨fun y hy=>?_,by simp only [List.cons_append,List.nil_append,vp];rw [h2];try simp⟩
   simp only [List.cons_append,List.nil_append,List.mem_cons] at hy
   rcases hy with rfl|hy
   ·exact hx
   ·exact h1 y hy
theorem qlt {its:List qt} (h:∀ x∈its,xq x) (hc:cntI its≤400):zn (zw (wg its))=(none,wg its):=by
 obtain⟨h1,h2⟩:=qu1 its false h
 have:=qjr (wg its) 0 0 [] h1 (qsg its false).1 (by unfold wg;rw [h2];omega)
 rw [List.nil_append] at this
 rw [← qe0]
 exact this
theorem qwu {now:qt} {out:List qt} (hk:qko now) (hr:now.kind=3→now.raw≠[]):(cntI (outR now out):Int)=(cntI out:Int)+(if now.kind=3 then 1 else 0):=by
 have h0:cntI []=0:=rfl
 unfold outR
 by_cases he:now.raw=[]
 ·rw [if_pos he,if_neg fun h=>hr h he]
  omega
 ·rw [if_neg he,yq,vp,h0]
  by_cases h3:now.kind=3
  ·rw [if_pos h3,if_pos h3];omega
  ·rw [if_neg h3,if_neg h3];omega
theorem qmo:∀ (L:List (qa×Bool)) (k:Nat) (prev:Bool) (now:qt) (rec:Int) (out its:List qt),refL k L prev now rec out=(none,its)→qko now→(now.kind=3→now.raw≠[])→(cntI out:Int)+(if now.kind=3 then 1 else 0)=rec→rec≤400→cntI its≤400
 | [],k,prev,now,rec,out,its,h,hk,hr,hc,hm=>by
  have h:(none,outR now out)=(none,its):=h
  simp only [Prod.mk.injEq,true_and] at h
  subst h
  have:=qwu (out:=out) hk hr
  omega
 |(t,e)::r,k,prev,now,rec,out,its,h,hk,hr,hc,hm=>by
  rw [refL] at h
  split at h
  ·simp at h
  ·rename_i hw
   have hw:=Classical.not_not.1 hw
   split at h
   ·refine qmo r _ _ _ _ _ _ h (.inr ⟨rfl,rfl⟩) (by simp) ?_ hm
    have:=qwu (out:=out) hk hr
    rw [yq,vp,show cntI []=0 from rfl,if_neg (by omega:¬ (1:Int)=3),if_neg (by omega:¬ (2:Int)=3)]
    omega
   ·split at h
    ·rename_i h4
     refine qmo r _ _ _ _ _ _ h (.inl ⟨rfl,by simp⟩) (by simp) ?_ ?_
     ·rcases hk with hk|hk
      ·rw [if_pos hk.1] at hc
       rw [if_pos rfl,if_neg (by omega)]
       exact hc
      ·rw [if_neg (by omega)] at hc
       rw [if_pos rfl,if_pos hk.1]
       omega
     ·rcases hk with hk|hk
      ·rw [if_neg (by omega)];exact hm
      ·rw [if_pos hk.1]
       unfold jo at hw
       split at hw
       ·omega
       ·rw [if_neg (by omega)] at hw
        split at hw
        ·omega
        ·split at hw
         ·omega
         ·rename_i hf
          have:now.fields.length=0:=by rw [hk.2];rfl
          omega
    ·exact qmo r _ _ _ _ _ _ h hk (fun h3=>by simp) hc hm
theorem q4r {text:qa} (h:(zn text).1=none):cntI (zn text).2≤400:=
 qmo (zb text) 0 false now0 0 [] _ ((qe0 text).trans (Prod.ext h rfl)) (.inr ⟨rfl,rfl⟩) (by simp [now0]) (by simp [cntI,now0]) (by omega)
structure GL (l:qs):Prop where
 ok:∀ e∈l.ents,xq e.x∧(0<e.id↔e.x.kind=3)
 nx:1≤l.next
 mn:l.many=cntI (zk l)
 le:cntI (zk l)≤400
theorem q4h {l:qs} {x:qt} (h:GL l) (hx:xq x) (hc:cntI (zk l)+cntI [x]≤400):GL (vq l x):=by
 obtain⟨h1,h2,h3,h4⟩:=h
 rw [vp] at hc
 unfold vq
 by_cases hk:x.kind=3
 ·rw [if_pos hk]
  refine⟨fun e he=>?_,by simp only;omega,?_,?_⟩
  ·rcases List.mem_append.1 he with he|he
   ·exact h1 e he
   ·simp only [List.mem_cons,List.not_mem_nil,or_false] at he
    subst he
    exact⟨hx,fun _=>hk,fun _=>by show 0<l.next;omega⟩
  ·simp only [zk,List.map_append,yq,List.map_cons,List.map_nil,vp] at h3 ⊢
   rw [if_pos hk]
   simp [cntI] at h3 ⊢
   omega
  ·rw [if_pos hk] at hc
   simp only [zk,List.map_append,yq,List.map_cons,List.map_nil,vp] at hc ⊢
   rw [if_pos hk]
   exact hc
 ·rw [if_neg hk]
  refine⟨fun e he=>?_,h2,?_,?_⟩
  ·rcases List.mem_append.1 he with he|he
   ·exact h1 e he
   ·simp only [List.mem_cons,List.not_mem_nil,or_false] at he
    subst he
    exact⟨hx,by simp [hk]⟩
  ·simp only [zk,List.map_append,yq,List.map_cons,List.map_nil,vp] at h3 ⊢
   rw [if_neg hk]
   simp [cntI] at h3 ⊢
   omega
  ·rw [if_neg hk] at hc
   simp only [zk,List.map_append,yq,List.map_cons,List.map_nil,vp] at hc ⊢
   rw [if_neg hk]
   exact hc
theorem qyd (l:qs) (x:qt):zk (vq l x)=zk l++[x]:=by
 unfold vq zk
 split <;> simp
theorem qtc:∀ (its:List qt) (l:qs),GL l→(∀ x∈its,xq x)→cntI (zk l)+cntI its≤400→GL (its.foldl vq l)
 | [],l,h,_,_=>h
 |x::r,l,h,hx,hc=>by
  rw [vp] at hc
  refine qtc r (vq l x) (q4h h (hx x (by simp)) ?_) (fun y hy=>hx y (by simp [hy])) ?_
  ·rw [vp,show cntI []=0 from rfl];omega
  ·rw [qyd,yq,vp]
   rw [show cntI []=0 from rfl]
   omega
theorem zcw {its:List qt} (hx:∀ x∈its,xq x) (hc:cntI its≤400):GL (ofF its):=
 qtc its ⟨[],1,0⟩ ⟨by simp,by simp,by simp [zk,cntI],by simp [zk,cntI]⟩ hx (by simpa [zk,cntI] using hc)
theorem qw0 {fs:List Fld} (h:kh fs = .no):xq (xf fs)∧(xf fs).kind=3:=by
 obtain⟨h1,h2,h3⟩:=qfz h
 unfold xf
 rw [if_pos h]
 exact⟨qx7 ⟨h2,h3⟩ h1,rfl⟩
theorem qk2 {l:List qt} {i:Nat} {x:qt} (h:l[i]? = some x):cntI l=cntI (l.take i)+(if x.kind=3 then 1 else 0)+cntI (l.drop (i+1)):=by
 obtain⟨hlt,rfl⟩:=List.getElem?_eq_some_iff.1 h
 have:=congrArg cntI (List.take_append_drop i l)
 rw [yq,List.drop_eq_getElem_cons hlt,vp] at this
 omega
theorem q8a {l:qs} (h:GL l) (id:Int) (fs:List Fld):GL (yh l id fs).2:=by
 unfold yh
 split
 ·exact h
 ·rename_i ha
  split
  ·rename_i hf
   obtain⟨hp,hp3⟩:=qw0 hf
   rcases qgo l id with g | ⟨i,e,g1,g2,g3,g4⟩
   ·omega
   ·rw [g1,Int.toNat_natCast]
    unfold qh4
    rw [g2]
    simp only
    have hem:=List.mem_of_getElem? g2
    obtain⟨hlt,hge⟩:=List.getElem?_eq_some_iff.1 g2
    have hek:e.x.kind=3:=(h.ok e hem).2.1 (by omega)
    have hcnt:cntI ((l.ents.set i ⟨xf fs,e.id⟩).map fun e=>e.x)=cntI (l.ents.map fun e=>e.x):=by
     have a1:=qk2 (l:=l.ents.map fun e=>e.x) (i:=i) (x:=e.x) (by simp [g2])
     have a2:=qk2 (l:=(l.ents.set i ⟨xf fs,e.id⟩).map fun e=>e.x) (i:=i) (x:=xf fs) (by simp [hlt])
     rw [a1,a2,← List.map_take,← List.map_take,← List.map_drop,← List.map_drop,List.take_set_of_le (Nat.le_refl _),List.drop_set_of_lt (by omega),hek,hp3]
    refine⟨fun y hy=>?_,h.nx,?_,?_⟩
    ·rcases List.mem_or_eq_of_mem_set hy with hy|rfl
     ·exact h.ok y hy
     ·exact⟨hp,fun _=>hp3,fun _=>by show 0<e.id;omega⟩
    ·exact h.mn.trans (congrArg Int.ofNat hcnt).symm
    ·exact Nat.le_trans (Nat.le_of_eq hcnt) h.le
  ·exact h
theorem q92 {l:qs} (h:GL l) (id:Int):GL (delF l id).2:=by
 unfold delF
 split
 ·exact h
 ·rcases qgo l id with g | ⟨i,e,g1,g2,g3,g4⟩
  ·omega
  ·rw [g1,Int.toNat_natCast]
   have hem:=List.mem_of_getElem? g2
   have hek:e.x.kind=3:=(h.ok e hem).2.1 (by omega)
   have a1:=qk2 (l:=zk l) (i:=i) (x:=e.x) (by simp [zk,g2])
   rw [hek,if_pos rfl] at a1
   have a2:cntI (zk (delL l i))=cntI ((zk l).take i)+cntI ((zk l).drop (i+1)):=by
    unfold delL zk
    rw [List.map_append,yq,List.map_take,List.map_drop]
   have hm:=h.mn
   have hl:=h.le
   refine⟨fun y hy=>?_,h.nx,?_,?_⟩
   ·rcases List.mem_append.1 hy with hy|hy
    ·exact h.ok y (List.mem_of_mem_take hy)
    ·exact h.ok y (List.mem_of_mem_drop hy)
   ·rw [a2]
    show l.many - 1=_
    omega
   ·rw [a2]
    omega
theorem zag {l:qs} (h:GL l) (id:Int) (fs:List Fld):GL (insF l id fs).2.2:=by
 unfold insF
 split
 ·exact h
 ·split
  ·rename_i hf
   obtain⟨hp,hp3⟩:=qw0 hf
   split
   ·exact h
   ·rename_i hm4
    generalize (atF l id+1).toNat=k
    have a1:cntI (zk (insL l k (xf fs)))=cntI (zk l)+1:=by
     unfold insL zk
     rw [List.map_append,yq,List.map_cons,vp,hp3,if_pos rfl,List.map_take,List.map_drop]
     have:=congrArg cntI (List.take_append_drop k (l.ents.map fun e=>e.x))
     rw [yq] at this
     omega
    have hm:=h.mn
    have hl:=h.le
    have hn:=h.nx
    refine⟨fun y hy=>?_,?_,?_,?_⟩
    ·rcases List.mem_append.1 hy with hy|hy
     ·exact h.ok y (List.mem_of_mem_take hy)
     ·rcases List.mem_cons.1 hy with rfl|hy
      ·exact⟨hp,fun _=>hp3,fun _=>by show 0<l.next;omega⟩
      ·exact h.ok y (List.mem_of_mem_drop hy)
    ·show 1≤l.next+1
     omega
    ·rw [a1]
     show l.many+1=_
     omega
    ·rw [a1]
     omega
  ·exact h
theorem zaz {l:qs} (h:GL l) (x:qq):GL (oneF l x).2.2:=by
 unfold oneF
 split
 ·exact q8a h _ _
 ·split
  ·exact q92 h _
  ·exact zag h _ _
theorem qsu:∀ (b:List qq) (k:Nat) (l:qs) (ids:List Int),GL l→GL (xc k b l ids).2.1
 | [],_,l,_,h=>h
 |x::r,k,l,ids,h=>by
  unfold xc
  split
  ·exact qsu r _ _ _ (zaz h x)
  ·exact h
theorem q3c {l:qs} (h:GL l) (b:List qq):GL (doF l b).2.1:=by
 unfold doF
 split
 ·exact qsu b 0 l [] h
 ·exact h
theorem qnh:∀ (bs:List (List qq)) (r:RunV),GL r.l→GL (wc bs r).2.l
 | [],r,h=>h
 |b::bs,r,h=>by
  unfold wc
  split
  ·exact qnh bs _ (q3c h b)
  ·first|exact q3c h b|exact h
theorem qij {text:qa} (h:ve text = .no):(zn text).1=none∧text.length≤60000∧itsE text=(zn text).2:=by
 unfold ve at h
 unfold itsE
 split at h
 ·simp at h
 ·rename_i hl
  rw [if_neg hl]
  refine⟨?_,by omega,rfl⟩
  cases hp:(zn text).1 with
  |none=>rfl
  |some x=>rw [hp] at h;simp at h
theorem q7x (base:qa) (bs:List (List qq)) (h:ve base = .no):GL (wp base bs).2.l:=by
 obtain⟨h1,h2,h3⟩:=qij h
 unfold wp
 rw [if_pos h]
 refine qnh bs _ (zcw ?_ ?_)
 ·rw [h3];exact qls h1
 ·rw [h3];exact q4r h1
theorem qtr {l:qs} (h:GL l):zn (jj l)=(none,wg (zk l)):=by
 refine qlt (fun x hx=>?_) h.le
 obtain⟨e,he,rfl⟩:=List.mem_map.1 hx
 exact (h.ok e he).1
end Go.Pl
namespace Go.Pl
open Go Go.Proofs
def cntF (es:List EntV):Nat:=es.countP fun e=>decide (0<e.id)
theorem qso (es:List EntV) (e:EntV):cntF (es++[e])=cntF es+if 0<e.id then 1 else 0:=by
 unfold cntF
 rw [List.countP_append]
 by_cases h:0<e.id <;> simp [h]
end Go.Pl
namespace Go.Pl
open Go Go.Proofs Go.Av
def LM (l:qs):Prop:=l.many=cntF l.ents
theorem qec (a b:List EntV):cntF (a++b)=cntF a+cntF b:=by simp [cntF]
theorem qhn (e:EntV) (b:List EntV):cntF (e::b)=(if 0<e.id then 1 else 0)+cntF b:=by
 by_cases h:0<e.id <;> simp [cntF,h] <;> omega
theorem q28 {l:List EntV} {i:Nat} {e:EntV} (h:l[i]? = some e):l=l.take i++e::l.drop (i+1):=by
 obtain⟨hi,rfl⟩:=List.getElem?_eq_some_iff.1 h
 rw [← List.drop_eq_getElem_cons hi,List.take_append_drop]
theorem q8e {l:qs} (h:LM l) (id:Int) (fs:List Fld):LM (yh l id fs).2:=by
 unfold yh
 split
 ·exact h
 ·split
  ·unfold qh4
   split
   ·rename_i e he
    unfold LM at h ⊢
    simp only
    rw [h]
    have h1:=q28 he
    have hi:=lt_of_getElem? he
    rw [List.set_eq_take_append_cons_drop,if_pos hi]
    conv=>lhs;rw [h1]
    rw [qec,qec,qhn,qhn]
   ·exact h
  ·exact h
theorem q96 {l:qs} (h:LM l) (id:Int):LM (delF l id).2:=by
 unfold delF
 split
 ·exact h
 ·rename_i hn
  rcases qgo l id with g | ⟨i,e,g,he,hid,hid1⟩
  ·exact absurd (by rw [g];decide) hn
  ·rw [g,Int.toNat_natCast]
   unfold LM delL at *
   simp only
   rw [h]
   have h1:=q28 he
   conv=>lhs;rw [h1]
   rw [qec,qec,qhn,if_pos (by omega)]
   omega
theorem zak {l:qs} (h:LM l) (hn:1≤l.next) (id:Int) (fs:List Fld):LM (insF l id fs).2.2:=by
 unfold insF
 split
 ·exact h
 ·split
  ·split
   ·exact h
   ·unfold LM insL at *
    simp only
    rw [h,qec,qhn,if_pos (by simp only;omega)]
    conv=>lhs;rw [← List.take_append_drop (atF l id+1).toNat l.ents]
    rw [qec]
    omega
  ·exact h
theorem qwq:∀ (its:List qt) (l:qs),LM l→1≤l.next→LM (its.foldl vq l)∧1≤(its.foldl vq l).next
 | [],l,h,hn=>⟨h,hn⟩
 |x::r,l,h,hn=>by
  rw [List.foldl_cons]
  unfold vq
  split
  ·refine qwq r _ ?_ (by simp only;omega)
   unfold LM at *
   simp only
   rw [qso,if_pos (by simp only;omega),h]
   omega
  ·refine qwq r _ ?_ hn
   unfold LM at *
   simp only
   rw [qso,if_neg (by simp),h]
   omega
theorem zcy (its:List qt):LM (ofF its):=(qwq its ⟨[],1,0⟩ (by simp [LM,cntF]) (by decide)).1
end Go.Pl
namespace Go.Proofs.YtneejjefekdgjaaGreatDoor
open Go Go.Av Go.RowKit Go.Proofs Go.Pl
theorem za2 {l:qs} (h:LM l) (hn:1≤l.next) (x:qq):LM (oneF l x).2.2:=by
 unfold oneF
 split
 ·exact q8e h _ _
 ·split
  ·exact q96 h _
  ·exact zak h hn _ _
theorem qsy:∀ (b:List qq) (k n:Nat) (l:qs) (ids:List Int),LM l→LB n l→n+b.length<900000→LM (xc k b l ids).2.1
 | [],k,n,l,ids,h,_,_=>h
 |x::r,k,n,l,ids,h,hB,hs=>by
  simp only [List.length_cons] at hs
  unfold xc
  split
  ·exact qsy r (k+1) (n+1) _ _ (za2 h hB.nx0 x) (qrv hB (by omega) x) (by omega)
  ·exact h
theorem zca {n:Nat} {l:qs} (h:LM l) (hB:LB n l) (hs:n+40<900000) (b:List qq):LM (doF l b).2.1:=by
 unfold doF
 split
 ·rename_i he
  obtain⟨h1,h2,_⟩:=qed he
  exact qsy b 0 n l [] h hB (by omega)
 ·exact h
end Go.Proofs.YtneejjefekdgjaaGreatDoor
namespace Go.Pl
open Go Go.Proofs Go.Proofs.YtneejjefekdgjaaGreatDoor
theorem qqs (x:qt) (r:List qt):zw (x::r)=x.raw++zw r:=by simp [zw]
theorem q73 {its:List qt} {x:qt} (h:x∈its):x.raw.length≤(zw its).length:=by
 induction its with
 |nil=>simp at h
 |cons y r ih=>
  rw [qqs,List.length_append]
  rcases List.mem_cons.1 h with rfl|h
  ·omega
  ·have:=ih h
   omega
structure PR (m:Nat) (p:PSt):Prop where
 tot:(zw p.items).length+(q9 p.block).length≤m
 fl:∀ x∈p.items,x.fields.length<900000
theorem qla {m:Nat} {p:PSt} (h:PR m p):PR m (jc p).2:=by
 unfold jc
 split
 ·exact h
 ·split
  ·exact h
  ·split
   ·exact h
   ·exact⟨h.tot,h.fl⟩
theorem q27 {m:Nat} {p:PSt} (h:PR m p) (hf:p.fields.length<900000):PR m (wz p):=by
 have ht:=h.tot
 unfold wz
 split
 ·exact⟨by simp only [q9,List.flatMap_nil,List.length_nil];omega,h.fl⟩
 ·refine⟨?_,fun x hx=>?_⟩
  ·simp only [qdn,qdo,List.length_append]
   simp only [q9,List.flatMap_nil,List.length_nil] at ht ⊢
   omega
  ·simp only [List.mem_append,List.mem_singleton] at hx
   rcases hx with hx|rfl
   ·exact h.fl x hx
   ·exact hf
theorem qrp {m n:Nat} {p:PSt} (h:PR m p) (hB:PB n p) (hs:n+1<900000):PR m (endP p).2:=by
 unfold endP
 split
 ·exact h
 ·have:=(qe9 hB hs).fields
  exact q27 (qla h) (by omega)
theorem q2h {m n:Nat} {p:PSt} {no:Int} {text:qa} {ended:Bool} {kind:Int} (h:PR m p) (hB:PB n p) (hs:n+1<900000):PR m (z0 p no text ended kind).2:=by
 unfold z0
 split
 ·split
  ·exact h
  ·split
   ·exact⟨h.tot,h.fl⟩
   ·exact qla ⟨h.tot,h.fl⟩
 ·split
  ·exact qrp h hB hs
  ·exact qla h
theorem y8 (a b:List qa):q9 (a++b)=q9 a++q9 b:=by simp [q9]
theorem q8s {m n:Nat} {p:PSt} {no:Int} {text:qa} {ended:Bool} (h:PR m p) (hB:PB n p) (hs:n+1<900000):PR (m+text.length+1) (vt p no text ended).2:=by
 have more:∀ {q:PSt},PR m q→PR (m+text.length+1) q:=fun h=>⟨by have:=h.tot;omega,h.fl⟩
 have h2:PR m (z0 p no text ended (qr text)).2:=q2h h hB hs
 have ht:=h2.tot
 unfold vt
 split
 ·exact more h
 ·split
  ·exact more h
  ·split
   ·refine⟨?_,fun x hx=>?_⟩
    ·simp only [qdn,qdo,List.length_append,List.length_cons,List.length_nil]
     omega
    ·simp only [List.mem_append,List.mem_singleton] at hx
     rcases hx with hx|rfl
     ·exact h2.fl x hx
     ·simp
   ·split
    ·refine⟨?_,h2.fl⟩
     simp only [jy,y8,List.length_append]
     simp only [q9,List.flatMap_cons,List.flatMap_nil,List.length_append,List.length_cons,List.length_nil] at ht ⊢
     omega
    ·refine⟨?_,h2.fl⟩
     simp only [y8,List.length_append]
     simp only [q9,List.flatMap_cons,List.flatMap_nil,List.length_append,List.length_cons,List.length_nil] at ht ⊢
     omega
theorem qzt:∀ (n:Nat) (rest:qa) (k m:Nat) (p:PSt),rest.length≤n→PB (4 * k) p→PR m p→k+rest.length≤60000→PR (m+2 * rest.length) (runL k (zb rest) p).2:=by
 intro n
 induction n with
 |zero=>
  intro rest k m p hr hB hR hk
  obtain rfl:rest=[]:=List.eq_nil_of_length_eq_zero (by omega)
  rw [kq,runL]
  exact qrp hR hB (by omega)
 |succ n ih=>
  intro rest k m p hr hB hR hk
  by_cases hne:rest=[]
  ·subst hne
   rw [kq,runL]
   exact qrp hR hB (by omega)
  ·have hu:=ki 10 rest
   have hpl:=jz 10 rest
   have hr0:0<rest.length:=List.length_pos_iff.2 hne
   rw [vk hne]
   simp only [runL]
   have hB2:=qoq (no:=k) (text:=upto 10 rest) (ended:=decide (10∈rest)) hB (by omega) (by omega)
   have hR2:=q8s (no:=k) (text:=upto 10 rest) (ended:=decide (10∈rest)) hR hB (by omega)
   split
   ·exact⟨by have:=hR.tot;simp only;omega,hR.fl⟩
   ·have:=ih (past 10 rest) (k+1) _ _ (by omega) hB2 hR2 (by omega)
    exact⟨by have:=this.tot;omega,this.fl⟩
theorem zam (text:qa):(zw (itsE text)).length≤120000∧∀ x∈itsE text,x.fields.length<900000:=by
 unfold itsE
 split
 ·simp [zw]
 ·have h:=qzt text.length text 0 0 p0 (Nat.le_refl _) quj ⟨by simp [p0,zw,q9],by simp [p0]⟩ (by omega)
  unfold zn
  split
  ·simp [zw]
  ·have:=h.tot
   exact⟨by simp only;omega,h.fl⟩
def LI (l:qs):Prop:=∀ e∈l.ents,e.x.raw.length≤1000000∧e.x.fields.length<900000
theorem q4g:∀ (its:List qt) (l:qs),LI l→(∀ x∈its,x.raw.length≤1000000∧x.fields.length<900000)→LI (its.foldl vq l)
 | [],l,h,_=>h
 |x::r,l,h,hx=>by
  rw [List.foldl_cons]
  refine q4g r _ ?_ fun y hy=>hx y (by simp [hy])
  have h1:=hx x (by simp)
  unfold vq
  split
  ·intro e he
   simp only [List.mem_append,List.mem_singleton] at he
   rcases he with he|rfl
   ·exact h e he
   ·exact h1
  ·intro e he
   simp only [List.mem_append,List.mem_singleton] at he
   rcases he with he|rfl
   ·exact h e he
   ·exact h1
theorem zcx (text:qa):LI (ofF (itsE text)):=by
 obtain⟨h1,h2⟩:=zam text
 refine q4g _ _ (by simp [LI]) fun x hx=>⟨?_,h2 x hx⟩
 have:=q73 hx
 omega
theorem qtj (fs:List Fld):(xf fs).raw.length≤1000000∧(xf fs).fields.length<900000:=by
 unfold xf
 split
 ·rename_i h
  obtain⟨_,g1,g2⟩:=qfz h
  have:=qfa fs g2
  exact⟨by simp only;omega,by simp only;omega⟩
 ·exact⟨by simp,by simp⟩
theorem q8d {l:qs} (h:LI l) (id:Int) (fs:List Fld):LI (yh l id fs).2:=by
 unfold yh
 split
 ·exact h
 ·split
  ·unfold qh4
   split
   ·intro y hy
    rcases List.mem_or_eq_of_mem_set hy with hy|rfl
    ·exact h y hy
    ·exact qtj fs
   ·exact h
  ·exact h
theorem q95 {l:qs} (h:LI l) (id:Int):LI (delF l id).2:=by
 unfold delF
 split
 ·exact h
 ·intro y hy
  simp only [delL,List.mem_append] at hy
  rcases hy with hy|hy
  ·exact h y (List.mem_of_mem_take hy)
  ·exact h y (List.mem_of_mem_drop hy)
theorem zaj {l:qs} (h:LI l) (id:Int) (fs:List Fld):LI (insF l id fs).2.2:=by
 unfold insF
 split
 ·exact h
 ·split
  ·split
   ·exact h
   ·intro y hy
    simp only [insL,List.mem_append,List.mem_cons] at hy
    rcases hy with hy|rfl|hy
    ·exact h y (List.mem_of_mem_take hy)
    ·exact qtj fs
    ·exact h y (List.mem_of_mem_drop hy)
  ·exact h
theorem qo8:∀ (its:List qt) (b:Bool),(∀ x∈its,x.raw.length≤1000000)→(zw (z8 b its)).length≤1000001 * its.length
 | [],b,h=>by simp [z8,zw]
 |x::r,b,h=>by
  have ih:=qo8 r (decide (x.kind≠1)) fun y hy=>h y (by simp [hy])
  have hx:=h x (by simp)
  rw [z8,qdn,List.length_append]
  split
  ·rw [qqs,qdo]
   simp only [List.length_append,List.length_cons,List.length_nil]
   omega
  ·rw [qdo]
   simp only [List.length_cons]
   omega
theorem q8t {n:Nat} {l:qs} (hB:LB n l) (h:LI l):(jj l).length≤1000000000000:=by
 have h1:=qo8 (zk l) false fun x hx=>by
  obtain⟨e,he,rfl⟩:=List.mem_map.1 hx
  exact (h e he).1
 have h2:=hB.len
 have h3:=hB.small
 unfold jj wg
 have:(zk l).length=l.ents.length:=by simp [zk]
 omega
end Go.Pl
namespace Go.Proofs.YtneejjefekdgjaaGreatDoor
open Go Go.Av Go.RowKit Go.Proofs Go.Pl
theorem za1 {l:qs} (h:LI l) (x:qq):LI (oneF l x).2.2:=by
 unfold oneF
 split
 ·exact q8d h _ _
 ·split
  ·exact q95 h _
  ·exact zaj h _ _
theorem qsx:∀ (b:List qq) (k:Nat) (l:qs) (ids:List Int),LI l→LI (xc k b l ids).2.1
 | [],k,l,ids,h=>h
 |x::r,k,l,ids,h=>by
  unfold xc
  split
  ·exact qsx r (k+1) _ _ (za1 h x)
  ·exact h
theorem zb9 {l:qs} (h:LI l) (b:List qq):LI (doF l b).2.1:=by
 unfold doF
 split
 ·exact qsx b 0 l [] h
 ·exact h
theorem zal {n:Nat} {l:qs} (hB:LB n l) (h:LI l):ItsB (zk l):=by
 have h1:=hB.len
 have h2:=hB.small
 refine⟨by simp [zk];omega,fun x hx=>?_⟩
 obtain⟨e,he,rfl⟩:=List.mem_map.1 hx
 have:=(h e he).2
 omega
theorem qtk {base:qa}:∀ (bs:List (List qq)) (k:Nat) (r:RunV),k+bs.length≤14000→LB (300000+40 * k) r.l→LM r.l→LI r.l→LB 860000 (wc bs r).2.l∧LM (wc bs r).2.l∧LI (wc bs r).2.l
 | [],k,r,hk,h1,h2,h3=>⟨qei h1 (by simp at hk;omega) (by omega),h2,h3⟩
 |b::q,k,r,hk,h1,h2,h3=>by
  simp only [List.length_cons] at hk
  unfold wc
  split
  ·exact qtk (base:=base) q (k+1) _ (by omega) (qei (q3e h1 (by omega) b) (by omega) (by omega)) (zca h2 h1 (by omega) b) (zb9 h3 b)
  ·exact⟨qei h1 (by omega) (by omega),h2,h3⟩
theorem q7z (base:qa) (bs:List (List qq)) (h:bs.length≤14000):LB 860000 (wp base bs).2.l∧LM (wp base bs).2.l∧LI (wp base bs).2.l:=by
 unfold wp
 split
 ·exact qtk (base:=base) bs 0 _ (by omega) (qqj base) (zcy _) (zcx base)
 ·exact⟨⟨by omega,by simp [ofF],by simp [ofF],by simp [ofF],by simp [ofF],by simp [ofF]⟩,by simp [ofF,LM,cntF],by simp [ofF,LI]⟩
theorem q48 {text:qa} (h:(ja text).1 = .no):BkB (ja text).2:=qjc (qgp (text:=text) (b:=(ja text).2) (by rw [← h]))
def qi5:qa:=[65,58,32,49,10]
theorem qd3 (text:qa):LB 860000 (zg text).2.2∧LI (zg text).2.2:=by
 have h0:LB 860000 (ofF [])∧LI (ofF []):=⟨⟨by omega,by simp [ofF],by simp [ofF],by simp [ofF],by simp [ofF],by simp [ofF]⟩,by simp [ofF,LI]⟩
 unfold zg
 split
 ·rename_i hb
  have hBk:=q48 hb
  split
  ·have:=q7z (ja text).2.base (ja text).2.batches hBk.len
   exact⟨this.1,this.2.2⟩
  ·exact h0
 ·exact h0
end Go.Proofs.YtneejjefekdgjaaGreatDoor
namespace Go.Pl
open Go Go.Proofs
def y7:List EntV→Option (EntV×List EntV)
 | []=>none
 |e::r=>if 0<e.id then some (e,r) else y7 r
def stzF (es:List EntV):List (Int×List Fld):=(es.filter fun e=>decide (0<e.id)).map fun e=>(e.id,e.x.fields)
theorem qqe:∀ {r:List EntV},y7 r=none→stzF r=[]
 | [],_=>rfl
 |e::r,h=>by
  unfold y7 at h
  split at h
  ·simp at h
  ·rename_i h0
   have:=qqe h
   simpa [stzF,h0] using this
theorem qqf:∀ {r:List EntV} {e:EntV} {q:List EntV},y7 r=some (e,q)→0<e.id∧e∈r∧stzF r=(e.id,e.x.fields)::stzF q∧q.length<r.length∧∀ y∈q,y∈r
 |x::r,e,q,h=>by
  unfold y7 at h
  split at h
  ·rename_i h0
   simp only [Option.some.injEq,Prod.mk.injEq] at h
   obtain⟨rfl,rfl⟩:=h
   exact⟨h0,by simp,by simp [stzF,h0],by simp,fun y hy=>by simp [hy]⟩
  ·rename_i h0
   obtain⟨h1,h2,h3,h4,h5⟩:=qqf h
   exact⟨h1,by simp [h2],by simpa [stzF,h0] using h3,by simp;omega,fun y hy=>by simp [h5 y hy]⟩
end Go.Pl
namespace Go.Proofs.YtneejjefekdgjaaGreatDoor
open Go Go.Av Go.RowKit Go.Proofs Go.Pl
theorem zc1 {m:Nat} {T:TypeId} {S':List AObj} {cs0:List AV} (h:S'.length=m∨∃ cs,S'[m]? = some (.cells 0 T cs)):∃ cs,(S'++[AObj.cells 0 T cs0])[m]? = some (.cells 0 T cs):=by
 rcases h with rfl | ⟨cs,h⟩
 ·exact⟨cs0,by simp⟩
 ·exact⟨cs,by rw [List.getElem?_append_left (lt_of_getElem? h)];exact h⟩
theorem zc2 {m:Nat} {T:TypeId} {S':List AObj} (h:S'.length=m∨∃ cs,S'[m]? = some (.cells 0 T cs)):m≤S'.length:=by
 rcases h with rfl | ⟨cs,h⟩
 ·omega
 ·exact Nat.le_of_lt (lt_of_getElem? h)
theorem qr3 {L:List (Tmp×AV)} {st:List AObj} {df:List Nat} {s:AS} (h:StA L st df s):StA L (st++[]) df s:=by
 rw [List.append_nil]
 exact h
theorem q9f (l:qs) (o kb n m:Nat) (I:List EntV→List AObj→Prop) (D:List AObj→Prop) (S:List AObj) (hm:S.length=m) (hn:n≤m) (hl:l.ents.length<1000000) (h0:I l.ents S)
  (hI:∀ r S',I r S'→S'[kb]? = some (.cells 0 42 [jx l]))
  (hst:∀ r S' S'',Ext n S' S''→I r S'→I r S'')
  (hY:∀ r e q S' cs,I r S'→S'[m]? = some (.cells 0 152 cs)→y7 r=some (e,q)→xo E o [entA e] S' fun b S''=>S''[m]? = some (.cells 0 152 cs)∧(b=true→I q S'')∧(b=false→D S'')) :
  ql E 128 [.yd o,.bx kb 0 0] S fun r S'=>(∃ i,y7 i=none∧I i S')∨D S':=by
 refine qp Tryz.func128 rfl (Nat.le_of_ble_eq_true rfl) ?_
 have hb:=hI _ S h0
 have hmi:(l.ents.map entA).length=l.ents.length:=by simp
 repeat' (first|apply qm|apply q8|apply qg|apply qf|apply qk|(apply qc;exact rfl;apply cd_f;exact cRa)|(apply jp;(iterate 4 exact rfl))|(apply qai;(iterate 4 exact rfl))|(apply jv;(iterate 3 exact rfl))|(apply wv;exact rfl;exact rfl)|(apply qa9;(iterate 3 exact rfl))|apply qz|(apply yv;exact rfl;exact rfl;exact hb;exact rfl;exact rfl))
 refine wy (fun (k:Nat) s=>∃ S' r,I r S'∧(S'.length=m∨∃ cs,S'[m]? = some (.cells 0 152 cs))∧k≤l.ents.length∧y7 r=y7 (l.ents.drop k)∧StA [(0,.yd o),(10,.sl 4 (l.ents.map entA) none),(11,Iv l.ents.length),(12,Iv k)] (S'++[]) [] s) (fun k=>l.ents.length - k) 0
  ⟨_,_,hst _ _ _ (qgh (by omega)) h0,.inl (by simpa using hm),by omega,by simp,qr3 (wa ⟨rfl,rfl,congrArg (fun n:Nat=>Iv (n:Int)) hmi,rfl,trivial⟩)⟩ ?_
 rintro k _ ⟨S',r,hi,hown,hk,hnx,t,rfl⟩
 have hml:=zc2 hown
 by_cases hkn:k<l.ents.length
 ·have hx:l.ents[k]? = some l.ents[k]:=List.getElem?_eq_getElem hkn
  have hxm:(l.ents.map entA)[k]? = some (entA l.ents[k]):=by rw [List.getElem?_map,hx];rfl
  rw [List.drop_eq_getElem_cons hkn,y7] at hnx
  generalize l.ents[k]=e at hx hxm hnx
  obtain⟨cs,hcs⟩:=zc1 (cs0:=(entA e).cells) hown
  by_cases he:0<e.id
  ·rw [if_pos he] at hnx
   repeat' (first|apply qm|apply q8|apply qg|apply qf|apply qk|(apply q5;(iterate 3 exact rfl))|(apply za;(iterate 4 exact rfl))|(apply qa4;exact cAo)|(apply qc;exact rfl;apply xm;exact cAo)|(apply jm;exact rfl;exact rfl)|(apply zf;(iterate 3 exact rfl))|(apply jv;(iterate 3 exact rfl))|(apply jr;(iterate 5 exact rfl))|(apply zv;(iterate 11 exact rfl))|apply qz|(apply kg (n:=k);(iterate 5 exact rfl);exact hxm))
   apply qb7 (o:=o) rfl
   refine xo.mono (hY r e _ _ cs (hst _ _ _ (qgh (by omega)) hi) hcs hnx) ?_
   rintro b S2 ⟨h1,h2,h3⟩
   show AOps _ _ _ _ _ _ _
   cases b
   ·skip
    repeat' (first|apply qf|(apply jf;exact rfl)|(apply za;(iterate 4 exact rfl))|(apply qa4;exact cAo)|(apply qn;exact rfl;apply qbp;exact cAo)|(apply qc;exact rfl;apply qmc;exact cRa)|apply qx)
    exact qo rfl (x5 rfl) (.inr (h3 rfl))
   ·skip
    repeat' (first|apply qg|apply qf|apply qk|(apply jf;exact rfl)|(apply za;(iterate 4 exact rfl))|(apply qa4;exact cAo)|(apply qn;exact rfl;apply qbp;exact cAo)|(apply qc;exact rfl;apply qpk;exact cRa)|(apply z7;exact rfl;exact rfl;exact zj (by omega) (by omega))|apply qz)
    exact⟨k+1,⟨_,_,h2 rfl,.inr ⟨cs,h1⟩,by omega,rfl,qr3 (wa ⟨rfl,rfl,rfl,rfl,trivial⟩)⟩,by omega⟩
  ·rw [if_neg he] at hnx
   repeat' (first|apply qm|apply q8|apply qg|apply qf|apply qk|(apply q5;(iterate 3 exact rfl))|(apply za;(iterate 4 exact rfl))|(apply qdi;exact cAo)|(apply qn;exact rfl;apply qci;exact cAo)|(apply qc;exact rfl;apply xm;exact cAo)|(apply qc;exact rfl;apply cd_f;exact cRa)|(apply z7;exact rfl;exact rfl;exact zj (by omega) (by omega))|(apply jm;exact rfl;exact rfl)|(apply zf;(iterate 3 exact rfl))|(apply jv;(iterate 3 exact rfl))|(apply jr;(iterate 5 exact rfl))|(apply zv;(iterate 11 exact rfl))|apply qz|(apply kg (n:=k);(iterate 5 exact rfl);exact hxm))
   exact⟨k+1,⟨_,_,hst _ _ _ (qgh (by omega)) hi,.inr ⟨cs,hcs⟩,by omega,hnx,qr3 (wa ⟨rfl,rfl,rfl,rfl,trivial⟩)⟩,by omega⟩
 ·rw [List.drop_of_length_le (by omega),y7] at hnx
  repeat' (first|apply qm|apply qg|apply qf|(apply q5;(iterate 3 exact rfl))|(apply qc;exact rfl;apply xl;exact cAo)|apply vj)
  exact qo rfl (x5 rfl) (.inl ⟨r,hnx,hst _ _ _ (qgh (by omega)) hi⟩)
def allY (r:List EntV):Option (SV×List EntV):=(y7 r).map fun x=>(.a (entA x.1),x.2)
theorem zbt (l:qs) (hl:l.ents.length<1000000):ItC 128 42 [jx l] (evY allY) l.ents:=⟨fun o kb n m I D S hm hn h0 hI hst hY=>by
 refine (q9f l o kb n m I D S hm hn hl h0 hI hst fun r e q S' cs hi hown hx=>?_).mono ?_
 ·refine (hY r (entA e) q S' [.cells 0 152 cs] hi (fun j y hy=>?_) (by simp [evY,allY,hx,SV.ev])).mono fun b S'' ⟨h1,h2,h3⟩=>⟨by have:=h1 0 _ rfl;simpa using this,h2,h3⟩
  match j with
  | 0=>
   simp only [List.getElem?_cons_zero,Option.some.injEq] at hy
   subst hy
   exact⟨hown,x7 rfl⟩
  |j+1=>simp at hy
 ·rintro r S' (⟨i,h1,h2⟩|h)
  ·exact .inl ⟨i,by simp [evY,allY,h1],h2⟩
  ·exact .inr h⟩
theorem zcl (l:qs):kr E 70 [.a (jx l)] 0 (hpF []) ⟨.fn (.func 128) [] [.bx 0 0],vb [],[(0,some (.cells 42 [.a (jx l)]))]++vl [],1⟩:=by
 refine wr [.a (jx l)] [] 0 (.fn (.func 128) [] [.bx 0 0]) [(0,some (.cells 42 [.a (jx l)]))] 1 Tryz.func70 rfl rfl rfl rfl fun S F ρ=>?_
 apply qd [1]
 repeat' (first|apply And.intro|(intro h;try exact cDd)|exact cSd|apply qb [1]|refine exr ?_|refine qj ?_)
@[reducible] def stzA (x : Int × List Fld) : AV := .ag [Iv x.1, vm x.2]
@[reducible] def qum (s : List (Int × List Fld)) : AV := .sl 2 (s.map stzA) none
theorem q18 (s:List (Int×List Fld)):Pure (qum s):=qbh fun x hx=>by
 obtain⟨f,_,rfl⟩:=List.mem_map.1 hx
 intro y hy
 simp only [AV.cells,List.mem_cons,List.not_mem_nil,or_false] at hy
 rcases hy with rfl|rfl
 ·exact qu _
 ·exact qa3 _
theorem qop (es:List EntV):(stzF es).length≤es.length:=by
 unfold stzF
 rw [List.length_map]
 exact List.length_filter_le _ _
theorem qw9 {N:Nat} {B:Bs} {C:Conf} {Q:Exit→Conf→Prop} {X:Type} {f:Operand} {p:Tmp} {asg body:Code} (l:qs) (kb n0:Nat) (ks:List Nat) (I:X→Conf) (sl0:List (Nat×SV)) (P:List EntV→X→Prop) (D:Code→X→Prop) (x0:X) (h0:P l.ents x0)
  (he:EntA B.n0 C (I x0)) (hz:¬ B.dz) (hl:l.ents.length<1000000) (hsl:∀ x,(I x).sl=sl0)
  (hf:sval N sl0 f=some (.fn (.func 128) [] [.bx kb 0]))
  (hkb:∀ x,lkS (I x).hp kb=some (some (.cells 42 [.a (jx l)])))
  (hr:∀ x,qa7 n0 ks (I x).sl (I x).hp (I x).nx=true) (h0r:(ksIn n0 ks (I x0).hp && Nat.ble B.n0 n0)=true)
  (hb:∀ r e q x,P r x→y7 r=some (e,q)→RA E N n0 asg (fun F ρ C1=>RB E N F ρ n0 body (rndQ n0 (P q) D I) C1) ⟨(p,.a (entA e))::(I x).sl,(I x).hp,(I x).nx⟩)
  (hn:∀ r x,y7 r=none→P r x→Q .normal (I x)) (hd:∀ c x,D c x→q0q Q c (I x)):Sm E none N B (.rangeFunc f #[p] asg body) Q C:=by
 refine qnl (zbt l hl) Tryz.call128 (fun i v j h=>?_) kb n0 [.a (jx l)] (fun _=>rfl) ks I sl0 P D x0 h0 he hz hsl hf hkb hr h0r (fun i x v j hp h=>?_) (fun i x h hp=>?_) hd
 ·unfold allY at h
  cases hx:y7 i with
  |none=>rw [hx] at h;simp at h
  |some y=>
   rw [hx] at h
   simp only [Option.map_some,Option.some.injEq,Prod.mk.injEq] at h
   rw [← h.1]
   try rfl
 ·unfold allY at h
  cases hx:y7 i with
  |none=>rw [hx] at h;simp at h
  |some y=>
   rw [hx] at h
   simp only [Option.map_some,Option.some.injEq,Prod.mk.injEq] at h
   obtain⟨h1,h2⟩:=h
   rw [← h1,← h2]
   exact hb i y.1 y.2 x hp hx
 ·unfold allY at h
  cases hx:y7 i with
  |none=>exact hn i x hx hp
  |some y=>rw [hx] at h;simp at h
theorem qqc (l:qs) (st:List AObj) (hl:l.ents.length<1000000) (hI:∀ e∈l.ents,e.x.fields.length<1000000):ql E 25 [jx l] st fun r st'=>r=qum (stzF l.ents)∧st'=st:=by
 refine z4 [.a (jx l)] (q18 _) Tryz.func25 rfl rfl (fun _=>rfl) rfl fun S0=>?_
 apply qd []
 repeat' (first|apply And.intro|(intro h;try exact cDd)|exact⟨Tryz.call70⟩|(refine z6 (zcl l) ?_)|exact cSd|apply qb []|refine exr ?_|refine qj ?_)
 refine qw9 (X:=List (Int×List Fld)) l 1 2 [0,1] (fun out=>⟨[(3,.bx 0 0),(6,.fn (.func 128) [] [.bx 1 0])],[(0,some (.cells 55 [.tp 2])),(1,some (.cells 42 [.a (jx l)])),(2,some (.tip 2 59 (out.map stzA)))],3⟩) _
  (fun r out=>out++stzF r=stzF l.ents∧out.length+r.length≤l.ents.length∧∀ y∈r,y∈l.ents) (fun _ _=>False) [] ⟨by simp,by simp,fun _ h=>h⟩ ?_ id hl (fun _=>rfl) rfl (fun _=>rfl) (fun _=>rfl) rfl ?_ ?_ (fun _ _ h=>h.elim)
 ·skip
  repeat' (first|apply And.intro|(intro h;try exact cDd)|exact cSd|apply qb []|refine exr ?_|refine qj ?_)
 ·rintro r e q out ⟨h1,h2,h3⟩ hx
  obtain⟨g1,g2,g3,g4,g5⟩:=qqf hx
  rw [g3] at h1
  have hcl:=fun st=>qf0 e.x.fields st (hI e (h3 e g2))
  have hml:(out.map stzA).length=out.length:=by simp
  refine RA.mk fun S F ρ rd=>?_
  apply qd []
  repeat' (first|apply And.intro|(intro h;try exact cDd)|(refine RB.mk fun S rd=>?_;apply qd [])|exact⟨Tryz.call71⟩|refine cpe hcl ?_|(refine Exists.intro (out++[(e.id,e.x.fields)]) ⟨⟨by rw [← h1];simp,by simp;omega,fun y hy=>h3 y (g5 y hy)⟩,?_⟩)|exact cSd|apply qb []|refine exr ?_|refine qj ?_)
  all_goals first|(simp [SV.evs,SV.ev];done)|(simp [SV.evs];omega)
 ·rintro r out hx ⟨h1,h2,h3⟩
  rw [qqe hx,List.append_nil] at h1
  rw [← h1]
  repeat' (first|apply And.intro|(intro h;try exact cDd)|exact cSd|apply qb []|refine exr ?_|refine qj ?_)
theorem qkx {b:v6} (hp:ve b.base = .no):qea b 0=(.no,⟨ofF (itsE b.base),[],[]⟩):=by
 unfold qea
 rw [if_neg (by omega)]
 unfold wp
 rw [if_pos hp]
 try rfl
end Go.Proofs.YtneejjefekdgjaaGreatDoor
namespace Go.Pl
open Go Go.Proofs Go.Av
def rawG (l:qs) (id:Int):Option qa:=(l.ents.find? fun e=>decide (e.id=id)).map fun e=>e.x.raw
theorem qv0 (id:Int):∀ (es:List EntV) (k:Nat),(vr id k es = -1∧es.find? (fun e=>decide (e.id=id))=none)∨∃ i e,vr id k es=((k+i:Nat):Int)∧es[i]? = some e∧es.find? (fun e=>decide (e.id=id))=some e
 | [],k=>.inl ⟨rfl,rfl⟩
 |e::r,k=>by
  unfold vr
  by_cases h:e.id=id
  ·rw [if_pos h,List.find?_cons_of_pos (by simp [h])]
   exact .inr ⟨0,e,by simp,rfl,rfl⟩
  ·rw [if_neg h,List.find?_cons_of_neg (by simp [h])]
   rcases qv0 id r (k+1) with g | ⟨i,e',g1,g2,g3⟩
   ·exact .inl g
   ·exact .inr ⟨i+1,e',by rw [g1];congr 1;omega,by simpa using g2,g3⟩
theorem za6 {l:qs} {id:Int} (h:1≤id):rawF l id=match rawG l id with
  |some x=>(x,true)
  |none=>([],false):=by
 unfold rawF rawG atF
 rw [if_neg (by omega)]
 rcases qv0 id l.ents 0 with⟨g1,g2⟩ | ⟨i,e,g1,g2,g3⟩
 ·rw [g1,g2]
  simp only [Option.map_none]
  split
  ·rw [if_pos (by decide)]
  ·rfl
 ·rw [g1,g3,Nat.zero_add,Int.toNat_natCast,g2]
  simp only [Option.map_some]
  rw [if_neg (by omega)]
end Go.Pl
namespace Go.Pl
open Go Go.Proofs Go.Proofs.YtneejjefekdgjaaGreatDoor
def numI:Int→List qt→List EntV
 | _,[]=>[]
 |n,x::r=>if x.kind=3 then⟨x,n⟩::numI (n+1) r else⟨x,0⟩::numI n r
def recI (its:List qt):List qt:=its.filter fun x=>decide (x.kind=3)
theorem qqk:∀ (its:List qt) (l:qs),its.foldl vq l=⟨l.ents++numI l.next its,l.next+cntI its,l.many+cntI its⟩
 | [],l=>by
  have h0:cntI []=0:=rfl
  simp [numI,h0]
 |x::r,l=>by
  rw [List.foldl_cons,qqk r,vp]
  unfold vq
  by_cases h:x.kind=3
  ·rw [if_pos h,if_pos h]
   simp only [numI,if_pos h,List.append_assoc,List.cons_append,List.nil_append,qs.mk.injEq,true_and]
   omega
  ·rw [if_neg h,if_neg h]
   simp only [numI,if_neg h,List.append_assoc,List.cons_append,List.nil_append,qs.mk.injEq,true_and]
   omega
theorem zax (its:List qt):ofF its=⟨numI 1 its,1+cntI its,cntI its⟩:=by
 have:=qqk its ⟨[],1,0⟩
 simp only [List.nil_append,Int.zero_add] at this
 exact this
theorem qln:∀ (its:List qt) (n:Int) (i:Nat),1≤n→((numI n its).find? fun e=>decide (e.id=n+i)).map (fun e=>e.x)=(recI its)[i]?
 | [],n,i,_=>by simp [numI,recI]
 |x::r,n,i,hn=>by
  unfold numI
  by_cases h:x.kind=3
  ·rw [if_pos h]
   have hr:recI (x::r)=x::recI r:=by simp [recI,h]
   rw [hr]
   cases i with
   |zero=>rw [List.find?_cons_of_pos (by simp)];rfl
   |succ i=>
    rw [List.find?_cons_of_neg (by simp;omega)]
    have:=qln r (n+1) i (by omega)
    rw [List.getElem?_cons_succ,← this]
    congr 2
    funext e
    congr 1
    rw [show n+((i+1:Nat):Int)=n+1+(i:Int) by omega]
  ·rw [if_neg h]
   have hr:recI (x::r)=recI r:=by simp [recI,h]
   rw [hr,List.find?_cons_of_neg (by simp;omega)]
   exact qln r n i hn
theorem za7 (its:List qt) (i:Nat):rawG (ofF its) ((i:Int)+1)=((recI its)[i]?).map fun x=>x.raw:=by
 unfold rawG
 rw [zax,← qln its 1 i (by omega),Option.map_map,show (i:Int)+1=1+(i:Int) by omega]
 rfl
theorem qj1:∀ (its:List qt) (p:Bool),recI (z8 p its)=recI its
 | [],_=>rfl
 |x::r,p=>by
  have ih:=qj1 r (decide (x.kind≠1))
  unfold recI at ih
  rw [z8]
  split
  ·simp only [recI,List.cons_append,List.nil_append,List.filter_cons]
   rw [ih]
   simp
  ·simp only [recI,List.cons_append,List.nil_append,List.filter_cons]
   rw [ih]
theorem qk6:∀ (es:List EntV),(∀ e∈es,0<e.id↔e.x.kind=3)→(es.filter fun e=>decide (0<e.id)).map (fun e=>e.x)=recI (es.map fun e=>e.x)
 | [],_=>rfl
 |e::r,h=>by
  have ih:=qk6 r fun y hy=>h y (by simp [hy])
  have he:=h e (by simp)
  unfold recI at ih ⊢
  by_cases hk:e.x.kind=3
  ·rw [List.filter_cons_of_pos (by simpa using he.2 hk),List.map_cons,List.map_cons,List.filter_cons_of_pos (by simpa using hk),ih]
  ·rw [List.filter_cons_of_neg (by simpa using fun h=>hk (he.1 h)),List.map_cons,List.filter_cons_of_neg (by simpa using hk),ih]
theorem q8p {l:qs} (h:GL l):(stzF l.ents).map Prod.snd=Go.Proofs.YtneejjefekdgjaaGreatDoor.recsF (zk l):=by
 have:=qk6 l.ents fun e he=>(h.ok e he).2
 unfold stzF Go.Proofs.YtneejjefekdgjaaGreatDoor.recsF
 rw [List.map_map,show zk l=l.ents.map (fun e=>e.x) from rfl]
 unfold recI at this
 rw [← this,List.map_map]
 rfl
theorem q5p {l:qs} (h:GL l) (i:Nat):rawG (ofF (zn (jj l)).2) ((i:Int)+1)=((recI (zk l))[i]?).map fun x=>x.raw:=by
 rw [qtr h,za7]
 unfold wg
 rw [qj1]
def qbw (text:qa):ErrV×qa:=
 if (zg text).1 = .no then
  (if 2147483648≤(zg text).2.1.gen then (.num 1,[]) else if 60000<(jj (zg text).2.2).length then (.num 11,[]) else qct ((zg text).2.1.gen+1) (jj (zg text).2.2))
 else ((zg text).1,[])
theorem qem {text:qa} (h:(zg text).1 = .no):x9 text (zg text).2.1∧GL (zg text).2.2∧((zg text).2.1.gen=0∨jn (zg text).2.1.gen):=by
 unfold zg at h ⊢
 by_cases h1:(ja text).1 = .no
 ·rw [if_pos h1] at h ⊢
  by_cases h2:(wp (ja text).2.base (ja text).2.batches).1 = .no
  ·rw [if_pos h2] at h ⊢
   have hb:=qgp (text:=text) (b:=(ja text).2) (by rw [← h1])
   refine⟨hb,q7x _ _ hb.parse,?_⟩
   have:=(qe4 text).2
   rw [hb.gen] at this
   exact this
  ·rw [if_neg h2] at h
   exact absurd h h2
 ·rw [if_neg h1] at h
  exact absurd h h1
theorem qno {l:qs} (h:GL l) (hl:(jj l).length≤60000):ve (jj l) = .no:=by
 unfold ve
 rw [if_neg (by omega),qtr h]
theorem qp1 {n:Int} (h:n=0∨jn n) (h2:¬ 2147483648≤n):jn (n+1):=by
 unfold jn at h ⊢
 omega
theorem q1c {n:Int} (h:jn n):ka n=kc n:=by
 unfold ka
 rw [if_pos h]
theorem qn4 {l:qs} {n:Int} (h:GL l) (hg:jn n) (hl:(jj l).length≤60000):qct n (jj l)=(.no,kc n++jj l):=by
 rw [q3s,if_neg (by simp [hg]),if_pos (qno h hl),q1c hg]
theorem q3r {text:qa}:qbw text=if (zg text).1 = .no then
  (if (zg text).2.1.gen=2147483648 then (.num 1,[]) else if 60000<(jj (zg text).2.2).length then (.num 11,[]) else (.no,kc ((zg text).2.1.gen+1)++jj (zg text).2.2))
 else ((zg text).1,[]):=by
 unfold qbw
 by_cases h:(zg text).1 = .no
 ·obtain⟨_,h2,h3⟩:=qem h
  rw [if_pos h,if_pos h]
  by_cases hm:2147483648≤(zg text).2.1.gen
  ·have he:(zg text).2.1.gen=2147483648:=by
    unfold jn at h3
    omega
   rw [if_pos hm,if_pos he]
  ·rw [if_neg hm,if_neg (by omega:¬ (zg text).2.1.gen=2147483648)]
   split
   ·rfl
   ·exact qn4 h2 (qp1 h3 hm) (by omega)
 ·rw [if_neg h,if_neg h]
theorem q08 {l:qs} {n:Int} (h:GL l) (hg:jn n) (hl:(jj l).length≤60000):zg (kc n++jj l)=(.no,⟨n,jj l,[],[],[]⟩,ofF (zn (jj l)).2):=by
 have hb:=qy5 (qpz (qn4 h hg hl) (by unfold jn at hg;omega) hl)
 have hp:=qno h hl
 have hpl:wp (jj l) []=(.no,⟨ofF (zn (jj l)).2,[],[]⟩):=by
  unfold wp
  rw [if_pos hp,(qij hp).2.2]
  rfl
 unfold zg
 rw [hb]
 dsimp only
 rw [if_pos rfl,hpl]
 rfl
theorem qp2 {n:Int} (h:jn n):10∉genL++Lib.itoa n:=by
 unfold jn at h
 have hd:=v8 n.toNat n.toNat (Nat.le_refl _)
 rw [qeh (by omega)]
 intro h10
 rcases List.mem_append.1 h10 with h10|h10
 ·revert h10;decide
 ·have:=hd 10 h10
  revert this
  decide
theorem q1d {n:Int} (h:jn n):qr (genL++Lib.itoa n)=2:=by
 unfold qr
 rw [if_neg (qp2 h),if_neg,if_pos]
 ·rfl
 ·intro hb
  have:=hb 35 (by simp [genL])
  revert this
  decide
theorem qx8 {l:qs} {n:Int} (h:GL l) (hg:jn n):zn (kc n++jj l)=(none,⟨2,genL++Lib.itoa n++[10],[]⟩::⟨1,[10],[]⟩::wg (zk l)):=by
 have ht:kc n++jj l=zw (wg (⟨2,genL++Lib.itoa n++[10],[]⟩::⟨1,[10],[]⟩::zk l)):=by
  simp [kc,jj,wg,z8,zw]
 have hok:xq ⟨2,genL++Lib.itoa n++[10],[]⟩:=by
  refine .inr ⟨[genL++Lib.itoa n],by simp,?_,by simpa using qp2 hg⟩
  have hk:=q1d hg
  rw [blkR,if_neg,if_neg (by omega)]
  ·rfl
  ·simp only [not_or,Classical.not_not]
   exact⟨by unfold jo;rw [hk];rfl,by omega⟩
 rw [ht,qlt]
 ·simp [wg,z8]
 ·intro x hx
  simp only [List.mem_cons] at hx
  rcases hx with rfl|rfl|hx
  ·exact hok
  ·exact .inl ⟨[],rfl,by decide⟩
  ·obtain⟨e,he,rfl⟩:=List.mem_map.1 hx
   exact (h.ok e he).1
 ·have:=h.le
  rw [vp,vp]
  simp
  omega
def idsL (es:List EntV):List Int:=(es.filter fun e=>decide (0<e.id)).map fun e=>e.id
theorem qad (a b:List EntV):idsL (a++b)=idsL a++idsL b:=by simp [idsL]
theorem qdj (e:EntV) (b:List EntV):idsL (e::b)=if 0<e.id then e.id::idsL b else idsL b:=by
 unfold idsL
 by_cases h:0<e.id
 ·rw [if_pos h,List.filter_cons_of_pos (by simpa using h)];rfl
 ·rw [if_neg h,List.filter_cons_of_neg (by simpa using h)]
theorem qod {es:List EntV} {n:Int}:n∈idsL es↔0<n∧∃ e∈es,e.id=n:=by
 unfold idsL
 simp only [List.mem_map,List.mem_filter,decide_eq_true_eq]
 constructor
 ·rintro⟨e,⟨he,h⟩,rfl⟩
  exact⟨h,e,he,rfl⟩
 ·rintro⟨h,e,he,rfl⟩
  exact⟨e,⟨he,h⟩,rfl⟩
structure GN (l:qs):Prop where
 nd:(idsL l.ents).Nodup
 lt:∀ e∈l.ents,e.id<l.next
 nx:1≤l.next
theorem q4i {l:qs} {x:qt} (h:GN l):GN (vq l x):=by
 obtain⟨h1,h2,h3⟩:=h
 unfold vq
 split
 ·refine⟨?_,fun e he=>?_,by simp only;omega⟩
  ·simp only
   rw [qad,qdj,if_pos (by simp only;omega)]
   refine List.nodup_append.2 ⟨h1,by simp [idsL],fun a ha b hb=>?_⟩
   obtain⟨_,e,he,rfl⟩:=qod.1 ha
   have:=h2 e he
   simp [idsL] at hb
   omega
  ·rcases List.mem_append.1 he with he|he
   ·have:=h2 e he;simp only;omega
   ·simp only [List.mem_cons,List.not_mem_nil,or_false] at he;subst he;simp only;omega
 ·refine⟨?_,fun e he=>?_,h3⟩
  ·simp only
   rw [qad,qdj,if_neg (by simp)]
   simpa [idsL] using h1
  ·rcases List.mem_append.1 he with he|he
   ·exact h2 e he
   ·simp only [List.mem_cons,List.not_mem_nil,or_false] at he;subst he;simp only;omega
theorem qtd:∀ (its:List qt) (l:qs),GN l→GN (its.foldl vq l)
 | [],l,h=>h
 |x::r,l,h=>qtd r (vq l x) (q4i h)
theorem q4e (its:List qt):GN (ofF its):=qtd its ⟨[],1,0⟩ ⟨by simp [idsL],by simp,by simp⟩
theorem q7a {es:List EntV} {i:Nat} {e:EntV} {x:qt} (h:es[i]? = some e):idsL (es.set i ⟨x,e.id⟩)=idsL es:=by
 obtain⟨hlt,rfl⟩:=List.getElem?_eq_some_iff.1 h
 have e1:=List.take_append_drop i es
 rw [List.drop_eq_getElem_cons hlt] at e1
 rw [List.set_eq_take_append_cons_drop,if_pos hlt]
 conv=>rhs;rw [← e1]
 rw [qad,qad,qdj,qdj]
theorem q8b {l:qs} (h:GN l) (id:Int) (fs:List Fld):GN (yh l id fs).2:=by
 unfold yh
 split
 ·exact h
 ·split
  ·unfold qh4
   split
   ·rename_i e he
    refine⟨by simp only;rw [q7a he];exact h.nd,fun y hy=>?_,h.nx⟩
    rcases List.mem_or_eq_of_mem_set hy with hy|rfl
    ·exact h.lt y hy
    ·exact h.lt e (List.mem_of_getElem? he)
   ·exact h
  ·exact h
theorem q93 {l:qs} (h:GN l) (id:Int):GN (delF l id).2:=by
 unfold delF
 split
 ·exact h
 ·generalize (atF l id).toNat=i
  refine⟨?_,fun y hy=>?_,h.nx⟩
  ·have:=h.nd
   rw [← List.take_append_drop i l.ents,qad] at this
   unfold delL
   simp only
   rw [qad]
   refine List.Nodup.sublist (List.Sublist.append (List.Sublist.refl _) ?_) this
   unfold idsL
   refine List.Sublist.map _ (List.Sublist.filter _ ?_)
   rw [← List.drop_drop]
   exact List.drop_sublist 1 _
  ·rcases List.mem_append.1 hy with hy|hy
   ·exact h.lt y (List.mem_of_mem_take hy)
   ·exact h.lt y (List.mem_of_mem_drop hy)
theorem zah {l:qs} (h:GN l) (id:Int) (fs:List Fld):GN (insF l id fs).2.2:=by
 unfold insF
 split
 ·exact h
 ·split
  ·split
   ·exact h
   ·generalize (atF l id+1).toNat=k
    have hn:=h.nx
    refine⟨?_,fun y hy=>?_,by simp only [insL];omega⟩
    ·have:=h.nd
     rw [← List.take_append_drop k l.ents,qad] at this
     unfold insL
     simp only
     rw [qad,qdj,if_pos (by simp only;omega)]
     refine (List.perm_middle.nodup_iff).2 (List.nodup_cons.2 ⟨fun hm=>?_,this⟩)
     rw [← qad,List.take_append_drop] at hm
     obtain⟨_,e,he,hen⟩:=qod.1 hm
     have hen:e.id=l.next:=hen
     have:=h.lt e he
     omega
    ·show y.id<l.next+1
     rcases List.mem_append.1 hy with hy|hy
     ·have:=h.lt y (List.mem_of_mem_take hy);omega
     ·rcases List.mem_cons.1 hy with rfl|hy
      ·simp only;omega
      ·have:=h.lt y (List.mem_of_mem_drop hy);omega
  ·exact h
theorem za0 {l:qs} (h:GN l) (x:qq):GN (oneF l x).2.2:=by
 unfold oneF
 split
 ·exact q8b h _ _
 ·split
  ·exact q93 h _
  ·exact zah h _ _
theorem qsv:∀ (b:List qq) (k:Nat) (l:qs) (ids:List Int),GN l→GN (xc k b l ids).2.1
 | [],_,l,_,h=>h
 |x::r,k,l,ids,h=>by
  unfold xc
  split
  ·exact qsv r _ _ _ (za0 h x)
  ·exact h
theorem q3d {l:qs} (h:GN l) (b:List qq):GN (doF l b).2.1:=by
 unfold doF
 split
 ·exact qsv b 0 l [] h
 ·exact h
theorem qni:∀ (bs:List (List qq)) (r:RunV),GN r.l→GN (wc bs r).2.l
 | [],r,h=>h
 |b::bs,r,h=>by
  unfold wc
  split
  ·exact qni bs _ (q3d h b)
  ·first|exact q3d h b|exact h
theorem q7y (base:qa) (bs:List (List qq)):GN (wp base bs).2.l:=by
 unfold wp
 split
 ·exact qni bs _ (q4e _)
 ·exact q4e _
def yi (a b:qs) (id:Int):Bool:=(rawF a id).2 && (rawF b id).2 && decide ((rawF a id).1=(rawF b id).1)
def ql4 (a l:qs):List Int:=((stzF l.ents).map Prod.fst).filter fun id=> !yi a l id
theorem ql1 (e:EntV) (b:List EntV):stzF (e::b)=if 0<e.id then (e.id,e.x.fields)::stzF b else stzF b:=by
 unfold stzF
 by_cases h:0<e.id
 ·rw [if_pos h,List.filter_cons_of_pos (by simpa using h)];rfl
 ·rw [if_neg h,List.filter_cons_of_neg (by simpa using h)]
theorem ql0:∀ (es:List EntV) (a b:List (Int×List Fld)) (x:Int×List Fld),stzF es=a++x::b→∃ A e B,es=A++e::B∧stzF A=a∧stzF B=b∧0<e.id∧x=(e.id,e.x.fields)
 | [],a,b,x,h=>by
  have:stzF []=[]:=rfl
  rw [this] at h
  cases a <;> simp at h
 |e::r,a,b,x,h=>by
  rw [ql1] at h
  by_cases he:0<e.id
  ·rw [if_pos he] at h
   cases a with
   |nil=>
    simp only [List.nil_append,List.cons.injEq] at h
    exact⟨[],e,r,rfl,rfl,h.2,he,h.1.symm⟩
   |cons y a=>
    simp only [List.cons_append,List.cons.injEq] at h
    obtain⟨A,e',B,rfl,h1,h2,h3,h4⟩:=ql0 r a b x h.2
    exact⟨e::A,e',B,rfl,by rw [ql1,if_pos he,h1,h.1],h2,h3,h4⟩
  ·rw [if_neg he] at h
   obtain⟨A,e',B,rfl,h1,h2,h3,h4⟩:=ql0 r a b x h
   exact⟨e::A,e',B,rfl,by rw [ql1,if_neg he,h1],h2,h3,h4⟩
theorem qzg {id:Int} {e:EntV} {B:List EntV} (he:e.id=id):∀ (A:List EntV) (k:Nat),(∀ y∈A,y.id≠id)→vr id k (A++e::B)=((k+A.length:Nat):Int)
 | [],k,_=>by
  rw [List.nil_append,vr,if_pos he]
  rfl
 |y::A,k,h=>by
  rw [List.cons_append,vr,if_neg (h y (by simp)),qzg he A (k+1) fun z hz=>h z (by simp [hz])]
  simp only [List.length_cons]
  omega
theorem q6f {l:qs} {A B:List EntV} {e:EntV} (h:GN l) (hs:l.ents=A++e::B) (he:0<e.id):atF l e.id=(A.length:Int):=by
 unfold atF
 rw [if_neg (by omega),hs,qzg rfl A 0 fun y hy hh=>?_]
 ·simp
 ·have hnd:=h.nd
  rw [hs,qad,qdj,if_pos he] at hnd
  have hm:y.id∈idsL A:=qod.2 ⟨by omega,y,hy,rfl⟩
  exact (List.nodup_append.1 hnd).2.2 _ hm _ (by simp) hh
theorem q75 (a b:List qt):recI (a++b)=recI a++recI b:=by simp [recI]
theorem q76 (A:List EntV) (h:∀ e∈A,0<e.id↔e.x.kind=3):(recI (A.map fun e=>e.x)).length=(stzF A).length:=by
 rw [← qk6 A h]
 simp [stzF]
theorem q4z {l:qs} (hl:GL l) (hn:GN l) {i:Nat} {s:Int×List Fld} (hs:(stzF l.ents)[i]? = some s):∃ x,(recI (zk l))[i]? = some x∧rawF l s.1=(x.raw,true):=by
 obtain⟨hlt,he⟩:=List.getElem?_eq_some_iff.1 hs
 have hsp:=List.take_append_drop i (stzF l.ents)
 rw [List.drop_eq_getElem_cons hlt,he] at hsp
 obtain⟨A,e,B,h1,h2,h3,h4,h5⟩:=ql0 _ _ _ _ hsp.symm
 subst h5
 have hA:∀ y∈A,0<y.id↔y.x.kind=3:=fun y hy=>(hl.ok y (by rw [h1];simp [hy])).2
 have hk:e.x.kind=3:=((hl.ok e (by rw [h1];simp)).2).1 h4
 have hlen:(recI (A.map fun e=>e.x)).length=i:=by
  rw [q76 A hA,h2,List.length_take]
  omega
 refine⟨e.x,?_,?_⟩
 ·unfold zk
  rw [h1,List.map_append,List.map_cons,q75,List.getElem?_append_right (by omega),hlen,Nat.sub_self]
  simp [recI,hk]
 ·have ha:=q6f hn h1 h4
  unfold rawF
  rw [ha,Int.toNat_natCast]
  have hg:l.ents[A.length]? = some e:=by rw [h1];simp
  rw [hg]
  simp only
  rw [if_neg (by omega)]
theorem q40 {l:qs} (hl:GL l) (hn:GN l) {i:Nat} {s:Int×List Fld} (hs:(stzF l.ents)[i]? = some s):rawF (ofF (zn (jj l)).2) ((i:Int)+1)=rawF l s.1:=by
 obtain⟨x,h1,h2⟩:=q4z hl hn hs
 rw [h2,za6 (by omega),q5p hl,h1]
 rfl
end Go.Pl
namespace Go.Pl
open Go Go.Proofs Go.Av Go.Proofs.YtneejjefekdgjaaGreatDoor
def dupS (key:qa) (pre:List (Int×List Fld)) (x:Int×List Fld):Bool:=(ql6 key x.2).any fun v=>pre.any fun y=>decide (v∈ql6 key y.2)
def q6l (r:qbi) (pre:List (Int×List Fld)) (x:Int×List Fld):Prop:=x.2.any (badR r)=true∨(r.kind=1∧cntR r x.2=0)∨(r.kind=2∧1<cntR r x.2)∨(r.kind=7∧dupS r.key pre x=true)
instance (r:qbi) (pre:List (Int×List Fld)) (x:Int×List Fld):Decidable (q6l r pre x):=inferInstanceAs (Decidable (_∨(_∧_)∨(_∧_)∨(_∧_)))
end Go.Pl
namespace Go.Pl
open Go
def i64 (n:Int):Prop:= -9223372036854775808≤n∧n≤9223372036854775807
end Go.Pl
namespace Go.Pl
open Go Go.Proofs Go.Proofs.YtneejjefekdgjaaGreatDoor
theorem q32 (p:qa):∀ ls:List (qa×Bool),lsum ls≤(indF p ls).length
 | []=>by simp [lsum]
 |x::r=>by
  have ih:=q32 p r
  unfold lsum indF at ih ⊢
  simp only [List.map_cons,List.sum_cons,List.flatMap_cons,List.length_append]
  omega
theorem zcb (x:qq):(jk x.fields).length≤(jd x).length:=by
 have h1:=q32 [32,32] (zb (jk x.fields))
 rw [(qdk _ _ (Nat.le_refl _)).1] at h1
 unfold jd ye
 simp only [List.length_append]
 omega
def wE (es:List EntV):Nat:=(es.map fun e=>e.x.raw.length).sum
theorem qq6 (a b:List EntV):wE (a++b)=wE a+wE b:=by simp [wE]
theorem qsb (e:EntV) (b:List EntV):wE (e::b)=e.x.raw.length+wE b:=by simp [wE]
theorem qq7 (es:List EntV) (i:Nat):wE es=wE (es.take i)+wE (es.drop i):=by rw [← qq6,List.take_append_drop]
theorem qz0 (es:List EntV) (i:Nat):wE (es.drop (i+1))≤wE (es.drop i):=by
 have:=qq7 (es.drop i) 1
 rw [List.drop_drop] at this
 omega
theorem qz1:∀ es:List EntV,(zw (es.map fun e=>e.x)).length=wE es
 | []=>by simp [zw,wE]
 |e::r=>by
  have ih:=qz1 r
  rw [qsb,List.map_cons]
  unfold zw at ih ⊢
  rw [List.flatMap_cons,List.length_append,ih]
theorem za5 (fs:List Fld):(xf fs).raw.length≤(jk fs).length:=by
 unfold xf
 split
 ·exact Nat.le_refl _
 ·simp
theorem zc0 (l:qs) (x:qq):wE (oneF l x).2.2.ents≤wE l.ents+(jk x.fields).length:=by
 have hp:=za5 x.fields
 unfold oneF
 split
 ·unfold yh
  split
  ·simp only;omega
  ·split
   ·unfold qh4
    split
    ·rename_i e he
     obtain⟨hlt,_⟩:=List.getElem?_eq_some_iff.1 he
     simp only
     rw [List.set_eq_take_append_cons_drop,if_pos hlt,qq6,qsb]
     have h1:=qq7 l.ents (atF l x.id).toNat
     have h2:=qz0 l.ents (atF l x.id).toNat
     simp only
     omega
    ·simp only;omega
   ·simp only;omega
 ·split
  ·unfold delF
   split
   ·simp only;omega
   ·unfold delL
    simp only
    rw [qq6]
    have h1:=qq7 l.ents (atF l x.id).toNat
    have h2:=qz0 l.ents (atF l x.id).toNat
    omega
  ·unfold insF
   split
   ·simp only;omega
   ·split
    ·split
     ·simp only;omega
     ·unfold insL
      simp only
      rw [qq6,qsb]
      have h1:=qq7 l.ents (atF l x.id+1).toNat
      simp only
      omega
    ·simp only;omega
theorem qvl:∀ (b:List qq) (k:Nat) (l:qs) (ids:List Int),wE (xc k b l ids).2.1.ents≤wE l.ents+(encF b).length
 | [],k,l,ids=>by simp [xc]
 |x::r,k,l,ids=>by
  have h1:=zc0 l x
  have h2:=zcb x
  have h3:(encF (x::r)).length=(jd x).length+(encF r).length:=by simp [encF]
  unfold xc
  split
  ·have:=qvl r (k+1) (oneF l x).2.2 (if 0<(oneF l x).1 then ids++[(oneF l x).1] else ids)
   omega
  ·simp only;omega
theorem zdm (l:qs) (b:List qq):wE (doF l b).2.1.ents≤wE l.ents+(encF b).length:=by
 unfold doF
 split
 ·exact qvl b 0 l []
 ·simp only;omega
theorem zc4 (b:List qq):(encF b).length≤(recE b).length:=by
 unfold recE recF
 simp only [List.length_append]
 omega
theorem qqq:∀ (bs:List (List qq)) (r:RunV),wE (wc bs r).2.l.ents≤wE r.l.ents+(ke bs).length
 | [],r=>by simp [wc]
 |b::q,r=>by
  have h1:=zdm r.l b
  have h2:=zc4 b
  have h3:(ke (b::q)).length=(recE b).length+(ke q).length:=by rw [x4,List.length_append]
  unfold wc
  split
  ·have:=qqq q (qcn r b)
   unfold qcn at this
   simp only at this
   unfold qcn
   omega
  ·simp only;omega
theorem q7q (l:qs) (x:qt):wE (vq l x).ents=wE l.ents+x.raw.length:=by
 unfold vq
 split <;> simp [wE]
theorem qwp:∀ (its:List qt) (l:qs),wE (its.foldl vq l).ents=wE l.ents+(zw its).length
 | [],l=>by simp [zw]
 |x::r,l=>by
  rw [List.foldl_cons,qwp r,q7q]
  have:(zw (x::r)).length=x.raw.length+(zw r).length:=by simp [zw]
  omega
theorem zck (text:qa):(zw (itsE text)).length≤2 * text.length:=by
 unfold itsE
 split
 ·simp [zw]
 ·have h:=qzt text.length text 0 0 p0 (Nat.le_refl _) quj ⟨by simp [p0,zw,q9],by simp [p0]⟩ (by omega)
  unfold zn
  split
  ·simp [zw]
  ·have:=h.tot
   simp only
   omega
theorem qyz:∀ (its:List qt) (p:Bool),(zw (z8 p its)).length≤(zw its).length+its.length
 | [],p=>by simp [z8,zw]
 |x::r,p=>by
  have ih:=qyz r (decide (x.kind≠1))
  unfold zw at ih ⊢
  rw [z8,List.flatMap_append,List.length_append,List.flatMap_cons,List.length_append,List.length_cons]
  have h:((if p=true∧x.kind≠1 then [⟨1,[10],[]⟩,x] else [x]:List qt).flatMap fun x=>x.raw).length≤x.raw.length+1:=by split <;> simp
  omega
theorem q34:∀ its:List qt,(∀ x∈its,xq x)→its.length≤(zw its).length
 | [],_=>by simp
 |x::r,h=>by
  have ih:=q34 r fun y hy=>h y (by simp [hy])
  have hx:0<x.raw.length:=by
   rcases qif (h x (by simp)) with⟨_,t,rfl,_⟩ | ⟨_,h1,_⟩
   ·simp
   ·exact List.length_pos_iff.2 h1
  unfold zw at ih ⊢
  rw [List.flatMap_cons,List.length_append,List.length_cons]
  omega
theorem zbo {l:qs} (h:GL l):(jj l).length≤2 * wE l.ents:=by
 have h1:=qyz (zk l) false
 have h2:=q34 (zk l) fun x hx=>by
  obtain⟨e,he,rfl⟩:=List.mem_map.1 hx
  exact (h.ok e he).1
 have h3:=qz1 l.ents
 unfold jj wg
 unfold zk at *
 omega
theorem zbd {text:qa} (h:(zg text).1 = .no):(jj (zg text).2.2).length≤4 * text.length:=by
 obtain⟨h1,h2,_⟩:=qem h
 have h3:=zbo h2
 have h4:wE (zg text).2.2.ents≤2 * (zg text).2.1.base.length+(ke (zg text).2.1.batches).length:=by
  unfold zg at h ⊢
  by_cases hb:(ja text).1 = .no
  ·rw [if_pos hb] at h ⊢
   by_cases hp:(wp (ja text).2.base (ja text).2.batches).1 = .no
   ·rw [if_pos hp]
    have hbi:=qgp (text:=text) (b:=(ja text).2) (by rw [← hb])
    simp only
    unfold wp
    rw [if_pos hbi.parse]
    have h5:=qqq (ja text).2.batches ⟨ofF (itsE (ja text).2.base),[],[]⟩
    have h6:wE (ofF (itsE (ja text).2.base)).ents=(zw (itsE (ja text).2.base)).length:=by
     have:=qwp (itsE (ja text).2.base) ⟨[],1,0⟩
     rw [show wE ([]:List EntV)=0 from rfl,Nat.zero_add] at this
     exact this
    have h7:=zck (ja text).2.base
    simp only at h5
    omega
   ·rw [if_neg hp] at h
    exact absurd h hp
  ·rw [if_neg hb] at h
   exact absurd h hb
 have h5:=congrArg List.length h1.txt
 simp only [List.length_append] at h5
 omega
end Go.Pl
namespace Go.Proofs.YtneejjefekdgjaaGreatDoor
open Go Go.Av Go.RowKit Go.Proofs Go.Pl
theorem qve (text:qa) (st:List AObj) (hl:text.length<1000000):ql E 12 [Sv text] st fun r st'=>r = .tu [Sv (qbw text).2,errA (qbw text).1]∧st'=st:=by
 refine z4 [.s text] (jq (qu _) (j6 _)) Tryz.func12 rfl rfl (fun _=>rfl) rfl fun S0=>?_
 have hrt:=fun st=>qmn text st hl
 have hok:=@qem text
 obtain⟨hB,hI⟩:=qd3 text
 unfold qiz at hrt
 unfold qbw
 generalize zg text=q at *
 obtain⟨e,b,l⟩:=q
 cases e with
 |num n=>
  dsimp only at hrt ⊢
  rw [if_neg (by simp)]
  apply qd []
  repeat' (first|apply And.intro|(intro h;try exact cDd)|exact⟨Tryz.call21⟩|refine cpe hrt ?_|exact cSd|apply qb []|refine exr ?_|refine qj ?_)
 |at' a n=>
  dsimp only at hrt ⊢
  rw [if_neg (by simp)]
  apply qd []
  repeat' (first|apply And.intro|(intro h;try exact cDd)|exact⟨Tryz.call21⟩|refine cpe hrt ?_|exact cSd|apply qb []|refine exr ?_|refine qj ?_)
 |no=>
  dsimp only at hrt hok hB hI ⊢
  rw [if_pos rfl]
  have hg0:0≤b.gen:=by have:=(hok rfl).2.2;unfold jn at this;omega
  clear hok
  have ht:=fun st=>zau l st (zal hB hI) (q8t hB hI)
  have hf:=fun h st=>q6k (b.gen+1) (jj l) st h
  generalize qct (b.gen+1) (jj l)=p at *
  generalize jj l=s at *
  by_cases h1:2147483648≤b.gen
  ·rw [if_pos h1]
   apply qd []
   repeat' (first|apply And.intro|(intro h;try exact cDd)|exact⟨Tryz.call21⟩|refine cpe hrt ?_|exact⟨Tryz.call43⟩|refine cpe ht ?_|exact cSd|apply qb []|refine exr ?_|refine qj ?_)
  ·rw [if_neg h1]
   by_cases h2:60000<s.length
   ·rw [if_pos h2]
    apply qd []
    repeat' (first|apply And.intro|(intro h;try exact cDd)|exact⟨Tryz.call21⟩|refine cpe hrt ?_|exact⟨Tryz.call43⟩|refine cpe ht ?_|exact cSd|apply qb []|refine exr ?_|refine qj ?_)
   ·rw [if_neg h2]
    replace hf:=hf (by omega)
    obtain⟨e,s2⟩:=p
    cases e
    all_goals
     apply qd []
     repeat' (first|apply And.intro|(intro h;try exact cDd)|exact⟨Tryz.call21⟩|refine cpe hrt ?_|exact⟨Tryz.call43⟩|refine cpe ht ?_|exact⟨Tryz.call56⟩|refine cpe hf ?_|exact cSd|apply qb []|refine exr ?_|refine qj ?_)
theorem q9z (a b:qs) (id:Int) (st:List AObj) (ha:a.ents.length<1000000) (hb:b.ents.length<1000000):ql E 60 [jx a,jx b,Iv id] st fun r st'=>r=Bv (yi a b id)∧st'=st:=by
 refine z4 [.a (jx a),.a (jx b),.i id] (qu _) Tryz.func60 rfl rfl (fun _=>rfl) rfl fun S0=>?_
 have h1:=fun st=>quk a id st ha
 have h2:=fun st=>quk b id st hb
 unfold yi
 generalize rawF a id=x at *
 generalize rawF b id=y at *
 obtain⟨x,ok⟩:=x
 obtain⟨y,is⟩:=y
 cases ok <;> cases is
 all_goals
  dsimp only at *
  apply qd []
  repeat' (first|apply And.intro|(intro h;try exact cDd)|exact⟨Tryz.call32⟩|refine cpe h1 ?_|exact⟨Tryz.call32⟩|refine cpe h2 ?_|exact cSd|apply qb []|refine exr ?_|refine qj ?_)
  all_goals (simp;done)
def qhc (text:qa):List Int:=if (zg text).1 = .no then qak (ql4 (ofF (itsE (zg text).2.1.base)) (zg text).2.2) else []
theorem q0s (text:qa) (st:List AObj) (hl:text.length<1000000):ql E 18 [Sv text] st fun r st'=>r = .tu [qbn (qhc text),errA (zg text).1]∧st'=st:=by
 refine qjy [.s text] (jq (qcc _) (j6 _)) Tryz.func18 rfl rfl (fun _=>rfl) rfl fun S0=>?_
 have hrt:=fun st=>qmn text st hl
 have hok:=@qem text
 obtain⟨hB,hI⟩:=qd3 text
 unfold qiz at hrt
 unfold qhc
 generalize zg text=q at *
 obtain⟨e,b,l⟩:=q
 cases e with
 |num n=>
  dsimp only at hrt ⊢
  rw [if_neg (by simp)]
  apply qd []
  repeat' (first|apply And.intro|(intro h;try exact cDd)|exact⟨Tryz.call21⟩|refine cpe hrt ?_|exact cSd|apply qb []|refine exr ?_|refine qj ?_)
 |at' a n=>
  dsimp only at hrt ⊢
  rw [if_neg (by simp)]
  apply qd []
  repeat' (first|apply And.intro|(intro h;try exact cDd)|exact⟨Tryz.call21⟩|refine cpe hrt ?_|exact cSd|apply qb []|refine exr ?_|refine qj ?_)
 |no=>
  dsimp only at hrt hok hB hI ⊢
  rw [if_pos rfl]
  obtain⟨hT,_,_⟩:=hok rfl
  have hll:=hB.len
  have hl0:=(qqj b.base).len
  have hbh:=fun st=>qlu b 0 st (qjc hT)
  rw [qkx hT.parse] at hbh
  generalize ofF (itsE b.base)=l0 at *
  replace hbh:∀ st,ql E 30 [qb8 b,Iv 0] st fun r st'=>r = .tu [jx l0,errA .no]∧st'=st:=hbh
  have hz:=fun st=>qqc l st (by omega) fun e he=>by have:=(hI e he).2;omega
  have hsm:=fun id st=>q9z l0 l id st (by omega) (by omega)
  have hsl:=qop l.ents
  unfold ql4
  generalize stzF l.ents=s at *
  have hms:(s.map stzA).length=s.length:=by simp
  apply qd []
  repeat' (first|apply And.intro|(intro h;try exact cDd)|exact⟨Tryz.call21⟩|refine cpe hrt ?_|exact⟨Tryz.call30⟩|refine cpe hbh ?_|exact⟨Tryz.call25⟩|refine cpe hz ?_|exact cSd|apply qb []|refine exr ?_|refine qj ?_)
  refine wm (X:=Nat) (fun k=>⟨[(5,.a (jx l)),(7,.a (jx l0)),(8,.tp 0),(29,.a (qum s)),(30,.i s.length),(31,.i k)],[(0,some (.own 1 3 ((((s.take k).map Prod.fst).filter fun id=> !yi l0 l id).map fun n=>Iv n)))],1⟩) (fun k=>k≤s.length) (fun k=>s.length - k) 0 (by omega) ?_ ?_
  ·skip
   repeat' (first|apply And.intro|(intro h;try exact cDd)|exact cSd|apply qb []|refine exr ?_|refine qj ?_)
   all_goals first|rfl|(simp;done)
  ·rintro k hk
   by_cases hkn:k<s.length
   ·have hx:s[k]? = some s[k]:=List.getElem?_eq_getElem hkn
    have hxm:(s.map stzA)[k]? = some (stzA s[k]):=by rw [List.getElem?_map,hx];rfl
    have htk:s.take (k+1)=s.take k++[s[k]]:=by rw [List.take_add_one,hx];rfl
    have hfl:(((s.take k).map Prod.fst).filter fun id=> !yi l0 l id).length≤s.length:=by
     have:=List.length_filter_le (fun id=> !yi l0 l id) ((s.take k).map Prod.fst)
     rw [List.length_map,List.length_take] at this
     omega
    generalize s[k]=x at hx hxm htk
    have h1:=hsm x.1
    cases hs:yi l0 l x.1 with
    |true=>
     have e1:((s.take (k+1)).map Prod.fst).filter (fun id=> !yi l0 l id)=((s.take k).map Prod.fst).filter fun id=> !yi l0 l id:=by rw [htk];simp [hs]
     rw [hs] at h1
     apply qd []
     repeat' (first|apply And.intro|(intro h;try exact cDd)|(refine Exists.intro (k) ⟨by omega,_,hxm,?_⟩)|exact⟨Tryz.call60⟩|refine cpe h1 ?_|(refine Exists.intro (k+1) ⟨by omega,by omega,?_⟩)|exact cSd|apply qb []|refine exr ?_|refine qj ?_)
     all_goals first|rfl|(rw [e1];done)|(simp;omega)
    |false=>
     have e1:((s.take (k+1)).map Prod.fst).filter (fun id=> !yi l0 l id)=((s.take k).map Prod.fst).filter (fun id=> !yi l0 l id)++[x.1]:=by rw [htk];simp [hs]
     rw [hs] at h1
     apply qd []
     repeat' (first|apply And.intro|(intro h;try exact cDd)|(refine Exists.intro (k) ⟨by omega,_,hxm,?_⟩)|exact⟨Tryz.call60⟩|refine cpe h1 ?_|(refine q1n (ys:=[Iv x.1]) rfl rfl rfl rfl rfl rfl rfl rfl (by rw [List.length_map];simp only [List.length_cons,List.length_nil];omega) rfl ?_)|(refine Exists.intro (k+1) ⟨by omega,by omega,?_⟩)|exact cSd|apply qb []|refine exr ?_|refine qj ?_)
     all_goals first|rfl|(rw [e1];simp;done)|(simp;omega)
   ·have hkn:k=s.length:=by omega
    subst hkn
    rw [List.take_length]
    have hfl:((s.map Prod.fst).filter fun id=> !yi l0 l id).length≤s.length:=by
     have:=List.length_filter_le (fun id=> !yi l0 l id) (s.map Prod.fst)
     rw [List.length_map] at this
     omega
    generalize (s.map Prod.fst).filter (fun id=> !yi l0 l id)=ns at *
    apply qd []
    repeat' (first|apply And.intro|(intro h;try exact cDd)|exact⟨Tryz.call61⟩|(refine Exists.intro _ ⟨q9y Tryz.slices_Sort_int Tryz.slices_Sort_int_none rfl (by omega),?_⟩)|exact cSd|apply qb []|refine exr ?_|refine qj ?_)
def qhh:List qq:=[⟨3,1,[([66],[50])]⟩]
theorem q2i (st:List AObj):ql E 11 [] st fun r st'=>r=Bv true∧st'=st:=by
 have hap:=fun st=>zb0 qi5 qhh st (by decide) (by simp [qhh];exact⟨by simp [KeyB],by simp,by simp,by simp⟩) (by decide)
 have h1:(Go.Pl.appF qi5 qhh).1 = .no:=by decide +kernel
 have h2:(qbw (Go.Pl.appF qi5 qhh).2).1 = .no:=by decide +kernel
 have h3:(qbw (Go.Pl.appF qi5 qhh).2).2=[35,37,103,101,110,32,49,10,10,65,58,32,49,10,10,66,58,32,50,10]:=by decide +kernel
 have h5:(Go.Pl.appF qi5 qhh).2.length<1000000:=by decide +kernel
 rw [h1] at hap
 have hfr:=fun st=>qve (Go.Pl.appF qi5 qhh).2 st h5
 rw [h2,h3] at hfr
 clear h1 h2 h3
 generalize (Go.Pl.appF qi5 qhh).2=s at hap hfr
 refine z4 [] (qu _) Tryz.func11 rfl rfl (fun _=>rfl) rfl fun S0=>?_
 apply qd []
 repeat' (first|apply And.intro|(intro h;try exact cDd)|exact⟨Tryz.call53⟩|refine cpe hap ?_|exact⟨Tryz.call12⟩|refine cpe hfr ?_|exact cSd|apply qb []|refine exr ?_|refine qj ?_)
 all_goals (simp;done)
end Go.Proofs.YtneejjefekdgjaaGreatDoor
namespace Go.Pl
open Go Go.Proofs Go.Proofs.YtneejjefekdgjaaGreatDoor
structure qyw (s:qa) (n:Int) (l:qs):Prop where
 len:s.length≤60000
 gen:jn n
 book:ja s=(.no,⟨n,jj l,[],[],[]⟩)
 take:xa s=(n,jj l)
 rtext:zg s=(.no,⟨n,jj l,[],[],[]⟩,ofF (zn (jj l)).2)
 parse:ve s = .no
 items:itsE s=⟨2,genL++Lib.itoa n++[10],[]⟩::⟨1,[10],[]⟩::wg (zk l)
 recs:Go.Proofs.YtneejjefekdgjaaGreatDoor.recsF (itsE s)=(stzF l.ents).map Prod.snd
theorem q7h {n:Int} (h:jn n):(kc n).length<100:=by
 unfold jn at h
 have:=qeg n.toNat (by omega)
 rw [Int.toNat_of_nonneg (by omega)] at this
 simp [kc,genL]
 omega
theorem q3t {l:qs} {n:Int} (h:GL l) (hg:jn n) (hl:(jj l).length≤20000):qyw (kc n++jj l) n l:=by
 have hlen:(kc n++jj l).length≤60000:=by
  have:=q7h hg
  simp
  omega
 have hB:=qpz (qn4 h hg (by omega)) (by unfold jn at hg;omega) (by omega)
 have hp:=qx8 h hg
 have hpe:ve (kc n++jj l) = .no:=by
  unfold ve
  rw [if_neg (by omega),hp]
 have hit:itsE (kc n++jj l)=⟨2,genL++Lib.itoa n++[10],[]⟩::⟨1,[10],[]⟩::wg (zk l):=by rw [(qij hpe).2.2,hp]
 refine⟨hlen,hg,qy5 hB,?_,q08 h hg (by omega),hpe,hit,?_⟩
 ·have:=hB.gen
  simpa [ke] using this
 ·rw [hit,q8p h]
  have h1:=qj1 (zk l) false
  unfold recI at h1
  unfold Go.Proofs.YtneejjefekdgjaaGreatDoor.recsF wg
  rw [List.filter_cons_of_neg (by simp),List.filter_cons_of_neg (by simp),h1]
theorem q66 {text:qa} (hl:text.length≤5000) (h:(zg text).1 = .no) (hf:(qbw text).1 = .no):∃ n,n=(zg text).2.1.gen+1∧GL (zg text).2.2∧(qbw text).2=kc n++jj (zg text).2.2∧qyw (qbw text).2 n (zg text).2.2:=by
 obtain⟨h1,h2,h3⟩:=qem h
 have hw:=zbd h
 rw [q3r,if_pos h] at hf ⊢
 by_cases hm:(zg text).2.1.gen=2147483648
 ·rw [if_pos hm] at hf
  simp at hf
 ·rw [if_neg hm] at hf ⊢
  rw [if_neg (by omega:¬ 60000<(jj (zg text).2.2).length)]
  have hg:=qp1 h3 (by unfold jn at h3;omega)
  exact⟨_,rfl,h2,rfl,q3t h2 hg (by omega)⟩
end Go.Pl
namespace Go.Proofs.YtneejjefekdgjaaGreatDoor
open Go Go.Av Go.RowKit Go.Proofs Go.Pl
@[reducible] def inH (ns : List Int) : List (Nat × Option SR) := [(0, some (.cells 32 [.a (qbn ns)]))]
theorem q8w (n:Int) (ns:List Int) (hl:ns.length<1000000):kr E 31 [.i n,.bx 0 0] 1 (hpF (inH ns)) ⟨.b (decide (n∈ns)),vb (inH ns),inH ns++vl (inH ns),1⟩:=by
 refine wr [.i n,.bx 0 0] (inH ns) 1 (.b (decide (n∈ns))) (inH ns) 1 Tryz.func31 rfl rfl rfl rfl fun S F ρ=>?_
 have hml:(ns.map fun n=>Iv n).length=ns.length:=by simp
 apply qd []
 repeat' (first|apply And.intro|(intro h;try exact cDd)|exact cSd|apply qb []|refine exr ?_|refine qj ?_)
 refine wm (X:=Nat) (fun k=>⟨[(0,.i n),(6,.a (qbn ns)),(7,.i ns.length),(8,.i k)],inH ns,1⟩) (fun k=>k≤ns.length∧decide (n∈ns.drop k)=decide (n∈ns)) (fun k=>ns.length - k) 0 ⟨by omega,by simp⟩ ?_ ?_
 ·skip
  repeat' (first|apply And.intro|(intro h;try exact cDd)|exact cSd|apply qb []|refine exr ?_|refine qj ?_)
  all_goals first|rfl|(simp;done)
 ·rintro k ⟨hk,hrun⟩
  by_cases hkn:k<ns.length
  ·have hx:ns[k]? = some ns[k]:=List.getElem?_eq_getElem hkn
   have hxm:(ns.map fun n=>Iv n)[k]? = some (Iv ns[k]):=by rw [List.getElem?_map,hx];rfl
   rw [List.drop_eq_getElem_cons hkn] at hrun
   generalize ns[k]=m at hx hxm hrun
   by_cases he:m=n
   ·rw [decide_eq_true (by simp [he])] at hrun
    rw [← hrun]
    apply qd []
    repeat' (first|apply And.intro|(intro h;try exact cDd)|(refine Exists.intro (k) ⟨by omega,_,hxm,?_⟩)|exact cSd|apply qb []|refine exr ?_|refine qj ?_)
   ·have e:decide (n∈ns.drop (k+1))=decide (n∈ns):=by
     rw [← hrun]
     have:(n∈m::ns.drop (k+1))↔n∈ns.drop (k+1):=by simp [show ¬ n=m from fun h=>he h.symm]
     simp only [this]
    apply qd []
    repeat' (first|apply And.intro|(intro h;try exact cDd)|(refine Exists.intro (k) ⟨by omega,_,hxm,?_⟩)|(refine Exists.intro (k+1) ⟨⟨by omega,e⟩,by omega,?_⟩)|exact cSd|apply qb []|refine exr ?_|refine qj ?_)
  ·have hkn:k=ns.length:=by omega
   subst hkn
   rw [List.drop_length,decide_eq_false (by simp)] at hrun
   rw [← hrun]
   apply qd []
   repeat' (first|apply And.intro|(intro h;try exact cDd)|exact cSd|apply qb []|refine exr ?_|refine qj ?_)
theorem q8g {text:qa} (h:(zg text).1 = .no):GN (zg text).2.2:=by
 unfold zg at h ⊢
 split
 ·rename_i hb
  rw [if_pos hb] at h
  split
  ·exact q7y _ _
  ·rename_i hp
   rw [if_neg hp] at h
   exact absurd h hp
 ·rename_i hb
  rw [if_neg hb] at h
  exact absurd h hb
theorem q5s {text:qa} (h:(zg text).1 = .no):∀ x∈stzF (zg text).2.2.ents,decide (x.1∈qhc text) = !yi (ofF (itsE (zg text).2.1.base)) (zg text).2.2 x.1:=by
 intro x hx
 unfold qhc
 rw [if_pos h]
 have h1:(x.1∈qak (ql4 (ofF (itsE (zg text).2.1.base)) (zg text).2.2))↔yi (ofF (itsE (zg text).2.1.base)) (zg text).2.2 x.1=false:=by
  rw [(qq0 _).mem_iff]
  unfold ql4
  rw [List.mem_filter]
  constructor
  ·intro h;simpa using h.2
  ·intro h;exact⟨List.mem_map.2 ⟨x,hx,rfl⟩,by simpa using h⟩
 simp only [h1]
 cases yi (ofF (itsE (zg text).2.1.base)) (zg text).2.2 x.1 <;> rfl
theorem q2a (text:qa):(qhc text).length<1000000:=by
 unfold qhc
 split
 ·rw [qff]
  unfold ql4
  have h1:=List.length_filter_le (fun id=> !yi (ofF (itsE (zg text).2.1.base)) (zg text).2.2 id) ((stzF (zg text).2.2.ents).map Prod.fst)
  have h2:=qop (zg text).2.2.ents
  have h3:=(qd3 text).1.len
  rw [List.length_map] at h1
  omega
 ·simp
set_option maxHeartbeats 4000000 in
theorem qrm (text:qa) (st:List AObj):ql E 5 [Sv text] st fun r st'=>r=Bv true∧st'=st:=by
 refine z4 [.s text] (qu _) Tryz.func5 rfl rfl (fun _=>rfl) rfl fun S0=>?_
 have hal:=q2i
 by_cases h5:5000<text.length
 ·apply qd []
  repeat' (first|apply And.intro|(intro h;try exact cDd)|exact⟨Tryz.call11⟩|refine cpe hal ?_|exact cSd|apply qb []|refine exr ?_|refine qj ?_)
 have hrt:=fun st=>qmn text st (by omega)
 have hfr:=fun st=>qve text st (by omega)
 have hto:=fun st=>q0s text st (by omega)
 have hok:=@q66 text (by omega)
 have hok2:=@qem text
 have hgn:=@q8g text
 have hth:=@q5s text
 have htl:=q2a text
 obtain⟨hB,hI⟩:=qd3 text
 unfold qiz at hrt
 generalize qhc text=ts at *
 generalize qbw text=p at *
 generalize zg text=q at *
 obtain⟨e,b,l⟩:=q
 obtain⟨e2,s⟩:=p
 dsimp only at *
 cases e with
 |num n=>
  cases e2
  all_goals
   apply qd []
   repeat' (first|apply And.intro|(intro h;try exact cDd)|exact⟨Tryz.call11⟩|refine cpe hal ?_|exact⟨Tryz.call21⟩|refine cpe hrt ?_|exact⟨Tryz.call12⟩|refine cpe hfr ?_|exact⟨Tryz.call18⟩|refine cpe hto ?_|exact cSd|apply qb []|refine exr ?_|refine qj ?_)
 |at' a n=>
  cases e2
  all_goals
   apply qd []
   repeat' (first|apply And.intro|(intro h;try exact cDd)|exact⟨Tryz.call11⟩|refine cpe hal ?_|exact⟨Tryz.call21⟩|refine cpe hrt ?_|exact⟨Tryz.call12⟩|refine cpe hfr ?_|exact⟨Tryz.call18⟩|refine cpe hto ?_|exact cSd|apply qb []|refine exr ?_|refine qj ?_)
 |no=>
 cases e2 with
 |num n=>
  apply qd []
  repeat' (first|apply And.intro|(intro h;try exact cDd)|exact⟨Tryz.call11⟩|refine cpe hal ?_|exact⟨Tryz.call21⟩|refine cpe hrt ?_|exact⟨Tryz.call12⟩|refine cpe hfr ?_|exact⟨Tryz.call18⟩|refine cpe hto ?_|exact cSd|apply qb []|refine exr ?_|refine qj ?_)
 |at' a n=>
  apply qd []
  repeat' (first|apply And.intro|(intro h;try exact cDd)|exact⟨Tryz.call11⟩|refine cpe hal ?_|exact⟨Tryz.call21⟩|refine cpe hrt ?_|exact⟨Tryz.call12⟩|refine cpe hfr ?_|exact⟨Tryz.call18⟩|refine cpe hto ?_|exact cSd|apply qb []|refine exr ?_|refine qj ?_)
 |no=>
 obtain⟨n,hn,hG,hs,hF⟩:=hok rfl rfl
 have hN:=hgn rfl
 have hth:=hth rfl
 obtain⟨hT,_,_⟩:=hok2 rfl
 have hll:=hB.len
 have hsl:=hF.len
 have hl0:=(qqj b.base).len
 have hr2:=fun st=>qmn s st (by omega)
 rw [hF.rtext] at hr2
 replace hr2:∀ st,ql E 21 [Sv s] st fun r st'=>r = .tu [qb8 ⟨n,jj l,[],[],[]⟩,jx (ofF (zn (jj l)).2),errA .no]∧st'=st:=hr2
 have hbh:=fun st=>qlu b 0 st (qjc hT)
 rw [qkx hT.parse] at hbh
 replace hbh:∀ st,ql E 30 [qb8 b,Iv 0] st fun r st'=>r = .tu [jx (ofF (itsE b.base)),errA .no]∧st'=st:=hbh
 have hst:=fun st=>qqc l st (by omega) fun e he=>by have:=(hI e he).2;omega
 have hml:(ofF (zn (jj l)).2).ents.length<1000000:=by
  have h1:=(qd3 s).1.len
  rw [hF.rtext] at h1
  dsimp only at h1
  omega
 have hw1:=fun id st=>quk (ofF (zn (jj l)).2) id st hml
 have hw0:=fun id st=>quk (ofF (itsE b.base)) id st (by omega)
 have hra:=fun i x (hx:(stzF l.ents)[i]? = some x)=>q40 hG hN hx
 have hrb:=fun i x (hx:(stzF l.ents)[i]? = some x)=>q4z hG hN hx
 have hzl:=qop l.ents
 have ht1:=fun n=>q8w n ts htl
 clear hok hok2 hgn hF hB hI
 generalize ofF (zn (jj l)).2=m at *
 generalize ofF (itsE b.base)=l0 at *
 generalize stzF l.ents=z at *
 have hmz:(z.map stzA).length=z.length:=by simp
 apply qd []
 repeat' (first|apply And.intro|(intro h;try exact cDd)|exact⟨Tryz.call11⟩|refine cpe hal ?_|exact⟨Tryz.call21⟩|refine cpe hrt ?_|exact⟨Tryz.call12⟩|refine cpe hfr ?_|exact⟨Tryz.call18⟩|refine cpe hto ?_|exact⟨Tryz.call21⟩|refine cpe hr2 ?_|exact⟨Tryz.call30⟩|refine cpe hbh ?_|exact⟨Tryz.call25⟩|refine cpe hst ?_|exact cSd|apply qb []|refine exr ?_|refine qj ?_)
 refine wm (X:=Nat) (fun k=>⟨[(11,.a (jx m)),(12,.a (jx l0)),(13,.fn (.func 31) [] [.bx 0 0]),(75,.a (qum z)),(76,.i z.length),(77,.i k)],inH ts,1⟩) (fun k=>k≤z.length) (fun k=>z.length - k) 0 (by omega) ?_ ?_
 ·skip
  repeat' (first|apply And.intro|(intro h;try exact cDd)|exact cSd|apply qb []|refine exr ?_|refine qj ?_)
  all_goals first|rfl|(simp;done)
 ·rintro k hk
  by_cases hkn:k<z.length
  ·have hx:z[k]? = some z[k]:=List.getElem?_eq_getElem hkn
   have hxm:(z.map stzA)[k]? = some (stzA z[k]):=by rw [List.getElem?_map,hx];rfl
   have h1:=hra k _ hx
   obtain⟨y,_,h2⟩:=hrb k _ hx
   have h3:=hth _ (List.getElem_mem hkn)
   generalize z[k]=x at hx hxm h1 h2 h3
   have c1:=hw1 ((k:Int)+1)
   have c0:=hw0 x.1
   have ct:=ht1 x.1
   unfold yi at h3
   rw [h1,h2] at c1
   rw [h2] at h3
   rw [h3] at ct
   generalize rawF l0 x.1=w at *
   obtain⟨w,is⟩:=w
   dsimp only at c0 c1 ct
   by_cases hwy:w=y.raw
   ·rw [decide_eq_true hwy] at ct
    have hyw:y.raw=w:=hwy.symm
    cases is
    all_goals
     simp only [Bool.and_true,Bool.true_and,Bool.false_and,Bool.not_true,Bool.not_false] at ct
     apply qd []
     repeat' (first|apply And.intro|(intro h;try exact cDd)|(refine Exists.intro (k) ⟨by omega,_,hxm,?_⟩)|exact⟨Tryz.call32⟩|refine cpe c1 ?_|exact⟨Tryz.call32⟩|refine cpe c0 ?_|exact⟨Tryz.call31⟩|(refine z6 ct ?_)|exact absurd hyw (by assumption)|(refine Exists.intro (k+1) ⟨by omega,by omega,?_⟩)|exact cSd|apply qb []|refine exr ?_|refine qj ?_)
     all_goals first|rfl|(simp;done)
   ·rw [decide_eq_false hwy] at ct
    have hyw:¬ y.raw=w:=fun h=>hwy h.symm
    cases is
    all_goals
     simp only [Bool.and_true,Bool.and_false,Bool.true_and,Bool.false_and,Bool.not_true,Bool.not_false] at ct
     apply qd []
     repeat' (first|apply And.intro|(intro h;try exact cDd)|(refine Exists.intro (k) ⟨by omega,_,hxm,?_⟩)|exact⟨Tryz.call32⟩|refine cpe c1 ?_|exact⟨Tryz.call32⟩|refine cpe c0 ?_|exact⟨Tryz.call31⟩|(refine z6 ct ?_)|exact absurd (by assumption) hyw|exact absurd hyw (by assumption)|(refine Exists.intro (k+1) ⟨by omega,by omega,?_⟩)|exact cSd|apply qb []|refine exr ?_|refine qj ?_)
     all_goals first|rfl|(simp;done)
  ·have hkn:k=z.length:=by omega
   subst hkn
   apply qd []
   repeat' (first|apply And.intro|(intro h;try exact cDd)|exact cSd|apply qb []|refine exr ?_|refine qj ?_)
theorem qrl (text:qa) (st:List AObj):ql E 5 [Sv text] st fun r st'=>r=Bv true∧st'=st:=qrm text st
end Go.Proofs.YtneejjefekdgjaaGreatDoor
