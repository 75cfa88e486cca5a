/- Contracts and plain facts that the closing text leans on (part 6). No condition of their own beyond those that each states. -/
import Derived.Test.YtneejjefekdgjaaGreatDoorK5
import Derived.LaidEql
import Derived.Stop.Asserts
import Derived.RowKitTokens
import Derived.Lib.IfaceEq
import Derived.Laws.StructEq
set_option maxRecDepth 100000
set_option linter.unusedVariables false
set_option linter.unusedSimpArgs false
namespace Go.Pl
open Go Go.Proofs
def wz (p:PSt):PSt:=
 if p.block=[] then { p with block:=[],fields:=[] }
 else { p with items:=p.items++[⟨if p.fields=[] then 2 else 3,q9 p.block,p.fields⟩],records:=if p.fields=[] then p.records else p.records+1,block:=[],fields:=[] }
def endP (p:PSt):Option (Int×Int)×PSt:=match (jc p).1 with
 |some e=>(some e,p)
 |none=>(none,wz (jc p).2)
theorem qlg:∀ (x:qa) (r:List qa),Lib.join (x::r) [10]++[10]=q9 (x::r)
 |x,[]=>by rw [Lib.join_one];simp [q9]
 |x,y::r=>by
  have ih:=qlg y r
  rw [Lib.join_cons] at ih ⊢
  unfold Lib.joinTail at ih ⊢
  simp only [List.map_cons,List.flatten_cons,q9,List.flatMap_cons] at ih ⊢
  rw [← ih]
  simp
theorem qj7:∀ (r:List qa),(∀ s∈r,s.length<1000000)→(q9 r).length≤1000001 * r.length
 | [],_=>by simp [q9]
 |a::r,h=>by
  have ih:=qj7 r fun s hs=>h s (by simp [hs])
  have ha:=h a (by simp)
  simp only [q9,List.flatMap_cons,List.length_append,List.length_cons,List.length_nil] at ih ⊢
  omega
end Go.Pl
namespace Go.Proofs.YtneejjefekdgjaaGreatDoor
open Go Go.Av Go.RowKit Go.Proofs Go.Pl
theorem qe9 {n:Nat} {p:PSt} (h:PB n p) (hs:n+1<900000):PB (n+1) (jc p).2:=by
 have h1:=h.lines;have h2:=h.items;have h3:=h.block;have h4:=h.fields;have h5:=h.rec0;have h6:=h.rec1
 unfold jc
 split
 ·exact⟨hs,by simp only;omega,h.linesV,by simp only;omega,by simp only;omega,h.blockV,by simp only;omega,h5,by simp only;omega⟩
 ·split
  ·exact⟨hs,by simp only;omega,h.linesV,by simp only;omega,by simp only;omega,h.blockV,by simp only;omega,h5,by simp only;omega⟩
  ·split
   ·exact⟨hs,by simp only;omega,h.linesV,by simp only;omega,by simp only;omega,h.blockV,by simp only;omega,h5,by simp only;omega⟩
   ·exact⟨hs,by simp,by simp,by simp only;omega,by simp only;omega,h.blockV,by simp;omega,h5,by simp only;omega⟩
theorem zan (xs:List qa) (tip:Option Nat) (st:List AObj) (hne:xs≠[]) (hN:xs.length≤900000) (hv:∀ s∈xs,s.length<1000000):ql E 127 [.sl 1 (xs.map fun x=>Sv x) tip,Sv [10]] st fun r st'=>r=Sv (Lib.join xs [10])∧st'=st:=by
 refine q36 xs tip [10] st (by omega) ?_
 have h1:=qj7 xs hv
 cases xs with
 |nil=>exact absurd rfl hne
 |cons x r=>
  have h2:=congrArg List.length (qlg x r)
  rw [List.length_append] at h2
  simp only [List.length_cons,List.length_nil] at h2 h1 hN
  omega
def parH (a:Nat) (p:PSt):List (Nat×Option SR):=[(0,some (.cells 140 [.tp a,.i p.frm,.b p.full,.tp (a+1),.tp (a+2),.tp (a+3),.i p.records])),(a,some (.tip 1 9 (p.lines.map fun x=>Sv x))),(a+1,some (.tip 3 52 (p.items.map vh))),(a+2,some (.tip 1 9 (p.block.map fun x=>Sv x))),(a+3,some (.tip 2 111 (p.fields.map fldA)))]
theorem qn3 (n:Nat) (p:PSt) (hB:PB n p):kr E 126 [.bx 0 0] 5 (hpF (parH 1 p)) ⟨.a (errP (jc p).1),vb (parH 1 p),parH 5 (jc p).2++vl (parH 1 p),9⟩:=by
 refine wr [.bx 0 0] (parH 1 p) 5 (.a (errP (jc p).1)) (parH 5 (jc p).2) 9 Tryz.func126 rfl rfl rfl rfl fun S F ρ=>?_
 have hls:=hB.ls
 have hsm:=hB.small
 have hfl:=hB.fields
 by_cases h0:p.lines=[]
 ·have e:jc p=(none,p):=by unfold jc;rw [if_pos h0]
  rw [e]
  have hl0:(p.lines.map fun x=>Sv x).length=0:=by simp [h0]
  apply qd []
  repeat' (first|apply And.intro|(intro h;try exact cDd)|exact cSd|apply qb []|refine exr ?_|refine qj ?_)
 ·have hl0:(p.lines.map fun x=>Sv x).length≠0:=by simp [h0]
  by_cases hu:(jh p.lines).2=0
  ·have hun:=fun st=>q2b p.lines none st hls hu
   cases hf:p.full with
   |true=>
    have e:jc p=(some (p.frm,11),p):=by unfold jc;rw [if_neg h0,if_neg (by simp [hu]),if_pos hf]
    rw [e]
    have hft:=fun st=>qjw p.frm 11 st
    apply qd []
    repeat' (first|apply And.intro|(intro h;try exact cDd)|exact⟨Tryz.call210⟩|refine cpe hun ?_|exact⟨Tryz.call124⟩|refine cpe hft ?_|(exact absurd (by assumption:p.full=false) (by rw [hf];decide))|exact cSd|apply qb []|refine exr ?_|refine qj ?_)
   |false=>
    have e:jc p=(none,{ p with lines:=[],fields:=p.fields++[(jh p.lines).1] }):=by unfold jc;rw [if_neg h0,if_neg (by simp [hu]),if_neg (by simp [hf])]
    rw [e]
    apply qd [51]
    repeat' (first|apply And.intro|(intro h;try exact cDd)|exact⟨Tryz.call210⟩|refine cpe hun ?_|(exact absurd (by assumption:p.full=true) (by rw [hf];decide))|exact cSd|apply qb [51]|refine exr ?_|refine qj ?_)
    all_goals first|(simp [SV.evs,SV.ev];done)|(simp [SV.evs];omega)
  ·have hun:=fun st=>q2c p.lines none st hls hu
   have e:jc p=(some (p.frm,(jh p.lines).2),p):=by unfold jc;rw [if_neg h0,if_pos hu]
   rw [e]
   have hft:=fun st=>qjw p.frm (jh p.lines).2 st
   apply qd []
   repeat' (first|apply And.intro|(intro h;try exact cDd)|exact⟨Tryz.call210⟩|refine cpe hun ?_|exact⟨Tryz.call124⟩|refine cpe hft ?_|exact cSd|apply qb []|refine exr ?_|refine qj ?_)
theorem qzo (n:Nat) (p:PSt) (hB:PB n p) (hs:n+1<900000):kr E 69 [.bx 0 0] 5 (hpF (parH 1 p)) ⟨.a (errP (endP p).1),vb (parH 1 p),parH 5 (endP p).2++vl (parH 1 p),9⟩:=by
 refine wr [.bx 0 0] (parH 1 p) 5 (.a (errP (endP p).1)) (parH 5 (endP p).2) 9 Tryz.func69 rfl rfl rfl rfl fun S F ρ=>?_
 have hfc:=qn3 n p hB
 have hB2:=qe9 hB hs
 have hsame:∀ e,(jc p).1=some e→(jc p).2=p:=fun e=>by
  unfold jc
  split
  ·simp
  ·split
   ·simp
   ·split
    ·simp
    ·simp
 unfold endP
 generalize jc p=fq at hfc hB2 hsame
 obtain⟨fe,q⟩:=fq
 cases fe with
 |some e=>
  obtain rfl:=hsame e rfl
  obtain⟨a,k⟩:=e
  apply qd []
  repeat' (first|apply And.intro|(intro h;try exact cDd)|exact⟨Tryz.call126⟩|(refine z6 hfc ?_)|exact cSd|apply qb []|refine exr ?_|refine qj ?_)
 |none=>
  dsimp only at hB2 hfc
  have h3:=hB2.fields
  have h4:=hB2.rec0
  have h5:=hB2.rec1
  have h1:=hB2.block
  have h2:=hB2.items
  by_cases hb:q.block=[]
  ·have e:wz q={ q with block:=[],fields:=[] }:=by unfold wz;rw [if_pos hb]
   simp only [e]
   have hl0:(q.block.map fun x=>Sv x).length=0:=by simp [hb]
   apply qd []
   repeat' (first|apply And.intro|(intro h;try exact cDd)|exact⟨Tryz.call126⟩|(refine z6 hfc ?_)|exact cSd|apply qb []|refine exr ?_|refine qj ?_)
  ·have hl0:(q.block.map fun x=>Sv x).length≠0:=by simp [hb]
   have hbl:=qj7 q.block hB2.blockV
   obtain⟨b,r,hbr⟩:∃ b r,q.block=b::r:=by
    cases hq:q.block with
    |nil=>exact absurd hq hb
    |cons b r=>exact⟨b,r,rfl⟩
   have hjt:=qlg b r
   rw [← hbr] at hjt
   have hjl:=congrArg List.length hjt
   simp only [List.length_append,List.length_cons,List.length_nil] at hjl
   have hjo:=fun st=>zan q.block none st hb (by omega) hB2.blockV
   by_cases hf:q.fields=[]
   ·have e:wz q={ q with items:=q.items++[⟨2,q9 q.block,q.fields⟩],records:=q.records,block:=[],fields:=[] }:=by unfold wz;rw [if_neg hb,if_pos hf,if_pos hf]
    simp only [e]
    have hl1:(q.fields.map fldA).length=0:=by simp [hf]
    apply qd []
    repeat' (first|apply And.intro|(intro h;try exact cDd)|exact⟨Tryz.call126⟩|(refine z6 hfc ?_)|exact⟨Tryz.call127⟩|refine cpe hjo ?_|exact cSd|apply qb []|refine exr ?_|refine qj ?_)
    all_goals first|(simp [SV.evs,SV.ev,hjt];done)|(simp [SV.evs];omega)
   ·have e:wz q={ q with items:=q.items++[⟨3,q9 q.block,q.fields⟩],records:=q.records+1,block:=[],fields:=[] }:=by unfold wz;rw [if_neg hb,if_neg hf,if_neg hf]
    simp only [e]
    have hl1:(q.fields.map fldA).length≠0:=by simp [hf]
    apply qd []
    repeat' (first|apply And.intro|(intro h;try exact cDd)|exact⟨Tryz.call126⟩|(refine z6 hfc ?_)|exact⟨Tryz.call127⟩|refine cpe hjo ?_|exact cSd|apply qb []|refine exr ?_|refine qj ?_)
    all_goals first|(simp [SV.evs,SV.ev,hjt];done)|(simp [SV.evs];omega)
end Go.Proofs.YtneejjefekdgjaaGreatDoor
namespace Go.Pl
open Go Go.Proofs
def jy (p:PSt) (no:Int) (text:qa):PSt:={ p with lines:=[text],frm:=no,full:=decide (p.fields.length=40∨(p.fields.length=0∧p.records=400)) }
def z0 (p:PSt) (no:Int) (text:qa) (ended:Bool) (kind:Int):Option (Int×Int)×PSt:=
 if kind=3 then
  if p.lines=[] then (some (no,2),p)
  else if ended=true then (none,{ p with lines:=p.lines++[text] })
  else jc { p with lines:=p.lines++[text] }
 else if kind=1 then endP p
 else jc p
def vt (p:PSt) (no:Int) (text:qa) (ended:Bool):Option (Int×Int)×PSt:=
 match (z0 p no text ended (qr text)).1 with
 |some e=>(some e,p)
 |none=>
  if qr text=5∨ended=false then (some (no,2),p)
  else if qr text=1 then (none,{ (z0 p no text ended (qr text)).2 with items:=(z0 p no text ended (qr text)).2.items++[⟨1,text++[10],[]⟩] })
  else if qr text=4 then (none,{ jy (z0 p no text ended (qr text)).2 no text with block:=(z0 p no text ended (qr text)).2.block++[text] })
  else (none,{ (z0 p no text ended (qr text)).2 with block:=(z0 p no text ended (qr text)).2.block++[text] })
end Go.Pl
namespace Go.Proofs.YtneejjefekdgjaaGreatDoor
open Go Go.Av Go.RowKit Go.Proofs Go.Pl
theorem PB.more {n m:Nat} {p:PSt} (h:PB n p) (hm:n≤m) (hs:m<900000):PB m p:=by
 have h1:=h.lines;have h2:=h.items;have h3:=h.block;have h4:=h.fields;have h5:=h.rec0;have h6:=h.rec1
 exact⟨hs,by omega,h.linesV,by omega,by omega,h.blockV,by omega,h5,by omega⟩
theorem q26 {n:Nat} {p:PSt} (h:PB n p) (hs:n+1<900000):PB (n+1) (wz p):=by
 have h1:=h.lines;have h2:=h.items;have h3:=h.block;have h4:=h.fields;have h5:=h.rec0;have h6:=h.rec1
 unfold wz
 split
 ·exact⟨hs,by simp only;omega,h.linesV,by simp only;omega,by simp,by simp,by simp,h5,by simp only;omega⟩
 ·refine⟨hs,by simp only;omega,h.linesV,by simp;omega,by simp,by simp,by simp,?_,?_⟩
  ·simp only;split <;> omega
  ·simp only;split <;> omega
theorem qoi {n:Nat} {p:PSt} {text:qa} (h:PB n p) (hs:n+1<900000) (ht:text.length<1000000):PB (n+1) { p with lines:=p.lines++[text] }:=by
 have h1:=h.lines;have h2:=h.items;have h3:=h.block;have h4:=h.fields;have h5:=h.rec0;have h6:=h.rec1
 exact⟨hs,by simp;omega,qoe h.linesV ht,by simp only;omega,by simp only;omega,h.blockV,by simp only;omega,h5,by simp only;omega⟩
theorem qwy {n:Nat} {p:PSt} {text:qa} (h:PB n p) (hs:n+1<900000) (ht:text.length<1000000):PB (n+1) { p with block:=p.block++[text] }:=by
 have h1:=h.lines;have h2:=h.items;have h3:=h.block;have h4:=h.fields;have h5:=h.rec0;have h6:=h.rec1
 exact⟨hs,by simp only;omega,h.linesV,by simp only;omega,by simp;omega,qoe h.blockV ht,by simp only;omega,h5,by simp only;omega⟩
theorem q7w {n:Nat} {p:PSt} {x:qt} (h:PB n p) (hs:n+1<900000):PB (n+1) { p with items:=p.items++[x] }:=by
 have h1:=h.lines;have h2:=h.items;have h3:=h.block;have h4:=h.fields;have h5:=h.rec0;have h6:=h.rec1
 exact⟨hs,by simp only;omega,h.linesV,by simp;omega,by simp only;omega,h.blockV,by simp only;omega,h5,by simp only;omega⟩
theorem q7v {n:Nat} {p:PSt} {no:Int} {text:qa} (h:PB n p) (hs:n+1<900000) (ht:text.length<1000000):PB (n+1) (jy p no text):=by
 have h1:=h.lines;have h2:=h.items;have h3:=h.block;have h4:=h.fields;have h5:=h.rec0;have h6:=h.rec1
 exact⟨hs,by simp [jy],by simp [jy,ht],by simp only [jy];omega,by simp only [jy];omega,h.blockV,by simp only [jy];omega,h5,by simp only [jy];omega⟩
theorem qhg {n:Nat} {p:PSt} {no:Int} {text:qa} {ended:Bool} {kind:Int} (h:PB n p) (hs:n+2<900000) (ht:text.length<1000000):PB (n+2) (z0 p no text ended kind).2:=by
 unfold z0
 split
 ·split
  ·exact h.more (by omega) hs
  ·split
   ·exact (qoi h (by omega) ht).more (by omega) hs
   ·exact qe9 (qoi h (by omega) ht) hs
 ·split
  ·unfold endP
   split
   ·exact h.more (by omega) hs
   ·exact q26 (qe9 h (by omega)) hs
  ·exact (qe9 h (by omega)).more (by omega) hs
theorem qp9 (l:qa):1≤qr l∧qr l≤5:=by
 unfold qr
 repeat' split
 all_goals decide
theorem qoq {n:Nat} {p:PSt} {no:Int} {text:qa} {ended:Bool} (h:PB n p) (hs:n+4<900000) (ht:text.length<1000000):PB (n+4) (vt p no text ended).2:=by
 have h2:PB (n+2) (z0 p no text ended (qr text)).2:=qhg h (by omega) ht
 unfold vt
 split
 ·exact h.more (by omega) hs
 ·split
  ·exact h.more (by omega) hs
  ·split
   ·exact (q7w h2 (by omega)).more (by omega) hs
   ·split
    ·exact qwy (q7v h2 (by omega) ht) hs ht
    ·exact (qwy h2 (by omega) ht).more (by omega) hs
theorem q4v (n:Nat) (p:PSt) (no at':Int) (text:qa) (ended:Bool) (hB:PB n p):kr E 125 [.bx 0 0,.ag [.i no,.i at',.s text,.b ended]] 5 (hpF (parH 1 p)) ⟨.tu [],vb (parH 1 p),parH 5 (jy p no text)++vl (parH 1 p),9⟩:=by
 refine wr [.bx 0 0,.ag [.i no,.i at',.s text,.b ended]] (parH 1 p) 5 (.tu []) (parH 5 (jy p no text)) 9 Tryz.func125 rfl rfl rfl rfl fun S F ρ=>?_
 obtain⟨ls,fr,fu,its,bk,fs,rc⟩:=p
 have hml:(fs.map fldA).length=fs.length:=by simp
 by_cases ha:fs.length=40∨(fs.length=0∧rc=400)
 ·have e:jy ⟨ls,fr,fu,its,bk,fs,rc⟩ no text=⟨[text],no,true,its,bk,fs,rc⟩:=by
   unfold jy
   simp only [decide_eq_true ha]
  rw [e]
  apply qd [29]
  repeat' (first|apply And.intro|(intro h;try exact cDd)|exact cSd|apply qb [29]|refine exr ?_|refine qj ?_)
  all_goals (intros;simp only [hml] at *;first|(exfalso;omega)|(have hrc:rc=400:=(by omega);subst hrc;rfl))
 ·have e:jy ⟨ls,fr,fu,its,bk,fs,rc⟩ no text=⟨[text],no,false,its,bk,fs,rc⟩:=by
   unfold jy
   simp only [decide_eq_false ha]
  rw [e]
  apply qd [29]
  repeat' (first|apply And.intro|(intro h;try exact cDd)|exact cSd|apply qb [29]|refine exr ?_|refine qj ?_)
  all_goals (intros;simp only [hml] at *;first|(exfalso;omega)|(have hrc:¬ rc=400:=(by omega);simp [SV.evs,SV.ev,SV.rens,SV.ren,lkS,vo,hrc];exact⟨rfl,rfl,rfl⟩))
theorem qtf (n:Nat) (p:PSt) (no at':Int) (text:qa) (ended:Bool) (kind:Int) (hB:PB n p) (hs:n+2<900000) (ht:text.length<1000000):kr E 123 [.bx 0 0,.ag [.i no,.i at',.s text,.b ended],.i kind] 5 (hpF (parH 1 p)) ⟨.a (errP (z0 p no text ended kind).1),vb (parH 1 p),parH 5 (z0 p no text ended kind).2++vl (parH 1 p),9⟩:=by
 refine wr [.bx 0 0,.ag [.i no,.i at',.s text,.b ended],.i kind] (parH 1 p) 5 (.a (errP (z0 p no text ended kind).1)) (parH 5 (z0 p no text ended kind).2) 9 Tryz.func123 rfl rfl rfl rfl fun S F ρ=>?_
 unfold z0
 by_cases hk3:kind=3
 ·rw [if_pos hk3]
  by_cases h0:p.lines=[]
  ·rw [if_pos h0]
   have hl0:(p.lines.map fun x=>Sv x).length=0:=by simp [h0]
   have hft:=fun st=>qjw no 2 st
   apply qd []
   repeat' (first|apply And.intro|(intro h;try exact cDd)|exact⟨Tryz.call124⟩|refine cpe hft ?_|exact cSd|apply qb []|refine exr ?_|refine qj ?_)
  ·rw [if_neg h0]
   have hl0:(p.lines.map fun x=>Sv x).length≠0:=by simp [h0]
   have hll:=hB.lines
   have hsm:=hB.small
   have hml:(p.lines.map fun x=>Sv x).length=p.lines.length:=by simp
   have hfc:=qn3 (n+1) { p with lines:=p.lines++[text] } (qoi hB (by omega) ht)
   cases ended with
   |true=>
    rw [if_pos rfl]
    apply qd []
    repeat' (first|apply And.intro|(intro h;try exact cDd)|(exact absurd (by assumption:true=false) (by decide))|exact cSd|apply qb []|refine exr ?_|refine qj ?_)
    all_goals first|(simp [SV.evs,SV.ev];done)|(simp [SV.evs];omega)
   |false=>
    rw [if_neg (by decide)]
    apply qd []
    repeat' (first|apply And.intro|(intro h;try exact cDd)|(exact absurd (by assumption:false=true) (by decide))|exact⟨Tryz.call126⟩|(refine z6 hfc ?_)|exact cSd|apply qb []|refine exr ?_|refine qj ?_)
    all_goals first|(simp [SV.evs,SV.ev];done)|(simp [SV.evs];omega)
 ·rw [if_neg hk3]
  by_cases hk1:kind=1
  ·rw [if_pos hk1]
   have hfc:=qzo n p hB (by omega)
   apply qd []
   repeat' (first|apply And.intro|(intro h;try exact cDd)|exact⟨Tryz.call69⟩|(refine z6 hfc ?_)|exact cSd|apply qb []|refine exr ?_|refine qj ?_)
  ·rw [if_neg hk1]
   have hfc:=qn3 n p hB
   apply qd []
   repeat' (first|apply And.intro|(intro h;try exact cDd)|exact⟨Tryz.call126⟩|(refine z6 hfc ?_)|exact cSd|apply qb []|refine exr ?_|refine qj ?_)
theorem q70 (n:Nat) (p:PSt) (no at':Int) (text:qa) (ended:Bool) (hB:PB n p) (hs:n+4<900000) (ht:text.length<1000000) (hok:(vt p no text ended).1=none):kr E 68 [.bx 0 0,.ag [.i no,.i at',.s text,.b ended]] 5 (hpF (parH 1 p)) ⟨.a (.v .nilIface),vb (parH 1 p),parH 5 (vt p no text ended).2++vl (parH 1 p),9⟩:=by
 refine wr [.bx 0 0,.ag [.i no,.i at',.s text,.b ended]] (parH 1 p) 5 (.a (.v .nilIface)) (parH 5 (vt p no text ended).2) 9 Tryz.func68 rfl rfl rfl rfl fun S F ρ=>?_
 have hfc:=qtf n p no at' text ended (qr text) hB (by omega) ht
 have hB1:=qhg (no:=no) (text:=text) (ended:=ended) (kind:=qr text) hB (by omega) ht
 have hkr:=qp9 text
 have hkd:=fun st=>qit text st (by omega)
 unfold vt at hok ⊢
 generalize z0 p no text ended (qr text)=fq at hfc hB1 hok ⊢
 obtain⟨fe,q⟩:=fq
 cases fe with
 |some e=>exact absurd hok (by simp)
 |none=>
  dsimp only at hB1 hfc hok ⊢
  have h1:=hB1.block
  have h2:=hB1.items
  have hmb:(q.block.map fun x=>Sv x).length=q.block.length:=by simp
  have hmi:(q.items.map vh).length=q.items.length:=by simp
  by_cases hk:qr text=5∨ended=false
  ·rw [if_pos hk] at hok
   exact absurd hok (by simp)
  ·rw [if_neg hk] at hok ⊢
   have hk5:qr text≠5:=fun h=>hk (.inl h)
   obtain rfl:ended=true:=by cases ended <;> simp_all
   by_cases hk1:qr text=1
   ·rw [if_pos hk1]
    apply qd []
    repeat' (first|apply And.intro|(intro h;try exact cDd)|exact⟨Tryz.call122⟩|refine cpe hkd ?_|exact⟨Tryz.call123⟩|(refine z6 hfc ?_)|(exact absurd (by assumption:true=false) (by decide))|exact cSd|apply qb []|refine exr ?_|refine qj ?_)
    all_goals first|(simp [SV.evs,SV.ev];done)|(simp [SV.evs];omega)
   ·rw [if_neg hk1]
    by_cases hk4:qr text=4
    ·rw [if_pos hk4]
     have hbc:=q4v (n+2) q no at' text true hB1
     apply qd []
     repeat' (first|apply And.intro|(intro h;try exact cDd)|exact⟨Tryz.call122⟩|refine cpe hkd ?_|exact⟨Tryz.call123⟩|(refine z6 hfc ?_)|exact⟨Tryz.call125⟩|(refine z6 hbc ?_)|(exact absurd (by assumption:true=false) (by decide))|exact cSd|apply qb []|refine exr ?_|refine qj ?_)
     all_goals first|(simp [SV.evs,SV.ev,jy];done)|(simp [SV.evs,jy];omega)
    ·rw [if_neg hk4]
     apply qd []
     repeat' (first|apply And.intro|(intro h;try exact cDd)|exact⟨Tryz.call122⟩|refine cpe hkd ?_|exact⟨Tryz.call123⟩|(refine z6 hfc ?_)|(exact absurd (by assumption:true=false) (by decide))|exact cSd|apply qb []|refine exr ?_|refine qj ?_)
     all_goals first|(simp [SV.evs,SV.ev];done)|(simp [SV.evs];omega)
theorem q71 (n:Nat) (p:PSt) (no at':Int) (text:qa) (ended:Bool) (hB:PB n p) (hs:n+4<900000) (ht:text.length<1000000) (a m:Int) (hok:(vt p no text ended).1=some (a,m)):kr E 68 [.bx 0 0,.ag [.i no,.i at',.s text,.b ended]] 5 (hpF (parH 1 p)) ⟨.a (qe7 a m),vb (parH 1 p),parH 5 (z0 p no text ended (qr text)).2++vl (parH 1 p),9⟩:=by
 refine wr [.bx 0 0,.ag [.i no,.i at',.s text,.b ended]] (parH 1 p) 5 (.a (qe7 a m)) (parH 5 (z0 p no text ended (qr text)).2) 9 Tryz.func68 rfl rfl rfl rfl fun S F ρ=>?_
 have hfc:=qtf n p no at' text ended (qr text) hB (by omega) ht
 have hB1:=qhg (no:=no) (text:=text) (ended:=ended) (kind:=qr text) hB (by omega) ht
 have hkr:=qp9 text
 have hkd:=fun st=>qit text st (by omega)
 unfold vt at hok
 generalize z0 p no text ended (qr text)=fq at hfc hB1 hok ⊢
 obtain⟨fe,q⟩:=fq
 cases fe with
 |some e=>
  dsimp only at hB1 hfc hok ⊢
  obtain rfl:e=(a,m):=by simpa using hok
  apply qd []
  repeat' (first|apply And.intro|(intro h;try exact cDd)|exact⟨Tryz.call122⟩|refine cpe hkd ?_|exact⟨Tryz.call123⟩|(refine z6 hfc ?_)|exact cSd|apply qb []|refine exr ?_|refine qj ?_)
 |none=>
  dsimp only at hB1 hfc hok ⊢
  by_cases hk:qr text=5∨ended=false
  ·rw [if_pos hk] at hok
   obtain⟨rfl,rfl⟩:no=a∧2=m:=by simpa using hok
   have hft:=fun st=>qjw no 2 st
   cases ended with
   |true=>
    have hk5:qr text=5:=by simpa using hk
    apply qd []
    repeat' (first|apply And.intro|(intro h;try exact cDd)|exact⟨Tryz.call122⟩|refine cpe hkd ?_|exact⟨Tryz.call124⟩|refine cpe hft ?_|exact⟨Tryz.call123⟩|(refine z6 hfc ?_)|(exact absurd (by assumption:true=false) (by decide))|exact cSd|apply qb []|refine exr ?_|refine qj ?_)
   |false=>
    apply qd []
    repeat' (first|apply And.intro|(intro h;try exact cDd)|exact⟨Tryz.call122⟩|refine cpe hkd ?_|exact⟨Tryz.call124⟩|refine cpe hft ?_|exact⟨Tryz.call123⟩|(refine z6 hfc ?_)|(exact absurd (by assumption:false=true) (by decide))|exact cSd|apply qb []|refine exr ?_|refine qj ?_)
  ·rw [if_neg hk] at hok
   split at hok
   ·simp at hok
   ·split at hok
    ·simp at hok
    ·simp at hok
end Go.Proofs.YtneejjefekdgjaaGreatDoor
namespace Go.Pl
open Go Go.Proofs
def p0:PSt:=⟨[],0,false,[],[],[],0⟩
def runL:Nat→List (qa×Bool)→PSt→Option (Int×Int)×PSt
 | _,[],p=>endP p
 |k,(t,e)::r,p=>match (vt p k t e).1 with
  |some x=>(some x,p)
  |none=>runL (k+1) r (vt p k t e).2
def zn (text:qa):Option (Int×Int)×List qt:=match (runL 0 (zb text) p0).1 with
 |some e=>(some e,[])
 |none=>(none,(runL 0 (zb text) p0).2.items)
end Go.Pl
namespace Go.Proofs.YtneejjefekdgjaaGreatDoor
open Go Go.Av Go.RowKit Go.Proofs Go.Pl
theorem q3m (x:Option (Int×Int)):Pure (errP x):=by
 rcases x with _ | ⟨a,n⟩
 ·exact qu _
 ·exact qid a n
theorem q06 (f:Fld):qi4 (fldA f):=fun x hx=>by
 simp only [AV.cells,List.mem_cons,List.not_mem_nil,or_false] at hx
 rcases hx with rfl|rfl <;> exact qu _
theorem qa3 (fs:List Fld):Pure (vm fs):=qbh fun x hx=>by
 obtain⟨f,_,rfl⟩:=List.mem_map.1 hx
 exact q06 f
theorem qie (x:qt):qi4 (vh x):=fun y hy=>by
 simp only [AV.cells,List.mem_cons,List.not_mem_nil,or_false] at hy
 rcases hy with rfl|rfl|rfl
 ·exact qu _
 ·exact qu _
 ·exact qa3 _
theorem qex (xs:List qt):Pure (wh xs):=qbh fun x hx=>by
 obtain⟨f,_,rfl⟩:=List.mem_map.1 hx
 exact qie f
theorem jq {x y:AV} (hx:Pure x) (hy:Pure y):Pure (.tu [x,y]):=qdm fun z hz=>by
 simp only [List.mem_cons,List.not_mem_nil,or_false] at hz
 rcases hz with rfl|rfl
 ·exact hx
 ·exact hy
def qb6 (text:qa):AV:=.tu [wh (zn text).2,errP (zn text).1]
theorem qyk (text:qa):Pure (qb6 text):=jq (qex _) (q3m _)
theorem qm7 {S:List AObj} {o k:Nat} {x:AObj} (h:k≠o):(S.set o x)[k]? = S[k]?:=List.getElem?_set_ne (Ne.symm h)
theorem quj:PB 0 p0:=⟨by omega,by simp [p0],by simp [p0],by simp [p0],by simp [p0],by simp [p0],by simp [p0],by simp [p0],by simp [p0]⟩
theorem qoo (text:qa) (st:List AObj) (hl:text.length≤60000):ql E 23 [Sv text] st fun r st'=>r=qb6 text∧st'=st:=by
 refine z4 [.s text] (qyk text) Tryz.func23 rfl rfl (fun _=>rfl) rfl fun S0=>?_
 apply qd [13]
 repeat' (first|apply And.intro|(intro h;try exact cDd)|exact⟨Tryz.call67⟩|(refine Exists.intro _ ⟨qj4 _,?_⟩)|exact cSd|apply qb [13]|refine exr ?_|refine qj ?_)
 refine qen (X:=PSt×Option (Int×Int)) text 4 5 [0,1,2,3,4] (fun (p,e)=>⟨[(2,.bx 0 0),(3,.bx 1 0),(4,.bx 2 0),(15,.fn (.func 121) [] [.bx 4 0])],
   [(0,some (.cells 47 [.a zl])),(1,some (.cells 24 [.a (errP e)])),(2,some (.cells 135 [.bx 3 0])),(3,some (.cells 140 [.tp 5,.i p.frm,.b p.full,.tp 6,.tp 7,.tp 8,.i p.records])),(4,some (.cells 9 [.s text])),
    (5,some (.tip 1 9 (p.lines.map fun x=>Sv x))),(6,some (.tip 3 52 (p.items.map vh))),(7,some (.tip 1 9 (p.block.map fun x=>Sv x))),(8,some (.tip 2 111 (p.fields.map fldA)))],9⟩) _
  (fun k rest (p,e)=>e=none∧PB (4 * k) p∧k+rest.length≤text.length∧runL 0 (zb text) p0=runL k (zb rest) p)
  (fun c (p,e)=>∃ a m,c = .ret∧e=some (a,m)∧(runL 0 (zb text) p0).1=some (a,m)) (p0,none) ⟨rfl,quj,by omega,rfl⟩ ?_ id (by omega) (fun _=>rfl) rfl (fun _=>rfl) (fun _=>rfl) rfl ?_ ?_ ?_
 ·skip
  repeat' (first|apply And.intro|(intro h;try exact cDd)|exact cSd|apply qb []|refine exr ?_|refine qj ?_)
 ·rintro k rest ⟨p,e⟩ ⟨rfl,hB,hkl,hrun⟩ hne hle
  have hcons:=vk hne
  have hu:=ki 10 rest
  have hpl:=jz 10 rest
  have hr0:0<rest.length:=List.length_pos_iff.2 hne
  rw [hcons] at hrun
  simp only [runL] at hrun
  unfold qjn
  generalize hen:decide (10∈rest)=en at hrun
  generalize upto 10 rest=up at hu hrun ⊢
  have hB2:=qoq (no:=k) (text:=up) (ended:=en) hB (by omega) (by omega)
  cases hah:(vt p k up en).1 with
  |some e=>
   obtain⟨a,m⟩:=e
   rw [hah] at hrun
   simp only at hrun
   have htk:=q71 (4 * k) p k ((text.length:Int) - rest.length) up en hB (by omega) (by omega) a m hah
   refine RA.mk fun S F ρ rd=>?_
   apply qd []
   repeat' (first|apply And.intro|(intro h;try exact cDd)|(refine RB.mk fun S rd=>?_;apply qd [])|exact⟨Tryz.call68⟩|(refine z6 htk ?_)|(refine Exists.intro ((z0 p k up en (qr up)).2,some (a,m)) ⟨⟨a,m,rfl,rfl,by rw [hrun]⟩,?_⟩)|exact cSd|apply qb []|refine exr ?_|refine qj ?_)
   all_goals (rw [← hen];rfl)
  |none=>
   rw [hah] at hrun
   simp only at hrun
   have htk:=q70 (4 * k) p k ((text.length:Int) - rest.length) up en hB (by omega) (by omega) hah
   refine RA.mk fun S F ρ rd=>?_
   apply qd []
   repeat' (first|apply And.intro|(intro h;try exact cDd)|(refine RB.mk fun S rd=>?_;apply qd [])|exact⟨Tryz.call68⟩|(refine z6 htk ?_)|(refine Exists.intro ((vt p k up en).2,none) ⟨⟨rfl,hB2,by omega,hrun⟩,?_⟩)|exact cSd|apply qb []|refine exr ?_|refine qj ?_)
   all_goals (rw [← hen];rfl)
 ·rintro k ⟨p,e⟩ ⟨rfl,hB,hkl,hrun⟩
  have hre:runL k (zb []) p=endP p:=by rw [kq];rfl
  rw [hre] at hrun
  have hpe:=qzo (4 * k) p hB (by omega)
  generalize endP p=fq at hrun hpe
  obtain⟨fe,q⟩:=fq
  cases fe with
  |some e=>
   have hpf:qb6 text = .tu [wh [],errP (some e)]:=by unfold qb6 zn;rw [hrun]
   rw [hpf]
   obtain⟨a,m⟩:=e
   repeat' (first|apply And.intro|(intro h;try exact cDd)|exact⟨Tryz.call69⟩|(refine z6 hpe ?_)|exact cSd|apply qb []|refine exr ?_|refine qj ?_)
  |none=>
   have hpf:qb6 text = .tu [wh q.items,errP none]:=by unfold qb6 zn;rw [hrun]
   rw [hpf]
   dsimp only at hpe
   repeat' (first|apply And.intro|(intro h;try exact cDd)|exact⟨Tryz.call69⟩|(refine z6 hpe ?_)|exact cSd|apply qb []|refine exr ?_|refine qj ?_)
 ·rintro c ⟨p,e⟩ ⟨a,m,rfl,rfl,hre⟩
  have hpf:qb6 text = .tu [wh [],errP (some (a,m))]:=by unfold qb6 zn;rw [hre]
  rw [hpf]
  repeat' (first|apply And.intro|(intro h;try exact cDd)|exact cSd|apply qb []|refine exr ?_|refine qj ?_)
end Go.Proofs.YtneejjefekdgjaaGreatDoor
namespace Go.Proofs.YtneejjefekdgjaaGreatDoor
open Go Go.RowKit Go.Extern.Stop Go.Stop Go.Extern Go.Proofs
theorem asT.valueOf27 (t:Addr) (w:World):(ReflectliteValue.unpack (.iface 305 (.pointer (some t)))).run Tryz.prog w
  = .ok (.agg #[.pointer (some ⟨9,305,none⟩),.pointer (some ⟨w.heap.size,0,none⟩),.int .u64 150]) (w.alloc (.cells #[.pointer (some t)] 305)):=by kernel_rfl
theorem asT.type27 (a : Addr) (w : World) : (ReflectliteValue.methodAny (ReflectliteValue.valueError "reflectlite.Value.Type" 0) (fun t _ _ _ => ReflectliteType.toType t) #[.agg #[.pointer (some ⟨9, 305, none⟩), .pointer (some a), .int .u64 150]]).run Tryz.prog w
  = .ok (.iface 381 (.agg #[.pointer (some ⟨9,305,none⟩)])) w:=by kernel_rfl
theorem asT.methodKind (h : Value) (w : World) : (Go.method 536 381 (.agg #[h]) "Kind").run Tryz.prog w = .ok (354, h) w := by kernel_rfl
theorem asT.kind27 (w:World):((ReflectliteType.abiMethod fun t=>(fun a:Nat=>Value.int IntKind.u8 (a:Int)) <$> Rtype.kind t) #[.pointer (some ⟨9,305,none⟩)]).run Tryz.prog w = .ok (.int .u8 22) w:=by kernel_rfl
theorem asT.kind25 (w:World):((ReflectliteType.abiMethod fun t=>(fun a:Nat=>Value.int IntKind.u8 (a:Int)) <$> Rtype.kind t) #[.pointer (some ⟨9,121,none⟩)]).run Tryz.prog w = .ok (.int .u8 22) w:=by kernel_rfl
theorem rlm (z:Sem Value) (f:TypeId→Addr→Nat→Nat→Sem Value) (v:Value) :
  ReflectliteValue.method z f #[v]=(do match ← ReflectliteValue.parts v with|none=>z|some (t,a,fl)=>f t a fl (fl % 32)):=rfl
theorem asT.parts27 (a:Addr) (w:World):(ReflectliteValue.parts (.agg #[.pointer (some ⟨9,305,none⟩),.pointer (some a),.int .u64 150])).run Tryz.prog w = .ok (some (305,a,150)) w:=by kernel_rfl
theorem asT.isNil27 (a p:Addr) (W:World) (ha:W.cell? a=some (.pointer (some p))) :
  (ReflectliteValue.method (ReflectliteValue.valueError "reflectlite.Value.IsNil" 0) ReflectliteValue.isNil #[.agg #[.pointer (some ⟨9, 305, none⟩), .pointer (some a), .int .u64 150]]).run Tryz.prog W = .ok (.bool false) W := by
 rw [rlm]
 simp only [Sem.run_bind,asT.parts27,Result.andThen]
 simp [ReflectliteValue.isNil,loadVar,isAgg,underlying,Tryz.underlying305,ha,Result.andThen]
theorem asT.methodElem (h : Value) (w : World) : (Go.method 536 381 (.agg #[h]) "Elem").run Tryz.prog w = .ok (372, .agg #[h]) w := by kernel_rfl
theorem asT.methodImplements (h : Value) (w : World) : (Go.method 536 381 (.agg #[h]) "Implements").run Tryz.prog w = .ok (373, .agg #[h]) w := by kernel_rfl
theorem asT.methodAssignableTo (h : Value) (w : World) : (Go.method 536 381 (.agg #[h]) "AssignableTo").run Tryz.prog w = .ok (370, .agg #[h]) w := by kernel_rfl
theorem asT.elem27 (w:World):(ReflectliteType.method ReflectliteType.elem #[.agg #[.pointer (some ⟨9,305,none⟩)]]).run Tryz.prog w = .ok (.iface 381 (.agg #[.pointer (some ⟨9,121,none⟩)])) w:=by kernel_rfl
theorem asT.implements25 (w : World) : (ReflectliteType.relation "Implements" ReflectliteType.implements_ #[.agg #[.pointer (some ⟨9, 121, none⟩)], .iface 381 (.agg #[.pointer (some ⟨9, 24, none⟩)])]).run Tryz.prog w = .ok (.bool true) w := by kernel_rfl
theorem asT.typeOf25 (v:Value) (w:World):(ReflectliteType.typeOf #[.iface 121 v]).run Tryz.prog w = .ok (.iface 381 (.agg #[.pointer (some ⟨9,121,none⟩)])) w:=by kernel_rfl
theorem asT.assignable25 (w : World) : (ReflectliteType.relation "AssignableTo" ReflectliteType.assignableTo #[.agg #[.pointer (some ⟨9, 121, none⟩)], .iface 381 (.agg #[.pointer (some ⟨9, 121, none⟩)])]).run Tryz.prog w = .ok (.bool true) w := by kernel_rfl
theorem asT.valueOf25 (e:Addr) (w:World):(ReflectliteValue.unpack (.iface 121 (.pointer (some e)))).run Tryz.prog w
  = .ok (.agg #[.pointer (some ⟨9,121,none⟩),.pointer (some ⟨w.heap.size,0,none⟩),.int .u64 150]) (w.alloc (.cells #[.pointer (some e)] 121)):=by kernel_rfl
theorem asT.elemOf27 (w:World):(Rtype.elem? 305).run Tryz.prog w = .ok (some 121) w:=by kernel_rfl
theorem asT.mk25 (p:Addr) (w:World):(ReflectliteValue.mk 121 p ReflectliteValue.flagAddr).run Tryz.prog w = .ok (.agg #[.pointer (some ⟨9,121,none⟩),.pointer (some p),.int .u64 406]) w:=by kernel_rfl
theorem asT.elemV27 (a p:Addr) (W:World) (ha:W.cell? a=some (.pointer (some p))) :
  (ReflectliteValue.method (ReflectliteValue.valueError "reflectlite.Value.Elem" 0) ReflectliteValue.elem #[.agg #[.pointer (some ⟨9, 305, none⟩), .pointer (some a), .int .u64 150]]).run Tryz.prog W
   = .ok (.agg #[.pointer (some ⟨9,121,none⟩),.pointer (some p),.int .u64 406]) W:=by
 rw [rlm]
 simp only [Sem.run_bind,asT.parts27,Result.andThen]
 simp [ReflectliteValue.elem,loadVar,isAgg,underlying,Tryz.underlying305,ha,Result.andThen,asT.elemOf27,asT.mk25]
theorem rls (v x:Value):ReflectliteValue.set #[v,x]=(do
  let (some (dst,a,fl),some (src,b,_)):=(← ReflectliteValue.parts v,← ReflectliteValue.parts x)
   | unsupported (.noEntry "extern/(internal/reflectlite.Value).Set.zeroValue")
  if fl / ReflectliteValue.flagAddr % 2 == 0 then unsupported (.noEntry "extern/(internal/reflectlite.Value).Set.unaddressable")
  let val ← loadVar src b
  if ← Rtype.directlyAssignable dst src then storeVar dst a val
  else if ← Rtype.implements dst src then
   if (← Rtype.kind src) == 20 then
    match val with
    | .nilIface => unsupported (.noEntry "extern/reflectlite: a nil value of one interface type handed on as a value of another")
    | _=>storeVar dst a val
   else storeVar dst a (.iface src val)
  else panicString ("reflectlite.Set: value of type " ++ (← Rtype.spelt src) ++ " is not assignable to type " ++ (← Rtype.spelt dst))
  pure (.tuple #[])):=rfl
theorem asT.parts25a (a:Addr) (w:World):(ReflectliteValue.parts (.agg #[.pointer (some ⟨9,121,none⟩),.pointer (some a),.int .u64 406])).run Tryz.prog w = .ok (some (121,a,406)) w:=by kernel_rfl
theorem asT.parts25 (a:Addr) (w:World):(ReflectliteValue.parts (.agg #[.pointer (some ⟨9,121,none⟩),.pointer (some a),.int .u64 150])).run Tryz.prog w = .ok (some (121,a,150)) w:=by kernel_rfl
theorem asT.direct25 (w:World):(Rtype.directlyAssignable 121 121).run Tryz.prog w = .ok true w:=by kernel_rfl
theorem asT.set25 (ta b e:Addr) (old:Value) (W:World) (hb:W.cell? b=some (.pointer (some e))) (ht:W.cell? ta=some old) (hf:W.frozen? ta=false) :
  (ReflectliteValue.set #[.agg #[.pointer (some ⟨9,121,none⟩),.pointer (some ta),.int .u64 406],.agg #[.pointer (some ⟨9,121,none⟩),.pointer (some b),.int .u64 150]]).run Tryz.prog W
   = .ok (.tuple #[]) (W.setCell ta (.pointer (some e))):=by
 rw [rls]
 simp only [Sem.run_bind,asT.parts25a,asT.parts25,Result.andThen]
 simp [ReflectliteValue.flagAddr,loadVar,isAgg,underlying,Tryz.underlying121,hb,Result.andThen,asT.direct25,storeVar,Value.cells,storeCells,Addr.add]
 rw [run_store Tryz.prog W ta _ _ (by rfl)]
 simp [ht,hf]
set_option maxHeartbeats 4000000 in
theorem zbz (e t:Addr) (old:Value) (w:World) (hg:w.cell? ⟨3,0,none⟩=some (.iface 381 (.agg #[.pointer (some ⟨9,24,none⟩)]))) (ht0:w.cell? t=some old) (hf0:w.frozen? t=false) :
  Calls Tryz.prog 232 #[.iface 121 (.pointer (some e)),.iface 305 (.pointer (some t))] w fun ev w'=>ev = .returned (.bool true)∧w'=((((w.alloc (.cells #[.pointer (some t)] 305)).alloc (.cells #[.pointer (some ⟨9,305,none⟩),.pointer (some ⟨w.heap.size,0,none⟩),.int .u64 150] 347)).alloc (.cells #[.pointer (some ⟨9,305,none⟩),.pointer (some ⟨w.heap.size,0,none⟩),.int .u64 150] 347)).alloc (.cells #[.pointer (some e)] 121)).setCell t (.pointer (some e)):=by
 have h6:=@run_callFunc_extern Tryz.prog 289 _ (fun args=>ReflectliteValue.unpack (args.getD 0 (.tuple #[]))) Tryz.func289 (by kernel_rfl) (by kernel_rfl) (by kernel_rfl) (by kernel_rfl)
 have h7 := @run_callFunc_extern Tryz.prog 290 _ (ReflectliteValue.methodAny (ReflectliteValue.valueError "reflectlite.Value.Type" 0) (fun t _ _ _ => ReflectliteType.toType t)) Tryz.func290 (by kernel_rfl) (by kernel_rfl) (by kernel_rfl) (by kernel_rfl)
 have h8 := @run_callFunc_extern Tryz.prog 291 _ (ReflectliteValue.method (ReflectliteValue.valueError "reflectlite.Value.IsNil" 0) ReflectliteValue.isNil) Tryz.func291 (by kernel_rfl) (by kernel_rfl) (by kernel_rfl) (by kernel_rfl)
 have h27:=@run_callFunc_extern Tryz.prog 354 _ (ReflectliteType.abiMethod fun t=>do pure (.int .u8 (← Rtype.kind t))) Tryz.func354 (by kernel_rfl) (by kernel_rfl) (by kernel_rfl) (by kernel_rfl)
 have h37:=@run_callFunc_extern Tryz.prog 372 _ (ReflectliteType.method ReflectliteType.elem) Tryz.func372 (by kernel_rfl) (by kernel_rfl) (by kernel_rfl) (by kernel_rfl)
 have h38 := @run_callFunc_extern Tryz.prog 373 _ (ReflectliteType.relation "Implements" ReflectliteType.implements_) Tryz.func373 (by kernel_rfl) (by kernel_rfl) (by kernel_rfl) (by kernel_rfl)
 have h10:=@run_callFunc_extern Tryz.prog 318 _ ReflectliteType.typeOf Tryz.func318 (by kernel_rfl) (by kernel_rfl) (by kernel_rfl) (by kernel_rfl)
 have h35 := @run_callFunc_extern Tryz.prog 370 _ (ReflectliteType.relation "AssignableTo" ReflectliteType.assignableTo) Tryz.func370 (by kernel_rfl) (by kernel_rfl) (by kernel_rfl) (by kernel_rfl)
 have h11 := @run_callFunc_extern Tryz.prog 319 _ (ReflectliteValue.method (ReflectliteValue.valueError "reflectlite.Value.Elem" 0) ReflectliteValue.elem) Tryz.func319 (by kernel_rfl) (by kernel_rfl) (by kernel_rfl) (by kernel_rfl)
 have h12:=@run_callFunc_extern Tryz.prog 320 _ ReflectliteValue.set Tryz.func320 (by kernel_rfl) (by kernel_rfl) (by kernel_rfl) (by kernel_rfl)
 have tO:=asT.typeOf25
 have mA:=asT.methodAssignableTo
 have a25:=asT.assignable25
 have v25:=asT.valueOf25
 have f6:=asT.valueOf27
 have f7:=asT.type27
 have mK:=asT.methodKind
 have mE:=asT.methodElem
 have mI:=asT.methodImplements
 have k27:=asT.kind27
 have k25:=asT.kind25
 have e27:=asT.elem27
 have i25:=asT.implements25
 have n8:=asT.isNil27 ⟨w.heap.size,0,none⟩ t ((w.alloc (.cells #[.pointer (some t)] 305)).alloc (.cells #[.pointer (some ⟨9,305,none⟩),.pointer (some ⟨w.heap.size,0,none⟩),.int .u64 150] 347)) (by simp)
 have hlt:3<w.heap.size:=by
  rcases Nat.lt_or_ge 3 w.heap.size with h|h
  ·exact h
  ·simp [World.cell?,Array.getElem?_eq_none h] at hg
 have hg2:((w.alloc (.cells #[.pointer (some t)] 305)).alloc (.cells #[.pointer (some ⟨9,305,none⟩),.pointer (some ⟨w.heap.size,0,none⟩),.int .u64 150] 347)).cell? ⟨3,0,none⟩=some (.iface 381 (.agg #[.pointer (some ⟨9,24,none⟩)])):=by
  rw [World.cell?_alloc_lt _ _ ⟨3,0,none⟩ (by first|(simp;done)|(simp;omega)),World.cell?_alloc_lt _ _ ⟨3,0,none⟩ hlt];exact hg
 have htl:t.block<w.heap.size:=by
  rcases Nat.lt_or_ge t.block w.heap.size with h|h
  ·exact h
  ·simp [World.cell?,Array.getElem?_eq_none h] at ht0
 have el:=asT.elemV27 ⟨w.heap.size,0,none⟩ t (((w.alloc (.cells #[.pointer (some t)] 305)).alloc (.cells #[.pointer (some ⟨9,305,none⟩),.pointer (some ⟨w.heap.size,0,none⟩),.int .u64 150] 347)).alloc (.cells #[.pointer (some ⟨9,305,none⟩),.pointer (some ⟨w.heap.size,0,none⟩),.int .u64 150] 347)) (by rw [World.cell?_alloc_lt _ _ ⟨w.heap.size,0,none⟩ (by first|(simp;done)|(simp;omega))];simp)
 have st:=asT.set25 t ⟨w.heap.size+1+1+1,0,none⟩ e old ((((w.alloc (.cells #[.pointer (some t)] 305)).alloc (.cells #[.pointer (some ⟨9,305,none⟩),.pointer (some ⟨w.heap.size,0,none⟩),.int .u64 150] 347)).alloc (.cells #[.pointer (some ⟨9,305,none⟩),.pointer (some ⟨w.heap.size,0,none⟩),.int .u64 150] 347)).alloc (.cells #[.pointer (some e)] 121))
  (by rw [World.cell?_alloc_at _ _ _ _ (by simp)];rfl)
  (by rw [World.cell?_alloc_lt _ _ t (by first|(simp;done)|(simp;omega)),World.cell?_alloc_lt _ _ t (by first|(simp;done)|(simp;omega)),World.cell?_alloc_lt _ _ t (by first|(simp;done)|(simp;omega)),World.cell?_alloc_lt _ _ t htl];exact ht0)
  (by rw [World.frozen?_alloc_old _ _ t (by first|(simp;done)|(simp;omega)),World.frozen?_alloc_old _ _ t (by first|(simp;done)|(simp;omega)),World.frozen?_alloc_old _ _ t (by first|(simp;done)|(simp;omega)),World.frozen?_alloc_old _ _ t (Nat.ne_of_lt htl)];exact hf0)
 go_enter Tryz.func232,Tryz.ntmps232
 go_wp2
 refine wp_loop_rounds 1 ?_
 rw [rounds_succ]
 go_wp2
 go_ret
 exact⟨rfl,rfl⟩
theorem asT.typeOf31 (v:Value) (w:World):(ReflectliteType.typeOf #[.iface 62 v]).run Tryz.prog w = .ok (.iface 381 (.agg #[.pointer (some ⟨9,62,none⟩)])) w:=by kernel_rfl
theorem asT.assignable31 (w : World) : (ReflectliteType.relation "AssignableTo" ReflectliteType.assignableTo #[.agg #[.pointer (some ⟨9, 62, none⟩)], .iface 381 (.agg #[.pointer (some ⟨9, 121, none⟩)])]).run Tryz.prog w = .ok (.bool false) w := by kernel_rfl
theorem asT.no230 (v:Value) (xT:TypeId) (w:World):(Instr.typeAssert (.iface 62 v) xT 386 true).run Tryz.prog w = .ok (.tuple #[.nilIface,.bool false]) w:=run_typeAssert_lacksB Tryz.underlying386 (by kernel_rfl) (by kernel_rfl) v xT w
theorem asT.no233 (v:Value) (xT:TypeId) (w:World):(Instr.typeAssert (.iface 62 v) xT 389 true).run Tryz.prog w = .ok (.tuple #[.nilIface,.bool false]) w:=run_typeAssert_lacksB Tryz.underlying389 (by kernel_rfl) (by kernel_rfl) v xT w
theorem asT.no234 (v:Value) (xT:TypeId) (w:World):(Instr.typeAssert (.iface 62 v) xT 390 true).run Tryz.prog w = .ok (.tuple #[.nilIface,.bool false]) w:=run_typeAssert_lacksB Tryz.underlying390 (by kernel_rfl) (by kernel_rfl) v xT w
set_option maxHeartbeats 4000000 in
theorem q9o (n:Int) (t:Addr) (old:Value) (w:World) (hg:w.cell? ⟨3,0,none⟩=some (.iface 381 (.agg #[.pointer (some ⟨9,24,none⟩)]))) (ht0:w.cell? t=some old) :
  Calls Tryz.prog 232 #[.iface 62 (.int .i64 n),.iface 305 (.pointer (some t))] w fun ev w'=>ev = .returned (.bool false)∧Below w.heap.size w w':=by
 have h6:=@run_callFunc_extern Tryz.prog 289 _ (fun args=>ReflectliteValue.unpack (args.getD 0 (.tuple #[]))) Tryz.func289 (by kernel_rfl) (by kernel_rfl) (by kernel_rfl) (by kernel_rfl)
 have h7 := @run_callFunc_extern Tryz.prog 290 _ (ReflectliteValue.methodAny (ReflectliteValue.valueError "reflectlite.Value.Type" 0) (fun t _ _ _ => ReflectliteType.toType t)) Tryz.func290 (by kernel_rfl) (by kernel_rfl) (by kernel_rfl) (by kernel_rfl)
 have h8 := @run_callFunc_extern Tryz.prog 291 _ (ReflectliteValue.method (ReflectliteValue.valueError "reflectlite.Value.IsNil" 0) ReflectliteValue.isNil) Tryz.func291 (by kernel_rfl) (by kernel_rfl) (by kernel_rfl) (by kernel_rfl)
 have h27:=@run_callFunc_extern Tryz.prog 354 _ (ReflectliteType.abiMethod fun t=>do pure (.int .u8 (← Rtype.kind t))) Tryz.func354 (by kernel_rfl) (by kernel_rfl) (by kernel_rfl) (by kernel_rfl)
 have h37:=@run_callFunc_extern Tryz.prog 372 _ (ReflectliteType.method ReflectliteType.elem) Tryz.func372 (by kernel_rfl) (by kernel_rfl) (by kernel_rfl) (by kernel_rfl)
 have h38 := @run_callFunc_extern Tryz.prog 373 _ (ReflectliteType.relation "Implements" ReflectliteType.implements_) Tryz.func373 (by kernel_rfl) (by kernel_rfl) (by kernel_rfl) (by kernel_rfl)
 have h10:=@run_callFunc_extern Tryz.prog 318 _ ReflectliteType.typeOf Tryz.func318 (by kernel_rfl) (by kernel_rfl) (by kernel_rfl) (by kernel_rfl)
 have h35 := @run_callFunc_extern Tryz.prog 370 _ (ReflectliteType.relation "AssignableTo" ReflectliteType.assignableTo) Tryz.func370 (by kernel_rfl) (by kernel_rfl) (by kernel_rfl) (by kernel_rfl)
 have h11 := @run_callFunc_extern Tryz.prog 319 _ (ReflectliteValue.method (ReflectliteValue.valueError "reflectlite.Value.Elem" 0) ReflectliteValue.elem) Tryz.func319 (by kernel_rfl) (by kernel_rfl) (by kernel_rfl) (by kernel_rfl)
 have h12:=@run_callFunc_extern Tryz.prog 320 _ ReflectliteValue.set Tryz.func320 (by kernel_rfl) (by kernel_rfl) (by kernel_rfl) (by kernel_rfl)
 have tO:=asT.typeOf31
 have mA:=asT.methodAssignableTo
 have a25:=asT.assignable31
 have f6:=asT.valueOf27
 have f7:=asT.type27
 have mK:=asT.methodKind
 have mE:=asT.methodElem
 have mI:=asT.methodImplements
 have k27:=asT.kind27
 have k25:=asT.kind25
 have e27:=asT.elem27
 have i25:=asT.implements25
 have n8:=asT.isNil27 ⟨w.heap.size,0,none⟩ t ((w.alloc (.cells #[.pointer (some t)] 305)).alloc (.cells #[.pointer (some ⟨9,305,none⟩),.pointer (some ⟨w.heap.size,0,none⟩),.int .u64 150] 347)) (by simp)
 have hlt:3<w.heap.size:=by
  rcases Nat.lt_or_ge 3 w.heap.size with h|h
  ·exact h
  ·simp [World.cell?,Array.getElem?_eq_none h] at hg
 have hg2:((w.alloc (.cells #[.pointer (some t)] 305)).alloc (.cells #[.pointer (some ⟨9,305,none⟩),.pointer (some ⟨w.heap.size,0,none⟩),.int .u64 150] 347)).cell? ⟨3,0,none⟩=some (.iface 381 (.agg #[.pointer (some ⟨9,24,none⟩)])):=by
  rw [World.cell?_alloc_lt _ _ ⟨3,0,none⟩ (by first|(simp;done)|(simp;omega)),World.cell?_alloc_lt _ _ ⟨3,0,none⟩ hlt];exact hg
 have htl:t.block<w.heap.size:=by
  rcases Nat.lt_or_ge t.block w.heap.size with h|h
  ·exact h
  ·simp [World.cell?,Array.getElem?_eq_none h] at ht0
 have n1:=asT.no230
 have n2:=asT.no233
 have n3:=asT.no234
 go_enter Tryz.func232,Tryz.ntmps232
 go_wp2
 refine wp_loop_rounds 1 ?_
 rw [rounds_succ]
 go_wp2
 go_ret
 exact⟨rfl,(((Below.refl _ _).alloc (Nat.le_refl _) _).alloc (by simp) _).alloc (by first|(simp;done)|(simp;omega)) _⟩
end Go.Proofs.YtneejjefekdgjaaGreatDoor
namespace Go.Proofs.YtneejjefekdgjaaGreatDoor
open Go Go.Av Go.RowKit Go.Proofs Go.Pl
theorem qyp {w:World} {b:Nat} {T:TypeId} {fz:Nat×Nat} {c:Array Value} (v:Value) (hc:w.heap[b]? = some (.cells c T fz)) (h1:c.size=1):w.setCell ⟨b,0,none⟩ v=w.setRow b #[v]:=by
 unfold World.setCell World.setRow
 congr 1
 apply Array.ext_getElem?
 intro i
 rw [Array.getElem?_modify,Array.getElem?_modify]
 by_cases hi:b=i
 ·subst hi
  rw [if_pos rfl,if_pos rfl,hc]
  have:c.setIfInBounds 0 v = #[v]:=by
   apply Array.ext
   ·simp [h1]
   ·intro i h2 h3
    have:i=0:=by simp at h3;omega
    subst this
    simp
  simp [this]
 ·rw [if_neg hi,if_neg hi]
theorem q9n (a n:Int) (o:Nat) (st:List AObj) (ho:st[o]? = some (.cells 0 121 [.v (.pointer none)])):ql E 232 [qe7 a n,.ifc 305 (.bx o 0 0)] st fun r st'=>r=Bv true∧st'=st.set o (.cells 0 121 [.pp [Iv a,.ifc 62 (Iv n)]]):=by
 refine⟨fun B0 w0 G vals w hL hA hR=>?_⟩
 obtain⟨v1,v2,rfl⟩:∃ x y,vals = #[x,y]:=by
  have:=hR.1
  match vals,this with
  | ⟨[x,y]⟩,_=>exact⟨x,y,rfl⟩
 have h1:=hR.2 0 _ v1 rfl rfl
 have h2:=hR.2 1 _ v2 rfl rfl
 unfold qe7 at h1
 cases h1 with
 |ifc _ _ y1 h1=>
  cases h2 with
  |ifc _ _ y2 h2=>
   have hpp:=h1
   cases h1 with
   |pp _ b off pub hp hlen hr=>
    cases h2 with
    |bx _ _ _ b2 hn hv hb=>
     obtain⟨_,g1,g2,g3,c,g4,g5,g6⟩:=hA.ob o _ ho
     have hb:=hb g1
     subst hb
     have hc1:c.size=1:=by simpa using g5.symm
     have hl:=(hL w hA.below).ert
     have hcell:w.cell? ⟨(G.ob o).blk,0,none⟩=some c[0]:=by simp [World.cell?,g4,hc1]
     have hfz:w.frozen? ⟨(G.ob o).blk,0,none⟩=false:=by simp [World.frozen?,g4]
     have hlt:(G.ob o).blk<w.heap.size:=(Array.getElem?_eq_some_iff.1 g4).1
     refine (zbz ⟨b,off,none⟩ ⟨(G.ob o).blk,0,none⟩ c[0] w hl hcell hfz).mono ?_
     rintro e w' ⟨rfl,rfl⟩
     have hb1:Below w.heap.size w ((((w.alloc (.cells #[.pointer (some ⟨(G.ob o).blk,0,none⟩)] 305)).alloc (.cells #[.pointer (some ⟨9,305,none⟩),.pointer (some ⟨w.heap.size,0,none⟩),.int .u64 150] 347)).alloc (.cells #[.pointer (some ⟨9,305,none⟩),.pointer (some ⟨w.heap.size,0,none⟩),.int .u64 150] 347)).alloc (.cells #[.pointer (some ⟨b,off,none⟩)] 121)):=
      ((((Below.refl _ _).alloc (Nat.le_refl _) _).alloc (by simp) _).alloc (by first|(simp;done)|(simp;omega)) _).alloc (by first|(simp;done)|(simp;omega)) _
     have hA1:=hA.fresh hb1
     obtain⟨_,k1,k2,k3,c',k4,k5,k6⟩:=hA1.ob o _ ho
     have hc1':c'.size=1:=by simpa using k5.symm
     refine⟨.bool true,G,Bv true,_,rfl,.refl G,?_,.v _,rfl,rfl⟩
     rw [qyp _ k4 hc1']
     exact hA1.setRow ho (by simp) fun i x y hx hy=>by
      match i with
      | 0=>simp at hx hy;subst hx;subst hy;exact hpp
      |i+1=>simp at hx
theorem q6e (n:Int) (o:Nat) (st:List AObj) (ho:st[o]? = some (.cells 0 121 [.v (.pointer none)])):ql E 232 [.ifc 62 (Iv n),.ifc 305 (.bx o 0 0)] st fun r st'=>r=Bv false∧st'=st:=by
 refine⟨fun B0 w0 G vals w hL hA hR=>?_⟩
 obtain⟨v1,v2,rfl⟩:∃ x y,vals = #[x,y]:=by
  have:=hR.1
  match vals,this with
  | ⟨[x,y]⟩,_=>exact⟨x,y,rfl⟩
 have h1:=hR.2 0 _ v1 rfl rfl
 have h2:=hR.2 1 _ v2 rfl rfl
 cases h1 with
 |ifc _ _ y1 h1=>
  cases h2 with
  |ifc _ _ y2 h2=>
   cases h1 with
   |v=>
    cases h2 with
    |bx _ _ _ b2 hn hv hb=>
     obtain⟨_,g1,g2,g3,c,g4,g5,g6⟩:=hA.ob o _ ho
     have hb:=hb g1
     subst hb
     have hc1:c.size=1:=by simpa using g5.symm
     have hl:=(hL w hA.below).ert
     have hcell:w.cell? ⟨(G.ob o).blk,0,none⟩=some c[0]:=by simp [World.cell?,g4,hc1]
     refine (q9o n ⟨(G.ob o).blk,0,none⟩ c[0] w hl hcell).mono ?_
     rintro e w' ⟨rfl,hb⟩
     exact⟨_,G,Bv false,st,rfl,.refl G,hA.fresh hb,.v _,rfl,rfl⟩
end Go.Proofs.YtneejjefekdgjaaGreatDoor
namespace Go.Proofs.YtneejjefekdgjaaGreatDoor
open Go Go.Av Go.RowKit Go.Extern.Stop Go.Stop Go.Extern Go.Proofs
theorem isT.has (v:Value) (xT:TypeId) (w:World):(Instr.typeAssert (.iface 121 v) xT 389 true).run Tryz.prog w = .ok (.tuple #[.iface 121 v,.bool true]) w:=run_typeAssert_hasB Tryz.underlying389 (by kernel_rfl) v xT w
theorem isT.typeOf (v:Value) (w:World):(ReflectliteType.typeOf #[.iface 62 v]).run Tryz.prog w = .ok (.iface 381 (.agg #[.pointer (some ⟨9,62,none⟩)])) w:=by kernel_rfl
theorem isT.cmp (w : World) : (ReflectliteType.method (fun t => do Rtype.noPackHeld "Comparable" t; (fun a => Value.bool a.comparable) <$> typeInfo t) #[.agg #[.pointer (some ⟨9, 62, none⟩)]]).run Tryz.prog w = .ok (.bool true) w := by kernel_rfl
end Go.Proofs.YtneejjefekdgjaaGreatDoor
namespace Go.Pl
open Go Go.Proofs
inductive ErrV where
 |no
 |num (n:Int)
 |at' (a n:Int)
 deriving DecidableEq
def ErrV.code:ErrV→Int
 | .no=>0
 | .num n=>n
 | .at' _ n=>n
def ErrV.pos:ErrV→Int
 | .no=> -9
 | .num _=> -9
 | .at' a _=>a
def yb:Nat→List Fld→ErrV
 | _,[]=>.no
 |k,f::r=>if vd f=0 then yb (k+1) r else .at' k (vd f)
def kh (fs:List Fld):ErrV:=if fs=[] then .num 2 else if 40<fs.length then .num 11 else yb 0 fs
theorem qk1:∀ (k:Nat) (r:List Fld),(yb k r).code=0↔yb k r = .no
 |k,[]=>by simp [yb,ErrV.code]
 |k,f::r=>by
  unfold yb
  split
  ·exact qk1 _ r
  ·rename_i h
   simp [ErrV.code,h]
theorem qk0 (fs:List Fld):(kh fs).code=0↔kh fs = .no:=by
 unfold kh
 split
 ·simp [ErrV.code]
 ·split
  ·simp [ErrV.code]
  ·exact qk1 _ _
end Go.Pl
namespace Go.Proofs.YtneejjefekdgjaaGreatDoor
open Go Go.Av Go.RowKit Go.Proofs Go.Pl
theorem qrq {st st':List AObj} (h:∀ k,k<st.length→st'[k]? = st[k]?):∃ ext,st'=st++ext:=by
 refine qjf ?_ h
 rcases Nat.eq_zero_or_pos st.length with h0|h0
 ·omega
 ·have h1:=h (st.length - 1) (by omega)
  have h2:st[st.length - 1]? = some (st[st.length - 1]'(by omega)):=List.getElem?_eq_getElem (by omega)
  have:=lt_of_getElem? (h1.trans h2)
  omega
def gErr (x:qq):ErrV:=if x.kind=2 then (if x.fields=[] then .no else .num 2) else if x.kind=1∨x.kind=3 then kh x.fields else .num 2
def qbm:Nat→List qq→ErrV
 | _,[]=>.no
 |k,x::r=>if (gErr x).code=0 then qbm (k+1) r else .at' k (gErr x).code
def eErr (b:List qq):ErrV:=if b.length<1∨40<b.length then .num 1 else qbm 0 b
theorem qlb (x:qq):(gErr x).code=0↔gErr x = .no:=by
 unfold gErr
 split
 ·split <;> simp [ErrV.code]
 ·split
  ·exact qk0 _
  ·simp [ErrV.code]
theorem qpq:∀ (k:Nat) (r:List qq),(qbm k r).code=0↔qbm k r = .no
 |k,[]=>by simp [qbm,ErrV.code]
 |k,f::r=>by
  unfold qbm
  split
  ·exact qpq _ r
  ·rename_i h
   simp [ErrV.code] at h ⊢
   exact h
theorem qhp (b:List qq):(eErr b).code=0↔eErr b = .no:=by
 unfold eErr
 split
 ·simp [ErrV.code]
 ·exact qpq _ _
def errA:ErrV→AV
 | .no=>.v .nilIface
 | .num n=>.ifc 62 (Iv n)
 | .at' a n=>.ifc 121 (.pp [Iv a,.ifc 62 (Iv n)])
theorem j6 (e:ErrV):Pure (errA e):=by
 cases e with
 |no=>exact qu _
 |num n=>exact qag (qu _)
 |at' a n=>exact qid a n
def KeyB (fs:List Fld):Prop:=∀ f∈fs,f.1.length<4294967281
theorem q65 {fs:List Fld} {i:Nat} {x:Fld} (h:fs[i]? = some x):(fs.map fldA)[i]? = some (fldA x):=by simp [h]
theorem q3j {b:List qq} {i:Nat} {x:qq} (h:b[i]? = some x):(b.map xd)[i]? = some (xd x):=by simp [h]
theorem q24 {fs:List Fld} (h:¬ 0<fs.length):kh fs = .num 2:=if_pos (List.length_eq_zero_iff.1 (by omega))
theorem q0o {fs:List Fld} (h:40<fs.length):kh fs = .num 11:=(if_neg fun h0=>by simp [h0] at h).trans (if_pos h)
theorem q25 {fs:List Fld} (h0:0<fs.length) (h:¬ 40<fs.length):kh fs=yb 0 fs:=(if_neg (List.length_pos_iff.1 h0)).trans (if_neg h)
theorem qjv (fs:List Fld) (st:List AObj) (e:ErrV) (h:kh fs=e) (hK:KeyB fs) (hl:fs.length<9223372036854775808):ql E 228 [vm fs] st fun r st'=>r=errA e∧st'=st:=by
 subst h
 refine z4 [.a (vm fs)] (j6 _) Tryz.func228 rfl rfl (fun _=>rfl) rfl fun S0=>?_
 have hml:(fs.map fldA).length=fs.length:=by simp
 apply qd []
 repeat' (first|apply And.intro|(intro h;try exact cDd)|exact cSd|apply qb []|refine exr ?_|refine qj ?_)
 ·rw [q24 (by omega)];rfl
 ·rw [q0o (by omega)];rfl
 rw [q25 (by omega) (by omega)]
 refine wm (X:=Nat) (fun k=>⟨[(16,.a (vm fs)),(17,.i (fs.map fldA).length),(18,.i k)],[],0⟩) (fun k=>k≤fs.length∧yb k (fs.drop k)=yb 0 fs) (fun k=>fs.length - k) 0 ⟨by omega,rfl⟩ ?_ ?_
 ·skip
  repeat' (first|apply And.intro|(intro h;try exact cDd)|exact cSd|apply qb []|refine exr ?_|refine qj ?_)
 ·rintro k ⟨hk,hc⟩
  by_cases hlt:k<fs.length
  ·obtain⟨y,hy⟩:∃ y,fs[k]? = some y:=⟨_,List.getElem?_eq_getElem hlt⟩
   have hget:=q65 hy
   have hky:=hK y (List.mem_of_getElem? hy)
   obtain⟨_,hye⟩:=List.getElem?_eq_some_iff.1 hy
   rw [List.drop_eq_getElem_cons hlt,hye,yb] at hc
   rw [← hc]
   by_cases ha:vd y=0
   ·have hc4:=fun st=>qgv y st hky ha
    apply qd [4]
    repeat' (first|apply And.intro|(intro h;try exact cDd)|(refine Exists.intro (k) ⟨by omega,_,hget,?_⟩)|exact⟨Tryz.call273⟩|refine cpe hc4 ?_|(refine Exists.intro (k+1) ⟨⟨by omega,by simp_all⟩,by omega,?_⟩)|exact cSd|apply qb [4]|refine exr ?_|refine qj ?_)
   ·have hc4:=fun st=>qgw y st hky ha
    rw [if_neg ha]
    apply qd [4]
    repeat' (first|apply And.intro|(intro h;try exact cDd)|(refine Exists.intro (k) ⟨by omega,_,hget,?_⟩)|exact⟨Tryz.call273⟩|refine cpe hc4 ?_|exact cSd|apply qb [4]|refine exr ?_|refine qj ?_)
  ·rw [List.drop_eq_nil_of_le (by omega),yb] at hc
   rw [← hc]
   apply qd []
   repeat' (first|apply And.intro|(intro h;try exact cDd)|exact cSd|apply qb []|refine exr ?_|refine qj ?_)
theorem q99 (x:qq) (st:List AObj) (e:ErrV) (h:gErr x=e) (hK:KeyB x.fields) (hl:x.fields.length<9223372036854775808):ql E 152 [xd x] st fun r st'=>r=errA e∧st'=st:=by
 subst h
 refine z4 [.a (xd x)] (j6 _) Tryz.func152 rfl rfl (fun _=>rfl) rfl fun S0=>?_
 have hml:(x.fields.map fldA).length=x.fields.length:=by simp
 have hpos:x.fields=[]↔x.fields.length=0:=by simp
 have hc6:=fun st=>qjv x.fields st _ rfl hK hl
 unfold gErr
 simp only [hpos]
 generalize kh x.fields=e at *
 cases e
 all_goals apply qd [1]
 repeat' (first|apply And.intro|(intro h;try exact cDd)|exact⟨Tryz.call228⟩|refine cpe hc6 ?_|exact cSd|apply qb [1]|refine exr ?_|refine qj ?_)
 all_goals clear hc6
 all_goals grind [errA]
theorem q60 (n:Int) (st:List AObj):ql E 157 [.ifc 62 (Iv n)] st fun r st'=>r = .ifc 62 (Iv n)∧st'=st:=by
 refine q6 (qag (qu _)) (qp Tryz.func157 rfl (Nat.le_of_ble_eq_true rfl) ?_)
 repeat' (first|apply qm|apply qg|apply qf|apply qk|apply qh|(apply qc;exact rfl;apply cd_f;exact cRa)|(apply va;exact rfl;exact rfl)|(apply jm;exact rfl;exact rfl)|apply qz|apply qx|(apply qi;exact Tryz.call232;exact q6e _ (st.length+0) _ (jb rfl)))
 exact qo rfl (zi rfl) ⟨rfl,_,rfl⟩
theorem q6z (a n:Int) (st:List AObj):ql E 157 [qe7 a n] st fun r st'=>r = .ifc 62 (Iv n)∧st'=st:=by
 refine q6 (qag (qu _)) (qp Tryz.func157 rfl (Nat.le_of_ble_eq_true rfl) ?_)
 repeat' (first|apply qm|apply qg|apply qf|apply qk|apply qh|(apply qc;exact rfl;apply cd_t;exact cRa)|(apply va;exact rfl;exact rfl)|(apply jm;exact rfl;exact rfl)|(apply qai;(iterate 4 exact rfl))|(apply jv;(iterate 3 exact rfl))|(apply wv;exact rfl;exact rfl)|apply qx|(apply qi;exact Tryz.call232;exact q9n a n (st.length+0) _ (jb rfl))|(apply j8;exact rfl;(focus first|assumption|(repeat' (first|assumption|exact wt|exact jb rfl|apply js|apply j9|omega|apply qac)));exact rfl;exact rfl))
 exact qo rfl (zi rfl) ⟨rfl,qrq fun j hj=>(qm7 (by omega)).trans (List.getElem?_append_left hj)⟩
theorem qny (k:Int) (e:ErrV) (st:List AObj) (he:e.code≠0):ql E 95 [Iv k,errA e] st fun r st'=>r=errA (.at' k e.code)∧st'=st:=by
 refine q6 (j6 _) (qp Tryz.func95 rfl (Nat.le_of_ble_eq_true rfl) ?_)
 cases e with
 |no=>exact absurd rfl he
 |num n=>
  repeat' (first|(apply qkr;(iterate 3 exact rfl))|apply qm|apply qg|apply qf|apply qk|apply qh|(apply va;exact rfl;exact rfl)|(apply x2;(iterate 3 exact rfl))|apply qx|(apply qi;exact Tryz.call157;exact q60 _ _))
  exact qo rfl (zi rfl) ⟨rfl,_,rfl⟩
 |at' a n=>
  repeat' (first|(apply qkr;(iterate 3 exact rfl))|apply qm|apply qg|apply qf|apply qk|apply qh|(apply va;exact rfl;exact rfl)|(apply x2;(iterate 3 exact rfl))|apply qx|(apply qi;exact Tryz.call157;exact q6z a n _))
  exact qo rfl (zi rfl) ⟨rfl,_,rfl⟩
structure EdB (x:qq):Prop where
 keys:KeyB x.fields
 len:x.fields.length<9223372036854775808
 id1 : -9223372036854775808≤x.id
 id2:x.id≤9223372036854775807
@[reducible] def ku (b : List qq) : AV := .sl 3 (b.map xd) none
theorem qjd (b:List qq) (st:List AObj) (e:ErrV) (h:eErr b=e) (hB:∀ x∈b,EdB x) (hl:b.length<9223372036854775808):ql E 92 [ku b] st fun r st'=>r=errA e∧st'=st:=by
 subst h
 refine z4 [.a (ku b)] (j6 _) Tryz.func92 rfl rfl (fun _=>rfl) rfl fun S0=>?_
 have hml:(b.map xd).length=b.length:=by simp
 have h1:b.length<1∨40<b.length→eErr b = .num 1:=fun h=>if_pos h
 have hr:¬ (b.length<1∨40<b.length)→eErr b=qbm 0 b:=fun h=>if_neg h
 apply qd []
 repeat' (first|apply And.intro|(intro h;try exact cDd)|exact cSd|apply qb []|refine exr ?_|refine qj ?_)
 ·rw [h1 (by omega)];rfl
 ·rw [h1 (by omega)];rfl
 rw [hr (by omega)]
 refine wm (X:=Nat) (fun k=>⟨[(15,.a (ku b)),(16,.i (b.map xd).length),(17,.i k)],[],0⟩) (fun k=>k≤b.length∧qbm k (b.drop k)=qbm 0 b) (fun k=>b.length - k) 0 ⟨by omega,rfl⟩ ?_ ?_
 ·skip
  repeat' (first|apply And.intro|(intro h;try exact cDd)|exact cSd|apply qb []|refine exr ?_|refine qj ?_)
 ·rintro k ⟨hk,hc⟩
  by_cases hlt:k<b.length
  ·obtain⟨y,hy⟩:∃ y,b[k]? = some y:=⟨_,List.getElem?_eq_getElem hlt⟩
   have hget:=q3j hy
   have hky:=hB y (List.mem_of_getElem? hy)
   obtain⟨_,hye⟩:=List.getElem?_eq_some_iff.1 hy
   rw [List.drop_eq_getElem_cons hlt,hye,qbm] at hc
   have hc9:=fun st=>q99 y st _ rfl hky.keys hky.len
   have hcf:=fun st=>qny k (gErr y) st
   rw [← hc]
   cases hg:gErr y
   all_goals rw [hg] at hc hc9 hcf
   ·apply qd [4]
    repeat' (first|apply And.intro|(intro h;try exact cDd)|(refine Exists.intro (k) ⟨by omega,_,hget,?_⟩)|exact⟨Tryz.call152⟩|refine cpe hc9 ?_|(refine Exists.intro (k+1) ⟨⟨by omega,(if_pos rfl).symm⟩,by omega,?_⟩)|exact cSd|apply qb [4]|refine exr ?_|refine qj ?_)
   all_goals have hgc:=fun h=>qlb y |>.1 h
   all_goals rw [hg] at hgc
   all_goals rw [if_neg fun h=>nomatch hgc h]
   ·have hcg:=fun st=>hcf st fun h=>nomatch hgc h
    apply qd [4]
    repeat' (first|apply And.intro|(intro h;try exact cDd)|(refine Exists.intro (k) ⟨by omega,_,hget,?_⟩)|exact⟨Tryz.call152⟩|refine cpe hc9 ?_|exact⟨Tryz.call95⟩|refine cpe hcg ?_|exact cSd|apply qb [4]|refine exr ?_|refine qj ?_)
   ·have hcg:=fun st=>hcf st fun h=>nomatch hgc h
    apply qd [4]
    repeat' (first|apply And.intro|(intro h;try exact cDd)|(refine Exists.intro (k) ⟨by omega,_,hget,?_⟩)|exact⟨Tryz.call152⟩|refine cpe hc9 ?_|exact⟨Tryz.call95⟩|refine cpe hcg ?_|exact cSd|apply qb [4]|refine exr ?_|refine qj ?_)
  ·rw [List.drop_eq_nil_of_le (by omega),qbm] at hc
   rw [← hc]
   apply qd []
   repeat' (first|apply And.intro|(intro h;try exact cDd)|exact cSd|apply qb []|refine exr ?_|refine qj ?_)
def jd (x:qq):qa:=vc x++[10]++ye [32,32] (jk x.fields)
def encF (b:List qq):qa:=b.flatMap jd
theorem q61 (a b:List qq):encF (a++b)=encF a++encF b:=by simp [encF]
theorem q62 (x:qq):encF [x]=jd x:=by simp [encF]
theorem qpl:∀ (k:Nat) (r:List Fld),yb k r = .no↔∀ f∈r,jt f
 |k,[]=>by simp [yb]
 |k,f::r=>by
  unfold yb
  split
  ·rename_i h
   rw [qpl (k+1) r]
   have:=(qbe f).1 h
   simp [this]
  ·rename_i h
   have h2:¬ jt f:=fun g=>h ((qbe f).2 g)
   simp [h2]
theorem qfz {fs:List Fld} (h:kh fs = .no):fs≠[]∧fs.length≤40∧∀ f∈fs,jt f:=by
 unfold kh at h
 split at h
 ·exact absurd h (by simp)
 ·split at h
  ·exact absurd h (by simp)
  ·exact⟨by assumption,by omega,(qpl _ _).1 h⟩
theorem qme {x:qq} (h:gErr x = .no):x.fields.length≤40∧∀ f∈x.fields,jt f:=by
 unfold gErr at h
 split at h
 ·split at h
  ·rename_i h0;rw [h0];simp
  ·exact absurd h (by simp)
 ·split at h
  ·exact (qfz h).2
  ·exact absurd h (by simp)
theorem qvm:∀ (k:Nat) (b:List qq),qbm k b = .no↔∀ x∈b,gErr x = .no
 |k,[]=>by simp [qbm]
 |k,x::b=>by
  unfold qbm
  split
  ·rename_i h
   rw [qvm (k+1) b]
   have:=(qlb x).1 h
   simp [this]
  ·rename_i h
   have h2:¬ gErr x = .no:=fun g=>h ((qlb x).2 g)
   simp [h2]
theorem qed {b:List qq} (h:eErr b = .no):1≤b.length∧b.length≤40∧∀ x∈b,gErr x = .no:=by
 unfold eErr at h
 split at h
 ·exact absurd h (by simp)
 ·exact⟨by omega,by omega,(qvm _ _).1 h⟩
theorem zcg {fs:List Fld} (hl:fs.length≤40) (h:∀ f∈fs,jt f):q80 fs:=⟨by omega,fun f hf=>by
 have:=h f hf
 have h1:=this.1.2.1
 have h2:=this.2
 omega⟩
theorem qpy (xs:List FldV) (st:List AObj) (hl:xs.length≤40) (h:∀ f∈xs,jt f):ql E 167 [vm xs] st fun r st'=>r = .tu [Sv (jk xs),.v .nilIface]∧st'=st:=by
 have:=zcf xs st (zcg hl h)
 unfold qpx at this
 have h0:=(qk7 xs).2 h
 rw [if_pos h0,h0] at this
 exact this
theorem qna (l:qa):(ye [32,32] l).length≤3 * l.length:=by
 unfold ye
 obtain⟨h1,h2⟩:=qdk _ l (Nat.le_refl _)
 have:=qn9 [32,32] (zb l)
 simp only [List.length_cons,List.length_nil] at this
 omega
theorem qs9 (x:qq) (h1 : -9223372036854775808≤x.id) (h2:x.id≤9223372036854775807):(vc x).length≤100:=by
 have hn:=Lib.itoa_length_le x.id h1 h2
 unfold vc y6
 split
 ·split
  ·simp;omega
  ·split
   ·simp;omega
   ·split <;> simp <;> omega
 ·simp
theorem q01 {x:qq} (hB:EdB x) (h:gErr x = .no):(jd x).length≤700000:=by
 obtain⟨hl,hg⟩:=qme h
 have h1:=qfa x.fields hg
 have h2:=qna (jk x.fields)
 have h3:=qs9 x hB.id1 hB.id2
 unfold jd
 simp only [List.length_append,List.length_cons,List.length_nil]
 omega
theorem qnz:∀ (b:List qq),(∀ x∈b,EdB x)→(∀ x∈b,gErr x = .no)→(encF b).length≤700000 * b.length
 | [],_,_=>by simp [encF]
 |x::r,hB,h=>by
  have ih:=qnz r (fun y hy=>hB y (by simp [hy])) (fun y hy=>h y (by simp [hy]))
  have h1:=q01 (hB x (by simp)) (h x (by simp))
  have e:encF (x::r)=jd x++encF r:=by simp [encF]
  rw [e,List.length_append,List.length_cons]
  omega
set_option maxHeartbeats 2000000 in
theorem qs0 (b:List qq) (st:List AObj) (hB:∀ x∈b,EdB x) (he:eErr b = .no):ql E 103 [ku b] st fun r st'=>r = .tu [Sv (encF b),.v .nilIface]∧st'=st:=by
 refine q6 (jq (qu _) (qu _)) (qp Tryz.func103 rfl (Nat.le_of_ble_eq_true rfl) ?_)
 have hml:(b.map xd).length=b.length:=by simp
 obtain⟨hb1,hb40,hg⟩:=qed he
 have hel:=qnz b hB hg
 repeat' (first|(apply qet;exact rfl)|apply qm|apply q8|apply qg|apply qf|apply qk|apply qh|(apply qc;exact rfl;apply cd_f;exact cRa)|(apply jp;(iterate 4 exact rfl))|(apply vi;exact rfl;exact rfl)|apply qz|(apply qi;exact Tryz.call92;exact qjd _ _ _ he hB (by omega)))
 refine qde b (fun pre s=>∃ q,(q = .v (.pointer none)∨q = .bx (st.length+0) 0 0)∧StE [(5,.bx (st.length+0) 0 0),(15,ku b),(16,Iv b.length),(17,Iv pre.length)] st [bldO 0 q (encF pre) (st.length+1),.tip (encF pre).length 1 5] s) ⟨_,.inl rfl,qi1 ⟨rfl,rfl,congrArg (fun n:Nat=>Iv (n:Int)) hml,rfl,trivial⟩ rfl⟩ ?_ ?_
 ·rintro _ ⟨q,hq,t,ext,rfl⟩
  repeat' (first|apply qm|apply qg|apply qf|apply qh|(apply q5;(iterate 3 exact rfl))|(apply qc;exact rfl;apply xl;exact cAo)|apply vj|apply qx|(refine qi Tryz.call171 (qeu st _ _ _ _ 0 1 0 _ _ rfl rfl rfl) ?_))
  exact qo rfl (vz rfl) ⟨rfl,qdg _ _ _ _⟩
 ·rintro pre x rest _ hr ⟨q,hq,t,ext,rfl⟩
  have hlen:b.length=pre.length+(rest.length+1):=by rw [hr];simp
  have hget:(b.map xd)[pre.length]? = some (xd x):=by rw [hr];simp
  have hxb:=hB x (by rw [hr];simp)
  have hxg:=hg x (by rw [hr];simp)
  obtain⟨hfl,hfg⟩:=qme hxg
  have hpl:=qnz pre (fun y hy=>hB y (by rw [hr];simp [hy])) (fun y hy=>hg y (by rw [hr];simp [hy]))
  have hll:=qs9 x hxb.id1 hxb.id2
  have hfo:=qfa x.fields hfg
  have hin:=qna (jk x.fields)
  repeat' (first|apply qm|apply q8|apply qg|apply qf|apply qk|apply qh|(apply ze;exact rfl;exact rfl)|(apply q5;(iterate 3 exact rfl))|(apply qc;exact rfl;apply xm;exact cAo)|(apply qc;exact rfl;apply cd_f;exact cRa)|(apply kp;exact rfl;exact rfl;exact cOs)|(apply vi;exact rfl;exact rfl)|(apply jm;exact rfl;exact rfl)|(apply zf;(iterate 3 exact rfl))|(apply jv;(iterate 3 exact rfl))|(apply jr;(iterate 5 exact rfl))|(apply zv;(iterate 11 exact rfl))|(apply xb;(iterate 9 exact rfl))|apply qz|(apply qi;exact Tryz.call167;exact qpy _ _ hfl hfg)|(apply qi;exact Tryz.call169;exact zcp _ _ hxb.id1 hxb.id2)|(apply qi;exact Tryz.call170;exact q7c _ _ _ (by omega) (by decide))|(apply kg (n:=pre.length);(iterate 5 exact rfl);exact hget))
  refine qi Tryz.call168 (qfw st _ _ _ _ 0 1 0 _ _ _ rfl rfl ?_ ?_ rfl) ?_;(exact hq);(simp only [List.length_append,List.length_cons,List.length_nil];omega)
  repeat' (first|apply qg|apply qf|apply qk|(apply z7;exact rfl;exact rfl;exact zj (by omega) (by omega)))
  refine⟨_,.inr rfl,qfg ⟨rfl,rfl,rfl,?_,trivial⟩ ?_⟩
  ·rw [qeo pre x];rfl
  ·have e:encF (pre++[x])=encF pre++((vc x++[10])++ye [32,32] (jk x.fields)):=by rw [q61,q62];rfl
   rw [e];rfl
theorem qhr (b:List qq) (st:List AObj) (e:ErrV) (hB:∀ x∈b,EdB x) (hl:b.length<9223372036854775808) (he:eErr b=e) (h0:e.code≠0):ql E 103 [ku b] st fun r st'=>r = .tu [Sv [],errA e]∧st'=st:=by
 refine q6 (jq (qu _) (j6 _)) (qp Tryz.func103 rfl (Nat.le_of_ble_eq_true rfl) ?_)
 cases e with
 |no=>exact absurd rfl h0
 |num n=>
  repeat' (first|apply qm|apply qg|apply qf|apply qk|apply qh|(apply qc;exact rfl;apply cd_t;exact cRa)|(apply wd;exact rfl;exact rfl)|apply qx|(apply qi;exact Tryz.call92;exact qjd _ _ _ he hB hl))
  exact qo rfl (vz rfl) ⟨rfl,_,rfl⟩
 |at' a n=>
  repeat' (first|apply qm|apply qg|apply qf|apply qk|apply qh|(apply qc;exact rfl;apply cd_t;exact cRa)|(apply wd;exact rfl;exact rfl)|apply qx|(apply qi;exact Tryz.call92;exact qjd _ _ _ he hB hl))
  exact qo rfl (vz rfl) ⟨rfl,_,rfl⟩
end Go.Proofs.YtneejjefekdgjaaGreatDoor
namespace Go.Av
open Go Go.RowKit
theorem qot {b:Nat} {st l:List AObj} {sz:Nat} {T:TypeId} {xs:List AV} {c:AV} (h:TipO b st sz T xs c):TipO b (st++l) sz T xs c:=by
 rcases h with h|h
 ·exact .inl (qhb h)
 ·exact .inr h
theorem qzw {b:Nat} {st st':List AObj} {sz:Nat} {T:TypeId} {xs:List AV} {c:AV} (hs:∀ (t m sz:Nat) (T:TypeId),st[t]? = some (AObj.tip m sz T)→st'[t]? = st[t]?) (h:TipO b st sz T xs c):TipO b st' sz T xs c:=by
 rcases h with (h | ⟨t,h1,h2,h3⟩)|h
 ·exact .inl (.inl h)
 ·exact .inl (.inr ⟨t,h1,(hs t _ _ _ h2).trans h2,h3⟩)
 ·exact .inr h
end Go.Av
namespace Go.Proofs.YtneejjefekdgjaaGreatDoor
open Go Go.Av Go.RowKit Go.Proofs Go.Pl
theorem qej {st l:List AObj}:st.length≤(st++l).length:=by simp
theorem qtt {b o:Nat} {st:List AObj} {sz:Nat} {T:TypeId} {xs:List AV} {c:AV} {x:AObj} (h:TipO b st sz T xs c) (hn:qg6 st[o]?):TipO b (st.set o x) sz T xs c:=
 qzw (fun t m sz T ht=>List.getElem?_set_ne (fun e=>by subst e;exact hn _ _ _ ht)) h
structure OutI (st:List AObj) (S:List AObj):Prop where
 low:∀ j,j<st.length→S[j]? = st[j]?
 len:st.length≤S.length
theorem OutI.pre {st S l:List AObj} (h:OutI st S):OutI st (S++l):=⟨fun j hj=>(List.getElem?_append_left (by have:=h.len;omega)).trans (h.low j hj),by have:=h.len;simp;omega⟩
theorem OutI.set {st S:List AObj} {o:Nat} {x:AObj} (h:OutI st S) (ho:st.length≤o):OutI st (S.set o x):=⟨fun j hj=>(qm7 (by omega)).trans (h.low j hj),by have:=h.len;simp;omega⟩
theorem OutI.fr {st S S':List AObj} {t:Nat} (h:OutI st S) (hf:Fr S S' t) (ht:st.length≤t):OutI st S':=⟨fun j hj=>(hf.same j (by omega) (by have:=h.len;omega)).trans (h.low j hj),Nat.le_trans h.len hf.len⟩
theorem OutI.ext {st S:List AObj} (h:OutI st S):∃ ext,S=st++ext:=qrq h.low
theorem qax {E:Env} {rd:Option Nat} {N:Nat} {ops:Array Oper} {K:AS→Prop} {s:AS} {rest:List Oper} {d:Option Tmp} {T:TypeId} {p:String} {af:Array Edge} {t e:TypeId} {len sz:Nat} {agg:Bool} {parts:Array (Nat×Operand)} {zs cs:List AV} {st:List AObj} (hst:s.st=st) (hu:E.P.underlying t=some (.slice e)) (ht:tyOf E.P e=some (sz,agg)) (hz:qd7 E.P e len=some zs)
  (hf:qa2 (fun i=>some (i * sz,sz)) zs (vf N s parts)=some cs) (hsz:Nat.ble (len * sz) 16777216=true)
  (h:AOps E rd N ops rest K (AS.put ⟨s.t,st++[.cells 0 e cs],s.df⟩ d (.os st.length 0 0 len len))):AOps E rd N ops (⟨d,.buildSlice t len parts,T,p,af,none⟩::rest) K s:=
 qaw (loc:=[]) (by rw [hst];simp) hu ht hz hf hsz h
theorem qib (x:qq):qi4 (xd x):=fun y hy=>by
 simp only [AV.cells,List.mem_cons,List.not_mem_nil,or_false] at hy
 rcases hy with rfl|rfl|rfl
 ·exact qu _
 ·exact qu _
 ·exact qa3 _
theorem qic (b:List qq):Pure (ku b):=qbh fun x hx=>by
 obtain⟨f,_,rfl⟩:=List.mem_map.1 hx
 exact qib f
theorem q7l {α β : Type} (g : α→β) (l:List α) (a : α):(l++[a]).map g=l.map g++[g a]:=by simp
def tryB (k:Int) (l:qa):Option Int:=if y6 k <+: l then (match Lib.atoiAll (l.drop (y6 k).length) with
 | .ok n=>some n
 | _=>none) else none
def begE (l:qa):Option (Int×Int):=match tryB 1 l with
 |some n=>some (1,n)
 |none=>match tryB 2 l with
  |some n=>some (2,n)
  |none=>match tryB 3 l with
   |some n=>some (3,n)
   |none=>none
def begA:Option (Int×Int)→AV
 |some (k,n)=>.tu [xd ⟨k,n,[]⟩,Bv true]
 |none=>.tu [xd ⟨0,0,[]⟩,Bv false]
theorem q2w (x:Option (Int×Int)):Pure (begA x):=by
 rcases x with _ | ⟨k,n⟩
 ·exact jq (qcz (qib _)) (qu _)
 ·exact jq (qcz (qib _)) (qu _)
theorem qtv (k n:Int):Weak (.ag [Iv k,Iv n,zl]) (xd ⟨k,n,[]⟩):=
 zbr rfl fun i x y hx hy=>by
  match i with
  | 0=>simp at hx hy;subst hx;subst hy;exact y9 _
  | 1=>simp at hx hy;subst hx;subst hy;exact y9 _
  | 2=>simp at hx hy;subst hx;subst hy;exact qd6 2
  |i+3=>simp at hx
theorem q0u (l m:qa) (st:List AObj) (h:m <+: l):ql E 260 [Sv l,Sv m] st fun r st'=>r = .tu [Sv (l.drop m.length),Bv true]∧st'=st:=by
 have:=qcr l m st
 rw [qbb h,(ww l m).2 h] at this
 exact this
theorem q0v (l m d:qa) (st:List AObj) (h:m <+: l) (hd:l.drop m.length=d):ql E 260 [Sv l,Sv m] st fun r st'=>r = .tu [Sv d,Bv true]∧st'=st:=by
 subst hd
 exact q0u l m st h
theorem q0t (l m:qa) (st:List AObj) (h:¬ m <+: l):ql E 260 [Sv l,Sv m] st fun r st'=>r = .tu [Sv l,Bv false]∧st'=st:=by
 have:=qcr l m st
 have hf:Lib.hasPrefix l m=false:=by
  cases hb:Lib.hasPrefix l m with
  |false=>rfl
  |true=>exact absurd ((ww l m).1 hb) h
 have ht:Lib.trimPrefix l m=l:=by
  unfold Lib.trimPrefix
  rw [if_neg (by simp [hf])]
 rw [ht,hf] at this
 exact this
theorem q9q {l:qa} {k:Nat} {n:Int} (h1:1≤k) (h3:k≤3) (h:∀ j:Nat,1≤j→j<k→tryB j l=none) (hk:tryB k l=some n):begE l=some ((k:Int),n):=by
 have:k=1∨k=2∨k=3:=by omega
 rcases this with rfl|rfl|rfl
 ·have hk1:tryB 1 l=some n:=hk
  simp [begE,hk1]
 ·have e1:tryB 1 l=none:=h 1 (by omega) (by omega)
  have hk1:tryB 2 l=some n:=hk
  simp [begE,e1,hk1]
 ·have e1:tryB 1 l=none:=h 1 (by omega) (by omega)
  have e2:tryB 2 l=none:=h 2 (by omega) (by omega)
  have hk1:tryB 3 l=some n:=hk
  simp [begE,e1,e2,hk1]
theorem q2y {l:qa} (h:∀ j:Nat,1≤j→j<4→tryB j l=none):begE l=none:=by
 have e1:tryB 1 l=none:=h 1 (by omega) (by omega)
 have e2:tryB 2 l=none:=h 2 (by omega) (by omega)
 have e3:tryB 3 l=none:=h 3 (by omega) (by omega)
 simp [begE,e1,e2,e3]
theorem q51 {k:Nat} (h1:1≤k) (h3:k≤3):qab (k:Int)≠[]∧([32]++qab (k:Int))++[32]=y6 (k:Int)∧(qab (k:Int)).length≤10:=by
 have:k=1∨k=2∨k=3:=by omega
 rcases this with rfl|rfl|rfl <;> decide
set_option maxHeartbeats 2000000 in
theorem q9s (l:qa) (st:List AObj) (hl:l.length<1000000):ql E 207 [Sv l] st fun r st'=>r=begA (begE l)∧st'=st:=by
 refine q6 (q2w _) (qp Tryz.func207 rfl (Nat.le_of_ble_eq_true rfl) ?_)
 repeat' (first|apply qm|apply q8|apply qg|apply qf|apply qh|(apply jm;exact rfl;exact rfl))
 refine wy (fun (k:Nat) s=>1≤k∧k≤4∧(∀ j:Nat,1≤j→j<k→tryB j l=none)∧StE [(0,Sv l),(2,.bx (st.length+0) 0 0),(4,Iv k)] st [.cells 0 113 [Iv 0,Iv 0,zl]] s) (fun k=>4 - k) 1 ⟨by omega,by omega,fun j h1 h2=>by omega,qi1 ⟨rfl,rfl,rfl,trivial⟩ rfl⟩ ?_
 rintro k _ ⟨hk1,hk4,hno,t,ext,rfl⟩
 by_cases h4:k=4
 ·subst h4
  have hw:qab ((4:Nat):Int)=[]:=by decide
  rw [q2y hno]
  repeat' (first|apply qm|apply qg|apply qf|apply qk|apply qh|(apply jl;(iterate 3 exact rfl))|(apply qc;exact rfl;apply cd_f;exact cRa)|(apply qd8;(iterate 11 exact rfl))|(apply x2;(iterate 3 exact rfl))|apply vj|apply qx|(apply qi;exact Tryz.call239;exact qq8 _ _))
  refine qo rfl (wn (qmy rfl rfl rfl rfl rfl rfl) (qdb (qtv 0 0) (y9 _))) ⟨rfl,qdg _ _ _ _⟩
 ·obtain⟨hw,hm,hwl⟩:=q51 hk1 (by omega)
  by_cases hp:y6 (k:Int) <+: l
  ·have hp':([32]++qab (k:Int))++[32] <+: l:=by rw [hm];exact hp
   obtain⟨d,hd0⟩:∃ d,d=l.drop (y6 (k:Int)).length:=⟨_,rfl⟩
   have hd:l.drop ((([32]:qa)++qab (k:Int))++[32]).length=d:=by rw [hm,hd0]
   have hdl:d.length<1000000:=by rw [hd0,List.length_drop];omega
   repeat' (first|apply qm|apply q8|apply qg|apply qf|apply qk|apply qh|(apply ze;exact rfl;exact rfl)|(apply jl;(iterate 3 exact rfl))|(apply qc;exact rfl;apply xm;exact cAo)|(apply kp;exact rfl;exact rfl;exact cOs)|apply qz|(apply qi;exact Tryz.call239;exact qq8 _ _)|(apply qi;exact Tryz.call260;exact q0v _ _ _ _ hp' hd))
   refine qdc Tryz.call73 ((qku d _ (by omega)).mono ?_)
   rintro _ _ ⟨rfl,n,x,rfl,hx⟩
   rw [hd0] at hx
   rcases x with _ | ⟨t',y⟩
   ·simp only at hx
    have htr:tryB (k:Int) l=some n:=by unfold tryB;rw [if_pos hp,hx]
    rw [q9q hk1 (by omega) hno htr]
    repeat' (first|apply qm|apply qg|apply qf|apply qk|apply qh|(apply ze;exact rfl;exact rfl)|(apply za;(iterate 4 exact rfl))|(apply qc6;exact cRa)|(apply qn;exact rfl;apply pk_t;exact cRa)|(apply qc;exact rfl;apply cd_t;exact cRa)|(apply qfj;exact rfl;exact rfl)|(apply qd8;(iterate 11 exact rfl))|(apply x2;(iterate 3 exact rfl))|apply qx)
    refine qo rfl (wn (qmy rfl rfl rfl rfl rfl rfl) (qdb (qtv k n) (y9 _))) ⟨rfl,qdg _ _ _ _⟩
   ·simp only at hx
    have htr:tryB (k:Int) l=none:=by
     unfold tryB
     rw [if_pos hp]
     split
     ·rename_i v hv;exact absurd hv (hx v)
     ·rfl
    repeat' (first|apply qm|apply qg|apply qf|apply qk|apply qh|(apply ze;exact rfl;exact rfl)|(apply za;(iterate 4 exact rfl))|(apply qc6;exact cRa)|(apply qn;exact rfl;apply pk_t;exact cRa)|(apply qc;exact rfl;apply cd_f;exact cRa)|(apply z7;exact rfl;exact rfl;exact zj (by omega) (by omega))|(apply qfh;exact rfl;exact rfl)|apply qz)
    refine⟨k+1,⟨by omega,by omega,fun j h1 h2=>?_,qfg ⟨rfl,rfl,rfl,trivial⟩ rfl⟩,by omega⟩
    by_cases hjk:j=k
    ·subst hjk;exact htr
    ·exact hno j h1 (by omega)
  ·have hp':¬ ([32]++qab (k:Int))++[32] <+: l:=by rw [hm];exact hp
   have htr:tryB (k:Int) l=none:=by unfold tryB;rw [if_neg hp]
   repeat' (first|apply qm|apply q8|apply qg|apply qf|apply qk|apply qh|(apply ze;exact rfl;exact rfl)|(apply jl;(iterate 3 exact rfl))|(apply qc;exact rfl;apply xm;exact cAo)|(apply kp;exact rfl;exact rfl;exact cOs)|apply qz|(apply qi;exact Tryz.call239;exact qq8 _ _)|(apply qi;exact Tryz.call260;exact q0t _ _ _ hp'))
   refine qdc Tryz.call73 ((qku l _ (by omega)).mono ?_)
   rintro _ _ ⟨rfl,n,x,rfl,hx⟩
   rcases x with _ | ⟨t',y⟩
   all_goals
    repeat' (first|apply qm|apply qg|apply qf|apply qk|apply qh|(apply ze;exact rfl;exact rfl)|(apply za;(iterate 4 exact rfl))|(apply qbz;exact cRa)|(apply qn;exact rfl;apply pk_f;exact cRa)|(apply qc;exact rfl;apply cd_f;exact cRa)|(apply z7;exact rfl;exact rfl;exact zj (by omega) (by omega))|apply qz)
    refine⟨k+1,⟨by omega,by omega,fun j h1 h2=>?_,qfg ⟨rfl,rfl,rfl,trivial⟩ rfl⟩,by omega⟩
    by_cases hjk:j=k
    ·subst hjk;exact htr
    ·exact hno j h1 (by omega)
def recsF (its:List qt):List (List Fld):=(its.filter fun x=>decide (x.kind=3)).map qt.fields
@[reducible] def q88 (ls : List (List Fld)) : AV := .sl 1 (ls.map vm) none
theorem q12 (ls:List (List Fld)):Pure (q88 ls):=qbh fun x hx=>by
 obtain⟨f,_,rfl⟩:=List.mem_map.1 hx
 intro y hy
 simp only [AV.cells,List.mem_cons,List.not_mem_nil,or_false] at hy
 subst hy
 exact qa3 _
theorem qym (l:List qt) (x:qt) (h:x.kind=3):recsF (l++[x])=recsF l++[x.fields]:=by simp [recsF,h]
theorem qyn (l:List qt) (x:qt) (h:¬ x.kind=3):recsF (l++[x])=recsF l:=by simp [recsF,h]
theorem zbp {b t1:Nat} {st st':List AObj} {sz:Nat} {T:TypeId} {xs:List AV} {c c0:AV} {sz0:Nat} {xs0:List AV} (hf:Fr st st' t1) (hid:c0 = .sl sz0 xs0 (some t1)∨st.length≤t1) (h0:∀ t,c0≠.sl sz0 xs0 (some t)) (h:TipO b st sz T xs c):TipO b st' sz T xs c:=
 qzw (fun t m sz T ht=>hf.same t (fun e=>by
  subst e
  rcases hid with hid|hid
  ·exact h0 _ hid
  ·have:=lt_of_getElem? ht;omega) (lt_of_getElem? ht)) h
theorem q8v {b t1:Nat} {st st':List AObj} {sz:Nat} {T:TypeId} {xs:List AV} {c:AV} {sz0:Nat} {xs0:List AV} {o v f l k:Nat} (hf:Fr st st' t1) (hid:AV.os o v f l k = .sl sz0 xs0 (some t1)∨st.length≤t1) (h:TipO b st sz T xs c):TipO b st' sz T xs c:=
 zbp hf hid (by simp) h
set_option maxHeartbeats 2000000 in
theorem q5j (its:List qt) (st:List AObj) (hl:its.length<1000000) (hf:∀ x∈its,x.fields.length<1000000):ql E 24 [wh its] st fun r st'=>r=q88 (recsF its)∧st'=st:=by
 refine q6 (q12 _) (qp Tryz.func24 rfl (Nat.le_of_ble_eq_true rfl) ?_)
 have hml:(its.map vh).length=its.length:=by simp
 rw [List.append_nil]
 repeat' (first|apply qm|apply q8|apply qg|apply qf|apply qk|apply qh|(apply jp;(iterate 4 exact rfl)))
 refine qde its (fun pre s=>∃ c S,OutI st S∧TipO st.length S 1 50 ((recsF pre).map vm) c∧StA [(3,c),(6,wh its),(7,Iv its.length),(8,Iv pre.length)] S [] s) ⟨_,st,⟨fun _ _=>rfl,Nat.le_refl _⟩,qxk ..,wa ⟨rfl,rfl,congrArg (fun n:Nat=>Iv (n:Int)) hml,rfl,trivial⟩⟩ ?_ ?_
 ·rintro _ ⟨c,S,hO,hT,t,rfl⟩
  repeat' (first|apply qm|apply qg|apply qf|apply qk|apply qh|(apply q5;(iterate 3 exact rfl))|(apply qc;exact rfl;apply xl;exact cAo)|apply vj|apply qx)
  exact qo rfl (wn (zi rfl) (qj2 hT)) ⟨rfl,hO.ext⟩
 ·rintro pre x rest _ hr ⟨c,S,hO,hT,t,rfl⟩
  have hlen:its.length=pre.length+(rest.length+1):=by rw [hr];simp
  have hget:(its.map vh)[pre.length]? = some (vh x):=by rw [hr];simp
  have hxf:=hf x (by rw [hr];simp)
  have hpl:(recsF pre).length≤pre.length:=by unfold recsF;rw [List.length_map];exact List.length_filter_le _ _
  have hSl:=hO.len
  have hO1:OutI st ((S++[AObj.cells 0 52 [Iv 0,Sv [],zl]]).set S.length (.cells 0 52 (vh x).cells)):=hO.pre.set hSl
  have hT1:TipO st.length ((S++[AObj.cells 0 52 [Iv 0,Sv [],zl]]).set S.length (.cells 0 52 (vh x).cells)) 1 50 ((recsF pre).map vm) c:=qtt (qot hT) (x7 wt)
  have hob:((S++[AObj.cells 0 52 [Iv 0,Sv [],zl]]).set S.length (.cells 0 52 (vh x).cells))[S.length]? = some (.cells 0 52 (vh x).cells):=js wt
  by_cases h3:x.kind=3
  ·skip
   repeat' (first|(apply qax (st:=(S++[AObj.cells 0 52 [Iv 0,Sv [],zl]]).set S.length (.cells 0 52 (vh x).cells));(iterate 6 exact rfl))|(apply q2l 19 rfl (qj2 g1);apply xb;(iterate 9 exact rfl))|apply qm|apply q8|apply qg|apply qf|apply qk|apply qh|(apply q5;(iterate 3 exact rfl))|(apply qc;exact rfl;apply xm;exact cAo)|(apply z7;exact rfl;exact rfl;exact zj (by omega) (by omega))|(apply zf;(iterate 3 exact rfl))|(apply jv;(iterate 3 exact rfl))|apply qz|(apply j8;exact rfl;exact hob;exact rfl;exact rfl)|(apply j8;exact rfl;exact qac hob;exact rfl;exact rfl)|(apply qh8 (st:=S);exact rfl;exact rfl)|(apply xk;exact rfl;exact rfl;(focus first|assumption|(repeat' (first|assumption|exact wt|exact jb rfl|apply js|apply j9|omega|apply qac)));(iterate 6 exact rfl))|(apply kg (n:=pre.length);(iterate 5 exact rfl);exact hget)|(apply qgm (b:=st.length) (xs:=[]) (ys:=x.fields.map fldA) (bytes:=32);(iterate 5 exact rfl);exact⟨⟨_,_,rfl,rfl,rfl,rfl,rfl⟩⟩;exact qzx _ _ _ _ _ _ _;(exact Nat.le_trans hO1.len qej);(first|exact rfl|exact qav fun _=>rfl);((simp [maxLen];omega));((simp;omega));intro c1 S1 t1 g1 g2 g3 g4)|(apply qgm (b:=st.length) (xs:=(recsF pre).map vm) (ys:=[vm x.fields]) (bytes:=24);(iterate 5 exact rfl);exact⟨⟨_,_,rfl,rfl,rfl,rfl,rfl⟩⟩;exact q8v g2 g4 (qot hT1);(exact (hO1.pre.fr g2 g3).len);(first|exact rfl|exact qav fun _=>rfl);((simp [maxLen];omega));((simp;omega));intro c2 S2 t2 k1 k2 k3 k4))
   exact⟨c2,S2,(hO1.pre.fr g2 g3).fr k2 k3,by rw [qym _ _ h3,q7l];exact k1,wa ⟨rfl,rfl,rfl,qrr pre x,trivial⟩⟩
  ·skip
   repeat' (first|apply qm|apply q8|apply qg|apply qf|apply qk|(apply q5;(iterate 3 exact rfl))|(apply qc;exact rfl;apply xm;exact cAo)|(apply qc;exact rfl;apply xl;exact cAo)|(apply z7;exact rfl;exact rfl;exact zj (by omega) (by omega))|(apply zf;(iterate 3 exact rfl))|(apply jv;(iterate 3 exact rfl))|apply qz|(apply j8;exact rfl;exact hob;exact rfl;exact rfl)|(apply qh8 (st:=S);exact rfl;exact rfl)|(apply xk;exact rfl;exact rfl;(focus first|assumption|(repeat' (first|assumption|exact wt|exact jb rfl|apply js|apply j9|omega|apply qac)));(iterate 6 exact rfl))|(apply kg (n:=pre.length);(iterate 5 exact rfl);exact hget))
   exact⟨c,_,hO1,by rw [qyn _ _ h3];exact hT1,wa ⟨rfl,rfl,rfl,qrr pre x,trivial⟩⟩
end Go.Proofs.YtneejjefekdgjaaGreatDoor
namespace Go.Pl
open Go Go.Proofs Go.Proofs.YtneejjefekdgjaaGreatDoor
def GF (fs:List Fld):Prop:=fs.length≤40∧∀ f∈fs,jt f
structure PI (p:PSt):Prop where
 items:∀ x∈p.items,GF x.fields∧(x.kind=3↔x.fields≠[])
 fields:GF p.fields
 full:p.lines≠[]→p.full=false→p.fields.length<40
theorem qyv {ls:List qa} (h:(jh ls).2=0):jt (jh ls).1:=by
 unfold jh at h ⊢
 split at h
 ·split at h
  ·simp at h
  ·rename_i h1 h2
   rw [if_pos h1,if_neg h2]
   exact⟨(qlh.1 h1.2.1).2.2,Nat.le_of_not_lt h2⟩
 ·simp at h
theorem pi0:PI p0:=⟨by simp [p0],⟨by simp [p0],by simp [p0]⟩,by simp [p0]⟩
theorem PI.flush {p:PSt} (h:PI p):PI (jc p).2:=by
 unfold jc
 split
 ·exact h
 ·rename_i hl
  split
  ·exact h
  ·rename_i hu
   split
   ·exact h
   ·rename_i hf
    have hlt:=h.full hl (by simpa using hf)
    refine⟨h.items,⟨by simp;omega,fun f hm=>?_⟩,by simp⟩
    rcases List.mem_append.1 hm with hm|hm
    ·exact h.fields.2 f hm
    ·simp at hm;subst hm;exact qyv (by simpa using hu)
theorem PI.close {p:PSt} (h:PI p):PI (wz p):=by
 unfold wz
 split
 ·exact⟨h.items,⟨by simp,by simp⟩,fun h1 h2=>by simp⟩
 ·refine⟨fun x hx=>?_,⟨by simp,by simp⟩,fun h1 h2=>by simp⟩
  rcases List.mem_append.1 hx with hx|hx
  ·exact h.items x hx
  ·simp at hx
   subst hx
   refine⟨h.fields,?_⟩
   simp only
   split
   ·rename_i h0;simp [h0]
   ·rename_i h0;simp [h0]
theorem PI.end' {p:PSt} (h:PI p):PI (endP p).2:=by
 unfold endP
 split
 ·exact h
 ·exact h.flush.close
theorem PI.lines' {p:PSt} (h:PI p) (hl:p.lines≠[]) (text:qa):PI { p with lines:=p.lines++[text] }:=⟨h.items,h.fields,fun _ hf=>h.full hl hf⟩
theorem PI.begin' {p:PSt} (h:PI p) (no:Int) (text:qa):PI (jy p no text):=by
 refine⟨h.items,h.fields,fun _ hf=>?_⟩
 have:=h.fields.1
 simp only [jy,decide_eq_false_iff_not,not_or] at hf ⊢
 omega
theorem PI.ahead {p:PSt} (h:PI p) (no:Int) (text:qa) (ended:Bool) (kind:Int):PI (z0 p no text ended kind).2:=by
 unfold z0
 split
 ·split
  ·exact h
  ·rename_i hl
   split
   ·exact h.lines' hl text
   ·exact (h.lines' hl text).flush
 ·split
  ·exact h.end'
  ·exact h.flush
theorem PI.take {p:PSt} (h:PI p) (no:Int) (text:qa) (ended:Bool):PI (vt p no text ended).2:=by
 have ha:=h.ahead no text ended (qr text)
 unfold vt
 split
 ·exact h
 ·split
  ·exact h
  ·split
   ·refine⟨fun x hx=>?_,ha.fields,ha.full⟩
    rcases List.mem_append.1 hx with hx|hx
    ·exact ha.items x hx
    ·simp at hx;subst hx;exact⟨⟨by simp,by simp⟩,by simp⟩
   ·split
    ·have hb:=ha.begin' no text
     exact⟨hb.items,hb.fields,hb.full⟩
    ·exact⟨ha.items,ha.fields,ha.full⟩
theorem PI.run:∀ (ls:List (qa×Bool)) (k:Nat) (p:PSt),PI p→PI (runL k ls p).2
 | [],k,p,h=>h.end'
 |(t,e)::r,k,p,h=>by
  unfold runL
  split
  ·exact h
  ·exact PI.run r (k+1) _ (h.take k t e)
theorem qnf (text:qa):∀ x∈(zn text).2,GF x.fields∧(x.kind=3↔x.fields≠[]):=by
 unfold zn
 split
 ·simp
 ·exact (PI.run _ 0 _ pi0).items
theorem qvh (p:PSt):(wz p).items.length≤p.items.length+1:=by
 unfold wz
 split <;> simp
theorem qgu (p:PSt):(jc p).2.items=p.items:=by
 unfold jc
 split
 ·rfl
 ·split
  ·rfl
  ·split <;> rfl
theorem qps (p:PSt):(endP p).2.items.length≤p.items.length+1:=by
 unfold endP
 split
 ·simp
 ·have:=qvh (jc p).2
  rw [qgu] at this
  exact this
theorem quq (p:PSt) (no:Int) (text:qa) (ended:Bool) (kind:Int):(z0 p no text ended kind).2.items.length≤p.items.length+1:=by
 unfold z0
 split
 ·split
  ·simp
  ·split
   ·simp
   ·rw [qgu];simp
 ·split
  ·exact qps p
  ·rw [qgu];simp
theorem qyt (p:PSt) (no:Int) (text:qa) (ended:Bool):(vt p no text ended).2.items.length≤p.items.length+2:=by
 have ha:=quq p no text ended (qr text)
 unfold vt
 split
 ·simp
 ·split
  ·simp
  ·split
   ·simp;omega
   ·split
    ·simp [jy];omega
    ·simp;omega
theorem qgc:∀ (ls:List (qa×Bool)) (k:Nat) (p:PSt),(runL k ls p).2.items.length≤p.items.length+2 * ls.length+1
 | [],k,p=>by have:=qps p;simp [runL];omega
 |(t,e)::r,k,p=>by
  unfold runL
  split
  ·simp;omega
  ·have h1:=qgc r (k+1) (vt p k t e).2
   have h2:=qyt p k t e
   simp only [List.length_cons]
   omega
theorem q4s (text:qa):(zn text).2.length≤2 * text.length+1:=by
 unfold zn
 split
 ·simp
 ·have h1:=qgc (zb text) 0 p0
  have h2:=(qdk _ text (Nat.le_refl _)).2
  have h3:p0.items.length=0:=rfl
  simp only
  omega
theorem q0w (by' l:qa):(kl by' l).1.length≤l.length:=by
 unfold kl
 split
 ·have h:=(qdk _ l (Nat.le_refl _)).1
  have key:∀ (ls:List (qa×Bool)),(ls.flatMap fun x=>x.1.drop by'.length++xi x.2).length≤lsum ls:=by
   intro ls
   induction ls with
   |nil=>simp [lsum]
   |cons x r ih=>
    simp only [lsum,List.flatMap_cons,List.length_append,List.map_cons,List.sum_cons,List.length_drop] at ih ⊢
    omega
  have:=key (zb l)
  simp only
  omega
 ·simp
end Go.Pl
namespace Go.Proofs.YtneejjefekdgjaaGreatDoor
open Go Go.Av Go.RowKit Go.Proofs Go.Pl
theorem qj3 (text:qa) (st:List AObj) (hl:text.length≤60000) (h:(zn text).1=none):ql E 23 [Sv text] st fun r st'=>r = .tu [wh (zn text).2,.v .nilIface]∧st'=st:=by
 have:=qoo text st hl
 unfold qb6 at this
 rw [h] at this
 exact this
theorem qyr (text:qa) (st:List AObj) (a n:Int) (hl:text.length≤60000) (h:(zn text).1=some (a,n)):ql E 23 [Sv text] st fun r st'=>r = .tu [wh (zn text).2,.ifc 121 (.pp [Iv a,.ifc 62 (Iv n)])]∧st'=st:=by
 have:=qoo text st hl
 unfold qb6 at this
 rw [h] at this
 exact this
def qbv (text:qa):List Fld×Bool:=
 if (kl [32,32] text).2=false∨(zn (kl [32,32] text).1).1≠none then ([],false)
 else match recsF (zn (kl [32,32] text).1).2 with
  | []=>([],decide ((kl [32,32] text).1=[]))
  |f::_=>(f,decide ((zn (kl [32,32] text).1).2.length=1))
theorem zdt {a b:List Fld} {c d:Bool} (h1:a=b) (h2:c=d):AV.tu [vm a,Bv c]=AV.tu [vm b,Bv d]:=by rw [h1,h2]
theorem q1y {its:List qt} (h:∀ x∈its,GF x.fields∧(x.kind=3↔x.fields≠[])):∀ fs∈recsF its,GF fs∧fs≠[]:=fun fs hfs=>by
 obtain⟨x,hx,rfl⟩:=List.mem_map.1 hfs
 obtain⟨hx1,hx2⟩:=List.mem_filter.1 hx
 have:=h x hx1
 exact⟨this.1,this.2.1 (by simpa using hx2)⟩
set_option maxHeartbeats 2000000 in
theorem q64 (text:qa) (st:List AObj) (hl:text.length≤60000):ql E 208 [Sv text] st fun r st'=>r = .tu [vm (qbv text).1,Bv (qbv text).2]∧st'=st:=by
 refine q6 (jq (qa3 _) (qu _)) (qp Tryz.func208 rfl (Nat.le_of_ble_eq_true rfl) ?_)
 have hdl:=q0w [32,32] text
 have hpl:=q4s (kl [32,32] text).1
 have hit:=qnf (kl [32,32] text).1
 unfold qbv
 obtain⟨d,hd⟩:∃ d,d=kl [32,32] text:=⟨_,rfl⟩
 have hdc:∀ st,ql E 264 [Sv text,Sv [32,32]] st fun r st'=>r = .tu [Sv d.1,Bv d.2]∧st'=st:=fun st=>by rw [hd];exact qvk text [32,32] st (by omega)
 rw [← hd] at hdl hpl hit ⊢
 obtain⟨b,ok⟩:=d
 simp only at hdl hpl hit hdc ⊢
 cases hp:(zn b).1 with
 |some e=>
  obtain⟨a,n⟩:=e
  rw [if_pos (.inr (by simp))]
  cases ok
  all_goals
   repeat' (first|apply qm|apply qg|apply qf|apply qk|apply qh|(apply ze;exact rfl;exact rfl)|(apply jf;exact rfl)|(apply za;(iterate 4 exact rfl))|(apply qas;exact cRa)|(apply qca;exact cRa)|(apply qn;exact rfl;apply qjx;exact cRa)|(apply qn;exact rfl;apply qf9;exact cRa)|(apply qc;exact rfl;apply cd_t;exact cRa)|(apply wd;exact rfl;exact rfl)|apply qx|(apply qi;exact Tryz.call264;exact hdc _)|(apply qi;exact Tryz.call23;exact qyr _ _ _ _ (by omega) hp))
   exact qo rfl (wn (vz rfl) (qdb (qd6 2) (y9 (Bv false)))) ⟨rfl,_,rfl⟩
 |none=>
  cases ok
  ·rw [if_pos (.inl rfl)]
   repeat' (first|apply qm|apply qg|apply qf|apply qk|apply qh|(apply ze;exact rfl;exact rfl)|(apply jf;exact rfl)|(apply za;(iterate 4 exact rfl))|(apply qca;exact cRa)|(apply qn;exact rfl;apply qjx;exact cRa)|(apply qc;exact rfl;apply cd_t;exact cRa)|apply qx|(apply qi;exact Tryz.call264;exact hdc _)|(apply qi;exact Tryz.call23;exact qj3 _ _ (by omega) hp))
   exact qo rfl (wn (vz rfl) (qdb (qd6 2) (y9 (Bv false)))) ⟨rfl,_,rfl⟩
  ·rw [if_neg (by simp)]
   have hsc:=fun st=>q5j (zn b).2 st (by omega) (fun x hx=>by have:=(hit x hx).1.1;omega)
   have hml:((zn b).2.map vh).length=(zn b).2.length:=by simp
   cases hr:recsF (zn b).2 with
   |nil=>
    rw [hr] at hsc
    repeat' (first|apply qm|apply qg|apply qf|apply qk|apply qh|(apply ze;exact rfl;exact rfl)|(apply q5;(iterate 3 exact rfl))|(apply jl;(iterate 3 exact rfl))|(apply jf;exact rfl)|(apply za;(iterate 4 exact rfl))|(apply qas;exact cRa)|(apply qn;exact rfl;apply qf9;exact cRa)|(apply qc;exact rfl;apply cd_t;exact cRa)|(apply qc;exact rfl;apply cd_f;exact cRa)|(apply jp;(iterate 4 exact rfl))|(apply vi;exact rfl;exact rfl)|apply qz|apply qx|(apply qi;exact Tryz.call264;exact hdc _)|(apply qi;exact Tryz.call23;exact qj3 _ _ (by omega) hp)|(apply qi;exact Tryz.call24;exact hsc _))
    exact qo rfl (wn (vz rfl) (qdb (qd6 2) (y9 (Bv (decide (b=[])))))) ⟨rfl,_,rfl⟩
   |cons f r=>
    rw [hr] at hsc
    have hrl:((f::r).map vm).length=r.length+1:=by simp
    repeat' (first|apply qm|apply qg|apply qf|apply qk|apply qh|(apply ze;exact rfl;exact rfl)|(apply q5;(iterate 3 exact rfl))|(apply jf;exact rfl)|(apply za;(iterate 4 exact rfl))|(apply qas;exact cRa)|(apply qn;exact rfl;apply qf9;exact cRa)|(apply qc;exact rfl;apply xl;exact cAo)|(apply qc;exact rfl;apply cd_f;exact cRa)|(apply jp;(iterate 4 exact rfl))|(apply vi;exact rfl;exact rfl)|(apply jv;(iterate 3 exact rfl))|apply qz|apply qx|(apply qi;exact Tryz.call264;exact hdc _)|(apply qi;exact Tryz.call23;exact qj3 _ _ (by omega) hp)|(apply qi;exact Tryz.call24;exact hsc _)|(apply kg (n:=0);(iterate 6 exact rfl)))
    refine qo rfl (vz rfl) ⟨zdt rfl (decide_eq_decide.2 ?_),_,rfl⟩
    rw [hml]
    omega
def w8 (text:qa):List LnV→Nat→List qa
 | [],frm=>[text.drop frm]
 |l::r,frm=>if frm<l.at'∧¬ [32,32] <+: l.text then (text.take l.at').drop frm::w8 text r l.at' else w8 text r frm
def qcv (text:qa):List qa:=w8 text (lns text) 0
theorem q3z (l m:qa) (st:List AObj) (h:m <+: l):ql E 164 [Sv l,Sv m] st fun r st'=>r=Bv true∧st'=st:=by
 have:=qcu l m st
 rw [(ww l m).2 h] at this
 exact this
theorem q3y (l m:qa) (st:List AObj) (h:¬ m <+: l):ql E 164 [Sv l,Sv m] st fun r st'=>r=Bv false∧st'=st:=by
 have:=qcu l m st
 have hf:Lib.hasPrefix l m=false:=by
  cases hb:Lib.hasPrefix l m with
  |false=>rfl
  |true=>exact absurd ((ww l m).1 hb) h
 rw [hf] at this
 exact this
theorem za3 (text:qa) (st:List AObj) (hl:text.length<1000000):ql E 206 [Sv text] st fun r st'=>r=Ss (qcv text)∧st'=st:=by
 refine z4 [.s text] (qzq _) Tryz.func206 rfl rfl (fun _=>rfl) rfl fun S0=>?_
 apply qd []
 repeat' (first|apply And.intro|(intro h;try exact cDd)|exact⟨Tryz.call67⟩|(refine Exists.intro _ ⟨qj4 _,?_⟩)|exact cSd|apply qb []|refine exr ?_|refine qj ?_)
 refine qen (X:=List qa×Nat) text 2 3 [0,1,2] (fun (out,frm)=>⟨[(1,.a (.pp [Sv text])),(3,.bx 0 0),(4,.bx 1 0),(7,.fn (.func 121) [] [.bx 2 0])],
   [(0,some (.cells 136 [.tp 3])),(1,some (.cells 3 [.i frm])),(2,some (.cells 9 [.s text])),(3,some (.tip 1 9 (out.map fun x=>Sv x)))],4⟩) _
  (fun k rest (out,frm)=>∃ a,a+rest.length=text.length∧frm≤a∧out.length≤k∧k≤a∧out++w8 text (w7 k a rest) frm=qcv text) (fun _ _=>False) ([],0) ⟨0,by simp,by omega,by simp,by omega,rfl⟩ ?_ id (by omega) (fun _=>rfl) rfl (fun _=>rfl) (fun _=>rfl) rfl ?_ ?_ (fun _ _ h=>h.elim)
 ·skip
  repeat' (first|apply And.intro|(intro h;try exact cDd)|exact cSd|apply qb []|refine exr ?_|refine qj ?_)
 ·rintro k rest ⟨out,frm⟩ ⟨a,ha,hfa,hok,hka,hrun⟩ hne hle
  have hcons:=qg3 (k:=k) (a:=a) hne
  have hul:=ki 10 rest
  have hr0:0<rest.length:=List.length_pos_iff.2 hne
  have hpl:=jz 10 rest
  have hpa:a+(upto 10 rest).length+1+(past 10 rest).length=text.length∨past 10 rest=[]:=by
   by_cases h10:10∈rest
   ·have:=qco h10
    exact .inl (by omega)
   ·right
    unfold past
    rw [qda h10]
    simp
  have hpast:∀ f,w8 text (w7 (k+1) (a+(upto 10 rest).length+1) (past 10 rest)) f=w8 text (w7 (k+1) (text.length - (past 10 rest).length) (past 10 rest)) f:=fun f=>by
   rcases hpa with h|h
   ·have:a+(upto 10 rest).length+1=text.length - (past 10 rest).length:=by omega
    rw [this]
   ·rw [h,qiv,qiv]
  have e:(text.length:Int) - rest.length=(a:Int):=by omega
  rw [hcons,w8] at hrun
  unfold qjn
  rw [e]
  by_cases hp:[32,32] <+: upto 10 rest
  ·have hhp:=fun st=>q3z (upto 10 rest) [32,32] st hp
   rw [if_neg (fun h=>h.2 hp),hpast] at hrun
   refine RA.mk fun S F ρ rd=>?_
   apply qd []
   repeat' (first|apply And.intro|(intro h;try exact cDd)|(refine RB.mk fun S rd=>?_;apply qd [])|exact⟨Tryz.call164⟩|refine cpe hhp ?_|(refine Exists.intro (out,frm) ⟨⟨text.length - (past 10 rest).length,by omega,by omega,by omega,by omega,hrun⟩,?_⟩)|exact cSd|apply qb []|refine exr ?_|refine qj ?_)
  ·have hhp:=fun st=>q3y (upto 10 rest) [32,32] st hp
   by_cases hfr:frm<a
   ·rw [if_pos ⟨hfr,hp⟩,hpast] at hrun
    refine RA.mk fun S F ρ rd=>?_
    apply qd []
    repeat' (first|apply And.intro|(intro h;try exact cDd)|(refine RB.mk fun S rd=>?_;apply qd [25])|exact⟨Tryz.call164⟩|refine cpe hhp ?_|(refine Exists.intro (out++[(text.take a).drop frm],a) ⟨⟨text.length - (past 10 rest).length,by omega,by omega,by simp;omega,by omega,by rw [← hrun];simp⟩,?_⟩)|exact cSd|apply qb [25]|refine exr ?_|refine qj ?_)
    all_goals first|(simp [SV.evs];omega)|(simp [SV.evs,SV.ev];done)
   ·rw [if_neg (fun h=>hfr h.1),hpast] at hrun
    refine RA.mk fun S F ρ rd=>?_
    apply qd []
    repeat' (first|apply And.intro|(intro h;try exact cDd)|(refine RB.mk fun S rd=>?_;apply qd [])|exact⟨Tryz.call164⟩|refine cpe hhp ?_|(refine Exists.intro (out,frm) ⟨⟨text.length - (past 10 rest).length,by omega,by omega,by omega,by omega,hrun⟩,?_⟩)|exact cSd|apply qb []|refine exr ?_|refine qj ?_)
 ·rintro k ⟨out,frm⟩ ⟨a,ha,hfa,hok,hka,hrun⟩
  rw [qiv,w8] at hrun
  repeat' (first|apply And.intro|(intro h;try exact cDd)|exact cSd|apply qb []|refine exr ?_|refine qj ?_)
  rw [← hrun]
  simp
def decP:List qa→List qq→Option (List qq)
 | [],acc=>some acc
 |p::r,acc=>match begE (upto 10 p) with
  |none=>none
  |some (k,n)=>if (qbv (past 10 p)).2=true∧acc.length≠40 then decP r (acc++[⟨k,n,(qbv (past 10 p)).1⟩]) else none
def decF (text:qa):Option (List qq):=if 50000<text.length then none else match decP (qcv text) [] with
 |none=>none
 |some b=>if eErr b = .no∧encF b=text then some b else none
def decA:Option (List qq)→AV
 |none=>.tu [ku [],.ifc 62 (Iv 2)]
 |some b=>.tu [ku b,.v .nilIface]
theorem q3a (x:Option (List qq)):Pure (decA x):=by
 rcases x with _|b
 ·exact jq (qic _) (qag (qu _))
 ·exact jq (qic _) (qu _)
theorem qh2 (text:qa):∀ (ls:List LnV) (f:Nat),(∀ p∈w8 text ls f,p.length≤text.length)∧(w8 text ls f).length≤ls.length+1
 | [],f=>by simp [w8]
 |l::r,f=>by
  unfold w8
  split
  ·obtain⟨h1,h2⟩:=qh2 text r l.at'
   refine⟨fun p hp=>?_,by simp;omega⟩
   rcases List.mem_cons.1 hp with rfl|hp
   ·simp;omega
   ·exact h1 p hp
  ·obtain⟨h1,h2⟩:=qh2 text r f
   exact⟨h1,by simp;omega⟩
theorem qri {l:qa} {k n:Int} (h:begE l=some (k,n)) : -9223372036854775808≤n∧n≤9223372036854775807:=by
 have key:∀ {j:Int} {n:Int},tryB j l=some n→-9223372036854775808≤n∧n≤9223372036854775807:=fun {j n} h=>by
  unfold tryB at h
  split at h
  ·split at h
   ·rename_i v hv
    cases h
    exact Lib.atoiAll_bounds hv
   ·simp at h
  ·simp at h
 unfold begE at h
 split at h
 ·rename_i v hv;simp at h;rw [← h.2];exact key hv
 ·split at h
  ·rename_i v hv;simp at h;rw [← h.2];exact key hv
  ·split at h
   ·rename_i v hv;simp at h;rw [← h.2];exact key hv
   ·simp at h
theorem qm4 (text:qa):GF (qbv text).1:=by
 unfold qbv
 split
 ·exact⟨by simp,by simp⟩
 ·split
  ·exact⟨by simp,by simp⟩
  ·rename_i f r hr
   exact (q1y (qnf _) f (by rw [hr];simp)).1
theorem q3i {k n:Int} {fs:List Fld} (h1 : -9223372036854775808≤n) (h2:n≤9223372036854775807) (hg:GF fs):EdB ⟨k,n,fs⟩:=
 ⟨fun f hf=>by have:=(hg.2 f hf).1.2.1;omega,by have:=hg.1;simp only;omega,h1,h2⟩
set_option maxHeartbeats 4000000 in
theorem q6t (text:qa) (st:List AObj) (hl:text.length<1000000):ql E 120 [Sv text] st fun r st'=>r=decA (decF text)∧st'=st:=by
 refine z4 [.s text] (q3a _) Tryz.func120 rfl rfl (fun _=>rfl) rfl fun S0=>?_
 by_cases hbig:50000<text.length
 ·have hd:decF text=none:=if_pos hbig
  rw [hd]
  apply qd []
  repeat' (first|apply And.intro|(intro h;try exact cDd)|exact cSd|apply qb []|refine exr ?_|refine qj ?_)
 have hdf:decF text=match decP (qcv text) [] with
  |none=>none
  |some b=>if eErr b = .no∧encF b=text then some b else none:=if_neg hbig
 have hpl:=(qh2 text (lns text) 0).1
 have hpn:=(qh2 text (lns text) 0).2
 have hln:=qtb _ text 0 0 (Nat.le_refl _)
 have hpe:w8 text (lns text) 0=qcv text:=rfl
 have hle:(lns text).length≤text.length:=hln
 rw [hpe] at hpl hpn
 have hml:((qcv text).map fun x=>Sv x).length=(qcv text).length:=by simp
 have hpc:=fun st=>za3 text st hl
 generalize qcv text=L at hdf hpl hpn hml hpc
 apply qd []
 repeat' (first|apply And.intro|(intro h;try exact cDd)|exact⟨Tryz.call206⟩|refine cpe hpc ?_|exact cSd|apply qb []|refine exr ?_|refine qj ?_)
 refine wm (X:=Nat×List qq) (fun (k,acc)=>⟨[(0,.s text),(4,.tp 0),(21,.a (Ss L)),(22,.i L.length),(23,.i k)],[(0,some (.tip 3 113 (acc.map xd)))],1⟩)
  (fun (k,acc)=>k≤L.length∧acc.length≤k∧(∀ x∈acc,EdB x)∧decP (L.drop k) acc=decP L []) (fun x=>L.length - x.1) (0,[]) ⟨by omega,by simp,by simp,rfl⟩ ?_ ?_
 ·skip
  repeat' (first|apply And.intro|(intro h;try exact cDd)|exact cSd|apply qb []|refine exr ?_|refine qj ?_)
  all_goals first|(simp;done)
 ·rintro⟨j,acc⟩ ⟨hj,hal,hB,hrun⟩
  have hma:(acc.map xd).length=acc.length:=by simp
  by_cases hc:j<L.length
  ·obtain⟨p,hx⟩:∃ p,L[j]? = some p:=⟨_,List.getElem?_eq_getElem hc⟩
   have hg:(L.map fun x=>Sv x)[j]? = some (Sv p):=by simp [hx]
   have hd:L.drop j=p::L.drop (j+1):=by
    obtain⟨hlt,e⟩:=List.getElem?_eq_some_iff.1 hx
    rw [List.drop_eq_getElem_cons hlt,e]
   have hpp:=hpl p (List.mem_of_getElem? hx)
   have hul:=ki 10 p
   have hpal:=jz 10 p
   have hcu:=fun st=>qgq p 10 st (by omega)
   have hbc:=fun st=>q9s (upto 10 p) st (by omega)
   have hgf:=qm4 (past 10 p)
   have hfc:=fun st=>q64 (past 10 p) st (by omega)
   rw [hd,decP] at hrun
   cases hbe:begE (upto 10 p) with
   |none=>
    rw [hbe] at hrun hbc
    simp only at hrun
    rw [← hrun] at hdf
    simp only at hdf
    rw [hdf]
    apply qd []
    repeat' (first|apply And.intro|(intro h;try exact cDd)|(refine Exists.intro (j) ⟨by omega,_,hg,?_⟩)|exact⟨Tryz.call72⟩|refine cpe hcu ?_|exact⟨Tryz.call207⟩|refine cpe hbc ?_|exact⟨Tryz.call208⟩|refine cpe hfc ?_|exact cSd|apply qb []|refine exr ?_|refine qj ?_)
   |some kn=>
    obtain⟨kd,n⟩:=kn
    have hid:=qri hbe
    rw [hbe] at hrun hbc
    simp only at hrun
    obtain⟨fs,hfs⟩:∃ x,x=(qbv (past 10 p)).1:=⟨_,rfl⟩
    rw [← hfs] at hrun hfc hgf
    cases hok:(qbv (past 10 p)).2 with
    |false=>
     rw [hok] at hrun hfc
     rw [if_neg (by simp)] at hrun
     rw [← hrun] at hdf
     simp only at hdf
     rw [hdf]
     apply qd []
     repeat' (first|apply And.intro|(intro h;try exact cDd)|(refine Exists.intro (j) ⟨by omega,_,hg,?_⟩)|exact⟨Tryz.call72⟩|refine cpe hcu ?_|exact⟨Tryz.call207⟩|refine cpe hbc ?_|exact⟨Tryz.call208⟩|refine cpe hfc ?_|exact cSd|apply qb []|refine exr ?_|refine qj ?_)
    |true=>
     rw [hok] at hrun hfc
     by_cases h40:acc.length=40
     ·rw [if_neg (by simp [h40])] at hrun
      rw [← hrun] at hdf
      simp only at hdf
      rw [hdf]
      apply qd []
      repeat' (first|apply And.intro|(intro h;try exact cDd)|(refine Exists.intro (j) ⟨by omega,_,hg,?_⟩)|exact⟨Tryz.call72⟩|refine cpe hcu ?_|exact⟨Tryz.call207⟩|refine cpe hbc ?_|exact⟨Tryz.call208⟩|refine cpe hfc ?_|exact cSd|apply qb []|refine exr ?_|refine qj ?_)
     ·rw [if_pos ⟨rfl,h40⟩] at hrun
      have hB2:∀ x∈acc++[⟨kd,n,fs⟩],EdB x:=fun x hx=>by
       rcases List.mem_append.1 hx with hx|hx
       ·exact hB x hx
       ·obtain rfl:=List.mem_singleton.1 hx
        exact q3i hid.1 hid.2 hgf
      apply qd []
      repeat' (first|apply And.intro|(intro h;try exact cDd)|(refine Exists.intro (j) ⟨by omega,_,hg,?_⟩)|exact⟨Tryz.call72⟩|refine cpe hcu ?_|exact⟨Tryz.call207⟩|refine cpe hbc ?_|exact⟨Tryz.call208⟩|refine cpe hfc ?_|(refine Exists.intro (j+1,acc++[⟨kd,n,fs⟩]) ⟨⟨by omega,by simp;omega,hB2,hrun⟩,by simp only;omega,?_⟩)|exact cSd|apply qb []|refine exr ?_|refine qj ?_)
      all_goals (simp;done)
  ·have hd:L.drop j=[]:=List.drop_eq_nil_of_le (by omega)
   rw [hd,decP] at hrun
   rw [← hrun] at hdf
   simp only at hdf
   cases he:eErr acc with
   |no=>
    have hen:=fun st=>qs0 acc st hB he
    by_cases ht:encF acc=text
    ·rw [if_pos ⟨he,ht⟩] at hdf
     rw [hdf]
     rw [ht] at hen
     apply qd []
     repeat' (first|apply And.intro|(intro h;try exact cDd)|exact⟨Tryz.call103⟩|refine cpe hen ?_|exact cSd|apply qb []|refine exr ?_|refine qj ?_)
    ·rw [if_neg fun h=>ht h.2] at hdf
     rw [hdf]
     apply qd []
     repeat' (first|apply And.intro|(intro h;try exact cDd)|exact⟨Tryz.call103⟩|refine cpe hen ?_|exact cSd|apply qb []|refine exr ?_|refine qj ?_)
     all_goals exact absurd ht (by assumption)
   |num n=>
    have hen:=fun st=>qhr acc st (.num n) hB (by omega) he fun h=>by
     have:=(qhp acc).1 (by rw [he];exact h)
     rw [he] at this
     simp at this
    rw [if_neg fun h=>by rw [he] at h;simp at h] at hdf
    rw [hdf]
    apply qd []
    repeat' (first|apply And.intro|(intro h;try exact cDd)|exact⟨Tryz.call103⟩|refine cpe hen ?_|exact cSd|apply qb []|refine exr ?_|refine qj ?_)
   |at' a n=>
    have hen:=fun st=>qhr acc st (.at' a n) hB (by omega) he fun h=>by
     have:=(qhp acc).1 (by rw [he];exact h)
     rw [he] at this
     simp at this
    rw [if_neg fun h=>by rw [he] at h;simp at h] at hdf
    rw [hdf]
    apply qd []
    repeat' (first|apply And.intro|(intro h;try exact cDd)|exact⟨Tryz.call103⟩|refine cpe hen ?_|exact cSd|apply qb []|refine exr ?_|refine qj ?_)
theorem ql2 {α : Type} [DecidableEq α] {a b:List α} {k:Nat} {d : α} (hl:a.length=b.length) (hk:k<a.length) (h:a.take k=b.take k) (h2:a.getD k d=b.getD k d):a.take (k+1)=b.take (k+1):=by
 rw [List.take_succ_eq_append_getElem hk,List.take_succ_eq_append_getElem (by omega),h]
 congr 2
 simpa [List.getD,hk,show k<b.length by omega] using h2
end Go.Proofs.YtneejjefekdgjaaGreatDoor
namespace Go.Pl
open Go Go.Proofs Go.Proofs.YtneejjefekdgjaaGreatDoor
theorem we (s:qa) (r:List qa):q9 (s::r)=s++10::q9 r:=by simp [q9]
theorem qb3:∀ (ls:List qa),(∀ s∈ls,10∉s)→zb (q9 ls)=ls.map fun s=>(s,true)
 | [],_=>by simp [q9,kq]
 |s::r,h=>by
  have hs:=h s (by simp)
  rw [we,vk (by simp),wx _ hs,xy _ hs,qb3 r fun x hx=>h x (by simp [hx])]
  simp
theorem qyi {f:Fld} (h:jt f):∀ s∈je f,10∉s:=fun s hs=>by
 unfold je at hs
 rcases List.mem_cons.1 hs with rfl|hs
 ·have h1:=qd2 f.2 _ (qn5 f.2)
  have h2:=h.1.2.2.2.2.2
  unfold kw
  split <;> simp_all
 ·obtain⟨x,hx,rfl⟩:=List.mem_map.1 hs
  have h1:=qd2 f.2 x (List.mem_of_mem_tail hx)
  have:=qq3 h1
  simp [this]
theorem qlj {f:Fld} (h:jt f):∃ hd mr,je f=hd::mr∧qr hd=4∧∀ s∈mr,qr s=3:=by
 refine⟨_,_,rfl,qs6 h.1 (qd2 f.2 _ (qn5 f.2)),fun s hs=>?_⟩
 obtain⟨x,hx,rfl⟩:=List.mem_map.1 hs
 exact qs7 x (qd2 f.2 x (List.mem_of_mem_tail hx))
theorem q5n {p:PSt} {k:Int} {t:qa} (ht:qr t=3) (hl:p.lines≠[]):vt p k t true=(none,{ p with lines:=p.lines++[t],block:=p.block++[t] }):=by
 have ha:z0 p k t true (qr t)=(none,{ p with lines:=p.lines++[t] }):=by
  unfold z0
  rw [if_pos ht,if_neg hl,if_pos rfl]
 unfold vt
 rw [ha,ht]
 simp
theorem qtq {p q:PSt} {k:Int} {t:qa} (ht:qr t=4) (hf:jc p=(none,q)):vt p k t true=(none,{ jy q k t with block:=q.block++[t] }):=by
 have ha:z0 p k t true (qr t)=(none,q):=by
  unfold z0
  rw [if_neg (by omega),if_neg (by omega)]
  exact hf
 unfold vt
 rw [ha,ht]
 simp
theorem qom:∀ (m:List qa) (k:Nat) (p:PSt) (ls:List (qa×Bool)),(∀ s∈m,qr s=3)→p.lines≠[] →
  runL k (m.map (fun s=>(s,true))++ls) p=runL (k+m.length) ls { p with lines:=p.lines++m,block:=p.block++m }
 | [],k,p,ls,_,_=>by simp
 |s::m,k,p,ls,h,hl=>by
  have hs:=h s (by simp)
  rw [List.map_cons,List.cons_append,runL,q5n hs hl]
  simp only
  rw [qom m (k+1) _ ls (fun x hx=>h x (by simp [hx])) (by simp)]
  simp only [List.append_assoc,List.cons_append,List.nil_append,List.length_cons]
  congr 1
  omega
theorem qpw {g:Fld} (hg:jt g) (frm:Int) (its:List qt) (blk:List qa) (done:List Fld) (rc:Int):jc ⟨je g,frm,false,its,blk,done,rc⟩=(none,⟨[],frm,false,its,blk,done++[g],rc⟩):=by
 have hu:=qt7 hg
 unfold jc
 rw [if_neg (by simp [je]),hu]
 simp
theorem qw7:∀ (r:List Fld) (done:List Fld) (g:Fld) (k:Nat) (frm:Int) (blk:List qa),jt g→(∀ f∈r,jt f)→done.length+1+r.length≤40→blk≠[] →
  (runL k ((r.flatMap je).map fun s=>(s,true)) ⟨je g,frm,false,[],blk,done,0⟩).1=none∧(runL k ((r.flatMap je).map fun s=>(s,true)) ⟨je g,frm,false,[],blk,done,0⟩).2.items=[⟨3,q9 (blk++r.flatMap je),done++g::r⟩]
 | [],done,g,k,frm,blk,hg,_,_,hb=>by
  have he:endP ⟨je g,frm,false,[],blk,done,0⟩=(none,wz ⟨[],frm,false,[],blk,done++[g],0⟩):=by
   unfold endP
   rw [qpw hg]
  simp only [List.flatMap_nil,List.map_nil,runL,he,List.append_nil]
  refine⟨trivial,?_⟩
  unfold wz
  rw [if_neg hb]
  simp
 |f::r,done,g,k,frm,blk,hg,hr,hl,hb=>by
  have hf:=hr f (by simp)
  obtain⟨hd,mr,hlf,hk4,hk3⟩:=qlj hf
  simp only [List.length_cons] at hl
  have hrun:runL k (((f::r).flatMap je).map fun s=>(s,true)) ⟨je g,frm,false,[],blk,done,0⟩=runL (k+1+mr.length) ((r.flatMap je).map fun s=>(s,true)) ⟨je f,k,false,[],blk++je f,done++[g],0⟩:=by
   rw [List.flatMap_cons,List.map_append,hlf,List.map_cons,List.cons_append,runL,qtq hk4 (qpw hg frm [] blk done 0)]
   simp only
   rw [qom mr (k+1) _ _ hk3 (by simp [jy])]
   have hfu:decide ((done++[g]).length=40∨((done++[g]).length=0∧(0:Int)=400))=false:=by
    simp
    omega
   simp only [jy,hfu,List.append_assoc,List.cons_append,List.nil_append]
  rw [hrun]
  have ih:=qw7 r (done++[g]) f (k+1+mr.length) k (blk++je f) hf (fun x hx=>hr x (by simp [hx])) (by simp;omega) (by simp [hb])
  rw [ih.1,ih.2]
  simp [List.flatMap_cons]
theorem qf3 (fs:List Fld):jk fs=q9 (fs.flatMap je):=by
 induction fs with
 |nil=>rfl
 |cons f r ih=>
  rw [List.flatMap_cons,y8,← ih]
  simp [jk]
theorem qhu {fs:List Fld} (h:∀ f∈fs,jt f):∀ s∈fs.flatMap je,10∉s:=fun s hs=>by
 obtain⟨f,hf,hs⟩:=List.mem_flatMap.1 hs
 exact qyi (h f hf) s hs
theorem qqn {fs:List Fld} (hg:GF fs) (hne:fs≠[]):zn (jk fs)=(none,[⟨3,jk fs,fs⟩]):=by
 have hl:=qb3 _ (qhu hg.2)
 rw [← qf3] at hl
 cases fs with
 |nil=>exact absurd rfl hne
 |cons f r=>
  have hf:=hg.2 f (by simp)
  obtain⟨hd,mr,hlf,hk4,hk3⟩:=qlj hf
  have hlen:=hg.1
  simp only [List.length_cons] at hlen
  have hrun:runL 0 (((f::r).flatMap je).map fun s=>(s,true)) p0=runL (0+1+mr.length) ((r.flatMap je).map fun s=>(s,true)) ⟨je f,(0:Nat),false,[],je f,[],0⟩:=by
   have hfl:jc p0=(none,p0):=rfl
   rw [List.flatMap_cons,List.map_append,hlf,List.map_cons,List.cons_append,runL,qtq hk4 hfl]
   simp only
   rw [qom mr (0+1) _ _ hk3 (by simp [jy])]
   simp [jy,p0]
  have ih:=qw7 r [] f (0+1+mr.length) (0:Nat) (je f) hf (fun x hx=>hg.2 x (by simp [hx])) (by simp;omega) (by simp [je])
  unfold zn
  rw [hl,hrun,ih.1]
  simp only
  rw [ih.2]
  rw [qf3,List.flatMap_cons,List.nil_append]
theorem q4t:zn []=(none,[]):=by
 unfold zn
 rw [kq]
 rfl
theorem qnb {ls:List qa} (h:∀ s∈ls,10∉s):ye [32,32] (q9 ls)=q9 (ls.map fun s=>[32,32]++s):=by
 unfold ye indF
 rw [qb3 ls h]
 simp only [q9,List.flatMap_map,xi,if_pos]
theorem qv3 {ls:List qa} (h:∀ s∈ls,10∉s):∀ s∈ls.map (fun s=>[32,32]++s),10∉s:=fun s hs=>by
 obtain⟨x,hx,rfl⟩:=List.mem_map.1 hs
 have:=h x hx
 simp [this]
theorem qt3 {ls:List qa} (h:∀ s∈ls,10∉s):kl [32,32] (ye [32,32] (q9 ls))=(q9 ls,true):=by
 rw [qnb h]
 unfold kl
 rw [qb3 _ (qv3 h),if_pos]
 ·simp [q9,List.flatMap_map,xi]
 ·intro x hx
  obtain⟨s,hs,rfl⟩:=List.mem_map.1 hx
  obtain⟨y,_,rfl⟩:=List.mem_map.1 hs
  exact List.prefix_append _ _
theorem qt5 {fs:List Fld} (hl:fs.length≤40) (hg:∀ f∈fs,jt f):qbv (ye [32,32] (jk fs))=(fs,true):=by
 have hd:kl [32,32] (ye [32,32] (jk fs))=(jk fs,true):=by
  rw [qf3]
  exact qt3 (qhu hg)
 unfold qbv
 rw [hd]
 simp only
 by_cases h0:fs=[]
 ·subst h0
  have hp:zn (jk [])=(none,[]):=q4t
  rw [hp]
  simp [recsF,jk]
 ·rw [qqn ⟨hl,hg⟩ h0]
  simp [recsF]
theorem q1e {j k:Int} {s:qa} (hj:j=1∨j=2∨j=3) (hk:k=1∨k=2∨k=3) (hne:j≠k):¬ y6 j <+: y6 k++s:=by
 rintro⟨t,ht⟩
 have h2:=congrArg (List.take 2) ht
 rcases hj with rfl|rfl|rfl <;> rcases hk with rfl|rfl|rfl <;> first|exact absurd rfl hne|(revert h2;simp [y6])
theorem q2x {x:qq} (hk:x.kind=1∨x.kind=2∨x.kind=3) (h1 : -9223372036854775808≤x.id) (h2:x.id≤9223372036854775807):begE (vc x)=some (x.kind,x.id):=by
 have hl:vc x=y6 x.kind++Lib.itoa x.id:=by
  unfold vc
  rw [if_pos (by omega)]
 have hself:tryB x.kind (vc x)=some x.id:=by
  unfold tryB
  rw [hl,if_pos (List.prefix_append _ _),List.drop_left,qi8 h1 h2]
 have hoth:∀ j:Int,(j=1∨j=2∨j=3)→j≠x.kind→tryB j (vc x)=none:=fun j hj hne=>by
  unfold tryB
  rw [hl,if_neg (q1e hj hk hne)]
 unfold begE
 rcases hk with h|h|h
 ·rw [h] at hself hoth ⊢
  rw [hself]
 ·rw [h] at hself hoth ⊢
  rw [hoth 1 (by simp) (by decide),hself]
 ·rw [h] at hself hoth ⊢
  rw [hoth 1 (by simp) (by decide),hoth 2 (by simp) (by decide),hself]
def qaz (x:qq):List qa:=(x.fields.flatMap je).map fun s=>[32,32]++s
theorem qnc (v:Int):∀ c∈Lib.itoa v,c≠10∧c≠32:=fun c hc=>by
 by_cases hv:v<0
 ·rw [qg1 hv] at hc
  rcases List.mem_cons.1 hc with rfl|hc
  ·decide
  ·have:=v8 _ _ (Nat.le_refl _) c hc
   constructor <;> rintro rfl <;> simp at this
 ·rw [qeh (by omega)] at hc
  have:=v8 _ _ (Nat.le_refl _) c hc
  constructor <;> rintro rfl <;> simp at this
theorem qb2 (x:qq):10∉vc x:=by
 unfold vc
 split
 ·rename_i hk
  have h1:=qnc x.id
  intro hc
  rcases List.mem_append.1 hc with hc|hc
  ·have:x.kind=1∨x.kind=2∨x.kind=3:=by omega
   rcases this with h|h|h <;> rw [h] at hc <;> revert hc <;> decide
  ·exact (h1 10 hc).1 rfl
 ·simp
theorem qyf {x:qq} (hk:x.kind=1∨x.kind=2∨x.kind=3):¬ [32,32] <+: vc x:=by
 unfold vc
 rw [if_pos (by omega)]
 rintro⟨t,ht⟩
 have h2:=congrArg (List.take 2) ht
 rcases hk with h|h|h <;> rw [h] at h2 <;> revert h2 <;> simp [y6]
theorem qew {x:qq} (hg:∀ f∈x.fields,jt f):jd x=q9 (vc x::qaz x):=by
 unfold jd qaz
 rw [we,qf3,qnb (qhu hg)]
 simp
theorem q22 {x:qq} (hg:∀ f∈x.fields,jt f):∀ s∈qaz x,10∉s:=qv3 (qhu hg)
theorem qd1 (text:qa):∀ (m:List qa) (k a f:Nat) (R:qa),(∀ s∈m,10∉s∧[32,32] <+: s)→∃ k',w8 text (w7 k a (q9 m++R)) f=w8 text (w7 k' (a+(q9 m).length) R) f
 | [],k,a,f,R,_=>⟨k,by simp [q9]⟩
 |s::m,k,a,f,R,h=>by
  obtain⟨h10,hp⟩:=h s (by simp)
  have e:q9 (s::m)++R=s++10::(q9 m++R):=by rw [we];simp
  obtain⟨k',ih⟩:=qd1 text m (k+1) (a+s.length+1) f R fun x hx=>h x (by simp [hx])
  refine⟨k',?_⟩
  rw [e,qg3 (by simp),wx _ h10,xy _ h10,w8,if_neg (fun h=>h.2 hp),ih,we]
  congr 2
  simp
  omega
theorem qky {x:qq} (hg:∀ f∈x.fields,jt f):∀ s∈qaz x,10∉s∧[32,32] <+: s:=fun s hs=>⟨q22 hg s hs,by
 obtain⟨y,_,rfl⟩:=List.mem_map.1 hs
 exact List.prefix_append _ _⟩
structure EncG (x:qq):Prop where
 kind:x.kind=1∨x.kind=2∨x.kind=3
 len:x.fields.length≤40
 good:∀ f∈x.fields,jt f
 id1 : -9223372036854775808≤x.id
 id2:x.id≤9223372036854775807
theorem qqp:∀ (r:List qq) (D:qa) (x:qq) (k:Nat),EncG x→(∀ y∈r,EncG y) →
  w8 (D++(jd x++encF r)) (w7 k (D.length+((vc x).length+1)) (q9 (qaz x)++encF r)) D.length=jd x::r.map jd
 | [],D,x,k,hx,_=>by
  obtain⟨k',h⟩:=qd1 (D++(jd x++encF [])) (qaz x) k (D.length+((vc x).length+1)) D.length (encF []) (qky hx.good)
  rw [h]
  have e:encF []=[]:=rfl
  rw [e,qiv,w8]
  simp
 |y::r,D,x,k,hx,hr=>by
  have hy:=hr y (by simp)
  obtain⟨k',h⟩:=qd1 (D++(jd x++encF (y::r))) (qaz x) k (D.length+((vc x).length+1)) D.length (encF (y::r)) (qky hx.good)
  rw [h]
  have e:encF (y::r)=vc y++10::(q9 (qaz y)++encF r):=by
   have:encF (y::r)=jd y++encF r:=by simp [encF]
   rw [this,qew hy.good,we]
   simp
  have hlx:(jd x).length=(vc x).length+1+(q9 (qaz x)).length:=by
   rw [qew hx.good,we]
   simp
   omega
  have e2:encF (y::r)=jd y++encF r:=by simp [encF]
  have hpos:D.length+((vc x).length+1)+(q9 (qaz x)).length=(D++jd x).length:=by
   rw [List.length_append,hlx]
   omega
  rw [hpos]
  have hc:w7 k' (D++jd x).length (encF (y::r))=⟨k',(D++jd x).length,vc y,true⟩::w7 (k'+1) ((D++jd x).length+(vc y).length+1) (q9 (qaz y)++encF r):=by
   rw [e,qg3 (by simp),wx _ (qb2 y),xy _ (qb2 y)]
   simp
  have hlt:D.length<(D++jd x).length:=by rw [List.length_append,hlx];omega
  rw [hc,w8,if_pos ⟨hlt,qyf hy.kind⟩]
  have ih:=qqp r (D++jd x) y (k'+1) hy fun z hz=>hr z (by simp [hz])
  have et:D++(jd x++encF (y::r))=(D++jd x)++(jd y++encF r):=by rw [e2];simp
  rw [et]
  have ed:((D++jd x++(jd y++encF r)).take (D++jd x).length).drop D.length=jd x:=by
   rw [List.take_left,List.drop_left]
  rw [ed,List.map_cons]
  simp only
  rw [show (D++jd x).length+(vc y).length+1=(D++jd x).length+((vc y).length+1) by omega,ih]
theorem q4u {x:qq} {r:List qq} (hx:EncG x) (hr:∀ y∈r,EncG y):qcv (encF (x::r))=(x::r).map jd:=by
 have e2:encF (x::r)=jd x++encF r:=by simp [encF]
 have e:encF (x::r)=vc x++10::(q9 (qaz x)++encF r):=by
  rw [e2,qew hx.good,we]
  simp
 have h:=qqp r [] x 1 hx hr
 simp only [List.nil_append,List.length_nil,Nat.zero_add] at h
 have hc:lns (encF (x::r))=⟨0,0,vc x,true⟩::w7 1 ((vc x).length+1) (q9 (qaz x)++encF r):=by
  unfold lns
  rw [e,qg3 (by simp),wx _ (qb2 x),xy _ (qb2 x)]
  simp
 unfold qcv
 rw [hc,w8,if_neg (by simp),e2,h]
 rfl
theorem qvj:∀ (r acc:List qq),(∀ y∈r,EncG y)→acc.length+r.length≤40→decP (r.map jd) acc=some (acc++r)
 | [],acc,_,_=>by simp [decP]
 |x::r,acc,h,hl=>by
  have hx:=h x (by simp)
  simp only [List.length_cons] at hl
  have hu:upto 10 (jd x)=vc x:=by
   unfold jd
   rw [List.append_assoc]
   exact wx _ (qb2 x)
  have hp:past 10 (jd x)=ye [32,32] (jk x.fields):=by
   unfold jd
   rw [List.append_assoc]
   exact xy _ (qb2 x)
  have hfl:=qt5 hx.len hx.good
  rw [List.map_cons,decP,hu,q2x hx.kind hx.id1 hx.id2]
  simp only [hp,hfl]
  rw [if_pos ⟨trivial,by omega⟩]
  have ih:=qvj r (acc++[⟨x.kind,x.id,x.fields⟩]) (fun y hy=>h y (by simp [hy])) (by simp;omega)
  rw [ih]
  simp
theorem qza {x:qq} (h:gErr x = .no) (hB:EdB x):EncG x:=by
 obtain⟨h1,h2⟩:=qme h
 refine⟨?_,h1,h2,hB.id1,hB.id2⟩
 unfold gErr at h
 split at h
 ·exact .inr (.inl (by assumption))
 ·split at h
  ·rename_i hk;omega
  ·simp at h
theorem q91 {b:List qq} (he:eErr b = .no) (hB:∀ x∈b,EdB x) (hl:(encF b).length≤50000):decF (encF b)=some b:=by
 obtain⟨h1,h40,hg⟩:=qed he
 have hG:∀ y∈b,EncG y:=fun y hy=>qza (hg y hy) (hB y hy)
 unfold decF
 rw [if_neg (by omega)]
 cases b with
 |nil=>simp at h1
 |cons x r=>
  rw [q4u (hG x (by simp)) (fun y hy=>hG y (by simp [hy])),qvj (x::r) [] hG (by simp at h40 ⊢;omega)]
  simp only [List.nil_append]
  rw [if_pos ⟨he,trivial⟩]
theorem q6s {text:qa} {b:List qq} (h:decF text=some b):eErr b = .no∧encF b=text∧text.length≤50000:=by
 unfold decF at h
 split at h
 ·simp at h
 ·split at h
  ·simp at h
  ·split at h
   ·rename_i hc
    cases h
    exact⟨hc.1,hc.2,by omega⟩
   ·simp at h
def SpL (L:List qa):Prop:=L≠[]∧∀ s∈L,10∉s∧[32] <+: s
def encL (b:List qq):List qa:=b.flatMap fun x=>vc x::qaz x
theorem q3k {b:List qq} (hg:∀ x∈b,EncG x):encF b=q9 (encL b):=by
 induction b with
 |nil=>rfl
 |cons x r ih=>
  have e:encL (x::r)=(vc x::qaz x)++encL r:=by simp [encL]
  have e2:encF (x::r)=jd x++encF r:=by simp [encF]
  rw [e,y8,e2,qew (hg x (by simp)).good,ih fun y hy=>hg y (by simp [hy])]
theorem zaq {x:qq} (hk:x.kind=1∨x.kind=2∨x.kind=3):[32] <+: vc x:=by
 unfold vc
 rw [if_pos (by omega)]
 rcases hk with h|h|h <;> rw [h] <;> exact⟨_,rfl⟩
theorem zaa {b:List qq} (hne:b≠[]) (hg:∀ x∈b,EncG x):SpL (encL b):=by
 refine⟨?_,fun s hs=>?_⟩
 ·cases b with
  |nil=>exact absurd rfl hne
  |cons x r=>simp [encL]
 ·obtain⟨x,hx,hs⟩:=List.mem_flatMap.1 hs
  have hG:=hg x hx
  rcases List.mem_cons.1 hs with rfl|hs
  ·exact⟨qb2 x,zaq hG.kind⟩
  ·obtain⟨h1,t,ht⟩:=qky hG.good s hs
   exact⟨h1,[32]++t,by rw [← ht];rfl⟩
theorem zbl {L:List qa} (h:SpL L):sp true (q9 L)=true:=by
 rw [← qjo _ (q9 L) (Nat.le_refl _),qb3 L fun s hs=>(h.2 s hs).1]
 intro x hx
 obtain⟨s,hs,rfl⟩:=List.mem_map.1 hx
 exact (h.2 s hs).2
theorem q5q {L:List qa} (h:SpL L):(q9 L)[0]? = some 32:=by
 obtain⟨hne,hs⟩:=h
 cases L with
 |nil=>exact absurd rfl hne
 |cons s r=>
  obtain⟨t,ht⟩:=(hs s (by simp)).2
  rw [we,← ht]
  rfl
theorem qts:∀ (L:List qa),L≠[]→(q9 L).getLast? = some 10
 | [],h=>absurd rfl h
 | [s],_=>by rw [we];simp [q9]
 |s::t::r,_=>by
  have ih:=qts (t::r) (by simp)
  have hne:q9 (t::r)≠[]:=fun e=>by rw [e] at ih;simp at ih
  rw [we,List.getLast?_append,List.getLast?_cons,ih]
  simp
theorem q3l {b:List qq} (he:eErr b = .no) (hB:∀ x∈b,EdB x) (hl:(encF b).length≤50000):yc (encF b):=by
 obtain⟨h1,h40,hg⟩:=qed he
 have hG:∀ y∈b,EncG y:=fun y hy=>qza (hg y hy) (hB y hy)
 have hne:b≠[]:=fun e=>by subst e;simp at h1
 have hS:=zaa hne hG
 have ht:=q3k hG
 have hh:=q5q hS
 have hlast:=qts _ hS.1
 rw [← ht] at hh hlast
 have hsp:=zbl hS
 rw [← ht] at hsp
 refine⟨?_,hl,hlast,by rw [qho];exact hsp⟩
 rcases hc:encF b with _ | ⟨c,_ | ⟨d,r⟩⟩
 ·rw [hc] at hh;simp at hh
 ·rw [hc] at hh hlast
  simp at hh hlast
  rw [hh] at hlast
  simp at hlast
 ·simp
end Go.Pl
namespace Go.Proofs.YtneejjefekdgjaaGreatDoor
open Go Go.Av Go.RowKit Go.Proofs Go.Pl
theorem q3b:∀ (ps:List qa) (acc b:List qq),(∀ x∈acc,EdB x)→decP ps acc=some b→∀ x∈b,EdB x
 | [],acc,b,h,e=>by
  rw [decP] at e
  cases e
  exact h
 |p::r,acc,b,h,e=>by
  rw [decP] at e
  split at e
  ·simp at e
  ·rename_i k n hb
   split at e
   ·refine q3b r _ b (fun x hx=>?_) e
    rcases List.mem_append.1 hx with hx|hx
    ·exact h x hx
    ·obtain rfl:=List.mem_singleton.1 hx
     exact q3i (qri hb).1 (qri hb).2 (qm4 _)
   ·simp at e
theorem zb8 {text:qa} {b:List qq} (h:decF text=some b):∀ x∈b,EdB x:=by
 unfold decF at h
 split at h
 ·simp at h
 ·split at h
  ·simp at h
  ·rename_i c hc
   split at h
   ·cases h
    exact q3b _ _ _ (by simp) hc
   ·simp at h
end Go.Proofs.YtneejjefekdgjaaGreatDoor
namespace Go.Pl
open Go Go.Proofs Go.Proofs.YtneejjefekdgjaaGreatDoor
def OutG (out:List qq) (m:Nat):Prop:=∀ x∈out,(∀ f∈x.fields,jt f)∧x.fields.length≤m∧-9223372036854775808≤x.id∧x.id≤9223372036854775807
theorem OutG.mono {out:List qq} {m m':Nat} (h:OutG out m) (hm:m≤m'):OutG out m':=fun x hx=>⟨(h x hx).1,by have:=(h x hx).2.1;omega,(h x hx).2.2⟩
end Go.Pl
namespace Go.Pl
open Go Go.Proofs
def kv:List (qa×Bool)→List qa
 | []=>[]
 |(t,_)::r=>if qr t=3 then t::kv r else []
def jo (prev:Bool) (t:qa) (e:Bool) (r:List (qa×Bool)) (fields:Nat) (records:Int):Int:=
 if qr t=5∨(qr t=3∧prev=false)∨e=false then 2
 else if qr t≠4 then 0
 else if (jh (t::kv r)).2≠0 then (jh (t::kv r)).2
 else if 40≤fields∨(fields=0∧400≤records) then 11 else 0
theorem qx6 {α : Type} {l:List α} {x : α} (h:l.getLast? = some x):l.dropLast++[x]=l:=by
 have hne:l≠[]:=fun e=>by subst e;simp at h
 rw [List.getLast?_eq_some_getLast hne] at h
 obtain rfl:=Option.some.inj h
 exact List.dropLast_concat_getLast hne
def outR (now:qt) (out:List qt):List qt:=if now.raw=[] then out else out++[now]
def refL:Nat→List (qa×Bool)→Bool→qt→Int→List qt→Option (Int×Int)×List qt
 | _,[],_,now,_,out=>(none,outR now out)
 |i,(t,e)::r,prev,now,rec,out=>
  if jo prev t e r now.fields.length rec≠0 then (some ((i:Int),jo prev t e r now.fields.length rec),[])
  else if qr t=1 then refL (i+1) r false ⟨2,[],[]⟩ rec (outR now out++[⟨1,t++[10],[]⟩])
  else if qr t=4 then refL (i+1) r true ⟨3,now.raw++t++[10],now.fields++[(jh (t::kv r)).1]⟩ (if now.kind=2 then rec+1 else rec) out
  else refL (i+1) r (decide (qr t=3)) ⟨now.kind,now.raw++t++[10],now.fields⟩ rec out
def quc:List (qa×Bool)→Prop
 | []=>True
 |(_,e)::r=>(e=false→r=[])∧quc r
theorem qnd:∀ (n:Nat) (l:qa),l.length≤n→quc (zb l)
 | 0,l,h=>by
  have:l=[]:=List.length_eq_zero_iff.1 (by omega)
  subst this
  rw [kq]
  trivial
 |n+1,l,h=>by
  by_cases hl:l=[]
  ·subst hl
   rw [kq]
   trivial
  ·rw [vk hl]
   refine⟨fun he=>?_,qnd n _ (by have:=xj (c:=10) hl;omega)⟩
   have h10:10∉l:=by simpa using he
   have:past 10 l=[]:=by
    unfold past
    rw [qda h10]
    exact List.drop_eq_nil_of_le (by omega)
   rw [this,kq]
def qcs (ls:List qa) (full:Bool):Int:=if (jh ls).2≠0 then (jh ls).2 else if full=true then 11 else 0
theorem qf2 {p:PSt} (h:p.lines≠[]) (hc:qcs p.lines p.full≠0):(jc p).1=some (p.frm,qcs p.lines p.full):=by
 unfold qcs at *
 unfold jc
 rw [if_neg h]
 by_cases h1:(jh p.lines).2≠0
 ·rw [if_pos h1,if_pos h1]
 ·rw [if_neg h1] at hc ⊢
  rw [if_neg h1]
  by_cases h2:p.full=true
  ·rw [if_pos h2,if_pos h2]
  ·rw [if_neg h2] at hc
   exact absurd rfl hc
theorem qs2 {p:PSt} (h:p.lines=[]∨qcs p.lines p.full=0):jc p=(none,{ p with lines:=[],fields:=p.fields++(if p.lines=[] then [] else [(jh p.lines).1]) }):=by
 unfold jc
 by_cases h0:p.lines=[]
 ·rw [if_pos h0,if_pos h0]
  obtain⟨a,b,c,d,e,f,g⟩:=p
  simp only at h0
  subst h0
  simp
 ·rw [if_neg h0,if_neg h0]
  have h:=h.resolve_left h0
  unfold qcs at h
  by_cases h1:(jh p.lines).2≠0
  ·rw [if_pos h1] at h
   exact absurd h h1
  ·rw [if_neg h1] at h ⊢
   by_cases h2:p.full=true
   ·rw [if_pos h2] at h
    simp at h
   ·rw [if_neg h2]
theorem qor {p:PSt} {no:Int} {t:qa} {e:Bool} {x:Int×Int} (h:(z0 p no t e (qr t)).1=some x):(vt p no t e).1=some x:=by
 unfold vt
 rw [h]
theorem qos {p q:PSt} {no:Int} {t:qa} {e:Bool} (h:z0 p no t e (qr t)=(none,q)) (hc:qr t=5∨e=false):(vt p no t e).1=some (no,2):=by
 unfold vt
 rw [h]
 simp only
 rw [if_pos hc]
theorem qi2 {p q:PSt} {no:Int} {t:qa} (h:z0 p no t true (qr t)=(none,q)) (hc:qr t≠5):vt p no t true =
  if qr t=1 then (none,{ q with items:=q.items++[⟨1,t++[10],[]⟩] }) else if qr t=4 then (none,{ jy q no t with block:=q.block++[t] }) else (none,{ q with block:=q.block++[t] }):=by
 unfold vt
 rw [h]
 simp only
 rw [if_neg (by simp [hc])]
theorem qdq {k:Nat} {t:qa} {e:Bool} {r:List (qa×Bool)} {p:PSt} {x:Int×Int} (h:(vt p k t e).1=some x):(runL k ((t,e)::r) p).1=some x:=by
 rw [runL,h]
theorem qfd {k:Nat} {t:qa} {e:Bool} {r:List (qa×Bool)} {p q:PSt} (h:vt p k t e=(none,q)):runL k ((t,e)::r) p=runL (k+1) r q:=by
 rw [runL,h]
theorem qo0 {p:PSt} {no:Int} {t:qa} (hk:qr t=3) (hl:p.lines≠[]):z0 p no t true (qr t)=(none,{ p with lines:=p.lines++[t] }):=by
 unfold z0
 rw [if_pos hk,if_neg hl,if_pos rfl]
theorem qoz {p:PSt} {no:Int} {t:qa} (hk:qr t=3) (hl:p.lines≠[]):z0 p no t false (qr t)=jc { p with lines:=p.lines++[t] }:=by
 unfold z0
 rw [if_pos hk,if_neg hl,if_neg (by simp)]
theorem qes {p:PSt} {no:Int} {t:qa} {e:Bool} (hk:qr t≠3) (h1:qr t≠1):z0 p no t e (qr t)=jc p:=by
 unfold z0
 rw [if_neg hk,if_neg h1]
theorem qh7 {p:PSt} {no:Int} {t:qa} {e:Bool} (h1:qr t=1):z0 p no t e (qr t)=endP p:=by
 unfold z0
 rw [if_neg (by omega),if_pos h1]
theorem qqd {t:qa} {e:Bool} {r:List (qa×Bool)} (h:qr t≠3):kv ((t,e)::r)=[]:=by
 rw [kv,if_neg h]
theorem qii {t:qa} {e:Bool} {r:List (qa×Bool)} (h:qr t=3):kv ((t,e)::r)=t::kv r:=by
 rw [kv,if_pos h]
theorem qvo {p:PSt} {x:Int×Int} (h:(jc p).1=some x):(endP p).1=some x:=by
 unfold endP
 rw [h]
theorem qro {p q:PSt} (h:jc p=(none,q)):endP p=(none,wz q):=by
 unfold endP
 rw [h]
theorem qwz:∀ (r:List (qa×Bool)) (p:PSt) (k:Nat) (c:Int),quc r→p.lines≠[]→qcs (p.lines++kv r) p.full=c→c≠0→(runL k r p).1=some (p.frm,c)
 | [],p,k,c,_,hl,hc,h0=>by
  rw [kv,List.append_nil] at hc
  rw [runL]
  subst hc
  exact qvo (qf2 hl h0)
 |(t,e)::r,p,k,c,hE,hl,hc,h0=>by
  by_cases h3:qr t=3
  ·rw [qii h3] at hc
   cases e with
   |true=>
    have ht:=qi2 (qo0 (no:=k) h3 hl) (by omega)
    rw [if_neg (by omega),if_neg (by omega)] at ht
    rw [qfd ht]
    exact qwz r _ (k+1) c hE.2 (by simp) (by simpa using hc) h0
   |false=>
    have hr:=hE.1 rfl
    subst hr
    refine qdq (qor ?_)
    rw [qoz h3 hl]
    have hc':qcs (p.lines++[t]) p.full=c:=hc
    have:=qf2 (p:={ p with lines:=p.lines++[t] }) (by simp) (by simp only;rw [hc'];exact h0)
    simp only at this
    rw [this,hc']
  ·rw [qqd h3,List.append_nil] at hc
   subst hc
   refine qdq (qor ?_)
   by_cases h1:qr t=1
   ·rw [qh7 h1]
    exact qvo (qf2 hl h0)
   ·rw [qes h3 h1]
    exact qf2 hl h0
structure Sim (r:List (qa×Bool)) (p:PSt) (prev:Bool) (now:qt) (rec:Int) (out:List qt):Prop where
 hprev:prev=decide (p.lines≠[])
 hok:p.lines=[]∨qcs (p.lines++kv r) p.full=0
 hraw:now.raw=q9 p.block
 hfields:now.fields=p.fields++(if p.lines=[] then [] else [(jh (p.lines++kv r)).1])
 hkind:now.kind=if now.fields=[] then 2 else 3
 hrec:rec=p.records+if now.fields=[] then 0 else 1
 hout:out=p.items
 hempty:p.block=[]→p.lines=[]∧p.fields=[]
 b1:now.fields.length≤40
 b2:rec≤400
theorem q5o (b:List qa):q9 b=[]↔b=[]:=by
 cases b with
 |nil=>simp [q9]
 |cons x r=>simp [q9]
theorem qj8 (b:List qa) (t:qa):q9 (b++[t])=q9 b++t++[10]:=by simp [q9]
theorem Sim.flush {r:List (qa×Bool)} {p:PSt} {prev:Bool} {now:qt} {rec:Int} {out:List qt} (h:Sim r p prev now rec out) (hm:kv r=[]):jc p=(none,{ p with lines:=[],fields:=now.fields }):=by
 have h1:=h.hok
 have h2:=h.hfields
 rw [hm,List.append_nil] at h1 h2
 rw [qs2 h1,h2]
theorem Sim.close {r:List (qa×Bool)} {p:PSt} {prev:Bool} {now:qt} {rec:Int} {out:List qt} (h:Sim r p prev now rec out) (hm:kv r=[]):wz { p with lines:=[],fields:=now.fields }={ p with lines:=[],fields:=[],block:=[],items:=outR now out,records:=rec }:=by
 have hk:=h.hkind
 have hr:=h.hrec
 have hw:=h.hraw
 have ho:=h.hout
 unfold wz outR
 simp only
 by_cases hb:p.block=[]
 ·obtain⟨e1,e2⟩:=h.hempty hb
  have hf:now.fields=[]:=by rw [h.hfields,e1,e2];simp
  rw [if_pos hb,if_pos (by rw [hw,hb];rfl),ho,hr,hf]
  simp
 ·have hne:¬ now.raw=[]:=by rw [hw,q5o];exact hb
  rw [if_neg hb,if_neg hne,ho,hr,← hw]
  obtain⟨nk,nr,nf⟩:=now
  simp only at hk hne ⊢
  by_cases hf:nf=[]
  ·rw [if_pos hf] at hk
   simp [hf,hk,hne]
  ·rw [if_neg hf] at hk
   simp [hf,hk,hne]
theorem qix:∀ (r:List (qa×Bool)) (k:Nat) (p:PSt) (prev:Bool) (now:qt) (rec:Int) (out:List qt),quc r→Sim r p prev now rec out →
  refL k r prev now rec out=match (runL k r p).1 with
   |some e=>(some e,[])
   |none=>(none,(runL k r p).2.items)
 | [],k,p,prev,now,rec,out,_,h=>by
  rw [runL,qro (h.flush rfl),h.close rfl,refL]
 |(t,e)::r,k,p,prev,now,rec,out,hE,h=>by
  rw [refL]
  by_cases h3:qr t=3
  ·by_cases hl:p.lines=[]
   ·have hp:prev=false:=by rw [h.hprev];simp [hl]
    have hw:jo prev t e r now.fields.length rec=2:=by
     unfold jo
     rw [if_pos (.inr (.inl ⟨h3,hp⟩))]
    rw [hw,if_pos (by decide),qdq (x:=((k:Int),2)) (qor (by unfold z0;rw [if_pos h3,if_pos hl]))]
   ·cases e with
    |true=>
     have hp:prev=true:=by rw [h.hprev];simp [hl]
     have hw:jo prev t true r now.fields.length rec=0:=by
      unfold jo
      rw [if_neg (by simp [hp];omega),if_pos (by omega)]
     have ht:=qi2 (qo0 (no:=k) h3 hl) (by omega)
     rw [if_neg (by omega),if_neg (by omega)] at ht
     rw [hw,if_neg (by simp),if_neg (by omega),if_neg (by omega),qfd ht]
     have hm:=qii (e:=true) (r:=r) h3
     have hok:=h.hok.resolve_left hl
     have hfs:=h.hfields
     rw [if_neg hl,hm] at hfs
     rw [hm] at hok
     refine qix r (k+1) _ _ _ _ _ hE.2 ⟨by simp [h3],.inr (by simpa using hok),by rw [qj8,← h.hraw],by simp [hfs],h.hkind,h.hrec,h.hout,by simp,h.b1,h.b2⟩
    |false=>
     have hr:=hE.1 rfl
     subst hr
     have hw:jo prev t false [] now.fields.length rec=2:=by
      unfold jo
      rw [if_pos (.inr (.inr rfl))]
     have hok:=h.hok.resolve_left hl
     rw [qii h3] at hok
     have hf:=qs2 (p:={ p with lines:=p.lines++[t] }) (.inr hok)
     rw [hw,if_pos (by decide),qdq (x:=((k:Int),2)) (qos ((qoz h3 hl).trans hf) (.inr rfl))]
  ·have hm:=qqd (e:=e) (r:=r) h3
   have hf:=h.flush hm
   have hc:=h.close hm
   by_cases hbad:qr t=5∨e=false
   ·have hw:jo prev t e r now.fields.length rec=2:=by
     unfold jo
     rw [if_pos (by rcases hbad with h|h;exact .inl h;exact .inr (.inr h))]
    rw [hw,if_pos (by decide)]
    by_cases h1:qr t=1
    ·rw [qdq (x:=((k:Int),2)) (qos ((qh7 h1).trans (qro hf)) hbad)]
    ·rw [qdq (x:=((k:Int),2)) (qos ((qes h3 h1).trans hf) hbad)]
   ·have he:e=true:=by
     cases e with
     |true=>rfl
     |false=>exact absurd (.inr rfl) hbad
    have h5:qr t≠5:=fun h=>hbad (.inl h)
    subst he
    by_cases h1:qr t=1
    ·have hw:jo prev t true r now.fields.length rec=0:=by
      unfold jo
      rw [if_neg (by simp [h3,h5]),if_pos (by omega)]
     have ht:=qi2 ((qh7 (no:=k) h1).trans (qro hf)) h5
     rw [if_pos h1,hc] at ht
     rw [hw,if_neg (by simp),if_pos h1,qfd ht]
     exact qix r (k+1) _ _ _ _ _ hE.2 ⟨by simp,.inl rfl,rfl,by simp,by simp,by simp,rfl,by simp,by simp,h.b2⟩
    ·by_cases h4:qr t=4
     ·have ht:=qi2 ((qes (no:=k) h3 h1).trans hf) h5
      rw [if_neg h1,if_pos h4] at ht
      rw [qfd ht]
      have hb1:=h.b1
      have hb2:=h.b2
      have hrec:=h.hrec
      have hfull:(40≤now.fields.length∨(now.fields.length=0∧400≤rec))↔(now.fields.length=40∨(now.fields.length=0∧p.records=400)):=by
       by_cases hz:now.fields=[]
       ·rw [if_pos hz] at hrec
        simp only [hz,List.length_nil]
        constructor
        ·rintro (h'|h')
         ·exact absurd h' (by decide)
         ·exact .inr ⟨trivial,by omega⟩
        ·rintro (h'|h')
         ·exact absurd h' (by decide)
         ·exact .inr ⟨trivial,by omega⟩
       ·have:now.fields.length≠0:=fun h=>hz (List.length_eq_zero_iff.1 h)
        constructor
        ·rintro (h'|h')
         ·exact .inl (by omega)
         ·exact absurd h'.1 this
        ·rintro (h'|h')
         ·exact .inl (by omega)
         ·exact absurd h'.1 this
      have hw:jo prev t true r now.fields.length rec=qcs (t::kv r) (decide (now.fields.length=40∨(now.fields.length=0∧p.records=400))):=by
       unfold jo qcs
       rw [if_neg (by simp [h3,h5]),if_neg (by omega)]
       by_cases hu:(jh (t::kv r)).2≠0
       ·rw [if_pos hu,if_pos hu]
       ·rw [if_neg hu,if_neg hu]
        by_cases hx:40≤now.fields.length∨(now.fields.length=0∧400≤rec)
        ·rw [if_pos hx,if_pos (decide_eq_true (hfull.1 hx))]
        ·rw [if_neg hx,if_neg (by simpa using fun h=>hx (hfull.2 h))]
      by_cases hw0:jo prev t true r now.fields.length rec=0
      ·rw [if_neg (by simp [hw0]),if_neg h1,if_pos h4]
       have hx:¬ (40≤now.fields.length∨(now.fields.length=0∧400≤rec)):=fun hx=>by
        unfold jo at hw0
        rw [if_neg (by simp [h3,h5]),if_neg (by omega)] at hw0
        by_cases hu:(jh (t::kv r)).2≠0
        ·rw [if_pos hu] at hw0;exact hu hw0
        ·rw [if_neg hu,if_pos hx] at hw0;simp at hw0
       rw [hw] at hw0
       refine qix r (k+1) _ _ _ _ _ hE.2 ⟨by simp [jy],.inr hw0,by simp only [jy];rw [qj8,← h.hraw],by simp [jy],by simp,?_,h.hout,by simp [jy],by simp;omega,?_⟩
       ·have hkd:=h.hkind
        simp only [jy]
        by_cases hz:now.fields=[]
        ·rw [if_pos hz] at hrec hkd
         rw [hkd]
         simp
         omega
        ·rw [if_neg hz] at hrec hkd
         rw [hkd]
         simp
         omega
       ·rw [h.hkind]
        by_cases hz:now.fields=[]
        ·have:now.fields.length=0:=by rw [hz];rfl
         rw [if_pos hz,if_pos rfl]
         omega
        ·rw [if_neg hz,if_neg (by decide)]
         exact hb2
      ·rw [if_pos hw0]
       have:=qwz r { jy { p with lines:=[],fields:=now.fields } k t with block:=p.block++[t] } (k+1) (jo prev t true r now.fields.length rec) hE.2 (by simp [jy]) hw.symm hw0
       simp only [jy] at this ⊢
       rw [this]
     ·have hw:jo prev t true r now.fields.length rec=0:=by
       unfold jo
       rw [if_neg (by simp [h3,h5]),if_pos h4]
      have ht:=qi2 ((qes (no:=k) h3 h1).trans hf) h5
      rw [if_neg h1,if_neg h4] at ht
      rw [hw,if_neg (by simp),if_neg h1,if_neg h4,qfd ht]
      exact qix r (k+1) _ _ _ _ _ hE.2 ⟨by simp [h3],.inl rfl,by rw [qj8,← h.hraw],by simp,h.hkind,h.hrec,h.hout,by simp,h.b1,h.b2⟩
theorem qe0 (text:qa):refL 0 (zb text) false ⟨2,[],[]⟩ 0 []=zn text:=by
 unfold zn
 exact qix (zb text) 0 p0 false ⟨2,[],[]⟩ 0 [] (qnd _ text (Nat.le_refl _)) ⟨by simp [p0],.inl rfl,rfl,by simp [p0],by simp,by simp [p0],rfl,by simp [p0],by simp,by omega⟩
end Go.Pl
namespace Go.Pl
open Go Go.Proofs Go.Proofs.YtneejjefekdgjaaGreatDoor
theorem qqt {l b:qa} {n:Int} (h:zq l=(1,b,n)):yc b∧∃ m,l=recF b++m∧n=(recF b).length:=by
 unfold zq at h
 split at h
 ·rename_i h10
  split at h
  ·rename_i ho
   generalize hr:past 10 l=r at *
   have hl:=yn h10
   rw [hr] at hl
   generalize hu:upto 10 l=u at *
   have hop:u=wb (zt u).1 (zt u).2.1∧2≤(zt u).1∧(zt u).1≤50000:=by
    simp only [zt,decide_eq_true_eq] at ho ⊢
    obtain⟨o1,o2,o3,o4,o5⟩:=ho
    refine⟨?_,o3,qa6 _⟩
    obtain⟨t,rfl⟩:=o1
    rw [qj9] at *
    have:=qez rfl (Nat.le_trans (by decide) o3)
    unfold wb
    rw [← this,← yn o2]
   generalize (zt u).1=n at *
   generalize (zt u).2.1=fig at *
   obtain⟨rfl,h2,hn⟩:=hop
   split at h
   ·unfold qch at h
    split at h <;> simp at h
   ·rename_i hge
    split at h
    ·rename_i hg
     have hlen:(r.take n).length=n:=by simp;omega
     unfold yw at h
     rw [hlen] at h
     split at h
     ·simp at h
     ·split at h
      ·rename_i hc
       obtain⟨⟨m,hm⟩,hs⟩:=hc
       simp only [Prod.mk.injEq,true_and] at h
       obtain⟨rfl,rfl⟩:=h
       refine⟨hg,m,?_,?_⟩
       ·rw [qiw,hlen,← hs,hl]
        unfold recL
        conv=>lhs;rw [← List.take_append_drop n r,← hm]
        simp
       ·rw [qnk _ hg,hlen]
      ·simp at h
    ·simp at h
  ·simp at h
 ·split at h <;> simp at h
theorem qru (s sub:qa) (i:Nat):Lib.occAt s sub i=true↔sub <+: s.drop i:=by
 unfold Lib.occAt
 rw [List.isPrefixOf_iff_prefix]
theorem zb7 {a:qa} (r:qa) (h:10∉a):Lib.cut (a++10::10::r) [10,10]=(a,r,true):=by
 have hi:Lib.index (a++10::10::r) [10,10]=(a.length:Int):=by
  refine Lib.index_first (by simp) ?_ fun j hj=>?_
  ·rw [qru,List.drop_left]
   exact⟨r,rfl⟩
  ·cases hb:Lib.occAt (a++10::10::r) [10,10] j with
   |false=>rfl
   |true=>
    obtain⟨t,ht⟩:=(qru _ _ _).1 hb
    rw [List.drop_append_of_le_length (by omega)] at ht
    have:a.drop j≠[]:=by
     intro e
     have:=congrArg List.length e
     simp at this
     omega
    obtain⟨c,q,hq⟩:=List.exists_cons_of_ne_nil this
    rw [hq] at ht
    have h10:c=10:=by simpa using (List.cons.inj ht).1.symm
    exact absurd (List.mem_of_mem_drop (by rw [hq,h10];simp:(10:UInt8)∈a.drop j)) h
 unfold Lib.cut
 rw [hi,if_pos (by omega)]
 simp only [Int.toNat_natCast,List.take_left',List.length_cons,List.length_nil]
 rw [show a.length+(0+1+1)=(a++[10,10]).length by simp,show a++10::10::r=(a++[10,10])++r by simp,List.drop_left]
theorem q6r {l m:qa} (h:(Lib.cut l m).2.2=true):l=(Lib.cut l m).1++m++(Lib.cut l m).2.1:=by
 rcases Lib.index_spec l m with⟨h1,_⟩ | ⟨i,h1,h2,h3,_⟩
 ·unfold Lib.cut at h
  rw [h1,if_neg (by omega)] at h
  simp at h
 ·unfold Lib.cut
  rw [h1,if_pos (by omega)]
  simp only [Int.toNat_natCast]
  obtain⟨t,ht⟩:=(qru _ _ _).1 h3
  have e:l.drop (i+m.length)=t:=by rw [← List.drop_drop,← ht,List.drop_left]
  rw [e,List.append_assoc,ht,List.take_append_drop]
def genL:qa:=[35,37,103,101,110,32]
def kc (n:Int):qa:=genL++Lib.itoa n++[10,10]
def jn (n:Int):Prop:=1≤n∧n≤2147483648
instance (n:Int):Decidable (jn n):=inferInstanceAs (Decidable (_∧_))
def xa (text:qa):Int×qa:=
 if genL <+: text then
  match numZ (upto 10 (text.drop 6)) with
  |some n=>if jn n∧[10,10] <+: text.drop (6+(upto 10 (text.drop 6)).length) then (n,text.drop (8+(upto 10 (text.drop 6)).length)) else (0,text)
  |none=>(0,text)
 else (0,text)
theorem qjk (v:Int):(10:UInt8)∉Lib.itoa v:=by
 intro h
 by_cases hv:v<0
 ·rw [qg1 hv] at h
  rcases List.mem_cons.1 h with h|h
  ·simp at h
  ·have:=v8 _ _ (Nat.le_refl _) _ h
   simp at this
 ·rw [qeh (by omega)] at h
  have:=v8 _ _ (Nat.le_refl _) _ h
  simp at this
theorem qjm (n:Int) (r:qa):kc n++r=genL++(Lib.itoa n++10::10::r):=by simp [kc]
theorem qge {n:Int} (h:jn n) (r:qa):xa (kc n++r)=(n,r):=by
 unfold xa
 have hd:(genL++(Lib.itoa n++10::10::r)).drop 6=Lib.itoa n++10::10::r:=by rw [show (6:Nat)=genL.length by rfl,List.drop_left]
 rw [qjm,if_pos (List.prefix_append _ _),hd,wx _ (qjk n),q4b (by have:=h.1;omega) (by have:=h.2;omega)]
 have e1:(genL++(Lib.itoa n++10::10::r)).drop (6+(Lib.itoa n).length)=10::10::r:=by rw [← List.drop_drop,hd,List.drop_left]
 have e2:(genL++(Lib.itoa n++10::10::r)).drop (8+(Lib.itoa n).length)=r:=by
  rw [show 8+(Lib.itoa n).length=(6+(Lib.itoa n).length)+2 by omega,← List.drop_drop,e1]
  rfl
 simp only
 rw [e1,e2,if_pos ⟨h,r,rfl⟩]
theorem qtp {text:qa} (h:∀ n r,jn n→text≠kc n++r):xa text=(0,text):=by
 unfold xa
 split
 ·rename_i hp
  obtain⟨t,rfl⟩:=hp
  have hd:(genL++t).drop 6=t:=by rw [show (6:Nat)=genL.length by rfl,List.drop_left]
  rw [hd]
  split
  ·rename_i n hn
   split
   ·rename_i hc
    obtain⟨hg,r,hr⟩:=hc
    rw [← List.drop_drop,hd] at hr
    obtain⟨he,_⟩:=q4c hn
    refine absurd ?_ (h n r hg)
    rw [qjm,← he]
    congr 1
    conv=>lhs;rw [← List.take_append_drop (upto 10 t).length t,qh6,← hr]
    rfl
   ·rfl
  ·rfl
 ·rfl
theorem qnm (text:qa):(∃ n r,jn n∧text=kc n++r∧xa text=(n,r))∨((∀ n r,jn n→text≠kc n++r)∧xa text=(0,text)):=by
 by_cases h:∃ n r,jn n∧text=kc n++r
 ·obtain⟨n,r,hg,rfl⟩:=h
  exact .inl ⟨n,r,hg,rfl,qge hg r⟩
 ·have h':∀ n r,jn n→text≠kc n++r:=fun n r hg e=>h ⟨n,r,hg,e⟩
  exact .inr ⟨h',qtp h'⟩
def ka (n:Int):qa:=if jn n then kc n else []
theorem qe4 (text:qa):text=ka (xa text).1++(xa text).2∧((xa text).1=0∨jn (xa text).1):=by
 rcases qnm text with⟨n,r,hg,he,ht⟩ | ⟨_,ht⟩
 ·rw [ht]
  simp only
  unfold ka
  rw [if_pos hg]
  exact⟨he,.inr hg⟩
 ·rw [ht]
  exact⟨rfl,.inl rfl⟩
theorem qhz {n:Int} (h:jn n):(kc n).length≤28:=by
 have:=qlf (v:=n) (by have:=h.1;omega) (by have:=h.2;omega)
 simp [kc,genL]
 omega
def begF (l:qa):Bool:=decide (l.head? = some 37∧qr l=5)
def jw (n:Nat) (l:qa):Nat:=if h:l=[] then n else if begF (upto 10 l)=true then n - l.length else jw n (past 10 l)
 termination_by l.length
 decreasing_by exact xj h
theorem qdw (n:Nat):jw n []=n:=by rw [jw,dif_pos rfl]
theorem qja {n:Nat} {l:qa} (h:l≠[]) (hb:begF (upto 10 l)=true):jw n l=n - l.length:=by rw [jw,dif_neg h,if_pos hb]
theorem qkw {n:Nat} {l:qa} (h:l≠[]) (hb:¬ begF (upto 10 l)=true):jw n l=jw n (past 10 l):=by
 conv=>lhs;rw [jw]
 rw [dif_neg h,if_neg hb]
theorem qkv:∀ (k n:Nat) (l:qa),l.length≤k→l.length≤n→n - l.length≤jw n l∧jw n l≤n
 | 0,n,l,h,hn=>by
  have:l=[]:=List.length_eq_zero_iff.1 (by omega)
  subst this
  rw [qdw]
  simp
 |k+1,n,l,h,hn=>by
  by_cases hl:l=[]
  ·subst hl;rw [qdw];simp
  ·by_cases hb:begF (upto 10 l)=true
   ·rw [qja hl hb]
    omega
   ·have:=xj (c:=10) hl
    rw [qkw hl hb]
    have:=qkv k n (past 10 l) (by omega) (by omega)
    omega
theorem qph:∀ (k n:Nat) (l x:qa),l.length≤k→(∀ p∈zb l,begF p.1=false∧p.2=true)→jw n (l++x)=jw n x
 | 0,n,l,x,h,_=>by
  have:l=[]:=List.length_eq_zero_iff.1 (by omega)
  subst this
  rfl
 |k+1,n,l,x,h,hp=>by
  by_cases hl:l=[]
  ·subst hl;rfl
  ·rw [vk hl] at hp
   obtain⟨h1,h2⟩:=hp _ (List.mem_cons_self ..)
   have h10:10∈l:=by simpa using h2
   have e:=yn h10
   have hu:upto 10 (l++x)=upto 10 l∧past 10 (l++x)=past 10 l++x:=by
    have e2:l++x=upto 10 l++10::(past 10 l++x):=by
     conv=>lhs;rw [e]
     simp
    rw [e2,wx _ (qcg 10 l),xy _ (qcg 10 l)]
    exact⟨rfl,rfl⟩
   rw [qkw (by simp [hl]) (by rw [hu.1];simp [h1]),hu.2]
   exact qph k n _ x (by have:=xj (c:=10) hl;omega) fun p hp'=>hp p (by simp [hp'])
theorem qga:∀ (r:List (qa×Bool)) (k:Nat) (prev:Bool) (now:qt) (rec:Int) (out:List qt),(refL k r prev now rec out).1=none→∀ x∈r,qr x.1≠5∧x.2=true
 | [],_,_,_,_,_,_=>by simp
 |(t,e)::r,k,prev,now,rec,out,h=>by
  rw [refL] at h
  split at h
  ·simp at h
  ·rename_i hw
   have hx:qr t≠5∧e=true:=by
    unfold jo at hw
    split at hw
    ·simp at hw
    ·rename_i hc
     exact⟨fun h5=>hc (.inl h5),by cases e with|true=>rfl|false=>exact absurd (.inr (.inr rfl)) hc⟩
   have hr:∀ x∈r,qr x.1≠5∧x.2=true:=by
    split at h
    ·exact qga r _ _ _ _ _ h
    ·split at h
     ·exact qga r _ _ _ _ _ h
     ·exact qga r _ _ _ _ _ h
   intro x hx'
   rcases List.mem_cons.1 hx' with rfl|hx'
   ·exact hx
   ·exact hr x hx'
theorem qyl {text:qa} (h:(zn text).1=none):∀ x∈zb text,begF x.1=false∧x.2=true:=fun x hx=>by
 rw [← qe0] at h
 obtain⟨h1,h2⟩:=qga _ _ _ _ _ _ h x hx
 exact⟨by simp [begF,h1],h2⟩
theorem qhk {n:Nat} {fig l:qa} (hf:yf fig) (h:l <+: wb n fig) (hne:l≠[]):begF l=true:=by
 have h10:10∉l:=qrx h (qcb n hf)
 have h58:(58:UInt8)∉l:=qrx h fun h'=>by
  unfold wb at h'
  rcases List.mem_append.1 h' with h'|h'
  ·revert h';decide
  ·rcases List.mem_append.1 h' with h'|h'
   ·exact qjq n (by decide) h'
   ·rcases List.mem_cons.1 h' with h'|h'
    ·simp at h'
    ·exact qld hf (by decide) h'
 obtain⟨c,q,rfl⟩:=List.exists_cons_of_ne_nil hne
 have hc:c=37:=by
  obtain⟨t,ht⟩:=h
  unfold wb zr at ht
  exact (List.cons.inj ht).1
 subst hc
 have hk:=qye h10 (fun hb=>by
  have:=hb 37 (by simp)
  revert this
  decide)
 simp only [begF,List.head?_cons,true_and,decide_eq_true_eq]
 rw [hk.2]
 rw [if_neg (by simp),if_neg (by simp [w6]),if_neg (fun h=>h58 h.1)]
theorem q21 {n:Nat} {fig body l:qa} (hf:yf fig) (h:l <+: recL n fig body) (hne:l≠[]):begF (upto 10 l)=true:=by
 rcases qtl (show l <+: wb n fig++10::(body++qc0 n) from h) with h | ⟨r,rfl,hr⟩
 ·rw [qda (qrx h (qcb n hf))]
  exact qhk hf h hne
 ·cases r with
  |nil=>
   rw [List.append_nil,qda (qcb n hf)]
   exact qhk hf (List.prefix_refl _) (by simp [wb,zr])
  |cons c r=>
   have:c=10:=by obtain⟨t,ht⟩:=hr;exact (List.cons.inj ht).1
   subst this
   rw [wx _ (qcb n hf)]
   exact qhk hf (List.prefix_refl _) (by simp [wb,zr])
theorem q9r {b:qa} (x:qa) (hg:yc b):begF (upto 10 (recF b++x))=true:=by
 rw [qiw]
 have hx:yf (sumF b):=qm9 (addP 0 b)
 unfold recL
 rw [List.append_assoc,List.cons_append,wx _ (qcb _ hx)]
 exact qhk hx (List.prefix_refl _) (by simp [wb,zr])
end Go.Pl
