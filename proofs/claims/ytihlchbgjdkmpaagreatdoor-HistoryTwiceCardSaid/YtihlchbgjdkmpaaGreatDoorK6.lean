/- Contracts and plain facts that the closing text leans on (part 6). No condition of their own beyond those that each states. -/
import Derived.Test.YtihlchbgjdkmpaaGreatDoorK5
import Derived.LaidEql
import Derived.Stop.Asserts
import Derived.RowKitTokens
import Derived.Lib.IfaceEq
import Derived.Laws.StructEq
set_option maxRecDepth 100000
set_option linter.unusedVariables false
set_option linter.unusedSimpArgs false
namespace Go.Pl
open Go Go.Proofs
structure za where
 kind:Int
 raw:qa
 fields:List Fld
structure PSt where
 lines:List qa
 frm:Int
 full:Bool
 items:List za
 block:List qa
 fields:List Fld
 records:Int
def jj (p:PSt):Option (Int×Int)×PSt:=
 if p.lines=[] then (none,p)
 else if (jr p.lines).2≠0 then (some (p.frm,(jr p.lines).2),p)
 else if p.full=true then (some (p.frm,11),p)
 else (none,{ p with lines:=[],fields:=p.fields++[(jr p.lines).1] })
end Go.Pl
namespace Go.Proofs.YtihlchbgjdkmpaaGreatDoor
open Go Go.Av Go.RowKit Go.Proofs Go.Pl
@[reducible] def v6 (x : za) : AV := .ag [Iv x.kind, Sv x.raw, kj x.fields]
@[reducible] def ww (xs : List za) : AV := .sl 3 (xs.map v6) none
@[reducible] def parC (c1 c2 c3 c4 : AV) (p : PSt) : List AV := [c1, Iv p.frm, Bv p.full, c2, c3, c4, Iv p.records]
@[reducible] def parO (c1 c2 c3 c4 : AV) (p : PSt) : AObj := .cells 0 211 (parC c1 c2 c3 c4 p)
structure ParS (b o:Nat) (p:PSt) (st:List AObj) (c1 c2 c3 c4:AV):Prop where
 lt:o<b
 le:b≤st.length
 ob:st[o]? = some (parO c1 c2 c3 c4 p)
 h1:TipC b st 1 9 (p.lines.map fun x=>Sv x) c1
 h2:TipC b st 3 98 (p.items.map v6) c2
 h3:TipC b st 1 9 (p.block.map fun x=>Sv x) c3
 h4:TipC b st 2 77 (p.fields.map fldA) c4
 ne:∀ t xs ys,c1 = .sl 1 xs (some t)→c3 = .sl 1 ys (some t)→False
structure Keep (b o:Nat) (st st':List AObj):Prop where
 len:st.length≤st'.length
 same:∀ k,k≠o→k<st.length→(k<b∨qe3 st[k]?)→st'[k]? = st[k]?
theorem Keep.trans {b o:Nat} {st st' st'':List AObj} (h:Keep b o st st') (k:Keep b o st' st''):Keep b o st st'':=⟨Nat.le_trans h.len k.len,fun i b9 hi hc=>by
 have e:=h.same i b9 hi hc;refine (k.same i b9 (Nat.lt_of_lt_of_le hi h.len) ?_).trans e;rw [e]
 exact hc⟩
def qga (a n:Int):AV:=.ifc 115 (.pp [Iv a,.ifc 37 (Iv n)])
def errP:Option (Int×Int)→AV
 |none=>.v .nilIface
 |some (a,n)=>qga a n
theorem qjs (a n:Int):Pure (qga a n):=qb7 (qtw fun x hx=>by
 simp only [List.mem_cons,List.not_mem_nil,or_false] at hx;rcases hx with rfl|rfl
 ·exact qt _
 ·exact qb7 (qt _))
theorem qlq (a n:Int) (st:List AObj):qn E 158 [Iv a,.ifc 37 (Iv n)] st fun r st'=>r=qga a n∧st'=st:=by
 refine zb (qjs a n) (qr Tryz.func158 rfl (Nat.le_of_ble_eq_true rfl) ?_);repeat' (first|(apply qmn;(iterate 3 exact rfl))|apply qm|apply qe|apply qf|apply qj|apply qh|(apply vn;exact rfl;exact rfl)|(apply yl;(iterate 3 exact rfl))|apply qu)
 exact qo rfl (zi rfl) ⟨rfl,_,rfl⟩
theorem q5t (ls:List qa) (t:Option Nat) (st:List AObj) (hB:LsB ls) (h:(jr ls).2=0):qn E 218 [.sl 1 (ls.map fun x=>Sv x) t] st fun r st'=>r = .tu [fldA (jr ls).1,.v .nilIface]∧st'=st:=by
 have:=qmf ls st hB;unfold qfq at this;rw [h] at this;exact qoo (ql6 _ _ _) this
theorem q5u (ls:List qa) (t:Option Nat) (st:List AObj) (hB:LsB ls) (h:(jr ls).2≠0):qn E 218 [.sl 1 (ls.map fun x=>Sv x) t] st fun r st'=>r = .tu [fldA (jr ls).1,.ifc 37 (Iv (jr ls).2)]∧st'=st:=by
 have:=qmf ls st hB;unfold qfq at this;rw [qkc h] at this;exact qoo (ql6 _ _ _) this
structure PB (n:Nat) (p:PSt):Prop where
 small:n<900000
 lines:p.lines.length≤n
 linesV:∀ s∈p.lines,s.length<1000000
 items:p.items.length≤n
 block:p.block.length≤n
 blockV:∀ s∈p.block,s.length<1000000
 fields:p.fields.length≤n
 rec0:0≤p.records
 rec1:p.records≤n
theorem PB.ls {n:Nat} {p:PSt} (h:PB n p):LsB p.lines:=⟨by have:=h.lines;have:=h.small;omega,h.linesV⟩
theorem ParS.pre {b o:Nat} {p:PSt} {st l:List AObj} {c1 c2 c3 c4:AV} (P:ParS b o p st c1 c2 c3 c4):ParS b o p (st++l) c1 c2 c3 c4:=
 ⟨P.lt,by have:=P.le;simp;omega,qa8 P.ob,qio P.h1,qio P.h2,qio P.h3,qio P.h4,P.ne⟩
end Go.Proofs.YtihlchbgjdkmpaaGreatDoor
namespace Go.Pl
open Go Go.Proofs
def xn (p:PSt):PSt:=
 if p.block=[] then { p with block:=[],fields:=[] }
 else { p with items:=p.items++[⟨if p.fields=[] then 2 else 3,zg p.block,p.fields⟩],records:=if p.fields=[] then p.records else p.records+1,block:=[],fields:=[] }
def endP (p:PSt):Option (Int×Int)×PSt:=match (jj p).1 with
 |some e=>(some e,p)
 |none=>(none,xn (jj p).2)
theorem qnb:∀ (x:qa) (r:List qa),Lib.join (x::r) [10]++[10]=zg (x::r)
 |x,[]=>by rw [Lib.join_one];simp [zg]
 |x,y::r=>by
  have ih:=qnb y r;rw [Lib.join_cons] at ih ⊢;unfold Lib.joinTail at ih ⊢;simp only [List.map_cons,List.flatten_cons,zg,List.flatMap_cons] at ih ⊢;rw [← ih];simp
theorem ql3:∀ (r:List qa),(∀ s∈r,s.length<1000000)→(zg r).length≤1000001 * r.length
 | [],_=>by simp [zg]
 |a::r,h=>by
  have ih:=ql3 r fun s hs=>h s (by simp [hs]);have ha:=h a (by simp);simp only [zg,List.flatMap_cons,List.length_append,List.length_cons,List.length_nil] at ih ⊢;omega
end Go.Pl
namespace Go.Proofs.YtihlchbgjdkmpaaGreatDoor
open Go Go.Av Go.RowKit Go.Proofs Go.Pl
theorem qgc {n:Nat} {p:PSt} (h:PB n p) (hs:n+1<900000):PB (n+1) (jj p).2:=by
 have h1:=h.lines;have h2:=h.items;have h3:=h.block;have h4:=h.fields;have h5:=h.rec0;have h6:=h.rec1;unfold jj;split
 ·exact⟨hs,by simp only;omega,h.linesV,by simp only;omega,by simp only;omega,h.blockV,by simp only;omega,h5,by simp only;omega⟩
 ·split
  ·exact⟨hs,by simp only;omega,h.linesV,by simp only;omega,by simp only;omega,h.blockV,by simp only;omega,h5,by simp only;omega⟩
  ·split
   ·exact⟨hs,by simp only;omega,h.linesV,by simp only;omega,by simp only;omega,h.blockV,by simp only;omega,h5,by simp only;omega⟩
   ·exact⟨hs,by simp,by simp,by simp only;omega,by simp only;omega,h.blockV,by simp;omega,h5,by simp only;omega⟩
theorem zd6 (xs:List qa) (tip:Option Nat) (st:List AObj) (b9:xs≠[]) (hN:xs.length≤900000) (hv:∀ s∈xs,s.length<1000000):qn E 97 [.sl 1 (xs.map fun x=>Sv x) tip,Sv [10]] st fun r st'=>r=Sv (Lib.join xs [10])∧st'=st:=by
 refine q7o xs tip [10] st (by omega) ?_;have h1:=ql3 xs hv
 cases xs with
 |nil=>exact absurd rfl b9
 |cons x r=>
  have h2:=congrArg List.length (qnb x r);rw [List.length_append] at h2;simp only [List.length_cons,List.length_nil] at h2 h1 hN;omega
def parH (a:Nat) (p:PSt):List (Nat×Option SR):=[(0,some (.cells 211 [.tp a,.i p.frm,.b p.full,.tp (a+1),.tp (a+2),.tp (a+3),.i p.records])),(a,some (.tip 1 9 (p.lines.map fun x=>Sv x))),(a+1,some (.tip 3 98 (p.items.map v6))),(a+2,some (.tip 1 9 (p.block.map fun x=>Sv x))),(a+3,some (.tip 2 77 (p.fields.map fldA)))]
theorem qp4 (n:Nat) (p:PSt) (hB:PB n p):j8 E 160 [.bx 0 0] 5 (hpF (parH 1 p)) ⟨.a (errP (jj p).1),ju (parH 1 p),parH 5 (jj p).2++kz (parH 1 p),9⟩:=by
 refine wh [.bx 0 0] (parH 1 p) 5 (.a (errP (jj p).1)) (parH 5 (jj p).2) 9 Tryz.func160 rfl rfl rfl rfl fun S F ρ=>?_;have sb:=hB.ls;have hsm:=hB.small;have p7:=hB.fields;by_cases h0:p.lines=[]
 ·have e:jj p=(none,p):=by unfold jj;rw [if_pos h0]
  rw [e];have hl0:(p.lines.map fun x=>Sv x).length=0:=by simp [h0]
  apply qd [];repeat' (first|apply And.intro|(intro h;try exact cDd)|exact cSd|apply qb []|refine exr ?_|refine qi ?_)
 ·have hl0:(p.lines.map fun x=>Sv x).length≠0:=by simp [h0]
  by_cases hu:(jr p.lines).2=0
  ·have pw:=fun st=>q5t p.lines none st sb hu
   cases hf:p.full with
   |true=>
    have e:jj p=(some (p.frm,11),p):=by unfold jj;rw [if_neg h0,if_neg (by simp [hu]),if_pos hf]
    rw [e];have hft:=fun st=>qlq p.frm 11 st;apply qd []
    repeat' (first|apply And.intro|(intro h;try exact cDd)|exact⟨Tryz.call218⟩|refine cpe pw ?_|exact⟨Tryz.call158⟩|refine cpe hft ?_|(exact absurd (by assumption:p.full=false) (by rw [hf];decide))|exact cSd|apply qb []|refine exr ?_|refine qi ?_)
   |false=>
    have e:jj p=(none,{ p with lines:=[],fields:=p.fields++[(jr p.lines).1] }):=by unfold jj;rw [if_neg h0,if_neg (by simp [hu]),if_neg (by simp [hf])]
    rw [e];apply qd [51];repeat' (first|apply And.intro|(intro h;try exact cDd)|exact⟨Tryz.call218⟩|refine cpe pw ?_|(exact absurd (by assumption:p.full=true) (by rw [hf];decide))|exact cSd|apply qb [51]|refine exr ?_|refine qi ?_)
    all_goals first|(simp [SV.evs,SV.ev];done)|(simp [SV.evs];omega)
  ·have pw:=fun st=>q5u p.lines none st sb hu
   have e:jj p=(some (p.frm,(jr p.lines).2),p):=by unfold jj;rw [if_neg h0,if_pos hu]
   rw [e];have hft:=fun st=>qlq p.frm (jr p.lines).2 st;apply qd [];repeat' (first|apply And.intro|(intro h;try exact cDd)|exact⟨Tryz.call218⟩|refine cpe pw ?_|exact⟨Tryz.call158⟩|refine cpe hft ?_|exact cSd|apply qb []|refine exr ?_|refine qi ?_)
theorem q2z (n:Nat) (p:PSt) (hB:PB n p) (hs:n+1<900000):j8 E 116 [.bx 0 0] 5 (hpF (parH 1 p)) ⟨.a (errP (endP p).1),ju (parH 1 p),parH 5 (endP p).2++kz (parH 1 p),9⟩:=by
 refine wh [.bx 0 0] (parH 1 p) 5 (.a (errP (endP p).1)) (parH 5 (endP p).2) 9 Tryz.func116 rfl rfl rfl rfl fun S F ρ=>?_;have bj:=qp4 n p hB;have fg:=qgc hB hs
 have gn:∀ e,(jj p).1=some e→(jj p).2=p:=fun e=>by
  unfold jj;split
  ·simp
  ·split
   ·simp
   ·split
    ·simp
    ·simp
 unfold endP;generalize jj p=fq at bj fg gn;obtain⟨fe,q⟩:=fq
 cases fe with
 |some e=>
  obtain rfl:=gn e rfl;obtain⟨a,k⟩:=e;apply qd []
  repeat' (first|apply And.intro|(intro h;try exact cDd)|exact⟨Tryz.call160⟩|(refine zy bj ?_)|exact cSd|apply qb []|refine exr ?_|refine qi ?_)
 |none=>
  dsimp only at fg bj;have h3:=fg.fields;have h4:=fg.rec0;have h5:=fg.rec1;have h1:=fg.block;have h2:=fg.items;by_cases hb:q.block=[]
  ·have e:xn q={ q with block:=[],fields:=[] }:=by unfold xn;rw [if_pos hb]
   simp only [e];have hl0:(q.block.map fun x=>Sv x).length=0:=by simp [hb]
   apply qd [];repeat' (first|apply And.intro|(intro h;try exact cDd)|exact⟨Tryz.call160⟩|(refine zy bj ?_)|exact cSd|apply qb []|refine exr ?_|refine qi ?_)
  ·have hl0:(q.block.map fun x=>Sv x).length≠0:=by simp [hb]
   have gf:=ql3 q.block fg.blockV
   obtain⟨b,r,cr⟩:∃ b r,q.block=b::r:=by
    cases hq:q.block with
    |nil=>exact absurd hq hb
    |cons b r=>exact⟨b,r,rfl⟩
   have hjt:=qnb b r;rw [← cr] at hjt;have hjl:=congrArg List.length hjt;simp only [List.length_append,List.length_cons,List.length_nil] at hjl;have hjo:=fun st=>zd6 q.block none st hb (by omega) fg.blockV;by_cases hf:q.fields=[]
   ·have e:xn q={ q with items:=q.items++[⟨2,zg q.block,q.fields⟩],records:=q.records,block:=[],fields:=[] }:=by unfold xn;rw [if_neg hb,if_pos hf,if_pos hf]
    simp only [e];have u0:(q.fields.map fldA).length=0:=by simp [hf]
    apply qd [];repeat' (first|apply And.intro|(intro h;try exact cDd)|exact⟨Tryz.call160⟩|(refine zy bj ?_)|exact⟨Tryz.call97⟩|refine cpe hjo ?_|exact cSd|apply qb []|refine exr ?_|refine qi ?_)
    all_goals first|(simp [SV.evs,SV.ev,hjt];done)|(simp [SV.evs];omega)
   ·have e:xn q={ q with items:=q.items++[⟨3,zg q.block,q.fields⟩],records:=q.records+1,block:=[],fields:=[] }:=by unfold xn;rw [if_neg hb,if_neg hf,if_neg hf]
    simp only [e];have u0:(q.fields.map fldA).length≠0:=by simp [hf]
    apply qd [];repeat' (first|apply And.intro|(intro h;try exact cDd)|exact⟨Tryz.call160⟩|(refine zy bj ?_)|exact⟨Tryz.call97⟩|refine cpe hjo ?_|exact cSd|apply qb []|refine exr ?_|refine qi ?_)
    all_goals first|(simp [SV.evs,SV.ev,hjt];done)|(simp [SV.evs];omega)
end Go.Proofs.YtihlchbgjdkmpaaGreatDoor
namespace Go.Pl
open Go Go.Proofs
def ki (p:PSt) (no:Int) (text:qa):PSt:={ p with lines:=[text],frm:=no,full:=decide (p.fields.length=40∨(p.fields.length=0∧p.records=400)) }
def je (p:PSt) (no:Int) (text:qa) (ended:Bool) (kind:Int):Option (Int×Int)×PSt:=
 if kind=3 then
  if p.lines=[] then (some (no,2),p)
  else if ended=true then (none,{ p with lines:=p.lines++[text] })
  else jj { p with lines:=p.lines++[text] }
 else if kind=1 then endP p
 else jj p
def we (p:PSt) (no:Int) (text:qa) (ended:Bool):Option (Int×Int)×PSt:=
 match (je p no text ended (qs text)).1 with
 |some e=>(some e,p)
 |none=>
  if qs text=5∨ended=false then (some (no,2),p)
  else if qs text=1 then (none,{ (je p no text ended (qs text)).2 with items:=(je p no text ended (qs text)).2.items++[⟨1,text++[10],[]⟩] })
  else if qs text=4 then (none,{ ki (je p no text ended (qs text)).2 no text with block:=(je p no text ended (qs text)).2.block++[text] })
  else (none,{ (je p no text ended (qs text)).2 with block:=(je p no text ended (qs text)).2.block++[text] })
end Go.Pl
namespace Go.Proofs.YtihlchbgjdkmpaaGreatDoor
open Go Go.Av Go.RowKit Go.Proofs Go.Pl
theorem PB.more {n m:Nat} {p:PSt} (h:PB n p) (hm:n≤m) (hs:m<900000):PB m p:=by
 have h1:=h.lines;have h2:=h.items;have h3:=h.block;have h4:=h.fields;have h5:=h.rec0;have h6:=h.rec1;exact⟨hs,by omega,h.linesV,by omega,by omega,h.blockV,by omega,h5,by omega⟩
theorem q6s {n:Nat} {p:PSt} (h:PB n p) (hs:n+1<900000):PB (n+1) (xn p):=by
 have h1:=h.lines;have h2:=h.items;have h3:=h.block;have h4:=h.fields;have h5:=h.rec0;have h6:=h.rec1;unfold xn;split
 ·exact⟨hs,by simp only;omega,h.linesV,by simp only;omega,by simp,by simp,by simp,h5,by simp only;omega⟩
 ·refine⟨hs,by simp only;omega,h.linesV,by simp;omega,by simp,by simp,by simp,?_,?_⟩
  ·simp only;split <;> omega
  ·simp only;split <;> omega
theorem qqi {n:Nat} {p:PSt} {text:qa} (h:PB n p) (hs:n+1<900000) (ht:text.length<1000000):PB (n+1) { p with lines:=p.lines++[text] }:=by
 have h1:=h.lines;have h2:=h.items;have h3:=h.block;have h4:=h.fields;have h5:=h.rec0;have h6:=h.rec1;exact⟨hs,by simp;omega,qqe h.linesV ht,by simp only;omega,by simp only;omega,h.blockV,by simp only;omega,h5,by simp only;omega⟩
theorem qzm {n:Nat} {p:PSt} {text:qa} (h:PB n p) (hs:n+1<900000) (ht:text.length<1000000):PB (n+1) { p with block:=p.block++[text] }:=by
 have h1:=h.lines;have h2:=h.items;have h3:=h.block;have h4:=h.fields;have h5:=h.rec0;have h6:=h.rec1;exact⟨hs,by simp only;omega,h.linesV,by simp only;omega,by simp;omega,qqe h.blockV ht,by simp only;omega,h5,by simp only;omega⟩
theorem zbm {n:Nat} {p:PSt} {x:za} (h:PB n p) (hs:n+1<900000):PB (n+1) { p with items:=p.items++[x] }:=by
 have h1:=h.lines;have h2:=h.items;have h3:=h.block;have h4:=h.fields;have h5:=h.rec0;have h6:=h.rec1;exact⟨hs,by simp only;omega,h.linesV,by simp;omega,by simp only;omega,h.blockV,by simp only;omega,h5,by simp only;omega⟩
theorem zbl {n:Nat} {p:PSt} {no:Int} {text:qa} (h:PB n p) (hs:n+1<900000) (ht:text.length<1000000):PB (n+1) (ki p no text):=by
 have h1:=h.lines;have h2:=h.items;have h3:=h.block;have h4:=h.fields;have h5:=h.rec0;have h6:=h.rec1;exact⟨hs,by simp [ki],by simp [ki,ht],by simp only [ki];omega,by simp only [ki];omega,h.blockV,by simp only [ki];omega,h5,by simp only [ki];omega⟩
theorem qiu {n:Nat} {p:PSt} {no:Int} {text:qa} {ended:Bool} {kind:Int} (h:PB n p) (hs:n+2<900000) (ht:text.length<1000000):PB (n+2) (je p no text ended kind).2:=by
 unfold je;split
 ·split
  ·exact h.more (by omega) hs
  ·split
   ·exact (qqi h (by omega) ht).more (by omega) hs
   ·exact qgc (qqi h (by omega) ht) hs
 ·split
  ·unfold endP
   split
   ·exact h.more (by omega) hs
   ·exact q6s (qgc h (by omega)) hs
  ·exact (qgc h (by omega)).more (by omega) hs
theorem qse (l:qa):1≤qs l∧qs l≤5:=by
 unfold qs;repeat' split
 all_goals decide
theorem qqq {n:Nat} {p:PSt} {no:Int} {text:qa} {ended:Bool} (h:PB n p) (hs:n+4<900000) (ht:text.length<1000000):PB (n+4) (we p no text ended).2:=by
 have h2:PB (n+2) (je p no text ended (qs text)).2:=qiu h (by omega) ht;unfold we;split
 ·exact h.more (by omega) hs
 ·split
  ·exact h.more (by omega) hs
  ·split
   ·exact (zbm h2 (by omega)).more (by omega) hs
   ·split
    ·exact qzm (zbl h2 (by omega) ht) hs ht
    ·exact (qzm h2 (by omega) ht).more (by omega) hs
theorem q8e (n:Nat) (p:PSt) (no at':Int) (text:qa) (ended:Bool) (hB:PB n p):j8 E 159 [.bx 0 0,.ag [.i no,.i at',.s text,.b ended]] 5 (hpF (parH 1 p)) ⟨.tu [],ju (parH 1 p),parH 5 (ki p no text)++kz (parH 1 p),9⟩:=by
 refine wh [.bx 0 0,.ag [.i no,.i at',.s text,.b ended]] (parH 1 p) 5 (.tu []) (parH 5 (ki p no text)) 9 Tryz.func159 rfl rfl rfl rfl fun S F ρ=>?_;obtain⟨ls,fr,fu,its,bk,fs,rc⟩:=p;have o7:(fs.map fldA).length=fs.length:=by simp
 by_cases ha:fs.length=40∨(fs.length=0∧rc=400)
 ·have e:ki ⟨ls,fr,fu,its,bk,fs,rc⟩ no text=⟨[text],no,true,its,bk,fs,rc⟩:=by
   unfold ki;simp only [decide_eq_true ha]
  rw [e];apply qd [29];repeat' (first|apply And.intro|(intro h;try exact cDd)|exact cSd|apply qb [29]|refine exr ?_|refine qi ?_)
  all_goals (intros;simp only [o7] at *;first|(exfalso;omega)|(have hrc:rc=400:=(by omega);subst hrc;rfl))
 ·have e:ki ⟨ls,fr,fu,its,bk,fs,rc⟩ no text=⟨[text],no,false,its,bk,fs,rc⟩:=by
   unfold ki;simp only [decide_eq_false ha]
  rw [e];apply qd [29];repeat' (first|apply And.intro|(intro h;try exact cDd)|exact cSd|apply qb [29]|refine exr ?_|refine qi ?_)
  all_goals (intros;simp only [o7] at *;first|(exfalso;omega)|(have hrc:¬ rc=400:=(by omega);simp [SV.evs,SV.ev,SV.rens,SV.ren,lkS,wc,hrc];exact⟨rfl,rfl,rfl⟩))
theorem qvm (n:Nat) (p:PSt) (no at':Int) (text:qa) (ended:Bool) (kind:Int) (hB:PB n p) (hs:n+2<900000) (ht:text.length<1000000):j8 E 157 [.bx 0 0,.ag [.i no,.i at',.s text,.b ended],.i kind] 5 (hpF (parH 1 p)) ⟨.a (errP (je p no text ended kind).1),ju (parH 1 p),parH 5 (je p no text ended kind).2++kz (parH 1 p),9⟩:=by
 refine wh [.bx 0 0,.ag [.i no,.i at',.s text,.b ended],.i kind] (parH 1 p) 5 (.a (errP (je p no text ended kind).1)) (parH 5 (je p no text ended kind).2) 9 Tryz.func157 rfl rfl rfl rfl fun S F ρ=>?_;unfold je;by_cases pf:kind=3
 ·rw [if_pos pf]
  by_cases h0:p.lines=[]
  ·rw [if_pos h0]
   have hl0:(p.lines.map fun x=>Sv x).length=0:=by simp [h0]
   have hft:=fun st=>qlq no 2 st;apply qd [];repeat' (first|apply And.intro|(intro h;try exact cDd)|exact⟨Tryz.call158⟩|refine cpe hft ?_|exact cSd|apply qb []|refine exr ?_|refine qi ?_)
  ·rw [if_neg h0]
   have hl0:(p.lines.map fun x=>Sv x).length≠0:=by simp [h0]
   have hll:=hB.lines;have hsm:=hB.small;have o7:(p.lines.map fun x=>Sv x).length=p.lines.length:=by simp
   have bj:=qp4 (n+1) { p with lines:=p.lines++[text] } (qqi hB (by omega) ht)
   cases ended with
   |true=>
    rw [if_pos rfl];apply qd [];repeat' (first|apply And.intro|(intro h;try exact cDd)|(exact absurd (by assumption:true=false) (by decide))|exact cSd|apply qb []|refine exr ?_|refine qi ?_)
    all_goals first|(simp [SV.evs,SV.ev];done)|(simp [SV.evs];omega)
   |false=>
    rw [if_neg (by decide)];apply qd [];repeat' (first|apply And.intro|(intro h;try exact cDd)|(exact absurd (by assumption:false=true) (by decide))|exact⟨Tryz.call160⟩|(refine zy bj ?_)|exact cSd|apply qb []|refine exr ?_|refine qi ?_)
    all_goals first|(simp [SV.evs,SV.ev];done)|(simp [SV.evs];omega)
 ·rw [if_neg pf]
  by_cases gw:kind=1
  ·rw [if_pos gw]
   have bj:=q2z n p hB (by omega);apply qd [];repeat' (first|apply And.intro|(intro h;try exact cDd)|exact⟨Tryz.call116⟩|(refine zy bj ?_)|exact cSd|apply qb []|refine exr ?_|refine qi ?_)
  ·rw [if_neg gw]
   have bj:=qp4 n p hB;apply qd [];repeat' (first|apply And.intro|(intro h;try exact cDd)|exact⟨Tryz.call160⟩|(refine zy bj ?_)|exact cSd|apply qb []|refine exr ?_|refine qi ?_)
theorem zbn (n:Nat) (p:PSt) (no at':Int) (text:qa) (ended:Bool) (hB:PB n p) (hs:n+4<900000) (ht:text.length<1000000) (hok:(we p no text ended).1=none):j8 E 115 [.bx 0 0,.ag [.i no,.i at',.s text,.b ended]] 5 (hpF (parH 1 p)) ⟨.a (.v .nilIface),ju (parH 1 p),parH 5 (we p no text ended).2++kz (parH 1 p),9⟩:=by
 refine wh [.bx 0 0,.ag [.i no,.i at',.s text,.b ended]] (parH 1 p) 5 (.a (.v .nilIface)) (parH 5 (we p no text ended).2) 9 Tryz.func115 rfl rfl rfl rfl fun S F ρ=>?_;have bj:=qvm n p no at' text ended (qs text) hB (by omega) ht;have rf:=qiu (no:=no) (text:=text) (ended:=ended) (kind:=qs text) hB (by omega) ht;have hkr:=qse text;have hkd:=fun st=>qkd text st (by omega);unfold we at hok ⊢;generalize je p no text ended (qs text)=fq at bj rf hok ⊢;obtain⟨fe,q⟩:=fq
 cases fe with
 |some e=>exact absurd hok (by simp)
 |none=>
  dsimp only at rf bj hok ⊢;have h1:=rf.block;have h2:=rf.items;have hmb:(q.block.map fun x=>Sv x).length=q.block.length:=by simp
  have hmi:(q.items.map v6).length=q.items.length:=by simp
  by_cases hk:qs text=5∨ended=false
  ·rw [if_pos hk] at hok
   exact absurd hok (by simp)
  ·rw [if_neg hk] at hok ⊢
   have hk5:qs text≠5:=fun h=>hk (.inl h);obtain rfl:ended=true:=by cases ended <;> simp_all
   by_cases gw:qs text=1
   ·rw [if_pos gw]
    apply qd [];repeat' (first|apply And.intro|(intro h;try exact cDd)|exact⟨Tryz.call156⟩|refine cpe hkd ?_|exact⟨Tryz.call157⟩|(refine zy bj ?_)|(exact absurd (by assumption:true=false) (by decide))|exact cSd|apply qb []|refine exr ?_|refine qi ?_)
    all_goals first|(simp [SV.evs,SV.ev];done)|(simp [SV.evs];omega)
   ·rw [if_neg gw]
    by_cases hk4:qs text=4
    ·rw [if_pos hk4]
     have hbc:=q8e (n+2) q no at' text true rf;apply qd [];repeat' (first|apply And.intro|(intro h;try exact cDd)|exact⟨Tryz.call156⟩|refine cpe hkd ?_|exact⟨Tryz.call157⟩|(refine zy bj ?_)|exact⟨Tryz.call159⟩|(refine zy hbc ?_)|(exact absurd (by assumption:true=false) (by decide))|exact cSd|apply qb []|refine exr ?_|refine qi ?_)
     all_goals first|(simp [SV.evs,SV.ev,ki];done)|(simp [SV.evs,ki];omega)
    ·rw [if_neg hk4]
     apply qd [];repeat' (first|apply And.intro|(intro h;try exact cDd)|exact⟨Tryz.call156⟩|refine cpe hkd ?_|exact⟨Tryz.call157⟩|(refine zy bj ?_)|(exact absurd (by assumption:true=false) (by decide))|exact cSd|apply qb []|refine exr ?_|refine qi ?_)
     all_goals first|(simp [SV.evs,SV.ev];done)|(simp [SV.evs];omega)
theorem zbo (n:Nat) (p:PSt) (no at':Int) (text:qa) (ended:Bool) (hB:PB n p) (hs:n+4<900000) (ht:text.length<1000000) (a m:Int) (hok:(we p no text ended).1=some (a,m)):j8 E 115 [.bx 0 0,.ag [.i no,.i at',.s text,.b ended]] 5 (hpF (parH 1 p)) ⟨.a (qga a m),ju (parH 1 p),parH 5 (je p no text ended (qs text)).2++kz (parH 1 p),9⟩:=by
 refine wh [.bx 0 0,.ag [.i no,.i at',.s text,.b ended]] (parH 1 p) 5 (.a (qga a m)) (parH 5 (je p no text ended (qs text)).2) 9 Tryz.func115 rfl rfl rfl rfl fun S F ρ=>?_;have bj:=qvm n p no at' text ended (qs text) hB (by omega) ht;have rf:=qiu (no:=no) (text:=text) (ended:=ended) (kind:=qs text) hB (by omega) ht;have hkr:=qse text;have hkd:=fun st=>qkd text st (by omega);unfold we at hok;generalize je p no text ended (qs text)=fq at bj rf hok ⊢;obtain⟨fe,q⟩:=fq
 cases fe with
 |some e=>
  dsimp only at rf bj hok ⊢;obtain rfl:e=(a,m):=by simpa using hok
  apply qd []
  repeat' (first|apply And.intro|(intro h;try exact cDd)|exact⟨Tryz.call156⟩|refine cpe hkd ?_|exact⟨Tryz.call157⟩|(refine zy bj ?_)|exact cSd|apply qb []|refine exr ?_|refine qi ?_)
 |none=>
  dsimp only at rf bj hok ⊢;by_cases hk:qs text=5∨ended=false
  ·rw [if_pos hk] at hok
   obtain⟨rfl,rfl⟩:no=a∧2=m:=by simpa using hok
   have hft:=fun st=>qlq no 2 st
   cases ended with
   |true=>
    have hk5:qs text=5:=by simpa using hk
    apply qd []
    repeat' (first|apply And.intro|(intro h;try exact cDd)|exact⟨Tryz.call156⟩|refine cpe hkd ?_|exact⟨Tryz.call158⟩|refine cpe hft ?_|exact⟨Tryz.call157⟩|(refine zy bj ?_)|(exact absurd (by assumption:true=false) (by decide))|exact cSd|apply qb []|refine exr ?_|refine qi ?_)
   |false=>
    apply qd [];repeat' (first|apply And.intro|(intro h;try exact cDd)|exact⟨Tryz.call156⟩|refine cpe hkd ?_|exact⟨Tryz.call158⟩|refine cpe hft ?_|exact⟨Tryz.call157⟩|(refine zy bj ?_)|(exact absurd (by assumption:false=true) (by decide))|exact cSd|apply qb []|refine exr ?_|refine qi ?_)
  ·rw [if_neg hk] at hok
   split at hok
   ·simp at hok
   ·split at hok
    ·simp at hok
    ·simp at hok
end Go.Proofs.YtihlchbgjdkmpaaGreatDoor
namespace Go.Pl
open Go Go.Proofs
def p0:PSt:=⟨[],0,false,[],[],[],0⟩
def runL:Nat→List (qa×Bool)→PSt→Option (Int×Int)×PSt
 | _,[],p=>endP p
 |k,(t,e)::r,p=>match (we p k t e).1 with
  |some x=>(some x,p)
  |none=>runL (k+1) r (we p k t e).2
def jk (text:qa):Option (Int×Int)×List za:=match (runL 0 (zl text) p0).1 with
 |some e=>(some e,[])
 |none=>(none,(runL 0 (zl text) p0).2.items)
end Go.Pl
namespace Go.Proofs.YtihlchbgjdkmpaaGreatDoor
open Go Go.Av Go.RowKit Go.Proofs Go.Pl
theorem q65 (x:Option (Int×Int)):Pure (errP x):=by
 rcases x with _ | ⟨a,n⟩
 ·exact qt _
 ·exact qjs a n
theorem q4o (f:Fld):qfs (fldA f):=fun x hx=>by
 simp only [AV.cells,List.mem_cons,List.not_mem_nil,or_false] at hx;rcases hx with rfl|rfl <;> exact qt _
theorem y4 (fs:List Fld):Pure (kj fs):=qar fun x hx=>by
 obtain⟨f,_,rfl⟩:=List.mem_map.1 hx;exact q4o f
theorem qju (x:za):qfs (v6 x):=fun y hy=>by
 simp only [AV.cells,List.mem_cons,List.not_mem_nil,or_false] at hy;rcases hy with rfl|rfl|rfl
 ·exact qt _
 ·exact qt _
 ·exact y4 _
theorem qfz (xs:List za):Pure (ww xs):=qar fun x hx=>by
 obtain⟨f,_,rfl⟩:=List.mem_map.1 hx;exact qju f
theorem kc {x y:AV} (hx:Pure x) (hy:Pure y):Pure (.tu [x,y]):=qeh fun z hz=>by
 simp only [List.mem_cons,List.not_mem_nil,or_false] at hz;rcases hz with rfl|rfl
 ·exact hx
 ·exact hy
def qc4 (text:qa):AV:=.tu [ww (jk text).2,errP (jk text).1]
theorem q1j (text:qa):Pure (qc4 text):=kc (qfz _) (q65 _)
theorem qo6 {S:List AObj} {o k:Nat} {x:AObj} (h:k≠o):(S.set o x)[k]? = S[k]?:=List.getElem?_set_ne (Ne.symm h)
theorem q43:PB 0 p0:=⟨by omega,by simp [p0],by simp [p0],by simp [p0],by simp [p0],by simp [p0],by simp [p0],by simp [p0],by simp [p0]⟩
theorem qqo (text:qa) (st:List AObj) (hl:text.length≤60000):qn E 64 [Sv text] st fun r st'=>r=qc4 text∧st'=st:=by
 refine zx [.s text] (q1j text) Tryz.func64 rfl rfl (fun _=>rfl) rfl fun S0=>?_;apply qd [13];repeat' (first|apply And.intro|(intro h;try exact cDd)|exact⟨Tryz.call113⟩|(refine Exists.intro _ ⟨qlz _,?_⟩)|exact cSd|apply qb [13]|refine exr ?_|refine qi ?_)
 refine qfo (X:=PSt×Option (Int×Int)) text 4 5 [0,1,2,3,4] (fun (p,e)=>⟨[(2,.bx 0 0),(3,.bx 1 0),(4,.bx 2 0),(15,.fn (.func 154) [] [.bx 4 0])],
   [(0,some (.cells 124 [.a zj])),(1,some (.cells 29 [.a (errP e)])),(2,some (.cells 207 [.bx 3 0])),(3,some (.cells 211 [.tp 5,.i p.frm,.b p.full,.tp 6,.tp 7,.tp 8,.i p.records])),(4,some (.cells 9 [.s text])),
    (5,some (.tip 1 9 (p.lines.map fun x=>Sv x))),(6,some (.tip 3 98 (p.items.map v6))),(7,some (.tip 1 9 (p.block.map fun x=>Sv x))),(8,some (.tip 2 77 (p.fields.map fldA)))],9⟩) _
  (fun k rest (p,e)=>e=none∧PB (4 * k) p∧k+rest.length≤text.length∧runL 0 (zl text) p0=runL k (zl rest) p)
  (fun c (p,e)=>∃ a m,c = .ret∧e=some (a,m)∧(runL 0 (zl text) p0).1=some (a,m)) (p0,none) ⟨rfl,q43,by omega,rfl⟩ ?_ id (by omega) (fun _=>rfl) rfl (fun _=>rfl) (fun _=>rfl) rfl ?_ ?_ ?_
 ·skip
  repeat' (first|apply And.intro|(intro h;try exact cDd)|exact cSd|apply qb []|refine exr ?_|refine qi ?_)
 ·rintro k rest ⟨p,e⟩ ⟨rfl,hB,hkl,a8⟩ b9 d6
  have gj:=v8 b9;have hu:=vb 10 rest;have fc:=km 10 rest;have hr0:0<rest.length:=List.length_pos_iff.2 b9;rw [gj] at a8;simp only [runL] at a8;unfold qlb;generalize cj:decide (10∈rest)=en at a8;generalize upto 10 rest=up at hu a8 ⊢;have fg:=qqq (no:=k) (text:=up) (ended:=en) hB (by omega) (by omega)
  cases hah:(we p k up en).1 with
  |some e=>
   obtain⟨a,m⟩:=e;rw [hah] at a8;simp only at a8;have bt:=zbo (4 * k) p k ((text.length:Int) - rest.length) up en hB (by omega) (by omega) a m hah;refine RA.mk fun S F ρ rd=>?_;apply qd [];repeat' (first|apply And.intro|(intro h;try exact cDd)|(refine RB.mk fun S rd=>?_;apply qd [])|exact⟨Tryz.call115⟩|(refine zy bt ?_)|(refine Exists.intro ((je p k up en (qs up)).2,some (a,m)) ⟨⟨a,m,rfl,rfl,by rw [a8]⟩,?_⟩)|exact cSd|apply qb []|refine exr ?_|refine qi ?_)
   all_goals (rw [← cj];rfl)
  |none=>
   rw [hah] at a8;simp only at a8;have bt:=zbn (4 * k) p k ((text.length:Int) - rest.length) up en hB (by omega) (by omega) hah;refine RA.mk fun S F ρ rd=>?_;apply qd [];repeat' (first|apply And.intro|(intro h;try exact cDd)|(refine RB.mk fun S rd=>?_;apply qd [])|exact⟨Tryz.call115⟩|(refine zy bt ?_)|(refine Exists.intro ((we p k up en).2,none) ⟨⟨rfl,fg,by omega,a8⟩,?_⟩)|exact cSd|apply qb []|refine exr ?_|refine qi ?_)
   all_goals (rw [← cj];rfl)
 ·rintro k ⟨p,e⟩ ⟨rfl,hB,hkl,a8⟩
  have tv:runL k (zl []) p=endP p:=by rw [vi];rfl
  rw [tv] at a8;have hpe:=q2z (4 * k) p hB (by omega);generalize endP p=fq at a8 hpe;obtain⟨fe,q⟩:=fq
  cases fe with
  |some e=>
   have hpf:qc4 text = .tu [ww [],errP (some e)]:=by unfold qc4 jk;rw [a8]
   rw [hpf];obtain⟨a,m⟩:=e
   repeat' (first|apply And.intro|(intro h;try exact cDd)|exact⟨Tryz.call116⟩|(refine zy hpe ?_)|exact cSd|apply qb []|refine exr ?_|refine qi ?_)
  |none=>
   have hpf:qc4 text = .tu [ww q.items,errP none]:=by unfold qc4 jk;rw [a8]
   rw [hpf];dsimp only at hpe;repeat' (first|apply And.intro|(intro h;try exact cDd)|exact⟨Tryz.call116⟩|(refine zy hpe ?_)|exact cSd|apply qb []|refine exr ?_|refine qi ?_)
 ·rintro c ⟨p,e⟩ ⟨a,m,rfl,rfl,tv⟩
  have hpf:qc4 text = .tu [ww [],errP (some (a,m))]:=by unfold qc4 jk;rw [tv]
  rw [hpf];repeat' (first|apply And.intro|(intro h;try exact cDd)|exact cSd|apply qb []|refine exr ?_|refine qi ?_)
end Go.Proofs.YtihlchbgjdkmpaaGreatDoor
namespace Go.Proofs.YtihlchbgjdkmpaaGreatDoor
open Go Go.RowKit Go.Extern.Stop Go.Stop Go.Extern Go.Proofs
theorem asT.valueOf27 (t:Addr) (w:World):(ReflectliteValue.unpack (.iface 311 (.pointer (some t)))).run Tryz.prog w
  = .ok (.agg #[.pointer (some ⟨9,311,none⟩),.pointer (some ⟨w.heap.size,0,none⟩),.int .u64 150]) (w.alloc (.cells #[.pointer (some t)] 311)):=by kernel_rfl
theorem asT.type27 (a : Addr) (w : World) : (ReflectliteValue.methodAny (ReflectliteValue.valueError "reflectlite.Value.Type" 0) (fun t _ _ _ => ReflectliteType.toType t) #[.agg #[.pointer (some ⟨9, 311, none⟩), .pointer (some a), .int .u64 150]]).run Tryz.prog w
  = .ok (.iface 365 (.agg #[.pointer (some ⟨9,311,none⟩)])) w:=by kernel_rfl
theorem asT.methodKind (h : Value) (w : World) : (Go.method 512 365 (.agg #[h]) "Kind").run Tryz.prog w = .ok (305, h) w := by kernel_rfl
theorem asT.kind27 (w:World):((ReflectliteType.abiMethod fun t=>(fun a:Nat=>Value.int IntKind.u8 (a:Int)) <$> Rtype.kind t) #[.pointer (some ⟨9,311,none⟩)]).run Tryz.prog w = .ok (.int .u8 22) w:=by kernel_rfl
theorem asT.kind25 (w:World):((ReflectliteType.abiMethod fun t=>(fun a:Nat=>Value.int IntKind.u8 (a:Int)) <$> Rtype.kind t) #[.pointer (some ⟨9,115,none⟩)]).run Tryz.prog w = .ok (.int .u8 22) w:=by kernel_rfl
theorem rlm (z:Sem Value) (f:TypeId→Addr→Nat→Nat→Sem Value) (v:Value) :
  ReflectliteValue.method z f #[v]=(do match ← ReflectliteValue.parts v with|none=>z|some (t,a,fl)=>f t a fl (fl % 32)):=rfl
theorem asT.parts27 (a:Addr) (w:World):(ReflectliteValue.parts (.agg #[.pointer (some ⟨9,311,none⟩),.pointer (some a),.int .u64 150])).run Tryz.prog w = .ok (some (311,a,150)) w:=by kernel_rfl
theorem asT.isNil27 (a p:Addr) (W:World) (ha:W.cell? a=some (.pointer (some p))) :
  (ReflectliteValue.method (ReflectliteValue.valueError "reflectlite.Value.IsNil" 0) ReflectliteValue.isNil #[.agg #[.pointer (some ⟨9, 311, none⟩), .pointer (some a), .int .u64 150]]).run Tryz.prog W = .ok (.bool false) W := by
 rw [rlm];simp only [Sem.run_bind,asT.parts27,Result.andThen];simp [ReflectliteValue.isNil,loadVar,isAgg,underlying,Tryz.underlying311,ha,Result.andThen]
theorem asT.methodElem (h : Value) (w : World) : (Go.method 512 365 (.agg #[h]) "Elem").run Tryz.prog w = .ok (324, .agg #[h]) w := by kernel_rfl
theorem asT.methodImplements (h : Value) (w : World) : (Go.method 512 365 (.agg #[h]) "Implements").run Tryz.prog w = .ok (325, .agg #[h]) w := by kernel_rfl
theorem asT.methodAssignableTo (h : Value) (w : World) : (Go.method 512 365 (.agg #[h]) "AssignableTo").run Tryz.prog w = .ok (322, .agg #[h]) w := by kernel_rfl
theorem asT.elem27 (w:World):(ReflectliteType.method ReflectliteType.elem #[.agg #[.pointer (some ⟨9,311,none⟩)]]).run Tryz.prog w = .ok (.iface 365 (.agg #[.pointer (some ⟨9,115,none⟩)])) w:=by kernel_rfl
theorem asT.implements25 (w : World) : (ReflectliteType.relation "Implements" ReflectliteType.implements_ #[.agg #[.pointer (some ⟨9, 115, none⟩)], .iface 365 (.agg #[.pointer (some ⟨9, 29, none⟩)])]).run Tryz.prog w = .ok (.bool true) w := by kernel_rfl
theorem asT.typeOf25 (v:Value) (w:World):(ReflectliteType.typeOf #[.iface 115 v]).run Tryz.prog w = .ok (.iface 365 (.agg #[.pointer (some ⟨9,115,none⟩)])) w:=by kernel_rfl
theorem asT.assignable25 (w : World) : (ReflectliteType.relation "AssignableTo" ReflectliteType.assignableTo #[.agg #[.pointer (some ⟨9, 115, none⟩)], .iface 365 (.agg #[.pointer (some ⟨9, 115, none⟩)])]).run Tryz.prog w = .ok (.bool true) w := by kernel_rfl
theorem asT.valueOf25 (e:Addr) (w:World):(ReflectliteValue.unpack (.iface 115 (.pointer (some e)))).run Tryz.prog w
  = .ok (.agg #[.pointer (some ⟨9,115,none⟩),.pointer (some ⟨w.heap.size,0,none⟩),.int .u64 150]) (w.alloc (.cells #[.pointer (some e)] 115)):=by kernel_rfl
theorem asT.elemOf27 (w:World):(Rtype.elem? 311).run Tryz.prog w = .ok (some 115) w:=by kernel_rfl
theorem asT.mk25 (p:Addr) (w:World):(ReflectliteValue.mk 115 p ReflectliteValue.flagAddr).run Tryz.prog w = .ok (.agg #[.pointer (some ⟨9,115,none⟩),.pointer (some p),.int .u64 406]) w:=by kernel_rfl
theorem asT.elemV27 (a p:Addr) (W:World) (ha:W.cell? a=some (.pointer (some p))) :
  (ReflectliteValue.method (ReflectliteValue.valueError "reflectlite.Value.Elem" 0) ReflectliteValue.elem #[.agg #[.pointer (some ⟨9, 311, none⟩), .pointer (some a), .int .u64 150]]).run Tryz.prog W
   = .ok (.agg #[.pointer (some ⟨9,115,none⟩),.pointer (some p),.int .u64 406]) W:=by
 rw [rlm];simp only [Sem.run_bind,asT.parts27,Result.andThen];simp [ReflectliteValue.elem,loadVar,isAgg,underlying,Tryz.underlying311,ha,Result.andThen,asT.elemOf27,asT.mk25]
theorem rls (v x:Value):ReflectliteValue.set #[v,x]=(do
  let (some (dst,a,fl),some (src,b,_)):=(← ReflectliteValue.parts v,← ReflectliteValue.parts x)
   | unsupported (.noEntry "extern/(internal/reflectlite.Value).Set.zeroValue")
  if fl / ReflectliteValue.flagAddr % 2 == 0 then unsupported (.noEntry "extern/(internal/reflectlite.Value).Set.unaddressable")
  let val ← loadVar src b
  if ← Rtype.directlyAssignable dst src then storeVar dst a val
  else if ← Rtype.implements dst src then
   if (← Rtype.kind src) == 20 then
    match val with
    | .nilIface => unsupported (.noEntry "extern/reflectlite: a nil value of one interface type handed on as a value of another")
    | _=>storeVar dst a val
   else storeVar dst a (.iface src val)
  else panicString ("reflectlite.Set: value of type " ++ (← Rtype.spelt src) ++ " is not assignable to type " ++ (← Rtype.spelt dst))
  pure (.tuple #[])):=rfl
theorem asT.parts25a (a:Addr) (w:World):(ReflectliteValue.parts (.agg #[.pointer (some ⟨9,115,none⟩),.pointer (some a),.int .u64 406])).run Tryz.prog w = .ok (some (115,a,406)) w:=by kernel_rfl
theorem asT.parts25 (a:Addr) (w:World):(ReflectliteValue.parts (.agg #[.pointer (some ⟨9,115,none⟩),.pointer (some a),.int .u64 150])).run Tryz.prog w = .ok (some (115,a,150)) w:=by kernel_rfl
theorem asT.direct25 (w:World):(Rtype.directlyAssignable 115 115).run Tryz.prog w = .ok true w:=by kernel_rfl
theorem asT.set25 (ta b e:Addr) (old:Value) (W:World) (hb:W.cell? b=some (.pointer (some e))) (ht:W.cell? ta=some old) (hf:W.frozen? ta=false) :
  (ReflectliteValue.set #[.agg #[.pointer (some ⟨9,115,none⟩),.pointer (some ta),.int .u64 406],.agg #[.pointer (some ⟨9,115,none⟩),.pointer (some b),.int .u64 150]]).run Tryz.prog W
   = .ok (.tuple #[]) (W.setCell ta (.pointer (some e))):=by
 rw [rls];simp only [Sem.run_bind,asT.parts25a,asT.parts25,Result.andThen];simp [ReflectliteValue.flagAddr,loadVar,isAgg,underlying,Tryz.underlying115,hb,Result.andThen,asT.direct25,storeVar,Value.cells,storeCells,Addr.add];rw [run_store Tryz.prog W ta _ _ (by rfl)];simp [ht,hf]
set_option maxHeartbeats 4000000 in
theorem zfe (e t:Addr) (old:Value) (w:World) (hg:w.cell? ⟨4,0,none⟩=some (.iface 365 (.agg #[.pointer (some ⟨9,29,none⟩)]))) (ht0:w.cell? t=some old) (hf0:w.frozen? t=false) :
  Calls Tryz.prog 227 #[.iface 115 (.pointer (some e)),.iface 311 (.pointer (some t))] w fun ev w'=>ev = .returned (.bool true)∧w'=((((w.alloc (.cells #[.pointer (some t)] 311)).alloc (.cells #[.pointer (some ⟨9,311,none⟩),.pointer (some ⟨w.heap.size,0,none⟩),.int .u64 150] 344)).alloc (.cells #[.pointer (some ⟨9,311,none⟩),.pointer (some ⟨w.heap.size,0,none⟩),.int .u64 150] 344)).alloc (.cells #[.pointer (some e)] 115)).setCell t (.pointer (some e)):=by
 have h6:=@run_callFunc_extern Tryz.prog 265 _ (fun args=>ReflectliteValue.unpack (args.getD 0 (.tuple #[]))) Tryz.func265 (by kernel_rfl) (by kernel_rfl) (by kernel_rfl) (by kernel_rfl)
 have h7 := @run_callFunc_extern Tryz.prog 266 _ (ReflectliteValue.methodAny (ReflectliteValue.valueError "reflectlite.Value.Type" 0) (fun t _ _ _ => ReflectliteType.toType t)) Tryz.func266 (by kernel_rfl) (by kernel_rfl) (by kernel_rfl) (by kernel_rfl)
 have h8 := @run_callFunc_extern Tryz.prog 267 _ (ReflectliteValue.method (ReflectliteValue.valueError "reflectlite.Value.IsNil" 0) ReflectliteValue.isNil) Tryz.func267 (by kernel_rfl) (by kernel_rfl) (by kernel_rfl) (by kernel_rfl)
 have h27:=@run_callFunc_extern Tryz.prog 305 _ (ReflectliteType.abiMethod fun t=>do pure (.int .u8 (← Rtype.kind t))) Tryz.func305 (by kernel_rfl) (by kernel_rfl) (by kernel_rfl) (by kernel_rfl);have h37:=@run_callFunc_extern Tryz.prog 324 _ (ReflectliteType.method ReflectliteType.elem) Tryz.func324 (by kernel_rfl) (by kernel_rfl) (by kernel_rfl) (by kernel_rfl)
 have h38 := @run_callFunc_extern Tryz.prog 325 _ (ReflectliteType.relation "Implements" ReflectliteType.implements_) Tryz.func325 (by kernel_rfl) (by kernel_rfl) (by kernel_rfl) (by kernel_rfl)
 have i3:=@run_callFunc_extern Tryz.prog 283 _ ReflectliteType.typeOf Tryz.func283 (by kernel_rfl) (by kernel_rfl) (by kernel_rfl) (by kernel_rfl)
 have h35 := @run_callFunc_extern Tryz.prog 322 _ (ReflectliteType.relation "AssignableTo" ReflectliteType.assignableTo) Tryz.func322 (by kernel_rfl) (by kernel_rfl) (by kernel_rfl) (by kernel_rfl)
 have h11 := @run_callFunc_extern Tryz.prog 284 _ (ReflectliteValue.method (ReflectliteValue.valueError "reflectlite.Value.Elem" 0) ReflectliteValue.elem) Tryz.func284 (by kernel_rfl) (by kernel_rfl) (by kernel_rfl) (by kernel_rfl)
 have h12:=@run_callFunc_extern Tryz.prog 285 _ ReflectliteValue.set Tryz.func285 (by kernel_rfl) (by kernel_rfl) (by kernel_rfl) (by kernel_rfl);have tO:=asT.typeOf25;have mA:=asT.methodAssignableTo;have a25:=asT.assignable25;have v25:=asT.valueOf25;have f6:=asT.valueOf27;have f7:=asT.type27;have mK:=asT.methodKind;have mE:=asT.methodElem;have mI:=asT.methodImplements;have k27:=asT.kind27;have k25:=asT.kind25;have e27:=asT.elem27;have i25:=asT.implements25;have n8:=asT.isNil27 ⟨w.heap.size,0,none⟩ t ((w.alloc (.cells #[.pointer (some t)] 311)).alloc (.cells #[.pointer (some ⟨9,311,none⟩),.pointer (some ⟨w.heap.size,0,none⟩),.int .u64 150] 344)) (by simp)
 have d9:4<w.heap.size:=by
  rcases Nat.lt_or_ge 4 w.heap.size with h|h
  ·exact h
  ·simp [World.cell?,Array.getElem?_eq_none h] at hg
 have hg2:((w.alloc (.cells #[.pointer (some t)] 311)).alloc (.cells #[.pointer (some ⟨9,311,none⟩),.pointer (some ⟨w.heap.size,0,none⟩),.int .u64 150] 344)).cell? ⟨4,0,none⟩=some (.iface 365 (.agg #[.pointer (some ⟨9,29,none⟩)])):=by
  rw [World.cell?_alloc_lt _ _ ⟨4,0,none⟩ (by first|(simp;done)|(simp;omega)),World.cell?_alloc_lt _ _ ⟨4,0,none⟩ d9];exact hg
 have htl:t.block<w.heap.size:=by
  rcases Nat.lt_or_ge t.block w.heap.size with h|h
  ·exact h
  ·simp [World.cell?,Array.getElem?_eq_none h] at ht0
 have el:=asT.elemV27 ⟨w.heap.size,0,none⟩ t (((w.alloc (.cells #[.pointer (some t)] 311)).alloc (.cells #[.pointer (some ⟨9,311,none⟩),.pointer (some ⟨w.heap.size,0,none⟩),.int .u64 150] 344)).alloc (.cells #[.pointer (some ⟨9,311,none⟩),.pointer (some ⟨w.heap.size,0,none⟩),.int .u64 150] 344)) (by rw [World.cell?_alloc_lt _ _ ⟨w.heap.size,0,none⟩ (by first|(simp;done)|(simp;omega))];simp)
 have st:=asT.set25 t ⟨w.heap.size+1+1+1,0,none⟩ e old ((((w.alloc (.cells #[.pointer (some t)] 311)).alloc (.cells #[.pointer (some ⟨9,311,none⟩),.pointer (some ⟨w.heap.size,0,none⟩),.int .u64 150] 344)).alloc (.cells #[.pointer (some ⟨9,311,none⟩),.pointer (some ⟨w.heap.size,0,none⟩),.int .u64 150] 344)).alloc (.cells #[.pointer (some e)] 115))
  (by rw [World.cell?_alloc_at _ _ _ _ (by simp)];rfl)
  (by rw [World.cell?_alloc_lt _ _ t (by first|(simp;done)|(simp;omega)),World.cell?_alloc_lt _ _ t (by first|(simp;done)|(simp;omega)),World.cell?_alloc_lt _ _ t (by first|(simp;done)|(simp;omega)),World.cell?_alloc_lt _ _ t htl];exact ht0)
  (by rw [World.frozen?_alloc_old _ _ t (by first|(simp;done)|(simp;omega)),World.frozen?_alloc_old _ _ t (by first|(simp;done)|(simp;omega)),World.frozen?_alloc_old _ _ t (by first|(simp;done)|(simp;omega)),World.frozen?_alloc_old _ _ t (Nat.ne_of_lt htl)];exact hf0)
 go_enter Tryz.func227,Tryz.ntmps227
 go_wp2
 refine wp_loop_rounds 1 ?_;rw [rounds_succ]
 go_wp2
 go_ret
 exact⟨rfl,rfl⟩
theorem asT.typeOf31 (v:Value) (w:World):(ReflectliteType.typeOf #[.iface 37 v]).run Tryz.prog w = .ok (.iface 365 (.agg #[.pointer (some ⟨9,37,none⟩)])) w:=by kernel_rfl
theorem asT.assignable31 (w : World) : (ReflectliteType.relation "AssignableTo" ReflectliteType.assignableTo #[.agg #[.pointer (some ⟨9, 37, none⟩)], .iface 365 (.agg #[.pointer (some ⟨9, 115, none⟩)])]).run Tryz.prog w = .ok (.bool false) w := by kernel_rfl
theorem asT.no230 (v:Value) (xT:TypeId) (w:World):(Instr.typeAssert (.iface 37 v) xT 370 true).run Tryz.prog w = .ok (.tuple #[.nilIface,.bool false]) w:=run_typeAssert_lacksB Tryz.underlying370 (by kernel_rfl) (by kernel_rfl) v xT w
theorem asT.no233 (v:Value) (xT:TypeId) (w:World):(Instr.typeAssert (.iface 37 v) xT 373 true).run Tryz.prog w = .ok (.tuple #[.nilIface,.bool false]) w:=run_typeAssert_lacksB Tryz.underlying373 (by kernel_rfl) (by kernel_rfl) v xT w
theorem asT.no234 (v:Value) (xT:TypeId) (w:World):(Instr.typeAssert (.iface 37 v) xT 374 true).run Tryz.prog w = .ok (.tuple #[.nilIface,.bool false]) w:=run_typeAssert_lacksB Tryz.underlying374 (by kernel_rfl) (by kernel_rfl) v xT w
set_option maxHeartbeats 4000000 in
theorem zc7 (n:Int) (t:Addr) (old:Value) (w:World) (hg:w.cell? ⟨4,0,none⟩=some (.iface 365 (.agg #[.pointer (some ⟨9,29,none⟩)]))) (ht0:w.cell? t=some old) :
  Calls Tryz.prog 227 #[.iface 37 (.int .i64 n),.iface 311 (.pointer (some t))] w fun ev w'=>ev = .returned (.bool false)∧Below w.heap.size w w':=by
 have h6:=@run_callFunc_extern Tryz.prog 265 _ (fun args=>ReflectliteValue.unpack (args.getD 0 (.tuple #[]))) Tryz.func265 (by kernel_rfl) (by kernel_rfl) (by kernel_rfl) (by kernel_rfl)
 have h7 := @run_callFunc_extern Tryz.prog 266 _ (ReflectliteValue.methodAny (ReflectliteValue.valueError "reflectlite.Value.Type" 0) (fun t _ _ _ => ReflectliteType.toType t)) Tryz.func266 (by kernel_rfl) (by kernel_rfl) (by kernel_rfl) (by kernel_rfl)
 have h8 := @run_callFunc_extern Tryz.prog 267 _ (ReflectliteValue.method (ReflectliteValue.valueError "reflectlite.Value.IsNil" 0) ReflectliteValue.isNil) Tryz.func267 (by kernel_rfl) (by kernel_rfl) (by kernel_rfl) (by kernel_rfl)
 have h27:=@run_callFunc_extern Tryz.prog 305 _ (ReflectliteType.abiMethod fun t=>do pure (.int .u8 (← Rtype.kind t))) Tryz.func305 (by kernel_rfl) (by kernel_rfl) (by kernel_rfl) (by kernel_rfl);have h37:=@run_callFunc_extern Tryz.prog 324 _ (ReflectliteType.method ReflectliteType.elem) Tryz.func324 (by kernel_rfl) (by kernel_rfl) (by kernel_rfl) (by kernel_rfl)
 have h38 := @run_callFunc_extern Tryz.prog 325 _ (ReflectliteType.relation "Implements" ReflectliteType.implements_) Tryz.func325 (by kernel_rfl) (by kernel_rfl) (by kernel_rfl) (by kernel_rfl)
 have i3:=@run_callFunc_extern Tryz.prog 283 _ ReflectliteType.typeOf Tryz.func283 (by kernel_rfl) (by kernel_rfl) (by kernel_rfl) (by kernel_rfl)
 have h35 := @run_callFunc_extern Tryz.prog 322 _ (ReflectliteType.relation "AssignableTo" ReflectliteType.assignableTo) Tryz.func322 (by kernel_rfl) (by kernel_rfl) (by kernel_rfl) (by kernel_rfl)
 have h11 := @run_callFunc_extern Tryz.prog 284 _ (ReflectliteValue.method (ReflectliteValue.valueError "reflectlite.Value.Elem" 0) ReflectliteValue.elem) Tryz.func284 (by kernel_rfl) (by kernel_rfl) (by kernel_rfl) (by kernel_rfl)
 have h12:=@run_callFunc_extern Tryz.prog 285 _ ReflectliteValue.set Tryz.func285 (by kernel_rfl) (by kernel_rfl) (by kernel_rfl) (by kernel_rfl);have tO:=asT.typeOf31;have mA:=asT.methodAssignableTo;have a25:=asT.assignable31;have f6:=asT.valueOf27;have f7:=asT.type27;have mK:=asT.methodKind;have mE:=asT.methodElem;have mI:=asT.methodImplements;have k27:=asT.kind27;have k25:=asT.kind25;have e27:=asT.elem27;have i25:=asT.implements25;have n8:=asT.isNil27 ⟨w.heap.size,0,none⟩ t ((w.alloc (.cells #[.pointer (some t)] 311)).alloc (.cells #[.pointer (some ⟨9,311,none⟩),.pointer (some ⟨w.heap.size,0,none⟩),.int .u64 150] 344)) (by simp)
 have d9:4<w.heap.size:=by
  rcases Nat.lt_or_ge 4 w.heap.size with h|h
  ·exact h
  ·simp [World.cell?,Array.getElem?_eq_none h] at hg
 have hg2:((w.alloc (.cells #[.pointer (some t)] 311)).alloc (.cells #[.pointer (some ⟨9,311,none⟩),.pointer (some ⟨w.heap.size,0,none⟩),.int .u64 150] 344)).cell? ⟨4,0,none⟩=some (.iface 365 (.agg #[.pointer (some ⟨9,29,none⟩)])):=by
  rw [World.cell?_alloc_lt _ _ ⟨4,0,none⟩ (by first|(simp;done)|(simp;omega)),World.cell?_alloc_lt _ _ ⟨4,0,none⟩ d9];exact hg
 have htl:t.block<w.heap.size:=by
  rcases Nat.lt_or_ge t.block w.heap.size with h|h
  ·exact h
  ·simp [World.cell?,Array.getElem?_eq_none h] at ht0
 have n1:=asT.no230;have n2:=asT.no233;have n3:=asT.no234
 go_enter Tryz.func227,Tryz.ntmps227
 go_wp2
 refine wp_loop_rounds 1 ?_;rw [rounds_succ]
 go_wp2
 go_ret
 exact⟨rfl,(((Below.refl _ _).alloc (Nat.le_refl _) _).alloc (by simp) _).alloc (by first|(simp;done)|(simp;omega)) _⟩
end Go.Proofs.YtihlchbgjdkmpaaGreatDoor
namespace Go.Proofs.YtihlchbgjdkmpaaGreatDoor
open Go Go.Av Go.RowKit Go.Proofs Go.Pl
theorem q1p {w:World} {b:Nat} {T:TypeId} {fz:Nat×Nat} {c:Array Value} (v:Value) (hc:w.heap[b]? = some (.cells c T fz)) (h1:c.size=1):w.setCell ⟨b,0,none⟩ v=w.setRow b #[v]:=by
 unfold World.setCell World.setRow;congr 1;apply Array.ext_getElem?;intro i;rw [Array.getElem?_modify,Array.getElem?_modify];by_cases hi:b=i
 ·subst hi
  rw [if_pos rfl,if_pos rfl,hc]
  have:c.setIfInBounds 0 v = #[v]:=by
   apply Array.ext
   ·simp [h1]
   ·intro i h2 h3
    have:i=0:=by simp at h3;omega
    subst this;simp
  simp [this]
 ·rw [if_neg hi,if_neg hi]
theorem zc6 (a n:Int) (o:Nat) (st:List AObj) (ho:st[o]? = some (.cells 0 115 [.v (.pointer none)])):qn E 227 [qga a n,.ifc 311 (.bx o 0 0)] st fun r st'=>r=Bv true∧st'=st.set o (.cells 0 115 [.pp [Iv a,.ifc 37 (Iv n)]]):=by
 refine⟨fun B0 w0 G vals w hL hA hR=>?_⟩
 obtain⟨v1,v2,rfl⟩:∃ x y,vals = #[x,y]:=by
  have:=hR.1
  match vals,this with
  | ⟨[x,y]⟩,_=>exact⟨x,y,rfl⟩
 have h1:=hR.2 0 _ v1 rfl rfl;have h2:=hR.2 1 _ v2 rfl rfl;unfold qga at h1
 cases h1 with
 |ifc _ _ y1 h1=>
  cases h2 with
  |ifc _ _ y2 h2=>
   have hpp:=h1
   cases h1 with
   |pp _ b off pub hp d5 hr=>
    cases h2 with
    |bx _ _ _ b2 hn hv hb=>
     obtain⟨_,g1,g2,g3,c,g4,g5,g6⟩:=hA.ob o _ ho;have hb:=hb g1;subst hb;have hc1:c.size=1:=by simpa using g5.symm
     have hl:=(hL w hA.below).ert;have bp:w.cell? ⟨(G.ob o).blk,0,none⟩=some c[0]:=by simp [World.cell?,g4,hc1]
     have hfz:w.frozen? ⟨(G.ob o).blk,0,none⟩=false:=by simp [World.frozen?,g4]
     have d9:(G.ob o).blk<w.heap.size:=(Array.getElem?_eq_some_iff.1 g4).1;refine (zfe ⟨b,off,none⟩ ⟨(G.ob o).blk,0,none⟩ c[0] w hl bp hfz).mono ?_;rintro e w' ⟨rfl,rfl⟩
     have p6:Below w.heap.size w ((((w.alloc (.cells #[.pointer (some ⟨(G.ob o).blk,0,none⟩)] 311)).alloc (.cells #[.pointer (some ⟨9,311,none⟩),.pointer (some ⟨w.heap.size,0,none⟩),.int .u64 150] 344)).alloc (.cells #[.pointer (some ⟨9,311,none⟩),.pointer (some ⟨w.heap.size,0,none⟩),.int .u64 150] 344)).alloc (.cells #[.pointer (some ⟨b,off,none⟩)] 115)):=
      ((((Below.refl _ _).alloc (Nat.le_refl _) _).alloc (by simp) _).alloc (by first|(simp;done)|(simp;omega)) _).alloc (by first|(simp;done)|(simp;omega)) _
     have dp:=hA.fresh p6;obtain⟨_,k1,k2,k3,c',k4,k5,k6⟩:=dp.ob o _ ho;have hc1':c'.size=1:=by simpa using k5.symm
     refine⟨.bool true,G,Bv true,_,rfl,.refl G,?_,.v _,rfl,rfl⟩;rw [q1p _ k4 hc1']
     exact dp.setRow ho (by simp) fun i x y hx hy=>by
      match i with
      | 0=>simp at hx hy;subst hx;subst hy;exact hpp
      |i+1=>simp at hx
theorem q9y (n:Int) (o:Nat) (st:List AObj) (ho:st[o]? = some (.cells 0 115 [.v (.pointer none)])):qn E 227 [.ifc 37 (Iv n),.ifc 311 (.bx o 0 0)] st fun r st'=>r=Bv false∧st'=st:=by
 refine⟨fun B0 w0 G vals w hL hA hR=>?_⟩
 obtain⟨v1,v2,rfl⟩:∃ x y,vals = #[x,y]:=by
  have:=hR.1
  match vals,this with
  | ⟨[x,y]⟩,_=>exact⟨x,y,rfl⟩
 have h1:=hR.2 0 _ v1 rfl rfl;have h2:=hR.2 1 _ v2 rfl rfl
 cases h1 with
 |ifc _ _ y1 h1=>
  cases h2 with
  |ifc _ _ y2 h2=>
   cases h1 with
   |v=>
    cases h2 with
    |bx _ _ _ b2 hn hv hb=>
     obtain⟨_,g1,g2,g3,c,g4,g5,g6⟩:=hA.ob o _ ho;have hb:=hb g1;subst hb;have hc1:c.size=1:=by simpa using g5.symm
     have hl:=(hL w hA.below).ert;have bp:w.cell? ⟨(G.ob o).blk,0,none⟩=some c[0]:=by simp [World.cell?,g4,hc1]
     refine (zc7 n ⟨(G.ob o).blk,0,none⟩ c[0] w hl bp).mono ?_;rintro e w' ⟨rfl,hb⟩;exact⟨_,G,Bv false,st,rfl,.refl G,hA.fresh hb,.v _,rfl,rfl⟩
end Go.Proofs.YtihlchbgjdkmpaaGreatDoor
namespace Go.Proofs.YtihlchbgjdkmpaaGreatDoor
open Go Go.Av Go.RowKit Go.Extern.Stop Go.Stop Go.Extern Go.Proofs
theorem isT.has (v:Value) (xT:TypeId) (w:World):(Instr.typeAssert (.iface 115 v) xT 373 true).run Tryz.prog w = .ok (.tuple #[.iface 115 v,.bool true]) w:=run_typeAssert_hasB Tryz.underlying373 (by kernel_rfl) v xT w
theorem isT.typeOf (v:Value) (w:World):(ReflectliteType.typeOf #[.iface 37 v]).run Tryz.prog w = .ok (.iface 365 (.agg #[.pointer (some ⟨9,37,none⟩)])) w:=by kernel_rfl
theorem isT.cmp (w : World) : (ReflectliteType.method (fun t => do Rtype.noPackHeld "Comparable" t; (fun a => Value.bool a.comparable) <$> typeInfo t) #[.agg #[.pointer (some ⟨9, 37, none⟩)]]).run Tryz.prog w = .ok (.bool true) w := by kernel_rfl
end Go.Proofs.YtihlchbgjdkmpaaGreatDoor
namespace Go.Pl
open Go Go.Proofs
inductive ErrV where
 |no
 |num (n:Int)
 |at' (a n:Int)
 deriving DecidableEq
def ErrV.code:ErrV→Int
 | .no=>0
 | .num n=>n
 | .at' _ n=>n
def ErrV.pos:ErrV→Int
 | .no=> -9
 | .num _=> -9
 | .at' a _=>a
def xm:Nat→List Fld→ErrV
 | _,[]=>.no
 |k,f::r=>if vo f=0 then xm (k+1) r else .at' k (vo f)
def zw (fs:List Fld):ErrV:=if fs=[] then .num 2 else if 40<fs.length then .num 11 else xm 0 fs
theorem qoy:∀ (k:Nat) (p r:List Fld),(∀ x∈p,vo x=0)→xm k (p++r)=xm (k+p.length) r
 |k,[],r,_=>by simp
 |k,f::p,r,h=>by
  have h1:=h f (by simp);rw [List.cons_append,xm,if_pos h1,qoy (k+1) p r fun x hx=>h x (by simp [hx])];congr 1;simp;omega
theorem qmw:∀ (k:Nat) (r:List Fld),(xm k r).code=0↔xm k r = .no
 |k,[]=>by simp [xm,ErrV.code]
 |k,f::r=>by
  unfold xm;split
  ·exact qmw _ r
  ·rename_i h
   simp [ErrV.code,h]
theorem qmv (fs:List Fld):(zw fs).code=0↔zw fs = .no:=by
 unfold zw;split
 ·simp [ErrV.code]
 ·split
  ·simp [ErrV.code]
  ·exact qmw _ _
end Go.Pl
namespace Go.Proofs.YtihlchbgjdkmpaaGreatDoor
open Go Go.Av Go.RowKit Go.Proofs Go.Pl
theorem qtn {st st':List AObj} (h:∀ k,k<st.length→st'[k]? = st[k]?):∃ ext,st'=st++ext:=by
 refine qk1 ?_ h;rcases Nat.eq_zero_or_pos st.length with h0|h0
 ·omega
 ·have h1:=h (st.length - 1) (by omega)
  have h2:st[st.length - 1]? = some (st[st.length - 1]'(by omega)):=List.getElem?_eq_getElem (by omega);have:=lt_of_getElem? (h1.trans h2);omega
def gErr (x:ql):ErrV:=if x.kind=2 then (if x.fields=[] then .no else .num 2) else if x.kind=1∨x.kind=3 then zw x.fields else .num 2
def qbe:Nat→List ql→ErrV
 | _,[]=>.no
 |k,x::r=>if (gErr x).code=0 then qbe (k+1) r else .at' k (gErr x).code
def eErr (b:List ql):ErrV:=if b.length<1∨40<b.length then .num 1 else qbe 0 b
theorem qm4 (x:ql):(gErr x).code=0↔gErr x = .no:=by
 unfold gErr;split
 ·split <;> simp [ErrV.code]
 ·split
  ·exact qmv _
  ·simp [ErrV.code]
theorem qrw:∀ (k:Nat) (r:List ql),(qbe k r).code=0↔qbe k r = .no
 |k,[]=>by simp [qbe,ErrV.code]
 |k,f::r=>by
  unfold qbe;split
  ·exact qrw _ r
  ·rename_i h
   simp [ErrV.code] at h ⊢;exact h
theorem qi2 (b:List ql):(eErr b).code=0↔eErr b = .no:=by
 unfold eErr;split
 ·simp [ErrV.code]
 ·exact qrw _ _
def errA:ErrV→AV
 | .no=>.v .nilIface
 | .num n=>.ifc 37 (Iv n)
 | .at' a n=>.ifc 115 (.pp [Iv a,.ifc 37 (Iv n)])
theorem jx (e:ErrV):Pure (errA e):=by
 cases e with
 |no=>exact qt _
 |num n=>exact qb7 (qt _)
 |at' a n=>exact qjs a n
def KeyB (fs:List Fld):Prop:=∀ f∈fs,f.1.length<4294967281
theorem zat {fs:List Fld} {i:Nat} {x:Fld} (h:fs[i]? = some x):(fs.map fldA)[i]? = some (fldA x):=by simp [h]
theorem q61 {b:List ql} {i:Nat} {x:ql} (h:b[i]? = some x):(b.map vw)[i]? = some (vw x):=by simp [h]
theorem q6q {fs:List Fld} (h:¬ 0<fs.length):zw fs = .num 2:=if_pos (List.length_eq_zero_iff.1 (by omega))
theorem q36 {fs:List Fld} (h:40<fs.length):zw fs = .num 11:=(if_neg fun h0=>by simp [h0] at h).trans (if_pos h)
theorem q6r {fs:List Fld} (h0:0<fs.length) (h:¬ 40<fs.length):zw fs=xm 0 fs:=(if_neg (List.length_pos_iff.1 h0)).trans (if_neg h)
theorem qlp (fs:List Fld) (st:List AObj) (e:ErrV) (h:zw fs=e) (hK:KeyB fs) (hl:fs.length<9223372036854775808):qn E 200 [kj fs] st fun r st'=>r=errA e∧st'=st:=by
 subst h;refine zx [.a (kj fs)] (jx _) Tryz.func200 rfl rfl (fun _=>rfl) rfl fun S0=>?_;have o7:(fs.map fldA).length=fs.length:=by simp
 apply qd [];repeat' (first|apply And.intro|(intro h;try exact cDd)|exact cSd|apply qb []|refine exr ?_|refine qi ?_)
 ·rw [q6q (by omega)];rfl
 ·rw [q36 (by omega)];rfl
 rw [q6r (by omega) (by omega)];refine w7 (X:=Nat) (fun k=>⟨[(16,.a (kj fs)),(17,.i (fs.map fldA).length),(18,.i k)],[],0⟩) (fun k=>k≤fs.length∧xm k (fs.drop k)=xm 0 fs) (fun k=>fs.length - k) 0 ⟨by omega,rfl⟩ ?_ ?_
 ·skip
  repeat' (first|apply And.intro|(intro h;try exact cDd)|exact cSd|apply qb []|refine exr ?_|refine qi ?_)
 ·rintro k ⟨hk,hc⟩
  by_cases d9:k<fs.length
  ·obtain⟨y,hy⟩:∃ y,fs[k]? = some y:=⟨_,List.getElem?_eq_getElem d9⟩
   have e9:=zat hy;have hky:=hK y (List.mem_of_getElem? hy);obtain⟨_,hye⟩:=List.getElem?_eq_some_iff.1 hy;rw [List.drop_eq_getElem_cons d9,hye,xm] at hc;rw [← hc];by_cases ha:vo y=0
   ·have hc4:=fun st=>qh6 y st hky ha
    apply qd [4];repeat' (first|apply And.intro|(intro h;try exact cDd)|(refine Exists.intro (k) ⟨by omega,_,e9,?_⟩)|exact⟨Tryz.call201⟩|refine cpe hc4 ?_|(refine Exists.intro (k+1) ⟨⟨by omega,by simp_all⟩,by omega,?_⟩)|exact cSd|apply qb [4]|refine exr ?_|refine qi ?_)
   ·have hc4:=fun st=>qh7 y st hky ha
    rw [if_neg ha];apply qd [4];repeat' (first|apply And.intro|(intro h;try exact cDd)|(refine Exists.intro (k) ⟨by omega,_,e9,?_⟩)|exact⟨Tryz.call201⟩|refine cpe hc4 ?_|exact cSd|apply qb [4]|refine exr ?_|refine qi ?_)
  ·rw [List.drop_eq_nil_of_le (by omega),xm] at hc
   rw [← hc];apply qd [];repeat' (first|apply And.intro|(intro h;try exact cDd)|exact cSd|apply qb []|refine exr ?_|refine qi ?_)
theorem zdt (x:ql) (st:List AObj) (e:ErrV) (h:gErr x=e) (hK:KeyB x.fields) (hl:x.fields.length<9223372036854775808):qn E 142 [vw x] st fun r st'=>r=errA e∧st'=st:=by
 subst h;refine zx [.a (vw x)] (jx _) Tryz.func142 rfl rfl (fun _=>rfl) rfl fun S0=>?_;have o7:(x.fields.map fldA).length=x.fields.length:=by simp
 have pn:x.fields=[]↔x.fields.length=0:=by simp
 have hc6:=fun st=>qlp x.fields st _ rfl hK hl;unfold gErr;simp only [pn];generalize zw x.fields=e at *
 cases e
 all_goals apply qd [1]
 repeat' (first|apply And.intro|(intro h;try exact cDd)|exact⟨Tryz.call200⟩|refine cpe hc6 ?_|exact cSd|apply qb [1]|refine exr ?_|refine qi ?_)
 all_goals clear hc6
 all_goals grind [errA]
theorem zal (n:Int) (st:List AObj):qn E 173 [.ifc 37 (Iv n)] st fun r st'=>r = .ifc 37 (Iv n)∧st'=st:=by
 refine zb (qb7 (qt _)) (qr Tryz.func173 rfl (Nat.le_of_ble_eq_true rfl) ?_);repeat' (first|apply qm|apply qe|apply qf|apply qj|apply qh|(apply qc;exact rfl;apply cd_f;exact cRa)|(apply vn;exact rfl;exact rfl)|(apply jy;exact rfl;exact rfl)|apply qx|apply qu|(apply qk;exact Tryz.call227;exact q9y _ (st.length+0) _ (jh rfl)))
 exact qo rfl (zi rfl) ⟨rfl,_,rfl⟩
theorem zak (a n:Int) (st:List AObj):qn E 173 [qga a n] st fun r st'=>r = .ifc 37 (Iv n)∧st'=st:=by
 refine zb (qb7 (qt _)) (qr Tryz.func173 rfl (Nat.le_of_ble_eq_true rfl) ?_);repeat' (first|apply qm|apply qe|apply qf|apply qj|apply qh|(apply qc;exact rfl;apply cd_t;exact cRa)|(apply vn;exact rfl;exact rfl)|(apply jy;exact rfl;exact rfl)|(apply yz;(iterate 4 exact rfl))|(apply js;(iterate 3 exact rfl))|(apply wt;exact rfl;exact rfl)|apply qu|(apply qk;exact Tryz.call227;exact zc6 a n (st.length+0) _ (jh rfl))|(apply j9;exact rfl;(focus first|assumption|(repeat' (first|assumption|exact xc|exact jh rfl|apply jq|apply jg|omega|apply qa8)));exact rfl;exact rfl))
 exact qo rfl (zi rfl) ⟨rfl,qtn fun j hj=>(qo6 (by omega)).trans (List.getElem?_append_left hj)⟩
theorem qpz (k:Int) (e:ErrV) (st:List AObj) (he:e.code≠0):qn E 121 [Iv k,errA e] st fun r st'=>r=errA (.at' k e.code)∧st'=st:=by
 refine zb (jx _) (qr Tryz.func121 rfl (Nat.le_of_ble_eq_true rfl) ?_)
 cases e with
 |no=>exact absurd rfl he
 |num n=>
  repeat' (first|(apply qmn;(iterate 3 exact rfl))|apply qm|apply qe|apply qf|apply qj|apply qh|(apply vn;exact rfl;exact rfl)|(apply yl;(iterate 3 exact rfl))|apply qu|(apply qk;exact Tryz.call173;exact zal _ _))
  exact qo rfl (zi rfl) ⟨rfl,_,rfl⟩
 |at' a n=>
  repeat' (first|(apply qmn;(iterate 3 exact rfl))|apply qm|apply qe|apply qf|apply qj|apply qh|(apply vn;exact rfl;exact rfl)|(apply yl;(iterate 3 exact rfl))|apply qu|(apply qk;exact Tryz.call173;exact zak a n _))
  exact qo rfl (zi rfl) ⟨rfl,_,rfl⟩
structure EdB (x:ql):Prop where
 keys:KeyB x.fields
 len:x.fields.length<9223372036854775808
 id1 : -9223372036854775808≤x.id
 id2:x.id≤9223372036854775807
@[reducible] def zo (b : List ql) : AV := .sl 3 (b.map vw) none
theorem qkz (b:List ql) (st:List AObj) (e:ErrV) (h:eErr b=e) (hB:∀ x∈b,EdB x) (hl:b.length<9223372036854775808):qn E 99 [zo b] st fun r st'=>r=errA e∧st'=st:=by
 subst h;refine zx [.a (zo b)] (jx _) Tryz.func99 rfl rfl (fun _=>rfl) rfl fun S0=>?_;have o7:(b.map vw).length=b.length:=by simp
 have h1:b.length<1∨40<b.length→eErr b = .num 1:=fun h=>if_pos h;have hr:¬ (b.length<1∨40<b.length)→eErr b=qbe 0 b:=fun h=>if_neg h;apply qd [];repeat' (first|apply And.intro|(intro h;try exact cDd)|exact cSd|apply qb []|refine exr ?_|refine qi ?_)
 ·rw [h1 (by omega)];rfl
 ·rw [h1 (by omega)];rfl
 rw [hr (by omega)];refine w7 (X:=Nat) (fun k=>⟨[(15,.a (zo b)),(16,.i (b.map vw).length),(17,.i k)],[],0⟩) (fun k=>k≤b.length∧qbe k (b.drop k)=qbe 0 b) (fun k=>b.length - k) 0 ⟨by omega,rfl⟩ ?_ ?_
 ·skip
  repeat' (first|apply And.intro|(intro h;try exact cDd)|exact cSd|apply qb []|refine exr ?_|refine qi ?_)
 ·rintro k ⟨hk,hc⟩
  by_cases d9:k<b.length
  ·obtain⟨y,hy⟩:∃ y,b[k]? = some y:=⟨_,List.getElem?_eq_getElem d9⟩
   have e9:=q61 hy;have hky:=hB y (List.mem_of_getElem? hy);obtain⟨_,hye⟩:=List.getElem?_eq_some_iff.1 hy;rw [List.drop_eq_getElem_cons d9,hye,qbe] at hc;have hc9:=fun st=>zdt y st _ rfl hky.keys hky.len;have hcf:=fun st=>qpz k (gErr y) st;rw [← hc]
   cases hg:gErr y
   all_goals rw [hg] at hc hc9 hcf
   ·apply qd [4]
    repeat' (first|apply And.intro|(intro h;try exact cDd)|(refine Exists.intro (k) ⟨by omega,_,e9,?_⟩)|exact⟨Tryz.call142⟩|refine cpe hc9 ?_|(refine Exists.intro (k+1) ⟨⟨by omega,(if_pos rfl).symm⟩,by omega,?_⟩)|exact cSd|apply qb [4]|refine exr ?_|refine qi ?_)
   all_goals have hgc:=fun h=>qm4 y |>.1 h
   all_goals rw [hg] at hgc
   all_goals rw [if_neg fun h=>nomatch hgc h]
   ·have hcg:=fun st=>hcf st fun h=>nomatch hgc h
    apply qd [4];repeat' (first|apply And.intro|(intro h;try exact cDd)|(refine Exists.intro (k) ⟨by omega,_,e9,?_⟩)|exact⟨Tryz.call142⟩|refine cpe hc9 ?_|exact⟨Tryz.call121⟩|refine cpe hcg ?_|exact cSd|apply qb [4]|refine exr ?_|refine qi ?_)
   ·have hcg:=fun st=>hcf st fun h=>nomatch hgc h
    apply qd [4];repeat' (first|apply And.intro|(intro h;try exact cDd)|(refine Exists.intro (k) ⟨by omega,_,e9,?_⟩)|exact⟨Tryz.call142⟩|refine cpe hc9 ?_|exact⟨Tryz.call121⟩|refine cpe hcg ?_|exact cSd|apply qb [4]|refine exr ?_|refine qi ?_)
  ·rw [List.drop_eq_nil_of_le (by omega),qbe] at hc
   rw [← hc];apply qd [];repeat' (first|apply And.intro|(intro h;try exact cDd)|exact cSd|apply qb []|refine exr ?_|refine qi ?_)
def okE:ErrV→Prop
 | .no=>True
 | .num n=>n≠0
 | .at' _ n=>n≠0
theorem zf5 (e:ErrV) (st:List AObj) (he:okE e):qn E 18 [errA e] st fun r st'=>r=Iv e.code∧st'=st:=by
 refine zb (qt _) (qr Tryz.func18 rfl (Nat.le_of_ble_eq_true rfl) ?_)
 cases e with
 |no=>
  repeat' (first|apply qm|apply q9|apply qe|apply qf|apply qj|apply qh)
  refine v4 (fun (k:Unit) s=>StA [(0,.v .nilIface),(7,Iv 0)] (st++[]) [] s) (fun k=>0) () (vk ⟨rfl,rfl,trivial⟩) ?_;rintro k _ ⟨t,rfl⟩;repeat' (first|apply qm|apply q9|apply qe|apply qf|apply qj|apply qh|(apply qy;(iterate 3 exact rfl))|(apply qc;exact rfl;apply wg;exact cAo)|(apply qc;exact rfl;apply cd_t;exact cRa)|(apply qdw;exact rfl;exact rfl)|apply qx|apply qu)
  exact qo rfl (zi rfl) ⟨rfl,_,rfl⟩
 |num n=>
  have hk:n≠0:=he;repeat' (first|apply qm|apply q9|apply qe|apply qf|apply qj|apply qh)
  refine v4 (fun (k:Unit) s=>StA [(0,errA (.num n)),(7,Iv 0)] (st++[]) [] s) (fun k=>0) () (vk ⟨rfl,rfl,trivial⟩) ?_;rintro k _ ⟨t,rfl⟩;repeat' (first|apply qm|apply q9|apply qe|apply qf|apply qj|apply qh|(apply zh;exact rfl;exact rfl)|(apply qy;(iterate 3 exact rfl))|(apply ze;(iterate 4 exact rfl))|(apply qb3;exact cRa)|(apply qp;exact rfl;apply pk_t;exact cRa)|(apply qc;exact rfl;apply wg;exact cAo)|(apply qc;exact rfl;apply cd_f;exact cRa)|(apply qam;exact rfl;exact rfl)|apply qx|apply qu|(apply qfc;(iterate 3 exact rfl)))
  exact qo rfl (zi rfl) ⟨rfl,_,rfl⟩
 |at' a n=>
  have hk:n≠0:=he;repeat' (first|apply qm|apply q9|apply qe|apply qf|apply qj|apply qh)
  refine v4 (fun (j:Nat) s=>(j=0∧StA [(0,errA (.at' a n)),(7,Iv 0)] (st++[]) [] s)∨(j=1∧StA [(0,errA (.num n)),(7,Iv 1)] (st++[]) [] s)) (fun j=>1 - j) 0 (.inl ⟨rfl,vk ⟨rfl,rfl,trivial⟩⟩) ?_;rintro j _ (⟨rfl,t,rfl⟩ | ⟨rfl,t,rfl⟩)
  ·skip
   repeat' (first|apply qm|apply q9|apply qe|apply qf|apply qj|apply qh|(apply zh;exact rfl;exact rfl)|(apply qy;(iterate 3 exact rfl))|(apply jb;exact rfl)|(apply ze;(iterate 4 exact rfl))|(apply qax;exact cRa)|(apply qfj;exact cRa)|(apply qbr;exact cRa)|(apply qp;exact rfl;apply qf2;exact cRa)|(apply qp;exact rfl;apply pk_f;exact cRa)|(apply qc;exact rfl;apply wg;exact cAo)|(apply qc;exact rfl;apply cd_f;exact cRa)|(apply z7;exact rfl;exact rfl;exact zn (by omega) (by omega))|(apply qam;exact rfl;exact rfl)|(apply yz;(iterate 4 exact rfl))|(apply js;(iterate 3 exact rfl))|(apply wt;exact rfl;exact rfl)|(apply qan;(iterate 3 exact rfl))|apply qx|(apply qq8;(iterate 5 exact rfl))|(apply qfc;(iterate 3 exact rfl)))
   exact⟨1,.inr ⟨rfl,vk ⟨rfl,rfl,trivial⟩⟩,by omega⟩
  ·skip
   repeat' (first|apply qm|apply q9|apply qe|apply qf|apply qj|apply qh|(apply zh;exact rfl;exact rfl)|(apply qy;(iterate 3 exact rfl))|(apply ze;(iterate 4 exact rfl))|(apply qb3;exact cRa)|(apply qp;exact rfl;apply pk_t;exact cRa)|(apply qc;exact rfl;apply wg;exact cAo)|(apply qc;exact rfl;apply cd_f;exact cRa)|(apply qam;exact rfl;exact rfl)|apply qx|apply qu|(apply qfc;(iterate 3 exact rfl)))
   exact qo rfl (zi rfl) ⟨rfl,_,rfl⟩
theorem zco (e:ErrV) (w:Int) (st:List AObj) (he:okE e):qn E 12 [errA e,Iv w] st fun r st'=>r=Bv (decide (e.code=w))∧st'=st:=by
 refine zb (qt _) (qr Tryz.func12 rfl (Nat.le_of_ble_eq_true rfl) ?_);repeat' (first|apply qm|apply qe|apply qf|apply qj|apply qh|(apply qy;(iterate 3 exact rfl))|apply qu|(apply qk;exact Tryz.call18;exact zf5 _ _ he))
 exact qo rfl (zi rfl) ⟨rfl,_,rfl⟩
def jw (x:ql):qa:=vq x++[10]++qab [32,32] (ke x.fields)
def encF (b:List ql):qa:=b.flatMap jw
theorem zao (a b:List ql):encF (a++b)=encF a++encF b:=by simp [encF]
theorem zap (x:ql):encF [x]=jw x:=by simp [encF]
theorem qrq:∀ (k:Nat) (r:List Fld),xm k r = .no↔∀ f∈r,j6 f
 |k,[]=>by simp [xm]
 |k,f::r=>by
  unfold xm;split
  ·rename_i h
   rw [qrq (k+1) r];have:=(qa7 f).1 h;simp [this]
  ·rename_i h
   have h2:¬ j6 f:=fun g=>h ((qa7 f).2 g);simp [h2]
theorem qc7 {fs:List Fld} (h:zw fs = .no):fs≠[]∧fs.length≤40∧∀ f∈fs,j6 f:=by
 unfold zw at h;split at h
 ·exact absurd h (by simp)
 ·split at h
  ·exact absurd h (by simp)
  ·exact⟨by assumption,by omega,(qrq _ _).1 h⟩
theorem qho {x:ql} (h:gErr x = .no):x.fields.length≤40∧∀ f∈x.fields,j6 f:=by
 unfold gErr at h;split at h
 ·split at h
  ·rename_i h0;rw [h0];simp
  ·exact absurd h (by simp)
 ·split at h
  ·exact (qc7 h).2
  ·exact absurd h (by simp)
theorem qx2:∀ (k:Nat) (b:List ql),qbe k b = .no↔∀ x∈b,gErr x = .no
 |k,[]=>by simp [qbe]
 |k,x::b=>by
  unfold qbe;split
  ·rename_i h
   rw [qx2 (k+1) b];have:=(qm4 x).1 h;simp [this]
  ·rename_i h
   have h2:¬ gErr x = .no:=fun g=>h ((qm4 x).2 g);simp [h2]
theorem qc8 {b:List ql} (h:eErr b = .no):1≤b.length∧b.length≤40∧∀ x∈b,gErr x = .no:=by
 unfold eErr at h;split at h
 ·exact absurd h (by simp)
 ·exact⟨by omega,by omega,(qx2 _ _).1 h⟩
theorem zft {fs:List Fld} (hl:fs.length≤40) (h:∀ f∈fs,j6 f):zck fs:=⟨by omega,fun f hf=>by
 have:=h f hf;have h1:=this.1.2.1;have h2:=this.2
 omega⟩
theorem qr6 (xs:List FldV) (st:List AObj) (hl:xs.length≤40) (h:∀ f∈xs,j6 f):qn E 100 [kj xs] st fun r st'=>r = .tu [Sv (ke xs),.v .nilIface]∧st'=st:=by
 have:=zfs xs st (zft hl h);unfold qr5 at this;have h0:=(qm1 xs).2 h;rw [if_pos h0,h0] at this;exact this
theorem qo9 (l:qa):(qab [32,32] l).length≤3 * l.length:=by
 unfold qab;obtain⟨h1,h2⟩:=qgg _ l (Nat.le_refl _);have:=qp9 [32,32] (zl l);simp only [List.length_cons,List.length_nil] at this;omega
theorem qvc (x:ql) (h1 : -9223372036854775808≤x.id) (h2:x.id≤9223372036854775807):(vq x).length≤100:=by
 have hn:=Lib.itoa_length_le x.id h1 h2;unfold vq qay;split
 ·split
  ·simp;omega
  ·split
   ·simp;omega
   ·split <;> simp <;> omega
 ·simp
theorem q4k {x:ql} (hB:EdB x) (h:gErr x = .no):(jw x).length≤700000:=by
 obtain⟨hl,hg⟩:=qho h;have h1:=qgd x.fields hg;have h2:=qo9 (ke x.fields);have h3:=qvc x hB.id1 hB.id2;unfold jw;simp only [List.length_append,List.length_cons,List.length_nil];omega
theorem qp0:∀ (b:List ql),(∀ x∈b,EdB x)→(∀ x∈b,gErr x = .no)→(encF b).length≤700000 * b.length
 | [],_,_=>by simp [encF]
 |x::r,hB,h=>by
  have ih:=qp0 r (fun y hy=>hB y (by simp [hy])) (fun y hy=>h y (by simp [hy]));have h1:=q4k (hB x (by simp)) (h x (by simp));have e:encF (x::r)=jw x++encF r:=by simp [encF]
  rw [e,List.length_append,List.length_cons];omega
set_option maxHeartbeats 2000000 in
theorem qu2 (b:List ql) (st:List AObj) (hB:∀ x∈b,EdB x) (he:eErr b = .no):qn E 60 [zo b] st fun r st'=>r = .tu [Sv (encF b),.v .nilIface]∧st'=st:=by
 refine zb (kc (qt _) (qt _)) (qr Tryz.func60 rfl (Nat.le_of_ble_eq_true rfl) ?_);have o7:(b.map vw).length=b.length:=by simp
 obtain⟨p6,hb40,hg⟩:=qc8 he;have mb:=qp0 b hB hg;repeat' (first|(apply qfu;exact rfl)|apply qm|apply q9|apply qe|apply qf|apply qj|apply qh|(apply qc;exact rfl;apply cd_f;exact cRa)|(apply jl;(iterate 4 exact rfl))|(apply v7;exact rfl;exact rfl)|apply qx|(apply qk;exact Tryz.call99;exact qkz _ _ _ he hB (by omega)))
 refine qeb b (fun pre s=>∃ q,(q = .v (.pointer none)∨q = .bx (st.length+0) 0 0)∧StE [(5,.bx (st.length+0) 0 0),(15,zo b),(16,Iv b.length),(17,Iv pre.length)] st [bldO 0 q (encF pre) (st.length+1),.tip (encF pre).length 1 5] s) ⟨_,.inl rfl,qhs ⟨rfl,rfl,congrArg (fun n:Nat=>Iv (n:Int)) o7,rfl,trivial⟩ rfl⟩ ?_ ?_
 ·rintro _ ⟨q,hq,t,ext,rfl⟩
  repeat' (first|apply qm|apply qe|apply qf|apply qh|(apply qy;(iterate 3 exact rfl))|(apply qc;exact rfl;apply xh;exact cAo)|apply vc|apply qu|(refine qk Tryz.call104 (qfv st _ _ _ _ 0 1 0 _ _ rfl rfl rfl) ?_))
  exact qo rfl (wm rfl) ⟨rfl,qcg _ _ _ _⟩
 ·rintro pre x rest _ hr ⟨q,hq,t,ext,rfl⟩
  have d5:b.length=pre.length+(rest.length+1):=by rw [hr];simp
  have e9:(b.map vw)[pre.length]? = some (vw x):=by rw [hr];simp
  have hxb:=hB x (by rw [hr];simp);have hxg:=hg x (by rw [hr];simp);obtain⟨p7,hfg⟩:=qho hxg;have fc:=qp0 pre (fun y hy=>hB y (by rw [hr];simp [hy])) (fun y hy=>hg y (by rw [hr];simp [hy]));have hll:=qvc x hxb.id1 hxb.id2;have hfo:=qgd x.fields hfg;have hin:=qo9 (ke x.fields);repeat' (first|apply qm|apply q9|apply qe|apply qf|apply qj|apply qh|(apply zh;exact rfl;exact rfl)|(apply qy;(iterate 3 exact rfl))|(apply qc;exact rfl;apply wg;exact cAo)|(apply qc;exact rfl;apply cd_f;exact cRa)|(apply vh;exact rfl;exact rfl;exact cOs)|(apply v7;exact rfl;exact rfl)|(apply jy;exact rfl;exact rfl)|(apply zk;(iterate 3 exact rfl))|(apply js;(iterate 3 exact rfl))|(apply j5;(iterate 5 exact rfl))|(apply z8;(iterate 11 exact rfl))|(apply xw;(iterate 9 exact rfl))|apply qx|(apply qk;exact Tryz.call100;exact qr6 _ _ p7 hfg)|(apply qk;exact Tryz.call102;exact zfz _ _ hxb.id1 hxb.id2)|(apply qk;exact Tryz.call103;exact zaz _ _ _ (by omega) (by decide))|(apply kh (n:=pre.length);(iterate 5 exact rfl);exact e9))
  refine qk Tryz.call101 (qg4 st _ _ _ _ 0 1 0 _ _ _ rfl rfl ?_ ?_ rfl) ?_;(exact hq);(simp only [List.length_append,List.length_cons,List.length_nil];omega);repeat' (first|apply qe|apply qf|apply qj|(apply z7;exact rfl;exact rfl;exact zn (by omega) (by omega)))
  refine⟨_,.inr rfl,qe8 ⟨rfl,rfl,rfl,?_,trivial⟩ ?_⟩
  ·rw [qfp pre x];rfl
  ·have e:encF (pre++[x])=encF pre++((vq x++[10])++qab [32,32] (ke x.fields)):=by rw [zao,zap];rfl
   rw [e];rfl
theorem qi3 (b:List ql) (st:List AObj) (e:ErrV) (hB:∀ x∈b,EdB x) (hl:b.length<9223372036854775808) (he:eErr b=e) (h0:e.code≠0):qn E 60 [zo b] st fun r st'=>r = .tu [Sv [],errA e]∧st'=st:=by
 refine zb (kc (qt _) (jx _)) (qr Tryz.func60 rfl (Nat.le_of_ble_eq_true rfl) ?_)
 cases e with
 |no=>exact absurd rfl h0
 |num n=>
  repeat' (first|apply qm|apply qe|apply qf|apply qj|apply qh|(apply qc;exact rfl;apply cd_t;exact cRa)|(apply wr;exact rfl;exact rfl)|apply qu|(apply qk;exact Tryz.call99;exact qkz _ _ _ he hB hl))
  exact qo rfl (wm rfl) ⟨rfl,_,rfl⟩
 |at' a n=>
  repeat' (first|apply qm|apply qe|apply qf|apply qj|apply qh|(apply qc;exact rfl;apply cd_t;exact cRa)|(apply wr;exact rfl;exact rfl)|apply qu|(apply qk;exact Tryz.call99;exact qkz _ _ _ he hB hl))
  exact qo rfl (wm rfl) ⟨rfl,_,rfl⟩
end Go.Proofs.YtihlchbgjdkmpaaGreatDoor
namespace Go.Av
open Go Go.RowKit
theorem qqv {b:Nat} {st l:List AObj} {sz:Nat} {T:TypeId} {xs:List AV} {c:AV} (h:TipO b st sz T xs c):TipO b (st++l) sz T xs c:=by
 rcases h with h|h
 ·exact .inl (qio h)
 ·exact .inr h
theorem q3a {b:Nat} {st st':List AObj} {sz:Nat} {T:TypeId} {xs:List AV} {c:AV} (hs:∀ (t m sz:Nat) (T:TypeId),st[t]? = some (AObj.tip m sz T)→st'[t]? = st[t]?) (h:TipO b st sz T xs c):TipO b st' sz T xs c:=by
 rcases h with (h | ⟨t,h1,h2,h3⟩)|h
 ·exact .inl (.inl h)
 ·exact .inl (.inr ⟨t,h1,(hs t _ _ _ h2).trans h2,h3⟩)
 ·exact .inr h
end Go.Av
namespace Go.Proofs.YtihlchbgjdkmpaaGreatDoor
open Go Go.Av Go.RowKit Go.Proofs Go.Pl
theorem qfl {st l:List AObj}:st.length≤(st++l).length:=by simp
theorem qv3 {b o:Nat} {st:List AObj} {sz:Nat} {T:TypeId} {xs:List AV} {c:AV} {x:AObj} (h:TipO b st sz T xs c) (hn:qe3 st[o]?):TipO b (st.set o x) sz T xs c:=
 q3a (fun t m sz T ht=>List.getElem?_set_ne (fun e=>by subst e;exact hn _ _ _ ht)) h
structure OutI (st:List AObj) (S:List AObj):Prop where
 low:∀ j,j<st.length→S[j]? = st[j]?
 len:st.length≤S.length
theorem OutI.pre {st S l:List AObj} (h:OutI st S):OutI st (S++l):=⟨fun j hj=>(List.getElem?_append_left (by have:=h.len;omega)).trans (h.low j hj),by have:=h.len;simp;omega⟩
theorem OutI.set {st S:List AObj} {o:Nat} {x:AObj} (h:OutI st S) (ho:st.length≤o):OutI st (S.set o x):=⟨fun j hj=>(qo6 (by omega)).trans (h.low j hj),by have:=h.len;simp;omega⟩
theorem OutI.fr {st S S':List AObj} {t:Nat} (h:OutI st S) (hf:Fr S S' t) (ht:st.length≤t):OutI st S':=⟨fun j hj=>(hf.same j (by omega) (by have:=h.len;omega)).trans (h.low j hj),Nat.le_trans h.len hf.len⟩
theorem OutI.ext {st S:List AObj} (h:OutI st S):∃ ext,S=st++ext:=qtn h.low
theorem qbw {E:Env} {rd:Option Nat} {N:Nat} {ops:Array Oper} {K:AS→Prop} {s:AS} {rest:List Oper} {d:Option Tmp} {T:TypeId} {p:String} {af:Array Edge} {t e:TypeId} {len sz:Nat} {agg:Bool} {parts:Array (Nat×Operand)} {zs cs:List AV} {st:List AObj} (d8:s.st=st) (hu:E.P.underlying t=some (.slice e)) (ht:tyOf E.P e=some (sz,agg)) (hz:qfb E.P e len=some zs)
  (hf:qb1 (fun i=>some (i * sz,sz)) zs (vz N s parts)=some cs) (i5:Nat.ble (len * sz) 16777216=true)
  (h:AOps E rd N ops rest K (AS.put ⟨s.t,st++[.cells 0 e cs],s.df⟩ d (.os st.length 0 0 len len))):AOps E rd N ops (⟨d,.buildSlice t len parts,T,p,af,none⟩::rest) K s:=
 qbv (loc:=[]) (by rw [d8];simp) hu ht hz hf i5 h
theorem qjr (x:ql):qfs (vw x):=fun y hy=>by
 simp only [AV.cells,List.mem_cons,List.not_mem_nil,or_false] at hy;rcases hy with rfl|rfl|rfl
 ·exact qt _
 ·exact qt _
 ·exact y4 _
theorem qds (b:List ql):Pure (zo b):=qar fun x hx=>by
 obtain⟨f,_,rfl⟩:=List.mem_map.1 hx;exact qjr f
theorem zbb {α β : Type} (g : α→β) (l:List α) (a : α):(l++[a]).map g=l.map g++[g a]:=by simp
def tryB (k:Int) (l:qa):Option Int:=if qay k <+: l then (match Lib.atoiAll (l.drop (qay k).length) with
 | .ok n=>some n
 | _=>none) else none
def begE (l:qa):Option (Int×Int):=match tryB 1 l with
 |some n=>some (1,n)
 |none=>match tryB 2 l with
  |some n=>some (2,n)
  |none=>match tryB 3 l with
   |some n=>some (3,n)
   |none=>none
def begA:Option (Int×Int)→AV
 |some (k,n)=>.tu [vw ⟨k,n,[]⟩,Bv true]
 |none=>.tu [vw ⟨0,0,[]⟩,Bv false]
theorem q6h (x:Option (Int×Int)):Pure (begA x):=by
 rcases x with _ | ⟨k,n⟩
 ·exact kc (qcb (qjr _)) (qt _)
 ·exact kc (qcb (qjr _)) (qt _)
theorem qv6 (k n:Int):Weak (.ag [Iv k,Iv n,zj]) (vw ⟨k,n,[]⟩):=
 ze6 rfl fun i x y hx hy=>by
  match i with
  | 0=>simp at hx hy;subst hx;subst hy;exact qa3 _
  | 1=>simp at hx hy;subst hx;subst hy;exact qa3 _
  | 2=>simp at hx hy;subst hx;subst hy;exact qfa 2
  |i+3=>simp at hx
theorem q4b (l m:qa) (st:List AObj) (h:m <+: l):qn E 219 [Sv l,Sv m] st fun r st'=>r = .tu [Sv (l.drop m.length),Bv true]∧st'=st:=by
 have:=qdr l m st;rw [qcc h,(xi l m).2 h] at this;exact this
theorem q4c (l m d:qa) (st:List AObj) (h:m <+: l) (hd:l.drop m.length=d):qn E 219 [Sv l,Sv m] st fun r st'=>r = .tu [Sv d,Bv true]∧st'=st:=by
 subst hd;exact q4b l m st h
theorem q4a (l m:qa) (st:List AObj) (h:¬ m <+: l):qn E 219 [Sv l,Sv m] st fun r st'=>r = .tu [Sv l,Bv false]∧st'=st:=by
 have:=qdr l m st
 have hf:Lib.hasPrefix l m=false:=by
  cases hb:Lib.hasPrefix l m with
  |false=>rfl
  |true=>exact absurd ((xi l m).1 hb) h
 have ht:Lib.trimPrefix l m=l:=by
  unfold Lib.trimPrefix;rw [if_neg (by simp [hf])]
 rw [ht,hf] at this;exact this
theorem zdb {l:qa} {k:Nat} {n:Int} (h1:1≤k) (h3:k≤3) (h:∀ j:Nat,1≤j→j<k→tryB j l=none) (hk:tryB k l=some n):begE l=some ((k:Int),n):=by
 have:k=1∨k=2∨k=3:=by omega
 rcases this with rfl|rfl|rfl
 ·have gw:tryB 1 l=some n:=hk
  simp [begE,gw]
 ·have e1:tryB 1 l=none:=h 1 (by omega) (by omega)
  have gw:tryB 2 l=some n:=hk;simp [begE,e1,gw]
 ·have e1:tryB 1 l=none:=h 1 (by omega) (by omega)
  have e2:tryB 2 l=none:=h 2 (by omega) (by omega);have gw:tryB 3 l=some n:=hk;simp [begE,e1,e2,gw]
theorem q6j {l:qa} (h:∀ j:Nat,1≤j→j<4→tryB j l=none):begE l=none:=by
 have e1:tryB 1 l=none:=h 1 (by omega) (by omega);have e2:tryB 2 l=none:=h 2 (by omega) (by omega);have e3:tryB 3 l=none:=h 3 (by omega) (by omega);simp [begE,e1,e2,e3]
theorem q9k {k:Nat} (h1:1≤k) (h3:k≤3):qa5 (k:Int)≠[]∧([32]++qa5 (k:Int))++[32]=qay (k:Int)∧(qa5 (k:Int)).length≤10:=by
 have:k=1∨k=2∨k=3:=by omega
 rcases this with rfl|rfl|rfl <;> decide
set_option maxHeartbeats 2000000 in
theorem zdd (l:qa) (st:List AObj) (hl:l.length<1000000):qn E 167 [Sv l] st fun r st'=>r=begA (begE l)∧st'=st:=by
 refine zb (q6h _) (qr Tryz.func167 rfl (Nat.le_of_ble_eq_true rfl) ?_);repeat' (first|apply qm|apply q9|apply qe|apply qf|apply qh|(apply jy;exact rfl;exact rfl))
 refine v4 (fun (k:Nat) s=>1≤k∧k≤4∧(∀ j:Nat,1≤j→j<k→tryB j l=none)∧StE [(0,Sv l),(2,.bx (st.length+0) 0 0),(4,Iv k)] st [.cells 0 81 [Iv 0,Iv 0,zj]] s) (fun k=>4 - k) 1 ⟨by omega,by omega,fun j h1 h2=>by omega,qhs ⟨rfl,rfl,rfl,trivial⟩ rfl⟩ ?_;rintro k _ ⟨gw,hk4,sd,t,ext,rfl⟩;by_cases h4:k=4
 ·subst h4
  have hw:qa5 ((4:Nat):Int)=[]:=by decide
  rw [q6j sd];repeat' (first|apply qm|apply qe|apply qf|apply qj|apply qh|(apply jv;(iterate 3 exact rfl))|(apply qc;exact rfl;apply cd_f;exact cRa)|(apply qfd;(iterate 11 exact rfl))|(apply yl;(iterate 3 exact rfl))|apply vc|apply qu|(apply qk;exact Tryz.call145;exact qs7 _ _))
  refine qo rfl (w9 (qov rfl rfl rfl rfl rfl rfl) (qd8 (qv6 0 0) (qa3 _))) ⟨rfl,qcg _ _ _ _⟩
 ·obtain⟨hw,hm,hwl⟩:=q9k gw (by omega)
  by_cases hp:qay (k:Int) <+: l
  ·have np:([32]++qa5 (k:Int))++[32] <+: l:=by rw [hm];exact hp
   obtain⟨d,hd0⟩:∃ d,d=l.drop (qay (k:Int)).length:=⟨_,rfl⟩;have hd:l.drop ((([32]:qa)++qa5 (k:Int))++[32]).length=d:=by rw [hm,hd0]
   have hdl:d.length<1000000:=by rw [hd0,List.length_drop];omega
   repeat' (first|apply qm|apply q9|apply qe|apply qf|apply qj|apply qh|(apply zh;exact rfl;exact rfl)|(apply jv;(iterate 3 exact rfl))|(apply qc;exact rfl;apply wg;exact cAo)|(apply vh;exact rfl;exact rfl;exact cOs)|apply qx|(apply qk;exact Tryz.call145;exact qs7 _ _)|(apply qk;exact Tryz.call219;exact q4c _ _ _ _ np hd))
   refine qd9 Tryz.call111 ((qmq d _ (by omega)).mono ?_);rintro _ _ ⟨rfl,n,x,rfl,hx⟩;rw [hd0] at hx;rcases x with _ | ⟨t',y⟩
   ·simp only at hx
    have htr:tryB (k:Int) l=some n:=by unfold tryB;rw [if_pos hp,hx]
    rw [zdb gw (by omega) sd htr];repeat' (first|apply qm|apply qe|apply qf|apply qj|apply qh|(apply zh;exact rfl;exact rfl)|(apply ze;(iterate 4 exact rfl))|(apply qb3;exact cRa)|(apply qp;exact rfl;apply pk_t;exact cRa)|(apply qc;exact rfl;apply cd_t;exact cRa)|(apply qdw;exact rfl;exact rfl)|(apply qfd;(iterate 11 exact rfl))|(apply yl;(iterate 3 exact rfl))|apply qu)
    refine qo rfl (w9 (qov rfl rfl rfl rfl rfl rfl) (qd8 (qv6 k n) (qa3 _))) ⟨rfl,qcg _ _ _ _⟩
   ·simp only at hx
    have htr:tryB (k:Int) l=none:=by
     unfold tryB;rw [if_pos hp];split
     ·rename_i v hv;exact absurd hv (hx v)
     ·rfl
    repeat' (first|apply qm|apply qe|apply qf|apply qj|apply qh|(apply zh;exact rfl;exact rfl)|(apply ze;(iterate 4 exact rfl))|(apply qb3;exact cRa)|(apply qp;exact rfl;apply pk_t;exact cRa)|(apply qc;exact rfl;apply cd_f;exact cRa)|(apply z7;exact rfl;exact rfl;exact zn (by omega) (by omega))|(apply qam;exact rfl;exact rfl)|apply qx)
    refine⟨k+1,⟨by omega,by omega,fun j h1 h2=>?_,qe8 ⟨rfl,rfl,rfl,trivial⟩ rfl⟩,by omega⟩;by_cases hjk:j=k
    ·subst hjk;exact htr
    ·exact sd j h1 (by omega)
  ·have np:¬ ([32]++qa5 (k:Int))++[32] <+: l:=by rw [hm];exact hp
   have htr:tryB (k:Int) l=none:=by unfold tryB;rw [if_neg hp]
   repeat' (first|apply qm|apply q9|apply qe|apply qf|apply qj|apply qh|(apply zh;exact rfl;exact rfl)|(apply jv;(iterate 3 exact rfl))|(apply qc;exact rfl;apply wg;exact cAo)|(apply vh;exact rfl;exact rfl;exact cOs)|apply qx|(apply qk;exact Tryz.call145;exact qs7 _ _)|(apply qk;exact Tryz.call219;exact q4a _ _ _ np))
   refine qd9 Tryz.call111 ((qmq l _ (by omega)).mono ?_);rintro _ _ ⟨rfl,n,x,rfl,hx⟩;rcases x with _ | ⟨t',y⟩
   all_goals
    repeat' (first|apply qm|apply qe|apply qf|apply qj|apply qh|(apply zh;exact rfl;exact rfl)|(apply ze;(iterate 4 exact rfl))|(apply qbr;exact cRa)|(apply qp;exact rfl;apply pk_f;exact cRa)|(apply qc;exact rfl;apply cd_f;exact cRa)|(apply z7;exact rfl;exact rfl;exact zn (by omega) (by omega))|apply qx)
    refine⟨k+1,⟨by omega,by omega,fun j h1 h2=>?_,qe8 ⟨rfl,rfl,rfl,trivial⟩ rfl⟩,by omega⟩;by_cases hjk:j=k
    ·subst hjk;exact htr
    ·exact sd j h1 (by omega)
def recsF (its:List za):List (List Fld):=(its.filter fun x=>decide (x.kind=3)).map za.fields
@[reducible] def zcr (ls : List (List Fld)) : AV := .sl 1 (ls.map kj) none
theorem q5h (ls:List (List Fld)):Pure (zcr ls):=qar fun x hx=>by
 obtain⟨f,_,rfl⟩:=List.mem_map.1 hx;intro y hy;simp only [AV.cells,List.mem_cons,List.not_mem_nil,or_false] at hy;subst hy;exact y4 _
theorem q1m (l:List za) (x:za) (h:x.kind=3):recsF (l++[x])=recsF l++[x.fields]:=by simp [recsF,h]
theorem q1n (l:List za) (x:za) (h:¬ x.kind=3):recsF (l++[x])=recsF l:=by simp [recsF,h]
theorem ze3 {b t1:Nat} {st st':List AObj} {sz:Nat} {T:TypeId} {xs:List AV} {c c0:AV} {sz0:Nat} {xs0:List AV} (hf:Fr st st' t1) (bz:c0 = .sl sz0 xs0 (some t1)∨st.length≤t1) (h0:∀ t,c0≠.sl sz0 xs0 (some t)) (h:TipO b st sz T xs c):TipO b st' sz T xs c:=
 q3a (fun t m sz T ht=>hf.same t (fun e=>by
  subst e;rcases bz with bz|bz
  ·exact h0 _ bz
  ·have:=lt_of_getElem? ht;omega) (lt_of_getElem? ht)) h
theorem zcg {b t1:Nat} {st st':List AObj} {sz:Nat} {T:TypeId} {xs:List AV} {c:AV} {sz0:Nat} {xs0:List AV} {o v f l k:Nat} (hf:Fr st st' t1) (bz:AV.os o v f l k = .sl sz0 xs0 (some t1)∨st.length≤t1) (h:TipO b st sz T xs c):TipO b st' sz T xs c:=
 ze3 hf bz (by simp) h
set_option maxHeartbeats 2000000 in
theorem q84 (its:List za) (st:List AObj) (hl:its.length<1000000) (hf:∀ x∈its,x.fields.length<1000000):qn E 223 [ww its] st fun r st'=>r=zcr (recsF its)∧st'=st:=by
 refine zb (q5h _) (qr Tryz.func223 rfl (Nat.le_of_ble_eq_true rfl) ?_);have o7:(its.map v6).length=its.length:=by simp
 rw [List.append_nil];repeat' (first|apply qm|apply q9|apply qe|apply qf|apply qj|apply qh|(apply jl;(iterate 4 exact rfl)))
 refine qeb its (fun pre s=>∃ c S,OutI st S∧TipO st.length S 1 78 ((recsF pre).map kj) c∧StA [(3,c),(6,ww its),(7,Iv its.length),(8,Iv pre.length)] S [] s) ⟨_,st,⟨fun _ _=>rfl,Nat.le_refl _⟩,q0h ..,vk ⟨rfl,rfl,congrArg (fun n:Nat=>Iv (n:Int)) o7,rfl,trivial⟩⟩ ?_ ?_
 ·rintro _ ⟨c,S,hO,hT,t,rfl⟩
  repeat' (first|apply qm|apply qe|apply qf|apply qj|apply qh|(apply qy;(iterate 3 exact rfl))|(apply qc;exact rfl;apply xh;exact cAo)|apply vc|apply qu)
  exact qo rfl (w9 (zi rfl) (qlx hT)) ⟨rfl,hO.ext⟩
 ·rintro pre x rest _ hr ⟨c,S,hO,hT,t,rfl⟩
  have d5:its.length=pre.length+(rest.length+1):=by rw [hr];simp
  have e9:(its.map v6)[pre.length]? = some (v6 x):=by rw [hr];simp
  have hxf:=hf x (by rw [hr];simp);have fc:(recsF pre).length≤pre.length:=by unfold recsF;rw [List.length_map];exact List.length_filter_le _ _
  have hSl:=hO.len;have hO1:OutI st ((S++[AObj.cells 0 98 [Iv 0,Sv [],zj]]).set S.length (.cells 0 98 (v6 x).cells)):=hO.pre.set hSl;have hT1:TipO st.length ((S++[AObj.cells 0 98 [Iv 0,Sv [],zj]]).set S.length (.cells 0 98 (v6 x).cells)) 1 78 ((recsF pre).map kj) c:=qv3 (qqv hT) (yp xc);have cw:((S++[AObj.cells 0 98 [Iv 0,Sv [],zj]]).set S.length (.cells 0 98 (v6 x).cells))[S.length]? = some (.cells 0 98 (v6 x).cells):=jq xc;by_cases h3:x.kind=3
  ·skip
   repeat' (first|(apply qbw (st:=(S++[AObj.cells 0 98 [Iv 0,Sv [],zj]]).set S.length (.cells 0 98 (v6 x).cells));(iterate 6 exact rfl))|(apply q54 19 rfl (qlx g1);apply xw;(iterate 9 exact rfl))|apply qm|apply q9|apply qe|apply qf|apply qj|apply qh|(apply qy;(iterate 3 exact rfl))|(apply qc;exact rfl;apply wg;exact cAo)|(apply z7;exact rfl;exact rfl;exact zn (by omega) (by omega))|(apply zk;(iterate 3 exact rfl))|(apply js;(iterate 3 exact rfl))|apply qx|(apply j9;exact rfl;exact cw;exact rfl;exact rfl)|(apply j9;exact rfl;exact qa8 cw;exact rfl;exact rfl)|(apply qjo (st:=S);exact rfl;exact rfl)|(apply x7;exact rfl;exact rfl;(focus first|assumption|(repeat' (first|assumption|exact xc|exact jh rfl|apply jq|apply jg|omega|apply qa8)));(iterate 6 exact rfl))|(apply kh (n:=pre.length);(iterate 5 exact rfl);exact e9)|(apply qhw (b:=st.length) (xs:=[]) (ys:=x.fields.map fldA) (bytes:=32);(iterate 5 exact rfl);exact⟨⟨_,_,rfl,rfl,rfl,rfl,rfl⟩⟩;exact q3b _ _ _ _ _ _ _;(exact Nat.le_trans hO1.len qfl);(first|exact rfl|exact qbu fun _=>rfl);((simp [maxLen];omega));((simp;omega));intro c1 S1 t1 g1 g2 g3 g4)|(apply qhw (b:=st.length) (xs:=(recsF pre).map kj) (ys:=[kj x.fields]) (bytes:=24);(iterate 5 exact rfl);exact⟨⟨_,_,rfl,rfl,rfl,rfl,rfl⟩⟩;exact zcg g2 g4 (qqv hT1);(exact (hO1.pre.fr g2 g3).len);(first|exact rfl|exact qbu fun _=>rfl);((simp [maxLen];omega));((simp;omega));intro c2 S2 t2 k1 k2 k3 k4))
   exact⟨c2,S2,(hO1.pre.fr g2 g3).fr k2 k3,by rw [q1m _ _ h3,zbb];exact k1,vk ⟨rfl,rfl,rfl,qto pre x,trivial⟩⟩
  ·skip
   repeat' (first|apply qm|apply q9|apply qe|apply qf|apply qj|(apply qy;(iterate 3 exact rfl))|(apply qc;exact rfl;apply wg;exact cAo)|(apply qc;exact rfl;apply xh;exact cAo)|(apply z7;exact rfl;exact rfl;exact zn (by omega) (by omega))|(apply zk;(iterate 3 exact rfl))|(apply js;(iterate 3 exact rfl))|apply qx|(apply j9;exact rfl;exact cw;exact rfl;exact rfl)|(apply qjo (st:=S);exact rfl;exact rfl)|(apply x7;exact rfl;exact rfl;(focus first|assumption|(repeat' (first|assumption|exact xc|exact jh rfl|apply jq|apply jg|omega|apply qa8)));(iterate 6 exact rfl))|(apply kh (n:=pre.length);(iterate 5 exact rfl);exact e9))
   exact⟨c,_,hO1,by rw [q1n _ _ h3];exact hT1,vk ⟨rfl,rfl,rfl,qto pre x,trivial⟩⟩
end Go.Proofs.YtihlchbgjdkmpaaGreatDoor
namespace Go.Pl
open Go Go.Proofs Go.Proofs.YtihlchbgjdkmpaaGreatDoor
def GF (fs:List Fld):Prop:=fs.length≤40∧∀ f∈fs,j6 f
structure PI (p:PSt):Prop where
 items:∀ x∈p.items,GF x.fields∧(x.kind=3↔x.fields≠[])
 fields:GF p.fields
 full:p.lines≠[]→p.full=false→p.fields.length<40
theorem q1w {ls:List qa} (h:(jr ls).2=0):j6 (jr ls).1:=by
 unfold jr at h ⊢;split at h
 ·split at h
  ·simp at h
  ·rename_i h1 h2
   rw [if_pos h1,if_neg h2];exact⟨(qnc.1 h1.2.1).2.2,Nat.le_of_not_lt h2⟩
 ·simp at h
theorem pi0:PI p0:=⟨by simp [p0],⟨by simp [p0],by simp [p0]⟩,by simp [p0]⟩
theorem PI.flush {p:PSt} (h:PI p):PI (jj p).2:=by
 unfold jj;split
 ·exact h
 ·rename_i hl
  split
  ·exact h
  ·rename_i hu
   split
   ·exact h
   ·rename_i hf
    have d9:=h.full hl (by simpa using hf);refine⟨h.items,⟨by simp;omega,fun f hm=>?_⟩,by simp⟩;rcases List.mem_append.1 hm with hm|hm
    ·exact h.fields.2 f hm
    ·simp at hm;subst hm;exact q1w (by simpa using hu)
theorem PI.close {p:PSt} (h:PI p):PI (xn p):=by
 unfold xn;split
 ·exact⟨h.items,⟨by simp,by simp⟩,fun h1 h2=>by simp⟩
 ·refine⟨fun x hx=>?_,⟨by simp,by simp⟩,fun h1 h2=>by simp⟩
  rcases List.mem_append.1 hx with hx|hx
  ·exact h.items x hx
  ·simp at hx
   subst hx;refine⟨h.fields,?_⟩;simp only;split
   ·rename_i h0;simp [h0]
   ·rename_i h0;simp [h0]
theorem PI.end' {p:PSt} (h:PI p):PI (endP p).2:=by
 unfold endP;split
 ·exact h
 ·exact h.flush.close
theorem PI.lines' {p:PSt} (h:PI p) (hl:p.lines≠[]) (text:qa):PI { p with lines:=p.lines++[text] }:=⟨h.items,h.fields,fun _ hf=>h.full hl hf⟩
theorem PI.begin' {p:PSt} (h:PI p) (no:Int) (text:qa):PI (ki p no text):=by
 refine⟨h.items,h.fields,fun _ hf=>?_⟩;have:=h.fields.1;simp only [ki,decide_eq_false_iff_not,not_or] at hf ⊢;omega
theorem PI.ahead {p:PSt} (h:PI p) (no:Int) (text:qa) (ended:Bool) (kind:Int):PI (je p no text ended kind).2:=by
 unfold je;split
 ·split
  ·exact h
  ·rename_i hl
   split
   ·exact h.lines' hl text
   ·exact (h.lines' hl text).flush
 ·split
  ·exact h.end'
  ·exact h.flush
theorem PI.take {p:PSt} (h:PI p) (no:Int) (text:qa) (ended:Bool):PI (we p no text ended).2:=by
 have ha:=h.ahead no text ended (qs text);unfold we;split
 ·exact h
 ·split
  ·exact h
  ·split
   ·refine⟨fun x hx=>?_,ha.fields,ha.full⟩
    rcases List.mem_append.1 hx with hx|hx
    ·exact ha.items x hx
    ·simp at hx;subst hx;exact⟨⟨by simp,by simp⟩,by simp⟩
   ·split
    ·have hb:=ha.begin' no text
     exact⟨hb.items,hb.fields,hb.full⟩
    ·exact⟨ha.items,ha.fields,ha.full⟩
theorem PI.run:∀ (ls:List (qa×Bool)) (k:Nat) (p:PSt),PI p→PI (runL k ls p).2
 | [],k,p,h=>h.end'
 |(t,e)::r,k,p,h=>by
  unfold runL;split
  ·exact h
  ·exact PI.run r (k+1) _ (h.take k t e)
theorem qj0 (text:qa):∀ x∈(jk text).2,GF x.fields∧(x.kind=3↔x.fields≠[]):=by
 unfold jk;split
 ·simp
 ·exact (PI.run _ 0 _ pi0).items
theorem qxw (p:PSt):(xn p).items.length≤p.items.length+1:=by
 unfold xn;split <;> simp
theorem qh5 (p:PSt):(jj p).2.items=p.items:=by
 unfold jj;split
 ·rfl
 ·split
  ·rfl
  ·split <;> rfl
theorem qrz (p:PSt):(endP p).2.items.length≤p.items.length+1:=by
 unfold endP;split
 ·simp
 ·have:=qxw (jj p).2
  rw [qh5] at this;exact this
theorem qw3 (p:PSt) (no:Int) (text:qa) (ended:Bool) (kind:Int):(je p no text ended kind).2.items.length≤p.items.length+1:=by
 unfold je;split
 ·split
  ·simp
  ·split
   ·simp
   ·rw [qh5];simp
 ·split
  ·exact qrz p
  ·rw [qh5];simp
theorem q1u (p:PSt) (no:Int) (text:qa) (ended:Bool):(we p no text ended).2.items.length≤p.items.length+2:=by
 have ha:=qw3 p no text ended (qs text);unfold we;split
 ·simp
 ·split
  ·simp
  ·split
   ·simp;omega
   ·split
    ·simp [ki];omega
    ·simp;omega
theorem qhj:∀ (ls:List (qa×Bool)) (k:Nat) (p:PSt),(runL k ls p).2.items.length≤p.items.length+2 * ls.length+1
 | [],k,p=>by have:=qrz p;simp [runL];omega
 |(t,e)::r,k,p=>by
  unfold runL;split
  ·simp;omega
  ·have h1:=qhj r (k+1) (we p k t e).2
   have h2:=q1u p k t e;simp only [List.length_cons];omega
theorem q8b (text:qa):(jk text).2.length≤2 * text.length+1:=by
 unfold jk;split
 ·simp
 ·have h1:=qhj (zl text) 0 p0
  have h2:=(qgg _ text (Nat.le_refl _)).2;have h3:p0.items.length=0:=rfl;simp only;omega
theorem q4d (by' l:qa):(vd by' l).1.length≤l.length:=by
 unfold vd;split
 ·have h:=(qgg _ l (Nat.le_refl _)).1
  have key:∀ (ls:List (qa×Bool)),(ls.flatMap fun x=>x.1.drop by'.length++x5 x.2).length≤lsum ls:=by
   intro ls
   induction ls with
   |nil=>simp [lsum]
   |cons x r ih=>
    simp only [lsum,List.flatMap_cons,List.length_append,List.map_cons,List.sum_cons,List.length_drop] at ih ⊢;omega
  have:=key (zl l);simp only;omega
 ·simp
end Go.Pl
namespace Go.Proofs.YtihlchbgjdkmpaaGreatDoor
open Go Go.Av Go.RowKit Go.Proofs Go.Pl
theorem qly (text:qa) (st:List AObj) (hl:text.length≤60000) (h:(jk text).1=none):qn E 64 [Sv text] st fun r st'=>r = .tu [ww (jk text).2,.v .nilIface]∧st'=st:=by
 have:=qqo text st hl;unfold qc4 at this;rw [h] at this;exact this
theorem q1r (text:qa) (st:List AObj) (a n:Int) (hl:text.length≤60000) (h:(jk text).1=some (a,n)):qn E 64 [Sv text] st fun r st'=>r = .tu [ww (jk text).2,.ifc 115 (.pp [Iv a,.ifc 37 (Iv n)])]∧st'=st:=by
 have:=qqo text st hl;unfold qc4 at this;rw [h] at this;exact this
def qcv (text:qa):List Fld×Bool:=
 if (vd [32,32] text).2=false∨(jk (vd [32,32] text).1).1≠none then ([],false)
 else match recsF (jk (vd [32,32] text).1).2 with
  | []=>([],decide ((vd [32,32] text).1=[]))
  |f::_=>(f,decide ((jk (vd [32,32] text).1).2.length=1))
theorem zg2 {a b:List Fld} {c d:Bool} (h1:a=b) (h2:c=d):AV.tu [kj a,Bv c]=AV.tu [kj b,Bv d]:=by rw [h1,h2]
theorem q5e {its:List za} (h:∀ x∈its,GF x.fields∧(x.kind=3↔x.fields≠[])):∀ fs∈recsF its,GF fs∧fs≠[]:=fun fs hfs=>by
 obtain⟨x,hx,rfl⟩:=List.mem_map.1 hfs;obtain⟨tz,hx2⟩:=List.mem_filter.1 hx;have:=h x tz;exact⟨this.1,this.2.1 (by simpa using hx2)⟩
set_option maxHeartbeats 2000000 in
theorem zas (text:qa) (st:List AObj) (hl:text.length≤60000):qn E 168 [Sv text] st fun r st'=>r = .tu [kj (qcv text).1,Bv (qcv text).2]∧st'=st:=by
 refine zb (kc (y4 _) (qt _)) (qr Tryz.func168 rfl (Nat.le_of_ble_eq_true rfl) ?_);have hdl:=q4d [32,32] text;have fc:=q8b (vd [32,32] text).1;have pd:=qj0 (vd [32,32] text).1;unfold qcv;obtain⟨d,hd⟩:∃ d,d=vd [32,32] text:=⟨_,rfl⟩;have hdc:∀ st,qn E 205 [Sv text,Sv [32,32]] st fun r st'=>r = .tu [Sv d.1,Bv d.2]∧st'=st:=fun st=>by rw [hd];exact qxz text [32,32] st (by omega)
 rw [← hd] at hdl fc pd ⊢;obtain⟨b,ok⟩:=d;simp only at hdl fc pd hdc ⊢
 cases hp:(jk b).1 with
 |some e=>
  obtain⟨a,n⟩:=e;rw [if_pos (.inr (by simp))]
  cases ok
  all_goals
   repeat' (first|apply qm|apply qe|apply qf|apply qj|apply qh|(apply zh;exact rfl;exact rfl)|(apply jb;exact rfl)|(apply ze;(iterate 4 exact rfl))|(apply qax;exact cRa)|(apply qc9;exact cRa)|(apply qp;exact rfl;apply qlr;exact cRa)|(apply qp;exact rfl;apply qf2;exact cRa)|(apply qc;exact rfl;apply cd_t;exact cRa)|(apply wr;exact rfl;exact rfl)|apply qu|(apply qk;exact Tryz.call205;exact hdc _)|(apply qk;exact Tryz.call64;exact q1r _ _ _ _ (by omega) hp))
   exact qo rfl (w9 (wm rfl) (qd8 (qfa 2) (qa3 (Bv false)))) ⟨rfl,_,rfl⟩
 |none=>
  cases ok
  ·rw [if_pos (.inl rfl)]
   repeat' (first|apply qm|apply qe|apply qf|apply qj|apply qh|(apply zh;exact rfl;exact rfl)|(apply jb;exact rfl)|(apply ze;(iterate 4 exact rfl))|(apply qc9;exact cRa)|(apply qp;exact rfl;apply qlr;exact cRa)|(apply qc;exact rfl;apply cd_t;exact cRa)|apply qu|(apply qk;exact Tryz.call205;exact hdc _)|(apply qk;exact Tryz.call64;exact qly _ _ (by omega) hp))
   exact qo rfl (w9 (wm rfl) (qd8 (qfa 2) (qa3 (Bv false)))) ⟨rfl,_,rfl⟩
  ·rw [if_neg (by simp)]
   have hsc:=fun st=>q84 (jk b).2 st (by omega) (fun x hx=>by have:=(pd x hx).1.1;omega);have o7:((jk b).2.map v6).length=(jk b).2.length:=by simp
   cases hr:recsF (jk b).2 with
   |nil=>
    rw [hr] at hsc;repeat' (first|apply qm|apply qe|apply qf|apply qj|apply qh|(apply zh;exact rfl;exact rfl)|(apply qy;(iterate 3 exact rfl))|(apply jv;(iterate 3 exact rfl))|(apply jb;exact rfl)|(apply ze;(iterate 4 exact rfl))|(apply qax;exact cRa)|(apply qp;exact rfl;apply qf2;exact cRa)|(apply qc;exact rfl;apply cd_t;exact cRa)|(apply qc;exact rfl;apply cd_f;exact cRa)|(apply jl;(iterate 4 exact rfl))|(apply v7;exact rfl;exact rfl)|apply qx|apply qu|(apply qk;exact Tryz.call205;exact hdc _)|(apply qk;exact Tryz.call64;exact qly _ _ (by omega) hp)|(apply qk;exact Tryz.call223;exact hsc _))
    exact qo rfl (w9 (wm rfl) (qd8 (qfa 2) (qa3 (Bv (decide (b=[])))))) ⟨rfl,_,rfl⟩
   |cons f r=>
    rw [hr] at hsc;have lv:((f::r).map kj).length=r.length+1:=by simp
    repeat' (first|apply qm|apply qe|apply qf|apply qj|apply qh|(apply zh;exact rfl;exact rfl)|(apply qy;(iterate 3 exact rfl))|(apply jb;exact rfl)|(apply ze;(iterate 4 exact rfl))|(apply qax;exact cRa)|(apply qp;exact rfl;apply qf2;exact cRa)|(apply qc;exact rfl;apply xh;exact cAo)|(apply qc;exact rfl;apply cd_f;exact cRa)|(apply jl;(iterate 4 exact rfl))|(apply v7;exact rfl;exact rfl)|(apply js;(iterate 3 exact rfl))|apply qx|apply qu|(apply qk;exact Tryz.call205;exact hdc _)|(apply qk;exact Tryz.call64;exact qly _ _ (by omega) hp)|(apply qk;exact Tryz.call223;exact hsc _)|(apply kh (n:=0);(iterate 6 exact rfl)))
    refine qo rfl (wm rfl) ⟨zg2 rfl (decide_eq_decide.2 ?_),_,rfl⟩;rw [o7];omega
def xu (text:qa):List LnV→Nat→List qa
 | [],frm=>[text.drop frm]
 |l::r,frm=>if frm<l.at'∧¬ [32,32] <+: l.text then (text.take l.at').drop frm::xu text r l.at' else xu text r frm
def qdv (text:qa):List qa:=xu text (lns text) 0
theorem q7h (l m:qa) (st:List AObj) (h:m <+: l):qn E 155 [Sv l,Sv m] st fun r st'=>r=Bv true∧st'=st:=by
 have:=qdu l m st;rw [(xi l m).2 h] at this;exact this
theorem q7g (l m:qa) (st:List AObj) (h:¬ m <+: l):qn E 155 [Sv l,Sv m] st fun r st'=>r=Bv false∧st'=st:=by
 have:=qdu l m st
 have hf:Lib.hasPrefix l m=false:=by
  cases hb:Lib.hasPrefix l m with
  |false=>rfl
  |true=>exact absurd ((xi l m).1 hb) h
 rw [hf] at this;exact this
theorem zem (text:qa) (st:List AObj) (hl:text.length<1000000):qn E 166 [Sv text] st fun r st'=>r=Ss (qdv text)∧st'=st:=by
 refine zx [.s text] (q21 _) Tryz.func166 rfl rfl (fun _=>rfl) rfl fun S0=>?_;apply qd [];repeat' (first|apply And.intro|(intro h;try exact cDd)|exact⟨Tryz.call113⟩|(refine Exists.intro _ ⟨qlz _,?_⟩)|exact cSd|apply qb []|refine exr ?_|refine qi ?_)
 refine qfo (X:=List qa×Nat) text 2 3 [0,1,2] (fun (out,frm)=>⟨[(1,.a (.pp [Sv text])),(3,.bx 0 0),(4,.bx 1 0),(7,.fn (.func 154) [] [.bx 2 0])],
   [(0,some (.cells 66 [.tp 3])),(1,some (.cells 3 [.i frm])),(2,some (.cells 9 [.s text])),(3,some (.tip 1 9 (out.map fun x=>Sv x)))],4⟩) _
  (fun k rest (out,frm)=>∃ a,a+rest.length=text.length∧frm≤a∧out.length≤k∧k≤a∧out++xu text (xq k a rest) frm=qdv text) (fun _ _=>False) ([],0) ⟨0,by simp,by omega,by simp,by omega,rfl⟩ ?_ id (by omega) (fun _=>rfl) rfl (fun _=>rfl) (fun _=>rfl) rfl ?_ ?_ (fun _ _ h=>h.elim)
 ·skip
  repeat' (first|apply And.intro|(intro h;try exact cDd)|exact cSd|apply qb []|refine exr ?_|refine qi ?_)
 ·rintro k rest ⟨out,frm⟩ ⟨a,ha,hfa,hok,hka,a8⟩ b9 d6
  have gj:=qie (k:=k) (a:=a) b9;have hul:=vb 10 rest;have hr0:0<rest.length:=List.length_pos_iff.2 b9;have fc:=km 10 rest
  have mj:a+(upto 10 rest).length+1+(past 10 rest).length=text.length∨past 10 rest=[]:=by
   by_cases i3:10∈rest
   ·have:=qdo i3
    exact .inl (by omega)
   ·right
    unfold past;rw [qd7 i3];simp
  have hpast:∀ f,xu text (xq (k+1) (a+(upto 10 rest).length+1) (past 10 rest)) f=xu text (xq (k+1) (text.length - (past 10 rest).length) (past 10 rest)) f:=fun f=>by
   rcases mj with h|h
   ·have:a+(upto 10 rest).length+1=text.length - (past 10 rest).length:=by omega
    rw [this]
   ·rw [h,qkf,qkf]
  have e:(text.length:Int) - rest.length=(a:Int):=by omega
  rw [gj,xu] at a8;unfold qlb;rw [e];by_cases hp:[32,32] <+: upto 10 rest
  ·have hhp:=fun st=>q7h (upto 10 rest) [32,32] st hp
   rw [if_neg (fun h=>h.2 hp),hpast] at a8;refine RA.mk fun S F ρ rd=>?_;apply qd [];repeat' (first|apply And.intro|(intro h;try exact cDd)|(refine RB.mk fun S rd=>?_;apply qd [])|exact⟨Tryz.call155⟩|refine cpe hhp ?_|(refine Exists.intro (out,frm) ⟨⟨text.length - (past 10 rest).length,by omega,by omega,by omega,by omega,a8⟩,?_⟩)|exact cSd|apply qb []|refine exr ?_|refine qi ?_)
  ·have hhp:=fun st=>q7g (upto 10 rest) [32,32] st hp
   by_cases hfr:frm<a
   ·rw [if_pos ⟨hfr,hp⟩,hpast] at a8
    refine RA.mk fun S F ρ rd=>?_;apply qd [];repeat' (first|apply And.intro|(intro h;try exact cDd)|(refine RB.mk fun S rd=>?_;apply qd [25])|exact⟨Tryz.call155⟩|refine cpe hhp ?_|(refine Exists.intro (out++[(text.take a).drop frm],a) ⟨⟨text.length - (past 10 rest).length,by omega,by omega,by simp;omega,by omega,by rw [← a8];simp⟩,?_⟩)|exact cSd|apply qb [25]|refine exr ?_|refine qi ?_)
    all_goals first|(simp [SV.evs];omega)|(simp [SV.evs,SV.ev];done)
   ·rw [if_neg (fun h=>hfr h.1),hpast] at a8
    refine RA.mk fun S F ρ rd=>?_;apply qd [];repeat' (first|apply And.intro|(intro h;try exact cDd)|(refine RB.mk fun S rd=>?_;apply qd [])|exact⟨Tryz.call155⟩|refine cpe hhp ?_|(refine Exists.intro (out,frm) ⟨⟨text.length - (past 10 rest).length,by omega,by omega,by omega,by omega,a8⟩,?_⟩)|exact cSd|apply qb []|refine exr ?_|refine qi ?_)
 ·rintro k ⟨out,frm⟩ ⟨a,ha,hfa,hok,hka,a8⟩
  rw [qkf,xu] at a8;repeat' (first|apply And.intro|(intro h;try exact cDd)|exact cSd|apply qb []|refine exr ?_|refine qi ?_)
  rw [← a8];simp
def decP:List qa→List ql→Option (List ql)
 | [],acc=>some acc
 |p::r,acc=>match begE (upto 10 p) with
  |none=>none
  |some (k,n)=>if (qcv (past 10 p)).2=true∧acc.length≠40 then decP r (acc++[⟨k,n,(qcv (past 10 p)).1⟩]) else none
def decF (text:qa):Option (List ql):=if 50000<text.length then none else match decP (qdv text) [] with
 |none=>none
 |some b=>if eErr b = .no∧encF b=text then some b else none
def decA:Option (List ql)→AV
 |none=>.tu [zo [],.ifc 37 (Iv 2)]
 |some b=>.tu [zo b,.v .nilIface]
theorem q6w (x:Option (List ql)):Pure (decA x):=by
 rcases x with _|b
 ·exact kc (qds _) (qb7 (qt _))
 ·exact kc (qds _) (qt _)
theorem qjf (text:qa):∀ (ls:List LnV) (f:Nat),(∀ p∈xu text ls f,p.length≤text.length)∧(xu text ls f).length≤ls.length+1
 | [],f=>by simp [xu]
 |l::r,f=>by
  unfold xu;split
  ·obtain⟨h1,h2⟩:=qjf text r l.at'
   refine⟨fun p hp=>?_,by simp;omega⟩;rcases List.mem_cons.1 hp with rfl|hp
   ·simp;omega
   ·exact h1 p hp
  ·obtain⟨h1,h2⟩:=qjf text r f
   exact⟨h1,by simp;omega⟩
theorem qtg {l:qa} {k n:Int} (h:begE l=some (k,n)) : -9223372036854775808≤n∧n≤9223372036854775807:=by
 have key:∀ {j:Int} {n:Int},tryB j l=some n→-9223372036854775808≤n∧n≤9223372036854775807:=fun {j n} h=>by
  unfold tryB at h;split at h
  ·split at h
   ·rename_i v hv
    cases h
    exact Lib.atoiAll_bounds hv
   ·simp at h
  ·simp at h
 unfold begE at h;split at h
 ·rename_i v hv;simp at h;rw [← h.2];exact key hv
 ·split at h
  ·rename_i v hv;simp at h;rw [← h.2];exact key hv
  ·split at h
   ·rename_i v hv;simp at h;rw [← h.2];exact key hv
   ·simp at h
theorem qo3 (text:qa):GF (qcv text).1:=by
 unfold qcv;split
 ·exact⟨by simp,by simp⟩
 ·split
  ·exact⟨by simp,by simp⟩
  ·rename_i f r hr
   exact (q5e (qj0 _) f (by rw [hr];simp)).1
theorem qx3 {k n:Int} {fs:List Fld} (h1 : -9223372036854775808≤n) (h2:n≤9223372036854775807) (hg:GF fs):EdB ⟨k,n,fs⟩:=
 ⟨fun f hf=>by have:=(hg.2 f hf).1.2.1;omega,by have:=hg.1;simp only;omega,h1,h2⟩
set_option maxHeartbeats 4000000 in
theorem zad (text:qa) (st:List AObj) (hl:text.length<1000000):qn E 118 [Sv text] st fun r st'=>r=decA (decF text)∧st'=st:=by
 refine zx [.s text] (q6w _) Tryz.func118 rfl rfl (fun _=>rfl) rfl fun S0=>?_;by_cases hbig:50000<text.length
 ·have hd:decF text=none:=if_pos hbig
  rw [hd];apply qd [];repeat' (first|apply And.intro|(intro h;try exact cDd)|exact cSd|apply qb []|refine exr ?_|refine qi ?_)
 have i8:decF text=match decP (qdv text) [] with
  |none=>none
  |some b=>if eErr b = .no∧encF b=text then some b else none:=if_neg hbig
 have fc:=(qjf text (lns text) 0).1;have hpn:=(qjf text (lns text) 0).2;have hln:=qvf _ text 0 0 (Nat.le_refl _);have hpe:xu text (lns text) 0=qdv text:=rfl;have d6:(lns text).length≤text.length:=hln;rw [hpe] at fc hpn;have o7:((qdv text).map fun x=>Sv x).length=(qdv text).length:=by simp
 have hpc:=fun st=>zem text st hl;generalize qdv text=L at i8 fc hpn o7 hpc;apply qd [];repeat' (first|apply And.intro|(intro h;try exact cDd)|exact⟨Tryz.call166⟩|refine cpe hpc ?_|exact cSd|apply qb []|refine exr ?_|refine qi ?_)
 refine w7 (X:=Nat×List ql) (fun (k,acc)=>⟨[(0,.s text),(4,.tp 0),(21,.a (Ss L)),(22,.i L.length),(23,.i k)],[(0,some (.tip 3 81 (acc.map vw)))],1⟩)
  (fun (k,acc)=>k≤L.length∧acc.length≤k∧(∀ x∈acc,EdB x)∧decP (L.drop k) acc=decP L []) (fun x=>L.length - x.1) (0,[]) ⟨by omega,by simp,by simp,rfl⟩ ?_ ?_
 ·skip
  repeat' (first|apply And.intro|(intro h;try exact cDd)|exact cSd|apply qb []|refine exr ?_|refine qi ?_)
  all_goals first|(simp;done)
 ·rintro⟨j,acc⟩ ⟨hj,hal,hB,a8⟩
  have hma:(acc.map vw).length=acc.length:=by simp
  by_cases hc:j<L.length
  ·obtain⟨p,hx⟩:∃ p,L[j]? = some p:=⟨_,List.getElem?_eq_getElem hc⟩
   have hg:(L.map fun x=>Sv x)[j]? = some (Sv p):=by simp [hx]
   have hd:L.drop j=p::L.drop (j+1):=by
    obtain⟨d9,e⟩:=List.getElem?_eq_some_iff.1 hx;rw [List.drop_eq_getElem_cons d9,e]
   have hpp:=fc p (List.mem_of_getElem? hx);have hul:=vb 10 p;have hpal:=km 10 p;have hcu:=fun st=>qhz p 10 st (by omega);have hbc:=fun st=>zdd (upto 10 p) st (by omega);have hgf:=qo3 (past 10 p);have bj:=fun st=>zas (past 10 p) st (by omega);rw [hd,decP] at a8
   cases s7:begE (upto 10 p) with
   |none=>
    rw [s7] at a8 hbc;simp only at a8;rw [← a8] at i8;simp only at i8;rw [i8];apply qd []
    repeat' (first|apply And.intro|(intro h;try exact cDd)|(refine Exists.intro (j) ⟨by omega,_,hg,?_⟩)|exact⟨Tryz.call110⟩|refine cpe hcu ?_|exact⟨Tryz.call167⟩|refine cpe hbc ?_|exact⟨Tryz.call168⟩|refine cpe bj ?_|exact cSd|apply qb []|refine exr ?_|refine qi ?_)
   |some kn=>
    obtain⟨kd,n⟩:=kn;have bz:=qtg s7;rw [s7] at a8 hbc;simp only at a8;obtain⟨fs,hfs⟩:∃ x,x=(qcv (past 10 p)).1:=⟨_,rfl⟩;rw [← hfs] at a8 bj hgf
    cases hok:(qcv (past 10 p)).2 with
    |false=>
     rw [hok] at a8 bj;rw [if_neg (by simp)] at a8;rw [← a8] at i8;simp only at i8;rw [i8];apply qd []
     repeat' (first|apply And.intro|(intro h;try exact cDd)|(refine Exists.intro (j) ⟨by omega,_,hg,?_⟩)|exact⟨Tryz.call110⟩|refine cpe hcu ?_|exact⟨Tryz.call167⟩|refine cpe hbc ?_|exact⟨Tryz.call168⟩|refine cpe bj ?_|exact cSd|apply qb []|refine exr ?_|refine qi ?_)
    |true=>
     rw [hok] at a8 bj;by_cases h40:acc.length=40
     ·rw [if_neg (by simp [h40])] at a8
      rw [← a8] at i8;simp only at i8;rw [i8];apply qd [];repeat' (first|apply And.intro|(intro h;try exact cDd)|(refine Exists.intro (j) ⟨by omega,_,hg,?_⟩)|exact⟨Tryz.call110⟩|refine cpe hcu ?_|exact⟨Tryz.call167⟩|refine cpe hbc ?_|exact⟨Tryz.call168⟩|refine cpe bj ?_|exact cSd|apply qb []|refine exr ?_|refine qi ?_)
     ·rw [if_pos ⟨rfl,h40⟩] at a8
      have fg:∀ x∈acc++[⟨kd,n,fs⟩],EdB x:=fun x hx=>by
       rcases List.mem_append.1 hx with hx|hx
       ·exact hB x hx
       ·obtain rfl:=List.mem_singleton.1 hx
        exact qx3 bz.1 bz.2 hgf
      apply qd [];repeat' (first|apply And.intro|(intro h;try exact cDd)|(refine Exists.intro (j) ⟨by omega,_,hg,?_⟩)|exact⟨Tryz.call110⟩|refine cpe hcu ?_|exact⟨Tryz.call167⟩|refine cpe hbc ?_|exact⟨Tryz.call168⟩|refine cpe bj ?_|(refine Exists.intro (j+1,acc++[⟨kd,n,fs⟩]) ⟨⟨by omega,by simp;omega,fg,a8⟩,by simp only;omega,?_⟩)|exact cSd|apply qb []|refine exr ?_|refine qi ?_)
      all_goals (simp;done)
  ·have hd:L.drop j=[]:=List.drop_eq_nil_of_le (by omega)
   rw [hd,decP] at a8;rw [← a8] at i8;simp only at i8
   cases he:eErr acc with
   |no=>
    have cj:=fun st=>qu2 acc st hB he;by_cases ht:encF acc=text
    ·rw [if_pos ⟨he,ht⟩] at i8
     rw [i8];rw [ht] at cj;apply qd [];repeat' (first|apply And.intro|(intro h;try exact cDd)|exact⟨Tryz.call60⟩|refine cpe cj ?_|exact cSd|apply qb []|refine exr ?_|refine qi ?_)
    ·rw [if_neg fun h=>ht h.2] at i8
     rw [i8];apply qd [];repeat' (first|apply And.intro|(intro h;try exact cDd)|exact⟨Tryz.call60⟩|refine cpe cj ?_|exact cSd|apply qb []|refine exr ?_|refine qi ?_)
     all_goals exact absurd ht (by assumption)
   |num n=>
    have cj:=fun st=>qi3 acc st (.num n) hB (by omega) he fun h=>by
     have:=(qi2 acc).1 (by rw [he];exact h);rw [he] at this;simp at this
    rw [if_neg fun h=>by rw [he] at h;simp at h] at i8;rw [i8];apply qd []
    repeat' (first|apply And.intro|(intro h;try exact cDd)|exact⟨Tryz.call60⟩|refine cpe cj ?_|exact cSd|apply qb []|refine exr ?_|refine qi ?_)
   |at' a n=>
    have cj:=fun st=>qi3 acc st (.at' a n) hB (by omega) he fun h=>by
     have:=(qi2 acc).1 (by rw [he];exact h);rw [he] at this;simp at this
    rw [if_neg fun h=>by rw [he] at h;simp at h] at i8;rw [i8];apply qd [];repeat' (first|apply And.intro|(intro h;try exact cDd)|exact⟨Tryz.call60⟩|refine cpe cj ?_|exact cSd|apply qb []|refine exr ?_|refine qi ?_)
theorem zdx : (Tryz.prog.fieldsOf 77).toList = [⟨ "Key", 9, 0, false, "", "", 0⟩, ⟨ "Value", 9, 1, false, "", "", 16⟩] := by kernel_rfl
theorem zdw (a b c d:ByteArray) (w:World):(Op.equalIn 10000 77 (.agg #[.string a,.string b]) (.agg #[.string c,.string d])).run Tryz.prog w = .ok (a.toList == c.toList && b.toList == d.toList) w:=by
 rw [run_equalIn_agg w 9999 77 _ _ (by kernel_rfl) (by kernel_rfl),zdx];have p1:∀ (x y:ByteArray) w,(part 9 #[.string x,.string y] 0).run Tryz.prog w = .ok (.string x) w:=fun x y w=>by kernel_rfl
 have p2:∀ (x y:ByteArray) w,(part 9 #[.string x,.string y] 1).run Tryz.prog w = .ok (.string y) w:=fun x y w=>by kernel_rfl
 have hs:∀ (x y:ByteArray) w,(Op.equalIn 9999 9 (.string x) (.string y)).run Tryz.prog w = .ok (x.toList == y.toList) w:=fun x y w=>run_equalIn_string w 9998 9 x y (by kernel_rfl);simp only [Op.eqFields,Sem.run_bind,Sem.run_ite,p1,p2,hs,Result.andThen_ok,Sem.run_pure]
 cases hac:(a.toList == c.toList) <;> cases hbd:(b.toList == d.toList) <;> simp
theorem q22 {G:Gh} {f:Fld} {v:Value} (h:Rel G (fldA f) v):v = .agg #[.string ⟨f.1.toArray⟩,.string ⟨f.2.toArray⟩]:=by
 cases h with
 |ag _ vs hl h=>
  match vs,hl with
  | ⟨[x,y]⟩,_=>
   have h1:=h 0 _ x rfl rfl;have h2:=h 1 _ y rfl rfl
   cases h1
   cases h2
   rfl
theorem zei (f g:Fld) (w:World):(binOp .neq 77 (.agg #[.string ⟨f.1.toArray⟩,.string ⟨f.2.toArray⟩]) (.agg #[.string ⟨g.1.toArray⟩,.string ⟨g.2.toArray⟩])).run Tryz.prog w = .ok (.bool (decide (f≠g))) w:=by
 rw [run_neq_struct,zdw];simp only [Result.andThen_ok,ByteArray.toList_eq];obtain⟨a,b⟩:=f;obtain⟨c,d⟩:=g;congr 2;by_cases h1:a=c <;> by_cases h2:b=d <;> simp [h1,h2]
section
variable {N : Nat} {ops : Array Oper} {K : AS → Prop} {s : AS} {rest : List Oper} {d : Option Tmp} {T : TypeId} {p : String} {af : Array Edge}
theorem q56 {x y:Operand} {t':TypeId} {f g:Fld} {b:Bool} (hx:qg N s x=fldA f) (hy:qg N s y=fldA g) (hb:decide (f≠g)=b)
  (h:AQ E N ops rest K (s.put d (Bv b))):AQ E N ops (⟨d,.binOp .neq 77 x y t',T,p,af,none⟩::rest) K s:=by
 subst hb;refine qc6 rfl nofun fun B0 w0 G a w _ hI=>⟨.bool (decide (f≠g)),_,fun w' _=>?_,.v _,h⟩;have h1:=q22 (hI.eval_of hx);have h2:=q22 (hI.eval_of hy);generalize a.eval = ρ at h1 h2;have hg:(eqGuard .neq 77 x y (.agg #[.string ⟨f.1.toArray⟩,.string ⟨f.2.toArray⟩]) (.agg #[.string ⟨g.1.toArray⟩,.string ⟨g.2.toArray⟩])).run Tryz.prog w' = .ok () w':=run_eqGuard_agg w' _ _ _ _ _ _ (by kernel_rfl);simp [execOp,h1,h2,hg,zei]
end
theorem qjl {α : Type} [DecidableEq α] {a b:List α} {k:Nat} {d : α} (hl:a.length=b.length) (hk:k<a.length) (h:a.take k=b.take k) (h2:a.getD k d=b.getD k d):a.take (k+1)=b.take (k+1):=by
 rw [List.take_succ_eq_append_getElem hk,List.take_succ_eq_append_getElem (by omega),h];congr 2
 simpa [List.getD,hk,show k<b.length by omega] using h2
theorem q67 (a b:List Fld) (st:List AObj) (ha:a.length<9223372036854775808):qn E 38 [kj a,kj b] st fun r st'=>r=Bv (decide (a=b))∧st'=st:=by
 refine zb (qt _) (qr Tryz.func38 rfl (Nat.le_of_ble_eq_true rfl) ?_);have hma:(a.map fldA).length=a.length:=by simp
 have hmb:(b.map fldA).length=b.length:=by simp
 by_cases hl:a.length=b.length
 ·skip
  repeat' (first|apply qm|apply q9|apply qe|apply qf|apply qj|apply qh|(apply qy;(iterate 3 exact rfl))|(apply qc;exact rfl;apply xh;exact cAo)|(apply jl;(iterate 4 exact rfl))|apply qx)
  refine v4 (fun (k:Nat) s=>k≤a.length∧a.take k=b.take k∧StE [(0,kj a),(1,kj b),(12,Iv a.length),(13,Iv k)] st [] s) (fun k=>a.length - k) 0 ⟨by omega,by simp,qhs ⟨rfl,rfl,congrArg (fun n:Nat=>Iv (n:Int)) hma,rfl,trivial⟩ rfl⟩ ?_;rintro k _ ⟨hk,ht,t,ext,rfl⟩;by_cases hc:k<a.length
  ·by_cases he:a.getD k ([],[])=b.getD k ([],[])
   ·have hn:decide (a.getD k ([],[])≠b.getD k ([],[]))=false:=decide_eq_false fun h=>h he
    repeat' (first|apply qm|apply q9|apply qe|apply qf|apply qj|apply qh|(apply qy;(iterate 3 exact rfl))|(apply qc;exact rfl;apply wg;exact cAo)|(apply qc;exact rfl;apply cd_f;exact cRa)|(apply z7;exact rfl;exact rfl;exact zn (by omega) (by omega))|(apply qkq;exact rfl;kernel_rfl)|apply qj5|(apply qg1;(iterate 3 exact rfl))|apply qhn|apply qx|(apply qcr (n:=k);(iterate 5 exact rfl);exact qk4 (xs:=a) (by omega))|(apply qcr (n:=k);(iterate 5 exact rfl);exact qk4 (xs:=b) (by omega))|(apply q56;exact rfl;exact rfl;exact hn))
    exact⟨k+1,⟨by omega,qjl hl hc ht he,qe8 ⟨rfl,rfl,rfl,rfl,trivial⟩ rfl⟩,by omega⟩
   ·have hn:decide (a.getD k ([],[])≠b.getD k ([],[]))=true:=decide_eq_true he
    have hab:¬ a=b:=fun e=>he (by rw [e]);repeat' (first|apply qm|apply q9|apply qe|apply qf|apply qj|apply qh|(apply qy;(iterate 3 exact rfl))|(apply qc;exact rfl;apply wg;exact cAo)|(apply qc;exact rfl;apply cd_t;exact cRa)|(apply qkq;exact rfl;kernel_rfl)|apply qj5|(apply qg1;(iterate 3 exact rfl))|apply qhn|apply qx|apply qu|(apply qcr (n:=k);(iterate 5 exact rfl);exact qk4 (xs:=a) (by omega))|(apply qcr (n:=k);(iterate 5 exact rfl);exact qk4 (xs:=b) (by omega))|(apply q56;exact rfl;exact rfl;exact hn))
    exact qo rfl (zi rfl) ⟨congrArg Bv (decide_eq_false hab).symm,qcg _ _ _ _⟩
  ·have hab:a=b:=by
    have e:k=a.length:=by omega
    rw [e,List.take_length,List.take_of_length_le (by omega)] at ht;exact ht
   repeat' (first|apply qm|apply qe|apply qf|apply qh|(apply qy;(iterate 3 exact rfl))|(apply qc;exact rfl;apply xh;exact cAo)|apply vc|apply qu)
   exact qo rfl (zi rfl) ⟨congrArg Bv (decide_eq_true hab).symm,qcg _ _ _ _⟩
 ·have hab:¬ a=b:=fun e=>hl (by rw [e])
  repeat' (first|apply qm|apply qe|apply qf|apply qj|apply qh|(apply qy;(iterate 3 exact rfl))|(apply qc;exact rfl;apply wg;exact cAo)|(apply jl;(iterate 4 exact rfl))|apply qu)
  exact qo rfl (zi rfl) ⟨congrArg Bv (decide_eq_false hab).symm,_,rfl⟩
end Go.Proofs.YtihlchbgjdkmpaaGreatDoor
namespace Go.Pl
open Go Go.Proofs Go.Proofs.YtihlchbgjdkmpaaGreatDoor
theorem wv (s:qa) (r:List qa):zg (s::r)=s++10::zg r:=by simp [zg]
theorem qc1:∀ (ls:List qa),(∀ s∈ls,10∉s)→zl (zg ls)=ls.map fun s=>(s,true)
 | [],_=>by simp [zg,vi]
 |s::r,h=>by
  have hs:=h s (by simp);rw [wv,v8 (by simp),xj _ hs,yi _ hs,qc1 r fun x hx=>h x (by simp [hx])];simp
theorem q1h {f:Fld} (h:j6 f):∀ s∈jm f,10∉s:=fun s hs=>by
 unfold jm at hs;rcases List.mem_cons.1 hs with rfl|hs
 ·have h1:=qe5 f.2 _ (qp5 f.2)
  have h2:=h.1.2.2.2.2.2;unfold vl;split <;> simp_all
 ·obtain⟨x,hx,rfl⟩:=List.mem_map.1 hs
  have h1:=qe5 f.2 x (List.mem_of_mem_tail hx);have:=qs3 h1;simp [this]
theorem qnf {f:Fld} (h:j6 f):∃ hd mr,jm f=hd::mr∧qs hd=4∧∀ s∈mr,qs s=3:=by
 refine⟨_,_,rfl,qu9 h.1 (qe5 f.2 _ (qp5 f.2)),fun s hs=>?_⟩;obtain⟨x,hx,rfl⟩:=List.mem_map.1 hs;exact qva x (qe5 f.2 x (List.mem_of_mem_tail hx))
theorem q89 {p:PSt} {k:Int} {t:qa} (ht:qs t=3) (hl:p.lines≠[]):we p k t true=(none,{ p with lines:=p.lines++[t],block:=p.block++[t] }):=by
 have ha:je p k t true (qs t)=(none,{ p with lines:=p.lines++[t] }):=by
  unfold je;rw [if_pos ht,if_neg hl,if_pos rfl]
 unfold we;rw [ha,ht];simp
theorem qv1 {p q:PSt} {k:Int} {t:qa} (ht:qs t=4) (hf:jj p=(none,q)):we p k t true=(none,{ ki q k t with block:=q.block++[t] }):=by
 have ha:je p k t true (qs t)=(none,q):=by
  unfold je;rw [if_neg (by omega),if_neg (by omega)];exact hf
 unfold we;rw [ha,ht];simp
theorem qqm:∀ (m:List qa) (k:Nat) (p:PSt) (ls:List (qa×Bool)),(∀ s∈m,qs s=3)→p.lines≠[] →
  runL k (m.map (fun s=>(s,true))++ls) p=runL (k+m.length) ls { p with lines:=p.lines++m,block:=p.block++m }
 | [],k,p,ls,_,_=>by simp
 |s::m,k,p,ls,h,hl=>by
  have hs:=h s (by simp);rw [List.map_cons,List.cons_append,runL,q89 hs hl];simp only;rw [qqm m (k+1) _ ls (fun x hx=>h x (by simp [hx])) (by simp)];simp only [List.append_assoc,List.cons_append,List.nil_append,List.length_cons];congr 1;omega
theorem qr4 {g:Fld} (hg:j6 g) (frm:Int) (its:List za) (blk:List qa) (done:List Fld) (rc:Int):jj ⟨jm g,frm,false,its,blk,done,rc⟩=(none,⟨[],frm,false,its,blk,done++[g],rc⟩):=by
 have hu:=qwk hg;unfold jj;rw [if_neg (by simp [jm]),hu];simp
theorem qz1:∀ (r:List Fld) (done:List Fld) (g:Fld) (k:Nat) (frm:Int) (blk:List qa),j6 g→(∀ f∈r,j6 f)→done.length+1+r.length≤40→blk≠[] →
  (runL k ((r.flatMap jm).map fun s=>(s,true)) ⟨jm g,frm,false,[],blk,done,0⟩).1=none∧(runL k ((r.flatMap jm).map fun s=>(s,true)) ⟨jm g,frm,false,[],blk,done,0⟩).2.items=[⟨3,zg (blk++r.flatMap jm),done++g::r⟩]
 | [],done,g,k,frm,blk,hg,_,_,hb=>by
  have he:endP ⟨jm g,frm,false,[],blk,done,0⟩=(none,xn ⟨[],frm,false,[],blk,done++[g],0⟩):=by
   unfold endP;rw [qr4 hg]
  simp only [List.flatMap_nil,List.map_nil,runL,he,List.append_nil];refine⟨trivial,?_⟩;unfold xn;rw [if_neg hb]
  simp
 |f::r,done,g,k,frm,blk,hg,hr,hl,hb=>by
  have hf:=hr f (by simp);obtain⟨hd,mr,hlf,hk4,pf⟩:=qnf hf;simp only [List.length_cons] at hl
  have a8:runL k (((f::r).flatMap jm).map fun s=>(s,true)) ⟨jm g,frm,false,[],blk,done,0⟩=runL (k+1+mr.length) ((r.flatMap jm).map fun s=>(s,true)) ⟨jm f,k,false,[],blk++jm f,done++[g],0⟩:=by
   rw [List.flatMap_cons,List.map_append,hlf,List.map_cons,List.cons_append,runL,qv1 hk4 (qr4 hg frm [] blk done 0)];simp only;rw [qqm mr (k+1) _ _ pf (by simp [ki])]
   have hfu:decide ((done++[g]).length=40∨((done++[g]).length=0∧(0:Int)=400))=false:=by
    simp;omega
   simp only [ki,hfu,List.append_assoc,List.cons_append,List.nil_append]
  rw [a8];have ih:=qz1 r (done++[g]) f (k+1+mr.length) k (blk++jm f) hf (fun x hx=>hr x (by simp [hx])) (by simp;omega) (by simp [hb]);rw [ih.1,ih.2];simp [List.flatMap_cons]
theorem qha (fs:List Fld):ke fs=zg (fs.flatMap jm):=by
 induction fs with
 |nil=>rfl
 |cons f r ih=>
  rw [List.flatMap_cons,qa2,← ih];simp [ke]
theorem qi6 {fs:List Fld} (h:∀ f∈fs,j6 f):∀ s∈fs.flatMap jm,10∉s:=fun s hs=>by
 obtain⟨f,hf,hs⟩:=List.mem_flatMap.1 hs;exact q1h (h f hf) s hs
theorem qsn {fs:List Fld} (hg:GF fs) (b9:fs≠[]):jk (ke fs)=(none,[⟨3,ke fs,fs⟩]):=by
 have hl:=qc1 _ (qi6 hg.2);rw [← qha] at hl
 cases fs with
 |nil=>exact absurd rfl b9
 |cons f r=>
  have hf:=hg.2 f (by simp);obtain⟨hd,mr,hlf,hk4,pf⟩:=qnf hf;have d5:=hg.1;simp only [List.length_cons] at d5
  have a8:runL 0 (((f::r).flatMap jm).map fun s=>(s,true)) p0=runL (0+1+mr.length) ((r.flatMap jm).map fun s=>(s,true)) ⟨jm f,(0:Nat),false,[],jm f,[],0⟩:=by
   have p7:jj p0=(none,p0):=rfl;rw [List.flatMap_cons,List.map_append,hlf,List.map_cons,List.cons_append,runL,qv1 hk4 p7];simp only;rw [qqm mr (0+1) _ _ pf (by simp [ki])];simp [ki,p0]
  have ih:=qz1 r [] f (0+1+mr.length) (0:Nat) (jm f) hf (fun x hx=>hg.2 x (by simp [hx])) (by simp;omega) (by simp [jm]);unfold jk;rw [hl,a8,ih.1];simp only;rw [ih.2];rw [qha,List.flatMap_cons,List.nil_append]
theorem q8c:jk []=(none,[]):=by
 unfold jk;rw [vi];rfl
theorem qpa {ls:List qa} (h:∀ s∈ls,10∉s):qab [32,32] (zg ls)=zg (ls.map fun s=>[32,32]++s):=by
 unfold qab indF;rw [qc1 ls h];simp only [zg,List.flatMap_map,x5,if_pos]
theorem qyo {ls:List qa} (h:∀ s∈ls,10∉s):∀ s∈ls.map (fun s=>[32,32]++s),10∉s:=fun s hs=>by
 obtain⟨x,hx,rfl⟩:=List.mem_map.1 hs;have:=h x hx;simp [this]
theorem qwg {ls:List qa} (h:∀ s∈ls,10∉s):vd [32,32] (qab [32,32] (zg ls))=(zg ls,true):=by
 rw [qpa h];unfold vd;rw [qc1 _ (qyo h),if_pos]
 ·simp [zg,List.flatMap_map,x5]
 ·intro x hx
  obtain⟨s,hs,rfl⟩:=List.mem_map.1 hx;obtain⟨y,_,rfl⟩:=List.mem_map.1 hs;exact List.prefix_append _ _
theorem qwi {fs:List Fld} (hl:fs.length≤40) (hg:∀ f∈fs,j6 f):qcv (qab [32,32] (ke fs))=(fs,true):=by
 have hd:vd [32,32] (qab [32,32] (ke fs))=(ke fs,true):=by
  rw [qha];exact qwg (qi6 hg)
 unfold qcv;rw [hd];simp only;by_cases h0:fs=[]
 ·subst h0
  have hp:jk (ke [])=(none,[]):=q8c;rw [hp];simp [recsF,ke]
 ·rw [qsn ⟨hl,hg⟩ h0]
  simp [recsF]
theorem q4t {j k:Int} {s:qa} (hj:j=1∨j=2∨j=3) (hk:k=1∨k=2∨k=3) (b9:j≠k):¬ qay j <+: qay k++s:=by
 rintro⟨t,ht⟩;have h2:=congrArg (List.take 2) ht;rcases hj with rfl|rfl|rfl <;> rcases hk with rfl|rfl|rfl <;> first|exact absurd rfl b9|(revert h2;simp [qay])
theorem q6i {x:ql} (hk:x.kind=1∨x.kind=2∨x.kind=3) (h1 : -9223372036854775808≤x.id) (h2:x.id≤9223372036854775807):begE (vq x)=some (x.kind,x.id):=by
 have hl:vq x=qay x.kind++Lib.itoa x.id:=by
  unfold vq;rw [if_pos (by omega)]
 have o9:tryB x.kind (vq x)=some x.id:=by
  unfold tryB;rw [hl,if_pos (List.prefix_append _ _),List.drop_left,qkp h1 h2]
 have p9:∀ j:Int,(j=1∨j=2∨j=3)→j≠x.kind→tryB j (vq x)=none:=fun j hj b9=>by
  unfold tryB;rw [hl,if_neg (q4t hj hk b9)]
 unfold begE;rcases hk with h|h|h
 ·rw [h] at o9 p9 ⊢
  rw [o9]
 ·rw [h] at o9 p9 ⊢
  rw [p9 1 (by simp) (by decide),o9]
 ·rw [h] at o9 p9 ⊢
  rw [p9 1 (by simp) (by decide),p9 2 (by simp) (by decide),o9]
def qbz (x:ql):List qa:=(x.fields.flatMap jm).map fun s=>[32,32]++s
theorem qpc (v:Int):∀ c∈Lib.itoa v,c≠10∧c≠32:=fun c hc=>by
 by_cases hv:v<0
 ·rw [qib hv] at hc
  rcases List.mem_cons.1 hc with rfl|hc
  ·decide
  ·have:=xa _ _ (Nat.le_refl _) c hc
   constructor <;> rintro rfl <;> simp at this
 ·rw [qic (by omega)] at hc
  have:=xa _ _ (Nat.le_refl _) c hc;constructor <;> rintro rfl <;> simp at this
theorem qc0 (x:ql):10∉vq x:=by
 unfold vq;split
 ·rename_i hk
  have h1:=qpc x.id;intro hc;rcases List.mem_append.1 hc with hc|hc
  ·have:x.kind=1∨x.kind=2∨x.kind=3:=by omega
   rcases this with h|h|h <;> rw [h] at hc <;> revert hc <;> decide
  ·exact (h1 10 hc).1 rfl
 ·simp
theorem q1e {x:ql} (hk:x.kind=1∨x.kind=2∨x.kind=3):¬ [32,32] <+: vq x:=by
 unfold vq;rw [if_pos (by omega)];rintro⟨t,ht⟩;have h2:=congrArg (List.take 2) ht;rcases hk with h|h|h <;> rw [h] at h2 <;> revert h2 <;> simp [qay]
theorem qfw {x:ql} (hg:∀ f∈x.fields,j6 f):jw x=zg (vq x::qbz x):=by
 unfold jw qbz;rw [wv,qha,qpa (qi6 hg)];simp
theorem q6n {x:ql} (hg:∀ f∈x.fields,j6 f):∀ s∈qbz x,10∉s:=qyo (qi6 hg)
theorem qe4 (text:qa):∀ (m:List qa) (k a f:Nat) (R:qa),(∀ s∈m,10∉s∧[32,32] <+: s)→∃ k',xu text (xq k a (zg m++R)) f=xu text (xq k' (a+(zg m).length) R) f
 | [],k,a,f,R,_=>⟨k,by simp [zg]⟩
 |s::m,k,a,f,R,h=>by
  obtain⟨i3,hp⟩:=h s (by simp);have e:zg (s::m)++R=s++10::(zg m++R):=by rw [wv];simp
  obtain⟨k',ih⟩:=qe4 text m (k+1) (a+s.length+1) f R fun x hx=>h x (by simp [hx]);refine⟨k',?_⟩;rw [e,qie (by simp),xj _ i3,yi _ i3,xu,if_neg (fun h=>h.2 hp),ih,wv];congr 2;simp;omega
theorem qmt {x:ql} (hg:∀ f∈x.fields,j6 f):∀ s∈qbz x,10∉s∧[32,32] <+: s:=fun s hs=>⟨q6n hg s hs,by
 obtain⟨y,_,rfl⟩:=List.mem_map.1 hs
 exact List.prefix_append _ _⟩
structure EncG (x:ql):Prop where
 kind:x.kind=1∨x.kind=2∨x.kind=3
 len:x.fields.length≤40
 good:∀ f∈x.fields,j6 f
 id1 : -9223372036854775808≤x.id
 id2:x.id≤9223372036854775807
theorem qsp:∀ (r:List ql) (D:qa) (x:ql) (k:Nat),EncG x→(∀ y∈r,EncG y) →
  xu (D++(jw x++encF r)) (xq k (D.length+((vq x).length+1)) (zg (qbz x)++encF r)) D.length=jw x::r.map jw
 | [],D,x,k,hx,_=>by
  obtain⟨k',h⟩:=qe4 (D++(jw x++encF [])) (qbz x) k (D.length+((vq x).length+1)) D.length (encF []) (qmt hx.good);rw [h];have e:encF []=[]:=rfl;rw [e,qkf,xu]
  simp
 |y::r,D,x,k,hx,hr=>by
  have hy:=hr y (by simp);obtain⟨k',h⟩:=qe4 (D++(jw x++encF (y::r))) (qbz x) k (D.length+((vq x).length+1)) D.length (encF (y::r)) (qmt hx.good);rw [h]
  have e:encF (y::r)=vq y++10::(zg (qbz y)++encF r):=by
   have:encF (y::r)=jw y++encF r:=by simp [encF]
   rw [this,qfw hy.good,wv];simp
  have hlx:(jw x).length=(vq x).length+1+(zg (qbz x)).length:=by
   rw [qfw hx.good,wv];simp;omega
  have e2:encF (y::r)=jw y++encF r:=by simp [encF]
  have pn:D.length+((vq x).length+1)+(zg (qbz x)).length=(D++jw x).length:=by
   rw [List.length_append,hlx];omega
  rw [pn]
  have hc:xq k' (D++jw x).length (encF (y::r))=⟨k',(D++jw x).length,vq y,true⟩::xq (k'+1) ((D++jw x).length+(vq y).length+1) (zg (qbz y)++encF r):=by
   rw [e,qie (by simp),xj _ (qc0 y),yi _ (qc0 y)];simp
  have d9:D.length<(D++jw x).length:=by rw [List.length_append,hlx];omega
  rw [hc,xu,if_pos ⟨d9,q1e hy.kind⟩];have ih:=qsp r (D++jw x) y (k'+1) hy fun z hz=>hr z (by simp [hz]);have et:D++(jw x++encF (y::r))=(D++jw x)++(jw y++encF r):=by rw [e2];simp
  rw [et]
  have ed:((D++jw x++(jw y++encF r)).take (D++jw x).length).drop D.length=jw x:=by
   rw [List.take_left,List.drop_left]
  rw [ed,List.map_cons];simp only;rw [show (D++jw x).length+(vq y).length+1=(D++jw x).length+((vq y).length+1) by omega,ih]
theorem q8d {x:ql} {r:List ql} (hx:EncG x) (hr:∀ y∈r,EncG y):qdv (encF (x::r))=(x::r).map jw:=by
 have e2:encF (x::r)=jw x++encF r:=by simp [encF]
 have e:encF (x::r)=vq x++10::(zg (qbz x)++encF r):=by
  rw [e2,qfw hx.good,wv];simp
 have h:=qsp r [] x 1 hx hr;simp only [List.nil_append,List.length_nil,Nat.zero_add] at h
 have hc:lns (encF (x::r))=⟨0,0,vq x,true⟩::xq 1 ((vq x).length+1) (zg (qbz x)++encF r):=by
  unfold lns;rw [e,qie (by simp),xj _ (qc0 x),yi _ (qc0 x)];simp
 unfold qdv;rw [hc,xu,if_neg (by simp),e2,h];rfl
theorem qxy:∀ (r acc:List ql),(∀ y∈r,EncG y)→acc.length+r.length≤40→decP (r.map jw) acc=some (acc++r)
 | [],acc,_,_=>by simp [decP]
 |x::r,acc,h,hl=>by
  have hx:=h x (by simp);simp only [List.length_cons] at hl
  have hu:upto 10 (jw x)=vq x:=by
   unfold jw;rw [List.append_assoc];exact xj _ (qc0 x)
  have hp:past 10 (jw x)=qab [32,32] (ke x.fields):=by
   unfold jw;rw [List.append_assoc];exact yi _ (qc0 x)
  have p7:=qwi hx.len hx.good;rw [List.map_cons,decP,hu,q6i hx.kind hx.id1 hx.id2];simp only [hp,p7];rw [if_pos ⟨trivial,by omega⟩];have ih:=qxy r (acc++[⟨x.kind,x.id,x.fields⟩]) (fun y hy=>h y (by simp [hy])) (by simp;omega);rw [ih];simp
theorem q2e {x:ql} (h:gErr x = .no) (hB:EdB x):EncG x:=by
 obtain⟨h1,h2⟩:=qho h;refine⟨?_,h1,h2,hB.id1,hB.id2⟩;unfold gErr at h;split at h
 ·exact .inr (.inl (by assumption))
 ·split at h
  ·rename_i hk;omega
  ·simp at h
theorem zdk {b:List ql} (he:eErr b = .no) (hB:∀ x∈b,EdB x) (hl:(encF b).length≤50000):decF (encF b)=some b:=by
 obtain⟨h1,h40,hg⟩:=qc8 he;have hG:∀ y∈b,EncG y:=fun y hy=>q2e (hg y hy) (hB y hy);unfold decF;rw [if_neg (by omega)]
 cases b with
 |nil=>simp at h1
 |cons x r=>
  rw [q8d (hG x (by simp)) (fun y hy=>hG y (by simp [hy])),qxy (x::r) [] hG (by simp at h40 ⊢;omega)];simp only [List.nil_append];rw [if_pos ⟨he,trivial⟩]
theorem zac {text:qa} {b:List ql} (h:decF text=some b):eErr b = .no∧encF b=text∧text.length≤50000:=by
 unfold decF at h;split at h
 ·simp at h
 ·split at h
  ·simp at h
  ·split at h
   ·rename_i hc
    cases h
    exact⟨hc.1,hc.2,by omega⟩
   ·simp at h
def SpL (L:List qa):Prop:=L≠[]∧∀ s∈L,10∉s∧[32] <+: s
def encL (b:List ql):List qa:=b.flatMap fun x=>vq x::qbz x
theorem q62 {b:List ql} (hg:∀ x∈b,EncG x):encF b=zg (encL b):=by
 induction b with
 |nil=>rfl
 |cons x r ih=>
  have e:encL (x::r)=(vq x::qbz x)++encL r:=by simp [encL]
  have e2:encF (x::r)=jw x++encF r:=by simp [encF]
  rw [e,qa2,e2,qfw (hg x (by simp)).good,ih fun y hy=>hg y (by simp [hy])]
theorem zd8 {x:ql} (hk:x.kind=1∨x.kind=2∨x.kind=3):[32] <+: vq x:=by
 unfold vq;rw [if_pos (by omega)];rcases hk with h|h|h <;> rw [h] <;> exact⟨_,rfl⟩
theorem zdu {b:List ql} (b9:b≠[]) (hg:∀ x∈b,EncG x):SpL (encL b):=by
 refine⟨?_,fun s hs=>?_⟩
 ·cases b with
  |nil=>exact absurd rfl b9
  |cons x r=>simp [encL]
 ·obtain⟨x,hx,hs⟩:=List.mem_flatMap.1 hs
  have hG:=hg x hx;rcases List.mem_cons.1 hs with rfl|hs
  ·exact⟨qc0 x,zd8 hG.kind⟩
  ·obtain⟨h1,t,ht⟩:=qmt hG.good s hs
   exact⟨h1,[32]++t,by rw [← ht];rfl⟩
theorem ze0 {L:List qa} (h:SpL L):sp true (zg L)=true:=by
 rw [← qlc _ (zg L) (Nat.le_refl _),qc1 L fun s hs=>(h.2 s hs).1];intro x hx;obtain⟨s,hs,rfl⟩:=List.mem_map.1 hx;exact (h.2 s hs).2
theorem q9b {L:List qa} (h:SpL L):(zg L)[0]? = some 32:=by
 obtain⟨b9,hs⟩:=h
 cases L with
 |nil=>exact absurd rfl b9
 |cons s r=>
  obtain⟨t,ht⟩:=(hs s (by simp)).2;rw [wv,← ht];rfl
theorem qv2:∀ (L:List qa),L≠[]→(zg L).getLast? = some 10
 | [],h=>absurd rfl h
 | [s],_=>by rw [wv];simp [zg]
 |s::t::r,_=>by
  have ih:=qv2 (t::r) (by simp);have b9:zg (t::r)≠[]:=fun e=>by rw [e] at ih;simp at ih
  rw [wv,List.getLast?_append,List.getLast?_cons,ih];simp
theorem q63 {b:List ql} (he:eErr b = .no) (hB:∀ x∈b,EdB x) (hl:(encF b).length≤50000):yv (encF b):=by
 obtain⟨h1,h40,hg⟩:=qc8 he;have hG:∀ y∈b,EncG y:=fun y hy=>q2e (hg y hy) (hB y hy);have b9:b≠[]:=fun e=>by subst e;simp at h1
 have hS:=zdu b9 hG;have ht:=q62 hG;have hh:=q9b hS;have o0:=qv2 _ hS.1;rw [← ht] at hh o0;have gp:=ze0 hS;rw [← ht] at gp;refine⟨?_,hl,o0,by rw [qi1];exact gp⟩;rcases hc:encF b with _ | ⟨c,_ | ⟨d,r⟩⟩
 ·rw [hc] at hh;simp at hh
 ·rw [hc] at hh o0
  simp at hh o0;rw [hh] at o0;simp at o0
 ·simp
end Go.Pl
namespace Go.Proofs.YtihlchbgjdkmpaaGreatDoor
open Go Go.Av Go.RowKit Go.Proofs Go.Pl
theorem q6x:∀ (ps:List qa) (acc b:List ql),(∀ x∈acc,EdB x)→decP ps acc=some b→∀ x∈b,EdB x
 | [],acc,b,h,e=>by
  rw [decP] at e
  cases e
  exact h
 |p::r,acc,b,h,e=>by
  rw [decP] at e;split at e
  ·simp at e
  ·rename_i k n hb
   split at e
   ·refine q6x r _ b (fun x hx=>?_) e
    rcases List.mem_append.1 hx with hx|hx
    ·exact h x hx
    ·obtain rfl:=List.mem_singleton.1 hx
     exact qx3 (qtg hb).1 (qtg hb).2 (qo3 _)
   ·simp at e
theorem zfn {text:qa} {b:List ql} (h:decF text=some b):∀ x∈b,EdB x:=by
 unfold decF at h;split at h
 ·simp at h
 ·split at h
  ·simp at h
  ·rename_i c hc
   split at h
   ·cases h
    exact q6x _ _ _ (by simp) hc
   ·simp at h
end Go.Proofs.YtihlchbgjdkmpaaGreatDoor
namespace Go.Pl
open Go Go.Proofs Go.Proofs.YtihlchbgjdkmpaaGreatDoor
def OutG (out:List ql) (m:Nat):Prop:=∀ x∈out,(∀ f∈x.fields,j6 f)∧x.fields.length≤m∧-9223372036854775808≤x.id∧x.id≤9223372036854775807
theorem OutG.mono {out:List ql} {m m':Nat} (h:OutG out m) (hm:m≤m'):OutG out m':=fun x hx=>⟨(h x hx).1,by have:=(h x hx).2.1;omega,(h x hx).2.2⟩
end Go.Pl
namespace Go.Pl
open Go Go.Proofs
def vj:List (qa×Bool)→List qa
 | []=>[]
 |(t,_)::r=>if qs t=3 then t::vj r else []
def jz (prev:Bool) (t:qa) (e:Bool) (r:List (qa×Bool)) (fields:Nat) (records:Int):Int:=
 if qs t=5∨(qs t=3∧prev=false)∨e=false then 2
 else if qs t≠4 then 0
 else if (jr (t::vj r)).2≠0 then (jr (t::vj r)).2
 else if 40≤fields∨(fields=0∧400≤records) then 11 else 0
theorem q04 {α : Type} {l:List α} {x : α} (h:l.getLast? = some x):l.dropLast++[x]=l:=by
 have b9:l≠[]:=fun e=>by subst e;simp at h
 rw [List.getLast?_eq_some_getLast b9] at h;obtain rfl:=Option.some.inj h;exact List.dropLast_concat_getLast b9
def outR (now:za) (out:List za):List za:=if now.raw=[] then out else out++[now]
def refL:Nat→List (qa×Bool)→Bool→za→Int→List za→Option (Int×Int)×List za
 | _,[],_,now,_,out=>(none,outR now out)
 |i,(t,e)::r,prev,now,rec,out=>
  if jz prev t e r now.fields.length rec≠0 then (some ((i:Int),jz prev t e r now.fields.length rec),[])
  else if qs t=1 then refL (i+1) r false ⟨2,[],[]⟩ rec (outR now out++[⟨1,t++[10],[]⟩])
  else if qs t=4 then refL (i+1) r true ⟨3,now.raw++t++[10],now.fields++[(jr (t::vj r)).1]⟩ (if now.kind=2 then rec+1 else rec) out
  else refL (i+1) r (decide (qs t=3)) ⟨now.kind,now.raw++t++[10],now.fields⟩ rec out
def qwp:List (qa×Bool)→Prop
 | []=>True
 |(_,e)::r=>(e=false→r=[])∧qwp r
theorem qpd:∀ (n:Nat) (l:qa),l.length≤n→qwp (zl l)
 | 0,l,h=>by
  have:l=[]:=List.length_eq_zero_iff.1 (by omega);subst this;rw [vi]
  trivial
 |n+1,l,h=>by
  by_cases hl:l=[]
  ·subst hl
   rw [vi];trivial
  ·rw [v8 hl]
   refine⟨fun he=>?_,qpd n _ (by have:=x6 (c:=10) hl;omega)⟩;have i3:10∉l:=by simpa using he
   have:past 10 l=[]:=by
    unfold past;rw [qd7 i3];exact List.drop_eq_nil_of_le (by omega)
   rw [this,vi]
def qdt (ls:List qa) (full:Bool):Int:=if (jr ls).2≠0 then (jr ls).2 else if full=true then 11 else 0
theorem qg9 {p:PSt} (h:p.lines≠[]) (hc:qdt p.lines p.full≠0):(jj p).1=some (p.frm,qdt p.lines p.full):=by
 unfold qdt at *;unfold jj;rw [if_neg h];by_cases h1:(jr p.lines).2≠0
 ·rw [if_pos h1,if_pos h1]
 ·rw [if_neg h1] at hc ⊢
  rw [if_neg h1];by_cases h2:p.full=true
  ·rw [if_pos h2,if_pos h2]
  ·rw [if_neg h2] at hc
   exact absurd rfl hc
theorem qu4 {p:PSt} (h:p.lines=[]∨qdt p.lines p.full=0):jj p=(none,{ p with lines:=[],fields:=p.fields++(if p.lines=[] then [] else [(jr p.lines).1]) }):=by
 unfold jj;by_cases h0:p.lines=[]
 ·rw [if_pos h0,if_pos h0]
  obtain⟨a,b,c,d,e,f,g⟩:=p;simp only at h0;subst h0;simp
 ·rw [if_neg h0,if_neg h0]
  have h:=h.resolve_left h0;unfold qdt at h;by_cases h1:(jr p.lines).2≠0
  ·rw [if_pos h1] at h
   exact absurd h h1
  ·rw [if_neg h1] at h ⊢
   by_cases h2:p.full=true
   ·rw [if_pos h2] at h
    simp at h
   ·rw [if_neg h2]
theorem qqr {p:PSt} {no:Int} {t:qa} {e:Bool} {x:Int×Int} (h:(je p no t e (qs t)).1=some x):(we p no t e).1=some x:=by
 unfold we;rw [h]
theorem qqs {p q:PSt} {no:Int} {t:qa} {e:Bool} (h:je p no t e (qs t)=(none,q)) (hc:qs t=5∨e=false):(we p no t e).1=some (no,2):=by
 unfold we;rw [h];simp only;rw [if_pos hc]
theorem qkm {p q:PSt} {no:Int} {t:qa} (h:je p no t true (qs t)=(none,q)) (hc:qs t≠5):we p no t true =
  if qs t=1 then (none,{ q with items:=q.items++[⟨1,t++[10],[]⟩] }) else if qs t=4 then (none,{ ki q no t with block:=q.block++[t] }) else (none,{ q with block:=q.block++[t] }):=by
 unfold we;rw [h];simp only;rw [if_neg (by simp [hc])]
theorem qem {k:Nat} {t:qa} {e:Bool} {r:List (qa×Bool)} {p:PSt} {x:Int×Int} (h:(we p k t e).1=some x):(runL k ((t,e)::r) p).1=some x:=by
 rw [runL,h]
theorem qgk {k:Nat} {t:qa} {e:Bool} {r:List (qa×Bool)} {p q:PSt} (h:we p k t e=(none,q)):runL k ((t,e)::r) p=runL (k+1) r q:=by
 rw [runL,h]
theorem qq6 {p:PSt} {no:Int} {t:qa} (hk:qs t=3) (hl:p.lines≠[]):je p no t true (qs t)=(none,{ p with lines:=p.lines++[t] }):=by
 unfold je;rw [if_pos hk,if_neg hl,if_pos rfl]
theorem qq5 {p:PSt} {no:Int} {t:qa} (hk:qs t=3) (hl:p.lines≠[]):je p no t false (qs t)=jj { p with lines:=p.lines++[t] }:=by
 unfold je;rw [if_pos hk,if_neg hl,if_neg (by simp)]
theorem qft {p:PSt} {no:Int} {t:qa} {e:Bool} (hk:qs t≠3) (h1:qs t≠1):je p no t e (qs t)=jj p:=by
 unfold je;rw [if_neg hk,if_neg h1]
theorem qjn {p:PSt} {no:Int} {t:qa} {e:Bool} (h1:qs t=1):je p no t e (qs t)=endP p:=by
 unfold je;rw [if_neg (by omega),if_pos h1]
theorem qsh {t:qa} {e:Bool} {r:List (qa×Bool)} (h:qs t≠3):vj ((t,e)::r)=[]:=by
 rw [vj,if_neg h]
theorem qjz {t:qa} {e:Bool} {r:List (qa×Bool)} (h:qs t=3):vj ((t,e)::r)=t::vj r:=by
 rw [vj,if_pos h]
theorem qx5 {p:PSt} {x:Int×Int} (h:(jj p).1=some x):(endP p).1=some x:=by
 unfold endP;rw [h]
theorem qtl {p q:PSt} (h:jj p=(none,q)):endP p=(none,xn q):=by
 unfold endP;rw [h]
theorem qzn:∀ (r:List (qa×Bool)) (p:PSt) (k:Nat) (c:Int),qwp r→p.lines≠[]→qdt (p.lines++vj r) p.full=c→c≠0→(runL k r p).1=some (p.frm,c)
 | [],p,k,c,_,hl,hc,h0=>by
  rw [vj,List.append_nil] at hc;rw [runL];subst hc
  exact qx5 (qg9 hl h0)
 |(t,e)::r,p,k,c,hE,hl,hc,h0=>by
  by_cases h3:qs t=3
  ·rw [qjz h3] at hc
   cases e with
   |true=>
    have ht:=qkm (qq6 (no:=k) h3 hl) (by omega);rw [if_neg (by omega),if_neg (by omega)] at ht;rw [qgk ht]
    exact qzn r _ (k+1) c hE.2 (by simp) (by simpa using hc) h0
   |false=>
    have hr:=hE.1 rfl;subst hr;refine qem (qqr ?_);rw [qq5 h3 hl];have mz:qdt (p.lines++[t]) p.full=c:=hc;have:=qg9 (p:={ p with lines:=p.lines++[t] }) (by simp) (by simp only;rw [mz];exact h0);simp only at this;rw [this,mz]
  ·rw [qsh h3,List.append_nil] at hc
   subst hc;refine qem (qqr ?_);by_cases h1:qs t=1
   ·rw [qjn h1]
    exact qx5 (qg9 hl h0)
   ·rw [qft h3 h1]
    exact qg9 hl h0
structure Sim (r:List (qa×Bool)) (p:PSt) (prev:Bool) (now:za) (rec:Int) (out:List za):Prop where
 hprev:prev=decide (p.lines≠[])
 hok:p.lines=[]∨qdt (p.lines++vj r) p.full=0
 hraw:now.raw=zg p.block
 hfields:now.fields=p.fields++(if p.lines=[] then [] else [(jr (p.lines++vj r)).1])
 hkind:now.kind=if now.fields=[] then 2 else 3
 hrec:rec=p.records+if now.fields=[] then 0 else 1
 hout:out=p.items
 hempty:p.block=[]→p.lines=[]∧p.fields=[]
 b1:now.fields.length≤40
 b2:rec≤400
theorem q9a (b:List qa):zg b=[]↔b=[]:=by
 cases b with
 |nil=>simp [zg]
 |cons x r=>simp [zg]
theorem ql4 (b:List qa) (t:qa):zg (b++[t])=zg b++t++[10]:=by simp [zg]
theorem Sim.flush {r:List (qa×Bool)} {p:PSt} {prev:Bool} {now:za} {rec:Int} {out:List za} (h:Sim r p prev now rec out) (hm:vj r=[]):jj p=(none,{ p with lines:=[],fields:=now.fields }):=by
 have h1:=h.hok;have h2:=h.hfields;rw [hm,List.append_nil] at h1 h2;rw [qu4 h1,h2]
theorem Sim.close {r:List (qa×Bool)} {p:PSt} {prev:Bool} {now:za} {rec:Int} {out:List za} (h:Sim r p prev now rec out) (hm:vj r=[]):xn { p with lines:=[],fields:=now.fields }={ p with lines:=[],fields:=[],block:=[],items:=outR now out,records:=rec }:=by
 have hk:=h.hkind;have hr:=h.hrec;have hw:=h.hraw;have ho:=h.hout;unfold xn outR;simp only;by_cases hb:p.block=[]
 ·obtain⟨e1,e2⟩:=h.hempty hb
  have hf:now.fields=[]:=by rw [h.hfields,e1,e2];simp
  rw [if_pos hb,if_pos (by rw [hw,hb];rfl),ho,hr,hf];simp
 ·have b9:¬ now.raw=[]:=by rw [hw,q9a];exact hb
  rw [if_neg hb,if_neg b9,ho,hr,← hw];obtain⟨nk,nr,nf⟩:=now;simp only at hk b9 ⊢;by_cases hf:nf=[]
  ·rw [if_pos hf] at hk
   simp [hf,hk,b9]
  ·rw [if_neg hf] at hk
   simp [hf,hk,b9]
theorem qki:∀ (r:List (qa×Bool)) (k:Nat) (p:PSt) (prev:Bool) (now:za) (rec:Int) (out:List za),qwp r→Sim r p prev now rec out →
  refL k r prev now rec out=match (runL k r p).1 with
   |some e=>(some e,[])
   |none=>(none,(runL k r p).2.items)
 | [],k,p,prev,now,rec,out,_,h=>by
  rw [runL,qtl (h.flush rfl),h.close rfl,refL]
 |(t,e)::r,k,p,prev,now,rec,out,hE,h=>by
  rw [refL];by_cases h3:qs t=3
  ·by_cases hl:p.lines=[]
   ·have hp:prev=false:=by rw [h.hprev];simp [hl]
    have hw:jz prev t e r now.fields.length rec=2:=by
     unfold jz;rw [if_pos (.inr (.inl ⟨h3,hp⟩))]
    rw [hw,if_pos (by decide),qem (x:=((k:Int),2)) (qqr (by unfold je;rw [if_pos h3,if_pos hl]))]
   ·cases e with
    |true=>
     have hp:prev=true:=by rw [h.hprev];simp [hl]
     have hw:jz prev t true r now.fields.length rec=0:=by
      unfold jz;rw [if_neg (by simp [hp];omega),if_pos (by omega)]
     have ht:=qkm (qq6 (no:=k) h3 hl) (by omega);rw [if_neg (by omega),if_neg (by omega)] at ht;rw [hw,if_neg (by simp),if_neg (by omega),if_neg (by omega),qgk ht];have hm:=qjz (e:=true) (r:=r) h3;have hok:=h.hok.resolve_left hl;have hfs:=h.hfields;rw [if_neg hl,hm] at hfs;rw [hm] at hok
     refine qki r (k+1) _ _ _ _ _ hE.2 ⟨by simp [h3],.inr (by simpa using hok),by rw [ql4,← h.hraw],by simp [hfs],h.hkind,h.hrec,h.hout,by simp,h.b1,h.b2⟩
    |false=>
     have hr:=hE.1 rfl;subst hr
     have hw:jz prev t false [] now.fields.length rec=2:=by
      unfold jz;rw [if_pos (.inr (.inr rfl))]
     have hok:=h.hok.resolve_left hl;rw [qjz h3] at hok;have hf:=qu4 (p:={ p with lines:=p.lines++[t] }) (.inr hok);rw [hw,if_pos (by decide),qem (x:=((k:Int),2)) (qqs ((qq5 h3 hl).trans hf) (.inr rfl))]
  ·have hm:=qsh (e:=e) (r:=r) h3
   have hf:=h.flush hm;have hc:=h.close hm;by_cases cq:qs t=5∨e=false
   ·have hw:jz prev t e r now.fields.length rec=2:=by
     unfold jz;rw [if_pos (by rcases cq with h|h;exact .inl h;exact .inr (.inr h))]
    rw [hw,if_pos (by decide)];by_cases h1:qs t=1
    ·rw [qem (x:=((k:Int),2)) (qqs ((qjn h1).trans (qtl hf)) cq)]
    ·rw [qem (x:=((k:Int),2)) (qqs ((qft h3 h1).trans hf) cq)]
   ·have he:e=true:=by
     cases e with
     |true=>rfl
     |false=>exact absurd (.inr rfl) cq
    have h5:qs t≠5:=fun h=>cq (.inl h);subst he;by_cases h1:qs t=1
    ·have hw:jz prev t true r now.fields.length rec=0:=by
      unfold jz;rw [if_neg (by simp [h3,h5]),if_pos (by omega)]
     have ht:=qkm ((qjn (no:=k) h1).trans (qtl hf)) h5;rw [if_pos h1,hc] at ht;rw [hw,if_neg (by simp),if_pos h1,qgk ht];exact qki r (k+1) _ _ _ _ _ hE.2 ⟨by simp,.inl rfl,rfl,by simp,by simp,by simp,rfl,by simp,by simp,h.b2⟩
    ·by_cases h4:qs t=4
     ·have ht:=qkm ((qft (no:=k) h3 h1).trans hf) h5
      rw [if_neg h1,if_pos h4] at ht;rw [qgk ht];have p6:=h.b1;have cn:=h.b2;have hrec:=h.hrec
      have rt:(40≤now.fields.length∨(now.fields.length=0∧400≤rec))↔(now.fields.length=40∨(now.fields.length=0∧p.records=400)):=by
       by_cases hz:now.fields=[]
       ·rw [if_pos hz] at hrec
        simp only [hz,List.length_nil];constructor
        ·rintro (h'|h')
         ·exact absurd h' (by decide)
         ·exact .inr ⟨trivial,by omega⟩
        ·rintro (h'|h')
         ·exact absurd h' (by decide)
         ·exact .inr ⟨trivial,by omega⟩
       ·have:now.fields.length≠0:=fun h=>hz (List.length_eq_zero_iff.1 h)
        constructor
        ·rintro (h'|h')
         ·exact .inl (by omega)
         ·exact absurd h'.1 this
        ·rintro (h'|h')
         ·exact .inl (by omega)
         ·exact absurd h'.1 this
      have hw:jz prev t true r now.fields.length rec=qdt (t::vj r) (decide (now.fields.length=40∨(now.fields.length=0∧p.records=400))):=by
       unfold jz qdt;rw [if_neg (by simp [h3,h5]),if_neg (by omega)];by_cases hu:(jr (t::vj r)).2≠0
       ·rw [if_pos hu,if_pos hu]
       ·rw [if_neg hu,if_neg hu]
        by_cases hx:40≤now.fields.length∨(now.fields.length=0∧400≤rec)
        ·rw [if_pos hx,if_pos (decide_eq_true (rt.1 hx))]
        ·rw [if_neg hx,if_neg (by simpa using fun h=>hx (rt.2 h))]
      by_cases hw0:jz prev t true r now.fields.length rec=0
      ·rw [if_neg (by simp [hw0]),if_neg h1,if_pos h4]
       have hx:¬ (40≤now.fields.length∨(now.fields.length=0∧400≤rec)):=fun hx=>by
        unfold jz at hw0;rw [if_neg (by simp [h3,h5]),if_neg (by omega)] at hw0;by_cases hu:(jr (t::vj r)).2≠0
        ·rw [if_pos hu] at hw0;exact hu hw0
        ·rw [if_neg hu,if_pos hx] at hw0;simp at hw0
       rw [hw] at hw0;refine qki r (k+1) _ _ _ _ _ hE.2 ⟨by simp [ki],.inr hw0,by simp only [ki];rw [ql4,← h.hraw],by simp [ki],by simp,?_,h.hout,by simp [ki],by simp;omega,?_⟩
       ·have hkd:=h.hkind
        simp only [ki];by_cases hz:now.fields=[]
        ·rw [if_pos hz] at hrec hkd
         rw [hkd];simp;omega
        ·rw [if_neg hz] at hrec hkd
         rw [hkd];simp;omega
       ·rw [h.hkind]
        by_cases hz:now.fields=[]
        ·have:now.fields.length=0:=by rw [hz];rfl
         rw [if_pos hz,if_pos rfl];omega
        ·rw [if_neg hz,if_neg (by decide)]
         exact cn
      ·rw [if_pos hw0]
       have:=qzn r { ki { p with lines:=[],fields:=now.fields } k t with block:=p.block++[t] } (k+1) (jz prev t true r now.fields.length rec) hE.2 (by simp [ki]) hw.symm hw0;simp only [ki] at this ⊢;rw [this]
     ·have hw:jz prev t true r now.fields.length rec=0:=by
       unfold jz;rw [if_neg (by simp [h3,h5]),if_pos h4]
      have ht:=qkm ((qft (no:=k) h3 h1).trans hf) h5;rw [if_neg h1,if_neg h4] at ht;rw [hw,if_neg (by simp),if_neg h1,if_neg h4,qgk ht];exact qki r (k+1) _ _ _ _ _ hE.2 ⟨by simp [h3],.inl rfl,by rw [ql4,← h.hraw],by simp,h.hkind,h.hrec,h.hout,by simp,h.b1,h.b2⟩
theorem qf3 (text:qa):refL 0 (zl text) false ⟨2,[],[]⟩ 0 []=jk text:=by
 unfold jk;exact qki (zl text) 0 p0 false ⟨2,[],[]⟩ 0 [] (qpd _ text (Nat.le_refl _)) ⟨by simp [p0],.inl rfl,rfl,by simp [p0],by simp,by simp [p0],rfl,by simp [p0],by simp,by omega⟩
end Go.Pl
