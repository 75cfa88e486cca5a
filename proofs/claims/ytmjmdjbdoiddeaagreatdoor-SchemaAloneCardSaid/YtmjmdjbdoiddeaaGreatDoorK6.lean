/- Contracts and plain facts that the closing text leans on (part 6). No condition of their own beyond those that each states. -/
import Derived.Test.YtmjmdjbdoiddeaaGreatDoorK5
import Derived.Lib.IfaceEq
import Derived.Laws.StructEq
import Derived.Lib.SliceRun
set_option maxRecDepth 100000
set_option linter.unusedVariables false
set_option linter.unusedSimpArgs false
namespace Go.Av
open Go Go.RowKit
def getM {α : Type} [DecidableEq α] (s : α):List (α×Int)→Int
 | []=>0
 |q::r=>if q.1=s then q.2 else getM s r
def setM {α : Type} [DecidableEq α] (s : α) (n:Int):List (α×Int)→List (α×Int)
 | []=>[(s,n)]
 |q::r=>if q.1=s then (s,n)::r else q::setM s n r
theorem qpw {α : Type} [DecidableEq α] (s t : α) (n:Int):∀ (L:List (α×Int)),getM t (setM s n L)=if t=s then n else getM t L
 | []=>by
  unfold setM getM getM
  by_cases h:t=s
  ·rw [if_pos h,if_pos h.symm]
  ·rw [if_neg h,if_neg fun e=>h e.symm]
 |q::r=>by
  have ih:=qpw s t n r
  unfold setM
  by_cases hq:q.1=s
  ·rw [if_pos hq]
   unfold getM
   by_cases h:t=s
   ·rw [if_pos h,if_pos h.symm]
   ·rw [if_neg h,if_neg fun e=>h e.symm,if_neg fun e=>h (e.symm.trans hq)]
  ·rw [if_neg hq]
   unfold getM
   rw [ih]
   by_cases ht:q.1=t
   ·rw [if_pos ht,if_pos ht,if_neg fun e=>hq (ht.trans e)]
   ·rw [if_neg ht,if_neg ht]
section
variable {α : Type} [DecidableEq α] {kd : TypeDesc} {key : α → Value}
def kvM (key : α→Value) (q : α×Int):Value×Value:=(key q.1,.int .i64 q.2)
theorem qmo (hs:∀ a b,Instr.sameNow kd (key a) (key b)=some (decide (b=a))) (s : α) (n:Int):∀ (L:List (α×Int)) (pre:List (Value×Value)),∃ r,qby kd (key s) (L.map (kvM key)) pre.length=some r∧mval (.int .i64 0) r = .int .i64 (getM s L)∧mset (pre++L.map (kvM key)) (key s) (.int .i64 n) r=pre++(setM s n L).map (kvM key)
 | [],pre=>⟨none,rfl,rfl,by simp [mset,setM,kvM]⟩
 |q::r,pre=>by
  rw [List.map_cons,qby]
  show ∃ r',(match Instr.sameNow kd (key s) (key q.1) with|some true=>_|some false=>_|none=>_)=some r'∧_
  rw [hs]
  unfold getM setM
  by_cases h:q.1=s
  ·rw [if_pos h,if_pos h]
   simp only [h,decide_true]
   refine⟨_,rfl,rfl,?_⟩
   simp only [mset]
   rw [List.set_append_right _ _ (Nat.le_refl _),Nat.sub_self]
   rfl
  ·rw [if_neg h,if_neg h]
   simp only [h,decide_false]
   obtain⟨r',h1,h2,h3⟩:=qmo hs s n r (pre++[kvM key q])
   rw [List.length_append,List.length_singleton] at h1
   exact⟨r',h1,h2,by simpa using h3⟩
variable {E : Env} {N : Nat} {ops : Array Oper} {nx : Nat} {sl : List (Nat × SV)} {H : Nat → Option SR} {k : Ef → Prop} {d : Option Tmp} {T : TypeId} {p : String} {af : Array Edge}
theorem qza {t kt vt:TypeId} {x y:Operand} {b:Nat} {L:List (α×Int)} {v:SV} {s : α} (hs:∀ a b,Instr.sameNow kd (key a) (key b)=some (decide (b=a))) (hx:sval N sl x=some (.tp b)) (hH:H b=some (.obj (mapP (L.map (kvM key))))) (hy:sval N sl y=some v) (hv:∀ ρ,v.ev ρ = .v (key s))
  (hu:E.P.underlying t=some (.map kt vt)) (hk:E.P.underlying kt=some kd) (hck:mkey kd (key s)=true) (hz:(E.P.info? vt).bind (fun i=>i.zero)=some (.int .i64 0))
  (h:k ⟨.i (getM s L),[b],[],nx⟩):∃ e,Loc E N ops ⟨d,.lookup t x y false,T,p,af,none⟩ nx sl H e∧k e:=by
 obtain⟨r,h1,h2,_⟩:=qmo hs s 0 L []
 exact q1h hx hH hy hv hu hk hck h1 hz h2 h
theorem qzb {t kt vt:TypeId} {x y q:Operand} {b:Nat} {L:List (α×Int)} {v w:SV} {s : α} {n:Int} (hs:∀ a b,Instr.sameNow kd (key a) (key b)=some (decide (b=a))) (hx:sval N sl x=some (.tp b)) (hH:H b=some (.obj (mapP (L.map (kvM key))))) (hy:sval N sl y=some v) (hv:∀ ρ,v.ev ρ = .v (key s)) (hq:sval N sl q=some w) (hw:∀ ρ,w.ev ρ = .v (.int .i64 n))
  (hu:E.P.underlying t=some (.map kt vt)) (hk:E.P.underlying kt=some kd) (hck:mkey kd (key s)=true)
  (h:k ⟨.a (.v undef),[b],[(b,some (.obj (mapP ((setM s n L).map (kvM key)))))],nx⟩):∃ e,Loc E N ops ⟨d,.mapUpdate t x y q,T,p,af,none⟩ nx sl H e∧k e:=by
 obtain⟨r,h1,_,h3⟩:=qmo hs s n L []
 rw [List.nil_append,List.nil_append] at h3
 rw [← h3] at h
 exact q1j hx hH hy hv hq hw hu hk hck h1 h
end
def keyS (l:List UInt8):Value:=.string ⟨l.toArray⟩
theorem qxt (a b:List UInt8):Instr.sameNow .string (keyS a) (keyS b)=some (decide (b=a)):=by
 show some ((⟨a.toArray⟩:ByteArray) == ⟨b.toArray⟩)=_
 congr 1
 by_cases h:b=a
 ·subst h
  rw [decide_eq_true rfl]
  exact (Go.MapKept.bytes_beq _ _).2 rfl
 ·rw [decide_eq_false h]
  refine Bool.eq_false_iff.2 fun e=>h ?_
  have:=(Go.MapKept.bytes_beq _ _).1 e
  have:=congrArg (fun x:ByteArray=>x.data.toList) this
  simpa using this.symm
end Go.Av
namespace Go.Pl
open Go Go.Proofs
structure jj where
 kind:Int
 raw:qd
 fields:List Fld
structure PSt where
 lines:List qd
 frm:Int
 full:Bool
 items:List jj
 block:List qd
 fields:List Fld
 records:Int
def vb (p:PSt):Option (Int×Int)×PSt:=
 if p.lines=[] then (none,p)
 else if (z5 p.lines).2≠0 then (some (p.frm,(z5 p.lines).2),p)
 else if p.full=true then (some (p.frm,11),p)
 else (none,{ p with lines:=[],fields:=p.fields++[(z5 p.lines).1] })
end Go.Pl
namespace Go.Proofs.YtmjmdjbdoiddeaaGreatDoor
open Go Go.Av Go.RowKit Go.Proofs Go.Pl
@[reducible] def yn (x : jj) : AV := .ag [Iv x.kind, Sv x.raw, y6 x.fields]
@[reducible] def yg (xs : List jj) : AV := .sl 3 (xs.map yn) none
@[reducible] def parC (c1 c2 c3 c4 : AV) (p : PSt) : List AV := [c1, Iv p.frm, Bv p.full, c2, c3, c4, Iv p.records]
@[reducible] def parO (c1 c2 c3 c4 : AV) (p : PSt) : AObj := .cells 0 90 (parC c1 c2 c3 c4 p)
structure ParS (b o:Nat) (p:PSt) (st:List AObj) (c1 c2 c3 c4:AV):Prop where
 lt:o<b
 le:b≤st.length
 ob:st[o]? = some (parO c1 c2 c3 c4 p)
 h1:TipC b st 1 9 (p.lines.map fun x=>Sv x) c1
 h2:TipC b st 3 63 (p.items.map yn) c2
 h3:TipC b st 1 9 (p.block.map fun x=>Sv x) c3
 h4:TipC b st 2 53 (p.fields.map fldA) c4
 ne:∀ t xs ys,c1 = .sl 1 xs (some t)→c3 = .sl 1 ys (some t)→False
structure Keep (b o:Nat) (st st':List AObj):Prop where
 len:st.length≤st'.length
 same:∀ k,k≠o→k<st.length→(k<b∨qex st[k]?)→st'[k]? = st[k]?
theorem Keep.trans {b o:Nat} {st st' st'':List AObj} (h:Keep b o st st') (k:Keep b o st' st''):Keep b o st st'':=⟨Nat.le_trans h.len k.len,fun i hne hi hc=>by
 have e:=h.same i hne hi hc
 refine (k.same i hne (Nat.lt_of_lt_of_le hi h.len) ?_).trans e
 rw [e]
 exact hc⟩
def qh2 (a n:Int):AV:=.ifc 132 (.pp [Iv a,.ifc 85 (Iv n)])
def errP:Option (Int×Int)→AV
 |none=>.v .nilIface
 |some (a,n)=>qh2 a n
theorem qfv (a n:Int):Pure (qh2 a n):=qg6 (qtg fun x hx=>by
 simp only [List.mem_cons,List.not_mem_nil,or_false] at hx
 rcases hx with rfl|rfl
 ·exact q7 _
 ·exact qg6 (q7 _))
theorem qg5 (a n:Int) (st:List AObj):qp E 53 [Iv a,.ifc 85 (Iv n)] st fun r st'=>r=qh2 a n∧st'=st:=by
 refine zl (qfv a n) (qw Tryz.func53 rfl (Nat.le_of_ble_eq_true rfl) ?_)
 repeat' (first|(apply qv0;(iterate 3 exact rfl))|apply q4|apply qn|apply qs|apply qu|apply qo|(apply qv;exact rfl;exact rfl)|(apply z9;(iterate 3 exact rfl))|apply ze)
 exact qm rfl (zv rfl) ⟨rfl,_,rfl⟩
theorem qvp (ls:List qd) (t:Option Nat) (st:List AObj) (hB:LsB ls) (h:(z5 ls).2=0):qp E 71 [.sl 1 (ls.map fun x=>Sv x) t] st fun r st'=>r = .tu [fldA (z5 ls).1,.v .nilIface]∧st'=st:=by
 have:=qhn ls st hB
 unfold qdk at this
 rw [h] at this
 exact qje (qmb _ _ _) this
theorem qvq (ls:List qd) (t:Option Nat) (st:List AObj) (hB:LsB ls) (h:(z5 ls).2≠0):qp E 71 [.sl 1 (ls.map fun x=>Sv x) t] st fun r st'=>r = .tu [fldA (z5 ls).1,.ifc 85 (Iv (z5 ls).2)]∧st'=st:=by
 have:=qhn ls st hB
 unfold qdk at this
 rw [qsz h] at this
 exact qje (qmb _ _ _) this
structure PB (n:Nat) (p:PSt):Prop where
 small:n<900000
 lines:p.lines.length≤n
 linesV:∀ s∈p.lines,s.length<1000000
 items:p.items.length≤n
 block:p.block.length≤n
 blockV:∀ s∈p.block,s.length<1000000
 fields:p.fields.length≤n
 rec0:0≤p.records
 rec1:p.records≤n
theorem PB.ls {n:Nat} {p:PSt} (h:PB n p):LsB p.lines:=⟨by have:=h.lines;have:=h.small;omega,h.linesV⟩
theorem ParS.pre {b o:Nat} {p:PSt} {st l:List AObj} {c1 c2 c3 c4:AV} (P:ParS b o p st c1 c2 c3 c4):ParS b o p (st++l) c1 c2 c3 c4:=
 ⟨P.lt,by have:=P.le;simp;omega,qdi P.ob,qe5 P.h1,qe5 P.h2,qe5 P.h3,qe5 P.h4,P.ne⟩
end Go.Proofs.YtmjmdjbdoiddeaaGreatDoor
namespace Go.Pl
open Go Go.Proofs
def yq (p:PSt):PSt:=
 if p.block=[] then { p with block:=[],fields:=[] }
 else { p with items:=p.items++[⟨if p.fields=[] then 2 else 3,vh p.block,p.fields⟩],records:=if p.fields=[] then p.records else p.records+1,block:=[],fields:=[] }
def endP (p:PSt):Option (Int×Int)×PSt:=match (vb p).1 with
 |some e=>(some e,p)
 |none=>(none,yq (vb p).2)
theorem qh7:∀ (x:qd) (r:List qd),Lib.join (x::r) [10]++[10]=vh (x::r)
 |x,[]=>by rw [Lib.join_one];simp [vh]
 |x,y::r=>by
  have ih:=qh7 y r
  rw [Lib.join_cons] at ih ⊢
  unfold Lib.joinTail at ih ⊢
  simp only [List.map_cons,List.flatten_cons,vh,List.flatMap_cons] at ih ⊢
  rw [← ih]
  simp
theorem qhj:∀ (r:List qd),(∀ s∈r,s.length<1000000)→(vh r).length≤1000001 * r.length
 | [],_=>by simp [vh]
 |a::r,h=>by
  have ih:=qhj r fun s hs=>h s (by simp [hs])
  have ha:=h a (by simp)
  simp only [vh,List.flatMap_cons,List.length_append,List.length_cons,List.length_nil] at ih ⊢
  omega
end Go.Pl
namespace Go.Proofs.YtmjmdjbdoiddeaaGreatDoor
open Go Go.Av Go.RowKit Go.Proofs Go.Pl
theorem qfg {n:Nat} {p:PSt} (h:PB n p) (hs:n+1<900000):PB (n+1) (vb p).2:=by
 have h1:=h.lines;have h2:=h.items;have h3:=h.block;have h4:=h.fields;have h5:=h.rec0;have h6:=h.rec1
 unfold vb
 split
 ·exact⟨hs,by simp only;omega,h.linesV,by simp only;omega,by simp only;omega,h.blockV,by simp only;omega,h5,by simp only;omega⟩
 ·split
  ·exact⟨hs,by simp only;omega,h.linesV,by simp only;omega,by simp only;omega,h.blockV,by simp only;omega,h5,by simp only;omega⟩
  ·split
   ·exact⟨hs,by simp only;omega,h.linesV,by simp only;omega,by simp only;omega,h.blockV,by simp only;omega,h5,by simp only;omega⟩
   ·exact⟨hs,by simp,by simp,by simp only;omega,by simp only;omega,h.blockV,by simp;omega,h5,by simp only;omega⟩
theorem q05 (xs:List qd) (tip:Option Nat) (st:List AObj) (hne:xs≠[]) (hN:xs.length≤900000) (hv:∀ s∈xs,s.length<1000000):qp E 56 [.sl 1 (xs.map fun x=>Sv x) tip,Sv [10]] st fun r st'=>r=Sv (Lib.join xs [10])∧st'=st:=by
 refine qwx xs tip [10] st (by omega) ?_
 have h1:=qhj xs hv
 cases xs with
 |nil=>exact absurd rfl hne
 |cons x r=>
  have h2:=congrArg List.length (qh7 x r)
  rw [List.length_append] at h2
  simp only [List.length_cons,List.length_nil] at h2 h1 hN
  omega
def parH (a:Nat) (p:PSt):List (Nat×Option SR):=[(0,some (.cells 90 [.tp a,.i p.frm,.b p.full,.tp (a+1),.tp (a+2),.tp (a+3),.i p.records])),(a,some (.tip 1 9 (p.lines.map fun x=>Sv x))),(a+1,some (.tip 3 63 (p.items.map yn))),(a+2,some (.tip 1 9 (p.block.map fun x=>Sv x))),(a+3,some (.tip 2 53 (p.fields.map fldA)))]
theorem qj9 (n:Nat) (p:PSt) (hB:PB n p):x4 E 55 [.bx 0 0] 5 (hpF (parH 1 p)) ⟨.a (errP (vb p).1),xj (parH 1 p),parH 5 (vb p).2++yc (parH 1 p),9⟩:=by
 refine qam [.bx 0 0] (parH 1 p) 5 (.a (errP (vb p).1)) (parH 5 (vb p).2) 9 Tryz.func55 rfl rfl rfl rfl fun S F ρ=>?_
 have hls:=hB.ls
 have hsm:=hB.small
 have hfl:=hB.fields
 by_cases h0:p.lines=[]
 ·have e:vb p=(none,p):=by unfold vb;rw [if_pos h0]
  rw [e]
  have hl0:(p.lines.map fun x=>Sv x).length=0:=by simp [h0]
  apply qi []
  repeat' (first|apply And.intro|(intro h;try exact cDd)|exact cSd|apply qg []|refine exr ?_|refine qk ?_)
 ·have hl0:(p.lines.map fun x=>Sv x).length≠0:=by simp [h0]
  by_cases hu:(z5 p.lines).2=0
  ·have hun:=fun st=>qvp p.lines none st hls hu
   cases hf:p.full with
   |true=>
    have e:vb p=(some (p.frm,11),p):=by unfold vb;rw [if_neg h0,if_neg (by simp [hu]),if_pos hf]
    rw [e]
    have hft:=fun st=>qg5 p.frm 11 st
    apply qi []
    repeat' (first|apply And.intro|(intro h;try exact cDd)|exact⟨Tryz.call71⟩|refine cpe hun ?_|exact⟨Tryz.call53⟩|refine cpe hft ?_|(exact absurd (by assumption:p.full=false) (by rw [hf];decide))|exact cSd|apply qg []|refine exr ?_|refine qk ?_)
   |false=>
    have e:vb p=(none,{ p with lines:=[],fields:=p.fields++[(z5 p.lines).1] }):=by unfold vb;rw [if_neg h0,if_neg (by simp [hu]),if_neg (by simp [hf])]
    rw [e]
    apply qi [51]
    repeat' (first|apply And.intro|(intro h;try exact cDd)|exact⟨Tryz.call71⟩|refine cpe hun ?_|(exact absurd (by assumption:p.full=true) (by rw [hf];decide))|exact cSd|apply qg [51]|refine exr ?_|refine qk ?_)
    all_goals first|(simp [SV.evs,SV.ev];done)|(simp [SV.evs];omega)
  ·have hun:=fun st=>qvq p.lines none st hls hu
   have e:vb p=(some (p.frm,(z5 p.lines).2),p):=by unfold vb;rw [if_neg h0,if_pos hu]
   rw [e]
   have hft:=fun st=>qg5 p.frm (z5 p.lines).2 st
   apply qi []
   repeat' (first|apply And.intro|(intro h;try exact cDd)|exact⟨Tryz.call71⟩|refine cpe hun ?_|exact⟨Tryz.call53⟩|refine cpe hft ?_|exact cSd|apply qg []|refine exr ?_|refine qk ?_)
theorem qtf (n:Nat) (p:PSt) (hB:PB n p) (hs:n+1<900000):x4 E 31 [.bx 0 0] 5 (hpF (parH 1 p)) ⟨.a (errP (endP p).1),xj (parH 1 p),parH 5 (endP p).2++yc (parH 1 p),9⟩:=by
 refine qam [.bx 0 0] (parH 1 p) 5 (.a (errP (endP p).1)) (parH 5 (endP p).2) 9 Tryz.func31 rfl rfl rfl rfl fun S F ρ=>?_
 have hfc:=qj9 n p hB
 have hB2:=qfg hB hs
 have hsame:∀ e,(vb p).1=some e→(vb p).2=p:=fun e=>by
  unfold vb
  split
  ·simp
  ·split
   ·simp
   ·split
    ·simp
    ·simp
 unfold endP
 generalize vb p=fq at hfc hB2 hsame
 obtain⟨fe,q⟩:=fq
 cases fe with
 |some e=>
  obtain rfl:=hsame e rfl
  obtain⟨a,k⟩:=e
  apply qi []
  repeat' (first|apply And.intro|(intro h;try exact cDd)|exact⟨Tryz.call55⟩|(refine xo hfc ?_)|exact cSd|apply qg []|refine exr ?_|refine qk ?_)
 |none=>
  dsimp only at hB2 hfc
  have h3:=hB2.fields
  have h4:=hB2.rec0
  have h5:=hB2.rec1
  have h1:=hB2.block
  have h2:=hB2.items
  by_cases hb:q.block=[]
  ·have e:yq q={ q with block:=[],fields:=[] }:=by unfold yq;rw [if_pos hb]
   simp only [e]
   have hl0:(q.block.map fun x=>Sv x).length=0:=by simp [hb]
   apply qi []
   repeat' (first|apply And.intro|(intro h;try exact cDd)|exact⟨Tryz.call55⟩|(refine xo hfc ?_)|exact cSd|apply qg []|refine exr ?_|refine qk ?_)
  ·have hl0:(q.block.map fun x=>Sv x).length≠0:=by simp [hb]
   have hbl:=qhj q.block hB2.blockV
   obtain⟨b,r,hbr⟩:∃ b r,q.block=b::r:=by
    cases hq:q.block with
    |nil=>exact absurd hq hb
    |cons b r=>exact⟨b,r,rfl⟩
   have hjt:=qh7 b r
   rw [← hbr] at hjt
   have hjl:=congrArg List.length hjt
   simp only [List.length_append,List.length_cons,List.length_nil] at hjl
   have hjo:=fun st=>q05 q.block none st hb (by omega) hB2.blockV
   by_cases hf:q.fields=[]
   ·have e:yq q={ q with items:=q.items++[⟨2,vh q.block,q.fields⟩],records:=q.records,block:=[],fields:=[] }:=by unfold yq;rw [if_neg hb,if_pos hf,if_pos hf]
    simp only [e]
    have hl1:(q.fields.map fldA).length=0:=by simp [hf]
    apply qi []
    repeat' (first|apply And.intro|(intro h;try exact cDd)|exact⟨Tryz.call55⟩|(refine xo hfc ?_)|exact⟨Tryz.call56⟩|refine cpe hjo ?_|exact cSd|apply qg []|refine exr ?_|refine qk ?_)
    all_goals first|(simp [SV.evs,SV.ev,hjt];done)|(simp [SV.evs];omega)
   ·have e:yq q={ q with items:=q.items++[⟨3,vh q.block,q.fields⟩],records:=q.records+1,block:=[],fields:=[] }:=by unfold yq;rw [if_neg hb,if_neg hf,if_neg hf]
    simp only [e]
    have hl1:(q.fields.map fldA).length≠0:=by simp [hf]
    apply qi []
    repeat' (first|apply And.intro|(intro h;try exact cDd)|exact⟨Tryz.call55⟩|(refine xo hfc ?_)|exact⟨Tryz.call56⟩|refine cpe hjo ?_|exact cSd|apply qg []|refine exr ?_|refine qk ?_)
    all_goals first|(simp [SV.evs,SV.ev,hjt];done)|(simp [SV.evs];omega)
end Go.Proofs.YtmjmdjbdoiddeaaGreatDoor
namespace Go.Pl
open Go Go.Proofs
def wg (p:PSt) (no:Int) (text:qd):PSt:={ p with lines:=[text],frm:=no,full:=decide (p.fields.length=40∨(p.fields.length=0∧p.records=400)) }
def km (p:PSt) (no:Int) (text:qd) (ended:Bool) (kind:Int):Option (Int×Int)×PSt:=
 if kind=3 then
  if p.lines=[] then (some (no,2),p)
  else if ended=true then (none,{ p with lines:=p.lines++[text] })
  else vb { p with lines:=p.lines++[text] }
 else if kind=1 then endP p
 else vb p
def xz (p:PSt) (no:Int) (text:qd) (ended:Bool):Option (Int×Int)×PSt:=
 match (km p no text ended (ql text)).1 with
 |some e=>(some e,p)
 |none=>
  if ql text=5∨ended=false then (some (no,2),p)
  else if ql text=1 then (none,{ (km p no text ended (ql text)).2 with items:=(km p no text ended (ql text)).2.items++[⟨1,text++[10],[]⟩] })
  else if ql text=4 then (none,{ wg (km p no text ended (ql text)).2 no text with block:=(km p no text ended (ql text)).2.block++[text] })
  else (none,{ (km p no text ended (ql text)).2 with block:=(km p no text ended (ql text)).2.block++[text] })
end Go.Pl
namespace Go.Proofs.YtmjmdjbdoiddeaaGreatDoor
open Go Go.Av Go.RowKit Go.Proofs Go.Pl
theorem PB.more {n m:Nat} {p:PSt} (h:PB n p) (hm:n≤m) (hs:m<900000):PB m p:=by
 have h1:=h.lines;have h2:=h.items;have h3:=h.block;have h4:=h.fields;have h5:=h.rec0;have h6:=h.rec1
 exact⟨hs,by omega,h.linesV,by omega,by omega,h.blockV,by omega,h5,by omega⟩
theorem qwk {n:Nat} {p:PSt} (h:PB n p) (hs:n+1<900000):PB (n+1) (yq p):=by
 have h1:=h.lines;have h2:=h.items;have h3:=h.block;have h4:=h.fields;have h5:=h.rec0;have h6:=h.rec1
 unfold yq
 split
 ·exact⟨hs,by simp only;omega,h.linesV,by simp only;omega,by simp,by simp,by simp,h5,by simp only;omega⟩
 ·refine⟨hs,by simp only;omega,h.linesV,by simp;omega,by simp,by simp,by simp,?_,?_⟩
  ·simp only;split <;> omega
  ·simp only;split <;> omega
theorem qkh {n:Nat} {p:PSt} {text:qd} (h:PB n p) (hs:n+1<900000) (ht:text.length<1000000):PB (n+1) { p with lines:=p.lines++[text] }:=by
 have h1:=h.lines;have h2:=h.items;have h3:=h.block;have h4:=h.fields;have h5:=h.rec0;have h6:=h.rec1
 exact⟨hs,by simp;omega,qg2 h.linesV ht,by simp only;omega,by simp only;omega,h.blockV,by simp only;omega,h5,by simp only;omega⟩
theorem qqp {n:Nat} {p:PSt} {text:qd} (h:PB n p) (hs:n+1<900000) (ht:text.length<1000000):PB (n+1) { p with block:=p.block++[text] }:=by
 have h1:=h.lines;have h2:=h.items;have h3:=h.block;have h4:=h.fields;have h5:=h.rec0;have h6:=h.rec1
 exact⟨hs,by simp only;omega,h.linesV,by simp only;omega,by simp;omega,qg2 h.blockV ht,by simp only;omega,h5,by simp only;omega⟩
theorem qzk {n:Nat} {p:PSt} {x:jj} (h:PB n p) (hs:n+1<900000):PB (n+1) { p with items:=p.items++[x] }:=by
 have h1:=h.lines;have h2:=h.items;have h3:=h.block;have h4:=h.fields;have h5:=h.rec0;have h6:=h.rec1
 exact⟨hs,by simp only;omega,h.linesV,by simp;omega,by simp only;omega,h.blockV,by simp only;omega,h5,by simp only;omega⟩
theorem qzj {n:Nat} {p:PSt} {no:Int} {text:qd} (h:PB n p) (hs:n+1<900000) (ht:text.length<1000000):PB (n+1) (wg p no text):=by
 have h1:=h.lines;have h2:=h.items;have h3:=h.block;have h4:=h.fields;have h5:=h.rec0;have h6:=h.rec1
 exact⟨hs,by simp [wg],by simp [wg,ht],by simp only [wg];omega,by simp only [wg];omega,h.blockV,by simp only [wg];omega,h5,by simp only [wg];omega⟩
theorem qe8 {n:Nat} {p:PSt} {no:Int} {text:qd} {ended:Bool} {kind:Int} (h:PB n p) (hs:n+2<900000) (ht:text.length<1000000):PB (n+2) (km p no text ended kind).2:=by
 unfold km
 split
 ·split
  ·exact h.more (by omega) hs
  ·split
   ·exact (qkh h (by omega) ht).more (by omega) hs
   ·exact qfg (qkh h (by omega) ht) hs
 ·split
  ·unfold endP
   split
   ·exact h.more (by omega) hs
   ·exact qwk (qfg h (by omega)) hs
  ·exact (qfg h (by omega)).more (by omega) hs
theorem qlo (l:qd):1≤ql l∧ql l≤5:=by
 unfold ql
 repeat' split
 all_goals decide
theorem qre {n:Nat} {p:PSt} {no:Int} {text:qd} {ended:Bool} (h:PB n p) (hs:n+4<900000) (ht:text.length<1000000):PB (n+4) (xz p no text ended).2:=by
 have h2:PB (n+2) (km p no text ended (ql text)).2:=qe8 h (by omega) ht
 unfold xz
 split
 ·exact h.more (by omega) hs
 ·split
  ·exact h.more (by omega) hs
  ·split
   ·exact (qzk h2 (by omega)).more (by omega) hs
   ·split
    ·exact qqp (qzj h2 (by omega) ht) hs ht
    ·exact (qqp h2 (by omega) ht).more (by omega) hs
theorem qxl (n:Nat) (p:PSt) (no at':Int) (text:qd) (ended:Bool) (hB:PB n p):x4 E 54 [.bx 0 0,.ag [.i no,.i at',.s text,.b ended]] 5 (hpF (parH 1 p)) ⟨.tu [],xj (parH 1 p),parH 5 (wg p no text)++yc (parH 1 p),9⟩:=by
 refine qam [.bx 0 0,.ag [.i no,.i at',.s text,.b ended]] (parH 1 p) 5 (.tu []) (parH 5 (wg p no text)) 9 Tryz.func54 rfl rfl rfl rfl fun S F ρ=>?_
 obtain⟨ls,fr,fu,its,bk,fs,rc⟩:=p
 have hml:(fs.map fldA).length=fs.length:=by simp
 by_cases ha:fs.length=40∨(fs.length=0∧rc=400)
 ·have e:wg ⟨ls,fr,fu,its,bk,fs,rc⟩ no text=⟨[text],no,true,its,bk,fs,rc⟩:=by
   unfold wg
   simp only [decide_eq_true ha]
  rw [e]
  apply qi [29]
  repeat' (first|apply And.intro|(intro h;try exact cDd)|exact cSd|apply qg [29]|refine exr ?_|refine qk ?_)
  all_goals (intros;simp only [hml] at *;first|(exfalso;omega)|(have hrc:rc=400:=(by omega);subst hrc;rfl))
 ·have e:wg ⟨ls,fr,fu,its,bk,fs,rc⟩ no text=⟨[text],no,false,its,bk,fs,rc⟩:=by
   unfold wg
   simp only [decide_eq_false ha]
  rw [e]
  apply qi [29]
  repeat' (first|apply And.intro|(intro h;try exact cDd)|exact cSd|apply qg [29]|refine exr ?_|refine qk ?_)
  all_goals (intros;simp only [hml] at *;first|(exfalso;omega)|(have hrc:¬ rc=400:=(by omega);simp [SV.evs,SV.ev,SV.rens,SV.ren,lkS,wp,hrc];exact⟨rfl,rfl,rfl⟩))
theorem qnt (n:Nat) (p:PSt) (no at':Int) (text:qd) (ended:Bool) (kind:Int) (hB:PB n p) (hs:n+2<900000) (ht:text.length<1000000):x4 E 52 [.bx 0 0,.ag [.i no,.i at',.s text,.b ended],.i kind] 5 (hpF (parH 1 p)) ⟨.a (errP (km p no text ended kind).1),xj (parH 1 p),parH 5 (km p no text ended kind).2++yc (parH 1 p),9⟩:=by
 refine qam [.bx 0 0,.ag [.i no,.i at',.s text,.b ended],.i kind] (parH 1 p) 5 (.a (errP (km p no text ended kind).1)) (parH 5 (km p no text ended kind).2) 9 Tryz.func52 rfl rfl rfl rfl fun S F ρ=>?_
 unfold km
 by_cases hk3:kind=3
 ·rw [if_pos hk3]
  by_cases h0:p.lines=[]
  ·rw [if_pos h0]
   have hl0:(p.lines.map fun x=>Sv x).length=0:=by simp [h0]
   have hft:=fun st=>qg5 no 2 st
   apply qi []
   repeat' (first|apply And.intro|(intro h;try exact cDd)|exact⟨Tryz.call53⟩|refine cpe hft ?_|exact cSd|apply qg []|refine exr ?_|refine qk ?_)
  ·rw [if_neg h0]
   have hl0:(p.lines.map fun x=>Sv x).length≠0:=by simp [h0]
   have hll:=hB.lines
   have hsm:=hB.small
   have hml:(p.lines.map fun x=>Sv x).length=p.lines.length:=by simp
   have hfc:=qj9 (n+1) { p with lines:=p.lines++[text] } (qkh hB (by omega) ht)
   cases ended with
   |true=>
    rw [if_pos rfl]
    apply qi []
    repeat' (first|apply And.intro|(intro h;try exact cDd)|(exact absurd (by assumption:true=false) (by decide))|exact cSd|apply qg []|refine exr ?_|refine qk ?_)
    all_goals first|(simp [SV.evs,SV.ev];done)|(simp [SV.evs];omega)
   |false=>
    rw [if_neg (by decide)]
    apply qi []
    repeat' (first|apply And.intro|(intro h;try exact cDd)|(exact absurd (by assumption:false=true) (by decide))|exact⟨Tryz.call55⟩|(refine xo hfc ?_)|exact cSd|apply qg []|refine exr ?_|refine qk ?_)
    all_goals first|(simp [SV.evs,SV.ev];done)|(simp [SV.evs];omega)
 ·rw [if_neg hk3]
  by_cases hk1:kind=1
  ·rw [if_pos hk1]
   have hfc:=qtf n p hB (by omega)
   apply qi []
   repeat' (first|apply And.intro|(intro h;try exact cDd)|exact⟨Tryz.call31⟩|(refine xo hfc ?_)|exact cSd|apply qg []|refine exr ?_|refine qk ?_)
  ·rw [if_neg hk1]
   have hfc:=qj9 n p hB
   apply qi []
   repeat' (first|apply And.intro|(intro h;try exact cDd)|exact⟨Tryz.call55⟩|(refine xo hfc ?_)|exact cSd|apply qg []|refine exr ?_|refine qk ?_)
theorem qzl (n:Nat) (p:PSt) (no at':Int) (text:qd) (ended:Bool) (hB:PB n p) (hs:n+4<900000) (ht:text.length<1000000) (hok:(xz p no text ended).1=none):x4 E 30 [.bx 0 0,.ag [.i no,.i at',.s text,.b ended]] 5 (hpF (parH 1 p)) ⟨.a (.v .nilIface),xj (parH 1 p),parH 5 (xz p no text ended).2++yc (parH 1 p),9⟩:=by
 refine qam [.bx 0 0,.ag [.i no,.i at',.s text,.b ended]] (parH 1 p) 5 (.a (.v .nilIface)) (parH 5 (xz p no text ended).2) 9 Tryz.func30 rfl rfl rfl rfl fun S F ρ=>?_
 have hfc:=qnt n p no at' text ended (ql text) hB (by omega) ht
 have hB1:=qe8 (no:=no) (text:=text) (ended:=ended) (kind:=ql text) hB (by omega) ht
 have hkr:=qlo text
 have hkd:=fun st=>qh8 text st (by omega)
 unfold xz at hok ⊢
 generalize km p no text ended (ql text)=fq at hfc hB1 hok ⊢
 obtain⟨fe,q⟩:=fq
 cases fe with
 |some e=>exact absurd hok (by simp)
 |none=>
  dsimp only at hB1 hfc hok ⊢
  have h1:=hB1.block
  have h2:=hB1.items
  have hmb:(q.block.map fun x=>Sv x).length=q.block.length:=by simp
  have hmi:(q.items.map yn).length=q.items.length:=by simp
  by_cases hk:ql text=5∨ended=false
  ·rw [if_pos hk] at hok
   exact absurd hok (by simp)
  ·rw [if_neg hk] at hok ⊢
   have hk5:ql text≠5:=fun h=>hk (.inl h)
   obtain rfl:ended=true:=by cases ended <;> simp_all
   by_cases hk1:ql text=1
   ·rw [if_pos hk1]
    apply qi []
    repeat' (first|apply And.intro|(intro h;try exact cDd)|exact⟨Tryz.call51⟩|refine cpe hkd ?_|exact⟨Tryz.call52⟩|(refine xo hfc ?_)|(exact absurd (by assumption:true=false) (by decide))|exact cSd|apply qg []|refine exr ?_|refine qk ?_)
    all_goals first|(simp [SV.evs,SV.ev];done)|(simp [SV.evs];omega)
   ·rw [if_neg hk1]
    by_cases hk4:ql text=4
    ·rw [if_pos hk4]
     have hbc:=qxl (n+2) q no at' text true hB1
     apply qi []
     repeat' (first|apply And.intro|(intro h;try exact cDd)|exact⟨Tryz.call51⟩|refine cpe hkd ?_|exact⟨Tryz.call52⟩|(refine xo hfc ?_)|exact⟨Tryz.call54⟩|(refine xo hbc ?_)|(exact absurd (by assumption:true=false) (by decide))|exact cSd|apply qg []|refine exr ?_|refine qk ?_)
     all_goals first|(simp [SV.evs,SV.ev,wg];done)|(simp [SV.evs,wg];omega)
    ·rw [if_neg hk4]
     apply qi []
     repeat' (first|apply And.intro|(intro h;try exact cDd)|exact⟨Tryz.call51⟩|refine cpe hkd ?_|exact⟨Tryz.call52⟩|(refine xo hfc ?_)|(exact absurd (by assumption:true=false) (by decide))|exact cSd|apply qg []|refine exr ?_|refine qk ?_)
     all_goals first|(simp [SV.evs,SV.ev];done)|(simp [SV.evs];omega)
theorem qzm (n:Nat) (p:PSt) (no at':Int) (text:qd) (ended:Bool) (hB:PB n p) (hs:n+4<900000) (ht:text.length<1000000) (a m:Int) (hok:(xz p no text ended).1=some (a,m)):x4 E 30 [.bx 0 0,.ag [.i no,.i at',.s text,.b ended]] 5 (hpF (parH 1 p)) ⟨.a (qh2 a m),xj (parH 1 p),parH 5 (km p no text ended (ql text)).2++yc (parH 1 p),9⟩:=by
 refine qam [.bx 0 0,.ag [.i no,.i at',.s text,.b ended]] (parH 1 p) 5 (.a (qh2 a m)) (parH 5 (km p no text ended (ql text)).2) 9 Tryz.func30 rfl rfl rfl rfl fun S F ρ=>?_
 have hfc:=qnt n p no at' text ended (ql text) hB (by omega) ht
 have hB1:=qe8 (no:=no) (text:=text) (ended:=ended) (kind:=ql text) hB (by omega) ht
 have hkr:=qlo text
 have hkd:=fun st=>qh8 text st (by omega)
 unfold xz at hok
 generalize km p no text ended (ql text)=fq at hfc hB1 hok ⊢
 obtain⟨fe,q⟩:=fq
 cases fe with
 |some e=>
  dsimp only at hB1 hfc hok ⊢
  obtain rfl:e=(a,m):=by simpa using hok
  apply qi []
  repeat' (first|apply And.intro|(intro h;try exact cDd)|exact⟨Tryz.call51⟩|refine cpe hkd ?_|exact⟨Tryz.call52⟩|(refine xo hfc ?_)|exact cSd|apply qg []|refine exr ?_|refine qk ?_)
 |none=>
  dsimp only at hB1 hfc hok ⊢
  by_cases hk:ql text=5∨ended=false
  ·rw [if_pos hk] at hok
   obtain⟨rfl,rfl⟩:no=a∧2=m:=by simpa using hok
   have hft:=fun st=>qg5 no 2 st
   cases ended with
   |true=>
    have hk5:ql text=5:=by simpa using hk
    apply qi []
    repeat' (first|apply And.intro|(intro h;try exact cDd)|exact⟨Tryz.call51⟩|refine cpe hkd ?_|exact⟨Tryz.call53⟩|refine cpe hft ?_|exact⟨Tryz.call52⟩|(refine xo hfc ?_)|(exact absurd (by assumption:true=false) (by decide))|exact cSd|apply qg []|refine exr ?_|refine qk ?_)
   |false=>
    apply qi []
    repeat' (first|apply And.intro|(intro h;try exact cDd)|exact⟨Tryz.call51⟩|refine cpe hkd ?_|exact⟨Tryz.call53⟩|refine cpe hft ?_|exact⟨Tryz.call52⟩|(refine xo hfc ?_)|(exact absurd (by assumption:false=true) (by decide))|exact cSd|apply qg []|refine exr ?_|refine qk ?_)
  ·rw [if_neg hk] at hok
   split at hok
   ·simp at hok
   ·split at hok
    ·simp at hok
    ·simp at hok
end Go.Proofs.YtmjmdjbdoiddeaaGreatDoor
namespace Go.Pl
open Go Go.Proofs
def p0:PSt:=⟨[],0,false,[],[],[],0⟩
def runL:Nat→List (qd×Bool)→PSt→Option (Int×Int)×PSt
 | _,[],p=>endP p
 |k,(t,e)::r,p=>match (xz p k t e).1 with
  |some x=>(some x,p)
  |none=>runL (k+1) r (xz p k t e).2
def wm (text:qd):Option (Int×Int)×List jj:=match (runL 0 (kf text) p0).1 with
 |some e=>(some e,[])
 |none=>(none,(runL 0 (kf text) p0).2.items)
end Go.Pl
namespace Go.Proofs.YtmjmdjbdoiddeaaGreatDoor
open Go Go.Av Go.RowKit Go.Proofs Go.Pl
theorem qwo (x:Option (Int×Int)):Pure (errP x):=by
 rcases x with _ | ⟨a,n⟩
 ·exact q7 _
 ·exact qfv a n
theorem qul (f:Fld):qiw (fldA f):=fun x hx=>by
 simp only [AV.cells,List.mem_cons,List.not_mem_nil,or_false] at hx
 rcases hx with rfl|rfl <;> exact q7 _
theorem qee (fs:List Fld):Pure (y6 fs):=qa9 fun x hx=>by
 obtain⟨f,_,rfl⟩:=List.mem_map.1 hx
 exact qul f
theorem qr7 (x:jj):qiw (yn x):=fun y hy=>by
 simp only [AV.cells,List.mem_cons,List.not_mem_nil,or_false] at hy
 rcases hy with rfl|rfl|rfl
 ·exact q7 _
 ·exact q7 _
 ·exact qee _
theorem qb9 (xs:List jj):Pure (yg xs):=qa9 fun x hx=>by
 obtain⟨f,_,rfl⟩:=List.mem_map.1 hx
 exact qr7 f
theorem qe1 {x y:AV} (hx:Pure x) (hy:Pure y):Pure (.tu [x,y]):=qeq fun z hz=>by
 simp only [List.mem_cons,List.not_mem_nil,or_false] at hz
 rcases hz with rfl|rfl
 ·exact hx
 ·exact hy
def qda (text:qd):AV:=.tu [yg (wm text).2,errP (wm text).1]
theorem qse (text:qd):Pure (qda text):=qe1 (qb9 _) (qwo _)
theorem qr2 {S:List AObj} {o k:Nat} {x:AObj} (h:k≠o):(S.set o x)[k]? = S[k]?:=List.getElem?_set_ne (Ne.symm h)
theorem q0c:PB 0 p0:=⟨by omega,by simp [p0],by simp [p0],by simp [p0],by simp [p0],by simp [p0],by simp [p0],by simp [p0],by simp [p0]⟩
theorem qzz (text:qd) (st:List AObj) (hl:text.length≤60000):qp E 16 [Sv text] st fun r st'=>r=qda text∧st'=st:=by
 refine wz [.s text] (qse text) Tryz.func16 rfl rfl (fun _=>rfl) rfl fun S0=>?_
 apply qi [13]
 repeat' (first|apply And.intro|(intro h;try exact cDd)|exact⟨Tryz.call29⟩|(refine Exists.intro _ ⟨qvh _,?_⟩)|exact cSd|apply qg [13]|refine exr ?_|refine qk ?_)
 refine qmx (X:=PSt×Option (Int×Int)) text 4 5 [0,1,2,3,4] (fun (p,e)=>⟨[(2,.bx 0 0),(3,.bx 1 0),(4,.bx 2 0),(15,.fn (.func 49) [] [.bx 4 0])],
   [(0,some (.cells 56 [.a kg])),(1,some (.cells 27 [.a (errP e)])),(2,some (.cells 86 [.bx 3 0])),(3,some (.cells 90 [.tp 5,.i p.frm,.b p.full,.tp 6,.tp 7,.tp 8,.i p.records])),(4,some (.cells 9 [.s text])),
    (5,some (.tip 1 9 (p.lines.map fun x=>Sv x))),(6,some (.tip 3 63 (p.items.map yn))),(7,some (.tip 1 9 (p.block.map fun x=>Sv x))),(8,some (.tip 2 53 (p.fields.map fldA)))],9⟩) _
  (fun k rest (p,e)=>e=none∧PB (4 * k) p∧k+rest.length≤text.length∧runL 0 (kf text) p0=runL k (kf rest) p)
  (fun c (p,e)=>∃ a m,c = .ret∧e=some (a,m)∧(runL 0 (kf text) p0).1=some (a,m)) (p0,none) ⟨rfl,q0c,by omega,rfl⟩ ?_ id (by omega) (fun _=>rfl) rfl (fun _=>rfl) (fun _=>rfl) rfl ?_ ?_ ?_
 ·skip
  repeat' (first|apply And.intro|(intro h;try exact cDd)|exact cSd|apply qg []|refine exr ?_|refine qk ?_)
 ·rintro k rest ⟨p,e⟩ ⟨rfl,hB,hkl,hrun⟩ hne hle
  have hcons:=y0 hne
  have hu:=qb4 10 rest
  have hpl:=qa8 10 rest
  have hr0:0<rest.length:=List.length_pos_iff.2 hne
  rw [hcons] at hrun
  simp only [runL] at hrun
  unfold qlp
  generalize hen:decide (10∈rest)=en at hrun
  generalize upto 10 rest=up at hu hrun ⊢
  have hB2:=qre (no:=k) (text:=up) (ended:=en) hB (by omega) (by omega)
  cases hah:(xz p k up en).1 with
  |some e=>
   obtain⟨a,m⟩:=e
   rw [hah] at hrun
   simp only at hrun
   have htk:=qzm (4 * k) p k ((text.length:Int) - rest.length) up en hB (by omega) (by omega) a m hah
   refine RA.mk fun S F ρ rd=>?_
   apply qi []
   repeat' (first|apply And.intro|(intro h;try exact cDd)|(refine RB.mk fun S rd=>?_;apply qi [])|exact⟨Tryz.call30⟩|(refine xo htk ?_)|(refine Exists.intro ((km p k up en (ql up)).2,some (a,m)) ⟨⟨a,m,rfl,rfl,by rw [hrun]⟩,?_⟩)|exact cSd|apply qg []|refine exr ?_|refine qk ?_)
   all_goals (rw [← hen];rfl)
  |none=>
   rw [hah] at hrun
   simp only at hrun
   have htk:=qzl (4 * k) p k ((text.length:Int) - rest.length) up en hB (by omega) (by omega) hah
   refine RA.mk fun S F ρ rd=>?_
   apply qi []
   repeat' (first|apply And.intro|(intro h;try exact cDd)|(refine RB.mk fun S rd=>?_;apply qi [])|exact⟨Tryz.call30⟩|(refine xo htk ?_)|(refine Exists.intro ((xz p k up en).2,none) ⟨⟨rfl,hB2,by omega,hrun⟩,?_⟩)|exact cSd|apply qg []|refine exr ?_|refine qk ?_)
   all_goals (rw [← hen];rfl)
 ·rintro k ⟨p,e⟩ ⟨rfl,hB,hkl,hrun⟩
  have hre:runL k (kf []) p=endP p:=by rw [yj];rfl
  rw [hre] at hrun
  have hpe:=qtf (4 * k) p hB (by omega)
  generalize endP p=fq at hrun hpe
  obtain⟨fe,q⟩:=fq
  cases fe with
  |some e=>
   have hpf:qda text = .tu [yg [],errP (some e)]:=by unfold qda wm;rw [hrun]
   rw [hpf]
   obtain⟨a,m⟩:=e
   repeat' (first|apply And.intro|(intro h;try exact cDd)|exact⟨Tryz.call31⟩|(refine xo hpe ?_)|exact cSd|apply qg []|refine exr ?_|refine qk ?_)
  |none=>
   have hpf:qda text = .tu [yg q.items,errP none]:=by unfold qda wm;rw [hrun]
   rw [hpf]
   dsimp only at hpe
   repeat' (first|apply And.intro|(intro h;try exact cDd)|exact⟨Tryz.call31⟩|(refine xo hpe ?_)|exact cSd|apply qg []|refine exr ?_|refine qk ?_)
 ·rintro c ⟨p,e⟩ ⟨a,m,rfl,rfl,hre⟩
  have hpf:qda text = .tu [yg [],errP (some (a,m))]:=by unfold qda wm;rw [hre]
  rw [hpf]
  repeat' (first|apply And.intro|(intro h;try exact cDd)|exact cSd|apply qg []|refine exr ?_|refine qk ?_)
end Go.Proofs.YtmjmdjbdoiddeaaGreatDoor
namespace Go.Proofs.YtmjmdjbdoiddeaaGreatDoor
open Go Go.Av Go.RowKit Go.Extern.Stop Go.Stop Go.Extern Go.Proofs
theorem isT.cmp (w : World) : (ReflectliteType.method (fun t => do Rtype.noPackHeld "Comparable" t; (fun a => Value.bool a.comparable) <$> typeInfo t) #[.agg #[.pointer (some ⟨8, 85, none⟩)]]).run Tryz.prog w = .ok (.bool true) w := by kernel_rfl
end Go.Proofs.YtmjmdjbdoiddeaaGreatDoor
namespace Go.Pl
open Go Go.Proofs
inductive ErrV where
 |no
 |num (n:Int)
 |at' (a n:Int)
 deriving DecidableEq
def ErrV.code:ErrV→Int
 | .no=>0
 | .num n=>n
 | .at' _ n=>n
def ErrV.pos:ErrV→Int
 | .no=> -9
 | .num _=> -9
 | .at' a _=>a
def qbt:Nat→List Fld→ErrV
 | _,[]=>.no
 |k,f::r=>if qan f=0 then qbt (k+1) r else .at' k (qan f)
def qep (fs:List Fld):ErrV:=if fs=[] then .num 2 else if 40<fs.length then .num 11 else qbt 0 fs
theorem qhz:∀ (k:Nat) (r:List Fld),(qbt k r).code=0↔qbt k r = .no
 |k,[]=>by simp [qbt,ErrV.code]
 |k,f::r=>by
  unfold qbt
  split
  ·exact qhz _ r
  ·rename_i h
   simp [ErrV.code,h]
theorem qpc (fs:List Fld):(qep fs).code=0↔qep fs = .no:=by
 unfold qep
 split
 ·simp [ErrV.code]
 ·split
  ·simp [ErrV.code]
  ·exact qhz _ _
end Go.Pl
namespace Go.Proofs.YtmjmdjbdoiddeaaGreatDoor
open Go Go.Av Go.RowKit Go.Proofs Go.Pl
theorem qs0 {st st':List AObj} (h:∀ k,k<st.length→st'[k]? = st[k]?):∃ ext,st'=st++ext:=by
 refine qgt ?_ h
 rcases Nat.eq_zero_or_pos st.length with h0|h0
 ·omega
 ·have h1:=h (st.length - 1) (by omega)
  have h2:st[st.length - 1]? = some (st[st.length - 1]'(by omega)):=List.getElem?_eq_getElem (by omega)
  have:=lt_of_getElem? (h1.trans h2)
  omega
def gErr (x:vi):ErrV:=if x.kind=2 then (if x.fields=[] then .no else .num 2) else if x.kind=1∨x.kind=3 then qep x.fields else .num 2
def qk8:Nat→List vi→ErrV
 | _,[]=>.no
 |k,x::r=>if (gErr x).code=0 then qk8 (k+1) r else .at' k (gErr x).code
def eErr (b:List vi):ErrV:=if b.length<1∨40<b.length then .num 1 else qk8 0 b
theorem qnk (x:vi):(gErr x).code=0↔gErr x = .no:=by
 unfold gErr
 split
 ·split <;> simp [ErrV.code]
 ·split
  ·exact qpc _
  ·simp [ErrV.code]
def errA:ErrV→AV
 | .no=>.v .nilIface
 | .num n=>.ifc 85 (Iv n)
 | .at' a n=>.ifc 132 (.pp [Iv a,.ifc 85 (Iv n)])
theorem qfd (e:ErrV):Pure (errA e):=by
 cases e with
 |no=>exact q7 _
 |num n=>exact qg6 (q7 _)
 |at' a n=>exact qfv a n
def KeyB (fs:List Fld):Prop:=∀ f∈fs,f.1.length<4294967281
structure EdB (x:vi):Prop where
 keys:KeyB x.fields
 len:x.fields.length<9223372036854775808
 id1 : -9223372036854775808≤x.id
 id2:x.id≤9223372036854775807
def qla (x:vi):qd:=qfl x++[10]++qml [32,32] (qum x.fields)
def encF (b:List vi):qd:=b.flatMap qla
theorem qk4:∀ (k:Nat) (r:List Fld),qbt k r = .no↔∀ f∈r,ye f
 |k,[]=>by simp [qbt]
 |k,f::r=>by
  unfold qbt
  split
  ·rename_i h
   rw [qk4 (k+1) r]
   have:=(qjj f).1 h
   simp [this]
  ·rename_i h
   have h2:¬ ye f:=fun g=>h ((qjj f).2 g)
   simp [h2]
theorem qt7 {fs:List Fld} (h:qep fs = .no):fs≠[]∧fs.length≤40∧∀ f∈fs,ye f:=by
 unfold qep at h
 split at h
 ·exact absurd h (by simp)
 ·split at h
  ·exact absurd h (by simp)
  ·exact⟨by assumption,by omega,(qk4 _ _).1 h⟩
theorem q01 {x:vi} (h:gErr x = .no):x.fields.length≤40∧∀ f∈x.fields,ye f:=by
 unfold gErr at h
 split at h
 ·split at h
  ·rename_i h0;rw [h0];simp
  ·exact absurd h (by simp)
 ·split at h
  ·exact (qt7 h).2
  ·exact absurd h (by simp)
theorem qph:∀ (k:Nat) (b:List vi),qk8 k b = .no↔∀ x∈b,gErr x = .no
 |k,[]=>by simp [qk8]
 |k,x::b=>by
  unfold qk8
  split
  ·rename_i h
   rw [qph (k+1) b]
   have:=(qnk x).1 h
   simp [this]
  ·rename_i h
   have h2:¬ gErr x = .no:=fun g=>h ((qnk x).2 g)
   simp [h2]
theorem q0w {b:List vi} (h:eErr b = .no):1≤b.length∧b.length≤40∧∀ x∈b,gErr x = .no:=by
 unfold eErr at h
 split at h
 ·exact absurd h (by simp)
 ·exact⟨by omega,by omega,(qph _ _).1 h⟩
end Go.Proofs.YtmjmdjbdoiddeaaGreatDoor
namespace Go.Av
open Go Go.RowKit
theorem qz5 {b:Nat} {st l:List AObj} {sz:Nat} {T:TypeId} {xs:List AV} {c:AV} (h:TipO b st sz T xs c):TipO b (st++l) sz T xs c:=by
 rcases h with h|h
 ·exact .inl (qe5 h)
 ·exact .inr h
theorem q11 {b:Nat} {st st':List AObj} {sz:Nat} {T:TypeId} {xs:List AV} {c:AV} (hs:∀ (t m sz:Nat) (T:TypeId),st[t]? = some (AObj.tip m sz T)→st'[t]? = st[t]?) (h:TipO b st sz T xs c):TipO b st' sz T xs c:=by
 rcases h with (h | ⟨t,h1,h2,h3⟩)|h
 ·exact .inl (.inl h)
 ·exact .inl (.inr ⟨t,h1,(hs t _ _ _ h2).trans h2,h3⟩)
 ·exact .inr h
end Go.Av
namespace Go.Proofs.YtmjmdjbdoiddeaaGreatDoor
open Go Go.Av Go.RowKit Go.Proofs Go.Pl
theorem qs6 {st l:List AObj}:st.length≤(st++l).length:=by simp
theorem qx5 {b o:Nat} {st:List AObj} {sz:Nat} {T:TypeId} {xs:List AV} {c:AV} {x:AObj} (h:TipO b st sz T xs c) (hn:qex st[o]?):TipO b (st.set o x) sz T xs c:=
 q11 (fun t m sz T ht=>List.getElem?_set_ne (fun e=>by subst e;exact hn _ _ _ ht)) h
structure OutI (st:List AObj) (S:List AObj):Prop where
 low:∀ j,j<st.length→S[j]? = st[j]?
 len:st.length≤S.length
theorem OutI.pre {st S l:List AObj} (h:OutI st S):OutI st (S++l):=⟨fun j hj=>(List.getElem?_append_left (by have:=h.len;omega)).trans (h.low j hj),by have:=h.len;simp;omega⟩
theorem OutI.set {st S:List AObj} {o:Nat} {x:AObj} (h:OutI st S) (ho:st.length≤o):OutI st (S.set o x):=⟨fun j hj=>(qr2 (by omega)).trans (h.low j hj),by have:=h.len;simp;omega⟩
theorem OutI.fr {st S S':List AObj} {t:Nat} (h:OutI st S) (hf:Fr S S' t) (ht:st.length≤t):OutI st S':=⟨fun j hj=>(hf.same j (by omega) (by have:=h.len;omega)).trans (h.low j hj),Nat.le_trans h.len hf.len⟩
theorem OutI.ext {st S:List AObj} (h:OutI st S):∃ ext,S=st++ext:=qs0 h.low
theorem qjy {E:Env} {rd:Option Nat} {N:Nat} {ops:Array Oper} {K:AS→Prop} {s:AS} {rest:List Oper} {d:Option Tmp} {T:TypeId} {p:String} {af:Array Edge} {t e:TypeId} {len sz:Nat} {agg:Bool} {parts:Array (Nat×Operand)} {zs cs:List AV} {st:List AObj} (hst:s.st=st) (hu:E.P.underlying t=some (.slice e)) (ht:tyOf E.P e=some (sz,agg)) (hz:qdd E.P e len=some zs)
  (hf:qaz (fun i=>some (i * sz,sz)) zs (wh N s parts)=some cs) (hsz:Nat.ble (len * sz) 16777216=true)
  (h:AOps E rd N ops rest K (AS.put ⟨s.t,st++[.cells 0 e cs],s.df⟩ d (.os st.length 0 0 len len))):AOps E rd N ops (⟨d,.buildSlice t len parts,T,p,af,none⟩::rest) K s:=
 qck (loc:=[]) (by rw [hst];simp) hu ht hz hf hsz h
end Go.Proofs.YtmjmdjbdoiddeaaGreatDoor
namespace Go.Pl
open Go Go.Proofs Go.Proofs.YtmjmdjbdoiddeaaGreatDoor
def GF (fs:List Fld):Prop:=fs.length≤40∧∀ f∈fs,ye f
structure PI (p:PSt):Prop where
 items:∀ x∈p.items,GF x.fields∧(x.kind=3↔x.fields≠[])
 fields:GF p.fields
 full:p.lines≠[]→p.full=false→p.fields.length<40
theorem qsq {ls:List qd} (h:(z5 ls).2=0):ye (z5 ls).1:=by
 unfold z5 at h ⊢
 split at h
 ·split at h
  ·simp at h
  ·rename_i h1 h2
   rw [if_pos h1,if_neg h2]
   exact⟨(qfj.1 h1.2.1).2.2,Nat.le_of_not_lt h2⟩
 ·simp at h
theorem PI.flush {p:PSt} (h:PI p):PI (vb p).2:=by
 unfold vb
 split
 ·exact h
 ·rename_i hl
  split
  ·exact h
  ·rename_i hu
   split
   ·exact h
   ·rename_i hf
    have hlt:=h.full hl (by simpa using hf)
    refine⟨h.items,⟨by simp;omega,fun f hm=>?_⟩,by simp⟩
    rcases List.mem_append.1 hm with hm|hm
    ·exact h.fields.2 f hm
    ·simp at hm;subst hm;exact qsq (by simpa using hu)
theorem PI.close {p:PSt} (h:PI p):PI (yq p):=by
 unfold yq
 split
 ·exact⟨h.items,⟨by simp,by simp⟩,fun h1 h2=>by simp⟩
 ·refine⟨fun x hx=>?_,⟨by simp,by simp⟩,fun h1 h2=>by simp⟩
  rcases List.mem_append.1 hx with hx|hx
  ·exact h.items x hx
  ·simp at hx
   subst hx
   refine⟨h.fields,?_⟩
   simp only
   split
   ·rename_i h0;simp [h0]
   ·rename_i h0;simp [h0]
theorem PI.end' {p:PSt} (h:PI p):PI (endP p).2:=by
 unfold endP
 split
 ·exact h
 ·exact h.flush.close
theorem PI.lines' {p:PSt} (h:PI p) (hl:p.lines≠[]) (text:qd):PI { p with lines:=p.lines++[text] }:=⟨h.items,h.fields,fun _ hf=>h.full hl hf⟩
theorem PI.begin' {p:PSt} (h:PI p) (no:Int) (text:qd):PI (wg p no text):=by
 refine⟨h.items,h.fields,fun _ hf=>?_⟩
 have:=h.fields.1
 simp only [wg,decide_eq_false_iff_not,not_or] at hf ⊢
 omega
theorem PI.ahead {p:PSt} (h:PI p) (no:Int) (text:qd) (ended:Bool) (kind:Int):PI (km p no text ended kind).2:=by
 unfold km
 split
 ·split
  ·exact h
  ·rename_i hl
   split
   ·exact h.lines' hl text
   ·exact (h.lines' hl text).flush
 ·split
  ·exact h.end'
  ·exact h.flush
theorem PI.take {p:PSt} (h:PI p) (no:Int) (text:qd) (ended:Bool):PI (xz p no text ended).2:=by
 have ha:=h.ahead no text ended (ql text)
 unfold xz
 split
 ·exact h
 ·split
  ·exact h
  ·split
   ·refine⟨fun x hx=>?_,ha.fields,ha.full⟩
    rcases List.mem_append.1 hx with hx|hx
    ·exact ha.items x hx
    ·simp at hx;subst hx;exact⟨⟨by simp,by simp⟩,by simp⟩
   ·split
    ·have hb:=ha.begin' no text
     exact⟨hb.items,hb.fields,hb.full⟩
    ·exact⟨ha.items,ha.fields,ha.full⟩
theorem PI.run:∀ (ls:List (qd×Bool)) (k:Nat) (p:PSt),PI p→PI (runL k ls p).2
 | [],k,p,h=>h.end'
 |(t,e)::r,k,p,h=>by
  unfold runL
  split
  ·exact h
  ·exact PI.run r (k+1) _ (h.take k t e)
theorem qpf (p:PSt):(yq p).items.length≤p.items.length+1:=by
 unfold yq
 split <;> simp
theorem qet (p:PSt):(vb p).2.items=p.items:=by
 unfold vb
 split
 ·rfl
 ·split
  ·rfl
  ·split <;> rfl
theorem qlb (p:PSt):(endP p).2.items.length≤p.items.length+1:=by
 unfold endP
 split
 ·simp
 ·have:=qpf (vb p).2
  rw [qet] at this
  exact this
theorem qos (p:PSt) (no:Int) (text:qd) (ended:Bool) (kind:Int):(km p no text ended kind).2.items.length≤p.items.length+1:=by
 unfold km
 split
 ·split
  ·simp
  ·split
   ·simp
   ·rw [qet];simp
 ·split
  ·exact qlb p
  ·rw [qet];simp
theorem qsp (p:PSt) (no:Int) (text:qd) (ended:Bool):(xz p no text ended).2.items.length≤p.items.length+2:=by
 have ha:=qos p no text ended (ql text)
 unfold xz
 split
 ·simp
 ·split
  ·simp
  ·split
   ·simp;omega
   ·split
    ·simp [wg];omega
    ·simp;omega
theorem qhd:∀ (ls:List (qd×Bool)) (k:Nat) (p:PSt),(runL k ls p).2.items.length≤p.items.length+2 * ls.length+1
 | [],k,p=>by have:=qlb p;simp [runL];omega
 |(t,e)::r,k,p=>by
  unfold runL
  split
  ·simp;omega
  ·have h1:=qhd r (k+1) (xz p k t e).2
   have h2:=qsp p k t e
   simp only [List.length_cons]
   omega
end Go.Pl
namespace Go.Proofs.YtmjmdjbdoiddeaaGreatDoor
open Go Go.Av Go.RowKit Go.Proofs Go.Pl
theorem qd4 {α : Type} [DecidableEq α] {a b:List α} {k:Nat} {d : α} (hl:a.length=b.length) (hk:k<a.length) (h:a.take k=b.take k) (h2:a.getD k d=b.getD k d):a.take (k+1)=b.take (k+1):=by
 rw [List.take_succ_eq_append_getElem hk,List.take_succ_eq_append_getElem (by omega),h]
 congr 2
 simpa [List.getD,hk,show k<b.length by omega] using h2
end Go.Proofs.YtmjmdjbdoiddeaaGreatDoor
namespace Go.Pl
open Go Go.Proofs Go.Proofs.YtmjmdjbdoiddeaaGreatDoor
theorem qdc (s:qd) (r:List qd):vh (s::r)=s++10::vh r:=by simp [vh]
theorem qev:∀ (ls:List qd),(∀ s∈ls,10∉s)→kf (vh ls)=ls.map fun s=>(s,true)
 | [],_=>by simp [vh,yj]
 |s::r,h=>by
  have hs:=h s (by simp)
  rw [qdc,y0 (by simp),qa3 _ hs,qcp _ hs,qev r fun x hx=>h x (by simp [hx])]
  simp
theorem qsa {f:Fld} (h:ye f):∀ s∈qga f,10∉s:=fun s hs=>by
 unfold qga at hs
 rcases List.mem_cons.1 hs with rfl|hs
 ·have h1:=qlz f.2 _ (qy3 f.2)
  have h2:=h.1.2.2.2.2.2
  unfold qpx
  split <;> simp_all
 ·obtain⟨x,hx,rfl⟩:=List.mem_map.1 hs
  have h1:=qlz f.2 x (List.mem_of_mem_tail hx)
  have:=qvj h1
  simp [this]
theorem qun (fs:List Fld):qum fs=vh (fs.flatMap qga):=by
 induction fs with
 |nil=>rfl
 |cons f r ih=>
  rw [List.flatMap_cons,qiq,← ih]
  simp [qum]
theorem qni {fs:List Fld} (h:∀ f∈fs,ye f):∀ s∈fs.flatMap qga,10∉s:=fun s hs=>by
 obtain⟨f,hf,hs⟩:=List.mem_flatMap.1 hs
 exact qsa (h f hf) s hs
theorem qr5 {ls:List qd} (h:∀ s∈ls,10∉s):qml [32,32] (vh ls)=vh (ls.map fun s=>[32,32]++s):=by
 unfold qml indF
 rw [qev ls h]
 simp only [vh,List.flatMap_map,qmm,if_pos]
theorem qy4 {ls:List qd} (h:∀ s∈ls,10∉s):∀ s∈ls.map (fun s=>[32,32]++s),10∉s:=fun s hs=>by
 obtain⟨x,hx,rfl⟩:=List.mem_map.1 hs
 have:=h x hx
 simp [this]
def qix (x:vi):List qd:=(x.fields.flatMap qga).map fun s=>[32,32]++s
theorem qfw (v:Int):∀ c∈Lib.itoa v,c≠10∧c≠32:=fun c hc=>by
 by_cases hv:v<0
 ·rw [qcn hv] at hc
  rcases List.mem_cons.1 hc with rfl|hc
  ·decide
  ·have:=xb _ _ (Nat.le_refl _) c hc
   constructor <;> rintro rfl <;> simp at this
 ·rw [qdj (by omega)] at hc
  have:=xb _ _ (Nat.le_refl _) c hc
  constructor <;> rintro rfl <;> simp at this
theorem qw2 (x:vi):10∉qfl x:=by
 unfold qfl
 split
 ·rename_i hk
  have h1:=qfw x.id
  intro hc
  rcases List.mem_append.1 hc with hc|hc
  ·have:x.kind=1∨x.kind=2∨x.kind=3:=by omega
   rcases this with h|h|h <;> rw [h] at hc <;> revert hc <;> decide
  ·exact (h1 10 hc).1 rfl
 ·simp
theorem qr1 {x:vi} (hg:∀ f∈x.fields,ye f):qla x=vh (qfl x::qix x):=by
 unfold qla qix
 rw [qdc,qun,qr5 (qni hg)]
 simp
theorem qwi {x:vi} (hg:∀ f∈x.fields,ye f):∀ s∈qix x,10∉s:=qy4 (qni hg)
theorem qwh {x:vi} (hg:∀ f∈x.fields,ye f):∀ s∈qix x,10∉s∧[32,32] <+: s:=fun s hs=>⟨qwi hg s hs,by
 obtain⟨y,_,rfl⟩:=List.mem_map.1 hs
 exact List.prefix_append _ _⟩
structure EncG (x:vi):Prop where
 kind:x.kind=1∨x.kind=2∨x.kind=3
 len:x.fields.length≤40
 good:∀ f∈x.fields,ye f
 id1 : -9223372036854775808≤x.id
 id2:x.id≤9223372036854775807
theorem q0x {x:vi} (h:gErr x = .no) (hB:EdB x):EncG x:=by
 obtain⟨h1,h2⟩:=q01 h
 refine⟨?_,h1,h2,hB.id1,hB.id2⟩
 unfold gErr at h
 split at h
 ·exact .inr (.inl (by assumption))
 ·split at h
  ·rename_i hk;omega
  ·simp at h
def SpL (L:List qd):Prop:=L≠[]∧∀ s∈L,10∉s∧[32] <+: s
def encL (b:List vi):List qd:=b.flatMap fun x=>qfl x::qix x
theorem qwm {b:List vi} (hg:∀ x∈b,EncG x):encF b=vh (encL b):=by
 induction b with
 |nil=>rfl
 |cons x r ih=>
  have e:encL (x::r)=(qfl x::qix x)++encL r:=by simp [encL]
  have e2:encF (x::r)=qla x++encF r:=by simp [encF]
  rw [e,qiq,e2,qr1 (hg x (by simp)).good,ih fun y hy=>hg y (by simp [hy])]
theorem q1b {x:vi} (hk:x.kind=1∨x.kind=2∨x.kind=3):[32] <+: qfl x:=by
 unfold qfl
 rw [if_pos (by omega)]
 rcases hk with h|h|h <;> rw [h] <;> exact⟨_,rfl⟩
theorem q0y {b:List vi} (hne:b≠[]) (hg:∀ x∈b,EncG x):SpL (encL b):=by
 refine⟨?_,fun s hs=>?_⟩
 ·cases b with
  |nil=>exact absurd rfl hne
  |cons x r=>simp [encL]
 ·obtain⟨x,hx,hs⟩:=List.mem_flatMap.1 hs
  have hG:=hg x hx
  rcases List.mem_cons.1 hs with rfl|hs
  ·exact⟨qw2 x,q1b hG.kind⟩
  ·obtain⟨h1,t,ht⟩:=qwh hG.good s hs
   exact⟨h1,[32]++t,by rw [← ht];rfl⟩
theorem q1x {L:List qd} (h:SpL L):sp true (vh L)=true:=by
 rw [← qg0 _ (vh L) (Nat.le_refl _),qev L fun s hs=>(h.2 s hs).1]
 intro x hx
 obtain⟨s,hs,rfl⟩:=List.mem_map.1 hx
 exact (h.2 s hs).2
theorem qx3 {L:List qd} (h:SpL L):(vh L)[0]? = some 32:=by
 obtain⟨hne,hs⟩:=h
 cases L with
 |nil=>exact absurd rfl hne
 |cons s r=>
  obtain⟨t,ht⟩:=(hs s (by simp)).2
  rw [qdc,← ht]
  rfl
theorem qn2:∀ (L:List qd),L≠[]→(vh L).getLast? = some 10
 | [],h=>absurd rfl h
 | [s],_=>by rw [qdc];simp [vh]
 |s::t::r,_=>by
  have ih:=qn2 (t::r) (by simp)
  have hne:vh (t::r)≠[]:=fun e=>by rw [e] at ih;simp at ih
  rw [qdc,List.getLast?_append,List.getLast?_cons,ih]
  simp
theorem qwn {b:List vi} (he:eErr b = .no) (hB:∀ x∈b,EdB x) (hl:(encF b).length≤50000):qdp (encF b):=by
 obtain⟨h1,h40,hg⟩:=q0w he
 have hG:∀ y∈b,EncG y:=fun y hy=>q0x (hg y hy) (hB y hy)
 have hne:b≠[]:=fun e=>by subst e;simp at h1
 have hS:=q0y hne hG
 have ht:=qwm hG
 have hh:=qx3 hS
 have hlast:=qn2 _ hS.1
 rw [← ht] at hh hlast
 have hsp:=q1x hS
 rw [← ht] at hsp
 refine⟨?_,hl,hlast,by rw [qfb];exact hsp⟩
 rcases hc:encF b with _ | ⟨c,_ | ⟨d,r⟩⟩
 ·rw [hc] at hh;simp at hh
 ·rw [hc] at hh hlast
  simp at hh hlast
  rw [hh] at hlast
  simp at hlast
 ·simp
end Go.Pl
namespace Go.Proofs.YtmjmdjbdoiddeaaGreatDoor
open Go Go.Av Go.RowKit Go.Proofs Go.Pl
theorem qf8 {l:qd} {i:Nat} {c:UInt8} (h:l[i]? = some c):l.getD i 0=c:=by simp [List.getD,h]
end Go.Proofs.YtmjmdjbdoiddeaaGreatDoor
namespace Go.Pl
open Go Go.Proofs Go.Proofs.YtmjmdjbdoiddeaaGreatDoor
def OutG (out:List vi) (m:Nat):Prop:=∀ x∈out,(∀ f∈x.fields,ye f)∧x.fields.length≤m∧-9223372036854775808≤x.id∧x.id≤9223372036854775807
theorem OutG.mono {out:List vi} {m m':Nat} (h:OutG out m) (hm:m≤m'):OutG out m':=fun x hx=>⟨(h x hx).1,by have:=(h x hx).2.1;omega,(h x hx).2.2⟩
end Go.Pl
namespace Go.Pl
open Go Go.Proofs
def ve:List (qd×Bool)→List qd
 | []=>[]
 |(t,_)::r=>if ql t=3 then t::ve r else []
def vg (prev:Bool) (t:qd) (e:Bool) (r:List (qd×Bool)) (fields:Nat) (records:Int):Int:=
 if ql t=5∨(ql t=3∧prev=false)∨e=false then 2
 else if ql t≠4 then 0
 else if (z5 (t::ve r)).2≠0 then (z5 (t::ve r)).2
 else if 40≤fields∨(fields=0∧400≤records) then 11 else 0
theorem qr0 {α : Type} {l:List α} {x : α} (h:l.getLast? = some x):l.dropLast++[x]=l:=by
 have hne:l≠[]:=fun e=>by subst e;simp at h
 rw [List.getLast?_eq_some_getLast hne] at h
 obtain rfl:=Option.some.inj h
 exact List.dropLast_concat_getLast hne
def outR (now:jj) (out:List jj):List jj:=if now.raw=[] then out else out++[now]
def refL:Nat→List (qd×Bool)→Bool→jj→Int→List jj→Option (Int×Int)×List jj
 | _,[],_,now,_,out=>(none,outR now out)
 |i,(t,e)::r,prev,now,rec,out=>
  if vg prev t e r now.fields.length rec≠0 then (some ((i:Int),vg prev t e r now.fields.length rec),[])
  else if ql t=1 then refL (i+1) r false ⟨2,[],[]⟩ rec (outR now out++[⟨1,t++[10],[]⟩])
  else if ql t=4 then refL (i+1) r true ⟨3,now.raw++t++[10],now.fields++[(z5 (t::ve r)).1]⟩ (if now.kind=2 then rec+1 else rec) out
  else refL (i+1) r (decide (ql t=3)) ⟨now.kind,now.raw++t++[10],now.fields⟩ rec out
def qog:List (qd×Bool)→Prop
 | []=>True
 |(_,e)::r=>(e=false→r=[])∧qog r
theorem qjr:∀ (n:Nat) (l:qd),l.length≤n→qog (kf l)
 | 0,l,h=>by
  have:l=[]:=List.length_eq_zero_iff.1 (by omega)
  subst this
  rw [yj]
  trivial
 |n+1,l,h=>by
  by_cases hl:l=[]
  ·subst hl
   rw [yj]
   trivial
  ·rw [y0 hl]
   refine⟨fun he=>?_,qjr n _ (by have:=yz (c:=10) hl;omega)⟩
   have h10:10∉l:=by simpa using he
   have:past 10 l=[]:=by
    unfold past
    rw [qcs h10]
    exact List.drop_eq_nil_of_le (by omega)
   rw [this,yj]
def qb8 (ls:List qd) (full:Bool):Int:=if (z5 ls).2≠0 then (z5 ls).2 else if full=true then 11 else 0
theorem qef {p:PSt} (h:p.lines≠[]) (hc:qb8 p.lines p.full≠0):(vb p).1=some (p.frm,qb8 p.lines p.full):=by
 unfold qb8 at *
 unfold vb
 rw [if_neg h]
 by_cases h1:(z5 p.lines).2≠0
 ·rw [if_pos h1,if_pos h1]
 ·rw [if_neg h1] at hc ⊢
  rw [if_neg h1]
  by_cases h2:p.full=true
  ·rw [if_pos h2,if_pos h2]
  ·rw [if_neg h2] at hc
   exact absurd rfl hc
theorem qnj {p:PSt} (h:p.lines=[]∨qb8 p.lines p.full=0):vb p=(none,{ p with lines:=[],fields:=p.fields++(if p.lines=[] then [] else [(z5 p.lines).1]) }):=by
 unfold vb
 by_cases h0:p.lines=[]
 ·rw [if_pos h0,if_pos h0]
  obtain⟨a,b,c,d,e,f,g⟩:=p
  simp only at h0
  subst h0
  simp
 ·rw [if_neg h0,if_neg h0]
  have h:=h.resolve_left h0
  unfold qb8 at h
  by_cases h1:(z5 p.lines).2≠0
  ·rw [if_pos h1] at h
   exact absurd h h1
  ·rw [if_neg h1] at h ⊢
   by_cases h2:p.full=true
   ·rw [if_pos h2] at h
    simp at h
   ·rw [if_neg h2]
theorem qkm {p:PSt} {no:Int} {t:qd} {e:Bool} {x:Int×Int} (h:(km p no t e (ql t)).1=some x):(xz p no t e).1=some x:=by
 unfold xz
 rw [h]
theorem qkn {p q:PSt} {no:Int} {t:qd} {e:Bool} (h:km p no t e (ql t)=(none,q)) (hc:ql t=5∨e=false):(xz p no t e).1=some (no,2):=by
 unfold xz
 rw [h]
 simp only
 rw [if_pos hc]
theorem qgi {p q:PSt} {no:Int} {t:qd} (h:km p no t true (ql t)=(none,q)) (hc:ql t≠5):xz p no t true =
  if ql t=1 then (none,{ q with items:=q.items++[⟨1,t++[10],[]⟩] }) else if ql t=4 then (none,{ wg q no t with block:=q.block++[t] }) else (none,{ q with block:=q.block++[t] }):=by
 unfold xz
 rw [h]
 simp only
 rw [if_neg (by simp [hc])]
theorem qcz {k:Nat} {t:qd} {e:Bool} {r:List (qd×Bool)} {p:PSt} {x:Int×Int} (h:(xz p k t e).1=some x):(runL k ((t,e)::r) p).1=some x:=by
 rw [runL,h]
theorem qd2 {k:Nat} {t:qd} {e:Bool} {r:List (qd×Bool)} {p q:PSt} (h:xz p k t e=(none,q)):runL k ((t,e)::r) p=runL (k+1) r q:=by
 rw [runL,h]
theorem qkw {p:PSt} {no:Int} {t:qd} (hk:ql t=3) (hl:p.lines≠[]):km p no t true (ql t)=(none,{ p with lines:=p.lines++[t] }):=by
 unfold km
 rw [if_pos hk,if_neg hl,if_pos rfl]
theorem qkv {p:PSt} {no:Int} {t:qd} (hk:ql t=3) (hl:p.lines≠[]):km p no t false (ql t)=vb { p with lines:=p.lines++[t] }:=by
 unfold km
 rw [if_pos hk,if_neg hl,if_neg (by simp)]
theorem qdm {p:PSt} {no:Int} {t:qd} {e:Bool} (hk:ql t≠3) (h1:ql t≠1):km p no t e (ql t)=vb p:=by
 unfold km
 rw [if_neg hk,if_neg h1]
theorem qft {p:PSt} {no:Int} {t:qd} {e:Bool} (h1:ql t=1):km p no t e (ql t)=endP p:=by
 unfold km
 rw [if_neg (by omega),if_pos h1]
theorem qg3 {t:qd} {e:Bool} {r:List (qd×Bool)} (h:ql t≠3):ve ((t,e)::r)=[]:=by
 rw [ve,if_neg h]
theorem qdq {t:qd} {e:Bool} {r:List (qd×Bool)} (h:ql t=3):ve ((t,e)::r)=t::ve r:=by
 rw [ve,if_pos h]
theorem qpi {p:PSt} {x:Int×Int} (h:(vb p).1=some x):(endP p).1=some x:=by
 unfold endP
 rw [h]
theorem qmh {p q:PSt} (h:vb p=(none,q)):endP p=(none,yq q):=by
 unfold endP
 rw [h]
theorem qqq:∀ (r:List (qd×Bool)) (p:PSt) (k:Nat) (c:Int),qog r→p.lines≠[]→qb8 (p.lines++ve r) p.full=c→c≠0→(runL k r p).1=some (p.frm,c)
 | [],p,k,c,_,hl,hc,h0=>by
  rw [ve,List.append_nil] at hc
  rw [runL]
  subst hc
  exact qpi (qef hl h0)
 |(t,e)::r,p,k,c,hE,hl,hc,h0=>by
  by_cases h3:ql t=3
  ·rw [qdq h3] at hc
   cases e with
   |true=>
    have ht:=qgi (qkw (no:=k) h3 hl) (by omega)
    rw [if_neg (by omega),if_neg (by omega)] at ht
    rw [qd2 ht]
    exact qqq r _ (k+1) c hE.2 (by simp) (by simpa using hc) h0
   |false=>
    have hr:=hE.1 rfl
    subst hr
    refine qcz (qkm ?_)
    rw [qkv h3 hl]
    have hc':qb8 (p.lines++[t]) p.full=c:=hc
    have:=qef (p:={ p with lines:=p.lines++[t] }) (by simp) (by simp only;rw [hc'];exact h0)
    simp only at this
    rw [this,hc']
  ·rw [qg3 h3,List.append_nil] at hc
   subst hc
   refine qcz (qkm ?_)
   by_cases h1:ql t=1
   ·rw [qft h1]
    exact qpi (qef hl h0)
   ·rw [qdm h3 h1]
    exact qef hl h0
structure Sim (r:List (qd×Bool)) (p:PSt) (prev:Bool) (now:jj) (rec:Int) (out:List jj):Prop where
 hprev:prev=decide (p.lines≠[])
 hok:p.lines=[]∨qb8 (p.lines++ve r) p.full=0
 hraw:now.raw=vh p.block
 hfields:now.fields=p.fields++(if p.lines=[] then [] else [(z5 (p.lines++ve r)).1])
 hkind:now.kind=if now.fields=[] then 2 else 3
 hrec:rec=p.records+if now.fields=[] then 0 else 1
 hout:out=p.items
 hempty:p.block=[]→p.lines=[]∧p.fields=[]
 b1:now.fields.length≤40
 b2:rec≤400
theorem qx2 (b:List qd):vh b=[]↔b=[]:=by
 cases b with
 |nil=>simp [vh]
 |cons x r=>simp [vh]
theorem qhk (b:List qd) (t:qd):vh (b++[t])=vh b++t++[10]:=by simp [vh]
theorem Sim.flush {r:List (qd×Bool)} {p:PSt} {prev:Bool} {now:jj} {rec:Int} {out:List jj} (h:Sim r p prev now rec out) (hm:ve r=[]):vb p=(none,{ p with lines:=[],fields:=now.fields }):=by
 have h1:=h.hok
 have h2:=h.hfields
 rw [hm,List.append_nil] at h1 h2
 rw [qnj h1,h2]
theorem Sim.close {r:List (qd×Bool)} {p:PSt} {prev:Bool} {now:jj} {rec:Int} {out:List jj} (h:Sim r p prev now rec out) (hm:ve r=[]):yq { p with lines:=[],fields:=now.fields }={ p with lines:=[],fields:=[],block:=[],items:=outR now out,records:=rec }:=by
 have hk:=h.hkind
 have hr:=h.hrec
 have hw:=h.hraw
 have ho:=h.hout
 unfold yq outR
 simp only
 by_cases hb:p.block=[]
 ·obtain⟨e1,e2⟩:=h.hempty hb
  have hf:now.fields=[]:=by rw [h.hfields,e1,e2];simp
  rw [if_pos hb,if_pos (by rw [hw,hb];rfl),ho,hr,hf]
  simp
 ·have hne:¬ now.raw=[]:=by rw [hw,qx2];exact hb
  rw [if_neg hb,if_neg hne,ho,hr,← hw]
  obtain⟨nk,nr,nf⟩:=now
  simp only at hk hne ⊢
  by_cases hf:nf=[]
  ·rw [if_pos hf] at hk
   simp [hf,hk,hne]
  ·rw [if_neg hf] at hk
   simp [hf,hk,hne]
theorem qgd:∀ (r:List (qd×Bool)) (k:Nat) (p:PSt) (prev:Bool) (now:jj) (rec:Int) (out:List jj),qog r→Sim r p prev now rec out →
  refL k r prev now rec out=match (runL k r p).1 with
   |some e=>(some e,[])
   |none=>(none,(runL k r p).2.items)
 | [],k,p,prev,now,rec,out,_,h=>by
  rw [runL,qmh (h.flush rfl),h.close rfl,refL]
 |(t,e)::r,k,p,prev,now,rec,out,hE,h=>by
  rw [refL]
  by_cases h3:ql t=3
  ·by_cases hl:p.lines=[]
   ·have hp:prev=false:=by rw [h.hprev];simp [hl]
    have hw:vg prev t e r now.fields.length rec=2:=by
     unfold vg
     rw [if_pos (.inr (.inl ⟨h3,hp⟩))]
    rw [hw,if_pos (by decide),qcz (x:=((k:Int),2)) (qkm (by unfold km;rw [if_pos h3,if_pos hl]))]
   ·cases e with
    |true=>
     have hp:prev=true:=by rw [h.hprev];simp [hl]
     have hw:vg prev t true r now.fields.length rec=0:=by
      unfold vg
      rw [if_neg (by simp [hp];omega),if_pos (by omega)]
     have ht:=qgi (qkw (no:=k) h3 hl) (by omega)
     rw [if_neg (by omega),if_neg (by omega)] at ht
     rw [hw,if_neg (by simp),if_neg (by omega),if_neg (by omega),qd2 ht]
     have hm:=qdq (e:=true) (r:=r) h3
     have hok:=h.hok.resolve_left hl
     have hfs:=h.hfields
     rw [if_neg hl,hm] at hfs
     rw [hm] at hok
     refine qgd r (k+1) _ _ _ _ _ hE.2 ⟨by simp [h3],.inr (by simpa using hok),by rw [qhk,← h.hraw],by simp [hfs],h.hkind,h.hrec,h.hout,by simp,h.b1,h.b2⟩
    |false=>
     have hr:=hE.1 rfl
     subst hr
     have hw:vg prev t false [] now.fields.length rec=2:=by
      unfold vg
      rw [if_pos (.inr (.inr rfl))]
     have hok:=h.hok.resolve_left hl
     rw [qdq h3] at hok
     have hf:=qnj (p:={ p with lines:=p.lines++[t] }) (.inr hok)
     rw [hw,if_pos (by decide),qcz (x:=((k:Int),2)) (qkn ((qkv h3 hl).trans hf) (.inr rfl))]
  ·have hm:=qg3 (e:=e) (r:=r) h3
   have hf:=h.flush hm
   have hc:=h.close hm
   by_cases hbad:ql t=5∨e=false
   ·have hw:vg prev t e r now.fields.length rec=2:=by
     unfold vg
     rw [if_pos (by rcases hbad with h|h;exact .inl h;exact .inr (.inr h))]
    rw [hw,if_pos (by decide)]
    by_cases h1:ql t=1
    ·rw [qcz (x:=((k:Int),2)) (qkn ((qft h1).trans (qmh hf)) hbad)]
    ·rw [qcz (x:=((k:Int),2)) (qkn ((qdm h3 h1).trans hf) hbad)]
   ·have he:e=true:=by
     cases e with
     |true=>rfl
     |false=>exact absurd (.inr rfl) hbad
    have h5:ql t≠5:=fun h=>hbad (.inl h)
    subst he
    by_cases h1:ql t=1
    ·have hw:vg prev t true r now.fields.length rec=0:=by
      unfold vg
      rw [if_neg (by simp [h3,h5]),if_pos (by omega)]
     have ht:=qgi ((qft (no:=k) h1).trans (qmh hf)) h5
     rw [if_pos h1,hc] at ht
     rw [hw,if_neg (by simp),if_pos h1,qd2 ht]
     exact qgd r (k+1) _ _ _ _ _ hE.2 ⟨by simp,.inl rfl,rfl,by simp,by simp,by simp,rfl,by simp,by simp,h.b2⟩
    ·by_cases h4:ql t=4
     ·have ht:=qgi ((qdm (no:=k) h3 h1).trans hf) h5
      rw [if_neg h1,if_pos h4] at ht
      rw [qd2 ht]
      have hb1:=h.b1
      have hb2:=h.b2
      have hrec:=h.hrec
      have hfull:(40≤now.fields.length∨(now.fields.length=0∧400≤rec))↔(now.fields.length=40∨(now.fields.length=0∧p.records=400)):=by
       by_cases hz:now.fields=[]
       ·rw [if_pos hz] at hrec
        simp only [hz,List.length_nil]
        constructor
        ·rintro (h'|h')
         ·exact absurd h' (by decide)
         ·exact .inr ⟨trivial,by omega⟩
        ·rintro (h'|h')
         ·exact absurd h' (by decide)
         ·exact .inr ⟨trivial,by omega⟩
       ·have:now.fields.length≠0:=fun h=>hz (List.length_eq_zero_iff.1 h)
        constructor
        ·rintro (h'|h')
         ·exact .inl (by omega)
         ·exact absurd h'.1 this
        ·rintro (h'|h')
         ·exact .inl (by omega)
         ·exact absurd h'.1 this
      have hw:vg prev t true r now.fields.length rec=qb8 (t::ve r) (decide (now.fields.length=40∨(now.fields.length=0∧p.records=400))):=by
       unfold vg qb8
       rw [if_neg (by simp [h3,h5]),if_neg (by omega)]
       by_cases hu:(z5 (t::ve r)).2≠0
       ·rw [if_pos hu,if_pos hu]
       ·rw [if_neg hu,if_neg hu]
        by_cases hx:40≤now.fields.length∨(now.fields.length=0∧400≤rec)
        ·rw [if_pos hx,if_pos (decide_eq_true (hfull.1 hx))]
        ·rw [if_neg hx,if_neg (by simpa using fun h=>hx (hfull.2 h))]
      by_cases hw0:vg prev t true r now.fields.length rec=0
      ·rw [if_neg (by simp [hw0]),if_neg h1,if_pos h4]
       have hx:¬ (40≤now.fields.length∨(now.fields.length=0∧400≤rec)):=fun hx=>by
        unfold vg at hw0
        rw [if_neg (by simp [h3,h5]),if_neg (by omega)] at hw0
        by_cases hu:(z5 (t::ve r)).2≠0
        ·rw [if_pos hu] at hw0;exact hu hw0
        ·rw [if_neg hu,if_pos hx] at hw0;simp at hw0
       rw [hw] at hw0
       refine qgd r (k+1) _ _ _ _ _ hE.2 ⟨by simp [wg],.inr hw0,by simp only [wg];rw [qhk,← h.hraw],by simp [wg],by simp,?_,h.hout,by simp [wg],by simp;omega,?_⟩
       ·have hkd:=h.hkind
        simp only [wg]
        by_cases hz:now.fields=[]
        ·rw [if_pos hz] at hrec hkd
         rw [hkd]
         simp
         omega
        ·rw [if_neg hz] at hrec hkd
         rw [hkd]
         simp
         omega
       ·rw [h.hkind]
        by_cases hz:now.fields=[]
        ·have:now.fields.length=0:=by rw [hz];rfl
         rw [if_pos hz,if_pos rfl]
         omega
        ·rw [if_neg hz,if_neg (by decide)]
         exact hb2
      ·rw [if_pos hw0]
       have:=qqq r { wg { p with lines:=[],fields:=now.fields } k t with block:=p.block++[t] } (k+1) (vg prev t true r now.fields.length rec) hE.2 (by simp [wg]) hw.symm hw0
       simp only [wg] at this ⊢
       rw [this]
     ·have hw:vg prev t true r now.fields.length rec=0:=by
       unfold vg
       rw [if_neg (by simp [h3,h5]),if_pos h4]
      have ht:=qgi ((qdm (no:=k) h3 h1).trans hf) h5
      rw [if_neg h1,if_neg h4] at ht
      rw [hw,if_neg (by simp),if_neg h1,if_neg h4,qd2 ht]
      exact qgd r (k+1) _ _ _ _ _ hE.2 ⟨by simp [h3],.inl rfl,by rw [qhk,← h.hraw],by simp,h.hkind,h.hrec,h.hout,by simp,h.b1,h.b2⟩
theorem qcc (text:qd):refL 0 (kf text) false ⟨2,[],[]⟩ 0 []=wm text:=by
 unfold wm
 exact qgd (kf text) 0 p0 false ⟨2,[],[]⟩ 0 [] (qjr _ text (Nat.le_refl _)) ⟨by simp [p0],.inl rfl,rfl,by simp [p0],by simp,by simp [p0],rfl,by simp [p0],by simp,by omega⟩
end Go.Pl
namespace Go.Pl
open Go Go.Proofs Go.Proofs.YtmjmdjbdoiddeaaGreatDoor
def genL:qd:=[35,37,103,101,110,32]
def qbe (n:Int):qd:=genL++Lib.itoa n++[10,10]
def qc6 (n:Int):Prop:=1≤n∧n≤2147483648
instance (n:Int):Decidable (qc6 n):=inferInstanceAs (Decidable (_∧_))
def qbh (text:qd):Int×qd:=
 if genL <+: text then
  match numZ (upto 10 (text.drop 6)) with
  |some n=>if qc6 n∧[10,10] <+: text.drop (6+(upto 10 (text.drop 6)).length) then (n,text.drop (8+(upto 10 (text.drop 6)).length)) else (0,text)
  |none=>(0,text)
 else (0,text)
theorem qll (v:Int):(10:UInt8)∉Lib.itoa v:=by
 intro h
 by_cases hv:v<0
 ·rw [qcn hv] at h
  rcases List.mem_cons.1 h with h|h
  ·simp at h
  ·have:=xb _ _ (Nat.le_refl _) _ h
   simp at this
 ·rw [qdj (by omega)] at h
  have:=xb _ _ (Nat.le_refl _) _ h
  simp at this
theorem qp4 (n:Int) (r:qd):qbe n++r=genL++(Lib.itoa n++10::10::r):=by simp [qbe]
theorem qhi {n:Int} (h:qc6 n) (r:qd):qbh (qbe n++r)=(n,r):=by
 unfold qbh
 have hd:(genL++(Lib.itoa n++10::10::r)).drop 6=Lib.itoa n++10::10::r:=by rw [show (6:Nat)=genL.length by rfl,List.drop_left]
 rw [qp4,if_pos (List.prefix_append _ _),hd,qa3 _ (qll n),qnq (by have:=h.1;omega) (by have:=h.2;omega)]
 have e1:(genL++(Lib.itoa n++10::10::r)).drop (6+(Lib.itoa n).length)=10::10::r:=by rw [← List.drop_drop,hd,List.drop_left]
 have e2:(genL++(Lib.itoa n++10::10::r)).drop (8+(Lib.itoa n).length)=r:=by
  rw [show 8+(Lib.itoa n).length=(6+(Lib.itoa n).length)+2 by omega,← List.drop_drop,e1]
  rfl
 simp only
 rw [e1,e2,if_pos ⟨h,r,rfl⟩]
theorem qn1 {text:qd} (h:∀ n r,qc6 n→text≠qbe n++r):qbh text=(0,text):=by
 unfold qbh
 split
 ·rename_i hp
  obtain⟨t,rfl⟩:=hp
  have hd:(genL++t).drop 6=t:=by rw [show (6:Nat)=genL.length by rfl,List.drop_left]
  rw [hd]
  split
  ·rename_i n hn
   split
   ·rename_i hc
    obtain⟨hg,r,hr⟩:=hc
    rw [← List.drop_drop,hd] at hr
    obtain⟨he,_⟩:=qnr hn
    refine absurd ?_ (h n r hg)
    rw [qp4,← he]
    congr 1
    conv=>lhs;rw [← List.take_append_drop (upto 10 t).length t,qfq,← hr]
    rfl
   ·rfl
  ·rfl
 ·rfl
theorem qsn (text:qd):(∃ n r,qc6 n∧text=qbe n++r∧qbh text=(n,r))∨((∀ n r,qc6 n→text≠qbe n++r)∧qbh text=(0,text)):=by
 by_cases h:∃ n r,qc6 n∧text=qbe n++r
 ·obtain⟨n,r,hg,rfl⟩:=h
  exact .inl ⟨n,r,hg,rfl,qhi hg r⟩
 ·have h':∀ n r,qc6 n→text≠qbe n++r:=fun n r hg e=>h ⟨n,r,hg,e⟩
  exact .inr ⟨h',qn1 h'⟩
def qa0 (n:Int):qd:=if qc6 n then qbe n else []
theorem qso (text:qd):text=qa0 (qbh text).1++(qbh text).2∧((qbh text).1=0∨qc6 (qbh text).1):=by
 rcases qsn text with⟨n,r,hg,he,ht⟩ | ⟨_,ht⟩
 ·rw [ht]
  simp only
  unfold qa0
  rw [if_pos hg]
  exact⟨he,.inr hg⟩
 ·rw [ht]
  exact⟨rfl,.inl rfl⟩
def begF (l:qd):Bool:=decide (l.head? = some 37∧ql l=5)
theorem qek:∀ (r:List (qd×Bool)) (k:Nat) (prev:Bool) (now:jj) (rec:Int) (out:List jj),(refL k r prev now rec out).1=none→∀ x∈r,ql x.1≠5∧x.2=true
 | [],_,_,_,_,_,_=>by simp
 |(t,e)::r,k,prev,now,rec,out,h=>by
  rw [refL] at h
  split at h
  ·simp at h
  ·rename_i hw
   have hx:ql t≠5∧e=true:=by
    unfold vg at hw
    split at hw
    ·simp at hw
    ·rename_i hc
     exact⟨fun h5=>hc (.inl h5),by cases e with|true=>rfl|false=>exact absurd (.inr (.inr rfl)) hc⟩
   have hr:∀ x∈r,ql x.1≠5∧x.2=true:=by
    split at h
    ·exact qek r _ _ _ _ _ h
    ·split at h
     ·exact qek r _ _ _ _ _ h
     ·exact qek r _ _ _ _ _ h
   intro x hx'
   rcases List.mem_cons.1 hx' with rfl|hx'
   ·exact hx
   ·exact hr x hx'
theorem qsg {text:qd} (h:(wm text).1=none):∀ x∈kf text,begF x.1=false∧x.2=true:=fun x hx=>by
 rw [← qcc] at h
 obtain⟨h1,h2⟩:=qek _ _ _ _ _ _ h x hx
 exact⟨by simp [begF,h1],h2⟩
theorem qfa {n:Nat} {fig l:qd} (hf:qao fig) (h:l <+: ym n fig) (hne:l≠[]):begF l=true:=by
 have h10:10∉l:=qmr h (qc7 n hf)
 have h58:(58:UInt8)∉l:=qmr h fun h'=>by
  unfold ym at h'
  rcases List.mem_append.1 h' with h'|h'
  ·revert h';decide
  ·rcases List.mem_append.1 h' with h'|h'
   ·exact qlt n (by decide) h'
   ·rcases List.mem_cons.1 h' with h'|h'
    ·simp at h'
    ·exact qh6 hf (by decide) h'
 obtain⟨c,q,rfl⟩:=List.exists_cons_of_ne_nil hne
 have hc:c=37:=by
  obtain⟨t,ht⟩:=h
  unfold ym xd at ht
  exact (List.cons.inj ht).1
 subst hc
 have hk:=qjq h10 (fun hb=>by
  have:=hb 37 (by simp)
  revert this
  decide)
 simp only [begF,List.head?_cons,true_and,decide_eq_true_eq]
 rw [hk.2]
 rw [if_neg (by simp),if_neg (by simp [xc]),if_neg (fun h=>h58 h.1)]
theorem qwg {n:Nat} {fig body l:qd} (hf:qao fig) (h:l <+: recL n fig body) (hne:l≠[]):begF (upto 10 l)=true:=by
 rcases qny (show l <+: ym n fig++10::(body++qem n) from h) with h | ⟨r,rfl,hr⟩
 ·rw [qcs (qmr h (qc7 n hf))]
  exact qfa hf h hne
 ·cases r with
  |nil=>
   rw [List.append_nil,qcs (qc7 n hf)]
   exact qfa hf (List.prefix_refl _) (by simp [ym,xd])
  |cons c r=>
   have:c=10:=by obtain⟨t,ht⟩:=hr;exact (List.cons.inj ht).1
   subst this
   rw [qa3 _ (qc7 n hf)]
   exact qfa hf (List.prefix_refl _) (by simp [ym,xd])
theorem q0q {b:qd} (x:qd) (hg:qdp b):begF (upto 10 (recF b++x))=true:=by
 rw [q1p]
 have hx:qao (sumF b):=qr4 (addP 0 b)
 unfold recL
 rw [List.append_assoc,List.cons_append,qa3 _ (qc7 _ hx)]
 exact qfa hx (List.prefix_refl _) (by simp [ym,xd])
theorem qw4:∀ (n:Nat) (l:qd) (k a:Nat),l.length≤n→∀ x∈x7 k a l,x.text.length≤l.length
 |n,l,k,a,hn,x,hx=>by
  by_cases h:l=[]
  ·subst h;rw [qbw] at hx;simp at hx
  ·have hlt:=yz (c:=10) h
   cases n with
   |zero=>omega
   |succ n=>
    rw [qco h] at hx
    rcases List.mem_cons.1 hx with rfl|hx
    ·exact qb4 10 l
    ·have:=qw4 n (past 10 l) (k+1) (a+(upto 10 l).length+1) (by omega) x hx
     omega
structure qd9 where
 gen:Int
 base:qd
 batches:List (List vi)
 ends : List Int
 tail:qd
def vj (text:qd):ErrV:=if 60000<text.length then .num 1 else match (wm text).1 with
 |none=>.no
 |some (a,n)=>.at' a n
structure qiv (b:List vi):Prop where
 ok:eErr b = .no
 B:∀ x∈b,EdB x
 len:(encF b).length≤50000
theorem qiv.good {b:List vi} (h:qiv b):qdp (encF b):=qwn h.ok h.B h.len
def recE (b:List vi):qd:=recF (encF b)
def y7 (bs:List (List vi)):qd:=bs.flatMap recE
def qcg (a:Int):List (List vi)→List Int
 | []=>[]
 |b::r=>(a+(recE b).length)::qcg (a+(recE b).length) r
theorem qg8 (b:List vi) (r:List (List vi)):y7 (b::r)=recE b++y7 r:=rfl
theorem qvd (r:List (List vi)) (b:List vi):y7 (r++[b])=y7 r++recE b:=by simp [y7]
theorem qld:∀ (r:List (List vi)) (a:Int) (b:List vi),qcg a (r++[b])=qcg a r++[a+(y7 r).length+(recE b).length]
 | [],a,b=>by simp [qcg,y7]
 |x::r,a,b=>by
  rw [List.cons_append,qcg,qcg,qld r,qg8]
  simp
  omega
theorem qlc:∀ (r:List (List vi)) (a:Int),r≠[]→(qcg a r).getLast? = some (a+(y7 r).length)
 | [],_,h=>absurd rfl h
 | [x],a,_=>by simp [qcg,y7]
 |x::y::r,a,_=>by
  have:=qlc (y::r) (a+(recE x).length) (by simp)
  rw [qcg,List.getLast?_cons]
  rw [this,qg8 x]
  simp
  omega
structure qbb (text:qd) (b:qd9):Prop where
 txt:text=qa0 b.gen++(b.base++(y7 b.batches++b.tail))
 gen:qbh text=(b.gen,b.base++(y7 b.batches++b.tail))
 parse:vj b.base = .no
 good:∀ x∈b.batches,qiv x
 tail:(qdb b.tail).1=2
 ends : b.ends = qcg ((qa0 b.gen).length + b.base.length) b.batches
 len:text.length≤120000
def BegP (x:qd):Prop:=x=[]∨begF (upto 10 x)=true
theorem qwf {t:qd} (h:(qdb t).1=2):BegP t:=by
 by_cases h0:t=[]
 ·exact .inl h0
 ·obtain⟨n,fig,body,R,hp,_⟩:=q1l h
  obtain⟨_,_,_,_,_,hx⟩:=R
  exact .inr (qwg hx hp h0)
theorem qwe {bs:List (List vi)} {t:qd} (hg:∀ b∈bs,qiv b) (h:(qdb t).1=2):BegP (y7 bs++t):=by
 cases bs with
 |nil=>exact qwf h
 |cons b r=>
  refine .inr ?_
  rw [qg8,List.append_assoc]
  exact q0q _ (hg b (by simp)).good
theorem qwd {x:qd} (h:BegP x):x=[]∨x.head? = some 37:=by
 rcases h with h|h
 ·exact .inl h
 ·simp only [begF,decide_eq_true_eq] at h
  cases x with
  |nil=>exact .inl rfl
  |cons c r=>
   refine .inr ?_
   have h1:=h.1
   unfold upto at h1
   by_cases hc:c=10
   ·subst hc;simp at h1
   ·simpa [hc] using h1
theorem qqn {l:qd} (h:vj l = .no):(∀ p∈kf l,begF p.1=false∧p.2=true)∧l.length≤60000:=by
 unfold vj at h
 split at h
 ·simp at h
 ·split at h
  ·rename_i hp
   exact⟨qsg hp,by omega⟩
  ·simp at h
def qbr (b:qd9):qd:=qa0 b.gen++(b.base++y7 b.batches)
def qir (b:qd9):Int:=match b.ends.getLast? with
 |some e=>e
 |none=>((qa0 b.gen).length+b.base.length:Nat)
theorem qbb.split {text:qd} {b:qd9} (h:qbb text b):text=qbr b++b.tail:=by
 have:=h.txt
 unfold qbr
 simpa using this
theorem qbb.whole {text:qd} {b:qd9} (h:qbb text b):qir b=((qbr b).length:Int):=by
 unfold qir
 rw [h.ends]
 by_cases h0:b.batches=[]
 ·rw [h0]
  simp [qcg,qbr,h0,y7]
 ·rw [qlc _ _ h0]
  simp [qbr]
  omega
theorem qbb.take {text:qd} {b:qd9} (h:qbb text b):text.take (qir b).toNat=qbr b:=by
 rw [h.whole,Int.toNat_natCast]
 conv=>lhs;rw [h.split]
 rw [List.take_left]
theorem qup {l:qd} (h:l≠[]) (hp:∀ p∈kf l,p.2=true):l.getLast? = some 10:=by
 have:∀ (k:Nat) (l:qd),l.length≤k→l≠[]→(∀ p∈kf l,p.2=true)→l.getLast? = some 10:=by
  intro k
  induction k with
  |zero=>intro l hl h0;exact absurd (List.length_eq_zero_iff.1 (by omega)) h0
  |succ k ih=>
   intro l hl h0 hp
   rw [y0 h0] at hp
   have h10:10∈l:=by simpa using hp _ (List.mem_cons_self ..)
   have e:=qbq h10
   by_cases hq:past 10 l=[]
   ·rw [hq] at e
    rw [e]
    simp
   ·have:=ih (past 10 l) (by have:=yz (c:=10) h0;omega) hq fun p hp'=>hp p (by simp [hp'])
    rw [e]
    rw [List.getLast?_append,List.getLast?_cons,this]
    simp
 exact this _ l (Nat.le_refl _) h hp
theorem q03 {l x:qd} {n:Int} (h:∀ p∈kf l,p.2=true) (hx:x=[]∨x.head? = some 37) (hp:qbe n <+: l++x):qbe n <+: l:=by
 rcases qny hp with h1 | ⟨r,h1,hr⟩
 ·exact h1
 ·by_cases hr0:r=[]
  ·rw [h1,hr0,List.append_nil]
   exact List.prefix_refl _
  ·exfalso
   obtain⟨c,q,rfl⟩:=List.exists_cons_of_ne_nil hr0
   have hc:c=37:=by
    obtain⟨t,ht⟩:=hr
    rcases hx with rfl|hx
    ·simp at ht
    ·rw [← ht] at hx
     simpa using hx
   subst hc
   by_cases hl:l=[]
   ·rw [hl] at h1
    simp [qbe,genL] at h1
   ·have hlast:=qup hl h
    obtain⟨q0,hq0⟩:∃ q0,l=q0++[10]:=by
     have:=qr0 hlast
     exact⟨_,this.symm⟩
    have e:genL++Lib.itoa n++10::[10]=q0++10::(37::q):=by
     have:=h1
     unfold qbe at this
     rw [hq0] at this
     simpa using this
    have hu10:10∉genL++Lib.itoa n:=by
     intro h
     rcases List.mem_append.1 h with h|h
     ·revert h;decide
     ·exact qll n h
    have hA:=qa3 (c:=10) [10] hu10
    have hB:=qcp (c:=10) [10] hu10
    rw [e] at hA hB
    by_cases hq10:10∈q0
    ·have e2:=qbq hq10
     have e3:q0++10::(37::q)=upto 10 q0++10::(past 10 q0++10::(37::q)):=by
      conv=>lhs;rw [e2]
      simp
     rw [e3,qcp _ (qej 10 q0)] at hB
     have:=congrArg List.length hB
     simp at this
     omega
    ·rw [qcp _ hq10] at hB
     simp at hB
theorem qvk {l x y:qd} (h:∀ p∈kf l,p.2=true) (hx:qbh (l++x)=(0,l++x)) (hy:y=[]∨y.head? = some 37):qbh (l++y)=(0,l++y):=by
 refine qn1 fun n r hg e=>?_
 obtain⟨t,ht⟩:=q03 (n:=n) h hy ⟨r,e.symm⟩
 have:qbh (l++x)=(n,t++x):=by rw [← ht,List.append_assoc,qhi hg]
 rw [hx] at this
 have h0:(0:Int)=n:=(Prod.mk.inj this).1
 have:=hg.1
 omega
theorem qbb.gen0 {text:qd} {b:qd9} (h:qbb text b):b.gen=0∨qc6 b.gen:=by
 have:=(qso text).2
 rw [h.gen] at this
 exact this
theorem qbb.other {text:qd} {b:qd9} (h:qbb text b) {bs:List (List vi)} {t:qd} (hg:∀ x∈bs,qiv x) (ht:(qdb t).1=2) (hlen:(qa0 b.gen++(b.base++(y7 bs++t))).length≤120000) :
  qbb (qa0 b.gen++(b.base++(y7 bs++t))) ⟨b.gen,b.base,bs,qcg ((qa0 b.gen).length+b.base.length) bs,t⟩:=by
 refine⟨rfl,?_,h.parse,hg,ht,rfl,hlen⟩
 rcases h.gen0 with h0|h0
 ·have hgen:=h.gen
  have htext:=h.txt
  have e:qa0 b.gen=[]:=by unfold qa0;rw [if_neg (by rw [h0];decide)]
  rw [e,List.nil_append] at htext ⊢
  rw [h0,htext] at hgen
  simp only
  rw [h0]
  exact qvk (fun p hp=>((qqn h.parse).1 p hp).2) hgen (qwd (qwe hg ht))
 ·have e:qa0 b.gen=qbe b.gen:=by unfold qa0;rw [if_pos h0]
  simp only
  rw [e,qhi h0]
theorem qzq:qdb []=(2,[],0):=by
 unfold qdb qez
 rw [if_neg (by simp),if_pos]
 rw [if_neg (by decide)]
 decide
theorem qbb.more {text:qd} {b:qd9} (h:qbb text b) {x:List vi} (hx:qiv x) (hl:(qbr b++recE x).length≤120000):qbb (qbr b++recE x) { b with batches:=b.batches++[x],ends:=b.ends++[qir b+(recE x).length],tail:=[] }:=by
 have e:qa0 b.gen++(b.base++(y7 (b.batches++[x])++[]))=qbr b++recE x:=by simp [qbr,qvd]
 have:=h.other (bs:=b.batches++[x]) (t:=[]) (fun y hy=>by
  rcases List.mem_append.1 hy with hy|hy
  ·exact h.good y hy
  ·obtain rfl:=List.mem_singleton.1 hy
   exact hx) (by rw [qzq]) (by rw [e];exact hl)
 rw [e,qld,← h.ends] at this
 have hw:((qa0 b.gen).length+b.base.length+(y7 b.batches).length+(recE x).length:Int)=qir b+(recE x).length:=by
  rw [h.whole]
  simp [qbr]
  omega
 rw [hw] at this
 exact this
end Go.Pl
namespace Go.Proofs.YtmjmdjbdoiddeaaGreatDoor
open Go Go.Av Go.RowKit Go.Proofs Go.Pl
@[reducible] def qc8 (L : List LnV) : AV := .sl 1 (L.map fun x => Iv (ql x.text)) none
def qdr (L:List LnV):Nat→Bool
 | 0=>false
 |j+1=>match L[j]? with
  |some x=>decide (ql x.text=4∨ql x.text=3)
  |none=>false
theorem qfk {L:List LnV} {i:Nat} {x:LnV} (h:L[i]? = some x):(L.map fun x=>Iv (ql x.text))[i]? = some (Iv (ql x.text)):=by simp [h]
theorem qgb {L:List LnV} {i:Nat} {x:LnV} (h:L[i]? = some x):(L.map lnA)[i]? = some (lnA x):=by simp [h]
theorem qoa (L:List LnV) (i:Nat) (st:List AObj) (hi:i≤L.length) (hL:L.length<1000000):qp E 59 [qc8 L,Iv i] st fun r st'=>r=Bv (qdr L i)∧st'=st:=by
 refine wz [.a (qc8 L),.i i] (q7 _) Tryz.func59 rfl rfl (fun _=>rfl) rfl fun S0=>?_
 cases i with
 |zero=>
  apply qi []
  repeat' (first|apply And.intro|(intro h;try exact cDd)|exact cSd|apply qg []|refine exr ?_|refine qk ?_)
 |succ j=>
  obtain⟨x,hx⟩:∃ x,L[j]? = some x:=⟨_,List.getElem?_eq_getElem (by omega)⟩
  have hget:=qfk hx
  have hp:qdr L (j+1)=decide (ql x.text=4∨ql x.text=3):=by simp only [qdr,hx]
  rw [hp]
  apply qi []
  repeat' (first|apply And.intro|(intro h;try exact cDd)|(refine Exists.intro (j) ⟨by omega,_,hget,?_⟩)|exact cSd|apply qg []|refine exr ?_|refine qk ?_)
  all_goals (simp [*];done)
theorem qne {L:List LnV} {k:Nat} {x:LnV} (h:L[k]? = some x):(L.drop k).map qbg=(x.text,x.ended)::(L.drop (k+1)).map qbg:=by
 obtain⟨hlt,he⟩:=List.getElem?_eq_some_iff.1 h
 rw [List.drop_eq_getElem_cons hlt,he]
 rfl
def qdt (L:List LnV) (i:Nat) (x:LnV):List qd:=x.text::ve ((L.drop (i+1)).map qbg)
theorem qp8:∀ (r:List (qd×Bool)),(ve r).length≤r.length
 | []=>by simp [ve]
 |(t,e)::r=>by
  have:=qp8 r
  rw [ve]
  split <;> simp <;> omega
theorem qp9:∀ {r:List (qd×Bool)} {n:Nat},(∀ p∈r,p.1.length≤n)→∀ s∈ve r,s.length≤n
 | [],_,_,s,hs=>by simp [ve] at hs
 |(t,e)::r,n,h,s,hs=>by
  rw [ve] at hs
  split at hs
  ·rcases List.mem_cons.1 hs with rfl|hs
   ·exact h (s,e) (by simp)
   ·exact qp9 (fun p hp=>h p (by simp [hp])) s hs
  ·simp at hs
structure LnsB (L:List LnV):Prop where
 len:L.length<100000
 val:∀ x∈L,x.text.length<100000
theorem LnsB.said {L:List LnV} (h:LnsB L) {i:Nat} {x:LnV} (hx:L[i]? = some x):LsB (qdt L i x):=by
 have h1:=qp8 ((L.drop (i+1)).map qbg)
 have h2:=h.len
 have h3:=h.val x (List.mem_of_getElem? hx)
 refine⟨?_,fun s hs=>?_⟩
 ·unfold qdt
  simp at h1 ⊢
  omega
 ·rcases List.mem_cons.1 hs with rfl|hs
  ·omega
  ·have:=qp9 (n:=100000) (fun p hp=>by
    obtain⟨y,hy,rfl⟩:=List.mem_map.1 hp
    have:=h.val y (List.mem_of_mem_drop hy)
    simp only [qbg]
    omega) s hs
   omega
theorem qjt (L:List LnV) (i:Nat) (x:LnV) (st:List AObj) (hL:LnsB L) (hx:L[i]? = some x):qp E 36 [lnsA L,qc8 L,Iv i] st fun r st'=>r=Ss (qdt L i x)∧st'=st:=by
 refine wz [.a (lnsA L),.a (qc8 L),.i i] (q1o _) Tryz.func36 rfl rfl (fun _=>rfl) rfl fun S0=>?_
 have hLl:=hL.len
 have hil:=lt_of_getElem? hx
 have hget:=qgb hx
 have hml:(L.map lnA).length=L.length:=by simp
 apply qi [14]
 repeat' (first|apply And.intro|(intro h;try exact cDd)|(refine Exists.intro (i) ⟨by omega,_,hget,?_⟩)|exact cSd|apply qg [14]|refine exr ?_|refine qk ?_)
 refine vv (X:=Nat×List qd) (fun (k,acc)=>⟨[(0,.a (lnsA L)),(1,.a (qc8 L)),(7,.tp 0),(8,.i k)],[(0,some (.tip 1 9 (acc.map fun x=>Sv x)))],1⟩) (fun (k,acc)=>i+1≤k∧k≤L.length∧acc++ve ((L.drop k).map qbg)=qdt L i x∧acc.length≤k) (fun (k,_)=>L.length - k) (i+1,[x.text]) ⟨by omega,by omega,rfl,by simp⟩ ?_ ?_
 ·skip
  repeat' (first|apply And.intro|(intro h;try exact cDd)|exact cSd|apply qg []|refine exr ?_|refine qk ?_)
  all_goals (simp;done)
 ·rintro⟨k,acc⟩ ⟨hk1,hk2,hacc,hal⟩
  have hmc:(acc.map fun x=>Sv x).length=acc.length:=by simp
  by_cases hk:k<L.length
  ·obtain⟨y,hy⟩:∃ y,L[k]? = some y:=⟨_,List.getElem?_eq_getElem hk⟩
   have hgy:=qgb hy
   have hky:=qfk hy
   rw [qne hy] at hacc
   by_cases h3:ql y.text=3
   ·rw [qdq h3] at hacc
    apply qi []
    repeat' (first|apply And.intro|(intro h;try exact cDd)|(refine Exists.intro (k) ⟨by omega,_,hgy,?_⟩)|(refine Exists.intro (k) ⟨by omega,_,hky,?_⟩)|(refine Exists.intro (k+1,acc++[y.text]) ⟨⟨by omega,by omega,by simpa using hacc,by simp;omega⟩,by simp only;omega,?_⟩)|exact cSd|apply qg []|refine exr ?_|refine qk ?_)
    all_goals (simp;done)
   ·rw [qg3 h3,List.append_nil] at hacc
    rw [← hacc]
    apply qi []
    repeat' (first|apply And.intro|(intro h;try exact cDd)|(refine Exists.intro (k) ⟨by omega,_,hky,?_⟩)|exact cSd|apply qg []|refine exr ?_|refine qk ?_)
  ·rw [List.drop_eq_nil_of_le (by omega),List.map_nil,ve,List.append_nil] at hacc
   rw [← hacc]
   apply qi []
   repeat' (first|apply And.intro|(intro h;try exact cDd)|exact cSd|apply qg []|refine exr ?_|refine qk ?_)
theorem qqy (L:List LnV) (i:Nat) (x:LnV) (n:Nat) (rec:Int) (st:List AObj) (hL:LnsB L) (hx:L[i]? = some x):qp E 34 [lnsA L,qc8 L,Iv i,Iv n,Iv rec] st fun r st'=>r=Iv (vg (qdr L i) x.text x.ended ((L.drop (i+1)).map qbg) n rec)∧st'=st:=by
 refine wz [.a (lnsA L),.a (qc8 L),.i i,.i n,.i rec] (q7 _) Tryz.func34 rfl rfl (fun _=>rfl) rfl fun S0=>?_
 have hLl:=hL.len
 have hil:=lt_of_getElem? hx
 have hgy:=qgb hx
 have hky:=qfk hx
 have hbe:=fun st=>qoa L i st (by omega) (by omega)
 have hsa:=fun st=>qjt L i x st hL hx
 have hun:=fun st=>qim (qdt L i x) st (hL.said hx)
 unfold qa1 at hun
 unfold vg
 have hsd:x.text::ve ((L.drop (i+1)).map qbg)=qdt L i x:=rfl
 rw [hsd]
 generalize qdr L i=pv at *
 generalize qdt L i x=sl at *
 generalize (z5 sl).2=u at *
 obtain⟨xn,xa,xt,xe⟩:=x
 dsimp only at *
 apply qi []
 repeat' (first|apply And.intro|(intro h;try exact cDd)|(refine Exists.intro (i) ⟨by omega,_,hky,?_⟩)|(refine Exists.intro (i) ⟨by omega,_,hgy,?_⟩)|exact⟨Tryz.call59⟩|refine cpe hbe ?_|exact⟨Tryz.call36⟩|refine cpe hsa ?_|exact⟨Tryz.call35⟩|refine cpe hun ?_|exact cSd|apply qg []|refine exr ?_|refine qk ?_)
 all_goals clear hbe hsa hun hgy hky
 all_goals (simp_all <;> omega)
@[reducible] def qol (es : List Int) : AV := .sl 1 (es.map fun x => Iv x) none
theorem qg7 {a b c:AV} (h1:Pure a) (h2:Pure b) (h3:Pure c):Pure (.tu [a,b,c]):=qeq fun z hz=>by
 simp only [List.mem_cons,List.not_mem_nil,or_false] at hz
 rcases hz with rfl|rfl|rfl
 ·exact h1
 ·exact h2
 ·exact h3
def qag (text:qd):AV:=if 60000<text.length then .tu [yg [],Iv (-9),Iv 1] else match (wm text).1 with
 |some e=>.tu [yg [],Iv e.1,Iv e.2]
 |none=>.tu [yg (wm text).2,Iv (-9),Iv 0]
theorem qmt (text:qd):Pure (qag text):=by
 unfold qag
 split
 ·exact qg7 (qb9 _) (q7 _) (q7 _)
 ·split
  ·exact qg7 (qb9 _) (q7 _) (q7 _)
  ·exact qg7 (qb9 _) (q7 _) (q7 _)
theorem qvb {L:List LnV} {k:Nat} {x:LnV} (h:L[k]? = some x):qdr L (k+1)=decide (ql x.text=4∨ql x.text=3):=by simp only [qdr,h]
set_option maxHeartbeats 2000000 in
theorem qil (text:qd) (st:List AObj) (hl:text.length<1000000):qp E 17 [Sv text] st fun r st'=>r=qag text∧st'=st:=by
 refine wz [.s text] (qmt text) Tryz.func17 rfl rfl (fun _=>rfl) rfl fun S0=>?_
 by_cases hbig:60000<text.length
 ·have e:qag text = .tu [yg [],Iv (-9),Iv 1]:=if_pos hbig
  rw [e]
  apply qi []
  repeat' (first|apply And.intro|(intro h;try exact cDd)|exact cSd|apply qg []|refine exr ?_|refine qk ?_)
 have hRA:qag text=match (wm text).1 with
  |some e=>.tu [yg [],Iv e.1,Iv e.2]
  |none=>.tu [yg (wm text).2,Iv (-9),Iv 0]:=if_neg hbig
 rw [hRA]
 clear hRA
 obtain⟨L,hL⟩:∃ L,L=lns text:=⟨_,rfl⟩
 have hLl:L.length≤text.length:=by rw [hL];exact qfm _ text 0 0 (Nat.le_refl _)
 have hLB:LnsB L:=⟨by omega,fun x hx=>by have:=qw4 _ text 0 0 (Nat.le_refl _) x (by rw [hL] at hx;exact hx);omega⟩
 have hrun:refL 0 ((L.drop 0).map qbg) (qdr L 0) ⟨2,[],[]⟩ 0 []=wm text:=by
  rw [List.drop_zero,hL,qw5]
  exact qcc text
 have hml:(L.map lnA).length=L.length:=by simp
 have hspl:∀ st,qp E 32 [Sv text] st fun r st'=>r=lnsA L∧st'=st:=fun st=>by rw [hL];exact qvf text st (by omega)
 clear hL
 generalize wm text=PF at hrun
 apply qi []
 repeat' (first|apply And.intro|(intro h;try exact cDd)|exact⟨Tryz.call32⟩|refine cpe hspl ?_|exact cSd|apply qg []|refine exr ?_|refine qk ?_)
 refine vv (X:=Nat) (fun k=>⟨[(5,.a (lnsA L)),(6,.tp 0),(7,.i k)],[(0,some (.tip 1 3 ((L.take k).map fun x=>Iv (ql x.text))))],1⟩) (fun k=>k≤L.length) (fun k=>L.length - k) 0 (by omega) ?_ ?_
 ·skip
  repeat' (first|apply And.intro|(intro h;try exact cDd)|exact cSd|apply qg []|refine exr ?_|refine qk ?_)
 ·intro k hk
  by_cases hkl:k<L.length
  ·obtain⟨x,hx⟩:∃ x,L[k]? = some x:=⟨_,List.getElem?_eq_getElem hkl⟩
   have hgx:=qgb hx
   have hxl:=hLB.val x (List.mem_of_getElem? hx)
   have hkd:=fun st=>qik x.text st (by omega)
   apply qi []
   repeat' (first|apply And.intro|(intro h;try exact cDd)|(refine Exists.intro _ ⟨rfl,_,hgx,?_⟩)|exact⟨Tryz.call33⟩|refine cpe hkd ?_|(refine Exists.intro (k+1) ⟨by omega,by omega,?_⟩)|exact cSd|apply qg []|refine exr ?_|refine qk ?_)
   rw [List.take_add_one,hx]
   simp
  ·have e:L.take k=L:=List.take_of_length_le (by omega)
   apply qi []
   repeat' (first|apply And.intro|(intro h;try exact cDd)|exact cSd|apply qg []|refine exr ?_|refine qk ?_)
   refine vv (X:=Nat×jj×Int×List jj) (fun (k,⟨nk,nr,nf⟩,rec,out)=>⟨[(5,.a (lnsA L)),(6,.a (qc8 L)),(8,.tp 0),(9,.bx 1 0),(10,.i rec),(11,.i k)],
     [(0,some (.tip 3 63 (out.map yn))),(1,some (.cells 63 [.i nk,.s nr,.tp 2])),(2,some (.tip 2 53 (nf.map fldA)))],3⟩)
    (fun (k,now,rec,out)=>k≤L.length∧refL k ((L.drop k).map qbg) (qdr L k) now rec out=PF∧0≤rec∧rec≤k∧out.length≤2 * k∧now.fields.length≤k∧now.raw.length≤200000 * k) (fun x=>L.length - x.1) (0,⟨2,[],[]⟩,0,[])
    ⟨by omega,hrun,by omega,by omega,by simp,by simp,by simp⟩ ?_ ?_
   ·skip
    repeat' (first|apply And.intro|(intro h;try exact cDd)|(refine qk ?_;rw [e])|exact cSd|apply qg []|refine exr ?_|refine qk ?_)
   ·rintro⟨j,⟨nk,nr,nf⟩,rec,out⟩ ⟨hj,hR,hr0,hr1,hol,hfl,hrl⟩
    simp only at hfl hrl
    by_cases hjl:j<L.length
    ·obtain⟨x,hx⟩:∃ x,L[j]? = some x:=⟨_,List.getElem?_eq_getElem hjl⟩
     have hgx:=qgb hx
     have hkx:=qfk hx
     have hxl:=hLB.val x (List.mem_of_getElem? hx)
     have hwr:∀ st,qp E 34 [lnsA L,qc8 L,Iv j,Iv ((nf.map fldA).length:Nat),Iv rec] st fun r st'=>r=Iv (vg (qdr L j) x.text x.ended ((L.drop (j+1)).map qbg) nf.length rec)∧st'=st:=fun st=>by rw [List.length_map];exact qqy L j x nf.length rec st hLB hx
     have hsa:=fun st=>qjt L j x st hLB hx
     have hun:=fun st=>qim (qdt L j x) st (hLB.said hx)
     unfold qa1 at hun
     have hpv:=qvb hx
     have hsd:x.text::ve ((L.drop (j+1)).map qbg)=qdt L j x:=rfl
     rw [qne hx,refL,hsd] at hR
     simp only at hR
     by_cases h1:ql x.text=1
     ·apply qi []
      repeat' (first|apply And.intro|(intro h;try exact cDd)|(refine Exists.intro _ ⟨rfl,_,hgx,?_⟩)|(refine Exists.intro _ ⟨rfl,_,hkx,?_⟩)|exact⟨Tryz.call34⟩|refine cpe hwr ?_|exact⟨Tryz.call36⟩|refine cpe hsa ?_|exact⟨Tryz.call35⟩|refine cpe hun ?_|(rw [if_pos (by assumption)] at hR;rw [← hR];exact qja _)|(refine Exists.intro (j+1,⟨2,[],[]⟩,rec,outR ⟨nk,nr,nf⟩ out++[⟨1,x.text++[10],[]⟩]) ⟨?_,by simp only;omega,?_⟩)|exact cSd|apply qg []|refine exr ?_|refine qk ?_)
      all_goals first|grind [outR]|(simp [outR,yn, *] at hR ⊢;done)|(simp [outR,yn, *] at hR ⊢;omega)
     ·by_cases h4:ql x.text=4
      ·apply qi []
       repeat' (first|apply And.intro|(intro h;try exact cDd)|(refine Exists.intro _ ⟨rfl,_,hgx,?_⟩)|(refine Exists.intro _ ⟨rfl,_,hkx,?_⟩)|exact⟨Tryz.call34⟩|refine cpe hwr ?_|exact⟨Tryz.call36⟩|refine cpe hsa ?_|exact⟨Tryz.call35⟩|refine cpe hun ?_|(rw [if_pos (by assumption)] at hR;rw [← hR];exact qja _)|(refine Exists.intro (j+1,⟨3,nr++x.text++[10],nf++[(z5 (qdt L j x)).1]⟩,if nk=2 then rec+1 else rec,out) ⟨?_,by simp only;omega,?_⟩)|exact cSd|apply qg []|refine exr ?_|refine qk ?_)
       all_goals first|grind [outR]|(simp [outR,yn, *] at hR ⊢;done)|(simp [outR,yn, *] at hR ⊢;omega)
      ·apply qi []
       repeat' (first|apply And.intro|(intro h;try exact cDd)|(refine Exists.intro _ ⟨rfl,_,hgx,?_⟩)|(refine Exists.intro _ ⟨rfl,_,hkx,?_⟩)|exact⟨Tryz.call34⟩|refine cpe hwr ?_|exact⟨Tryz.call36⟩|refine cpe hsa ?_|exact⟨Tryz.call35⟩|refine cpe hun ?_|(rw [if_pos (by assumption)] at hR;rw [← hR];exact qja _)|(refine Exists.intro (j+1,⟨nk,nr++x.text++[10],nf⟩,rec,out) ⟨?_,by simp only;omega,?_⟩)|exact cSd|apply qg []|refine exr ?_|refine qk ?_)
       all_goals first|grind [outR]|(simp [outR,yn, *] at hR ⊢;done)|(simp [outR,yn, *] at hR ⊢;omega)
    ·have e:(L.drop j).map qbg=[]:=by rw [List.drop_eq_nil_of_le (by omega)];rfl
     rw [e,refL] at hR
     rw [← hR]
     apply qi []
     repeat' (first|apply And.intro|(intro h;try exact cDd)|exact cSd|apply qg []|refine exr ?_|refine qk ?_)
     all_goals first|grind [outR]|(simp [outR,yn, *] at hR ⊢;done)|(simp [outR,yn, *] at hR ⊢;omega)
theorem qlh (es:List Int):Pure (qol es):=qa9 fun x hx=>by
 obtain⟨b,_,rfl⟩:=List.mem_map.1 hx
 intro y hy
 simp only [AV.cells,List.mem_cons,List.not_mem_nil,or_false] at hy
 subst hy
 exact q7 _
theorem qsm (text:qd) (st:List AObj) (hl:60000<text.length) (h2:text.length<1000000):qp E 16 [Sv text] st fun r st'=>r = .tu [yg [],errA (.num 1)]∧st'=st:=by
 refine wz [.s text] (qe1 (qb9 _) (qfd _)) Tryz.func16 rfl rfl (fun _=>rfl) rfl fun S0=>?_
 apply qi []
 repeat' (first|apply And.intro|(intro h;try exact cDd)|exact cSd|apply qg []|refine exr ?_|refine qk ?_)
def itsE (text:qd):List jj:=if 60000<text.length then [] else (wm text).2
theorem qxx (text:qd) (st:List AObj) (hl:text.length<1000000):qp E 16 [Sv text] st fun r st'=>r = .tu [yg (itsE text),errA (vj text)]∧st'=st:=by
 unfold vj itsE
 by_cases hb:60000<text.length
 ·rw [if_pos hb,if_pos hb]
  exact qsm text st hb hl
 ·rw [if_neg hb,if_neg hb]
  have:=qzz text st (by omega)
  unfold qda at this
  rcases hp:(wm text).1 with _ | ⟨x,y⟩
  ·rw [hp] at this
   exact this
  ·rw [hp] at this
   exact this
theorem qqx (text:qd):∃ its,qag text = .tu [yg its,Iv (vj text).pos,Iv (vj text).code]:=by
 unfold qag vj
 split
 ·exact⟨[],rfl⟩
 ·rcases (wm text).1 with _ | ⟨a,n⟩
  ·exact⟨_,rfl⟩
  ·exact⟨[],rfl⟩
theorem qha:∀ (r:List (qd×Bool)) (i:Nat) (prev:Bool) (now:jj) (rec:Int) (out:List jj) (e:Int×Int),(refL i r prev now rec out).1=some e→e.2≠0
 | [],i,prev,now,rec,out,e,h=>by simp [refL] at h
 |(t,b)::r,i,prev,now,rec,out,e,h=>by
  rw [refL] at h
  split at h
  ·rename_i hw
   simp only [Option.some.injEq] at h
   subst h
   exact hw
  ·split at h
   ·exact qha r _ _ _ _ _ e h
   ·split at h
    ·exact qha r _ _ _ _ _ e h
    ·exact qha r _ _ _ _ _ e h
theorem qlx {text:qd} {n:Int} (h:vj text = .num n):n=1:=by
 unfold vj at h
 split at h
 ·simpa using h.symm
 ·split at h <;> simp at h
theorem qnu {text:qd} {a n:Int} (h:vj text = .at' a n):n≠0:=by
 unfold vj at h
 split at h
 ·simp at h
 ·split at h
  ·simp at h
  ·rename_i a' n' hp
   simp only [ErrV.at'.injEq] at h
   rw [← h.2]
   have:=qcc text
   exact qha _ _ _ _ _ _ (a',n') (by rw [this];exact hp)
theorem qxq (text:qd) (hl:text.length<1000000):∃ its p n,(∀ st,qp E 17 [Sv text] st fun r st'=>r = .tu [yg its,Iv p,Iv n]∧st'=st)∧p=(vj text).pos∧n=(vj text).code∧(n=0↔vj text = .no):=by
 obtain⟨its,hits⟩:=qqx text
 refine⟨its,_,_,fun st=>by rw [← hits];exact qil text st hl,rfl,rfl,?_⟩
 cases hpe:vj text with
 |no=>simp [ErrV.code]
 |num n=>have:=qlx hpe;simp [ErrV.code];omega
 |at' a n=>have:=qnu hpe;simp [ErrV.code];omega
end Go.Proofs.YtmjmdjbdoiddeaaGreatDoor
namespace Go.Pl
open Go Go.Proofs
structure EntV where
 x:jj
 id:Int
structure wn where
 ents:List EntV
 next:Int
 many:Int
def y2 (l:wn) (x:jj):wn:=if x.kind=3 then⟨l.ents++[⟨x,l.next⟩],l.next+1,l.many+1⟩ else⟨l.ents++[⟨x,0⟩],l.next,l.many⟩
def ofF (its:List jj):wn:=its.foldl y2 ⟨[],1,0⟩
end Go.Pl
namespace Go.Proofs.YtmjmdjbdoiddeaaGreatDoor
open Go Go.Av Go.RowKit Go.Proofs Go.Pl
@[reducible] def entA (e : EntV) : AV := .ag [Iv e.x.kind, Sv e.x.raw, y6 e.x.fields, Iv e.id]
@[reducible] def qaj (l : wn) : AV := .pp [.sl 4 (l.ents.map entA) none, Iv l.next, Iv l.many]
def qw3 (e:ErrV) (l:wn):AV:=match e with
 | .no=>.tu [qaj l,errA .no]
 |e=>.tu [.v (.pointer none),errA e]
theorem qle (e:EntV):qiw (entA e):=fun y hy=>by
 simp only [AV.cells,List.mem_cons,List.not_mem_nil,or_false] at hy
 rcases hy with rfl|rfl|rfl|rfl
 ·exact q7 _
 ·exact q7 _
 ·exact qee _
 ·exact q7 _
theorem quw (l:wn):Pure (qaj l):=qtg fun x hx=>by
 simp only [List.mem_cons,List.not_mem_nil,or_false] at hx
 rcases hx with rfl|rfl|rfl
 ·exact qa9 fun x hx=>by
   obtain⟨f,_,rfl⟩:=List.mem_map.1 hx
   exact qle f
 ·exact q7 _
 ·exact q7 _
theorem qsb (e:ErrV) (l:wn):Pure (qw3 e l):=by
 cases e with
 |no=>exact qe1 (quw l) (qfd _)
 |num n=>exact qe1 (q7 _) (qfd _)
 |at' a n=>exact qe1 (q7 _) (qfd _)
theorem qhd:∀ (n:Nat) (rest:qd) (k:Nat) (p:PSt),rest.length≤n→PB (4 * k) p→k+rest.length≤60000→(runL k (kf rest) p).2.items.length≤300000:=by
 have nil:∀ (k:Nat) (p:PSt),PB (4 * k) p→k≤60000→(runL k (kf []) p).2.items.length≤300000:=fun k p hB hk=>by
  have e:km p 0 [] true 1=endP p:=rfl
  have h:=qe8 (no:=0) (text:=[]) (ended:=true) (kind:=1) hB (by omega) (by simp)
  rw [e] at h
  have e2:runL k (kf []) p=endP p:=by rw [yj];rfl
  rw [e2]
  have:=h.items
  omega
 intro n
 induction n with
 |zero=>
  intro rest k p hr hB hk
  obtain rfl:rest=[]:=List.eq_nil_of_length_eq_zero (by omega)
  exact nil k p hB (by simpa using hk)
 |succ n ih=>
  intro rest k p hr hB hk
  by_cases hne:rest=[]
  ·subst hne
   exact nil k p hB (by simpa using hk)
  ·have hu:=qb4 10 rest
   have hpl:=qa8 10 rest
   have hr0:0<rest.length:=List.length_pos_iff.2 hne
   rw [y0 hne]
   simp only [runL]
   have hB2:=qre (no:=k) (text:=upto 10 rest) (ended:=decide (10∈rest)) hB (by omega) (by omega)
   split
   ·have:=hB.items
    simp only
    omega
   ·exact ih (past 10 rest) (k+1) _ (by omega) hB2 (by omega)
theorem qkd (text:qd):(itsE text).length≤300000:=by
 unfold itsE
 split
 ·simp
 ·have h:=qhd text.length text 0 p0 (Nat.le_refl _) q0c (by omega)
  unfold wm
  split
  ·simp
  ·exact h
theorem qy8 (text:qd) (st:List AObj) (hl:text.length<1000000):qp E 7 [Sv text] st fun r st'=>r=qw3 (vj text) (ofF (itsE text))∧st'=st:=by
 refine qzn [.s text] (qsb _ _) Tryz.func7 rfl rfl (fun _=>rfl) rfl fun S0=>?_
 have hp:=fun st=>qxx text st hl
 have hil:=qkd text
 generalize itsE text=its at hp hil
 cases he:vj text with
 |num n=>
  rw [he] at hp
  apply qi [19]
  repeat' (first|apply And.intro|(intro h;try exact cDd)|exact⟨Tryz.call16⟩|refine cpe hp ?_|exact cSd|apply qg [19]|refine exr ?_|refine qk ?_)
 |at' a n=>
  rw [he] at hp
  apply qi [19]
  repeat' (first|apply And.intro|(intro h;try exact cDd)|exact⟨Tryz.call16⟩|refine cpe hp ?_|exact cSd|apply qg [19]|refine exr ?_|refine qk ?_)
 |no=>
  rw [he] at hp
  apply qi [19]
  repeat' (first|apply And.intro|(intro h;try exact cDd)|exact⟨Tryz.call16⟩|refine cpe hp ?_|exact cSd|apply qg [19]|refine exr ?_|refine qk ?_)
  refine vv (X:=Nat×wn) (fun (k,l)=>⟨[(6,.bx 0 0),(20,.a (yg its)),(21,.i its.length),(22,.i k)],[(0,some (.cells 61 [.tp 1,.i l.next,.i l.many])),(1,some (.tip 4 65 (l.ents.map entA)))],2⟩)
   (fun (k,l)=>k≤its.length∧l.ents.length=k∧(1≤l.next∧l.next≤k+1∧0≤l.many∧l.many≤k)∧(its.drop k).foldl y2 l=ofF its) (fun (k,l)=>its.length - k) (0,⟨[],1,0⟩) ⟨by omega,rfl,⟨by decide,by decide,by decide,by decide⟩,rfl⟩ ?_ ?_
  ·skip
   repeat' (first|apply And.intro|(intro h;try exact cDd)|exact cSd|apply qg []|refine exr ?_|refine qk ?_)
   all_goals (simp;done)
  ·rintro⟨k,l⟩ ⟨hk,hlk,hnx,hrun⟩
   by_cases hkn:k<its.length
   ·have hx:its[k]? = some its[k]:=List.getElem?_eq_getElem hkn
    have hxm:(its.map yn)[k]? = some (yn its[k]):=by rw [List.getElem?_map,hx];rfl
    rw [List.drop_eq_getElem_cons hkn,List.foldl_cons] at hrun
    have hml:(l.ents.map entA).length=l.ents.length:=by simp
    generalize its[k]=x at hx hxm hrun
    by_cases hk3:x.kind=3
    ·have e:y2 l x=⟨l.ents++[⟨x,l.next⟩],l.next+1,l.many+1⟩:=if_pos hk3
     rw [e] at hrun
     apply qi []
     repeat' (first|apply And.intro|(intro h;try exact cDd)|(refine Exists.intro (k) ⟨by omega,_,hxm,?_⟩)|(refine Exists.intro (k+1,⟨l.ents++[⟨x,l.next⟩],l.next+1,l.many+1⟩) ⟨⟨by omega,by simp [hlk],by simp only;omega,hrun⟩,by simp only;omega,?_⟩)|exact cSd|apply qg []|refine exr ?_|refine qk ?_)
     all_goals (simp;done)
    ·have e:y2 l x=⟨l.ents++[⟨x,0⟩],l.next,l.many⟩:=if_neg hk3
     rw [e] at hrun
     apply qi []
     repeat' (first|apply And.intro|(intro h;try exact cDd)|(refine Exists.intro (k) ⟨by omega,_,hxm,?_⟩)|(refine Exists.intro (k+1,⟨l.ents++[⟨x,0⟩],l.next,l.many⟩) ⟨⟨by omega,by simp [hlk],by simp only;omega,hrun⟩,by simp only;omega,?_⟩)|exact cSd|apply qg []|refine exr ?_|refine qk ?_)
     all_goals (simp;done)
   ·have hkn:k=its.length:=by omega
    subst hkn
    rw [List.drop_length] at hrun
    have e:ofF its=l:=hrun.symm
    rw [e]
    apply qi []
    repeat' (first|apply And.intro|(intro h;try exact cDd)|exact cSd|apply qg []|refine exr ?_|refine qk ?_)
end Go.Proofs.YtmjmdjbdoiddeaaGreatDoor
namespace Go.Av
open Go Go.RowKit
theorem qrp {E:Env} {rd:Option Nat} {N:Nat} {ops:Array Oper} {K:AS→Prop} {s:AS} {rest:List Oper} {d:Option Tmp} {T:TypeId} {p:String} {af:Array Edge} {x:Operand} {t t' te:TypeId} {sz:Nat} {xs:List AV} {tip:Option Nat} (hx:qh N s x = .sl sz xs tip) (hu:E.P.underlying t=some (.slice te))
  (h1:xs=[]→AOps E rd N ops rest K (s.put d (Bv true))) (h2:AOps E rd N ops rest K (s.put d (Bv false))):AOps E rd N ops (⟨d,.binOp .eql t x (.const (.slice none 0 0)) t',T,p,af,none⟩::rest) K s:=by
 refine q5 rfl (q6 nofun fun B0 w0 G a w _ hI=>?_)
 have he:=hI.eval_of hx
 have key:∃ q n c,a.eval x = .slice q n c∧(q.isNone=true→xs=[]):=by
  generalize a.eval x=u at he
  cases he with
  |sl0=>exact⟨_,_,_,rfl,fun _=>rfl⟩
  |sl=>exact⟨_,_,_,rfl,fun h=>by simp at h⟩
 obtain⟨q,n,c,hv,hq0⟩:=key
 have hc:a.eval (.const (.slice none 0 0)) = .slice none 0 0:=rfl
 have hq:=Lib.run_eql_slice_nil (P:=E.P) w t te q n c 0 0 hu
 refine⟨_,w,G,.v (.bool q.isNone),s.st,?_,.refl G,hI.agree,.v _,?_⟩
 ·generalize a.eval = ρ at hv hc
  simp [execOp,hv,hc,eqGuard_at_slice,hq]
 ·cases hb:q.isNone with
  |true=>exact h1 (hq0 hb)
  |false=>exact h2
end Go.Av
namespace Go.Proofs.YtmjmdjbdoiddeaaGreatDoor
open Go Go.Av Go.RowKit Go.Proofs Go.Pl
theorem qt8 (fs:List Fld) (st:List AObj) (hl:fs.length<1000000):qp E 23 [y6 fs] st fun r st'=>r=y6 fs∧st'=st:=by
 refine zl (qee _) (qw Tryz.func23 rfl (Nat.le_of_ble_eq_true rfl) ?_)
 have hml:(fs.map fldA).length=fs.length:=by simp
 rw [List.append_nil]
 repeat' (first|(apply qjy (st:=st);(iterate 6 exact rfl))|(apply qrp;exact rfl;exact rfl;intro h0)|apply q4|apply qn|apply qs|apply qu|apply qo|(apply qc;exact rfl;apply cd_t;exact cRa)|(apply qc;exact rfl;apply cd_f;exact cRa)|apply zb|apply ze|(apply qox (b:=st.length) (xs:=[]) (ys:=fs.map fldA) (bytes:=32);(iterate 5 exact rfl);exact⟨⟨_,_,rfl,rfl,rfl,rfl,rfl⟩⟩;(focus (repeat' (first|assumption|exact qz4 _ _ _ _|exact q12 _ _ _ _ _ _ _|apply qz5|apply qx5|(refine y1 (T:=_) (ver:=_) (cs:=_) ?_)|exact qbv|exact qa6 rfl|apply x6|apply xw|omega|apply qdi)));(exact qs6);(first|exact rfl|exact qkx fun _=>rfl);((simp [maxLen];omega));((simp;omega));intro c' S' t1 g1 g2 g3 g4))
 ·exact qm rfl (qas (zv rfl) (fun G v h=>by
   rw [y6,h0]
   exact qau h)) ⟨rfl,_,(List.append_nil st).symm⟩
 ·exact qm rfl (qas (zv rfl) (qqz g1)) ⟨rfl,qs0 fun j hj=>(g2.same j (by omega) (Nat.lt_of_lt_of_le hj qs6)).trans (List.getElem?_append_left hj)⟩
end Go.Proofs.YtmjmdjbdoiddeaaGreatDoor
namespace Go.Pl
open Go Go.Proofs
def qae (l:wn):List jj:=l.ents.map fun e=>e.x
structure LB (n:Nat) (l:wn):Prop where
 small:n<900000
 len:l.ents.length≤n
 nx0:1≤l.next
 nx1:l.next≤n+1
 mn0 : -(n:Int)≤l.many
 mn1:l.many≤n
end Go.Pl
namespace Go.Proofs.YtmjmdjbdoiddeaaGreatDoor
open Go Go.Av Go.RowKit Go.Proofs Go.Pl
theorem q09 {n m:Nat} {l:wn} (h:LB n l) (hm:n≤m) (hs:m<900000):LB m l:=by
 have h1:=h.len;have h2:=h.nx0;have h3:=h.nx1;have h4:=h.mn0;have h5:=h.mn1
 exact⟨hs,by omega,h2,by omega,by omega,by omega⟩
theorem qxb:∀ (its:List jj) (n:Nat) (l:wn),LB n l→n+its.length<900000→LB (n+its.length) (its.foldl y2 l)
 | [],n,l,h,_=>h
 |x::r,n,l,h,hs=>by
  simp only [List.length_cons] at hs ⊢
  rw [List.foldl_cons,show n+(r.length+1)=n+1+r.length by omega]
  refine qxb r (n+1) _ ?_ (by omega)
  have h1:=h.len;have h2:=h.nx0;have h3:=h.nx1;have h4:=h.mn0;have h5:=h.mn1
  unfold y2
  split
  ·exact⟨by omega,by simp;omega,by simp only;omega,by simp only;omega,by simp only;omega,by simp only;omega⟩
  ·exact⟨by omega,by simp;omega,h2,by simp only;omega,by simp only;omega,by simp only;omega⟩
theorem q26 (text:qd):LB 300000 (ofF (itsE text)):=by
 have h:=qkd text
 have:=qxb (itsE text) 0 ⟨[],1,0⟩ ⟨by omega,by simp,by simp,by simp,by simp,by simp⟩ (by omega)
 exact q09 this (by omega) (by omega)
end Go.Proofs.YtmjmdjbdoiddeaaGreatDoor
namespace Go.Pl
open Go Go.Proofs Go.Proofs.YtmjmdjbdoiddeaaGreatDoor
def trL (ls:List qd):List (qd×Bool):=ls.map fun s=>(s,true)
def now0:jj:=⟨2,[],[]⟩
def blkR:Bool→jj→List qd→Option jj
 | _,now,[]=>some now
 |prev,now,t::r=>
  if vg prev t true (trL r) now.fields.length 0≠0∨ql t=1 then none
  else if ql t=4 then blkR true ⟨3,now.raw++t++[10],now.fields++[(z5 (t::ve (trL r))).1]⟩ r
  else blkR (decide (ql t=3)) ⟨now.kind,now.raw++t++[10],now.fields⟩ r
def qtt:List (qd×Bool)→Prop
 | []=>True
 |(t,_)::_=>ql t=1
theorem qic:∀ (ls:List qd) (rest:List (qd×Bool)),qtt rest→ve (trL ls++rest)=ve (trL ls)
 | [],[],_=>rfl
 | [],(t,e)::r,h=>by
  have h:ql t=1:=h
  show (if ql t=3 then _ else _)=_
  rw [if_neg (by omega)]
  rfl
 |t::r,rest,h=>by
  show (if ql t=3 then t::ve (trL r++rest) else [])=(if ql t=3 then t::ve (trL r) else [])
  rw [qic r rest h]
theorem qmd (prev:Bool) (t:qd) (ls:List qd) (rest:List (qd×Bool)) (n:Nat) (rec:Int) (h:qtt rest):vg prev t true (trL ls++rest) n rec=vg prev t true (trL ls) n rec:=by
 unfold vg
 rw [qic ls rest h]
theorem qme {prev:Bool} {t:qd} {e:Bool} {L:List (qd×Bool)} {n:Nat} {rec:Int} (h:vg prev t e L n rec=0):vg prev t e L n 0=0:=by
 unfold vg at h ⊢
 split
 ·rename_i h1;rw [if_pos h1] at h;exact h
 ·rename_i h1
  rw [if_neg h1] at h
  split
  ·rfl
  ·rename_i h4
   rw [if_neg h4] at h
   split
   ·rename_i hu;rw [if_pos hu] at h;exact h
   ·rename_i hu
    rw [if_neg hu] at h
    rw [if_neg]
    intro hh
    rcases hh with hh|hh
    ·rw [if_pos (.inl hh)] at h;omega
    ·omega
theorem qyc {prev:Bool} {t:qd} {e:Bool} {L:List (qd×Bool)} {n:Nat} {rec:Int} (h:vg prev t e L n rec=0):e=true∧10∉t:=by
 unfold vg at h
 split at h
 ·omega
 ·rename_i h1
  refine⟨by cases e with|true=>rfl|false=>exact absurd (.inr (.inr rfl)) h1,fun h10=>h1 (.inl ?_)⟩
  unfold ql
  rw [if_pos h10]
def qvu (x:jj):Prop:=x.kind=3∧x.fields≠[]∨x.kind=2∧x.fields=[]
theorem qmw:∀ (L:List (qd×Bool)) (k:Nat) (prev:Bool) (now:jj) (rec:Int) (out its:List jj),refL k L prev now rec out=(none,its) →
  ∃ (ls:List qd) (rest:List (qd×Bool)) (prev':Bool) (x:jj) (rec':Int) (k':Nat),L=trL ls++rest∧qtt rest∧blkR prev now ls=some x∧refL k' rest prev' x rec' out=(none,its)∧∀ t∈ls,10∉t
 | [],k,prev,now,rec,out,its,h=>⟨[],[],prev,now,rec,k,rfl,trivial,rfl,h,by simp⟩
 |(t,e)::r,k,prev,now,rec,out,its,h=>by
  have h0:=h
  rw [refL] at h
  split at h
  ·simp at h
  ·rename_i hw
   have hw:=Classical.not_not.1 hw
   obtain⟨rfl,h10⟩:=qyc hw
   split at h
   ·rename_i h1
    exact⟨[],(t,true)::r,prev,now,rec,k,rfl,h1,rfl,h0,by simp⟩
   ·rename_i h1
    split at h
    ·rename_i h4
     obtain⟨ls,rest,p',x,rc,k',rfl,hs,hb,hr,hten⟩:=qmw r _ _ _ _ _ _ h
     rw [qic ls rest hs] at hb
     rw [qmd _ _ _ _ _ _ hs] at hw
     refine⟨t::ls,rest,p',x,rc,k',rfl,hs,?_,hr,by simpa using ⟨h10,hten⟩⟩
     rw [blkR,if_neg (by simp [qme hw,h1]),if_pos h4]
     exact hb
    ·rename_i h4
     obtain⟨ls,rest,p',x,rc,k',rfl,hs,hb,hr,hten⟩:=qmw r _ _ _ _ _ _ h
     rw [qmd _ _ _ _ _ _ hs] at hw
     refine⟨t::ls,rest,p',x,rc,k',rfl,hs,?_,hr,by simpa using ⟨h10,hten⟩⟩
     rw [blkR,if_neg (by simp [qme hw,h1]),if_neg h4]
     exact hb
def qc0 (x:jj):Prop:=(∃ t,x=⟨1,t++[10],[]⟩∧ql t=1)∨∃ ls,ls≠[]∧blkR false now0 ls=some x∧∀ t∈ls,10∉t
theorem qxs:∀ (n:Nat) (L:List (qd×Bool)) (k:Nat) (rec:Int) (out its:List jj),L.length≤n→refL k L false now0 rec out=(none,its)→(∀ x∈out,qc0 x)→∀ x∈its,qc0 x:=by
 intro n
 induction n with
 |zero=>
  intro L k rec out its hn h ho
  have:L=[]:=List.length_eq_zero_iff.1 (by omega)
  subst this
  have h:(none,outR now0 out)=(none,its):=h
  simp only [Prod.mk.injEq,true_and] at h
  subst h
  exact ho
 |succ n ih=>
  intro L k rec out its hn h ho
  obtain⟨ls,rest,p',x,rc,k',rfl,hs,hb,hr,hten⟩:=qmw L _ _ _ _ _ _ h
  have hout:∀ y∈outR x out,qc0 y:=fun y hy=>by
   unfold outR at hy
   split at hy
   ·exact ho y hy
   ·rename_i hx
    rcases List.mem_append.1 hy with hy|hy
    ·exact ho y hy
    ·simp only [List.mem_cons,List.not_mem_nil,or_false] at hy
     subst hy
     refine .inr ⟨ls,fun e=>hx ?_,hb,hten⟩
     subst e
     cases hb
     rfl
  cases rest with
  |nil=>
   have hr:(none,outR x out)=(none,its):=hr
   simp only [Prod.mk.injEq,true_and] at hr
   subst hr
   exact hout
  |cons y r=>
   obtain⟨t,e⟩:=y
   have h1:ql t=1:=hs
   rw [refL] at hr
   split at hr
   ·simp at hr
   ·try rw [if_pos h1] at hr
    refine ih r _ _ _ _ (by simp at hn;omega) hr fun y hy=>?_
    rcases List.mem_append.1 hy with hy|hy
    ·exact hout y hy
    ·simp only [List.mem_cons,List.not_mem_nil,or_false] at hy
     subst hy
     exact .inl ⟨t,rfl,h1⟩
theorem qqo {text:qd} (h:(wm text).1=none):∀ x∈(wm text).2,qc0 x:=by
 refine qxs _ (kf text) 0 0 [] _ (Nat.le_refl _) ((qcc text).trans (Prod.ext h rfl)) (by simp)
def cntI (its:List jj):Nat:=its.countP fun x=>x.kind=3
theorem qcl (a b:List jj):cntI (a++b)=cntI a+cntI b:=by simp [cntI]
theorem yv (x:jj) (b:List jj):cntI (x::b)=(if x.kind=3 then 1 else 0)+cntI b:=by
 simp only [cntI,List.countP_cons,decide_eq_true_eq]
 omega
theorem qql {now:jj} {out:List jj} (hk:qvu now) (hr:now.kind=3→now.raw≠[]):(cntI (outR now out):Int)=(cntI out:Int)+(if now.kind=3 then 1 else 0):=by
 have h0:cntI []=0:=rfl
 unfold outR
 by_cases he:now.raw=[]
 ·rw [if_pos he,if_neg fun h=>hr h he]
  omega
 ·rw [if_neg he,qcl,yv,h0]
  by_cases h3:now.kind=3
  ·rw [if_pos h3,if_pos h3];omega
  ·rw [if_neg h3,if_neg h3];omega
theorem qi8:∀ (L:List (qd×Bool)) (k:Nat) (prev:Bool) (now:jj) (rec:Int) (out its:List jj),refL k L prev now rec out=(none,its)→qvu now→(now.kind=3→now.raw≠[])→(cntI out:Int)+(if now.kind=3 then 1 else 0)=rec→rec≤400→cntI its≤400
 | [],k,prev,now,rec,out,its,h,hk,hr,hc,hm=>by
  have h:(none,outR now out)=(none,its):=h
  simp only [Prod.mk.injEq,true_and] at h
  subst h
  have:=qql (out:=out) hk hr
  omega
 |(t,e)::r,k,prev,now,rec,out,its,h,hk,hr,hc,hm=>by
  rw [refL] at h
  split at h
  ·simp at h
  ·rename_i hw
   have hw:=Classical.not_not.1 hw
   split at h
   ·refine qi8 r _ _ _ _ _ _ h (.inr ⟨rfl,rfl⟩) (by simp) ?_ hm
    have:=qql (out:=out) hk hr
    rw [qcl,yv,show cntI []=0 from rfl,if_neg (by omega:¬ (1:Int)=3),if_neg (by omega:¬ (2:Int)=3)]
    omega
   ·split at h
    ·rename_i h4
     refine qi8 r _ _ _ _ _ _ h (.inl ⟨rfl,by simp⟩) (by simp) ?_ ?_
     ·rcases hk with hk|hk
      ·rw [if_pos hk.1] at hc
       rw [if_pos rfl,if_neg (by omega)]
       exact hc
      ·rw [if_neg (by omega)] at hc
       rw [if_pos rfl,if_pos hk.1]
       omega
     ·rcases hk with hk|hk
      ·rw [if_neg (by omega)];exact hm
      ·rw [if_pos hk.1]
       unfold vg at hw
       split at hw
       ·omega
       ·rw [if_neg (by omega)] at hw
        split at hw
        ·omega
        ·split at hw
         ·omega
         ·rename_i hf
          have:now.fields.length=0:=by rw [hk.2];rfl
          omega
    ·exact qi8 r _ _ _ _ _ _ h hk (fun h3=>by simp) hc hm
theorem qxk {text:qd} (h:(wm text).1=none):cntI (wm text).2≤400:=
 qi8 (kf text) 0 false now0 0 [] _ ((qcc text).trans (Prod.ext h rfl)) (.inr ⟨rfl,rfl⟩) (by simp [now0]) (by simp [cntI,now0]) (by omega)
structure GL (l:wn):Prop where
 ok:∀ e∈l.ents,qc0 e.x∧(0<e.id↔e.x.kind=3)
 nx:1≤l.next
 mn:l.many=cntI (qae l)
 le:cntI (qae l)≤400
theorem qxc {l:wn} {x:jj} (h:GL l) (hx:qc0 x) (hc:cntI (qae l)+cntI [x]≤400):GL (y2 l x):=by
 obtain⟨h1,h2,h3,h4⟩:=h
 rw [yv] at hc
 unfold y2
 by_cases hk:x.kind=3
 ·rw [if_pos hk]
  refine⟨fun e he=>?_,by simp only;omega,?_,?_⟩
  ·rcases List.mem_append.1 he with he|he
   ·exact h1 e he
   ·simp only [List.mem_cons,List.not_mem_nil,or_false] at he
    subst he
    exact⟨hx,fun _=>hk,fun _=>by show 0<l.next;omega⟩
  ·simp only [qae,List.map_append,qcl,List.map_cons,List.map_nil,yv] at h3 ⊢
   rw [if_pos hk]
   simp [cntI] at h3 ⊢
   omega
  ·rw [if_pos hk] at hc
   simp only [qae,List.map_append,qcl,List.map_cons,List.map_nil,yv] at hc ⊢
   rw [if_pos hk]
   exact hc
 ·rw [if_neg hk]
  refine⟨fun e he=>?_,h2,?_,?_⟩
  ·rcases List.mem_append.1 he with he|he
   ·exact h1 e he
   ·simp only [List.mem_cons,List.not_mem_nil,or_false] at he
    subst he
    exact⟨hx,by simp [hk]⟩
  ·simp only [qae,List.map_append,qcl,List.map_cons,List.map_nil,yv] at h3 ⊢
   rw [if_neg hk]
   simp [cntI] at h3 ⊢
   omega
  ·rw [if_neg hk] at hc
   simp only [qae,List.map_append,qcl,List.map_cons,List.map_nil,yv] at hc ⊢
   rw [if_neg hk]
   exact hc
theorem qr8 (l:wn) (x:jj):qae (y2 l x)=qae l++[x]:=by
 unfold y2 qae
 split <;> simp
theorem qns:∀ (its:List jj) (l:wn),GL l→(∀ x∈its,qc0 x)→cntI (qae l)+cntI its≤400→GL (its.foldl y2 l)
 | [],l,h,_,_=>h
 |x::r,l,h,hx,hc=>by
  rw [yv] at hc
  refine qns r (y2 l x) (qxc h (hx x (by simp)) ?_) (fun y hy=>hx y (by simp [hy])) ?_
  ·rw [yv,show cntI []=0 from rfl];omega
  ·rw [qr8,qcl,yv]
   rw [show cntI []=0 from rfl]
   omega
theorem q25 {its:List jj} (hx:∀ x∈its,qc0 x) (hc:cntI its≤400):GL (ofF its):=
 qns its ⟨[],1,0⟩ ⟨by simp,by simp,by simp [qae,cntI],by simp [qae,cntI]⟩ hx (by simpa [qae,cntI] using hc)
theorem qsf {text:qd} (h:vj text = .no):(wm text).1=none∧text.length≤60000∧itsE text=(wm text).2:=by
 unfold vj at h
 unfold itsE
 split at h
 ·simp at h
 ·rename_i hl
  rw [if_neg hl]
  refine⟨?_,by omega,rfl⟩
  cases hp:(wm text).1 with
  |none=>rfl
  |some x=>rw [hp] at h;simp at h
end Go.Pl
namespace Go.Proofs.YtmjmdjbdoiddeaaGreatDoor
open Go Go.Av Go.RowKit Go.Proofs Go.Pl
@[reducible] def quf (es : List EntV) : AV := .sl 4 (es.map entA) none
@[reducible] def qge (l : wn) : AV := .ag [quf l.ents, Iv l.next]
theorem qug (es:List EntV):Pure (quf es):=qa9 fun x hx=>by
 obtain⟨f,_,rfl⟩:=List.mem_map.1 hx
 exact qle f
theorem qsk (l:wn):Pure (qge l):=qn9 fun y hy=>by
 simp only [AV.cells,List.mem_cons,List.not_mem_nil,or_false] at hy
 rcases hy with rfl|rfl
 ·exact qug _
 ·exact q7 _
def ofR (text:qd):wn:=if vj text = .no then ofF (itsE text) else⟨[],0,0⟩
theorem qsj {text:qd} (h:vj text = .no):qag text = .tu [yg (itsE text),Iv (-9),Iv 0]:=by
 unfold qag itsE
 unfold vj at h
 split
 ·rename_i hb
  rw [if_pos hb] at h
  simp at h
 ·rename_i hb
  rw [if_neg hb] at h
  rcases hp:(wm text).1 with _ | ⟨a,n⟩
  ·rfl
  ·rw [hp] at h
   simp at h
theorem qxp (text:qd) (st:List AObj) (hl:text.length<1000000):qp E 8 [Sv text] st fun r st'=>r = .tu [qge (ofR text),Iv (vj text).pos,Iv (vj text).code]∧st'=st:=by
 refine wz [.s text] (qg7 (qsk _) (q7 _) (q7 _)) Tryz.func8 rfl rfl (fun _=>rfl) rfl fun S0=>?_
 unfold ofR
 by_cases hno:vj text = .no
 ·have hp:=fun st=>qil text st hl
  rw [qsj hno] at hp
  have hil:=qkd text
  rw [hno,if_pos rfl]
  generalize itsE text=its at hp hil
  have hmi:(its.map yn).length=its.length:=by simp
  apply qi []
  repeat' (first|apply And.intro|(intro h;try exact cDd)|exact⟨Tryz.call17⟩|refine cpe hp ?_|exact cSd|apply qg []|refine exr ?_|refine qk ?_)
  refine vv (X:=Nat×wn) (fun (k,l)=>⟨[(2,.bx 0 0),(5,.a (yg its)),(6,.i (-9)),(8,.bx 1 0),(9,.i k)],[(0,some (.cells 32 [.a kg,.i 0])),(1,some (.cells 32 [.tp 2,.i l.next])),(2,some (.tip 4 69 (l.ents.map entA)))],3⟩)
   (fun (k,l)=>k≤its.length∧l.ents.length=k∧(1≤l.next∧l.next≤k+1)∧(its.drop k).foldl y2 l=ofF its) (fun (k,l)=>its.length - k) (0,⟨[],1,0⟩) ⟨by omega,rfl,⟨by decide,by decide⟩,rfl⟩ ?_ ?_
  ·skip
   repeat' (first|apply And.intro|(intro h;try exact cDd)|exact cSd|apply qg []|refine exr ?_|refine qk ?_)
   all_goals (simp;done)
  ·rintro⟨k,l⟩ ⟨hk,hlk,hnx,hrun⟩
   by_cases hkn:k<its.length
   ·have hx:its[k]? = some its[k]:=List.getElem?_eq_getElem hkn
    have hxm:(its.map yn)[k]? = some (yn its[k]):=by rw [List.getElem?_map,hx];rfl
    rw [List.drop_eq_getElem_cons hkn,List.foldl_cons] at hrun
    have hml:(l.ents.map entA).length=l.ents.length:=by simp
    generalize its[k]=x at hx hxm hrun
    by_cases hk3:x.kind=3
    ·have e:y2 l x=⟨l.ents++[⟨x,l.next⟩],l.next+1,l.many+1⟩:=if_pos hk3
     rw [e] at hrun
     apply qi []
     repeat' (first|apply And.intro|(intro h;try exact cDd)|(refine Exists.intro (k) ⟨by omega,_,hxm,?_⟩)|(refine Exists.intro (k+1,⟨l.ents++[⟨x,l.next⟩],l.next+1,l.many+1⟩) ⟨⟨by omega,by simp [hlk],by simp only;omega,hrun⟩,by simp only;omega,?_⟩)|exact cSd|apply qg []|refine exr ?_|refine qk ?_)
     all_goals (simp;done)
    ·have e:y2 l x=⟨l.ents++[⟨x,0⟩],l.next,l.many⟩:=if_neg hk3
     rw [e] at hrun
     apply qi []
     repeat' (first|apply And.intro|(intro h;try exact cDd)|(refine Exists.intro (k) ⟨by omega,_,hxm,?_⟩)|(refine Exists.intro (k+1,⟨l.ents++[⟨x,0⟩],l.next,l.many⟩) ⟨⟨by omega,by simp [hlk],by simp only;omega,hrun⟩,by simp only;omega,?_⟩)|exact cSd|apply qg []|refine exr ?_|refine qk ?_)
     all_goals (simp;done)
   ·have hkn:k=its.length:=by omega
    subst hkn
    rw [List.drop_length] at hrun
    have e:ofF its=l:=hrun.symm
    rw [e]
    apply qi []
    repeat' (first|apply And.intro|(intro h;try exact cDd)|exact cSd|apply qg []|refine exr ?_|refine qk ?_)
 ·obtain⟨its,p,n,hpa,hp,hn,hn0⟩:=qxq text hl
  have hz:n≠0:=fun h=>hno (hn0.1 h)
  rw [if_neg hno,← hp,← hn]
  apply qi []
  repeat' (first|apply And.intro|(intro h;try exact cDd)|exact⟨Tryz.call17⟩|refine cpe hpa ?_|exact cSd|apply qg []|refine exr ?_|refine qk ?_)
end Go.Proofs.YtmjmdjbdoiddeaaGreatDoor
namespace Go.Pl
open Go Go.Proofs Go.Proofs.YtmjmdjbdoiddeaaGreatDoor
theorem qiq (a b:List qd):vh (a++b)=vh a++vh b:=by simp [vh]
end Go.Pl
namespace Go.Proofs.YtmjmdjbdoiddeaaGreatDoor
open Go Go.Av Go.RowKit Go.Proofs Go.Pl
theorem qzi {text:qd} (h:vj text≠.no):(vj text).code≠0:=by
 cases hpe:vj text with
 |no=>exact absurd hpe h
 |num n=>have:=qlx hpe;simp [ErrV.code];omega
 |at' a n=>have:=qnu hpe;simpa [ErrV.code] using this
end Go.Proofs.YtmjmdjbdoiddeaaGreatDoor
namespace Go.Pl
open Go Go.Proofs
def qaf:List EntV→Option (EntV×List EntV)
 | []=>none
 |e::r=>if 0<e.id then some (e,r) else qaf r
def stzF (es:List EntV):List (Int×List Fld):=(es.filter fun e=>decide (0<e.id)).map fun e=>(e.id,e.x.fields)
theorem qlq:∀ {r:List EntV},qaf r=none→stzF r=[]
 | [],_=>rfl
 |e::r,h=>by
  unfold qaf at h
  split at h
  ·simp at h
  ·rename_i h0
   have:=qlq h
   simpa [stzF,h0] using this
theorem qlr:∀ {r:List EntV} {e:EntV} {q:List EntV},qaf r=some (e,q)→0<e.id∧e∈r∧stzF r=(e.id,e.x.fields)::stzF q∧q.length<r.length∧∀ y∈q,y∈r
 |x::r,e,q,h=>by
  unfold qaf at h
  split at h
  ·rename_i h0
   simp only [Option.some.injEq,Prod.mk.injEq] at h
   obtain⟨rfl,rfl⟩:=h
   exact⟨h0,by simp,by simp [stzF,h0],by simp,fun y hy=>by simp [hy]⟩
  ·rename_i h0
   obtain⟨h1,h2,h3,h4,h5⟩:=qlr h
   exact⟨h1,by simp [h2],by simpa [stzF,h0] using h3,by simp;omega,fun y hy=>by simp [h5 y hy]⟩
end Go.Pl
namespace Go.Proofs.YtmjmdjbdoiddeaaGreatDoor
open Go Go.Av Go.RowKit Go.Proofs Go.Pl
theorem q29 {m:Nat} {T:TypeId} {S':List AObj} {cs0:List AV} (h:S'.length=m∨∃ cs,S'[m]? = some (.cells 0 T cs)):∃ cs,(S'++[AObj.cells 0 T cs0])[m]? = some (.cells 0 T cs):=by
 rcases h with rfl | ⟨cs,h⟩
 ·exact⟨cs0,by simp⟩
 ·exact⟨cs,by rw [List.getElem?_append_left (lt_of_getElem? h)];exact h⟩
theorem q3a {m:Nat} {T:TypeId} {S':List AObj} (h:S'.length=m∨∃ cs,S'[m]? = some (.cells 0 T cs)):m≤S'.length:=by
 rcases h with rfl | ⟨cs,h⟩
 ·omega
 ·exact Nat.le_of_lt (lt_of_getElem? h)
theorem qmz {L:List (Tmp×AV)} {st:List AObj} {df:List Nat} {s:AS} (h:StA L st df s):StA L (st++[]) df s:=by
 rw [List.append_nil]
 exact h
theorem q0k (l:wn) (o kb n m:Nat) (I:List EntV→List AObj→Prop) (D:List AObj→Prop) (S:List AObj) (hm:S.length=m) (hn:n≤m) (hl:l.ents.length<1000000) (h0:I l.ents S)
  (hI:∀ r S',I r S'→S'[kb]? = some (.cells 0 25 [qaj l]))
  (hst:∀ r S' S'',Ext n S' S''→I r S'→I r S'')
  (hY:∀ r e q S' cs,I r S'→S'[m]? = some (.cells 0 65 cs)→qaf r=some (e,q)→qbi E o [entA e] S' fun b S''=>S''[m]? = some (.cells 0 65 cs)∧(b=true→I q S'')∧(b=false→D S'')) :
  qp E 41 [.yd o,.bx kb 0 0] S fun r S'=>(∃ i,qaf i=none∧I i S')∨D S':=by
 refine qw Tryz.func41 rfl (Nat.le_of_ble_eq_true rfl) ?_
 have hb:=hI _ S h0
 have hmi:(l.ents.map entA).length=l.ents.length:=by simp
 repeat' (first|apply q4|apply za|apply qn|apply qs|apply qu|(apply qc;exact rfl;apply cd_f;exact cRa)|(apply je;(iterate 4 exact rfl))|(apply qy;(iterate 4 exact rfl))|(apply zu;(iterate 3 exact rfl))|(apply zk;exact rfl;exact rfl)|(apply zo;(iterate 3 exact rfl))|apply zb|(apply qd5;exact rfl;exact rfl;exact hb;exact rfl;exact rfl))
 refine xk (fun (k:Nat) s=>∃ S' r,I r S'∧(S'.length=m∨∃ cs,S'[m]? = some (.cells 0 65 cs))∧k≤l.ents.length∧qaf r=qaf (l.ents.drop k)∧StA [(0,.yd o),(10,.sl 4 (l.ents.map entA) none),(11,Iv l.ents.length),(12,Iv k)] (S'++[]) [] s) (fun k=>l.ents.length - k) 0
  ⟨_,_,hst _ _ _ (qdh (by omega)) h0,.inl (by simpa using hm),by omega,by simp,qmz (wr ⟨rfl,rfl,congrArg (fun n:Nat=>Iv (n:Int)) hmi,rfl,trivial⟩)⟩ ?_
 rintro k _ ⟨S',r,hi,hown,hk,hnx,t,rfl⟩
 have hml:=q3a hown
 by_cases hkn:k<l.ents.length
 ·have hx:l.ents[k]? = some l.ents[k]:=List.getElem?_eq_getElem hkn
  have hxm:(l.ents.map entA)[k]? = some (entA l.ents[k]):=by rw [List.getElem?_map,hx];rfl
  rw [List.drop_eq_getElem_cons hkn,qaf] at hnx
  generalize l.ents[k]=e at hx hxm hnx
  obtain⟨cs,hcs⟩:=q29 (cs0:=(entA e).cells) hown
  by_cases he:0<e.id
  ·rw [if_pos he] at hnx
   repeat' (first|apply q4|apply za|apply qn|apply qs|apply qu|(apply qz;(iterate 3 exact rfl))|(apply qr;(iterate 4 exact rfl))|(apply kl;exact cAo)|(apply qc;exact rfl;apply wo;exact cAo)|(apply jc;exact rfl;exact rfl)|(apply qt;(iterate 3 exact rfl))|(apply zu;(iterate 3 exact rfl))|(apply zj;(iterate 5 exact rfl))|(apply zc;(iterate 11 exact rfl))|apply zb|(apply qal (n:=k);(iterate 5 exact rfl);exact hxm))
   apply qfz (o:=o) rfl
   refine qbi.mono (hY r e _ _ cs (hst _ _ _ (qdh (by omega)) hi) hcs hnx) ?_
   rintro b S2 ⟨h1,h2,h3⟩
   show AOps _ _ _ _ _ _ _
   cases b
   ·skip
    repeat' (first|apply qs|(apply jf;exact rfl)|(apply qr;(iterate 4 exact rfl))|(apply kl;exact cAo)|(apply qe;exact rfl;apply we;exact cAo)|(apply qc;exact rfl;apply xm;exact cRa)|apply ze)
    exact qm rfl (qcu rfl) (.inr (h3 rfl))
   ·skip
    repeat' (first|apply qn|apply qs|apply qu|(apply jf;exact rfl)|(apply qr;(iterate 4 exact rfl))|(apply kl;exact cAo)|(apply qe;exact rfl;apply we;exact cAo)|(apply qc;exact rfl;apply xl;exact cRa)|(apply z6;exact rfl;exact rfl;exact qj (by omega) (by omega))|apply zb)
    exact⟨k+1,⟨_,_,h2 rfl,.inr ⟨cs,h1⟩,by omega,rfl,qmz (wr ⟨rfl,rfl,rfl,rfl,trivial⟩)⟩,by omega⟩
  ·rw [if_neg he] at hnx
   repeat' (first|apply q4|apply za|apply qn|apply qs|apply qu|(apply qz;(iterate 3 exact rfl))|(apply qr;(iterate 4 exact rfl))|(apply kj;exact cAo)|(apply qe;exact rfl;apply wi;exact cAo)|(apply qc;exact rfl;apply wo;exact cAo)|(apply qc;exact rfl;apply cd_f;exact cRa)|(apply z6;exact rfl;exact rfl;exact qj (by omega) (by omega))|(apply jc;exact rfl;exact rfl)|(apply qt;(iterate 3 exact rfl))|(apply zu;(iterate 3 exact rfl))|(apply zj;(iterate 5 exact rfl))|(apply zc;(iterate 11 exact rfl))|apply zb|(apply qal (n:=k);(iterate 5 exact rfl);exact hxm))
   exact⟨k+1,⟨_,_,hst _ _ _ (qdh (by omega)) hi,.inr ⟨cs,hcs⟩,by omega,hnx,qmz (wr ⟨rfl,rfl,rfl,rfl,trivial⟩)⟩,by omega⟩
 ·rw [List.drop_of_length_le (by omega),qaf] at hnx
  repeat' (first|apply q4|apply qn|apply qs|(apply qz;(iterate 3 exact rfl))|(apply qc;exact rfl;apply wv;exact cAo)|apply jg)
  exact qm rfl (qcu rfl) (.inl ⟨r,hnx,hst _ _ _ (qdh (by omega)) hi⟩)
def allY (r:List EntV):Option (SV×List EntV):=(qaf r).map fun x=>(.a (entA x.1),x.2)
theorem q15 (l:wn) (hl:l.ents.length<1000000):ItC 41 25 [qaj l] (evY allY) l.ents:=⟨fun o kb n m I D S hm hn h0 hI hst hY=>by
 refine (q0k l o kb n m I D S hm hn hl h0 hI hst fun r e q S' cs hi hown hx=>?_).mono ?_
 ·refine (hY r (entA e) q S' [.cells 0 65 cs] hi (fun j y hy=>?_) (by simp [evY,allY,hx,SV.ev])).mono fun b S'' ⟨h1,h2,h3⟩=>⟨by have:=h1 0 _ rfl;simpa using this,h2,h3⟩
  match j with
  | 0=>
   simp only [List.getElem?_cons_zero,Option.some.injEq] at hy
   subst hy
   exact⟨hown,y1 rfl⟩
  |j+1=>simp at hy
 ·rintro r S' (⟨i,h1,h2⟩|h)
  ·exact .inl ⟨i,by simp [evY,allY,h1],h2⟩
  ·exact .inr h⟩
theorem q2y (l:wn):x4 E 22 [.a (qaj l)] 0 (hpF []) ⟨.fn (.func 41) [] [.bx 0 0],xj [],[(0,some (.cells 25 [.a (qaj l)]))]++yc [],1⟩:=by
 refine qam [.a (qaj l)] [] 0 (.fn (.func 41) [] [.bx 0 0]) [(0,some (.cells 25 [.a (qaj l)]))] 1 Tryz.func22 rfl rfl rfl rfl fun S F ρ=>?_
 apply qi [1]
 repeat' (first|apply And.intro|(intro h;try exact cDd)|exact cSd|apply qg [1]|refine exr ?_|refine qk ?_)
@[reducible] def stzA (x : Int × List Fld) : AV := .ag [Iv x.1, y6 x.2]
@[reducible] def x9 (s : List (Int × List Fld)) : AV := .sl 2 (s.map stzA) none
theorem qhf (s:List (Int×List Fld)):Pure (x9 s):=qa9 fun x hx=>by
 obtain⟨f,_,rfl⟩:=List.mem_map.1 hx
 intro y hy
 simp only [AV.cells,List.mem_cons,List.not_mem_nil,or_false] at hy
 rcases hy with rfl|rfl
 ·exact q7 _
 ·exact qee _
theorem qkl (es:List EntV):(stzF es).length≤es.length:=by
 unfold stzF
 rw [List.length_map]
 exact List.length_filter_le _ _
theorem qq4 {N:Nat} {B:Bs} {C:Conf} {Q:Exit→Conf→Prop} {X:Type} {f:Operand} {p:Tmp} {asg body:Code} (l:wn) (kb n0:Nat) (ks:List Nat) (I:X→Conf) (sl0:List (Nat×SV)) (P:List EntV→X→Prop) (D:Code→X→Prop) (x0:X) (h0:P l.ents x0)
  (he:EntA B.n0 C (I x0)) (hz:¬ B.dz) (hl:l.ents.length<1000000) (hsl:∀ x,(I x).sl=sl0)
  (hf:sval N sl0 f=some (.fn (.func 41) [] [.bx kb 0]))
  (hkb:∀ x,lkS (I x).hp kb=some (some (.cells 25 [.a (qaj l)])))
  (hr:∀ x,qa2 n0 ks (I x).sl (I x).hp (I x).nx=true) (h0r:(ksIn n0 ks (I x0).hp && Nat.ble B.n0 n0)=true)
  (hb:∀ r e q x,P r x→qaf r=some (e,q)→RA E N n0 asg (fun F ρ C1=>RB E N F ρ n0 body (rndQ n0 (P q) D I) C1) ⟨(p,.a (entA e))::(I x).sl,(I x).hp,(I x).nx⟩)
  (hn:∀ r x,qaf r=none→P r x→Q .normal (I x)) (hd:∀ c x,D c x→qt9 Q c (I x)):Sm E none N B (.rangeFunc f #[p] asg body) Q C:=by
 refine qfy (q15 l hl) Tryz.call41 (fun i v j h=>?_) kb n0 [.a (qaj l)] (fun _=>rfl) ks I sl0 P D x0 h0 he hz hsl hf hkb hr h0r (fun i x v j hp h=>?_) (fun i x h hp=>?_) hd
 ·unfold allY at h
  cases hx:qaf i with
  |none=>rw [hx] at h;simp at h
  |some y=>
   rw [hx] at h
   simp only [Option.map_some,Option.some.injEq,Prod.mk.injEq] at h
   rw [← h.1]
   try rfl
 ·unfold allY at h
  cases hx:qaf i with
  |none=>rw [hx] at h;simp at h
  |some y=>
   rw [hx] at h
   simp only [Option.map_some,Option.some.injEq,Prod.mk.injEq] at h
   obtain⟨h1,h2⟩:=h
   rw [← h1,← h2]
   exact hb i y.1 y.2 x hp hx
 ·unfold allY at h
  cases hx:qaf i with
  |none=>exact hn i x hx hp
  |some y=>rw [hx] at h;simp at h
theorem quy (l:wn) (st:List AObj) (hl:l.ents.length<1000000) (hI:∀ e∈l.ents,e.x.fields.length<1000000):qp E 13 [qaj l] st fun r st'=>r=x9 (stzF l.ents)∧st'=st:=by
 refine wz [.a (qaj l)] (qhf _) Tryz.func13 rfl rfl (fun _=>rfl) rfl fun S0=>?_
 apply qi []
 repeat' (first|apply And.intro|(intro h;try exact cDd)|exact⟨Tryz.call22⟩|(refine xo (q2y l) ?_)|exact cSd|apply qg []|refine exr ?_|refine qk ?_)
 refine qq4 (X:=List (Int×List Fld)) l 1 2 [0,1] (fun out=>⟨[(3,.bx 0 0),(6,.fn (.func 41) [] [.bx 1 0])],[(0,some (.cells 46 [.tp 2])),(1,some (.cells 25 [.a (qaj l)])),(2,some (.tip 2 50 (out.map stzA)))],3⟩) _
  (fun r out=>out++stzF r=stzF l.ents∧out.length+r.length≤l.ents.length∧∀ y∈r,y∈l.ents) (fun _ _=>False) [] ⟨by simp,by simp,fun _ h=>h⟩ ?_ id hl (fun _=>rfl) rfl (fun _=>rfl) (fun _=>rfl) rfl ?_ ?_ (fun _ _ h=>h.elim)
 ·skip
  repeat' (first|apply And.intro|(intro h;try exact cDd)|exact cSd|apply qg []|refine exr ?_|refine qk ?_)
 ·rintro r e q out ⟨h1,h2,h3⟩ hx
  obtain⟨g1,g2,g3,g4,g5⟩:=qlr hx
  rw [g3] at h1
  have hcl:=fun st=>qt8 e.x.fields st (hI e (h3 e g2))
  have hml:(out.map stzA).length=out.length:=by simp
  refine RA.mk fun S F ρ rd=>?_
  apply qi []
  repeat' (first|apply And.intro|(intro h;try exact cDd)|(refine RB.mk fun S rd=>?_;apply qi [])|exact⟨Tryz.call23⟩|refine cpe hcl ?_|(refine Exists.intro (out++[(e.id,e.x.fields)]) ⟨⟨by rw [← h1];simp,by simp;omega,fun y hy=>h3 y (g5 y hy)⟩,?_⟩)|exact cSd|apply qg []|refine exr ?_|refine qk ?_)
  all_goals first|(simp [SV.evs,SV.ev];done)|(simp [SV.evs];omega)
 ·rintro r out hx ⟨h1,h2,h3⟩
  rw [qlq hx,List.append_nil] at h1
  rw [← h1]
  repeat' (first|apply And.intro|(intro h;try exact cDd)|exact cSd|apply qg []|refine exr ?_|refine qk ?_)
end Go.Proofs.YtmjmdjbdoiddeaaGreatDoor
namespace Go.Pl
open Go Go.Proofs
theorem qrb (a b:List EntV):stzF (a++b)=stzF a++stzF b:=by simp [stzF]
theorem qrc (e:EntV):stzF [e]=if 0<e.id then [(e.id,e.x.fields)] else []:=by
 by_cases h:0<e.id <;> simp [stzF,h]
end Go.Pl
namespace Go.Proofs.YtmjmdjbdoiddeaaGreatDoor
open Go Go.Av Go.RowKit Go.Proofs Go.Pl
theorem qmu (l:wn) (st:List AObj) (hl:l.ents.length<1000000):qp E 19 [qge l] st fun r st'=>r=x9 (stzF l.ents)∧st'=st:=by
 refine wz [.a (qge l)] (qhf _) Tryz.func19 rfl rfl (fun _=>rfl) rfl fun S0=>?_
 obtain⟨es,nx,mn⟩:=l
 dsimp only at hl ⊢
 have hmi:(es.map entA).length=es.length:=by simp
 apply qi []
 repeat' (first|apply And.intro|(intro h;try exact cDd)|exact cSd|apply qg []|refine exr ?_|refine qk ?_)
 refine vv (X:=Nat) (fun k=>⟨[(1,.a (.pp [quf es,Iv nx])),(3,.tp 0),(4,.i k)],[(0,some (.tip 2 50 ((stzF (es.take k)).map stzA)))],1⟩) (fun k=>k≤es.length) (fun k=>es.length - k) 0 (by omega) ?_ ?_
 ·skip
  repeat' (first|apply And.intro|(intro h;try exact cDd)|exact cSd|apply qg []|refine exr ?_|refine qk ?_)
  all_goals first|rfl|(simp [stzF];done)|(simp [stzF];rfl)
 ·rintro k hk
  by_cases hkn:k<es.length
  ·have hx:es[k]? = some es[k]:=List.getElem?_eq_getElem hkn
   have hxm:(es.map entA)[k]? = some (entA es[k]):=by rw [List.getElem?_map,hx];rfl
   have htk:es.take (k+1)=es.take k++[es[k]]:=by rw [List.take_add_one,hx];rfl
   have hsl:=qkl (es.take k)
   have hsl2:(es.take k).length≤k:=by simp;omega
   generalize es[k]=e at hx hxm htk
   by_cases h0:0<e.id
   ·have e1:stzF (es.take (k+1))=stzF (es.take k)++[(e.id,e.x.fields)]:=by rw [htk,qrb,qrc,if_pos h0]
    apply qi []
    repeat' (first|apply And.intro|(intro h;try exact cDd)|(refine Exists.intro (k) ⟨by omega,_,hxm,?_⟩)|(refine Exists.intro (k+1) ⟨by omega,by omega,?_⟩)|exact cSd|apply qg []|refine exr ?_|refine qk ?_)
    all_goals first|(rw [e1];simp;done)|(simp;omega)
   ·have e1:stzF (es.take (k+1))=stzF (es.take k):=by rw [htk,qrb,qrc,if_neg h0,List.append_nil]
    apply qi []
    repeat' (first|apply And.intro|(intro h;try exact cDd)|(refine Exists.intro (k) ⟨by omega,_,hxm,?_⟩)|(refine Exists.intro (k+1) ⟨by omega,by omega,?_⟩)|exact cSd|apply qg []|refine exr ?_|refine qk ?_)
    all_goals first|(rw [e1];done)|(simp;omega)
  ·have hkn:k=es.length:=by omega
   subst hkn
   rw [List.take_length]
   apply qi []
   repeat' (first|apply And.intro|(intro h;try exact cDd)|exact cSd|apply qg []|refine exr ?_|refine qk ?_)
end Go.Proofs.YtmjmdjbdoiddeaaGreatDoor
namespace Go.Pl
open Go Go.Proofs Go.Av Go.Proofs.YtmjmdjbdoiddeaaGreatDoor
def dupS (key:qd) (pre:List (Int×List Fld)) (x:Int×List Fld):Bool:=(vf key x.2).any fun v=>pre.any fun y=>decide (v∈vf key y.2)
def qad (key:qd):List (Int×List Fld)→List (Int×List Fld)→List Int
 | _,[]=>[]
 |pre,x::r=>(if dupS key pre x=true then [x.1] else [])++qad key (pre++[x]) r
def qa5 (r:zp) (all:List (Int×List Fld)):List Int:=if ya r then (if r.kind=7 then qad r.key [] all else (all.filter fun x=>decide (wl r x.2)).map Prod.fst) else []
def vw:Nat→List zp→List (Int×List Fld)→List (Int×Int)
 | _,[],_=>[]
 |i,r::rs,all=>(qa5 r all).map (fun id=>((i:Int),id))++vw (i+1) rs all
def qb7 (rs:List zp) (all:List (Int×List Fld)):List (Int×Int):=vw 0 rs all
def qhu (key:qd) (L:List (qd×Int)) (pre:List (Int×List Fld)):Prop:=∀ s,0<getM s L↔(pre.any fun y=>decide (s∈vf key y.2))=true
theorem qn0 (n:Int) (t:qd):∀ (vs:List qd) (L:List (qd×Int)),getM t (vs.foldl (fun L s=>setM s n L) L)=if t∈vs then n else getM t L
 | [],L=>by simp
 |v::vs,L=>by
  rw [List.foldl_cons,qn0 n t vs,qpw]
  by_cases h:t∈vs
  ·rw [if_pos h,if_pos (by simp [h])]
  ·rw [if_neg h]
   by_cases e:t=v
   ·rw [if_pos e,if_pos (by simp [e])]
   ·rw [if_neg e,if_neg (by simp [e,h])]
theorem qzv (key:qd):qhu key [] []:=fun s=>by simp [getM]
theorem qxu {key:qd} {L:List (qd×Int)} {pre:List (Int×List Fld)} (x:Int×List Fld) {n:Int} (hn:0<n) (h:qhu key L pre):qhu key ((vf key x.2).foldl (fun L s=>setM s n L) L) (pre++[x]):=fun s=>by
 rw [qn0,List.any_append,Bool.or_eq_true]
 by_cases hs:s∈vf key x.2
 ·rw [if_pos hs]
  simp [hs,hn]
 ·rw [if_neg hs,h s]
  simp [hs]
theorem qzu {key:qd} {L:List (qd×Int)} {pre:List (Int×List Fld)} (h:qhu key L pre) (x:Int×List Fld):((vf key x.2).any fun s=>decide (0<getM s L))=dupS key pre x:=by
 unfold dupS
 congr 1
 funext s
 have:=h s
 cases hb:(pre.any fun y=>decide (s∈vf key y.2)) with
 |true=>rw [hb] at this;simpa using this
 |false=>rw [hb] at this;simpa using this
theorem qnd (key:qd):∀ (r:List (Int×List Fld)) (pre:List (Int×List Fld)) (x:Int×List Fld),qad key pre (r++[x])=qad key pre r++if dupS key (pre++r) x=true then [x.1] else []
 | [],pre,x=>by simp [qad]
 |y::r,pre,x=>by
  rw [List.cons_append,qad,qad,qnd key r (pre++[y]) x]
  simp
def yh (r:zp) (pre:List (Int×List Fld)) (x:Int×List Fld):Prop:=x.2.any (badR r)=true∨(r.kind=1∧cntR r x.2=0)∨(r.kind=2∧1<cntR r x.2)∨(r.kind=7∧dupS r.key pre x=true)
instance (r:zp) (pre:List (Int×List Fld)) (x:Int×List Fld):Decidable (yh r pre x):=inferInstanceAs (Decidable (_∨(_∧_)∨(_∧_)∨(_∧_)))
def x5 (r:zp):List (Int×List Fld)→List (Int×List Fld)→List Int
 | _,[]=>[]
 |pre,x::t=>(if ya r∧yh r pre x then [x.1] else [])++x5 r (pre++[x]) t
theorem qm8 {r:zp} (h:r.kind=7) (xs:List Fld):xs.any (badR r)=false:=by
 refine List.any_eq_false.2 fun f _=>?_
 unfold badR xf
 simp [h]
theorem qhy {r:zp} (hg:ya r) (h:r.kind=7):∀ (t pre:List (Int×List Fld)),x5 r pre t=qad r.key pre t
 | [],_=>rfl
 |x::t,pre=>by
  rw [x5,qad,qhy hg h t]
  congr 1
  have:(ya r∧yh r pre x)↔dupS r.key pre x=true:=by
   unfold yh
   rw [qm8 h]
   simp [hg,h]
  by_cases hd:dupS r.key pre x=true
  ·rw [if_pos (this.2 hd),if_pos hd]
  ·rw [if_neg fun hh=>hd (this.1 hh),if_neg hd]
theorem qhx {r:zp} (hg:ya r) (h:r.kind≠7):∀ (t pre:List (Int×List Fld)),x5 r pre t=(t.filter fun x=>decide (wl r x.2)).map Prod.fst
 | [],_=>rfl
 |x::t,pre=>by
  rw [x5,qhx hg h t]
  have:(ya r∧yh r pre x)↔wl r x.2:=by
   rw [qyo h]
   unfold yh
   simp [hg,h]
  by_cases hd:wl r x.2
  ·rw [if_pos (this.2 hd),List.filter_cons_of_pos (by simpa using hd)]
   rfl
  ·rw [if_neg fun hh=>hd (this.1 hh),List.filter_cons_of_neg (by simpa using hd)]
   rfl
theorem qji {r:zp} (hg:¬ ya r):∀ (t pre:List (Int×List Fld)),x5 r pre t=[]
 | [],_=>rfl
 |x::t,pre=>by
  rw [x5,qji hg t,if_neg fun h=>hg h.1]
  rfl
theorem qm9 (r:zp) (all:List (Int×List Fld)):qa5 r all=x5 r [] all:=by
 unfold qa5
 by_cases hg:ya r
 ·rw [if_pos hg]
  by_cases h7:r.kind=7
  ·rw [if_pos h7,qhy hg h7]
  ·rw [if_neg h7,qhx hg h7]
 ·rw [if_neg hg,qji hg]
end Go.Pl
namespace Go.Pl
open Go
def i64 (n:Int):Prop:= -9223372036854775808≤n∧n≤9223372036854775807
end Go.Pl
namespace Go.Pl
open Go Go.Proofs Go.Av Go.Proofs.YtmjmdjbdoiddeaaGreatDoor
def FsB (fs:List Fld):Prop:=fs.length≤40∧∀ f∈fs,f.1.length≤32∧f.2.length≤1000
theorem qwz {t:qd} (h:ql t=4):yb (z8 t):=by
 unfold ql at h
 split at h
 ·omega
 ·split at h
  ·omega
  ·split at h
   ·omega
   ·split at h
    ·omega
    ·split at h
     ·rename_i hh;exact hh.2
     ·omega
theorem qx7 {ls:List qd} (h:(z5 ls).2=0):(z5 ls).1.1.length≤32∧(z5 ls).1.2.length≤1000:=by
 unfold z5 at h ⊢
 split
 ·rename_i hu
  rw [if_pos hu] at h
  split
  ·rename_i h1
   rw [if_pos h1] at h
   exact absurd h (by decide)
  ·exact⟨(qwz hu.2.1).2.1,by simp only;omega⟩
 ·rename_i hu
  rw [if_neg hu] at h
  exact absurd h (by decide)
theorem qz7 {prev:Bool} {t:qd} {e:Bool} {r:List (qd×Bool)} {n:Nat} {rec:Int} (h:vg prev t e r n rec=0) (hk:ql t=4):(z5 (t::ve r)).2=0∧n<40:=by
 unfold vg at h
 split at h
 ·omega
 ·split at h
  ·omega
  ·split at h
   ·rename_i hu;exact absurd h hu
   ·rename_i hu
    split at h
    ·omega
    ·exact⟨Classical.not_not.1 hu,by omega⟩
theorem qo7:∀ (ls:List qd) (prev:Bool) (now x:jj),blkR prev now ls=some x→FsB now.fields→FsB x.fields
 | [],prev,now,x,h,hb=>by
  simp only [blkR,Option.some.injEq] at h
  subst h
  exact hb
 |t::r,prev,now,x,h,hb=>by
  unfold blkR at h
  split at h
  ·simp at h
  ·rename_i hw
   simp only [not_or,Classical.not_not] at hw
   split at h
   ·rename_i hk
    obtain⟨h1,h2⟩:=qz7 hw.1 hk
    refine qo7 r _ _ x h ⟨by simp;omega,fun f hf=>?_⟩
    rcases List.mem_append.1 hf with hf|hf
    ·exact hb.2 f hf
    ·simp only [List.mem_singleton] at hf
     subst hf
     exact qx7 h1
   ·exact qo7 r _ _ x h hb
theorem qp3 {x:jj} (h:qc0 x):FsB x.fields:=by
 rcases h with⟨t,rfl,_⟩ | ⟨ls,_,h,_⟩
 ·exact⟨by simp,by simp⟩
 ·exact qo7 ls _ _ x h ⟨by simp [now0],by simp [now0]⟩
theorem q3s {l:wn} (h:GL l):∀ x∈stzF l.ents,FsB x.2:=by
 intro x hx
 unfold stzF at hx
 obtain⟨e,he,rfl⟩:=List.mem_map.1 hx
 exact qp3 (h.ok e (List.mem_filter.1 he).1).1
theorem qy1 {fs:List Fld} (h:FsB fs):qe7 fs:=⟨by have:=h.1;omega,fun f hf=>by have:=h.2 f hf;omega⟩
theorem qj4 (key:qd):∀ (all pre:List (Int×List Fld)),(qad key pre all).length≤all.length
 | [],_=>by simp [qad]
 |x::r,pre=>by
  have:=qj4 key r (pre++[x])
  rw [qad,List.length_append]
  split
  ·simp;omega
  ·simp;omega
theorem qgo (r:zp) (all:List (Int×List Fld)):(qa5 r all).length≤all.length:=by
 unfold qa5
 split
 ·split
  ·exact qj4 _ _ _
  ·rw [List.length_map];exact List.length_filter_le _ _
 ·simp
theorem qff (all:List (Int×List Fld)):∀ (rs:List zp) (i:Nat),(vw i rs all).length≤rs.length * all.length
 | [],_=>by simp [vw]
 |r::rs,i=>by
  have h1:=qgo r all
  have h2:=qff all rs (i+1)
  rw [vw,List.length_append,List.length_map,List.length_cons,Nat.add_mul]
  omega
theorem qgx (all:List (Int×List Fld)) (r:zp):∀ (rs:List zp) (i:Nat),vw i (rs++[r]) all=vw i rs all++(qa5 r all).map fun id=>(((i+rs.length:Nat):Int),id)
 | [],i=>by simp [vw]
 |q::rs,i=>by
  have:=qgx all r rs (i+1)
  have e:i+1+rs.length=i+(q::rs).length:=by rw [List.length_cons];omega
  rw [List.cons_append,vw,vw,this,List.append_assoc,e]
theorem qhw (r:zp) (x:Int×List Fld):∀ (t pre:List (Int×List Fld)),x5 r pre (t++[x])=x5 r pre t++if ya r∧yh r (pre++t) x then [x.1] else []
 | [],pre=>by simp [x5]
 |y::t,pre=>by
  rw [List.cons_append,x5,x5,qhw r x t (pre++[y])]
  simp
end Go.Pl
