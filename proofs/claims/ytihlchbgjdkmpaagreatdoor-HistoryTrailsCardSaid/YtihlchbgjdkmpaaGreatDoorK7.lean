/- Contracts and plain facts that the closing text leans on (part 7). No condition of their own beyond those that each states. -/
import Derived.Test.YtihlchbgjdkmpaaGreatDoorK6
import Derived.LaidEql
import Derived.Stop.Asserts
import Derived.RowKitTokens
import Derived.Lib.IfaceEq
import Derived.Laws.StructEq
set_option maxRecDepth 100000
set_option linter.unusedVariables false
set_option linter.unusedSimpArgs false
open And renaming intro→Qa
open Array renaming getElem?_eq_none→Qy,getElem?_modify→Zg
open Exists renaming intro→Qb
open List renaming length_cons→Qd,mem_cons→Qe,length_append→Qf,mem_map→Qg,flatMap_cons→Qh,getElem?_eq_getElem→Qi,mem_append→Qj,not_mem_nil→Qk,cons_append→Ql,prefix_append→Qm,getElem?_eq_some_iff→Qn,drop_eq_getElem_cons→Qo,map_cons→Qq,drop_eq_nil_of_le→Qr,length_nil→Qs,nil_append→Qt,append_assoc→Qu,mem_of_getElem?→Qv,take_succ_eq_append_getElem→Qw,mem_singleton→Qx,length_pos_iff→Qz,getElem?_append_left→Za,mem_flatMap→Zc,append_nil→Zd,getD→Ze,map_append→Zf,drop_left→Zh,getElem?_set_ne→Zi,mem_of_mem_tail→Zj,mem_of_mem_take→Zk,length_drop→Zl,flatMap_nil→Zm,flatMap_map→Zn,map_nil→Zq,map_map→Zr,length→Zs,take→Zt
open List.cons renaming inj→Zo
open Nat renaming le_of_ble_eq_true→Qc,le_refl→Qp,lt_or_ge→Zb,le_trans→Zp
namespace Go.Pl
open Go Go.Proofs
def yy(p:PSt):PSt:=
 if p.block=[]then {p with block:=[],fields:=[]}
 else {p with items:=p.items++[⟨if p.fields=[]then 2 else 3,zk p.block,p.fields⟩],records:=if p.fields=[]then p.records else p.records+1,block:=[],fields:=[]}
def endP(p:PSt):Option (Int×Int)×PSt:=match(ka p).1 with
 |some e=>(some e,p)
 |none=>(none,yy (ka p).2)
theorem qq1:∀(x:qc)(r:List qc),Lib.join (x::r) [10]++[10]=zk (x::r)
 |x,[]=>by rw[Lib.join_one];simp[zk]
 |x,y::r=>by
  have ih:=qq1 y r;rw[Lib.join_cons]at ih⊢;unfold Lib.joinTail at ih⊢;simp only[Qq,List.flatten_cons,zk,Qh]at ih⊢;rw[<-ih];simp
theorem qpo:∀(r:List qc),(∀s∈r,s.length<1000000)->(zk r).length<=1000001*r.length
 | [],_=>by simp[zk]
 |a::r,h=>by
  have ih:=qpo r λs hs=>h s (by simp[hs]);have ha:=h a Sx;simp only[zk,Qh,Qf,Qd,Qs]at ih⊢;omega
end Go.Pl
namespace Go.Proofs.YtihlchbgjdkmpaaGreatDoor
open Go Go.Av Go.RowKit Go.Proofs Go.Pl
theorem qjj{n:Nat}{p:PSt}(h:PB n p)(hs:n+1<900000):PB (n+1) (ka p).2:=by
 have h1:=h.lines;have h2:=h.items;have h3:=h.block;have h4:=h.fields;have h5:=h.rec0;have h6:=h.rec1;unfold ka;split
 .exact⟨hs,by simp only;omega,h.linesV,by simp only;omega,by simp only;omega,h.blockV,by simp only;omega,h5,by simp only;omega⟩
 .split
  .exact⟨hs,by simp only;omega,h.linesV,by simp only;omega,by simp only;omega,h.blockV,by simp only;omega,h5,by simp only;omega⟩
  .split
   .exact⟨hs,by simp only;omega,h.linesV,by simp only;omega,by simp only;omega,h.blockV,by simp only;omega,h5,by simp only;omega⟩
   .exact⟨hs,Sx,Sx,by simp only;omega,by simp only;omega,h.blockV,So,h5,by simp only;omega⟩
theorem zl9(xs:List qc)(tip:Option Nat)(st:List AObj)(b9:xs≠[])(hN:xs.length<=900000)(hv:∀s∈xs,s.length<1000000):qr E 97 [.sl 1 (xs.map λx=>Sv x) tip,Sv [10]] st λr st'=>r=Sv (Lib.join xs [10])∧st'=st:=by
 refine q48 xs tip [10] st Om ?_;have h1:=qpo xs hv
 cases xs with
 |nil=>exact absurd rfl b9
 |cons x r=>
  have h2:=congrArg Zs (qq1 x r);rw[Qf]at h2;simp only[Qd,Qs]at h2 h1 hN;omega
def parH(a:Nat)(p:PSt):List (Nat×Option SR):=[(0,some (.cells 211 [.tp a,.i p.frm,.b p.full,.tp (a+1),.tp (a+2),.tp (a+3),.i p.records])),(a,some (.tip 1 9 (p.lines.map λx=>Sv x))),(a+1,some (.tip 3 98 (p.items.map kq))),(a+2,some (.tip 1 9 (p.block.map λx=>Sv x))),(a+3,some (.tip 2 77 (p.fields.map fldA)))]
theorem quk(n:Nat)(p:PSt)(hB:PB n p):va E 160 [.bx 0 0] 5 (hpF (parH 1 p)) ⟨.a (errP (ka p).1),kr (parH 1 p),parH 5 (ka p).2++vv (parH 1 p),9⟩:=by
 refine xl [.bx 0 0] (parH 1 p) 5 (.a (errP (ka p).1)) (parH 5 (ka p).2) 9 Tryz.func160 rfl rfl rfl rfl λS F ρ=>?_;have nv:=hB.ls;have hsm:=hB.small;have o7:=hB.fields;by_cases h0:p.lines=[]
 .have e:ka p=(none,p):=by unfold ka;rw[if_pos h0]
  rw[e];have hl0:(p.lines.map λx=>Sv x).length=0:=by simp[h0]
  apply qf [];repeat' (first|apply Qa|(intro h;try exact cDd)|exact cSd|apply qd []|refine exr ?_|refine qg ?_)
 .have hl0:(p.lines.map λx=>Sv x).length≠0:=by simp[h0]
  by_cases hu:(zv p.lines).2=0
  .have u7:=λst=>zdm p.lines none st nv hu
   cases hf:p.full with
   |true=>
    have e:ka p=(some (p.frm,11),p):=by unfold ka;rw[if_neg h0,if_neg (by simp[hu]),if_pos hf]
    rw[e];have hft:=λst=>qpb p.frm 11 st;apply qf []
    repeat' (first|apply Qa|(intro h;try exact cDd)|exact⟨Tryz.call218⟩|refine cpe u7 ?_|exact⟨Tryz.call158⟩|refine cpe hft ?_|(exact absurd (by assumption:p.full=false) (by rw[hf];decide))|exact cSd|apply qd []|refine exr ?_|refine qg ?_)
   |false=>
    have e:ka p=(none,{p with lines:=[],fields:=p.fields++[(zv p.lines).1]}):=by unfold ka;rw[if_neg h0,if_neg (by simp[hu]),if_neg (by simp[hf])]
    rw[e];apply qf [51];repeat' (first|apply Qa|(intro h;try exact cDd)|exact⟨Tryz.call218⟩|refine cpe u7 ?_|(exact absurd (by assumption:p.full=true) (by rw[hf];decide))|exact cSd|apply qd [51]|refine exr ?_|refine qg ?_)
    all_goals first|(simp[SV.evs,SV.ev];done)|(simp[SV.evs];omega)
  .have u7:=λst=>zdn p.lines none st nv hu
   have e:ka p=(some (p.frm,(zv p.lines).2),p):=by unfold ka;rw[if_neg h0,if_pos hu]
   rw[e];have hft:=λst=>qpb p.frm (zv p.lines).2 st;apply qf [];repeat' (first|apply Qa|(intro h;try exact cDd)|exact⟨Tryz.call218⟩|refine cpe u7 ?_|exact⟨Tryz.call158⟩|refine cpe hft ?_|exact cSd|apply qd []|refine exr ?_|refine qg ?_)
theorem zan(n:Nat)(p:PSt)(hB:PB n p)(hs:n+1<900000):va E 116 [.bx 0 0] 5 (hpF (parH 1 p)) ⟨.a (errP (endP p).1),kr (parH 1 p),parH 5 (endP p).2++vv (parH 1 p),9⟩:=by
 refine xl [.bx 0 0] (parH 1 p) 5 (.a (errP (endP p).1)) (parH 5 (endP p).2) 9 Tryz.func116 rfl rfl rfl rfl λS F ρ=>?_;have cw:=quk n p hB;have lz:=qjj hB hs
 have pd:∀e,(ka p).1=some e->(ka p).2=p:=λe=>by
  unfold ka;split
  .simp
  .split
   .simp
   .split
    .simp
    .simp
 unfold endP;generalize ka p=fq at cw lz pd;obtain⟨fe,q⟩:=fq
 cases fe with
 |some e=>
  obtain rfl:=pd e rfl;obtain⟨a,k⟩:=e;apply qf []
  repeat' (first|apply Qa|(intro h;try exact cDd)|exact⟨Tryz.call160⟩|(refine jm cw ?_)|exact cSd|apply qd []|refine exr ?_|refine qg ?_)
 |none=>
  dsimp only at lz cw;have h3:=lz.fields;have h4:=lz.rec0;have h5:=lz.rec1;have h1:=lz.block;have h2:=lz.items;by_cases hb:q.block=[]
  .have e:yy q={q with block:=[],fields:=[]}:=by unfold yy;rw[if_pos hb]
   simp only[e];have hl0:(q.block.map λx=>Sv x).length=0:=by simp[hb]
   apply qf [];repeat' (first|apply Qa|(intro h;try exact cDd)|exact⟨Tryz.call160⟩|(refine jm cw ?_)|exact cSd|apply qd []|refine exr ?_|refine qg ?_)
  .have hl0:(q.block.map λx=>Sv x).length≠0:=by simp[hb]
   have dn:=qpo q.block lz.blockV
   obtain⟨b,r,bn⟩:∃b r,q.block=b::r:=by
    cases hq:q.block with
    |nil=>exact absurd hq hb
    |cons b r=>exact⟨b,r,rfl⟩
   have hjt:=qq1 b r;rw[<-bn]at hjt;have hjl:=congrArg Zs hjt;simp only[Qf,Qd,Qs]at hjl;have hjo:=λst=>zl9 q.block none st hb Om lz.blockV;by_cases hf:q.fields=[]
   .have e:yy q={q with items:=q.items++[⟨2,zk q.block,q.fields⟩],records:=q.records,block:=[],fields:=[]}:=by unfold yy;rw[if_neg hb,if_pos hf,if_pos hf]
    simp only[e];have bt:(q.fields.map fldA).length=0:=by simp[hf]
    apply qf [];repeat' (first|apply Qa|(intro h;try exact cDd)|exact⟨Tryz.call160⟩|(refine jm cw ?_)|exact⟨Tryz.call97⟩|refine cpe hjo ?_|exact cSd|apply qd []|refine exr ?_|refine qg ?_)
    all_goals first|(simp[SV.evs,SV.ev,hjt];done)|(simp[SV.evs];omega)
   .have e:yy q={q with items:=q.items++[⟨3,zk q.block,q.fields⟩],records:=q.records+1,block:=[],fields:=[]}:=by unfold yy;rw[if_neg hb,if_neg hf,if_neg hf]
    simp only[e];have bt:(q.fields.map fldA).length≠0:=by simp[hf]
    apply qf [];repeat' (first|apply Qa|(intro h;try exact cDd)|exact⟨Tryz.call160⟩|(refine jm cw ?_)|exact⟨Tryz.call97⟩|refine cpe hjo ?_|exact cSd|apply qd []|refine exr ?_|refine qg ?_)
    all_goals first|(simp[SV.evs,SV.ev,hjt];done)|(simp[SV.evs];omega)
end Go.Proofs.YtihlchbgjdkmpaaGreatDoor
namespace Go.Pl
open Go Go.Proofs
def vg(p:PSt)(no:Int)(text:qc):PSt:={p with lines:=[text],frm:=no,full:=decide (p.fields.length=40∨(p.fields.length=0∧p.records=400))}
def j6(p:PSt)(no:Int)(text:qc)(ended:Bool)(kind:Int):Option (Int×Int)×PSt:=
 if kind=3 then
  if p.lines=[]then(some (no,2),p)
  else if ended=true then(none,{p with lines:=p.lines++[text]})
  else ka {p with lines:=p.lines++[text]}
 else if kind=1 then endP p
 else ka p
def xi(p:PSt)(no:Int)(text:qc)(ended:Bool):Option (Int×Int)×PSt:=
 match(j6 p no text ended (qy text)).1 with
 |some e=>(some e,p)
 |none=>
  if qy text=5∨ended=false then(some (no,2),p)
  else if qy text=1 then(none,{(j6 p no text ended (qy text)).2 with items:=(j6 p no text ended (qy text)).2.items++[⟨1,text++[10],[]⟩]})
  else if qy text=4 then(none,{vg (j6 p no text ended (qy text)).2 no text with block:=(j6 p no text ended (qy text)).2.block++[text]})
  else(none,{(j6 p no text ended (qy text)).2 with block:=(j6 p no text ended (qy text)).2.block++[text]})
end Go.Pl
namespace Go.Proofs.YtihlchbgjdkmpaaGreatDoor
open Go Go.Av Go.RowKit Go.Proofs Go.Pl
theorem PB.more{n m:Nat}{p:PSt}(h:PB n p)(hm:n<=m)(hs:m<900000):PB m p:=by
 have h1:=h.lines;have h2:=h.items;have h3:=h.block;have h4:=h.fields;have h5:=h.rec0;have h6:=h.rec1;exact⟨hs,Om,h.linesV,Om,Om,h.blockV,Om,h5,Om⟩
theorem zeh{n:Nat}{p:PSt}(h:PB n p)(hs:n+1<900000):PB (n+1) (yy p):=by
 have h1:=h.lines;have h2:=h.items;have h3:=h.block;have h4:=h.fields;have h5:=h.rec0;have h6:=h.rec1;unfold yy;split
 .exact⟨hs,by simp only;omega,h.linesV,by simp only;omega,Sx,Sx,Sx,h5,by simp only;omega⟩
 .refine⟨hs,by simp only;omega,h.linesV,So,Sx,Sx,Sx,?_,?_⟩
  .simp only;split <;>omega
  .simp only;split <;>omega
theorem qux{n:Nat}{p:PSt}{text:qc}(h:PB n p)(hs:n+1<900000)(ht:text.length<1000000):PB (n+1) {p with lines:=p.lines++[text]}:=by
 have h1:=h.lines;have h2:=h.items;have h3:=h.block;have h4:=h.fields;have h5:=h.rec0;have h6:=h.rec1;exact⟨hs,So,qo0 h.linesV ht,by simp only;omega,by simp only;omega,h.blockV,by simp only;omega,h5,by simp only;omega⟩
theorem q57{n:Nat}{p:PSt}{text:qc}(h:PB n p)(hs:n+1<900000)(ht:text.length<1000000):PB (n+1) {p with block:=p.block++[text]}:=by
 have h1:=h.lines;have h2:=h.items;have h3:=h.block;have h4:=h.fields;have h5:=h.rec0;have h6:=h.rec1;exact⟨hs,by simp only;omega,h.linesV,by simp only;omega,So,qo0 h.blockV ht,by simp only;omega,h5,by simp only;omega⟩
theorem zjp{n:Nat}{p:PSt}{x:zh}(h:PB n p)(hs:n+1<900000):PB (n+1) {p with items:=p.items++[x]}:=by
 have h1:=h.lines;have h2:=h.items;have h3:=h.block;have h4:=h.fields;have h5:=h.rec0;have h6:=h.rec1;exact⟨hs,by simp only;omega,h.linesV,So,by simp only;omega,h.blockV,by simp only;omega,h5,by simp only;omega⟩
theorem zjo{n:Nat}{p:PSt}{no:Int}{text:qc}(h:PB n p)(hs:n+1<900000)(ht:text.length<1000000):PB (n+1) (vg p no text):=by
 have h1:=h.lines;have h2:=h.items;have h3:=h.block;have h4:=h.fields;have h5:=h.rec0;have h6:=h.rec1;exact⟨hs,by simp[vg],by simp[vg,ht],by simp only[vg];omega,by simp only[vg];omega,h.blockV,by simp only[vg];omega,h5,by simp only[vg];omega⟩
theorem qlu{n:Nat}{p:PSt}{no:Int}{text:qc}{ended:Bool}{kind:Int}(h:PB n p)(hs:n+2<900000)(ht:text.length<1000000):PB (n+2) (j6 p no text ended kind).2:=by
 unfold j6;split
 .split
  .exact h.more Om hs
  .split
   .exact(qux h Om ht).more Om hs
   .exact qjj (qux h Om ht) hs
 .split
  .unfold endP
   split
   .exact h.more Om hs
   .exact zeh (qjj h Om) hs
  .exact(qjj h Om).more Om hs
theorem qw3(l:qc):1<=qy l∧qy l<=5:=by
 unfold qy;repeat' split
 all_goals decide
theorem qu7{n:Nat}{p:PSt}{no:Int}{text:qc}{ended:Bool}(h:PB n p)(hs:n+4<900000)(ht:text.length<1000000):PB (n+4) (xi p no text ended).2:=by
 have h2:PB (n+2) (j6 p no text ended (qy text)).2:=qlu h Om ht;unfold xi;split
 .exact h.more Om hs
 .split
  .exact h.more Om hs
  .split
   .exact(zjp h2 Om).more Om hs
   .split
    .exact q57 (zjo h2 Om ht) hs ht
    .exact(q57 h2 Om ht).more Om hs
theorem zf1(n:Nat)(p:PSt)(no at':Int)(text:qc)(ended:Bool)(hB:PB n p):va E 159 [.bx 0 0,.ag [.i no,.i at',.s text,.b ended]] 5 (hpF (parH 1 p)) ⟨.tu [],kr (parH 1 p),parH 5 (vg p no text)++vv (parH 1 p),9⟩:=by
 refine xl [.bx 0 0,.ag [.i no,.i at',.s text,.b ended]] (parH 1 p) 5 (.tu []) (parH 5 (vg p no text)) 9 Tryz.func159 rfl rfl rfl rfl λS F ρ=>?_;obtain⟨ls,fr,fu,its,bk,fs,rc⟩:=p;have o0:(fs.map fldA).length=fs.length:=Sx
 by_cases ha:fs.length=40∨(fs.length=0∧rc=400)
 .have e:vg ⟨ls,fr,fu,its,bk,fs,rc⟩ no text=⟨[text],no,true,its,bk,fs,rc⟩:=by
   unfold vg;simp only[decide_eq_true ha]
  rw[e];apply qf [29];repeat' (first|apply Qa|(intro h;try exact cDd)|exact cSd|apply qd [29]|refine exr ?_|refine qg ?_)
  all_goals (intros;simp only[o0]at *;first|(exfalso;omega)|(have hrc:rc=400:=Om;subst hrc;rfl))
 .have e:vg ⟨ls,fr,fu,its,bk,fs,rc⟩ no text=⟨[text],no,false,its,bk,fs,rc⟩:=by
   unfold vg;simp only[decide_eq_false ha]
  rw[e];apply qf [29];repeat' (first|apply Qa|(intro h;try exact cDd)|exact cSd|apply qd [29]|refine exr ?_|refine qg ?_)
  all_goals (intros;simp only[o0]at *;first|(exfalso;omega)|(have hrc:¬rc=400:=Om;simp[SV.evs,SV.ev,SV.rens,SV.ren,lkS,w8,hrc];exact⟨rfl,rfl,rfl⟩))
theorem q1b(n:Nat)(p:PSt)(no at':Int)(text:qc)(ended:Bool)(kind:Int)(hB:PB n p)(hs:n+2<900000)(ht:text.length<1000000):va E 157 [.bx 0 0,.ag [.i no,.i at',.s text,.b ended],.i kind] 5 (hpF (parH 1 p)) ⟨.a (errP (j6 p no text ended kind).1),kr (parH 1 p),parH 5 (j6 p no text ended kind).2++vv (parH 1 p),9⟩:=by
 refine xl [.bx 0 0,.ag [.i no,.i at',.s text,.b ended],.i kind] (parH 1 p) 5 (.a (errP (j6 p no text ended kind).1)) (parH 5 (j6 p no text ended kind).2) 9 Tryz.func157 rfl rfl rfl rfl λS F ρ=>?_;unfold j6;by_cases gk:kind=3
 .rw[if_pos gk]
  by_cases h0:p.lines=[]
  .rw[if_pos h0]
   have hl0:(p.lines.map λx=>Sv x).length=0:=by simp[h0]
   have hft:=λst=>qpb no 2 st;apply qf [];repeat' (first|apply Qa|(intro h;try exact cDd)|exact⟨Tryz.call158⟩|refine cpe hft ?_|exact cSd|apply qd []|refine exr ?_|refine qg ?_)
  .rw[if_neg h0]
   have hl0:(p.lines.map λx=>Sv x).length≠0:=by simp[h0]
   have lj:=hB.lines;have hsm:=hB.small;have o0:(p.lines.map λx=>Sv x).length=p.lines.length:=Sx
   have cw:=quk (n+1) {p with lines:=p.lines++[text]} (qux hB Om ht)
   cases ended with
   |true=>
    rw[if_pos rfl];apply qf [];repeat' (first|apply Qa|(intro h;try exact cDd)|(exact absurd (by assumption:true=false) (by decide))|exact cSd|apply qd []|refine exr ?_|refine qg ?_)
    all_goals first|(simp[SV.evs,SV.ev];done)|(simp[SV.evs];omega)
   |false=>
    rw[if_neg (by decide)];apply qf [];repeat' (first|apply Qa|(intro h;try exact cDd)|(exact absurd (by assumption:false=true) (by decide))|exact⟨Tryz.call160⟩|(refine jm cw ?_)|exact cSd|apply qd []|refine exr ?_|refine qg ?_)
    all_goals first|(simp[SV.evs,SV.ev];done)|(simp[SV.evs];omega)
 .rw[if_neg gk]
  by_cases br:kind=1
  .rw[if_pos br]
   have cw:=zan n p hB Om;apply qf [];repeat' (first|apply Qa|(intro h;try exact cDd)|exact⟨Tryz.call116⟩|(refine jm cw ?_)|exact cSd|apply qd []|refine exr ?_|refine qg ?_)
  .rw[if_neg br]
   have cw:=quk n p hB;apply qf [];repeat' (first|apply Qa|(intro h;try exact cDd)|exact⟨Tryz.call160⟩|(refine jm cw ?_)|exact cSd|apply qd []|refine exr ?_|refine qg ?_)
theorem zjr(n:Nat)(p:PSt)(no at':Int)(text:qc)(ended:Bool)(hB:PB n p)(hs:n+4<900000)(ht:text.length<1000000)(hok:(xi p no text ended).1=none):va E 115 [.bx 0 0,.ag [.i no,.i at',.s text,.b ended]] 5 (hpF (parH 1 p)) ⟨.a (.v .nilIface),kr (parH 1 p),parH 5 (xi p no text ended).2++vv (parH 1 p),9⟩:=by
 refine xl [.bx 0 0,.ag [.i no,.i at',.s text,.b ended]] (parH 1 p) 5 (.a (.v .nilIface)) (parH 5 (xi p no text ended).2) 9 Tryz.func115 rfl rfl rfl rfl λS F ρ=>?_;have cw:=q1b n p no at' text ended (qy text) hB Om ht;have bc:=qlu (no:=no) (text:=text) (ended:=ended) (kind:=qy text) hB Om ht;have hkr:=qw3 text;have px:=λst=>qnq text st Om;unfold xi at hok⊢;generalize j6 p no text ended (qy text)=fq at cw bc hok⊢;obtain⟨fe,q⟩:=fq
 cases fe with
 |some e=>exact absurd hok Sx
 |none=>
  dsimp only at bc cw hok⊢;have h1:=bc.block;have h2:=bc.items;have hmb:(q.block.map λx=>Sv x).length=q.block.length:=Sx
  have hmi:(q.items.map kq).length=q.items.length:=Sx
  by_cases hk:qy text=5∨ended=false
  .rw[if_pos hk]at hok
   exact absurd hok Sx
  .rw[if_neg hk]at hok⊢
   have hk5:qy text≠5:=λh=>hk (.inl h);obtain rfl:ended=true:=by cases ended<;>simp_all
   by_cases br:qy text=1
   .rw[if_pos br]
    apply qf [];repeat' (first|apply Qa|(intro h;try exact cDd)|exact⟨Tryz.call156⟩|refine cpe px ?_|exact⟨Tryz.call157⟩|(refine jm cw ?_)|(exact absurd (by assumption:true=false) (by decide))|exact cSd|apply qd []|refine exr ?_|refine qg ?_)
    all_goals first|(simp[SV.evs,SV.ev];done)|(simp[SV.evs];omega)
   .rw[if_neg br]
    by_cases hk4:qy text=4
    .rw[if_pos hk4]
     have hbc:=zf1 (n+2) q no at' text true bc;apply qf [];repeat' (first|apply Qa|(intro h;try exact cDd)|exact⟨Tryz.call156⟩|refine cpe px ?_|exact⟨Tryz.call157⟩|(refine jm cw ?_)|exact⟨Tryz.call159⟩|(refine jm hbc ?_)|(exact absurd (by assumption:true=false) (by decide))|exact cSd|apply qd []|refine exr ?_|refine qg ?_)
     all_goals first|(simp[SV.evs,SV.ev,vg];done)|(simp[SV.evs,vg];omega)
    .rw[if_neg hk4]
     apply qf [];repeat' (first|apply Qa|(intro h;try exact cDd)|exact⟨Tryz.call156⟩|refine cpe px ?_|exact⟨Tryz.call157⟩|(refine jm cw ?_)|(exact absurd (by assumption:true=false) (by decide))|exact cSd|apply qd []|refine exr ?_|refine qg ?_)
     all_goals first|(simp[SV.evs,SV.ev];done)|(simp[SV.evs];omega)
theorem zjs(n:Nat)(p:PSt)(no at':Int)(text:qc)(ended:Bool)(hB:PB n p)(hs:n+4<900000)(ht:text.length<1000000)(a m:Int)(hok:(xi p no text ended).1=some (a,m)):va E 115 [.bx 0 0,.ag [.i no,.i at',.s text,.b ended]] 5 (hpF (parH 1 p)) ⟨.a (qjh a m),kr (parH 1 p),parH 5 (j6 p no text ended (qy text)).2++vv (parH 1 p),9⟩:=by
 refine xl [.bx 0 0,.ag [.i no,.i at',.s text,.b ended]] (parH 1 p) 5 (.a (qjh a m)) (parH 5 (j6 p no text ended (qy text)).2) 9 Tryz.func115 rfl rfl rfl rfl λS F ρ=>?_;have cw:=q1b n p no at' text ended (qy text) hB Om ht;have bc:=qlu (no:=no) (text:=text) (ended:=ended) (kind:=qy text) hB Om ht;have hkr:=qw3 text;have px:=λst=>qnq text st Om;unfold xi at hok;generalize j6 p no text ended (qy text)=fq at cw bc hok⊢;obtain⟨fe,q⟩:=fq
 cases fe with
 |some e=>
  dsimp only at bc cw hok⊢;obtain rfl:e=(a,m):=by simpa using hok
  apply qf []
  repeat' (first|apply Qa|(intro h;try exact cDd)|exact⟨Tryz.call156⟩|refine cpe px ?_|exact⟨Tryz.call157⟩|(refine jm cw ?_)|exact cSd|apply qd []|refine exr ?_|refine qg ?_)
 |none=>
  dsimp only at bc cw hok⊢;by_cases hk:qy text=5∨ended=false
  .rw[if_pos hk]at hok
   obtain⟨rfl,rfl⟩:no=a∧2=m:=by simpa using hok
   have hft:=λst=>qpb no 2 st
   cases ended with
   |true=>
    have hk5:qy text=5:=by simpa using hk
    apply qf []
    repeat' (first|apply Qa|(intro h;try exact cDd)|exact⟨Tryz.call156⟩|refine cpe px ?_|exact⟨Tryz.call158⟩|refine cpe hft ?_|exact⟨Tryz.call157⟩|(refine jm cw ?_)|(exact absurd (by assumption:true=false) (by decide))|exact cSd|apply qd []|refine exr ?_|refine qg ?_)
   |false=>
    apply qf [];repeat' (first|apply Qa|(intro h;try exact cDd)|exact⟨Tryz.call156⟩|refine cpe px ?_|exact⟨Tryz.call158⟩|refine cpe hft ?_|exact⟨Tryz.call157⟩|(refine jm cw ?_)|(exact absurd (by assumption:false=true) (by decide))|exact cSd|apply qd []|refine exr ?_|refine qg ?_)
  .rw[if_neg hk]at hok
   split at hok
   .simp at hok
   .split at hok
    .simp at hok
    .simp at hok
end Go.Proofs.YtihlchbgjdkmpaaGreatDoor
namespace Go.Pl
open Go Go.Proofs
def p0:PSt:=⟨[],0,false,[],[],[],0⟩
def runL:Nat->List (qc×Bool)->PSt->Option (Int×Int)×PSt
 |_,[],p=>endP p
 |k,(t,e)::r,p=>match(xi p k t e).1 with
  |some x=>(some x,p)
  |none=>runL (k+1) r (xi p k t e).2
def ji(text:qc):Option (Int×Int)×List zh:=match(runL 0 (zp text) p0).1 with
 |some e=>(some e,[])
 |none=>(none,(runL 0 (zp text) p0).2.items)
end Go.Pl
namespace Go.Proofs.YtihlchbgjdkmpaaGreatDoor
open Go Go.Av Go.RowKit Go.Proofs Go.Pl
theorem zev(x:Option (Int×Int)):Pure (errP x):=by
 rcases x with _|⟨a,n⟩
 .exact qt _
 .exact qm1 a n
theorem zb9(f:Fld):qil (fldA f):=λx hx=>by
 simp only[AV.cells,Qe,Qk,or_false]at hx;rcases hx with rfl|rfl <;>exact qt _
theorem qa1(fs:List Fld):Pure (jl fs):=qaz λx hx=>by
 obtain⟨f,_,rfl⟩:=Qg.1 hx;exact zb9 f
theorem qi1(x:zh):qil (kq x):=λy hy=>by
 simp only[AV.cells,Qe,Qk,or_false]at hy;rcases hy with rfl|rfl|rfl
 .exact qt _
 .exact qt _
 .exact qa1 _
theorem qc9(xs:List zh):Pure (vr xs):=qaz λx hx=>by
 obtain⟨f,_,rfl⟩:=Qg.1 hx;exact qi1 f
theorem kc{x y:AV}(hx:Pure x)(hy:Pure y):Pure (.tu [x,y]):=qeh λz hz=>by
 simp only[Qe,Qk,or_false]at hz;rcases hz with rfl|rfl
 .exact hx
 .exact hy
def qey(text:qc):AV:=.tu [vr (ji text).2,errP (ji text).1]
theorem q8k(text:qc):Pure (qey text):=kc (qc9 _) (zev _)
theorem qtf{S:List AObj}{o k:Nat}{x:AObj}(h:k≠o):(S.set o x)[k]?=S[k]?:=Zi (Ne.symm h)
theorem zcs:PB 0 p0:=⟨Om,by simp[p0],by simp[p0],by simp[p0],by simp[p0],by simp[p0],by simp[p0],by simp[p0],by simp[p0]⟩
theorem qu4(text:qc)(st:List AObj)(hl:text.length<=60000):qr E 64 [Sv text] st λr st'=>r=qey text∧st'=st:=by
 refine zj [.s text] (q8k text) Tryz.func64 rfl rfl (λ_=>rfl) rfl λS0=>?_;apply qf [13];repeat' (first|apply Qa|(intro h;try exact cDd)|exact⟨Tryz.call113⟩|(refine Qb _ ⟨qpk _,?_⟩)|exact cSd|apply qd [13]|refine exr ?_|refine qg ?_)
 refine qig (X:=PSt×Option (Int×Int)) text 4 5 [0,1,2,3,4] (λ(p,e)=>⟨[(2,.bx 0 0),(3,.bx 1 0),(4,.bx 2 0),(15,.fn (.func 154) [] [.bx 4 0])],
   [(0,some (.cells 124 [.a zn])),(1,some (.cells 29 [.a (errP e)])),(2,some (.cells 207 [.bx 3 0])),(3,some (.cells 211 [.tp 5,.i p.frm,.b p.full,.tp 6,.tp 7,.tp 8,.i p.records])),(4,some (.cells 9 [.s text])),
    (5,some (.tip 1 9 (p.lines.map λx=>Sv x))),(6,some (.tip 3 98 (p.items.map kq))),(7,some (.tip 1 9 (p.block.map λx=>Sv x))),(8,some (.tip 2 77 (p.fields.map fldA)))],9⟩) _
  (λk rest(p,e)=>e=none∧PB (4*k) p∧k+rest.length<=text.length∧runL 0 (zp text) p0=runL k (zp rest) p)
  (λc(p,e)=>∃a m,c=.ret∧e=some (a,m)∧(runL 0 (zp text) p0).1=some (a,m)) (p0,none) ⟨rfl,zcs,Om,rfl⟩ ?_ id Om (λ_=>rfl) rfl (λ_=>rfl) (λ_=>rfl) rfl ?_ ?_ ?_
 .skip
  repeat' (first|apply Qa|(intro h;try exact cDd)|exact cSd|apply qd []|refine exr ?_|refine qg ?_)
 .rintro k rest ⟨p,e⟩ ⟨rfl,hB,hkl,a8⟩ b9 d7
  have np:=wh b9;have hu:=vk 10 rest;have fj:=vl 10 rest;have hr0:0<rest.length:=Qz.2 b9;rw[np]at a8;simp only[runL]at a8;unfold qov;generalize bg:decide (10∈rest)=en at a8;generalize upto 10 rest=up at hu a8⊢;have lz:=qu7 (no:=k) (text:=up) (ended:=en) hB Om Om
  cases hah:(xi p k up en).1 with
  |some e=>
   obtain⟨a,m⟩:=e;rw[hah]at a8;simp only at a8;have i6:=zjs (4*k) p k ((text.length:Int)-rest.length) up en hB Om Om a m hah;refine RA.mk λS F ρ rd=>?_;apply qf [];repeat' (first|apply Qa|(intro h;try exact cDd)|(refine RB.mk λS rd=>?_;apply qf [])|exact⟨Tryz.call115⟩|(refine jm i6 ?_)|(refine Qb ((j6 p k up en (qy up)).2,some (a,m)) ⟨⟨a,m,rfl,rfl,by rw[a8]⟩,?_⟩)|exact cSd|apply qd []|refine exr ?_|refine qg ?_)
   all_goals (rw[<-bg];rfl)
  |none=>
   rw[hah]at a8;simp only at a8;have i6:=zjr (4*k) p k ((text.length:Int)-rest.length) up en hB Om Om hah;refine RA.mk λS F ρ rd=>?_;apply qf [];repeat' (first|apply Qa|(intro h;try exact cDd)|(refine RB.mk λS rd=>?_;apply qf [])|exact⟨Tryz.call115⟩|(refine jm i6 ?_)|(refine Qb ((xi p k up en).2,none) ⟨⟨rfl,lz,Om,a8⟩,?_⟩)|exact cSd|apply qd []|refine exr ?_|refine qg ?_)
   all_goals (rw[<-bg];rfl)
 .rintro k ⟨p,e⟩ ⟨rfl,hB,hkl,a8⟩
  have hre:runL k (zp []) p=endP p:=by rw[vu];rfl
  rw[hre]at a8;have lv:=zan (4*k) p hB Om;generalize endP p=fq at a8 lv;obtain⟨fe,q⟩:=fq
  cases fe with
  |some e=>
   have hpf:qey text=.tu [vr [],errP (some e)]:=by unfold qey ji;rw[a8]
   rw[hpf];obtain⟨a,m⟩:=e
   repeat' (first|apply Qa|(intro h;try exact cDd)|exact⟨Tryz.call116⟩|(refine jm lv ?_)|exact cSd|apply qd []|refine exr ?_|refine qg ?_)
  |none=>
   have hpf:qey text=.tu [vr q.items,errP none]:=by unfold qey ji;rw[a8]
   rw[hpf];dsimp only at lv;repeat' (first|apply Qa|(intro h;try exact cDd)|exact⟨Tryz.call116⟩|(refine jm lv ?_)|exact cSd|apply qd []|refine exr ?_|refine qg ?_)
 .rintro c ⟨p,e⟩ ⟨a,m,rfl,rfl,hre⟩
  have hpf:qey text=.tu [vr [],errP (some (a,m))]:=by unfold qey ji;rw[hre]
  rw[hpf];repeat' (first|apply Qa|(intro h;try exact cDd)|exact cSd|apply qd []|refine exr ?_|refine qg ?_)
end Go.Proofs.YtihlchbgjdkmpaaGreatDoor
namespace Go.Proofs.YtihlchbgjdkmpaaGreatDoor
open Go Go.RowKit Go.Extern.Stop Go.Stop Go.Extern Go.Proofs
theorem asT.valueOf27(t:Addr)(w:World):(ReflectliteValue.unpack (.iface 311 (.pointer (some t)))).run Tryz.prog w
  =.ok (.agg #[.pointer (some ⟨9,311,none⟩),.pointer (some ⟨w.heap.size,0,none⟩),.int .u64 150]) (w.alloc (.cells #[.pointer (some t)] 311)):=Kr
theorem asT.type27(a:Addr)(w:World):(ReflectliteValue.methodAny (ReflectliteValue.valueError "reflectlite.Value.Type" 0) (λt _ _ _=>ReflectliteType.toType t) #[.agg #[.pointer (some ⟨9,311,none⟩),.pointer (some a),.int .u64 150]]).run Tryz.prog w
  =.ok (.iface 365 (.agg #[.pointer (some ⟨9,311,none⟩)])) w:=Kr
theorem asT.methodKind(h:Value)(w:World):(Go.method 512 365 (.agg #[h]) "Kind").run Tryz.prog w=.ok (305,h) w:=by kernel_rfl
theorem asT.kind27(w:World):((ReflectliteType.abiMethod λt=>(λa:Nat=>Value.int IntKind.u8 (a:Int))<$>Rtype.kind t) #[.pointer (some ⟨9,311,none⟩)]).run Tryz.prog w=.ok (.int .u8 22) w:=Kr
theorem asT.kind25(w:World):((ReflectliteType.abiMethod λt=>(λa:Nat=>Value.int IntKind.u8 (a:Int))<$>Rtype.kind t) #[.pointer (some ⟨9,115,none⟩)]).run Tryz.prog w=.ok (.int .u8 22) w:=Kr
theorem rlm(z:Sem Value)(f:TypeId->Addr->Nat->Nat->Sem Value)(v:Value):
  ReflectliteValue.method z f #[v]=(do match <-ReflectliteValue.parts v with|none=>z|some (t,a,fl)=>f t a fl (fl%32)):=rfl
theorem asT.parts27(a:Addr)(w:World):(ReflectliteValue.parts (.agg #[.pointer (some ⟨9,311,none⟩),.pointer (some a),.int .u64 150])).run Tryz.prog w=.ok (some (311,a,150)) w:=Kr
theorem asT.isNil27(a p:Addr)(W:World)(ha:W.cell? a=some (.pointer (some p))):
  (ReflectliteValue.method (ReflectliteValue.valueError "reflectlite.Value.IsNil" 0) ReflectliteValue.isNil #[.agg #[.pointer (some ⟨9,311,none⟩),.pointer (some a),.int .u64 150]]).run Tryz.prog W=.ok (.bool false) W:=by
 rw[rlm];simp only[Sem.run_bind,asT.parts27,Result.andThen];simp[ReflectliteValue.isNil,loadVar,isAgg,underlying,Tryz.underlying311,ha,Result.andThen]
theorem asT.methodElem(h:Value)(w:World):(Go.method 512 365 (.agg #[h]) "Elem").run Tryz.prog w=.ok (324,.agg #[h]) w:=by kernel_rfl
theorem asT.methodImplements(h:Value)(w:World):(Go.method 512 365 (.agg #[h]) "Implements").run Tryz.prog w=.ok (325,.agg #[h]) w:=by kernel_rfl
theorem asT.methodAssignableTo(h:Value)(w:World):(Go.method 512 365 (.agg #[h]) "AssignableTo").run Tryz.prog w=.ok (322,.agg #[h]) w:=by kernel_rfl
theorem asT.elem27(w:World):(ReflectliteType.method ReflectliteType.elem #[.agg #[.pointer (some ⟨9,311,none⟩)]]).run Tryz.prog w=.ok (.iface 365 (.agg #[.pointer (some ⟨9,115,none⟩)])) w:=Kr
theorem asT.implements25(w:World):(ReflectliteType.relation "Implements" ReflectliteType.implements_ #[.agg #[.pointer (some ⟨9,115,none⟩)],.iface 365 (.agg #[.pointer (some ⟨9,29,none⟩)])]).run Tryz.prog w=.ok (.bool true) w:=by kernel_rfl
theorem asT.typeOf25(v:Value)(w:World):(ReflectliteType.typeOf #[.iface 115 v]).run Tryz.prog w=.ok (.iface 365 (.agg #[.pointer (some ⟨9,115,none⟩)])) w:=Kr
theorem asT.assignable25(w:World):(ReflectliteType.relation "AssignableTo" ReflectliteType.assignableTo #[.agg #[.pointer (some ⟨9,115,none⟩)],.iface 365 (.agg #[.pointer (some ⟨9,115,none⟩)])]).run Tryz.prog w=.ok (.bool true) w:=by kernel_rfl
theorem asT.valueOf25(e:Addr)(w:World):(ReflectliteValue.unpack (.iface 115 (.pointer (some e)))).run Tryz.prog w
  =.ok (.agg #[.pointer (some ⟨9,115,none⟩),.pointer (some ⟨w.heap.size,0,none⟩),.int .u64 150]) (w.alloc (.cells #[.pointer (some e)] 115)):=Kr
theorem asT.elemOf27(w:World):(Rtype.elem? 311).run Tryz.prog w=.ok (some 115) w:=Kr
theorem asT.mk25(p:Addr)(w:World):(ReflectliteValue.mk 115 p ReflectliteValue.flagAddr).run Tryz.prog w=.ok (.agg #[.pointer (some ⟨9,115,none⟩),.pointer (some p),.int .u64 406]) w:=Kr
theorem asT.elemV27(a p:Addr)(W:World)(ha:W.cell? a=some (.pointer (some p))):
  (ReflectliteValue.method (ReflectliteValue.valueError "reflectlite.Value.Elem" 0) ReflectliteValue.elem #[.agg #[.pointer (some ⟨9,311,none⟩),.pointer (some a),.int .u64 150]]).run Tryz.prog W
   =.ok (.agg #[.pointer (some ⟨9,115,none⟩),.pointer (some p),.int .u64 406]) W:=by
 rw[rlm];simp only[Sem.run_bind,asT.parts27,Result.andThen];simp[ReflectliteValue.elem,loadVar,isAgg,underlying,Tryz.underlying311,ha,Result.andThen,asT.elemOf27,asT.mk25]
theorem rls(v x:Value):ReflectliteValue.set #[v,x]=(do
  let (some (dst,a,fl),some (src,b,_)):=(<-ReflectliteValue.parts v,<-ReflectliteValue.parts x)
   |unsupported (.noEntry "extern/(internal/reflectlite.Value).Set.zeroValue")
  if fl / ReflectliteValue.flagAddr%2==0 then unsupported (.noEntry "extern/(internal/reflectlite.Value).Set.unaddressable")
  let val <-loadVar src b
  if <-Rtype.directlyAssignable dst src then storeVar dst a val
  else if <-Rtype.implements dst src then
   if(<-Rtype.kind src)==20 then
    match val with
    |.nilIface=>unsupported (.noEntry "extern/reflectlite: a nil value of one interface type handed on as a value of another")
    |_=>storeVar dst a val
   else storeVar dst a (.iface src val)
  else panicString ("reflectlite.Set: value of type " ++(<-Rtype.spelt src)++ " is not assignable to type " ++(<-Rtype.spelt dst))
  pure (.tuple #[])):=rfl
theorem asT.parts25a(a:Addr)(w:World):(ReflectliteValue.parts (.agg #[.pointer (some ⟨9,115,none⟩),.pointer (some a),.int .u64 406])).run Tryz.prog w=.ok (some (115,a,406)) w:=Kr
theorem asT.parts25(a:Addr)(w:World):(ReflectliteValue.parts (.agg #[.pointer (some ⟨9,115,none⟩),.pointer (some a),.int .u64 150])).run Tryz.prog w=.ok (some (115,a,150)) w:=Kr
theorem asT.direct25(w:World):(Rtype.directlyAssignable 115 115).run Tryz.prog w=.ok true w:=Kr
theorem asT.set25(ta b e:Addr)(old:Value)(W:World)(hb:W.cell? b=some (.pointer (some e)))(ht:W.cell? ta=some old)(hf:W.frozen? ta=false):
  (ReflectliteValue.set #[.agg #[.pointer (some ⟨9,115,none⟩),.pointer (some ta),.int .u64 406],.agg #[.pointer (some ⟨9,115,none⟩),.pointer (some b),.int .u64 150]]).run Tryz.prog W
   =.ok (.tuple #[]) (W.setCell ta (.pointer (some e))):=by
 rw[rls];simp only[Sem.run_bind,asT.parts25a,asT.parts25,Result.andThen];simp[ReflectliteValue.flagAddr,loadVar,isAgg,underlying,Tryz.underlying115,hb,Result.andThen,asT.direct25,storeVar,Value.cells,storeCells,Addr.add];rw[run_store Tryz.prog W ta _ _ (by rfl)];simp[ht,hf]
set_option maxHeartbeats 4000000 in
theorem znk(e t:Addr)(old:Value)(w:World)(hg:w.cell? ⟨4,0,none⟩=some (.iface 365 (.agg #[.pointer (some ⟨9,29,none⟩)])))(ht0:w.cell? t=some old)(hf0:w.frozen? t=false):
  Calls Tryz.prog 227 #[.iface 115 (.pointer (some e)),.iface 311 (.pointer (some t))] w λev w'=>ev=.returned (.bool true)∧w'=((((w.alloc (.cells #[.pointer (some t)] 311)).alloc (.cells #[.pointer (some ⟨9,311,none⟩),.pointer (some ⟨w.heap.size,0,none⟩),.int .u64 150] 344)).alloc (.cells #[.pointer (some ⟨9,311,none⟩),.pointer (some ⟨w.heap.size,0,none⟩),.int .u64 150] 344)).alloc (.cells #[.pointer (some e)] 115)).setCell t (.pointer (some e)):=by
 have h6:=@run_callFunc_extern Tryz.prog 265 _ (λargs=>ReflectliteValue.unpack (args.getD 0 (.tuple #[]))) Tryz.func265 Kr Kr Kr Kr
 have h7:= @run_callFunc_extern Tryz.prog 266 _ (ReflectliteValue.methodAny (ReflectliteValue.valueError "reflectlite.Value.Type" 0) (λt _ _ _=>ReflectliteType.toType t)) Tryz.func266 (by kernel_rfl) (by kernel_rfl) (by kernel_rfl) (by kernel_rfl)
 have h8:= @run_callFunc_extern Tryz.prog 267 _ (ReflectliteValue.method (ReflectliteValue.valueError "reflectlite.Value.IsNil" 0) ReflectliteValue.isNil) Tryz.func267 (by kernel_rfl) (by kernel_rfl) (by kernel_rfl) (by kernel_rfl)
 have h27:=@run_callFunc_extern Tryz.prog 305 _ (ReflectliteType.abiMethod λt=>do pure (.int .u8 (<-Rtype.kind t))) Tryz.func305 Kr Kr Kr Kr;have h37:=@run_callFunc_extern Tryz.prog 324 _ (ReflectliteType.method ReflectliteType.elem) Tryz.func324 Kr Kr Kr Kr
 have h38:= @run_callFunc_extern Tryz.prog 325 _ (ReflectliteType.relation "Implements" ReflectliteType.implements_) Tryz.func325 (by kernel_rfl) (by kernel_rfl) (by kernel_rfl) (by kernel_rfl)
 have g9:=@run_callFunc_extern Tryz.prog 283 _ ReflectliteType.typeOf Tryz.func283 Kr Kr Kr Kr
 have h35:= @run_callFunc_extern Tryz.prog 322 _ (ReflectliteType.relation "AssignableTo" ReflectliteType.assignableTo) Tryz.func322 (by kernel_rfl) (by kernel_rfl) (by kernel_rfl) (by kernel_rfl)
 have h11:= @run_callFunc_extern Tryz.prog 284 _ (ReflectliteValue.method (ReflectliteValue.valueError "reflectlite.Value.Elem" 0) ReflectliteValue.elem) Tryz.func284 (by kernel_rfl) (by kernel_rfl) (by kernel_rfl) (by kernel_rfl)
 have h12:=@run_callFunc_extern Tryz.prog 285 _ ReflectliteValue.set Tryz.func285 Kr Kr Kr Kr;have tO:=asT.typeOf25;have mA:=asT.methodAssignableTo;have a25:=asT.assignable25;have v25:=asT.valueOf25;have f6:=asT.valueOf27;have f7:=asT.type27;have mK:=asT.methodKind;have mE:=asT.methodElem;have mI:=asT.methodImplements;have k27:=asT.kind27;have k25:=asT.kind25;have e27:=asT.elem27;have i25:=asT.implements25;have n8:=asT.isNil27 ⟨w.heap.size,0,none⟩ t ((w.alloc (.cells #[.pointer (some t)] 311)).alloc (.cells #[.pointer (some ⟨9,311,none⟩),.pointer (some ⟨w.heap.size,0,none⟩),.int .u64 150] 344)) Sx
 have d8:4<w.heap.size:=by
  rcases Zb 4 w.heap.size with h|h
  .exact h
  .simp[World.cell?,Qy h]at hg
 have hg2:((w.alloc (.cells #[.pointer (some t)] 311)).alloc (.cells #[.pointer (some ⟨9,311,none⟩),.pointer (some ⟨w.heap.size,0,none⟩),.int .u64 150] 344)).cell? ⟨4,0,none⟩=some (.iface 365 (.agg #[.pointer (some ⟨9,29,none⟩)])):=by
  rw[World.cell?_alloc_lt _ _ ⟨4,0,none⟩ (by first|(simp;done)|(simp;omega)),World.cell?_alloc_lt _ _ ⟨4,0,none⟩ d8];exact hg
 have htl:t.block<w.heap.size:=by
  rcases Zb t.block w.heap.size with h|h
  .exact h
  .simp[World.cell?,Qy h]at ht0
 have el:=asT.elemV27 ⟨w.heap.size,0,none⟩ t (((w.alloc (.cells #[.pointer (some t)] 311)).alloc (.cells #[.pointer (some ⟨9,311,none⟩),.pointer (some ⟨w.heap.size,0,none⟩),.int .u64 150] 344)).alloc (.cells #[.pointer (some ⟨9,311,none⟩),.pointer (some ⟨w.heap.size,0,none⟩),.int .u64 150] 344)) (by rw[World.cell?_alloc_lt _ _ ⟨w.heap.size,0,none⟩ (by first|(simp;done)|(simp;omega))];simp)
 have st:=asT.set25 t ⟨w.heap.size+1+1+1,0,none⟩ e old ((((w.alloc (.cells #[.pointer (some t)] 311)).alloc (.cells #[.pointer (some ⟨9,311,none⟩),.pointer (some ⟨w.heap.size,0,none⟩),.int .u64 150] 344)).alloc (.cells #[.pointer (some ⟨9,311,none⟩),.pointer (some ⟨w.heap.size,0,none⟩),.int .u64 150] 344)).alloc (.cells #[.pointer (some e)] 115))
  (by rw[World.cell?_alloc_at _ _ _ _ Sx];rfl)
  (by rw[World.cell?_alloc_lt _ _ t (by first|(simp;done)|(simp;omega)),World.cell?_alloc_lt _ _ t (by first|(simp;done)|(simp;omega)),World.cell?_alloc_lt _ _ t (by first|(simp;done)|(simp;omega)),World.cell?_alloc_lt _ _ t htl];exact ht0)
  (by rw[World.frozen?_alloc_old _ _ t (by first|(simp;done)|(simp;omega)),World.frozen?_alloc_old _ _ t (by first|(simp;done)|(simp;omega)),World.frozen?_alloc_old _ _ t (by first|(simp;done)|(simp;omega)),World.frozen?_alloc_old _ _ t (Nat.ne_of_lt htl)];exact hf0)
 go_enter Tryz.func227,Tryz.ntmps227
 go_wp2
 refine wp_loop_rounds 1 ?_;rw[rounds_succ]
 go_wp2
 go_ret
 exact⟨rfl,rfl⟩
theorem asT.typeOf31(v:Value)(w:World):(ReflectliteType.typeOf #[.iface 37 v]).run Tryz.prog w=.ok (.iface 365 (.agg #[.pointer (some ⟨9,37,none⟩)])) w:=Kr
theorem asT.assignable31(w:World):(ReflectliteType.relation "AssignableTo" ReflectliteType.assignableTo #[.agg #[.pointer (some ⟨9,37,none⟩)],.iface 365 (.agg #[.pointer (some ⟨9,115,none⟩)])]).run Tryz.prog w=.ok (.bool false) w:=by kernel_rfl
theorem asT.no230(v:Value)(xT:TypeId)(w:World):(Instr.typeAssert (.iface 37 v) xT 370 true).run Tryz.prog w=.ok (.tuple #[.nilIface,.bool false]) w:=run_typeAssert_lacksB Tryz.underlying370 Kr Kr v xT w
theorem asT.no233(v:Value)(xT:TypeId)(w:World):(Instr.typeAssert (.iface 37 v) xT 373 true).run Tryz.prog w=.ok (.tuple #[.nilIface,.bool false]) w:=run_typeAssert_lacksB Tryz.underlying373 Kr Kr v xT w
theorem asT.no234(v:Value)(xT:TypeId)(w:World):(Instr.typeAssert (.iface 37 v) xT 374 true).run Tryz.prog w=.ok (.tuple #[.nilIface,.bool false]) w:=run_typeAssert_lacksB Tryz.underlying374 Kr Kr v xT w
set_option maxHeartbeats 4000000 in
theorem zlc(n:Int)(t:Addr)(old:Value)(w:World)(hg:w.cell? ⟨4,0,none⟩=some (.iface 365 (.agg #[.pointer (some ⟨9,29,none⟩)])))(ht0:w.cell? t=some old):
  Calls Tryz.prog 227 #[.iface 37 (.int .i64 n),.iface 311 (.pointer (some t))] w λev w'=>ev=.returned (.bool false)∧Below w.heap.size w w':=by
 have h6:=@run_callFunc_extern Tryz.prog 265 _ (λargs=>ReflectliteValue.unpack (args.getD 0 (.tuple #[]))) Tryz.func265 Kr Kr Kr Kr
 have h7:= @run_callFunc_extern Tryz.prog 266 _ (ReflectliteValue.methodAny (ReflectliteValue.valueError "reflectlite.Value.Type" 0) (λt _ _ _=>ReflectliteType.toType t)) Tryz.func266 (by kernel_rfl) (by kernel_rfl) (by kernel_rfl) (by kernel_rfl)
 have h8:= @run_callFunc_extern Tryz.prog 267 _ (ReflectliteValue.method (ReflectliteValue.valueError "reflectlite.Value.IsNil" 0) ReflectliteValue.isNil) Tryz.func267 (by kernel_rfl) (by kernel_rfl) (by kernel_rfl) (by kernel_rfl)
 have h27:=@run_callFunc_extern Tryz.prog 305 _ (ReflectliteType.abiMethod λt=>do pure (.int .u8 (<-Rtype.kind t))) Tryz.func305 Kr Kr Kr Kr;have h37:=@run_callFunc_extern Tryz.prog 324 _ (ReflectliteType.method ReflectliteType.elem) Tryz.func324 Kr Kr Kr Kr
 have h38:= @run_callFunc_extern Tryz.prog 325 _ (ReflectliteType.relation "Implements" ReflectliteType.implements_) Tryz.func325 (by kernel_rfl) (by kernel_rfl) (by kernel_rfl) (by kernel_rfl)
 have g9:=@run_callFunc_extern Tryz.prog 283 _ ReflectliteType.typeOf Tryz.func283 Kr Kr Kr Kr
 have h35:= @run_callFunc_extern Tryz.prog 322 _ (ReflectliteType.relation "AssignableTo" ReflectliteType.assignableTo) Tryz.func322 (by kernel_rfl) (by kernel_rfl) (by kernel_rfl) (by kernel_rfl)
 have h11:= @run_callFunc_extern Tryz.prog 284 _ (ReflectliteValue.method (ReflectliteValue.valueError "reflectlite.Value.Elem" 0) ReflectliteValue.elem) Tryz.func284 (by kernel_rfl) (by kernel_rfl) (by kernel_rfl) (by kernel_rfl)
 have h12:=@run_callFunc_extern Tryz.prog 285 _ ReflectliteValue.set Tryz.func285 Kr Kr Kr Kr;have tO:=asT.typeOf31;have mA:=asT.methodAssignableTo;have a25:=asT.assignable31;have f6:=asT.valueOf27;have f7:=asT.type27;have mK:=asT.methodKind;have mE:=asT.methodElem;have mI:=asT.methodImplements;have k27:=asT.kind27;have k25:=asT.kind25;have e27:=asT.elem27;have i25:=asT.implements25;have n8:=asT.isNil27 ⟨w.heap.size,0,none⟩ t ((w.alloc (.cells #[.pointer (some t)] 311)).alloc (.cells #[.pointer (some ⟨9,311,none⟩),.pointer (some ⟨w.heap.size,0,none⟩),.int .u64 150] 344)) Sx
 have d8:4<w.heap.size:=by
  rcases Zb 4 w.heap.size with h|h
  .exact h
  .simp[World.cell?,Qy h]at hg
 have hg2:((w.alloc (.cells #[.pointer (some t)] 311)).alloc (.cells #[.pointer (some ⟨9,311,none⟩),.pointer (some ⟨w.heap.size,0,none⟩),.int .u64 150] 344)).cell? ⟨4,0,none⟩=some (.iface 365 (.agg #[.pointer (some ⟨9,29,none⟩)])):=by
  rw[World.cell?_alloc_lt _ _ ⟨4,0,none⟩ (by first|(simp;done)|(simp;omega)),World.cell?_alloc_lt _ _ ⟨4,0,none⟩ d8];exact hg
 have htl:t.block<w.heap.size:=by
  rcases Zb t.block w.heap.size with h|h
  .exact h
  .simp[World.cell?,Qy h]at ht0
 have n1:=asT.no230;have n2:=asT.no233;have n3:=asT.no234
 go_enter Tryz.func227,Tryz.ntmps227
 go_wp2
 refine wp_loop_rounds 1 ?_;rw[rounds_succ]
 go_wp2
 go_ret
 exact⟨rfl,(((Below.refl _ _).alloc (Qp _) _).alloc Sx _).alloc (by first|(simp;done)|(simp;omega)) _⟩
end Go.Proofs.YtihlchbgjdkmpaaGreatDoor
namespace Go.Proofs.YtihlchbgjdkmpaaGreatDoor
open Go Go.Av Go.RowKit Go.Proofs Go.Pl
theorem q82{w:World}{b:Nat}{T:TypeId}{fz:Nat×Nat}{c:Array Value}(v:Value)(hc:w.heap[b]?=some (.cells c T fz))(h1:c.size=1):w.setCell ⟨b,0,none⟩ v=w.setRow b #[v]:=by
 unfold World.setCell World.setRow;congr 1;apply Array.ext_getElem?;intro i;rw[Zg,Zg];by_cases hi:b=i
 .subst hi
  rw[if_pos rfl,if_pos rfl,hc]
  have:c.setIfInBounds 0 v= #[v]:=by
   apply Array.ext
   .simp[h1]
   .intro i h2 h3
    have:i=0:=by simp at h3;omega
    subst this;simp
  simp[this]
 .rw[if_neg hi,if_neg hi]
theorem zlb(a n:Int)(o:Nat)(st:List AObj)(ho:st[o]?=some (.cells 0 115 [.v (.pointer none)])):qr E 227 [qjh a n,.ifc 311 (.bx o 0 0)] st λr st'=>r=Bv true∧st'=st.set o (.cells 0 115 [.pp [Iv a,.ifc 37 (Iv n)]]):=by
 refine⟨λB0 w0 G vals w hL hA hR=>?_⟩
 obtain⟨v1,v2,rfl⟩:∃x y,vals= #[x,y]:=by
  have:=hR.1
  match vals,this with
  |⟨[x,y]⟩,_=>exact⟨x,y,rfl⟩
 have h1:=hR.2 0 _ v1 rfl rfl;have h2:=hR.2 1 _ v2 rfl rfl;unfold qjh at h1
 cases h1 with
 |ifc _ _ y1 h1=>
  cases h2 with
  |ifc _ _ y2 h2=>
   have hpp:=h1
   cases h1 with
   |pp _ b off pub hp d5 hr=>
    cases h2 with
    |bx _ _ _ b2 hn hv hb=>
     obtain⟨_,g1,g2,g3,c,g4,g5,g6⟩:=hA.ob o _ ho;have hb:=hb g1;subst hb;have hc1:c.size=1:=by simpa using g5.symm
     have hl:=(hL w hA.below).ert;have db:w.cell? ⟨(G.ob o).blk,0,none⟩=some c[0]:=by simp[World.cell?,g4,hc1]
     have hfz:w.frozen? ⟨(G.ob o).blk,0,none⟩=false:=by simp[World.frozen?,g4]
     have d8:(G.ob o).blk<w.heap.size:=(Array.getElem?_eq_some_iff.1 g4).1;refine(znk ⟨b,off,none⟩ ⟨(G.ob o).blk,0,none⟩ c[0] w hl db hfz).mono ?_;rintro e w' ⟨rfl,rfl⟩
     have r6:Below w.heap.size w ((((w.alloc (.cells #[.pointer (some ⟨(G.ob o).blk,0,none⟩)] 311)).alloc (.cells #[.pointer (some ⟨9,311,none⟩),.pointer (some ⟨w.heap.size,0,none⟩),.int .u64 150] 344)).alloc (.cells #[.pointer (some ⟨9,311,none⟩),.pointer (some ⟨w.heap.size,0,none⟩),.int .u64 150] 344)).alloc (.cells #[.pointer (some ⟨b,off,none⟩)] 115)):=
      ((((Below.refl _ _).alloc (Qp _) _).alloc Sx _).alloc (by first|(simp;done)|(simp;omega)) _).alloc (by first|(simp;done)|(simp;omega)) _
     have gw:=hA.fresh r6;obtain⟨_,k1,k2,k3,c',k4,k5,k6⟩:=gw.ob o _ ho;have hc1':c'.size=1:=by simpa using k5.symm
     refine⟨.bool true,G,Bv true,_,rfl,.refl G,?_,.v _,rfl,rfl⟩;rw[q82 _ k4 hc1']
     exact gw.setRow ho Sx λi x y hx hy=>by
      match i with
      |0=>simp at hx hy;subst hx;subst hy;exact hpp
      |i+1=>simp at hx
theorem zhu(n:Int)(o:Nat)(st:List AObj)(ho:st[o]?=some (.cells 0 115 [.v (.pointer none)])):qr E 227 [.ifc 37 (Iv n),.ifc 311 (.bx o 0 0)] st λr st'=>r=Bv false∧st'=st:=by
 refine⟨λB0 w0 G vals w hL hA hR=>?_⟩
 obtain⟨v1,v2,rfl⟩:∃x y,vals= #[x,y]:=by
  have:=hR.1
  match vals,this with
  |⟨[x,y]⟩,_=>exact⟨x,y,rfl⟩
 have h1:=hR.2 0 _ v1 rfl rfl;have h2:=hR.2 1 _ v2 rfl rfl
 cases h1 with
 |ifc _ _ y1 h1=>
  cases h2 with
  |ifc _ _ y2 h2=>
   cases h1 with
   |v=>
    cases h2 with
    |bx _ _ _ b2 hn hv hb=>
     obtain⟨_,g1,g2,g3,c,g4,g5,g6⟩:=hA.ob o _ ho;have hb:=hb g1;subst hb;have hc1:c.size=1:=by simpa using g5.symm
     have hl:=(hL w hA.below).ert;have db:w.cell? ⟨(G.ob o).blk,0,none⟩=some c[0]:=by simp[World.cell?,g4,hc1]
     refine(zlc n ⟨(G.ob o).blk,0,none⟩ c[0] w hl db).mono ?_;rintro e w' ⟨rfl,hb⟩;exact⟨_,G,Bv false,st,rfl,.refl G,hA.fresh hb,.v _,rfl,rfl⟩
end Go.Proofs.YtihlchbgjdkmpaaGreatDoor
namespace Go.Proofs.YtihlchbgjdkmpaaGreatDoor
open Go Go.Av Go.RowKit Go.Extern.Stop Go.Stop Go.Extern Go.Proofs
theorem isT.has(v:Value)(xT:TypeId)(w:World):(Instr.typeAssert (.iface 115 v) xT 373 true).run Tryz.prog w=.ok (.tuple #[.iface 115 v,.bool true]) w:=run_typeAssert_hasB Tryz.underlying373 Kr v xT w
theorem isT.typeOf(v:Value)(w:World):(ReflectliteType.typeOf #[.iface 37 v]).run Tryz.prog w=.ok (.iface 365 (.agg #[.pointer (some ⟨9,37,none⟩)])) w:=Kr
theorem isT.cmp(w:World):(ReflectliteType.method (λt=>do Rtype.noPackHeld "Comparable" t;(λa=>Value.bool a.comparable)<$>typeInfo t) #[.agg #[.pointer (some ⟨9,37,none⟩)]]).run Tryz.prog w=.ok (.bool true) w:=by kernel_rfl
end Go.Proofs.YtihlchbgjdkmpaaGreatDoor
namespace Go.Pl
open Go Go.Proofs
inductive ErrV where
 |no
 |num (n:Int)
 |at' (a n:Int)
 deriving DecidableEq
def ErrV.code:ErrV->Int
 |.no=>0
 |.num n=>n
 |.at' _ n=>n
def ErrV.pos:ErrV->Int
 |.no=> -9
 |.num _=> -9
 |.at' a _=>a
def xm:Nat->List Fld->ErrV
 |_,[]=>.no
 |k,f::r=>if vh f=0 then xm (k+1) r else .at' k (vh f)
def z4(fs:List Fld):ErrV:=if fs=[]then .num 2 else if 40<fs.length then .num 11 else xm 0 fs
theorem qs4:∀(k:Nat)(p r:List Fld),(∀x∈p,vh x=0)->xm k (p++r)=xm (k+p.length) r
 |k,[],r,_=>by simp
 |k,f::p,r,h=>by
  have h1:=h f Sx;rw[Ql,xm,if_pos h1,qs4 (k+1) p r λx hx=>h x (by simp[hx])];congr 1;simp;omega
theorem qqm:∀(k:Nat)(r:List Fld),(xm k r).code=0↔xm k r=.no
 |k,[]=>by simp[xm,ErrV.code]
 |k,f::r=>by
  unfold xm;split
  .exact qqm _ r
  .rename_i h
   simp[ErrV.code,h]
theorem qk0(fs:List Fld):(z4 fs).code=0↔z4 fs=.no:=by
 unfold z4;split
 .simp[ErrV.code]
 .split
  .simp[ErrV.code]
  .exact qqm _ _
end Go.Pl
namespace Go.Proofs.YtihlchbgjdkmpaaGreatDoor
open Go Go.Av Go.RowKit Go.Proofs Go.Pl
theorem qyw{st st':List AObj}(h:∀k,k<st.length->st'[k]?=st[k]?):∃ext,st'=st++ext:=by
 refine qoj ?_ h;rcases Nat.eq_zero_or_pos st.length with h0|h0
 .omega
 .have h1:=h (st.length-1) Om
  have h2:st[st.length-1]?=some (st[st.length-1]'(by omega)):=Qi Om;have:=lt_of_getElem? (h1.trans h2);omega
def gErr(x:qp):ErrV:=if x.kind=2 then(if x.fields=[]then .no else .num 2)else if x.kind=1∨x.kind=3 then z4 x.fields else .num 2
def qa0:Nat->List qp->ErrV
 |_,[]=>.no
 |k,x::r=>if(gErr x).code=0 then qa0 (k+1) r else .at' k (gErr x).code
def eErr(b:List qp):ErrV:=if b.length<1∨40<b.length then .num 1 else qa0 0 b
theorem qqx(x:qp):(gErr x).code=0↔gErr x=.no:=by
 unfold gErr;split
 .split <;>simp[ErrV.code]
 .split
  .exact qk0 _
  .simp[ErrV.code]
theorem qwi:∀(k:Nat)(r:List qp),(qa0 k r).code=0↔qa0 k r=.no
 |k,[]=>by simp[qa0,ErrV.code]
 |k,f::r=>by
  unfold qa0;split
  .exact qwi _ r
  .rename_i h
   simp[ErrV.code]at h⊢;exact h
theorem qep(b:List qp):(eErr b).code=0↔eErr b=.no:=by
 unfold eErr;split
 .simp[ErrV.code]
 .exact qwi _ _
def errA:ErrV->AV
 |.no=>.v .nilIface
 |.num n=>.ifc 37 (Iv n)
 |.at' a n=>.ifc 115 (.pp [Iv a,.ifc 37 (Iv n)])
theorem ku(e:ErrV):Pure (errA e):=by
 cases e with
 |no=>exact qt _
 |num n=>exact qd4 (qt _)
 |at' a n=>exact qm1 a n
def KeyB(fs:List Fld):Prop:=∀f∈fs,f.1.length<4294967281
theorem q4q{fs:List Fld}{i:Nat}{x:Fld}(h:fs[i]?=some x):(fs.map fldA)[i]?=some (fldA x):=by simp[h]
theorem q0m{b:List qp}{i:Nat}{x:qp}(h:b[i]?=some x):(b.map zz)[i]?=some (zz x):=by simp[h]
theorem qz5{fs:List Fld}(h:¬0<fs.length):z4 fs=.num 2:=if_pos (List.length_eq_zero_iff.1 Om)
theorem qv5{fs:List Fld}(h:40<fs.length):z4 fs=.num 11:=(if_neg λh0=>by simp[h0]at h).trans (if_pos h)
theorem qz6{fs:List Fld}(h0:0<fs.length)(h:¬40<fs.length):z4 fs=xm 0 fs:=(if_neg (Qz.1 h0)).trans (if_neg h)
theorem qpa(fs:List Fld)(st:List AObj)(e:ErrV)(h:z4 fs=e)(hK:KeyB fs)(hl:fs.length<9223372036854775808):qr E 200 [jl fs] st λr st'=>r=errA e∧st'=st:=by
 subst h;refine zj [.a (jl fs)] (ku _) Tryz.func200 rfl rfl (λ_=>rfl) rfl λS0=>?_;have o0:(fs.map fldA).length=fs.length:=Sx
 apply qf [];repeat' (first|apply Qa|(intro h;try exact cDd)|exact cSd|apply qd []|refine exr ?_|refine qg ?_)
 .rw[qz5 Om];rfl
 .rw[qv5 Om];rfl
 rw[qz6 Om Om];refine zx (X:=Nat) (λk=>⟨[(16,.a (jl fs)),(17,.i (fs.map fldA).length),(18,.i k)],[],0⟩) (λk=>k<=fs.length∧xm k (fs.drop k)=xm 0 fs) (λk=>fs.length-k) 0 ⟨Om,rfl⟩ ?_ ?_
 .skip
  repeat' (first|apply Qa|(intro h;try exact cDd)|exact cSd|apply qd []|refine exr ?_|refine qg ?_)
 .rintro k ⟨hk,hc⟩
  by_cases d8:k<fs.length
  .obtain⟨y,hy⟩:∃y,fs[k]?=some y:=⟨_,Qi d8⟩
   have d9:=q4q hy;have rp:=hK y (Qv hy);obtain⟨_,hye⟩:=Qn.1 hy;rw[Qo d8,hye,xm]at hc;rw[<-hc];by_cases ha:vh y=0
   .have hc4:=λst=>qk8 y st rp ha
    apply qf [4];repeat' (first|apply Qa|(intro h;try exact cDd)|(refine Qb (k) ⟨Om,_,d9,?_⟩)|exact⟨Tryz.call201⟩|refine cpe hc4 ?_|(refine Qb (k+1) ⟨⟨Om,by simp_all⟩,Om,?_⟩)|exact cSd|apply qd [4]|refine exr ?_|refine qg ?_)
   .have hc4:=λst=>qk9 y st rp ha
    rw[if_neg ha];apply qf [4];repeat' (first|apply Qa|(intro h;try exact cDd)|(refine Qb (k) ⟨Om,_,d9,?_⟩)|exact⟨Tryz.call201⟩|refine cpe hc4 ?_|exact cSd|apply qd [4]|refine exr ?_|refine qg ?_)
  .rw[Qr Om,xm]at hc
   rw[<-hc];apply qf [];repeat' (first|apply Qa|(intro h;try exact cDd)|exact cSd|apply qd []|refine exr ?_|refine qg ?_)
theorem zlz(x:qp)(st:List AObj)(e:ErrV)(h:gErr x=e)(hK:KeyB x.fields)(hl:x.fields.length<9223372036854775808):qr E 142 [zz x] st λr st'=>r=errA e∧st'=st:=by
 subst h;refine zj [.a (zz x)] (ku _) Tryz.func142 rfl rfl (λ_=>rfl) rfl λS0=>?_;have o0:(x.fields.map fldA).length=x.fields.length:=Sx
 have cz:x.fields=[]↔x.fields.length=0:=Sx
 have hc6:=λst=>qpa x.fields st _ rfl hK hl;unfold gErr;simp only[cz];generalize z4 x.fields=e at *
 cases e
 all_goals apply qf [1]
 repeat' (first|apply Qa|(intro h;try exact cDd)|exact⟨Tryz.call200⟩|refine cpe hc6 ?_|exact cSd|apply qd [1]|refine exr ?_|refine qg ?_)
 all_goals clear hc6
 all_goals grind [errA]
theorem zii(n:Int)(st:List AObj):qr E 173 [.ifc 37 (Iv n)] st λr st'=>r=.ifc 37 (Iv n)∧st'=st:=by
 refine q5 (qd4 (qt _)) (qs Tryz.func173 rfl (Qc rfl) ?_);repeat' (first|apply qq|apply qh|apply qj|apply ql|apply qi|(apply qe;exact rfl;apply cd_f;exact cRa)|(apply vq;exact rfl;exact rfl)|(apply j7;exact rfl;exact rfl)|apply qz|apply qw|(apply qm;exact Tryz.call227;exact zhu _ (st.length+0) _ (j9 rfl)))
 exact qo rfl (q7 rfl) ⟨rfl,_,rfl⟩
theorem zih(a n:Int)(st:List AObj):qr E 173 [qjh a n] st λr st'=>r=.ifc 37 (Iv n)∧st'=st:=by
 refine q5 (qd4 (qt _)) (qs Tryz.func173 rfl (Qc rfl) ?_);repeat' (first|apply qq|apply qh|apply qj|apply ql|apply qi|(apply qe;exact rfl;apply cd_t;exact cRa)|(apply vq;exact rfl;exact rfl)|(apply j7;exact rfl;exact rfl)|(apply yf;(iterate 4 exact rfl))|(apply jq;(iterate 3 exact rfl))|(apply wv;exact rfl;exact rfl)|apply qw|(apply qm;exact Tryz.call227;exact zlb a n (st.length+0) _ (j9 rfl))|(apply vb;exact rfl;(focus first|assumption|(repeat' (first|assumption|exact yc|exact j9 rfl|apply kh|apply j8|omega|apply qc7)));exact rfl;exact rfl))
 exact qo rfl (q7 rfl) ⟨rfl,qyw λj hj=>(qtf Om).trans (Za hj)⟩
theorem quf(k:Int)(e:ErrV)(st:List AObj)(he:e.code≠0):qr E 121 [Iv k,errA e] st λr st'=>r=errA (.at' k e.code)∧st'=st:=by
 refine q5 (ku _) (qs Tryz.func121 rfl (Qc rfl) ?_)
 cases e with
 |no=>exact absurd rfl he
 |num n=>
  repeat' (first|(apply qqc;(iterate 3 exact rfl))|apply qq|apply qh|apply qj|apply ql|apply qi|(apply vq;exact rfl;exact rfl)|(apply yb;(iterate 3 exact rfl))|apply qw|(apply qm;exact Tryz.call173;exact zii _ _))
  exact qo rfl (q7 rfl) ⟨rfl,_,rfl⟩
 |at' a n=>
  repeat' (first|(apply qqc;(iterate 3 exact rfl))|apply qq|apply qh|apply qj|apply ql|apply qi|(apply vq;exact rfl;exact rfl)|(apply yb;(iterate 3 exact rfl))|apply qw|(apply qm;exact Tryz.call173;exact zih a n _))
  exact qo rfl (q7 rfl) ⟨rfl,_,rfl⟩
structure EdB (x:qp):Prop where
 keys:KeyB x.fields
 len:x.fields.length<9223372036854775808
 id1: -9223372036854775808<=x.id
 id2:x.id<=9223372036854775807
@[reducible] def zr (b : List qp) : AV := .sl 3 (b.map zz) none
theorem qof(b:List qp)(st:List AObj)(e:ErrV)(h:eErr b=e)(hB:∀x∈b,EdB x)(hl:b.length<9223372036854775808):qr E 99 [zr b] st λr st'=>r=errA e∧st'=st:=by
 subst h;refine zj [.a (zr b)] (ku _) Tryz.func99 rfl rfl (λ_=>rfl) rfl λS0=>?_;have o0:(b.map zz).length=b.length:=Sx
 have h1:b.length<1∨40<b.length->eErr b=.num 1:=λh=>if_pos h;have hr:¬(b.length<1∨40<b.length)->eErr b=qa0 0 b:=λh=>if_neg h;apply qf [];repeat' (first|apply Qa|(intro h;try exact cDd)|exact cSd|apply qd []|refine exr ?_|refine qg ?_)
 .rw[h1 Om];rfl
 .rw[h1 Om];rfl
 rw[hr Om];refine zx (X:=Nat) (λk=>⟨[(15,.a (zr b)),(16,.i (b.map zz).length),(17,.i k)],[],0⟩) (λk=>k<=b.length∧qa0 k (b.drop k)=qa0 0 b) (λk=>b.length-k) 0 ⟨Om,rfl⟩ ?_ ?_
 .skip
  repeat' (first|apply Qa|(intro h;try exact cDd)|exact cSd|apply qd []|refine exr ?_|refine qg ?_)
 .rintro k ⟨hk,hc⟩
  by_cases d8:k<b.length
  .obtain⟨y,hy⟩:∃y,b[k]?=some y:=⟨_,Qi d8⟩
   have d9:=q0m hy;have rp:=hB y (Qv hy);obtain⟨_,hye⟩:=Qn.1 hy;rw[Qo d8,hye,qa0]at hc;have hc9:=λst=>zlz y st _ rfl rp.keys rp.len;have hcf:=λst=>quf k (gErr y) st;rw[<-hc]
   cases hg:gErr y
   all_goals rw[hg]at hc hc9 hcf
   .apply qf [4]
    repeat' (first|apply Qa|(intro h;try exact cDd)|(refine Qb (k) ⟨Om,_,d9,?_⟩)|exact⟨Tryz.call142⟩|refine cpe hc9 ?_|(refine Qb (k+1) ⟨⟨Om,(if_pos rfl).symm⟩,Om,?_⟩)|exact cSd|apply qd [4]|refine exr ?_|refine qg ?_)
   all_goals have hgc:=λh=>qqx y |>.1 h
   all_goals rw[hg]at hgc
   all_goals rw[if_neg λh=>nomatch hgc h]
   .have hcg:=λst=>hcf st λh=>nomatch hgc h
    apply qf [4];repeat' (first|apply Qa|(intro h;try exact cDd)|(refine Qb (k) ⟨Om,_,d9,?_⟩)|exact⟨Tryz.call142⟩|refine cpe hc9 ?_|exact⟨Tryz.call121⟩|refine cpe hcg ?_|exact cSd|apply qd [4]|refine exr ?_|refine qg ?_)
   .have hcg:=λst=>hcf st λh=>nomatch hgc h
    apply qf [4];repeat' (first|apply Qa|(intro h;try exact cDd)|(refine Qb (k) ⟨Om,_,d9,?_⟩)|exact⟨Tryz.call142⟩|refine cpe hc9 ?_|exact⟨Tryz.call121⟩|refine cpe hcg ?_|exact cSd|apply qd [4]|refine exr ?_|refine qg ?_)
  .rw[Qr Om,qa0]at hc
   rw[<-hc];apply qf [];repeat' (first|apply Qa|(intro h;try exact cDd)|exact cSd|apply qd []|refine exr ?_|refine qg ?_)
theorem zap(a b:Int):Pure (.tu [Iv a,Iv b]):=kc (qt _) (qt _)
theorem qlj(fs:List Fld)(st:List AObj)(hK:KeyB fs)(hl:fs.length<9223372036854775808):qr E 188 [jl fs] st λr st'=>r=.tu [Iv (z4 fs).pos,Iv (z4 fs).code]∧st'=st:=by
 refine zj [.a (jl fs)] (zap _ _) Tryz.func188 rfl rfl (λ_=>rfl) rfl λS0=>?_;have o0:(fs.map fldA).length=fs.length:=Sx
 apply qf [];repeat' (first|apply Qa|(intro h;try exact cDd)|exact cSd|apply qd []|refine exr ?_|refine qg ?_)
 .rw[qz5 Om];rfl
 .rw[qv5 Om];rfl
 rw[qz6 Om Om];refine zx (X:=Nat) (λk=>⟨[(0,.a (jl fs)),(4,.i k)],[],0⟩) (λk=>k<=fs.length∧xm k (fs.drop k)=xm 0 fs) (λk=>fs.length-k) 0 ⟨Om,rfl⟩ ?_ ?_
 .skip
  repeat' (first|apply Qa|(intro h;try exact cDd)|exact cSd|apply qd []|refine exr ?_|refine qg ?_)
 .rintro k ⟨hk,hc⟩
  by_cases d8:k<fs.length
  .obtain⟨y,hy⟩:∃y,fs[k]?=some y:=⟨_,Qi d8⟩
   have d9:=q4q hy;have rp:=hK y (Qv hy);obtain⟨_,hye⟩:=Qn.1 hy;rw[Qo d8,hye,xm]at hc;have hc4:=λst=>q6j y st rp;rw[<-hc];apply qf [];repeat' (first|apply Qa|(intro h;try exact cDd)|(refine Qb (k) ⟨Om,_,d9,?_⟩)|exact⟨Tryz.call233⟩|refine cpe hc4 ?_|(refine Qb (k+1) ⟨⟨Om,by simp_all⟩,Om,?_⟩)|exact cSd|apply qd []|refine exr ?_|refine qg ?_)
   all_goals (rw[if_neg (by assumption)];rfl)
  .rw[Qr Om,xm]at hc
   rw[<-hc];apply qf [];repeat' (first|apply Qa|(intro h;try exact cDd)|exact cSd|apply qd []|refine exr ?_|refine qg ?_)
theorem q8s(x:qp)(st:List AObj)(hK:EdB x):qr E 135 [zz x] st λr st'=>r=Iv (gErr x).code∧st'=st:=by
 refine zj [.a (zz x)] (qt _) Tryz.func135 rfl rfl (λ_=>rfl) rfl λS0=>?_;have o0:(x.fields.map fldA).length=x.fields.length:=Sx
 have cz:x.fields=[]↔x.fields.length=0:=Sx
 have hc6:=λst=>qlj x.fields st hK.keys hK.len
 have hg:(gErr x).code=if x.kind=2 then(if x.fields.length=0 then 0 else 2)else if x.kind=1∨x.kind=3 then(z4 x.fields).code else 2:=by
  unfold gErr;simp only[apply_ite ErrV.code,cz];rfl
 rw[hg];generalize(z4 x.fields).code=c at *;apply qf [1];repeat' (first|apply Qa|(intro h;try exact cDd)|exact⟨Tryz.call188⟩|refine cpe hc6 ?_|exact cSd|apply qd [1]|refine exr ?_|refine qg ?_)
 all_goals clear hc6
 all_goals refine congrArg Iv ?_
 all_goals omega
theorem qro(b:List qp)(st:List AObj)(hB:∀x∈b,EdB x)(hl:b.length<9223372036854775808):qr E 83 [zr b] st λr st'=>r=.tu [Iv (eErr b).pos,Iv (eErr b).code]∧st'=st:=by
 refine zj [.a (zr b)] (zap _ _) Tryz.func83 rfl rfl (λ_=>rfl) rfl λS0=>?_;have o0:(b.map zz).length=b.length:=Sx
 have h1:b.length<1∨40<b.length->eErr b=.num 1:=λh=>if_pos h;have hr:¬(b.length<1∨40<b.length)->eErr b=qa0 0 b:=λh=>if_neg h;apply qf [];repeat' (first|apply Qa|(intro h;try exact cDd)|exact cSd|apply qd []|refine exr ?_|refine qg ?_)
 .rw[h1 Om];rfl
 .rw[h1 Om];rfl
 rw[hr Om];refine zx (X:=Nat) (λk=>⟨[(0,.a (zr b)),(4,.i k)],[],0⟩) (λk=>k<=b.length∧qa0 k (b.drop k)=qa0 0 b) (λk=>b.length-k) 0 ⟨Om,rfl⟩ ?_ ?_
 .skip
  repeat' (first|apply Qa|(intro h;try exact cDd)|exact cSd|apply qd []|refine exr ?_|refine qg ?_)
 .rintro k ⟨hk,hc⟩
  by_cases d8:k<b.length
  .obtain⟨y,hy⟩:∃y,b[k]?=some y:=⟨_,Qi d8⟩
   have d9:=q0m hy;have rp:=hB y (Qv hy);obtain⟨_,hye⟩:=Qn.1 hy;rw[Qo d8,hye,qa0]at hc;have hc9:=λst=>q8s y st rp;rw[<-hc];apply qf [];repeat' (first|apply Qa|(intro h;try exact cDd)|(refine Qb (k) ⟨Om,_,d9,?_⟩)|exact⟨Tryz.call135⟩|refine cpe hc9 ?_|(refine Qb (k+1) ⟨⟨Om,by simp_all⟩,Om,?_⟩)|exact cSd|apply qd []|refine exr ?_|refine qg ?_)
   all_goals (rw[if_neg (by assumption)];rfl)
  .rw[Qr Om,qa0]at hc
   rw[<-hc];apply qf [];repeat' (first|apply Qa|(intro h;try exact cDd)|exact cSd|apply qd []|refine exr ?_|refine qg ?_)
def okE:ErrV->Prop
 |.no=>True
 |.num n=>n≠0
 |.at' _ n=>n≠0
theorem zod(e:ErrV)(st:List AObj)(he:okE e):qr E 18 [errA e] st λr st'=>r=Iv e.code∧st'=st:=by
 refine q5 (qt _) (qs Tryz.func18 rfl (Qc rfl) ?_)
 cases e with
 |no=>
  repeat' (first|apply qq|apply q6|apply qh|apply qj|apply ql|apply qi)
  refine jt (λ(k:Unit)s=>StA [(0,.v .nilIface),(7,Iv 0)] (st++[]) [] s) (λk=>0) () (z7 ⟨rfl,rfl,trivial⟩) ?_;rintro k _ ⟨t,rfl⟩;repeat' (first|apply qq|apply q6|apply qh|apply qj|apply ql|apply qi|(apply qv;(iterate 3 exact rfl))|(apply qe;exact rfl;apply vo;exact cAo)|(apply qe;exact rfl;apply cd_t;exact cRa)|(apply qd9;exact rfl;exact rfl)|apply qz|apply qw)
  exact qo rfl (q7 rfl) ⟨rfl,_,rfl⟩
 |num n=>
  have hk:n≠0:=he;repeat' (first|apply qq|apply q6|apply qh|apply qj|apply ql|apply qi)
  refine jt (λ(k:Unit)s=>StA [(0,errA (.num n)),(7,Iv 0)] (st++[]) [] s) (λk=>0) () (z7 ⟨rfl,rfl,trivial⟩) ?_;rintro k _ ⟨t,rfl⟩;repeat' (first|apply qq|apply q6|apply qh|apply qj|apply ql|apply qi|(apply zg;exact rfl;exact rfl)|(apply qv;(iterate 3 exact rfl))|(apply qx;(iterate 4 exact rfl))|(apply qaa;exact cRa)|(apply qk;exact rfl;apply pk_t;exact cRa)|(apply qe;exact rfl;apply vo;exact cAo)|(apply qe;exact rfl;apply cd_f;exact cRa)|(apply qbg;exact rfl;exact rfl)|apply qz|apply qw|(apply qe4;(iterate 3 exact rfl)))
  exact qo rfl (q7 rfl) ⟨rfl,_,rfl⟩
 |at' a n=>
  have hk:n≠0:=he;repeat' (first|apply qq|apply q6|apply qh|apply qj|apply ql|apply qi)
  refine jt (λ(j:Nat)s=>(j=0∧StA [(0,errA (.at' a n)),(7,Iv 0)] (st++[]) [] s)∨(j=1∧StA [(0,errA (.num n)),(7,Iv 1)] (st++[]) [] s)) (λj=>1-j) 0 (.inl ⟨rfl,z7 ⟨rfl,rfl,trivial⟩⟩) ?_;rintro j _ (⟨rfl,t,rfl⟩|⟨rfl,t,rfl⟩)
  .skip
   repeat' (first|apply qq|apply q6|apply qh|apply qj|apply ql|apply qi|(apply zg;exact rfl;exact rfl)|(apply qv;(iterate 3 exact rfl))|(apply ja;exact rfl)|(apply qx;(iterate 4 exact rfl))|(apply qaj;exact cRa)|(apply qet;exact cRa)|(apply xq;exact cRa)|(apply qk;exact rfl;apply qfi;exact cRa)|(apply qk;exact rfl;apply pk_f;exact cRa)|(apply qe;exact rfl;apply vo;exact cAo)|(apply qe;exact rfl;apply cd_f;exact cRa)|(apply zo;exact rfl;exact rfl;exact q8 Om Om)|(apply qbg;exact rfl;exact rfl)|(apply yf;(iterate 4 exact rfl))|(apply jq;(iterate 3 exact rfl))|(apply wv;exact rfl;exact rfl)|(apply qbi;(iterate 3 exact rfl))|apply qz|(apply qlv;(iterate 5 exact rfl))|(apply qe4;(iterate 3 exact rfl)))
   exact⟨1,.inr ⟨rfl,z7 ⟨rfl,rfl,trivial⟩⟩,Om⟩
  .skip
   repeat' (first|apply qq|apply q6|apply qh|apply qj|apply ql|apply qi|(apply zg;exact rfl;exact rfl)|(apply qv;(iterate 3 exact rfl))|(apply qx;(iterate 4 exact rfl))|(apply qaa;exact cRa)|(apply qk;exact rfl;apply pk_t;exact cRa)|(apply qe;exact rfl;apply vo;exact cAo)|(apply qe;exact rfl;apply cd_f;exact cRa)|(apply qbg;exact rfl;exact rfl)|apply qz|apply qw|(apply qe4;(iterate 3 exact rfl)))
   exact qo rfl (q7 rfl) ⟨rfl,_,rfl⟩
theorem zo3(e:ErrV)(st:List AObj):qr E 19 [errA e] st λr st'=>r=Iv e.pos∧st'=st:=by
 refine q5 (qt _) (qs Tryz.func19 rfl (Qc rfl) ?_)
 cases e with
 |no=>
  repeat' (first|apply qq|apply qh|apply qj|apply ql|apply qi|(apply zg;exact rfl;exact rfl)|(apply qx;(iterate 4 exact rfl))|(apply xq;exact cRa)|(apply qk;exact rfl;apply pk_f;exact cRa)|(apply qe;exact rfl;apply cd_f;exact cRa)|apply qz|apply qw|(apply qyd;(iterate 4 exact rfl)))
  exact qo rfl (q7 rfl) ⟨rfl,_,rfl⟩
 |num n=>
  repeat' (first|apply qq|apply qh|apply qj|apply ql|apply qi|(apply zg;exact rfl;exact rfl)|(apply qx;(iterate 4 exact rfl))|(apply xq;exact cRa)|(apply qk;exact rfl;apply pk_f;exact cRa)|(apply qe;exact rfl;apply cd_f;exact cRa)|apply qz|apply qw|(apply qlv;(iterate 5 exact rfl)))
  exact qo rfl (q7 rfl) ⟨rfl,_,rfl⟩
 |at' a n=>
  repeat' (first|apply qq|apply qh|apply qj|apply ql|apply qi|(apply zg;exact rfl;exact rfl)|(apply qx;(iterate 4 exact rfl))|(apply qaa;exact cRa)|(apply qk;exact rfl;apply pk_t;exact cRa)|(apply qe;exact rfl;apply qit;exact cRa)|(apply yf;(iterate 4 exact rfl))|(apply jq;(iterate 3 exact rfl))|(apply wv;exact rfl;exact rfl)|(apply qf3;(iterate 3 exact rfl))|apply qw|(apply qe4;(iterate 3 exact rfl)))
  exact qo rfl (q7 rfl) ⟨rfl,_,rfl⟩
def kj(x:qp):qc:=km x++[10]++qay [32,32] (zy x.fields)
def encF(b:List qp):qc:=b.flatMap kj
theorem q4e(a b:List qp):encF (a++b)=encF a++encF b:=by simp[encF]
theorem q4f(x:qp):encF [x]=kj x:=by simp[encF]
theorem qv7:∀(k:Nat)(r:List Fld),xm k r=.no↔∀f∈r,ki f
 |k,[]=>by simp[xm]
 |k,f::r=>by
  unfold xm;split
  .rename_i h
   rw[qv7 (k+1) r];have:=(qc5 f).1 h;simp[this]
  .rename_i h
   have h2:¬ki f:=λg=>h ((qc5 f).2 g);simp[h2]
theorem qcm{fs:List Fld}(h:z4 fs=.no):fs≠[]∧fs.length<=40∧∀f∈fs,ki f:=by
 unfold z4 at h;split at h
 .exact absurd h Sx
 .split at h
  .exact absurd h Sx
  .exact⟨by assumption,Om,(qv7 _ _).1 h⟩
theorem qgv{x:qp}(h:gErr x=.no):x.fields.length<=40∧∀f∈x.fields,ki f:=by
 unfold gErr at h;split at h
 .split at h
  .rename_i h0;rw[h0];simp
  .exact absurd h Sx
 .split at h
  .exact(qcm h).2
  .exact absurd h Sx
theorem q4b:∀(k:Nat)(b:List qp),qa0 k b=.no↔∀x∈b,gErr x=.no
 |k,[]=>by simp[qa0]
 |k,x::b=>by
  unfold qa0;split
  .rename_i h
   rw[q4b (k+1) b];have:=(qqx x).1 h;simp[this]
  .rename_i h
   have h2:¬gErr x=.no:=λg=>h ((qqx x).2 g);simp[h2]
theorem qcd{b:List qp}(h:eErr b=.no):1<=b.length∧b.length<=40∧∀x∈b,gErr x=.no:=by
 unfold eErr at h;split at h
 .exact absurd h Sx
 .exact⟨Om,Om,(q4b _ _).1 h⟩
theorem qwv{fs:List Fld}(hl:fs.length<=40)(h:∀f∈fs,ki f):q2m fs:=⟨Om,λf hf=>by
 have:=h f hf;have h1:=this.1.2.1;have h2:=this.2
 omega⟩
theorem qwt(xs:List FldV)(st:List AObj)(hl:xs.length<=40)(h:∀f∈xs,ki f):qr E 100 [jl xs] st λr st'=>r=.tu [Sv (zy xs),.v .nilIface]∧st'=st:=by
 have:=znx xs st (qwv hl h);unfold qwr at this;have h0:=(qqt xs).2 h;rw[if_pos h0,h0]at this;exact this
theorem qm2(l:qc):(qay [32,32] l).length<=3*l.length:=by
 unfold qay;obtain⟨h1,h2⟩:=qgy _ l (Qp _);have:=qoq [32,32] (zp l);simp only[Qd,Qs]at this;omega
theorem qq4(x:qp)(h1: -9223372036854775808<=x.id)(h2:x.id<=9223372036854775807):(km x).length<=100:=by
 have hn:=Lib.itoa_length_le x.id h1 h2;unfold km qab;split
 .split
  .simp;omega
  .split
   .simp;omega
   .split <;>simp <;>omega
 .simp
theorem zb3{x:qp}(hB:EdB x)(h:gErr x=.no):(kj x).length<=700000:=by
 obtain⟨hl,hg⟩:=qgv h;have h1:=qgt x.fields hg;have h2:=qm2 (zy x.fields);have h3:=qq4 x hB.id1 hB.id2;unfold kj;simp only[Qf,Qd,Qs];omega
theorem qoh:∀(b:List qp),(∀x∈b,EdB x)->(∀x∈b,gErr x=.no)->(encF b).length<=700000*b.length
 | [],_,_=>by simp[encF]
 |x::r,hB,h=>by
  have ih:=qoh r (λy hy=>hB y (by simp[hy])) (λy hy=>h y (by simp[hy]));have h1:=zb3 (hB x Sx) (h x Sx);have e:encF (x::r)=kj x++encF r:=by simp[encF]
  rw[e,Qf,Qd];omega
set_option maxHeartbeats 2000000 in
theorem q0p(b:List qp)(st:List AObj)(hB:∀x∈b,EdB x)(he:eErr b=.no):qr E 60 [zr b] st λr st'=>r=.tu [Sv (encF b),.v .nilIface]∧st'=st:=by
 refine q5 (kc (qt _) (qt _)) (qs Tryz.func60 rfl (Qc rfl) ?_);have o0:(b.map zz).length=b.length:=Sx
 obtain⟨r6,hb40,hg⟩:=qcd he;have nq:=qoh b hB hg;repeat' (first|(apply qin;exact rfl)|apply qq|apply q6|apply qh|apply qj|apply ql|apply qi|(apply qe;exact rfl;apply cd_f;exact cRa)|(apply jp;(iterate 4 exact rfl))|(apply wd;exact rfl;exact rfl)|apply qz|(apply qm;exact Tryz.call99;exact qof _ _ _ he hB Om))
 refine qck b (λpre s=>∃q,(q=.v (.pointer none)∨q=.bx (st.length+0) 0 0)∧StE [(5,.bx (st.length+0) 0 0),(15,zr b),(16,Iv b.length),(17,Iv pre.length)] st [bldO 0 q (encF pre) (st.length+1),.tip (encF pre).length 1 5] s) ⟨_,.inl rfl,qfq ⟨rfl,rfl,congrArg (λn:Nat=>Iv (n:Int)) o0,rfl,trivial⟩ rfl⟩ ?_ ?_
 .rintro _ ⟨q,hq,t,ext,rfl⟩
  repeat' (first|apply qq|apply qh|apply qj|apply qi|(apply qv;(iterate 3 exact rfl))|(apply qe;exact rfl;apply v8;exact cAo)|apply jd|apply qw|(refine qm Tryz.call104 (qiq st _ _ _ _ 0 1 0 _ _ rfl rfl rfl) ?_))
  exact qo rfl (kw rfl) ⟨rfl,qbx _ _ _ _⟩
 .rintro pre x rest _ hr ⟨q,hq,t,ext,rfl⟩
  have d5:b.length=pre.length+(rest.length+1):=by rw[hr];simp
  have d9:(b.map zz)[pre.length]?=some (zz x):=by rw[hr];simp
  have hxb:=hB x (by rw[hr];simp);have hxg:=hg x (by rw[hr];simp);obtain⟨o7,hfg⟩:=qgv hxg;have fj:=qoh pre (λy hy=>hB y (by rw[hr];simp[hy])) (λy hy=>hg y (by rw[hr];simp[hy]));have lj:=qq4 x hxb.id1 hxb.id2;have hfo:=qgt x.fields hfg;have hin:=qm2 (zy x.fields);repeat' (first|apply qq|apply q6|apply qh|apply qj|apply ql|apply qi|(apply zg;exact rfl;exact rfl)|(apply qv;(iterate 3 exact rfl))|(apply qe;exact rfl;apply vo;exact cAo)|(apply qe;exact rfl;apply cd_f;exact cRa)|(apply jy;exact rfl;exact rfl;exact cOs)|(apply wd;exact rfl;exact rfl)|(apply j7;exact rfl;exact rfl)|(apply zl;(iterate 3 exact rfl))|(apply jq;(iterate 3 exact rfl))|(apply jr;(iterate 5 exact rfl))|(apply jc;(iterate 11 exact rfl))|(apply we;(iterate 9 exact rfl))|apply qz|(apply qm;exact Tryz.call100;exact qwt _ _ o7 hfg)|(apply qm;exact Tryz.call102;exact zn5 _ _ hxb.id1 hxb.id2)|(apply qm;exact Tryz.call103;exact zix _ _ _ Om (by decide))|(apply kp (n:=pre.length);(iterate 5 exact rfl);exact d9))
  refine qm Tryz.call101 (qj8 st _ _ _ _ 0 1 0 _ _ _ rfl rfl ?_ ?_ rfl) ?_;(exact hq);(simp only[Qf,Qd,Qs];omega);repeat' (first|apply qh|apply qj|apply ql|(apply zo;exact rfl;exact rfl;exact q8 Om Om))
  refine⟨_,.inr rfl,qb7 ⟨rfl,rfl,rfl,?_,trivial⟩ ?_⟩
  .rw[qd6 pre x];rfl
  .have e:encF (pre++[x])=encF pre++((km x++[10])++qay [32,32] (zy x.fields)):=by rw[q4e,q4f];rfl
   rw[e];rfl
theorem ql7(b:List qp)(st:List AObj)(e:ErrV)(hB:∀x∈b,EdB x)(hl:b.length<9223372036854775808)(he:eErr b=e)(h0:e.code≠0):qr E 60 [zr b] st λr st'=>r=.tu [Sv [],errA e]∧st'=st:=by
 refine q5 (kc (qt _) (ku _)) (qs Tryz.func60 rfl (Qc rfl) ?_)
 cases e with
 |no=>exact absurd rfl h0
 |num n=>
  repeat' (first|apply qq|apply qh|apply qj|apply ql|apply qi|(apply qe;exact rfl;apply cd_t;exact cRa)|(apply xj;exact rfl;exact rfl)|apply qw|(apply qm;exact Tryz.call99;exact qof _ _ _ he hB hl))
  exact qo rfl (kw rfl) ⟨rfl,_,rfl⟩
 |at' a n=>
  repeat' (first|apply qq|apply qh|apply qj|apply ql|apply qi|(apply qe;exact rfl;apply cd_t;exact cRa)|(apply xj;exact rfl;exact rfl)|apply qw|(apply qm;exact Tryz.call99;exact qof _ _ _ he hB hl))
  exact qo rfl (kw rfl) ⟨rfl,_,rfl⟩
end Go.Proofs.YtihlchbgjdkmpaaGreatDoor
namespace Go.Av
open Go Go.RowKit
theorem qvc{b:Nat}{st l:List AObj}{sz:Nat}{T:TypeId}{xs:List AV}{c:AV}(h:TipO b st sz T xs c):TipO b (st++l) sz T xs c:=by
 rcases h with h|h
 .exact .inl (qlp h)
 .exact .inr h
theorem zay{b:Nat}{st st':List AObj}{sz:Nat}{T:TypeId}{xs:List AV}{c:AV}(hs:∀(t m sz:Nat)(T:TypeId),st[t]?=some (AObj.tip m sz T)->st'[t]?=st[t]?)(h:TipO b st sz T xs c):TipO b st' sz T xs c:=by
 rcases h with(h|⟨t,h1,h2,h3⟩)|h
 .exact .inl (.inl h)
 .exact .inl (.inr ⟨t,h1,(hs t _ _ _ h2).trans h2,h3⟩)
 .exact .inr h
end Go.Av
namespace Go.Proofs.YtihlchbgjdkmpaaGreatDoor
open Go Go.Av Go.RowKit Go.Proofs Go.Pl
theorem qie{st l:List AObj}:st.length<=(st++l).length:=Sx
theorem q11{b o:Nat}{st:List AObj}{sz:Nat}{T:TypeId}{xs:List AV}{c:AV}{x:AObj}(h:TipO b st sz T xs c)(hn:qhv st[o]?):TipO b (st.set o x) sz T xs c:=
 zay (λt m sz T ht=>Zi (λe=>by subst e;exact hn _ _ _ ht)) h
structure OutI (st:List AObj) (S:List AObj):Prop where
 low:∀j,j<st.length->S[j]?=st[j]?
 len:st.length<=S.length
theorem OutI.pre{st S l:List AObj}(h:OutI st S):OutI st (S++l):=⟨λj hj=>(Za (by have:=h.len;omega)).trans (h.low j hj),by have:=h.len;simp;omega⟩
theorem OutI.set{st S:List AObj}{o:Nat}{x:AObj}(h:OutI st S)(ho:st.length<=o):OutI st (S.set o x):=⟨λj hj=>(qtf Om).trans (h.low j hj),by have:=h.len;simp;omega⟩
theorem OutI.fr{st S S':List AObj}{t:Nat}(h:OutI st S)(hf:Fr S S' t)(ht:st.length<=t):OutI st S':=⟨λj hj=>(hf.same j Om (by have:=h.len;omega)).trans (h.low j hj),Zp h.len hf.len⟩
theorem OutI.ext{st S:List AObj}(h:OutI st S):∃ext,S=st++ext:=qyw h.low
theorem qdx{E:Env}{rd:Option Nat}{N:Nat}{ops:Array Oper}{K:AS->Prop}{s:AS}{rest:List Oper}{d:Option Tmp}{T:TypeId}{p:String}{af:Array Edge}{t e:TypeId}{len sz:Nat}{agg:Bool}{parts:Array (Nat×Operand)}{zs cs:List AV}{st:List AObj}(e8:s.st=st)(hu:E.P.underlying t=some (.slice e))(ht:tyOf E.P e=some (sz,agg))(hz:qh5 E.P e len=some zs)
  (hf:qd0 (λi=>some (i*sz,sz)) zs (wp N s parts)=some cs) (m8:Nat.ble (len*sz) 16777216=true)
  (h:AOps E rd N ops rest K (AS.put ⟨s.t,st++[.cells 0 e cs],s.df⟩ d (.os st.length 0 0 len len))):AOps E rd N ops (⟨d,.buildSlice t len parts,T,p,af,none⟩::rest) K s:=
 qb2 (loc:=[]) (by rw[e8];simp) hu ht hz hf m8 h
theorem qiu(x:qp):qil (zz x):=λy hy=>by
 simp only[AV.cells,Qe,Qk,or_false]at hy;rcases hy with rfl|rfl|rfl
 .exact qt _
 .exact qt _
 .exact qa1 _
theorem qc6(b:List qp):Pure (zr b):=qaz λx hx=>by
 obtain⟨f,_,rfl⟩:=Qg.1 hx;exact qiu f
theorem zja{α β:Type}(g:α->β)(l:List α)(a:α):(l++[a]).map g=l.map g++[g a]:=Sx
def tryB(k:Int)(l:qc):Option Int:=if qab k<+:l then(match Lib.atoiAll (l.drop (qab k).length)with
 |.ok n=>some n
 |_=>none)else none
def begE(l:qc):Option (Int×Int):=match tryB 1 l with
 |some n=>some (1,n)
 |none=>match tryB 2 l with
  |some n=>some (2,n)
  |none=>match tryB 3 l with
   |some n=>some (3,n)
   |none=>none
def begA:Option (Int×Int)->AV
 |some (k,n)=>.tu [zz ⟨k,n,[]⟩,Bv true]
 |none=>.tu [zz ⟨0,0,[]⟩,Bv false]
theorem zd7(x:Option (Int×Int)):Pure (begA x):=by
 rcases x with _|⟨k,n⟩
 .exact kc (qak (qiu _)) (qt _)
 .exact kc (qak (qiu _)) (qt _)
theorem q13(k n:Int):Weak (.ag [Iv k,Iv n,zn]) (zz ⟨k,n,[]⟩):=
 zne rfl λi x y hx hy=>by
  match i with
  |0=>simp at hx hy;subst hx;subst hy;exact qc1 _
  |1=>simp at hx hy;subst hx;subst hy;exact qc1 _
  |2=>simp at hx hy;subst hx;subst hy;exact qh3 2
  |i+3=>simp at hx
theorem zbz(l m:qc)(st:List AObj)(h:m<+:l):qr E 219 [Sv l,Sv m] st λr st'=>r=.tu [Sv (l.drop m.length),Bv true]∧st'=st:=by
 have:=qfx l m st;rw[qea h,(yt l m).2 h]at this;exact this
theorem zb0(l m d:qc)(st:List AObj)(h:m<+:l)(hd:l.drop m.length=d):qr E 219 [Sv l,Sv m] st λr st'=>r=.tu [Sv d,Bv true]∧st'=st:=by
 subst hd;exact zbz l m st h
theorem zby(l m:qc)(st:List AObj)(h:¬m<+:l):qr E 219 [Sv l,Sv m] st λr st'=>r=.tu [Sv l,Bv false]∧st'=st:=by
 have:=qfx l m st
 have hf:Lib.hasPrefix l m=false:=by
  cases hb:Lib.hasPrefix l m with
  |false=>rfl
  |true=>exact absurd ((yt l m).1 hb) h
 have ht:Lib.trimPrefix l m=l:=by
  unfold Lib.trimPrefix;rw[if_neg (by simp[hf])]
 rw[ht,hf]at this;exact this
theorem zlg{l:qc}{k:Nat}{n:Int}(h1:1<=k)(h3:k<=3)(h:∀j:Nat,1<=j->j<k->tryB j l=none)(hk:tryB k l=some n):begE l=some ((k:Int),n):=by
 have:k=1∨k=2∨k=3:=Om
 rcases this with rfl|rfl|rfl
 .have br:tryB 1 l=some n:=hk
  simp[begE,br]
 .have e1:tryB 1 l=none:=h 1 Om Om
  have br:tryB 2 l=some n:=hk;simp[begE,e1,br]
 .have e1:tryB 1 l=none:=h 1 Om Om
  have e2:tryB 2 l=none:=h 2 Om Om;have br:tryB 3 l=some n:=hk;simp[begE,e1,e2,br]
theorem zd9{l:qc}(h:∀j:Nat,1<=j->j<4->tryB j l=none):begE l=none:=by
 have e1:tryB 1 l=none:=h 1 Om Om;have e2:tryB 2 l=none:=h 2 Om Om;have e3:tryB 3 l=none:=h 3 Om Om;simp[begE,e1,e2,e3]
theorem zhh{k:Nat}(h1:1<=k)(h3:k<=3):qc3 (k:Int)≠[]∧([32]++qc3 (k:Int))++[32]=qab (k:Int)∧(qc3 (k:Int)).length<=10:=by
 have:k=1∨k=2∨k=3:=Om
 rcases this with rfl|rfl|rfl <;>decide
set_option maxHeartbeats 2000000 in
theorem zli(l:qc)(st:List AObj)(hl:l.length<1000000):qr E 167 [Sv l] st λr st'=>r=begA (begE l)∧st'=st:=by
 refine q5 (zd7 _) (qs Tryz.func167 rfl (Qc rfl) ?_);repeat' (first|apply qq|apply q6|apply qh|apply qj|apply qi|(apply j7;exact rfl;exact rfl))
 refine jt (λ(k:Nat)s=>1<=k∧k<=4∧(∀j:Nat,1<=j->j<k->tryB j l=none)∧StE [(0,Sv l),(2,.bx (st.length+0) 0 0),(4,Iv k)] st [.cells 0 81 [Iv 0,Iv 0,zn]] s) (λk=>4-k) 1 ⟨Om,Om,λj h1 h2=>by omega,qfq ⟨rfl,rfl,rfl,trivial⟩ rfl⟩ ?_;rintro k _ ⟨br,hk4,gm,t,ext,rfl⟩;by_cases h4:k=4
 .subst h4
  have hw:qc3 ((4:Nat):Int)=[]:=by decide
  rw[zd9 gm];repeat' (first|apply qq|apply qh|apply qj|apply ql|apply qi|(apply jo;(iterate 3 exact rfl))|(apply qe;exact rfl;apply cd_f;exact cRa)|(apply qe7;(iterate 11 exact rfl))|(apply yb;(iterate 3 exact rfl))|apply jd|apply qw|(apply qm;exact Tryz.call145;exact qya _ _))
  refine qo rfl (x8 (qs1 rfl rfl rfl rfl rfl rfl) (qgl (q13 0 0) (qc1 _))) ⟨rfl,qbx _ _ _ _⟩
 .obtain⟨hw,hm,hwl⟩:=zhh br Om
  by_cases hp:qab (k:Int)<+:l
  .have pb:([32]++qc3 (k:Int))++[32]<+:l:=by rw[hm];exact hp
   obtain⟨d,hd0⟩:∃d,d=l.drop (qab (k:Int)).length:=⟨_,rfl⟩;have hd:l.drop ((([32]:qc)++qc3 (k:Int))++[32]).length=d:=by rw[hm,hd0]
   have hdl:d.length<1000000:=by rw[hd0,Zl];omega
   repeat' (first|apply qq|apply q6|apply qh|apply qj|apply ql|apply qi|(apply zg;exact rfl;exact rfl)|(apply jo;(iterate 3 exact rfl))|(apply qe;exact rfl;apply vo;exact cAo)|(apply jy;exact rfl;exact rfl;exact cOs)|apply qz|(apply qm;exact Tryz.call145;exact qya _ _)|(apply qm;exact Tryz.call219;exact zb0 _ _ _ _ pb hd))
   refine qgm Tryz.call111 ((qqh d _ Om).mono ?_);rintro _ _ ⟨rfl,n,x,rfl,hx⟩;rw[hd0]at hx;rcases x with _|⟨t',y⟩
   .simp only at hx
    have tq:tryB (k:Int) l=some n:=by unfold tryB;rw[if_pos hp,hx]
    rw[zlg br Om gm tq];repeat' (first|apply qq|apply qh|apply qj|apply ql|apply qi|(apply zg;exact rfl;exact rfl)|(apply qx;(iterate 4 exact rfl))|(apply qaa;exact cRa)|(apply qk;exact rfl;apply pk_t;exact cRa)|(apply qe;exact rfl;apply cd_t;exact cRa)|(apply qd9;exact rfl;exact rfl)|(apply qe7;(iterate 11 exact rfl))|(apply yb;(iterate 3 exact rfl))|apply qw)
    refine qo rfl (x8 (qs1 rfl rfl rfl rfl rfl rfl) (qgl (q13 k n) (qc1 _))) ⟨rfl,qbx _ _ _ _⟩
   .simp only at hx
    have tq:tryB (k:Int) l=none:=by
     unfold tryB;rw[if_pos hp];split
     .rename_i v hv;exact absurd hv (hx v)
     .rfl
    repeat' (first|apply qq|apply qh|apply qj|apply ql|apply qi|(apply zg;exact rfl;exact rfl)|(apply qx;(iterate 4 exact rfl))|(apply qaa;exact cRa)|(apply qk;exact rfl;apply pk_t;exact cRa)|(apply qe;exact rfl;apply cd_f;exact cRa)|(apply zo;exact rfl;exact rfl;exact q8 Om Om)|(apply qbg;exact rfl;exact rfl)|apply qz)
    refine⟨k+1,⟨Om,Om,λj h1 h2=>?_,qb7 ⟨rfl,rfl,rfl,trivial⟩ rfl⟩,Om⟩;by_cases hjk:j=k
    .subst hjk;exact tq
    .exact gm j h1 Om
  .have pb:¬([32]++qc3 (k:Int))++[32]<+:l:=by rw[hm];exact hp
   have tq:tryB (k:Int) l=none:=by unfold tryB;rw[if_neg hp]
   repeat' (first|apply qq|apply q6|apply qh|apply qj|apply ql|apply qi|(apply zg;exact rfl;exact rfl)|(apply jo;(iterate 3 exact rfl))|(apply qe;exact rfl;apply vo;exact cAo)|(apply jy;exact rfl;exact rfl;exact cOs)|apply qz|(apply qm;exact Tryz.call145;exact qya _ _)|(apply qm;exact Tryz.call219;exact zby _ _ _ pb))
   refine qgm Tryz.call111 ((qqh l _ Om).mono ?_);rintro _ _ ⟨rfl,n,x,rfl,hx⟩;rcases x with _|⟨t',y⟩
   all_goals
    repeat' (first|apply qq|apply qh|apply qj|apply ql|apply qi|(apply zg;exact rfl;exact rfl)|(apply qx;(iterate 4 exact rfl))|(apply xq;exact cRa)|(apply qk;exact rfl;apply pk_f;exact cRa)|(apply qe;exact rfl;apply cd_f;exact cRa)|(apply zo;exact rfl;exact rfl;exact q8 Om Om)|apply qz)
    refine⟨k+1,⟨Om,Om,λj h1 h2=>?_,qb7 ⟨rfl,rfl,rfl,trivial⟩ rfl⟩,Om⟩;by_cases hjk:j=k
    .subst hjk;exact tq
    .exact gm j h1 Om
def recsF(its:List zh):List (List Fld):=(its.filter λx=>decide (x.kind=3)).map zh.fields
@[reducible] def zkz (ls : List (List Fld)) : AV := .sl 1 (ls.map jl) none
theorem zda(ls:List (List Fld)):Pure (zkz ls):=qaz λx hx=>by
 obtain⟨f,_,rfl⟩:=Qg.1 hx;intro y hy;simp only[AV.cells,Qe,Qk,or_false]at hy;subst hy;exact qa1 _
theorem q8p(l:List zh)(x:zh)(h:x.kind=3):recsF (l++[x])=recsF l++[x.fields]:=by simp[recsF,h]
theorem q8q(l:List zh)(x:zh)(h:¬x.kind=3):recsF (l++[x])=recsF l:=by simp[recsF,h]
theorem zna{b t1:Nat}{st st':List AObj}{sz:Nat}{T:TypeId}{xs:List AV}{c c0:AV}{sz0:Nat}{xs0:List AV}(hf:Fr st st' t1)(cr:c0=.sl sz0 xs0 (some t1)∨st.length<=t1)(h0:∀t,c0≠.sl sz0 xs0 (some t))(h:TipO b st sz T xs c):TipO b st' sz T xs c:=
 zay (λt m sz T ht=>hf.same t (λe=>by
  subst e;rcases cr with cr|cr
  .exact h0 _ cr
  .have:=lt_of_getElem? ht;omega) (lt_of_getElem? ht)) h
theorem zkq{b t1:Nat}{st st':List AObj}{sz:Nat}{T:TypeId}{xs:List AV}{c:AV}{sz0:Nat}{xs0:List AV}{o v f l k:Nat}(hf:Fr st st' t1)(cr:AV.os o v f l k=.sl sz0 xs0 (some t1)∨st.length<=t1)(h:TipO b st sz T xs c):TipO b st' sz T xs c:=
 zna hf cr Sx h
set_option maxHeartbeats 2000000 in
theorem zgx(its:List zh)(st:List AObj)(hl:its.length<1000000)(hf:∀x∈its,x.fields.length<1000000):qr E 223 [vr its] st λr st'=>r=zkz (recsF its)∧st'=st:=by
 refine q5 (zda _) (qs Tryz.func223 rfl (Qc rfl) ?_);have o0:(its.map kq).length=its.length:=Sx
 rw[Zd];repeat' (first|apply qq|apply q6|apply qh|apply qj|apply ql|apply qi|(apply jp;(iterate 4 exact rfl)))
 refine qck its (λpre s=>∃c S,OutI st S∧TipO st.length S 1 78 ((recsF pre).map jl) c∧StA [(3,c),(6,vr its),(7,Iv its.length),(8,Iv pre.length)] S [] s) ⟨_,st,⟨λ_ _=>rfl,Qp _⟩,q7d ..,z7 ⟨rfl,rfl,congrArg (λn:Nat=>Iv (n:Int)) o0,rfl,trivial⟩⟩ ?_ ?_
 .rintro _ ⟨c,S,hO,hT,t,rfl⟩
  repeat' (first|apply qq|apply qh|apply qj|apply ql|apply qi|(apply qv;(iterate 3 exact rfl))|(apply qe;exact rfl;apply v8;exact cAo)|apply jd|apply qw)
  exact qo rfl (x8 (q7 rfl) (qpi hT)) ⟨rfl,hO.ext⟩
 .rintro pre x rest _ hr ⟨c,S,hO,hT,t,rfl⟩
  have d5:its.length=pre.length+(rest.length+1):=by rw[hr];simp
  have d9:(its.map kq)[pre.length]?=some (kq x):=by rw[hr];simp
  have hxf:=hf x (by rw[hr];simp);have fj:(recsF pre).length<=pre.length:=by unfold recsF;rw[List.length_map];exact List.length_filter_le _ _
  have hSl:=hO.len;have hO1:OutI st ((S++[AObj.cells 0 98 [Iv 0,Sv [],zn]]).set S.length (.cells 0 98 (kq x).cells)):=hO.pre.set hSl;have hT1:TipO st.length ((S++[AObj.cells 0 98 [Iv 0,Sv [],zn]]).set S.length (.cells 0 98 (kq x).cells)) 1 78 ((recsF pre).map jl) c:=q11 (qvc hT) (qba yc);have ft:((S++[AObj.cells 0 98 [Iv 0,Sv [],zn]]).set S.length (.cells 0 98 (kq x).cells))[S.length]?=some (.cells 0 98 (kq x).cells):=kh yc;by_cases h3:x.kind=3
  .skip
   repeat' (first|(apply qdx (st:=(S++[AObj.cells 0 98 [Iv 0,Sv [],zn]]).set S.length (.cells 0 98 (kq x).cells));(iterate 6 exact rfl))|(apply zdy 19 rfl (qpi g1);apply we;(iterate 9 exact rfl))|apply qq|apply q6|apply qh|apply qj|apply ql|apply qi|(apply qv;(iterate 3 exact rfl))|(apply qe;exact rfl;apply vo;exact cAo)|(apply zo;exact rfl;exact rfl;exact q8 Om Om)|(apply zl;(iterate 3 exact rfl))|(apply jq;(iterate 3 exact rfl))|apply qz|(apply vb;exact rfl;exact ft;exact rfl;exact rfl)|(apply vb;exact rfl;exact qc7 ft;exact rfl;exact rfl)|(apply qmw (st:=S);exact rfl;exact rfl)|(apply qai;exact rfl;exact rfl;(focus first|assumption|(repeat' (first|assumption|exact yc|exact j9 rfl|apply kh|apply j8|omega|apply qc7)));(iterate 6 exact rfl))|(apply kp (n:=pre.length);(iterate 5 exact rfl);exact d9)|(apply qkx (b:=st.length) (xs:=[]) (ys:=x.fields.map fldA) (bytes:=32);(iterate 5 exact rfl);exact⟨⟨_,_,rfl,rfl,rfl,rfl,rfl⟩⟩;exact zaz _ _ _ _ _ _ _;(exact Zp hO1.len qie);(first|exact rfl|exact qdw λ_=>rfl);((simp[maxLen];omega));((simp;omega));intro c1 S1 t1 g1 g2 g3 g4)|(apply qkx (b:=st.length) (xs:=(recsF pre).map jl) (ys:=[jl x.fields]) (bytes:=24);(iterate 5 exact rfl);exact⟨⟨_,_,rfl,rfl,rfl,rfl,rfl⟩⟩;exact zkq g2 g4 (qvc hT1);(exact(hO1.pre.fr g2 g3).len);(first|exact rfl|exact qdw λ_=>rfl);((simp[maxLen];omega));((simp;omega));intro c2 S2 t2 k1 k2 k3 k4))
   exact⟨c2,S2,(hO1.pre.fr g2 g3).fr k2 k3,by rw[q8p _ _ h3,zja];exact k1,z7 ⟨rfl,rfl,rfl,qid pre x,trivial⟩⟩
  .skip
   repeat' (first|apply qq|apply q6|apply qh|apply qj|apply ql|(apply qv;(iterate 3 exact rfl))|(apply qe;exact rfl;apply vo;exact cAo)|(apply qe;exact rfl;apply v8;exact cAo)|(apply zo;exact rfl;exact rfl;exact q8 Om Om)|(apply zl;(iterate 3 exact rfl))|(apply jq;(iterate 3 exact rfl))|apply qz|(apply vb;exact rfl;exact ft;exact rfl;exact rfl)|(apply qmw (st:=S);exact rfl;exact rfl)|(apply qai;exact rfl;exact rfl;(focus first|assumption|(repeat' (first|assumption|exact yc|exact j9 rfl|apply kh|apply j8|omega|apply qc7)));(iterate 6 exact rfl))|(apply kp (n:=pre.length);(iterate 5 exact rfl);exact d9))
   exact⟨c,_,hO1,by rw[q8q _ _ h3];exact hT1,z7 ⟨rfl,rfl,rfl,qid pre x,trivial⟩⟩
end Go.Proofs.YtihlchbgjdkmpaaGreatDoor
namespace Go.Pl
open Go Go.Proofs Go.Proofs.YtihlchbgjdkmpaaGreatDoor
def GF(fs:List Fld):Prop:=fs.length<=40∧∀f∈fs,ki f
structure PI (p:PSt):Prop where
 items:∀x∈p.items,GF x.fields∧(x.kind=3↔x.fields≠[])
 fields:GF p.fields
 full:p.lines≠[]->p.full=false->p.fields.length<40
theorem qjc{ls:List qc}(h:(zv ls).2=0):ki (zv ls).1:=by
 unfold zv at h⊢;split at h
 .split at h
  .simp at h
  .rename_i h1 h2
   rw[if_pos h1,if_neg h2];exact⟨(qmh.1 h1.2.1).2.2,Nat.le_of_not_lt h2⟩
 .simp at h
theorem pi0:PI p0:=⟨by simp[p0],⟨by simp[p0],by simp[p0]⟩,by simp[p0]⟩
theorem PI.flush{p:PSt}(h:PI p):PI (ka p).2:=by
 unfold ka;split
 .exact h
 .rename_i hl
  split
  .exact h
  .rename_i hu
   split
   .exact h
   .rename_i hf
    have d8:=h.full hl (by simpa using hf);refine⟨h.items,⟨So,λf hm=>?_⟩,Sx⟩;rcases Qj.1 hm with hm|hm
    .exact h.fields.2 f hm
    .simp at hm;subst hm;exact qjc (by simpa using hu)
theorem PI.close{p:PSt}(h:PI p):PI (yy p):=by
 unfold yy;split
 .exact⟨h.items,⟨Sx,Sx⟩,λh1 h2=>by simp⟩
 .refine⟨λx hx=>?_,⟨Sx,Sx⟩,λh1 h2=>by simp⟩
  rcases Qj.1 hx with hx|hx
  .exact h.items x hx
  .simp at hx
   subst hx;refine⟨h.fields,?_⟩;simp only;split
   .rename_i h0;simp[h0]
   .rename_i h0;simp[h0]
theorem PI.end'{p:PSt}(h:PI p):PI (endP p).2:=by
 unfold endP;split
 .exact h
 .exact h.flush.close
theorem PI.lines'{p:PSt}(h:PI p)(hl:p.lines≠[])(text:qc):PI {p with lines:=p.lines++[text]}:=⟨h.items,h.fields,λ_ hf=>h.full hl hf⟩
theorem PI.begin'{p:PSt}(h:PI p)(no:Int)(text:qc):PI (vg p no text):=by
 refine⟨h.items,h.fields,λ_ hf=>?_⟩;have:=h.fields.1;simp only[vg,decide_eq_false_iff_not,not_or]at hf⊢;omega
theorem PI.ahead{p:PSt}(h:PI p)(no:Int)(text:qc)(ended:Bool)(kind:Int):PI (j6 p no text ended kind).2:=by
 unfold j6;split
 .split
  .exact h
  .rename_i hl
   split
   .exact h.lines' hl text
   .exact(h.lines' hl text).flush
 .split
  .exact h.end'
  .exact h.flush
theorem PI.take{p:PSt}(h:PI p)(no:Int)(text:qc)(ended:Bool):PI (xi p no text ended).2:=by
 have ha:=h.ahead no text ended (qy text);unfold xi;split
 .exact h
 .split
  .exact h
  .split
   .refine⟨λx hx=>?_,ha.fields,ha.full⟩
    rcases Qj.1 hx with hx|hx
    .exact ha.items x hx
    .simp at hx;subst hx;exact⟨⟨Sx,Sx⟩,Sx⟩
   .split
    .have hb:=ha.begin' no text
     exact⟨hb.items,hb.fields,hb.full⟩
    .exact⟨ha.items,ha.fields,ha.full⟩
theorem PI.run:∀(ls:List (qc×Bool))(k:Nat)(p:PSt),PI p->PI (runL k ls p).2
 | [],k,p,h=>h.end'
 |(t,e)::r,k,p,h=>by
  unfold runL;split
  .exact h
  .exact PI.run r (k+1) _ (h.take k t e)
theorem qm9(text:qc):∀x∈(ji text).2,GF x.fields∧(x.kind=3↔x.fields≠[]):=by
 unfold ji;split
 .simp
 .exact(PI.run _ 0 _ pi0).items
theorem q31(p:PSt):(yy p).items.length<=p.items.length+1:=by
 unfold yy;split <;>simp
theorem qk7(p:PSt):(ka p).2.items=p.items:=by
 unfold ka;split
 .rfl
 .split
  .rfl
  .split <;>rfl
theorem qwl(p:PSt):(endP p).2.items.length<=p.items.length+1:=by
 unfold endP;split
 .simp
 .have:=q31 (ka p).2
  rw[qk7]at this;exact this
theorem q28(p:PSt)(no:Int)(text:qc)(ended:Bool)(kind:Int):(j6 p no text ended kind).2.items.length<=p.items.length+1:=by
 unfold j6;split
 .split
  .simp
  .split
   .simp
   .rw[qk7];simp
 .split
  .exact qwl p
  .rw[qk7];simp
theorem q88(p:PSt)(no:Int)(text:qc)(ended:Bool):(xi p no text ended).2.items.length<=p.items.length+2:=by
 have ha:=q28 p no text ended (qy text);unfold xi;split
 .simp
 .split
  .simp
  .split
   .simp;omega
   .split
    .simp[vg];omega
    .simp;omega
theorem qkm:∀(ls:List (qc×Bool))(k:Nat)(p:PSt),(runL k ls p).2.items.length<=p.items.length+2*ls.length+1
 | [],k,p=>by have:=qwl p;simp[runL];omega
 |(t,e)::r,k,p=>by
  unfold runL;split
  .simp;omega
  .have h1:=qkm r (k+1) (xi p k t e).2
   have h2:=q88 p k t e;simp only[Qd];omega
theorem zfy(text:qc):(ji text).2.length<=2*text.length+1:=by
 unfold ji;split
 .simp
 .have h1:=qkm (zp text) 0 p0
  have h2:=(qgy _ text (Qp _)).2;have h3:p0.items.length=0:=rfl;simp only;omega
theorem zb1(by' l:qc):(v6 by' l).1.length<=l.length:=by
 unfold v6;split
 .have h:=(qgy _ l (Qp _)).1
  have key:∀(ls:List (qc×Bool)),(ls.flatMap λx=>x.1.drop by'.length++x6 x.2).length<=lsum ls:=by
   intro ls
   induction ls with
   |nil=>simp[lsum]
   |cons x r ih=>
    simp only[lsum,Qh,Qf,Qq,List.sum_cons,Zl]at ih⊢;omega
  have:=key (zp l);simp only;omega
 .simp
end Go.Pl
namespace Go.Proofs.YtihlchbgjdkmpaaGreatDoor
open Go Go.Av Go.RowKit Go.Proofs Go.Pl
theorem qpj(text:qc)(st:List AObj)(hl:text.length<=60000)(h:(ji text).1=none):qr E 64 [Sv text] st λr st'=>r=.tu [vr (ji text).2,.v .nilIface]∧st'=st:=by
 have:=qu4 text st hl;unfold qey at this;rw[h]at this;exact this
theorem q84(text:qc)(st:List AObj)(a n:Int)(hl:text.length<=60000)(h:(ji text).1=some (a,n)):qr E 64 [Sv text] st λr st'=>r=.tu [vr (ji text).2,.ifc 115 (.pp [Iv a,.ifc 37 (Iv n)])]∧st'=st:=by
 have:=qu4 text st hl;unfold qey at this;rw[h]at this;exact this
def qer(text:qc):List Fld×Bool:=
 if(v6 [32,32] text).2=false∨(ji (v6 [32,32] text).1).1≠none then([],false)
 else match recsF (ji (v6 [32,32] text).1).2 with
  | []=>([],decide ((v6 [32,32] text).1=[]))
  |f::_=>(f,decide ((ji (v6 [32,32] text).1).2.length=1))
theorem zpe{a b:List Fld}{c d:Bool}(h1:a=b)(h2:c=d):AV.tu [jl a,Bv c]=AV.tu [jl b,Bv d]:=by rw[h1,h2]
theorem zc0{its:List zh}(h:∀x∈its,GF x.fields∧(x.kind=3↔x.fields≠[])):∀fs∈recsF its,GF fs∧fs≠[]:=λfs hfs=>by
 obtain⟨x,hx,rfl⟩:=Qg.1 hfs;obtain⟨hx1,tx⟩:=List.mem_filter.1 hx;have:=h x hx1;exact⟨this.1,this.2.1 (by simpa using tx)⟩
set_option maxHeartbeats 2000000 in
theorem zin(text:qc)(st:List AObj)(hl:text.length<=60000):qr E 168 [Sv text] st λr st'=>r=.tu [jl (qer text).1,Bv (qer text).2]∧st'=st:=by
 refine q5 (kc (qa1 _) (qt _)) (qs Tryz.func168 rfl (Qc rfl) ?_);have hdl:=zb1 [32,32] text;have fj:=zfy (v6 [32,32] text).1;have pj:=qm9 (v6 [32,32] text).1;unfold qer;obtain⟨d,hd⟩:∃d,d=v6 [32,32] text:=⟨_,rfl⟩;have hdc:∀st,qr E 205 [Sv text,Sv [32,32]] st λr st'=>r=.tu [Sv d.1,Bv d.2]∧st'=st:=λst=>by rw[hd];exact q37 text [32,32] st Om
 rw[<-hd]at hdl fj pj⊢;obtain⟨b,ok⟩:=d;simp only at hdl fj pj hdc⊢
 cases hp:(ji b).1 with
 |some e=>
  obtain⟨a,n⟩:=e;rw[if_pos (.inr Sx)]
  cases ok
  all_goals
   repeat' (first|apply qq|apply qh|apply qj|apply ql|apply qi|(apply zg;exact rfl;exact rfl)|(apply ja;exact rfl)|(apply qx;(iterate 4 exact rfl))|(apply qaj;exact cRa)|(apply qbp;exact cRa)|(apply qk;exact rfl;apply qi4;exact cRa)|(apply qk;exact rfl;apply qfi;exact cRa)|(apply qe;exact rfl;apply cd_t;exact cRa)|(apply xj;exact rfl;exact rfl)|apply qw|(apply qm;exact Tryz.call205;exact hdc _)|(apply qm;exact Tryz.call64;exact q84 _ _ _ _ Om hp))
   exact qo rfl (x8 (kw rfl) (qgl (qh3 2) (qc1 (Bv false)))) ⟨rfl,_,rfl⟩
 |none=>
  cases ok
  .rw[if_pos (.inl rfl)]
   repeat' (first|apply qq|apply qh|apply qj|apply ql|apply qi|(apply zg;exact rfl;exact rfl)|(apply ja;exact rfl)|(apply qx;(iterate 4 exact rfl))|(apply qbp;exact cRa)|(apply qk;exact rfl;apply qi4;exact cRa)|(apply qe;exact rfl;apply cd_t;exact cRa)|apply qw|(apply qm;exact Tryz.call205;exact hdc _)|(apply qm;exact Tryz.call64;exact qpj _ _ Om hp))
   exact qo rfl (x8 (kw rfl) (qgl (qh3 2) (qc1 (Bv false)))) ⟨rfl,_,rfl⟩
  .rw[if_neg Sx]
   have hsc:=λst=>zgx (ji b).2 st Om (λx hx=>by have:=(pj x hx).1.1;omega);have o0:((ji b).2.map kq).length=(ji b).2.length:=Sx
   cases hr:recsF (ji b).2 with
   |nil=>
    rw[hr]at hsc;repeat' (first|apply qq|apply qh|apply qj|apply ql|apply qi|(apply zg;exact rfl;exact rfl)|(apply qv;(iterate 3 exact rfl))|(apply jo;(iterate 3 exact rfl))|(apply ja;exact rfl)|(apply qx;(iterate 4 exact rfl))|(apply qaj;exact cRa)|(apply qk;exact rfl;apply qfi;exact cRa)|(apply qe;exact rfl;apply cd_t;exact cRa)|(apply qe;exact rfl;apply cd_f;exact cRa)|(apply jp;(iterate 4 exact rfl))|(apply wd;exact rfl;exact rfl)|apply qz|apply qw|(apply qm;exact Tryz.call205;exact hdc _)|(apply qm;exact Tryz.call64;exact qpj _ _ Om hp)|(apply qm;exact Tryz.call223;exact hsc _))
    exact qo rfl (x8 (kw rfl) (qgl (qh3 2) (qc1 (Bv (decide (b=[])))))) ⟨rfl,_,rfl⟩
   |cons f r=>
    rw[hr]at hsc;have dj:((f::r).map jl).length=r.length+1:=Sx
    repeat' (first|apply qq|apply qh|apply qj|apply ql|apply qi|(apply zg;exact rfl;exact rfl)|(apply qv;(iterate 3 exact rfl))|(apply ja;exact rfl)|(apply qx;(iterate 4 exact rfl))|(apply qaj;exact cRa)|(apply qk;exact rfl;apply qfi;exact cRa)|(apply qe;exact rfl;apply v8;exact cAo)|(apply qe;exact rfl;apply cd_f;exact cRa)|(apply jp;(iterate 4 exact rfl))|(apply wd;exact rfl;exact rfl)|(apply jq;(iterate 3 exact rfl))|apply qz|apply qw|(apply qm;exact Tryz.call205;exact hdc _)|(apply qm;exact Tryz.call64;exact qpj _ _ Om hp)|(apply qm;exact Tryz.call223;exact hsc _)|(apply kp (n:=0);(iterate 6 exact rfl)))
    refine qo rfl (kw rfl) ⟨zpe rfl (decide_eq_decide.2 ?_),_,rfl⟩;rw[o0];omega
def y3(text:qc):List LnV->Nat->List qc
 | [],frm=>[text.drop frm]
 |l::r,frm=>if frm<l.at'∧¬ [32,32]<+:l.text then(text.take l.at').drop frm::y3 text r l.at' else y3 text r frm
def qf0(text:qc):List qc:=y3 text (lns text) 0
theorem ze3(l m:qc)(st:List AObj)(h:m<+:l):qr E 155 [Sv l,Sv m] st λr st'=>r=Bv true∧st'=st:=by
 have:=qfz l m st;rw[(yt l m).2 h]at this;exact this
theorem ze2(l m:qc)(st:List AObj)(h:¬m<+:l):qr E 155 [Sv l,Sv m] st λr st'=>r=Bv false∧st'=st:=by
 have:=qfz l m st
 have hf:Lib.hasPrefix l m=false:=by
  cases hb:Lib.hasPrefix l m with
  |false=>rfl
  |true=>exact absurd ((yt l m).1 hb) h
 rw[hf]at this;exact this
theorem zmq(text:qc)(st:List AObj)(hl:text.length<1000000):qr E 166 [Sv text] st λr st'=>r=Ss (qf0 text)∧st'=st:=by
 refine zj [.s text] (qnv _) Tryz.func166 rfl rfl (λ_=>rfl) rfl λS0=>?_;apply qf [];repeat' (first|apply Qa|(intro h;try exact cDd)|exact⟨Tryz.call113⟩|(refine Qb _ ⟨qpk _,?_⟩)|exact cSd|apply qd []|refine exr ?_|refine qg ?_)
 refine qig (X:=List qc×Nat) text 2 3 [0,1,2] (λ(out,frm)=>⟨[(1,.a (.pp [Sv text])),(3,.bx 0 0),(4,.bx 1 0),(7,.fn (.func 154) [] [.bx 2 0])],
   [(0,some (.cells 66 [.tp 3])),(1,some (.cells 3 [.i frm])),(2,some (.cells 9 [.s text])),(3,some (.tip 1 9 (out.map λx=>Sv x)))],4⟩) _
  (λk rest(out,frm)=>∃a,a+rest.length=text.length∧frm<=a∧out.length<=k∧k<=a∧out++y3 text (vz k a rest) frm=qf0 text) (λ_ _=>False) ([],0) ⟨0,Sx,Om,Sx,Om,rfl⟩ ?_ id Om (λ_=>rfl) rfl (λ_=>rfl) (λ_=>rfl) rfl ?_ ?_ (λ_ _ h=>h.elim)
 .skip
  repeat' (first|apply Qa|(intro h;try exact cDd)|exact cSd|apply qd []|refine exr ?_|refine qg ?_)
 .rintro k rest ⟨out,frm⟩ ⟨a,ha,hfa,hok,hka,a8⟩ b9 d7
  have np:=qbm (k:=k) (a:=a) b9;have hul:=vk 10 rest;have hr0:0<rest.length:=Qz.2 b9;have fj:=vl 10 rest
  have lq:a+(upto 10 rest).length+1+(past 10 rest).length=text.length∨past 10 rest=[]:=by
   by_cases g9:10∈rest
   .have:=qfs g9
    exact .inl Om
   .right
    unfold past;rw[xx g9];simp
  have hpast:∀f,y3 text (vz (k+1) (a+(upto 10 rest).length+1) (past 10 rest)) f=y3 text (vz (k+1) (text.length-(past 10 rest).length) (past 10 rest)) f:=λf=>by
   rcases lq with h|h
   .have:a+(upto 10 rest).length+1=text.length-(past 10 rest).length:=by omega
    rw[this]
   .rw[h,qbf,qbf]
  have e:(text.length:Int)-rest.length=(a:Int):=Om
  rw[np,y3]at a8;unfold qov;rw[e];by_cases hp:[32,32]<+:upto 10 rest
  .have hhp:=λst=>ze3 (upto 10 rest) [32,32] st hp
   rw[if_neg (λh=>h.2 hp),hpast]at a8;refine RA.mk λS F ρ rd=>?_;apply qf [];repeat' (first|apply Qa|(intro h;try exact cDd)|(refine RB.mk λS rd=>?_;apply qf [])|exact⟨Tryz.call155⟩|refine cpe hhp ?_|(refine Qb (out,frm) ⟨⟨text.length-(past 10 rest).length,Om,Om,Om,Om,a8⟩,?_⟩)|exact cSd|apply qd []|refine exr ?_|refine qg ?_)
  .have hhp:=λst=>ze2 (upto 10 rest) [32,32] st hp
   by_cases hfr:frm<a
   .rw[if_pos ⟨hfr,hp⟩,hpast]at a8
    refine RA.mk λS F ρ rd=>?_;apply qf [];repeat' (first|apply Qa|(intro h;try exact cDd)|(refine RB.mk λS rd=>?_;apply qf [25])|exact⟨Tryz.call155⟩|refine cpe hhp ?_|(refine Qb (out++[(text.take a).drop frm],a) ⟨⟨text.length-(past 10 rest).length,Om,Om,So,Om,by rw[<-a8];simp⟩,?_⟩)|exact cSd|apply qd [25]|refine exr ?_|refine qg ?_)
    all_goals first|(simp[SV.evs];omega)|(simp[SV.evs,SV.ev];done)
   .rw[if_neg (λh=>hfr h.1),hpast]at a8
    refine RA.mk λS F ρ rd=>?_;apply qf [];repeat' (first|apply Qa|(intro h;try exact cDd)|(refine RB.mk λS rd=>?_;apply qf [])|exact⟨Tryz.call155⟩|refine cpe hhp ?_|(refine Qb (out,frm) ⟨⟨text.length-(past 10 rest).length,Om,Om,Om,Om,a8⟩,?_⟩)|exact cSd|apply qd []|refine exr ?_|refine qg ?_)
 .rintro k ⟨out,frm⟩ ⟨a,ha,hfa,hok,hka,a8⟩
  rw[qbf,y3]at a8;repeat' (first|apply Qa|(intro h;try exact cDd)|exact cSd|apply qd []|refine exr ?_|refine qg ?_)
  rw[<-a8];simp
def decP:List qc->List qp->Option (List qp)
 | [],acc=>some acc
 |p::r,acc=>match begE (upto 10 p)with
  |none=>none
  |some (k,n)=>if(qer (past 10 p)).2=true∧acc.length≠40 then decP r (acc++[⟨k,n,(qer (past 10 p)).1⟩])else none
def decF(text:qc):Option (List qp):=if 50000<text.length then none else match decP (qf0 text) []with
 |none=>none
 |some b=>if eErr b=.no∧encF b=text then some b else none
def decA:Option (List qp)->AV
 |none=>.tu [zr [],.ifc 37 (Iv 2)]
 |some b=>.tu [zr b,.v .nilIface]
theorem zem(x:Option (List qp)):Pure (decA x):=by
 rcases x with _|b
 .exact kc (qc6 _) (qd4 (qt _))
 .exact kc (qc6 _) (qt _)
theorem qmo(text:qc):∀(ls:List LnV)(f:Nat),(∀p∈y3 text ls f,p.length<=text.length)∧(y3 text ls f).length<=ls.length+1
 | [],f=>by simp[y3]
 |l::r,f=>by
  unfold y3;split
  .obtain⟨h1,h2⟩:=qmo text r l.at'
   refine⟨λp hp=>?_,So⟩;rcases Qe.1 hp with rfl|hp
   .simp;omega
   .exact h1 p hp
  .obtain⟨h1,h2⟩:=qmo text r f
   exact⟨h1,So⟩
theorem qyn{l:qc}{k n:Int}(h:begE l=some (k,n)): -9223372036854775808<=n∧n<=9223372036854775807:=by
 have key:∀{j:Int}{n:Int},tryB j l=some n->-9223372036854775808<=n∧n<=9223372036854775807:=λ{j n}h=>by
  unfold tryB at h;split at h
  .split at h
   .rename_i v hv
    cases h
    exact Lib.atoiAll_bounds hv
   .simp at h
  .simp at h
 unfold begE at h;split at h
 .rename_i v hv;simp at h;rw[<-h.2];exact key hv
 .split at h
  .rename_i v hv;simp at h;rw[<-h.2];exact key hv
  .split at h
   .rename_i v hv;simp at h;rw[<-h.2];exact key hv
   .simp at h
theorem qtc(text:qc):GF (qer text).1:=by
 unfold qer;split
 .exact⟨Sx,Sx⟩
 .split
  .exact⟨Sx,Sx⟩
  .rename_i f r hr
   exact(zc0 (qm9 _) f (by rw[hr];simp)).1
theorem q4c{k n:Int}{fs:List Fld}(h1: -9223372036854775808<=n)(h2:n<=9223372036854775807)(hg:GF fs):EdB ⟨k,n,fs⟩:=
 ⟨λf hf=>by have:=(hg.2 f hf).1.2.1;omega,by have:=hg.1;simp only;omega,h1,h2⟩
set_option maxHeartbeats 4000000 in
theorem zh9(text:qc)(st:List AObj)(hl:text.length<1000000):qr E 118 [Sv text] st λr st'=>r=decA (decF text)∧st'=st:=by
 refine zj [.s text] (zem _) Tryz.func118 rfl rfl (λ_=>rfl) rfl λS0=>?_;by_cases u0:50000<text.length
 .have hd:decF text=none:=if_pos u0
  rw[hd];apply qf [];repeat' (first|apply Qa|(intro h;try exact cDd)|exact cSd|apply qd []|refine exr ?_|refine qg ?_)
 have m9:decF text=match decP (qf0 text) []with
  |none=>none
  |some b=>if eErr b=.no∧encF b=text then some b else none:=if_neg u0
 have fj:=(qmo text (lns text) 0).1;have hpn:=(qmo text (lns text) 0).2;have hln:=qdu _ text 0 0 (Qp _);have lv:y3 text (lns text) 0=qf0 text:=rfl;have d7:(lns text).length<=text.length:=hln;rw[lv]at fj hpn;have o0:((qf0 text).map λx=>Sv x).length=(qf0 text).length:=Sx
 have hpc:=λst=>zmq text st hl;generalize qf0 text=L at m9 fj hpn o0 hpc;apply qf [];repeat' (first|apply Qa|(intro h;try exact cDd)|exact⟨Tryz.call166⟩|refine cpe hpc ?_|exact cSd|apply qd []|refine exr ?_|refine qg ?_)
 refine zx (X:=Nat×List qp) (λ(k,acc)=>⟨[(0,.s text),(4,.tp 0),(21,.a (Ss L)),(22,.i L.length),(23,.i k)],[(0,some (.tip 3 81 (acc.map zz)))],1⟩)
  (λ(k,acc)=>k<=L.length∧acc.length<=k∧(∀x∈acc,EdB x)∧decP (L.drop k) acc=decP L []) (λx=>L.length-x.1) (0,[]) ⟨Om,Sx,Sx,rfl⟩ ?_ ?_
 .skip
  repeat' (first|apply Qa|(intro h;try exact cDd)|exact cSd|apply qd []|refine exr ?_|refine qg ?_)
  all_goals first|(simp;done)
 .rintro⟨j,acc⟩ ⟨hj,hal,hB,a8⟩
  have hma:(acc.map zz).length=acc.length:=Sx
  by_cases hc:j<L.length
  .obtain⟨p,hx⟩:∃p,L[j]?=some p:=⟨_,Qi hc⟩
   have hg:(L.map λx=>Sv x)[j]?=some (Sv p):=by simp[hx]
   have hd:L.drop j=p::L.drop (j+1):=by
    obtain⟨d8,e⟩:=Qn.1 hx;rw[Qo d8,e]
   have hpp:=fj p (Qv hx);have hul:=vk 10 p;have hpal:=vl 10 p;have hcu:=λst=>qk1 p 10 st Om;have hbc:=λst=>zli (upto 10 p) st Om;have hgf:=qtc (past 10 p);have cw:=λst=>zin (past 10 p) st Om;rw[hd,decP]at a8
   cases bd:begE (upto 10 p)with
   |none=>
    rw[bd]at a8 hbc;simp only at a8;rw[<-a8]at m9;simp only at m9;rw[m9];apply qf []
    repeat' (first|apply Qa|(intro h;try exact cDd)|(refine Qb (j) ⟨Om,_,hg,?_⟩)|exact⟨Tryz.call110⟩|refine cpe hcu ?_|exact⟨Tryz.call167⟩|refine cpe hbc ?_|exact⟨Tryz.call168⟩|refine cpe cw ?_|exact cSd|apply qd []|refine exr ?_|refine qg ?_)
   |some kn=>
    obtain⟨kd,n⟩:=kn;have cr:=qyn bd;rw[bd]at a8 hbc;simp only at a8;obtain⟨fs,hfs⟩:∃x,x=(qer (past 10 p)).1:=⟨_,rfl⟩;rw[<-hfs]at a8 cw hgf
    cases hok:(qer (past 10 p)).2 with
    |false=>
     rw[hok]at a8 cw;rw[if_neg Sx]at a8;rw[<-a8]at m9;simp only at m9;rw[m9];apply qf []
     repeat' (first|apply Qa|(intro h;try exact cDd)|(refine Qb (j) ⟨Om,_,hg,?_⟩)|exact⟨Tryz.call110⟩|refine cpe hcu ?_|exact⟨Tryz.call167⟩|refine cpe hbc ?_|exact⟨Tryz.call168⟩|refine cpe cw ?_|exact cSd|apply qd []|refine exr ?_|refine qg ?_)
    |true=>
     rw[hok]at a8 cw;by_cases h40:acc.length=40
     .rw[if_neg (by simp[h40])]at a8
      rw[<-a8]at m9;simp only at m9;rw[m9];apply qf [];repeat' (first|apply Qa|(intro h;try exact cDd)|(refine Qb (j) ⟨Om,_,hg,?_⟩)|exact⟨Tryz.call110⟩|refine cpe hcu ?_|exact⟨Tryz.call167⟩|refine cpe hbc ?_|exact⟨Tryz.call168⟩|refine cpe cw ?_|exact cSd|apply qd []|refine exr ?_|refine qg ?_)
     .rw[if_pos ⟨rfl,h40⟩]at a8
      have lz:∀x∈acc++[⟨kd,n,fs⟩],EdB x:=λx hx=>by
       rcases Qj.1 hx with hx|hx
       .exact hB x hx
       .obtain rfl:=Qx.1 hx
        exact q4c cr.1 cr.2 hgf
      apply qf [];repeat' (first|apply Qa|(intro h;try exact cDd)|(refine Qb (j) ⟨Om,_,hg,?_⟩)|exact⟨Tryz.call110⟩|refine cpe hcu ?_|exact⟨Tryz.call167⟩|refine cpe hbc ?_|exact⟨Tryz.call168⟩|refine cpe cw ?_|(refine Qb (j+1,acc++[⟨kd,n,fs⟩]) ⟨⟨Om,So,lz,a8⟩,by simp only;omega,?_⟩)|exact cSd|apply qd []|refine exr ?_|refine qg ?_)
      all_goals (simp;done)
  .have hd:L.drop j=[]:=Qr Om
   rw[hd,decP]at a8;rw[<-a8]at m9;simp only at m9
   cases he:eErr acc with
   |no=>
    have bg:=λst=>q0p acc st hB he;by_cases ht:encF acc=text
    .rw[if_pos ⟨he,ht⟩]at m9
     rw[m9];rw[ht]at bg;apply qf [];repeat' (first|apply Qa|(intro h;try exact cDd)|exact⟨Tryz.call60⟩|refine cpe bg ?_|exact cSd|apply qd []|refine exr ?_|refine qg ?_)
    .rw[if_neg λh=>ht h.2]at m9
     rw[m9];apply qf [];repeat' (first|apply Qa|(intro h;try exact cDd)|exact⟨Tryz.call60⟩|refine cpe bg ?_|exact cSd|apply qd []|refine exr ?_|refine qg ?_)
     all_goals exact absurd ht (by assumption)
   |num n=>
    have bg:=λst=>ql7 acc st (.num n) hB Om he λh=>by
     have:=(qep acc).1 (by rw[he];exact h);rw[he]at this;simp at this
    rw[if_neg λh=>by rw[he]at h;simp at h]at m9;rw[m9];apply qf []
    repeat' (first|apply Qa|(intro h;try exact cDd)|exact⟨Tryz.call60⟩|refine cpe bg ?_|exact cSd|apply qd []|refine exr ?_|refine qg ?_)
   |at' a n=>
    have bg:=λst=>ql7 acc st (.at' a n) hB Om he λh=>by
     have:=(qep acc).1 (by rw[he];exact h);rw[he]at this;simp at this
    rw[if_neg λh=>by rw[he]at h;simp at h]at m9;rw[m9];apply qf [];repeat' (first|apply Qa|(intro h;try exact cDd)|exact⟨Tryz.call60⟩|refine cpe bg ?_|exact cSd|apply qd []|refine exr ?_|refine qg ?_)
theorem qyv:qvg E:=λ_ _ _ h hb hB _ h2=>h _ (hb.trans (h2.mono hB))
theorem qbw{α:Type}[DecidableEq α]{a b:List α}{k:Nat}{d:α}(hl:a.length=b.length)(hk:k<a.length)(h:a.take k=b.take k)(h2:a.getD k d=b.getD k d):a.take (k+1)=b.take (k+1):=by
 rw[Qw hk,Qw Om,h];congr 2
 simpa[Ze,hk,show k<b.length by omega]using h2
end Go.Proofs.YtihlchbgjdkmpaaGreatDoor
namespace Go.Pl
open Go Go.Proofs Go.Proofs.YtihlchbgjdkmpaaGreatDoor
theorem ye(s:qc)(r:List qc):zk (s::r)=s++10::zk r:=by simp[zk]
theorem qdl:∀(ls:List qc),(∀s∈ls,10∉s)->zp (zk ls)=ls.map λs=>(s,true)
 | [],_=>by simp[zk,vu]
 |s::r,h=>by
  have hs:=h s Sx;rw[ye,wh Sx,v7 _ hs,xv _ hs,qdl r λx hx=>h x (by simp[hx])];simp
theorem q8i{f:Fld}(h:ki f):∀s∈zq f,10∉s:=λs hs=>by
 unfold zq at hs;rcases Qe.1 hs with rfl|hs
 .have h1:=qfh f.2 _ (qul f.2)
  have h2:=h.1.2.2.2.2.2;unfold kl;split <;>simp_all
 .obtain⟨x,hx,rfl⟩:=Qg.1 hs
  have h1:=qfh f.2 x (Zj hx);have:=qx3 h1;simp[this]
theorem qq5{f:Fld}(h:ki f):∃hd mr,zq f=hd::mr∧qy hd=4∧∀s∈mr,qy s=3:=by
 refine⟨_,_,rfl,q0z h.1 (qfh f.2 _ (qul f.2)),λs hs=>?_⟩;obtain⟨x,hx,rfl⟩:=Qg.1 hs;exact q00 x (qfh f.2 x (Zj hx))
theorem zg5{p:PSt}{k:Int}{t:qc}(ht:qy t=3)(hl:p.lines≠[]):xi p k t true=(none,{p with lines:=p.lines++[t],block:=p.block++[t]}):=by
 have ha:j6 p k t true (qy t)=(none,{p with lines:=p.lines++[t]}):=by
  unfold j6;rw[if_pos ht,if_neg hl,if_pos rfl]
 unfold xi;rw[ha,ht];simp
theorem q1z{p q:PSt}{k:Int}{t:qc}(ht:qy t=4)(hf:ka p=(none,q)):xi p k t true=(none,{vg q k t with block:=q.block++[t]}):=by
 have ha:j6 p k t true (qy t)=(none,q):=by
  unfold j6;rw[if_neg Om,if_neg Om];exact hf
 unfold xi;rw[ha,ht];simp
theorem qu2:∀(m:List qc)(k:Nat)(p:PSt)(ls:List (qc×Bool)),(∀s∈m,qy s=3)->p.lines≠[]->
  runL k (m.map (λs=>(s,true))++ls) p=runL (k+m.length) ls {p with lines:=p.lines++m,block:=p.block++m}
 | [],k,p,ls,_,_=>by simp
 |s::m,k,p,ls,h,hl=>by
  have hs:=h s Sx;rw[Qq,Ql,runL,zg5 hs hl];simp only;rw[qu2 m (k+1) _ ls (λx hx=>h x (by simp[hx])) Sx];simp only[Qu,Ql,Qt,Qd];congr 1;omega
theorem qwq{g:Fld}(hg:ki g)(frm:Int)(its:List zh)(blk:List qc)(done:List Fld)(rc:Int):ka ⟨zq g,frm,false,its,blk,done,rc⟩=(none,⟨[],frm,false,its,blk,done++[g],rc⟩):=by
 have hu:=qp0 hg;unfold ka;rw[if_neg (by simp[zq]),hu];simp
theorem q6z:∀(r:List Fld)(done:List Fld)(g:Fld)(k:Nat)(frm:Int)(blk:List qc),ki g->(∀f∈r,ki f)->done.length+1+r.length<=40->blk≠[]->
  (runL k ((r.flatMap zq).map λs=>(s,true)) ⟨zq g,frm,false,[],blk,done,0⟩).1=none∧(runL k ((r.flatMap zq).map λs=>(s,true)) ⟨zq g,frm,false,[],blk,done,0⟩).2.items=[⟨3,zk (blk++r.flatMap zq),done++g::r⟩]
 | [],done,g,k,frm,blk,hg,_,_,hb=>by
  have he:endP ⟨zq g,frm,false,[],blk,done,0⟩=(none,yy ⟨[],frm,false,[],blk,done++[g],0⟩):=by
   unfold endP;rw[qwq hg]
  simp only[Zm,Zq,runL,he,Zd];refine⟨trivial,?_⟩;unfold yy;rw[if_neg hb]
  simp
 |f::r,done,g,k,frm,blk,hg,hr,hl,hb=>by
  have hf:=hr f Sx;obtain⟨hd,mr,hlf,hk4,gk⟩:=qq5 hf;simp only[Qd]at hl
  have a8:runL k (((f::r).flatMap zq).map λs=>(s,true)) ⟨zq g,frm,false,[],blk,done,0⟩=runL (k+1+mr.length) ((r.flatMap zq).map λs=>(s,true)) ⟨zq f,k,false,[],blk++zq f,done++[g],0⟩:=by
   rw[Qh,Zf,hlf,Qq,Ql,runL,q1z hk4 (qwq hg frm [] blk done 0)];simp only;rw[qu2 mr (k+1) _ _ gk (by simp[vg])]
   have hfu:decide ((done++[g]).length=40∨((done++[g]).length=0∧(0:Int)=400))=false:=by
    simp;omega
   simp only[vg,hfu,Qu,Ql,Qt]
  rw[a8];have ih:=q6z r (done++[g]) f (k+1+mr.length) k (blk++zq f) hf (λx hx=>hr x (by simp[hx])) So (by simp[hb]);rw[ih.1,ih.2];simp[Qh]
theorem qkc(fs:List Fld):zy fs=zk (fs.flatMap zq):=by
 induction fs with
 |nil=>rfl
 |cons f r ih=>
  rw[Qh,qan,<-ih];simp[zy]
theorem qma{fs:List Fld}(h:∀f∈fs,ki f):∀s∈fs.flatMap zq,10∉s:=λs hs=>by
 obtain⟨f,hf,hs⟩:=Zc.1 hs;exact q8i (h f hf) s hs
theorem qxd{fs:List Fld}(hg:GF fs)(b9:fs≠[]):ji (zy fs)=(none,[⟨3,zy fs,fs⟩]):=by
 have hl:=qdl _ (qma hg.2);rw[<-qkc]at hl
 cases fs with
 |nil=>exact absurd rfl b9
 |cons f r=>
  have hf:=hg.2 f Sx;obtain⟨hd,mr,hlf,hk4,gk⟩:=qq5 hf;have d5:=hg.1;simp only[Qd]at d5
  have a8:runL 0 (((f::r).flatMap zq).map λs=>(s,true)) p0=runL (0+1+mr.length) ((r.flatMap zq).map λs=>(s,true)) ⟨zq f,(0:Nat),false,[],zq f,[],0⟩:=by
   have o7:ka p0=(none,p0):=rfl;rw[Qh,Zf,hlf,Qq,Ql,runL,q1z hk4 o7];simp only;rw[qu2 mr (0+1) _ _ gk (by simp[vg])];simp[vg,p0]
  have ih:=q6z r [] f (0+1+mr.length) (0:Nat) (zq f) hf (λx hx=>hg.2 x (by simp[hx])) So (by simp[zq]);unfold ji;rw[hl,a8,ih.1];simp only;rw[ih.2];rw[qkc,Qh,Qt]
theorem zfz:ji []=(none,[]):=by
 unfold ji;rw[vu];rfl
theorem qti{ls:List qc}(h:∀s∈ls,10∉s):qay [32,32] (zk ls)=zk (ls.map λs=>[32,32]++s):=by
 unfold qay indF;rw[qdl ls h];simp only[zk,Zn,x6,if_pos]
theorem q41{ls:List qc}(h:∀s∈ls,10∉s):∀s∈ls.map (λs=>[32,32]++s),10∉s:=λs hs=>by
 obtain⟨x,hx,rfl⟩:=Qg.1 hs;have:=h x hx;simp[this]
theorem q2d{ls:List qc}(h:∀s∈ls,10∉s):v6 [32,32] (qay [32,32] (zk ls))=(zk ls,true):=by
 rw[qti h];unfold v6;rw[qdl _ (q41 h),if_pos]
 .simp[zk,Zn,x6]
 .intro x hx
  obtain⟨s,hs,rfl⟩:=Qg.1 hx;obtain⟨y,_,rfl⟩:=Qg.1 hs;exact Qm _ _
theorem q2f{fs:List Fld}(hl:fs.length<=40)(hg:∀f∈fs,ki f):qer (qay [32,32] (zy fs))=(fs,true):=by
 have hd:v6 [32,32] (qay [32,32] (zy fs))=(zy fs,true):=by
  rw[qkc];exact q2d (qma hg)
 unfold qer;rw[hd];simp only;by_cases h0:fs=[]
 .subst h0
  have hp:ji (zy [])=(none,[]):=zfz;rw[hp];simp[recsF,zy]
 .rw[qxd ⟨hl,hg⟩ h0]
  simp[recsF]
theorem qww{j k:Int}{s:qc}(hj:j=1∨j=2∨j=3)(hk:k=1∨k=2∨k=3)(b9:j≠k):¬qab j<+:qab k++s:=by
 rintro⟨t,ht⟩;have h2:=congrArg (Zt 2) ht;rcases hj with rfl|rfl|rfl <;>rcases hk with rfl|rfl|rfl <;>first|exact absurd rfl b9|(revert h2;simp[qab])
theorem zd8{x:qp}(hk:x.kind=1∨x.kind=2∨x.kind=3)(h1: -9223372036854775808<=x.id)(h2:x.id<=9223372036854775807):begE (km x)=some (x.kind,x.id):=by
 have hl:km x=qab x.kind++Lib.itoa x.id:=by
  unfold km;rw[if_pos Om]
 have o6:tryB x.kind (km x)=some x.id:=by
  unfold tryB;rw[hl,if_pos (Qm _ _),Zh,qn9 h1 h2]
 have o9:∀j:Int,(j=1∨j=2∨j=3)->j≠x.kind->tryB j (km x)=none:=λj hj b9=>by
  unfold tryB;rw[hl,if_neg (qww hj hk b9)]
 unfold begE;rcases hk with h|h|h
 .rw[h]at o6 o9⊢
  rw[o6]
 .rw[h]at o6 o9⊢
  rw[o9 1 Sx (by decide),o6]
 .rw[h]at o6 o9⊢
  rw[o9 1 Sx (by decide),o9 2 Sx (by decide),o6]
def qca(x:qp):List qc:=(x.fields.flatMap zq).map λs=>[32,32]++s
theorem qm3(v:Int):∀c∈Lib.itoa v,c≠10∧c≠32:=λc hc=>by
 by_cases hv:v<0
 .rw[qgf hv]at hc
  rcases Qe.1 hc with rfl|hc
  .decide
  .have:=x2 _ _ (Qp _) c hc
   constructor <;>rintro rfl <;>simp at this
 .rw[qgg Om]at hc
  have:=x2 _ _ (Qp _) c hc;constructor <;>rintro rfl <;>simp at this
theorem qdt(x:qp):10∉km x:=by
 unfold km;split
 .rename_i hk
  have h1:=qm3 x.id;intro hc;rcases Qj.1 hc with hc|hc
  .have:x.kind=1∨x.kind=2∨x.kind=3:=by omega
   rcases this with h|h|h<;>rw[h]at hc<;>revert hc<;>decide
  .exact(h1 10 hc).1 rfl
 .simp
theorem qm7{x:qp}(hk:x.kind=1∨x.kind=2∨x.kind=3):¬ [32,32]<+:km x:=by
 unfold km;rw[if_pos Om];rintro⟨t,ht⟩;have h2:=congrArg (Zt 2) ht;rcases hk with h|h|h<;>rw[h]at h2<;>revert h2<;>simp[qab]
theorem qiw{x:qp}(hg:∀f∈x.fields,ki f):kj x=zk (km x::qca x):=by
 unfold kj qca;rw[ye,qkc,qti (qma hg)];simp
theorem qz4{x:qp}(hg:∀f∈x.fields,ki f):∀s∈qca x,10∉s:=q41 (qma hg)
theorem qfg(text:qc):∀(m:List qc)(k a f:Nat)(R:qc),(∀s∈m,10∉s∧[32,32]<+:s)->∃k',y3 text (vz k a (zk m++R)) f=y3 text (vz k' (a+(zk m).length) R) f
 | [],k,a,f,R,_=>⟨k,by simp[zk]⟩
 |s::m,k,a,f,R,h=>by
  obtain⟨g9,hp⟩:=h s Sx;have e:zk (s::m)++R=s++10::(zk m++R):=by rw[ye];simp
  obtain⟨k',ih⟩:=qfg text m (k+1) (a+s.length+1) f R λx hx=>h x (by simp[hx]);refine⟨k',?_⟩;rw[e,qbm Sx,v7 _ g9,xv _ g9,y3,if_neg (λh=>h.2 hp),ih,ye];congr 2;simp;omega
theorem qqk{x:qp}(hg:∀f∈x.fields,ki f):∀s∈qca x,10∉s∧[32,32]<+:s:=λs hs=>⟨qz4 hg s hs,by
 obtain⟨y,_,rfl⟩:=Qg.1 hs
 exact Qm _ _⟩
structure EncG (x:qp):Prop where
 kind:x.kind=1∨x.kind=2∨x.kind=3
 len:x.fields.length<=40
 good:∀f∈x.fields,ki f
 id1: -9223372036854775808<=x.id
 id2:x.id<=9223372036854775807
theorem qxe:∀(r:List qp)(D:qc)(x:qp)(k:Nat),EncG x->(∀y∈r,EncG y)->
  y3 (D++(kj x++encF r)) (vz k (D.length+((km x).length+1)) (zk (qca x)++encF r)) D.length=kj x::r.map kj
 | [],D,x,k,hx,_=>by
  obtain⟨k',h⟩:=qfg (D++(kj x++encF [])) (qca x) k (D.length+((km x).length+1)) D.length (encF []) (qqk hx.good);rw[h];have e:encF []=[]:=rfl;rw[e,qbf,y3]
  simp
 |y::r,D,x,k,hx,hr=>by
  have hy:=hr y Sx;obtain⟨k',h⟩:=qfg (D++(kj x++encF (y::r))) (qca x) k (D.length+((km x).length+1)) D.length (encF (y::r)) (qqk hx.good);rw[h]
  have e:encF (y::r)=km y++10::(zk (qca y)++encF r):=by
   have:encF (y::r)=kj y++encF r:=by simp[encF]
   rw[this,qiw hy.good,ye];simp
  have hlx:(kj x).length=(km x).length+1+(zk (qca x)).length:=by
   rw[qiw hx.good,ye];simp;omega
  have e2:encF (y::r)=kj y++encF r:=by simp[encF]
  have cz:D.length+((km x).length+1)+(zk (qca x)).length=(D++kj x).length:=by
   rw[Qf,hlx];omega
  rw[cz]
  have hc:vz k' (D++kj x).length (encF (y::r))=⟨k',(D++kj x).length,km y,true⟩::vz (k'+1) ((D++kj x).length+(km y).length+1) (zk (qca y)++encF r):=by
   rw[e,qbm Sx,v7 _ (qdt y),xv _ (qdt y)];simp
  have d8:D.length<(D++kj x).length:=by rw[Qf,hlx];omega
  rw[hc,y3,if_pos ⟨d8,qm7 hy.kind⟩];have ih:=qxe r (D++kj x) y (k'+1) hy λz hz=>hr z (by simp[hz]);have et:D++(kj x++encF (y::r))=(D++kj x)++(kj y++encF r):=by rw[e2];simp
  rw[et]
  have ed:((D++kj x++(kj y++encF r)).take (D++kj x).length).drop D.length=kj x:=by
   rw[List.take_left,Zh]
  rw[ed,Qq];simp only;rw[show(D++kj x).length+(km y).length+1=(D++kj x).length+((km y).length+1)by omega,ih]
theorem zf0{x:qp}{r:List qp}(hx:EncG x)(hr:∀y∈r,EncG y):qf0 (encF (x::r))=(x::r).map kj:=by
 have e2:encF (x::r)=kj x++encF r:=by simp[encF]
 have e:encF (x::r)=km x++10::(zk (qca x)++encF r):=by
  rw[e2,qiw hx.good,ye];simp
 have h:=qxe r [] x 1 hx hr;simp only[Qt,Qs,Nat.zero_add]at h
 have hc:lns (encF (x::r))=⟨0,0,km x,true⟩::vz 1 ((km x).length+1) (zk (qca x)++encF r):=by
  unfold lns;rw[e,qbm Sx,v7 _ (qdt x),xv _ (qdt x)];simp
 unfold qf0;rw[hc,y3,if_neg Sx,e2,h];rfl
theorem q35:∀(r acc:List qp),(∀y∈r,EncG y)->acc.length+r.length<=40->decP (r.map kj) acc=some (acc++r)
 | [],acc,_,_=>by simp[decP]
 |x::r,acc,h,hl=>by
  have hx:=h x Sx;simp only[Qd]at hl
  have hu:upto 10 (kj x)=km x:=by
   unfold kj;rw[Qu];exact v7 _ (qdt x)
  have hp:past 10 (kj x)=qay [32,32] (zy x.fields):=by
   unfold kj;rw[Qu];exact xv _ (qdt x)
  have o7:=q2f hx.len hx.good;rw[Qq,decP,hu,zd8 hx.kind hx.id1 hx.id2];simp only[hp,o7];rw[if_pos ⟨trivial,Om⟩];have ih:=q35 r (acc++[⟨x.kind,x.id,x.fields⟩]) (λy hy=>h y (by simp[hy])) So;rw[ih];simp
theorem qyr{x:qp}(h:gErr x=.no)(hB:EdB x):EncG x:=by
 obtain⟨h1,h2⟩:=qgv h;refine⟨?_,h1,h2,hB.id1,hB.id2⟩;unfold gErr at h;split at h
 .exact .inr (.inl (by assumption))
 .split at h
  .rename_i hk;omega
  .simp at h
theorem q9n{b:List qp}(he:eErr b=.no)(hB:∀x∈b,EdB x)(hl:(encF b).length<=50000):decF (encF b)=some b:=by
 obtain⟨h1,h40,hg⟩:=qcd he;have hG:∀y∈b,EncG y:=λy hy=>qyr (hg y hy) (hB y hy);unfold decF;rw[if_neg Om]
 cases b with
 |nil=>simp at h1
 |cons x r=>
  rw[zf0 (hG x Sx) (λy hy=>hG y (by simp[hy])),q35 (x::r) [] hG (by simp at h40⊢;omega)];simp only[Qt];rw[if_pos ⟨he,trivial⟩]
theorem q36{text:qc}{b:List qp}(h:decF text=some b):eErr b=.no∧encF b=text∧text.length<=50000:=by
 unfold decF at h;split at h
 .simp at h
 .split at h
  .simp at h
  .split at h
   .rename_i hc
    cases h
    exact⟨hc.1,hc.2,Om⟩
   .simp at h
def SpL(L:List qc):Prop:=L≠[]∧∀s∈L,10∉s∧[32]<+:s
def encL(b:List qp):List qc:=b.flatMap λx=>km x::qca x
theorem q0o{b:List qp}(hg:∀x∈b,EncG x):encF b=zk (encL b):=by
 induction b with
 |nil=>rfl
 |cons x r ih=>
  have e:encL (x::r)=(km x::qca x)++encL r:=by simp[encL]
  have e2:encF (x::r)=kj x++encF r:=by simp[encF]
  rw[e,qan,e2,qiw (hg x Sx).good,ih λy hy=>hg y (by simp[hy])]
theorem zmb{x:qp}(hk:x.kind=1∨x.kind=2∨x.kind=3):[32]<+:km x:=by
 unfold km;rw[if_pos Om];rcases hk with h|h|h<;>rw[h]<;>exact⟨_,rfl⟩
theorem zl0{b:List qp}(b9:b≠[])(hg:∀x∈b,EncG x):SpL (encL b):=by
 refine⟨?_,λs hs=>?_⟩
 .cases b with
  |nil=>exact absurd rfl b9
  |cons x r=>simp[encL]
 .obtain⟨x,hx,hs⟩:=Zc.1 hs
  have hG:=hg x hx;rcases Qe.1 hs with rfl|hs
  .exact⟨qdt x,zmb hG.kind⟩
  .obtain⟨h1,t,ht⟩:=qqk hG.good s hs
   exact⟨h1,[32]++t,by rw[<-ht];rfl⟩
theorem zm7{L:List qc}(h:SpL L):sp true (zk L)=true:=by
 rw[<-qow _ (zk L) (Qp _),qdl L λs hs=>(h.2 s hs).1];intro x hx;obtain⟨s,hs,rfl⟩:=Qg.1 hx;exact(h.2 s hs).2
theorem zg7{L:List qc}(h:SpL L):(zk L)[0]?=some 32:=by
 obtain⟨b9,hs⟩:=h
 cases L with
 |nil=>exact absurd rfl b9
 |cons s r=>
  obtain⟨t,ht⟩:=(hs s Sx).2;rw[ye,<-ht];rfl
theorem q10:∀(L:List qc),L≠[]->(zk L).getLast?=some 10
 | [],h=>absurd rfl h
 | [s],_=>by rw[ye];simp[zk]
 |s::t::r,_=>by
  have ih:=q10 (t::r) Sx;have b9:zk (t::r)≠[]:=λe=>by rw[e]at ih;simp at ih
  rw[ye,List.getLast?_append,List.getLast?_cons,ih];simp
theorem zes{b:List qp}(he:eErr b=.no)(hB:∀x∈b,EdB x)(hl:(encF b).length<=50000):yr (encF b):=by
 obtain⟨h1,h40,hg⟩:=qcd he;have hG:∀y∈b,EncG y:=λy hy=>qyr (hg y hy) (hB y hy);have b9:b≠[]:=λe=>by subst e;simp at h1
 have hS:=zl0 b9 hG;have ht:=q0o hG;have hh:=zg7 hS;have r7:=q10 _ hS.1;rw[<-ht]at hh r7;have r8:=zm7 hS;rw[<-ht]at r8;refine⟨?_,hl,r7,by rw[qeo];exact r8⟩;rcases hc:encF b with _|⟨c,_|⟨d,r⟩⟩
 .rw[hc]at hh;simp at hh
 .rw[hc]at hh r7
  simp at hh r7;rw[hh]at r7;simp at r7
 .simp
end Go.Pl
namespace Go.Proofs.YtihlchbgjdkmpaaGreatDoor
open Go Go.Av Go.RowKit Go.Proofs Go.Pl
theorem zeq{xs:List qp}{k:Nat}(hk:k<xs.length):(xs.map zz)[k]?=some (zz (xs.getD k ⟨0,0,[]⟩)):=by
 simp[Ze,hk]
theorem zok{x:qp}:∀y∈[zz x],Pure y:=by
 intro y hy;simp only[Qe,Qk,or_false]at hy;subst hy;exact qak (qiu x)
theorem qnp{l:qc}{i:Nat}{c:UInt8}(h:l[i]?=some c):l.getD i 0=c:=by simp[Ze,h]
theorem zmt{a b:qc}:∀x∈[Sv a,Sv b],Pure x:=by
 intro x hx;simp only[Qe,Qk,or_false]at hx;rcases hx with rfl|rfl <;>exact qt _
theorem zms{a:List Fld}:∀x∈[jl a],Pure x:=by
 intro x hx;simp only[Qe,Qk,or_false]at hx;subst hx;exact qa1 _
theorem zer{b:List qp}{k:Nat}(hk:k<b.length):encF (b.take (k+1))=((encF (b.take k)++km (b.getD k ⟨0,0,[]⟩))++[10])++qay [32,32] (zy (b.getD k ⟨0,0,[]⟩).fields):=by
 rw[Qw hk,q4e,q4f];have e:b.getD k ⟨0,0,[]⟩=b[k]:=by simp[Ze,hk]
 rw[e];unfold kj;simp[Qu]
set_option maxHeartbeats 2000000 in
theorem qp5(b:List qp)(st:List AObj)(hB:∀x∈b,EdB x)(he:eErr b=.no):qr E 49 [zr b] st λr st'=>r=Sv (encF b)∧st'=st:=by
 refine q5 (qt _) (qs Tryz.func49 rfl (Qc rfl) ?_);have o0:(b.map zz).length=b.length:=Sx
 obtain⟨r6,hb40,hg⟩:=qcd he;repeat' (first|apply qq|apply q6|apply qh|apply qj|apply qi)
 refine jt (λ(k:Nat)s=>k<=b.length∧StE [(0,zr b),(3,Sv (encF (b.take k))),(4,Iv k)] st [] s) (λk=>b.length-k) 0 ⟨Om,qfq ⟨rfl,rfl,rfl,trivial⟩ rfl⟩ ?_;rintro k _ ⟨hk,t,ext,rfl⟩;by_cases hc:k<b.length
 .have hm:b.getD k ⟨0,0,[]⟩∈b:=by simp[Ze,hc]
  have hxb:=hB _ hm;have hxg:=hg _ hm;have bv:=zer hc;have fj:=qoh (b.take k) (λy hy=>hB y (Zk hy)) (λy hy=>hg y (Zk hy));have d9:(b.map zz)[k]?=some (zz (b.getD k ⟨0,0,[]⟩)):=zeq hc;generalize b.getD k ⟨0,0,[]⟩=x at hm hxb hxg bv d9;obtain⟨o7,hfg⟩:=qgv hxg;have lj:=qq4 x hxb.id1 hxb.id2;have hfo:=qgt x.fields hfg;have hin:=qm2 (zy x.fields);have i6:(b.take k).length<=40:=by rw[List.length_take];omega
  repeat' (first|apply qq|apply q6|apply qh|apply qj|apply ql|apply qi|(apply qv;(iterate 3 exact rfl))|(apply qe;exact rfl;apply vo;exact cAo)|(apply jp;(iterate 4 exact rfl))|(apply zo;exact rfl;exact rfl;exact q8 Om Om)|(apply qky;exact rfl;kernel_rfl)|apply qjf|(apply qje;exact rfl;exact rfl;exact cOs)|(apply qj5;(iterate 3 exact rfl))|(apply qhl;(iterate 4 exact rfl))|apply qgq|apply qjd|apply qz|(apply qqf (n:=k);(iterate 5 exact rfl);exact d9)|(refine qt6 (args:=[zz x]) qyv Tryz.call89 rfl zok (qlo _) (λ_=>.v _) (q1p x _ hxb.id1 hxb.id2) ?_)|(refine qt6 (args:=[jl x.fields]) qyv Tryz.call91 rfl zms (qlo _) (λ_=>.v _) (qxp x.fields _ (qwv o7 hfg)) ?_)|(refine qt6 (args:=[Sv (zy x.fields),Sv [32,32]]) qyv Tryz.call90 rfl zmt (qlo _) (λ_=>.v _) (q8t (zy x.fields) [32,32] _ Om (by decide)) ?_))
  exact⟨k+1,⟨Om,qb7 ⟨rfl,congrArg Sv bv.symm,rfl,trivial⟩ rfl⟩,Om⟩
 .have e:k=b.length:=by omega
  subst e;rw[List.take_length];repeat' (first|apply qq|apply qh|apply qj|apply ql|apply qi|(apply qv;(iterate 3 exact rfl))|(apply qe;exact rfl;apply v8;exact cAo)|(apply jp;(iterate 4 exact rfl))|apply jd|apply qw)
  exact qo rfl (q7 rfl) ⟨rfl,qbx _ _ _ _⟩
theorem zeo:∀(ps:List qc)(acc b:List qp),(∀x∈acc,EdB x)->decP ps acc=some b->∀x∈b,EdB x
 | [],acc,b,h,e=>by
  rw[decP]at e
  cases e
  exact h
 |p::r,acc,b,h,e=>by
  rw[decP]at e;split at e
  .simp at e
  .rename_i k n hb
   split at e
   .refine zeo r _ b (λx hx=>?_) e
    rcases Qj.1 hx with hx|hx
    .exact h x hx
    .obtain rfl:=Qx.1 hx
     exact q4c (qyn hb).1 (qyn hb).2 (qtc _)
   .simp at e
theorem zen{text:qc}{b:List qp}(h:decF text=some b):∀x∈b,EdB x:=by
 unfold decF at h;split at h
 .simp at h
 .split at h
  .simp at h
  .rename_i c hc
   split at h
   .cases h
    exact zeo _ _ _ Sx hc
   .simp at h
end Go.Proofs.YtihlchbgjdkmpaaGreatDoor
namespace Go.Pl
open Go Go.Proofs Go.Proofs.YtihlchbgjdkmpaaGreatDoor
def addF(out:List qp)(f:Fld):List qp:=match out.getLast? with
 |none=>out
 |some x=>out.dropLast++[⟨x.kind,x.id,x.fields++[f]⟩]
def qas(out:List qp)(d6:List qc):Option (List qp):=
 if d6=[]then some out else if(zv d6).2=0 then some (addF out (zv d6).1)else none
def tryR(l:qc)(e:Option (Int×Int))(k:Int):Option (Int×Int):=
 if qab k<+:l then match numZ (l.drop (qab k).length)with
  |some n=>some (k,n)
  |none=>e
 else e
def begR(l:qc):Option (Int×Int):=tryR l (tryR l (tryR l none 1) 2) 3
def ve:List qc->List qp->List qc->Option (List qp)
 | [],out,d6=>qas out d6
 |l::r,out,d6=>
  match(if d6≠[]∧¬ [32,32,32]<+:l then(qas out d6).map λo=>(o,([]:List qc))else some (out,d6))with
  |none=>none
  |some (o,h)=>
   if [32,32]<+:l then if o=[]then none else ve r o (h++[l.drop 2])
   else match begR l with
    |none=>none
    |some (k,n)=>if 40<=o.length then none else ve r (o++[⟨k,n,[]⟩]) h
theorem zdu(b:List qp)(k n:Int)(gs:List Fld)(f:Fld):addF (b++[⟨k,n,gs⟩]) f=b++[⟨k,n,gs++[f]⟩]:=by
 unfold addF;simp
def qvh(d6:List qc)(pe:List Fld):Prop:=(d6=[]∧pe=[])∨∃g,ki g∧d6=zq g∧pe=[g]
theorem qom{b:List qp}{k n:Int}{gs pe:List Fld}{d6:List qc}(h:qvh d6 pe):qas (b++[⟨k,n,gs⟩]) d6=some (b++[⟨k,n,gs++pe⟩]):=by
 unfold qas;rcases h with⟨rfl,rfl⟩|⟨g,hg,rfl,rfl⟩
 .simp
 .have hu:=qp0 hg
  rw[if_neg (by simp[zq]),hu,if_pos rfl,zdu]
theorem ind3{s:qc}(h:[32]<+:s):[32,32,32]<+:[32,32]++s:=by
 obtain⟨t,rfl⟩:=h;exact⟨t,rfl⟩
theorem ziw{s:qc}(h:¬ [32]<+:s):¬ [32,32,32]<+:[32,32]++s:=λ⟨t,ht⟩=>h ⟨t,by simpa using ht⟩
theorem zgz{s:qc}{r:List qc}{out:List qp}{d6:List qc}(hs:[32]<+:s)(b9:out≠[]):ve (([32,32]++s)::r) out d6=ve r out (d6++[s]):=by
 rw[ve,if_neg (λh=>h.2 (ind3 hs))];simp only;rw[if_pos (Qm _ _),if_neg b9];rfl
theorem q1t:∀(m:List qc){r:List qc}{out:List qp}{d6:List qc},(∀s∈m,[32]<+:s)->out≠[]->ve (m.map (λs=>[32,32]++s)++r) out d6=ve r out (d6++m)
 | [],r,out,d6,_,_=>by simp
 |s::m,r,out,d6,h,b9=>by
  rw[Qq,Ql,zgz (h s Sx) b9,q1t m (λx hx=>h x (by simp[hx])) b9];simp
theorem zgy{s:qc}{r:List qc}{b:List qp}{k n:Int}{gs pe:List Fld}{d6:List qc}(hs:¬ [32]<+:s)(hh:qvh d6 pe):ve (([32,32]++s)::r) (b++[⟨k,n,gs⟩]) d6=ve r (b++[⟨k,n,gs++pe⟩]) [s]:=by
 rw[ve];have hi:=ziw hs
 have e:(if d6≠[]∧¬ [32,32,32]<+:[32,32]++s then(qas (b++[⟨k,n,gs⟩]) d6).map λo=>(o,([]:List qc))else some (b++[⟨k,n,gs⟩],d6))=some (b++[⟨k,n,gs++pe⟩],[]):=by
  by_cases h0:d6=[]
  .rcases hh with⟨_,rfl⟩|⟨g,_,h1,_⟩
   .rw[if_neg (λh=>h.1 h0),h0];simp
   .rw[h0]at h1;simp[zq]at h1
  .rw[if_pos ⟨h0,hi⟩,qom hh];rfl
 rw[e];simp only;rw[if_pos (Qm _ _),if_neg Sx];rfl
theorem q5b{f:Fld}(h:ki f):∃hd mr,zq f=hd::mr∧¬ [32]<+:hd∧∀s∈mr,[32]<+:s:=by
 refine⟨_,_,rfl,?_,λs hs=>?_⟩
 .obtain⟨h1,_,h3,_⟩:=h.1
  rintro⟨t,ht⟩;apply h3
  cases hk:f.1 with
  |nil=>exact absurd hk h1
  |cons c l=>
   unfold kl at ht;rw[hk]at ht;have:=(Zo ht).1;rw[<-this];simp[qfw,wy]
 .obtain⟨x,_,rfl⟩:=Qg.1 hs
  exact Qm _ _
def q21(R:List qc):Prop:=∀l r,R=l::r->¬ [32,32]<+:l
theorem zmz{R:List qc}{b:List qp}{k n:Int}{gs pe:List Fld}{d6:List qc}(hR:q21 R)(hh:qvh d6 pe):ve R (b++[⟨k,n,gs⟩]) d6=ve R (b++[⟨k,n,gs++pe⟩]) []:=by
 cases R with
 |nil=>
  rw[ve,ve,qom hh]
  simp[qas]
 |cons l r=>
  have h2:=hR l r rfl;have h3:¬ [32,32,32]<+:l:=λ⟨t,ht⟩=>h2 ⟨[32]++t,by rw[<-ht];rfl⟩
  have e:(if d6≠[]∧¬ [32,32,32]<+:l then(qas (b++[⟨k,n,gs⟩]) d6).map λo=>(o,([]:List qc))else some (b++[⟨k,n,gs⟩],d6))=some (b++[⟨k,n,gs++pe⟩],[]):=by
   by_cases h0:d6=[]
   .rcases hh with⟨_,rfl⟩|⟨g,_,h1,_⟩
    .rw[if_neg (λh=>h.1 h0),h0];simp
    .rw[h0]at h1;simp[zq]at h1
   .rw[if_pos ⟨h0,h3⟩,qom hh];rfl
  rw[ve,e,ve,if_neg (λh=>h.1 rfl)]
theorem q1s:∀(fs:List Fld){R:List qc}{b:List qp}{k n:Int}{gs pe:List Fld}{d6:List qc},q21 R->(∀f∈fs,ki f)->qvh d6 pe->
  ve ((fs.flatMap zq).map (λs=>[32,32]++s)++R) (b++[⟨k,n,gs⟩]) d6=ve R (b++[⟨k,n,gs++pe++fs⟩]) []
 | [],R,b,k,n,gs,pe,d6,hR,_,hh=>by
  rw[Zm,Zq,Qt,zmz hR hh,Zd]
 |f::fs,R,b,k,n,gs,pe,d6,hR,hf,hh=>by
  have hgf:=hf f Sx;obtain⟨hd,mr,hl,h1,h2⟩:=q5b hgf;rw[Qh,Zf,hl,Qq,Qu,Ql,zgy h1 hh,q1t mr h2 Sx];have e:[hd]++mr=zq f:=by rw[hl];rfl
  rw[e,q1s fs hR (λx hx=>hf x (by simp[hx])) (.inr ⟨f,hgf,rfl,rfl⟩)];simp
theorem zed{x:qp}(hx:EncG x):begR (km x)=some (x.kind,x.id):=by
 have hl:km x=qab x.kind++Lib.itoa x.id:=by
  unfold km;rw[if_pos (by have:=hx.kind;omega)]
 have o6:∀e,tryR (km x) e x.kind=some (x.kind,x.id):=λe=>by
  unfold tryR;rw[hl,if_pos (Qm _ _),Zh,qg1 hx.id1 hx.id2]
 have o9:∀(j:Int)e,(j=1∨j=2∨j=3)->j≠x.kind->tryR (km x) e j=e:=λj e hj b9=>by
  unfold tryR;rw[hl,if_neg (qww hj hx.kind b9)]
 unfold begR;rcases hx.kind with h|h|h
 .rw[h]at o6 o9⊢
  rw[o6,o9 2 _ Sx (by decide),o9 3 _ Sx (by decide)]
 .rw[h]at o6 o9⊢
  rw[o6,o9 3 _ Sx (by decide)]
 .rw[h]at o6 o9⊢
  rw[o6]
theorem q1n:∀(r b:List qp),(∀x∈r,EncG x)->b.length+r.length<=40->ve (encL r) b []=some (b++r)
 | [],b,_,_=>by
  simp[encL,ve,qas]
 |x::r,b,h,hl=>by
  have hx:=h x Sx;simp only[Qd]at hl;have e:encL (x::r)=km x::(qca x++encL r):=by simp[encL]
  have hR:q21 (encL r):=λl t et=>by
   cases r with
   |nil=>simp[encL]at et
   |cons y r=>
    have e:encL (y::r)=km y::(qca y++encL r):=by simp[encL]
    rw[e]at et;rw[<-(Zo et).1];exact qm7 (h y Sx).kind
  rw[e,ve,if_neg (λh=>h.1 rfl)];simp only;rw[if_neg (qm7 hx.kind),zed hx];simp only;rw[if_neg Om];unfold qca;rw[q1s x.fields hR hx.good (.inl ⟨rfl,rfl⟩),q1n r _ (λy hy=>h y (by simp[hy])) So];simp
def OutG(out:List qp)(m:Nat):Prop:=∀x∈out,(∀f∈x.fields,ki f)∧x.fields.length<=m∧-9223372036854775808<=x.id∧x.id<=9223372036854775807
theorem OutG.mono{out:List qp}{m m':Nat}(h:OutG out m)(hm:m<=m'):OutG out m':=λx hx=>⟨(h x hx).1,by have:=(h x hx).2.1;omega,(h x hx).2.2⟩
theorem q23{out:List qp}{f:Fld}{m:Nat}(h:OutG out m)(hf:ki f):OutG (addF out f) (m+1):=by
 unfold addF
 cases hl:out.getLast? with
 |none=>exact h.mono Om
 |some y=>
  have hy:=h y (List.mem_of_getLast? hl);intro x hx;rcases Qj.1 hx with hx|hx
  .exact h.mono Om x ((List.dropLast_sublist out).subset hx)
  .obtain rfl:=Qx.1 hx
   refine⟨λg hg=>?_,by simp;exact hy.2.1,hy.2.2⟩;rcases Qj.1 hg with hg|hg
   .exact hy.1 g hg
   .obtain rfl:=Qx.1 hg
    exact hf
theorem q4r{out o:List qp}{d6:List qc}{m:Nat}(h:OutG out m)(e:qas out d6=some o):OutG o (m+1):=by
 unfold qas at e;split at e
 .cases e;exact h.mono Om
 .split at e
  .rename_i hu
   cases e
   exact q23 h (qjc hu)
  .simp at e
theorem q7e{l:qc}{e:Option (Int×Int)}{j k n:Int}(he:∀k n,e=some (k,n)->-9223372036854775808<=n∧n<=9223372036854775807)(h:tryR l e j=some (k,n)): -9223372036854775808<=n∧n<=9223372036854775807:=by
 unfold tryR at h;split at h
 .split at h
  .rename_i v hv
   cases h
   exact(qml hv).2
  .exact he _ _ h
 .exact he _ _ h
theorem zec{l:qc}{k n:Int}(h:begR l=some (k,n)): -9223372036854775808<=n∧n<=9223372036854775807:=
 q7e (λ_ _ h=>q7e (λ_ _ h=>q7e (λ_ _ h=>by simp at h) h) h) h
theorem qy5:∀(L:List qc){out b:List qp}{d6:List qc}{m:Nat},OutG out m->ve L out d6=some b->OutG b (m+L.length+1)
 | [],out,b,d6,m,h,e=>by
  rw[ve]at e
  exact(q4r h e).mono Sx
 |l::r,out,b,d6,m,h,e=>by
  rw[ve]at e;split at e
  .simp at e
  .rename_i o hd he
   have ho:OutG o (m+1):=by
    split at he
    .obtain⟨o',h1,h2⟩:=Option.map_eq_some_iff.1 he
     cases h2
     exact q4r h h1
    .cases he;exact h.mono Om
   split at e
   .split at e
    .simp at e
    .exact(qy5 r ho e).mono So
   .split at e
    .simp at e
    .rename_i k n hb
     split at e
     .simp at e
     .refine(qy5 r (m:=m+1) (λx hx=>?_) e).mono So
      rcases Qj.1 hx with hx|hx
      .exact ho x hx
      .obtain rfl:=Qx.1 hx
       exact⟨Sx,Sx,zec hb⟩
theorem zft{b:List qp}{m:Nat}(h:OutG b m)(hm:m<9223372036854775808):∀x∈b,EdB x:=λx hx=>by
 obtain⟨h1,h2,h3,h4⟩:=h x hx;exact⟨λf hf=>by have:=(h1 f hf).1.2.1;omega,Om,h3,h4⟩
def qdp(text:qc):Option (List qp):=if 50000<text.length then none else match ve ((lns text).map λx=>x.text) [] []with
 |none=>none
 |some b=>if eErr b=.no∧encF b=text then some b else none
theorem zi7(l:qc):(lns l).map (λx=>x.text)=(zp l).map Prod.fst:=by
 rw[<-qq7,Zr];rfl
theorem zf9(text:qc):qdp text=decF text:=by
 by_cases u0:50000<text.length
 .unfold qdp decF
  rw[if_pos u0,if_pos u0]
 have hn:=qdu _ text 0 0 (Qp _)
 cases hd:decF text with
 |some b=>
  obtain⟨he,ht,_⟩:=q36 hd;obtain⟨h1,h40,hg⟩:=qcd he;have hB:=zen hd;have hG:∀y∈b,EncG y:=λy hy=>qyr (hg y hy) (hB y hy)
  have hl:(lns text).map (λx=>x.text)=encL b:=by
   rw[zi7,<-ht,q0o hG,qdl,Zr]
   .simp[Function.comp_def]
   .intro s hs
    obtain⟨x,hx,hs⟩:=Zc.1 hs;rcases Qe.1 hs with rfl|hs
    .exact qdt x
    .exact qz4 (hG x hx).good s hs
  unfold qdp;rw[if_neg u0,hl,q1n b [] hG So];simp only[Qt]
  rw[if_pos ⟨he,ht⟩]
 |none=>
  unfold qdp;rw[if_neg u0]
  cases hr:ve ((lns text).map λx=>x.text) [] []with
  |none=>rfl
  |some b=>
   simp only;split
   .rename_i hc
    have hB:=zft (qy5 _ (m:=0) (by intro x hx;simp at hx) hr) (by
     have:(lns text).length<=text.length:=hn;simp
     omega)
    have:=q9n hc.1 hB (by rw[hc.2];omega);rw[hc.2,hd]at this;simp at this
   .rfl
end Go.Pl
