/- Contracts and plain facts that the closing text leans on (part 7). No condition of their own beyond those that each states. -/
import Derived.Test.YtlekheifonaipaaGreatDoorK6
import Derived.LaidEql
import Derived.Stop.Asserts
import Derived.RowKitTokens
import Derived.Lib.IfaceEq
import Derived.Laws.StructEq
set_option maxRecDepth 100000
set_option linter.unusedVariables false
set_option linter.unusedSimpArgs false
open And renaming intro→Qa
open Array renaming getElem?_eq_none→Qx,getElem?_modify→Zg
open Exists renaming intro→Qb
open List renaming mem_cons→Qd,length_cons→Qe,mem_map→Qf,getElem?_eq_getElem→Qg,mem_append→Qh,not_mem_nil→Qi,cons_append→Qj,prefix_append→Qk,getElem?_eq_some_iff→Ql,drop_eq_getElem_cons→Qm,flatMap_cons→Qo,drop_eq_nil_of_le→Qp,length_append→Qq,nil_append→Qr,map_cons→Qs,append_assoc→Qt,mem_of_getElem?→Qu,take_succ_eq_append_getElem→Qv,mem_singleton→Qw,length_nil→Qy,length_pos_iff→Qz,getElem?_append_left→Za,mem_flatMap→Zc,append_nil→Zd,getD→Ze,map_append→Zf,drop_left→Zh,getElem?_set_ne→Zi,mem_of_mem_tail→Zj,mem_of_mem_take→Zk,length_drop→Zl,take_length→Zm,flatMap_nil→Zn,flatMap_map→Zo,map_nil→Zr,map_map→Zs,take→Zt
open List.cons renaming inj→Zp
open Nat renaming le_of_ble_eq_true→Qc,le_refl→Qn,lt_or_ge→Zb,le_trans→Zq
namespace Go.Pl
open Go Go.Proofs
def vh(p:PSt)(no:Int)(text:qa):PSt:={p with lines:=[text],frm:=no,full:=decide (p.fields.length=40∨(p.fields.length=0∧p.records=400))}
def j6(p:PSt)(no:Int)(text:qa)(ended:Bool)(kind:Int):Option (Int×Int)×PSt:=
 if kind=3 then
  if p.lines=[]then(some (no,2),p)
  else if ended=true then(none,{p with lines:=p.lines++[text]})
  else ka {p with lines:=p.lines++[text]}
 else if kind=1 then endP p
 else ka p
def xh(p:PSt)(no:Int)(text:qa)(ended:Bool):Option (Int×Int)×PSt:=
 match(j6 p no text ended (qx text)).1 with
 |some e=>(some e,p)
 |none=>
  if qx text=5∨ended=false then(some (no,2),p)
  else if qx text=1 then(none,{(j6 p no text ended (qx text)).2 with items:=(j6 p no text ended (qx text)).2.items++[⟨1,text++[10],[]⟩]})
  else if qx text=4 then(none,{vh (j6 p no text ended (qx text)).2 no text with block:=(j6 p no text ended (qx text)).2.block++[text]})
  else(none,{(j6 p no text ended (qx text)).2 with block:=(j6 p no text ended (qx text)).2.block++[text]})
end Go.Pl
namespace Go.Proofs.YtlekheifonaipaaGreatDoor
open Go Go.Av Go.RowKit Go.Proofs Go.Pl
theorem PB.more{n m:Nat}{p:PSt}(h:PB n p)(hm:n<=m)(hs:m<900000):PB m p:=by
 have h1:=h.lines;have h2:=h.items;have h3:=h.block;have h4:=h.fields;have h5:=h.rec0;have h6:=h.rec1;exact⟨hs,Om,h.linesV,Om,Om,h.blockV,Om,h5,Om⟩
theorem zfb{n:Nat}{p:PSt}(h:PB n p)(hs:n+1<900000):PB (n+1) (y4 p):=by
 have h1:=h.lines;have h2:=h.items;have h3:=h.block;have h4:=h.fields;have h5:=h.rec0;have h6:=h.rec1;unfold y4;split
 .exact⟨hs,by simp only;omega,h.linesV,by simp only;omega,Sx,Sx,Sx,h5,by simp only;omega⟩
 .refine⟨hs,by simp only;omega,h.linesV,So,Sx,Sx,Sx,?_,?_⟩
  .simp only;split <;>omega
  .simp only;split <;>omega
theorem qvf{n:Nat}{p:PSt}{text:qa}(h:PB n p)(hs:n+1<900000)(ht:text.length<1000000):PB (n+1) {p with lines:=p.lines++[text]}:=by
 have h1:=h.lines;have h2:=h.items;have h3:=h.block;have h4:=h.fields;have h5:=h.rec0;have h6:=h.rec1;exact⟨hs,So,qpb h.linesV ht,by simp only;omega,by simp only;omega,h.blockV,by simp only;omega,h5,by simp only;omega⟩
theorem q64{n:Nat}{p:PSt}{text:qa}(h:PB n p)(hs:n+1<900000)(ht:text.length<1000000):PB (n+1) {p with block:=p.block++[text]}:=by
 have h1:=h.lines;have h2:=h.items;have h3:=h.block;have h4:=h.fields;have h5:=h.rec0;have h6:=h.rec1;exact⟨hs,by simp only;omega,h.linesV,by simp only;omega,So,qpb h.blockV ht,by simp only;omega,h5,by simp only;omega⟩
theorem zkg{n:Nat}{p:PSt}{x:zg}(h:PB n p)(hs:n+1<900000):PB (n+1) {p with items:=p.items++[x]}:=by
 have h1:=h.lines;have h2:=h.items;have h3:=h.block;have h4:=h.fields;have h5:=h.rec0;have h6:=h.rec1;exact⟨hs,by simp only;omega,h.linesV,So,by simp only;omega,h.blockV,by simp only;omega,h5,by simp only;omega⟩
theorem zkf{n:Nat}{p:PSt}{no:Int}{text:qa}(h:PB n p)(hs:n+1<900000)(ht:text.length<1000000):PB (n+1) (vh p no text):=by
 have h1:=h.lines;have h2:=h.items;have h3:=h.block;have h4:=h.fields;have h5:=h.rec0;have h6:=h.rec1;exact⟨hs,by simp[vh],by simp[vh,ht],by simp only[vh];omega,by simp only[vh];omega,h.blockV,by simp only[vh];omega,h5,by simp only[vh];omega⟩
theorem qlx{n:Nat}{p:PSt}{no:Int}{text:qa}{ended:Bool}{kind:Int}(h:PB n p)(hs:n+2<900000)(ht:text.length<1000000):PB (n+2) (j6 p no text ended kind).2:=by
 unfold j6;split
 .split
  .exact h.more Om hs
  .split
   .exact(qvf h Om ht).more Om hs
   .exact qjr (qvf h Om ht) hs
 .split
  .unfold endP
   split
   .exact h.more Om hs
   .exact zfb (qjr h Om) hs
  .exact(qjr h Om).more Om hs
theorem qxs(l:qa):1<=qx l∧qx l<=5:=by
 unfold qx;repeat' split
 all_goals decide
theorem qvr{n:Nat}{p:PSt}{no:Int}{text:qa}{ended:Bool}(h:PB n p)(hs:n+4<900000)(ht:text.length<1000000):PB (n+4) (xh p no text ended).2:=by
 have h2:PB (n+2) (j6 p no text ended (qx text)).2:=qlx h Om ht;unfold xh;split
 .exact h.more Om hs
 .split
  .exact h.more Om hs
  .split
   .exact(zkg h2 Om).more Om hs
   .split
    .exact q64 (zkf h2 Om ht) hs ht
    .exact(q64 h2 Om ht).more Om hs
theorem zgt(n:Nat)(p:PSt)(no at':Int)(text:qa)(ended:Bool)(hB:PB n p):vb E 159 [.bx 0 0,.ag [.i no,.i at',.s text,.b ended]] 5 (hpF (parH 1 p)) ⟨.tu [],kr (parH 1 p),parH 5 (vh p no text)++vw (parH 1 p),9⟩:=by
 refine xl [.bx 0 0,.ag [.i no,.i at',.s text,.b ended]] (parH 1 p) 5 (.tu []) (parH 5 (vh p no text)) 9 Tryz.func159 rfl rfl rfl rfl λS F ρ=>?_;obtain⟨ls,fr,fu,its,bk,fs,rc⟩:=p;have o0:(fs.map fldA).length=fs.length:=Sx
 by_cases ha:fs.length=40∨(fs.length=0∧rc=400)
 .have e:vh ⟨ls,fr,fu,its,bk,fs,rc⟩ no text=⟨[text],no,true,its,bk,fs,rc⟩:=by
   unfold vh;simp only[decide_eq_true ha]
  rw[e];apply qd [29];repeat' (first|apply Qa|(intro h;try exact cDd)|exact cSd|apply qb [29]|refine exr ?_|refine qe ?_)
  all_goals (intros;simp only[o0]at *;first|(exfalso;omega)|(have tw:rc=400:=Om;subst tw;rfl))
 .have e:vh ⟨ls,fr,fu,its,bk,fs,rc⟩ no text=⟨[text],no,false,its,bk,fs,rc⟩:=by
   unfold vh;simp only[decide_eq_false ha]
  rw[e];apply qd [29];repeat' (first|apply Qa|(intro h;try exact cDd)|exact cSd|apply qb [29]|refine exr ?_|refine qe ?_)
  all_goals (intros;simp only[o0]at *;first|(exfalso;omega)|(have tw:¬rc=400:=Om;simp[SV.evs,SV.ev,SV.rens,SV.ren,lkS,w7,tw];exact⟨rfl,rfl,rfl⟩))
theorem q13(n:Nat)(p:PSt)(no at':Int)(text:qa)(ended:Bool)(kind:Int)(hB:PB n p)(hs:n+2<900000)(ht:text.length<1000000):vb E 157 [.bx 0 0,.ag [.i no,.i at',.s text,.b ended],.i kind] 5 (hpF (parH 1 p)) ⟨.a (errP (j6 p no text ended kind).1),kr (parH 1 p),parH 5 (j6 p no text ended kind).2++vw (parH 1 p),9⟩:=by
 refine xl [.bx 0 0,.ag [.i no,.i at',.s text,.b ended],.i kind] (parH 1 p) 5 (.a (errP (j6 p no text ended kind).1)) (parH 5 (j6 p no text ended kind).2) 9 Tryz.func157 rfl rfl rfl rfl λS F ρ=>?_;unfold j6;by_cases gm:kind=3
 .rw[if_pos gm]
  by_cases h0:p.lines=[]
  .rw[if_pos h0]
   have hl0:(p.lines.map λx=>Sv x).length=0:=by simp[h0]
   have hft:=λst=>qpm no 2 st;apply qd [];repeat' (first|apply Qa|(intro h;try exact cDd)|exact⟨Tryz.call158⟩|refine cpe hft ?_|exact cSd|apply qb []|refine exr ?_|refine qe ?_)
  .rw[if_neg h0]
   have hl0:(p.lines.map λx=>Sv x).length≠0:=by simp[h0]
   have pn:=hB.lines;have hsm:=hB.small;have o0:(p.lines.map λx=>Sv x).length=p.lines.length:=Sx
   have cr:=qu2 (n+1) {p with lines:=p.lines++[text]} (qvf hB Om ht)
   cases ended with
   |true=>
    rw[if_pos rfl];apply qd [];repeat' (first|apply Qa|(intro h;try exact cDd)|(exact absurd (by assumption:true=false) (by decide))|exact cSd|apply qb []|refine exr ?_|refine qe ?_)
    all_goals first|(simp[SV.evs,SV.ev];done)|(simp[SV.evs];omega)
   |false=>
    rw[if_neg (by decide)];apply qd [];repeat' (first|apply Qa|(intro h;try exact cDd)|(exact absurd (by assumption:false=true) (by decide))|exact⟨Tryz.call160⟩|(refine jn cr ?_)|exact cSd|apply qb []|refine exr ?_|refine qe ?_)
    all_goals first|(simp[SV.evs,SV.ev];done)|(simp[SV.evs];omega)
 .rw[if_neg gm]
  by_cases bn:kind=1
  .rw[if_pos bn]
   have cr:=zbh n p hB Om;apply qd [];repeat' (first|apply Qa|(intro h;try exact cDd)|exact⟨Tryz.call110⟩|(refine jn cr ?_)|exact cSd|apply qb []|refine exr ?_|refine qe ?_)
  .rw[if_neg bn]
   have cr:=qu2 n p hB;apply qd [];repeat' (first|apply Qa|(intro h;try exact cDd)|exact⟨Tryz.call160⟩|(refine jn cr ?_)|exact cSd|apply qb []|refine exr ?_|refine qe ?_)
theorem zkj(n:Nat)(p:PSt)(no at':Int)(text:qa)(ended:Bool)(hB:PB n p)(hs:n+4<900000)(ht:text.length<1000000)(hok:(xh p no text ended).1=none):vb E 109 [.bx 0 0,.ag [.i no,.i at',.s text,.b ended]] 5 (hpF (parH 1 p)) ⟨.a (.v .nilIface),kr (parH 1 p),parH 5 (xh p no text ended).2++vw (parH 1 p),9⟩:=by
 refine xl [.bx 0 0,.ag [.i no,.i at',.s text,.b ended]] (parH 1 p) 5 (.a (.v .nilIface)) (parH 5 (xh p no text ended).2) 9 Tryz.func109 rfl rfl rfl rfl λS F ρ=>?_;have cr:=q13 n p no at' text ended (qx text) hB Om ht;have hB1:=qlx (no:=no) (text:=text) (ended:=ended) (kind:=qx text) hB Om ht;have hkr:=qxs text;have rj:=λst=>qnv text st Om;unfold xh at hok⊢;generalize j6 p no text ended (qx text)=fq at cr hB1 hok⊢;obtain⟨fe,q⟩:=fq
 cases fe with
 |some e=>exact absurd hok Sx
 |none=>
  dsimp only at hB1 cr hok⊢;have h1:=hB1.block;have h2:=hB1.items;have hmb:(q.block.map λx=>Sv x).length=q.block.length:=Sx
  have sb:(q.items.map kq).length=q.items.length:=Sx
  by_cases hk:qx text=5∨ended=false
  .rw[if_pos hk]at hok
   exact absurd hok Sx
  .rw[if_neg hk]at hok⊢
   have hk5:qx text≠5:=λh=>hk (.inl h);obtain rfl:ended=true:=by cases ended<;>simp_all
   by_cases bn:qx text=1
   .rw[if_pos bn]
    apply qd [];repeat' (first|apply Qa|(intro h;try exact cDd)|exact⟨Tryz.call156⟩|refine cpe rj ?_|exact⟨Tryz.call157⟩|(refine jn cr ?_)|(exact absurd (by assumption:true=false) (by decide))|exact cSd|apply qb []|refine exr ?_|refine qe ?_)
    all_goals first|(simp[SV.evs,SV.ev];done)|(simp[SV.evs];omega)
   .rw[if_neg bn]
    by_cases hk4:qx text=4
    .rw[if_pos hk4]
     have hbc:=zgt (n+2) q no at' text true hB1;apply qd [];repeat' (first|apply Qa|(intro h;try exact cDd)|exact⟨Tryz.call156⟩|refine cpe rj ?_|exact⟨Tryz.call157⟩|(refine jn cr ?_)|exact⟨Tryz.call159⟩|(refine jn hbc ?_)|(exact absurd (by assumption:true=false) (by decide))|exact cSd|apply qb []|refine exr ?_|refine qe ?_)
     all_goals first|(simp[SV.evs,SV.ev,vh];done)|(simp[SV.evs,vh];omega)
    .rw[if_neg hk4]
     apply qd [];repeat' (first|apply Qa|(intro h;try exact cDd)|exact⟨Tryz.call156⟩|refine cpe rj ?_|exact⟨Tryz.call157⟩|(refine jn cr ?_)|(exact absurd (by assumption:true=false) (by decide))|exact cSd|apply qb []|refine exr ?_|refine qe ?_)
     all_goals first|(simp[SV.evs,SV.ev];done)|(simp[SV.evs];omega)
theorem zkk(n:Nat)(p:PSt)(no at':Int)(text:qa)(ended:Bool)(hB:PB n p)(hs:n+4<900000)(ht:text.length<1000000)(a m:Int)(hok:(xh p no text ended).1=some (a,m)):vb E 109 [.bx 0 0,.ag [.i no,.i at',.s text,.b ended]] 5 (hpF (parH 1 p)) ⟨.a (qjp a m),kr (parH 1 p),parH 5 (j6 p no text ended (qx text)).2++vw (parH 1 p),9⟩:=by
 refine xl [.bx 0 0,.ag [.i no,.i at',.s text,.b ended]] (parH 1 p) 5 (.a (qjp a m)) (parH 5 (j6 p no text ended (qx text)).2) 9 Tryz.func109 rfl rfl rfl rfl λS F ρ=>?_;have cr:=q13 n p no at' text ended (qx text) hB Om ht;have hB1:=qlx (no:=no) (text:=text) (ended:=ended) (kind:=qx text) hB Om ht;have hkr:=qxs text;have rj:=λst=>qnv text st Om;unfold xh at hok;generalize j6 p no text ended (qx text)=fq at cr hB1 hok⊢;obtain⟨fe,q⟩:=fq
 cases fe with
 |some e=>
  dsimp only at hB1 cr hok⊢;obtain rfl:e=(a,m):=by simpa using hok
  apply qd []
  repeat' (first|apply Qa|(intro h;try exact cDd)|exact⟨Tryz.call156⟩|refine cpe rj ?_|exact⟨Tryz.call157⟩|(refine jn cr ?_)|exact cSd|apply qb []|refine exr ?_|refine qe ?_)
 |none=>
  dsimp only at hB1 cr hok⊢;by_cases hk:qx text=5∨ended=false
  .rw[if_pos hk]at hok
   obtain⟨rfl,rfl⟩:no=a∧2=m:=by simpa using hok
   have hft:=λst=>qpm no 2 st
   cases ended with
   |true=>
    have hk5:qx text=5:=by simpa using hk
    apply qd []
    repeat' (first|apply Qa|(intro h;try exact cDd)|exact⟨Tryz.call156⟩|refine cpe rj ?_|exact⟨Tryz.call158⟩|refine cpe hft ?_|exact⟨Tryz.call157⟩|(refine jn cr ?_)|(exact absurd (by assumption:true=false) (by decide))|exact cSd|apply qb []|refine exr ?_|refine qe ?_)
   |false=>
    apply qd [];repeat' (first|apply Qa|(intro h;try exact cDd)|exact⟨Tryz.call156⟩|refine cpe rj ?_|exact⟨Tryz.call158⟩|refine cpe hft ?_|exact⟨Tryz.call157⟩|(refine jn cr ?_)|(exact absurd (by assumption:false=true) (by decide))|exact cSd|apply qb []|refine exr ?_|refine qe ?_)
  .rw[if_neg hk]at hok
   split at hok
   .simp at hok
   .split at hok
    .simp at hok
    .simp at hok
end Go.Proofs.YtlekheifonaipaaGreatDoor
namespace Go.Pl
open Go Go.Proofs
def p0:PSt:=⟨[],0,false,[],[],[],0⟩
def runL:Nat->List (qa×Bool)->PSt->Option (Int×Int)×PSt
 |_,[],p=>endP p
 |k,(t,e)::r,p=>match(xh p k t e).1 with
  |some x=>(some x,p)
  |none=>runL (k+1) r (xh p k t e).2
def jl(text:qa):Option (Int×Int)×List zg:=match(runL 0 (zo text) p0).1 with
 |some e=>(some e,[])
 |none=>(none,(runL 0 (zo text) p0).2.items)
end Go.Pl
namespace Go.Proofs.YtlekheifonaipaaGreatDoor
open Go Go.Av Go.RowKit Go.Proofs Go.Pl
theorem zfp(x:Option (Int×Int)):Pure (errP x):=by
 rcases x with _|⟨a,n⟩
 .exact qr _
 .exact qm4 a n
theorem zc2(f:Fld):qis (fldA f):=λx hx=>by
 simp only[AV.cells,Qd,Qi,or_false]at hx;rcases hx with rfl|rfl <;>exact qr _
theorem qa5(fs:List Fld):Pure (jd fs):=qbi λx hx=>by
 obtain⟨f,_,rfl⟩:=Qf.1 hx;exact zc2 f
theorem qef(x:zg):qis (kq x):=λy hy=>by
 simp only[AV.cells,Qd,Qi,or_false]at hy;rcases hy with rfl|rfl|rfl
 .exact qr _
 .exact qr _
 .exact qa5 _
theorem qc7(xs:List zg):Pure (vu xs):=qbi λx hx=>by
 obtain⟨f,_,rfl⟩:=Qf.1 hx;exact qef f
theorem ju{x y:AV}(hx:Pure x)(hy:Pure y):Pure (.tu [x,y]):=qei λz hz=>by
 simp only[Qd,Qi,or_false]at hz;rcases hz with rfl|rfl
 .exact hx
 .exact hy
def qe1(text:qa):AV:=.tu [vu (jl text).2,errP (jl text).1]
theorem q9g(text:qa):Pure (qe1 text):=ju (qc7 _) (zfp _)
theorem qts{S:List AObj}{o k:Nat}{x:AObj}(h:k≠o):(S.set o x)[k]?=S[k]?:=Zi (Ne.symm h)
theorem zdk:PB 0 p0:=⟨Om,by simp[p0],by simp[p0],by simp[p0],by simp[p0],by simp[p0],by simp[p0],by simp[p0],by simp[p0]⟩
theorem qvo(text:qa)(st:List AObj)(hl:text.length<=60000):qp E 65 [Sv text] st λr st'=>r=qe1 text∧st'=st:=by
 refine ze [.s text] (q9g text) Tryz.func65 rfl rfl (λ_=>rfl) rfl λS0=>?_;apply qd [13];repeat' (first|apply Qa|(intro h;try exact cDd)|exact⟨Tryz.call107⟩|(refine Qb _ ⟨qpw _,?_⟩)|exact cSd|apply qb [13]|refine exr ?_|refine qe ?_)
 refine qil (X:=PSt×Option (Int×Int)) text 4 5 [0,1,2,3,4] (λ(p,e)=>⟨[(2,.bx 0 0),(3,.bx 1 0),(4,.bx 2 0),(15,.fn (.func 154) [] [.bx 4 0])],
   [(0,some (.cells 91 [.a zm])),(1,some (.cells 25 [.a (errP e)])),(2,some (.cells 207 [.bx 3 0])),(3,some (.cells 211 [.tp 5,.i p.frm,.b p.full,.tp 6,.tp 7,.tp 8,.i p.records])),(4,some (.cells 9 [.s text])),
    (5,some (.tip 1 9 (p.lines.map λx=>Sv x))),(6,some (.tip 3 123 (p.items.map kq))),(7,some (.tip 1 9 (p.block.map λx=>Sv x))),(8,some (.tip 2 40 (p.fields.map fldA)))],9⟩) _
  (λk rest(p,e)=>e=none∧PB (4*k) p∧k+rest.length<=text.length∧runL 0 (zo text) p0=runL k (zo rest) p)
  (λc(p,e)=>∃a m,c=.ret∧e=some (a,m)∧(runL 0 (zo text) p0).1=some (a,m)) (p0,none) ⟨rfl,zdk,Om,rfl⟩ ?_ id Om (λ_=>rfl) rfl (λ_=>rfl) (λ_=>rfl) rfl ?_ ?_ ?_
 .skip
  repeat' (first|apply Qa|(intro h;try exact cDd)|exact cSd|apply qb []|refine exr ?_|refine qe ?_)
 .rintro k rest ⟨p,e⟩ ⟨rfl,hB,hkl,a8⟩ b9 d7
  have np:=wl b9;have hu:=vl 10 rest;have dx:=vm 10 rest;have hr0:0<rest.length:=Qz.2 b9;rw[np]at a8;simp only[runL]at a8;unfold qo6;generalize u0:decide (10∈rest)=en at a8;generalize upto 10 rest=up at hu a8⊢;have ml:=qvr (no:=k) (text:=up) (ended:=en) hB Om Om
  cases hah:(xh p k up en).1 with
  |some e=>
   obtain⟨a,m⟩:=e;rw[hah]at a8;simp only at a8;have i7:=zkk (4*k) p k ((text.length:Int)-rest.length) up en hB Om Om a m hah;refine RA.mk λS F ρ rd=>?_;apply qd [];repeat' (first|apply Qa|(intro h;try exact cDd)|(refine RB.mk λS rd=>?_;apply qd [])|exact⟨Tryz.call109⟩|(refine jn i7 ?_)|(refine Qb ((j6 p k up en (qx up)).2,some (a,m)) ⟨⟨a,m,rfl,rfl,by rw[a8]⟩,?_⟩)|exact cSd|apply qb []|refine exr ?_|refine qe ?_)
   all_goals (rw[<-u0];rfl)
  |none=>
   rw[hah]at a8;simp only at a8;have i7:=zkj (4*k) p k ((text.length:Int)-rest.length) up en hB Om Om hah;refine RA.mk λS F ρ rd=>?_;apply qd [];repeat' (first|apply Qa|(intro h;try exact cDd)|(refine RB.mk λS rd=>?_;apply qd [])|exact⟨Tryz.call109⟩|(refine jn i7 ?_)|(refine Qb ((xh p k up en).2,none) ⟨⟨rfl,ml,Om,a8⟩,?_⟩)|exact cSd|apply qb []|refine exr ?_|refine qe ?_)
   all_goals (rw[<-u0];rfl)
 .rintro k ⟨p,e⟩ ⟨rfl,hB,hkl,a8⟩
  have tx:runL k (zo []) p=endP p:=by rw[vv];rfl
  rw[tx]at a8;have lw:=zbh (4*k) p hB Om;generalize endP p=fq at a8 lw;obtain⟨fe,q⟩:=fq
  cases fe with
  |some e=>
   have hpf:qe1 text=.tu [vu [],errP (some e)]:=by unfold qe1 jl;rw[a8]
   rw[hpf];obtain⟨a,m⟩:=e
   repeat' (first|apply Qa|(intro h;try exact cDd)|exact⟨Tryz.call110⟩|(refine jn lw ?_)|exact cSd|apply qb []|refine exr ?_|refine qe ?_)
  |none=>
   have hpf:qe1 text=.tu [vu q.items,errP none]:=by unfold qe1 jl;rw[a8]
   rw[hpf];dsimp only at lw;repeat' (first|apply Qa|(intro h;try exact cDd)|exact⟨Tryz.call110⟩|(refine jn lw ?_)|exact cSd|apply qb []|refine exr ?_|refine qe ?_)
 .rintro c ⟨p,e⟩ ⟨a,m,rfl,rfl,tx⟩
  have hpf:qe1 text=.tu [vu [],errP (some (a,m))]:=by unfold qe1 jl;rw[tx]
  rw[hpf];repeat' (first|apply Qa|(intro h;try exact cDd)|exact cSd|apply qb []|refine exr ?_|refine qe ?_)
end Go.Proofs.YtlekheifonaipaaGreatDoor
namespace Go.Proofs.YtlekheifonaipaaGreatDoor
open Go Go.RowKit Go.Extern.Stop Go.Stop Go.Extern Go.Proofs
theorem asT.valueOf27(t:Addr)(w:World):(ReflectliteValue.unpack (.iface 269 (.pointer (some t)))).run Tryz.prog w
  =.ok (.agg #[.pointer (some ⟨9,269,none⟩),.pointer (some ⟨w.heap.size,0,none⟩),.int .u64 150]) (w.alloc (.cells #[.pointer (some t)] 269)):=Kr
theorem asT.type27(a:Addr)(w:World):(ReflectliteValue.methodAny (ReflectliteValue.valueError "reflectlite.Value.Type" 0) (λt _ _ _=>ReflectliteType.toType t) #[.agg #[.pointer (some ⟨9,269,none⟩),.pointer (some a),.int .u64 150]]).run Tryz.prog w
  =.ok (.iface 331 (.agg #[.pointer (some ⟨9,269,none⟩)])) w:=Kr
theorem asT.methodKind(h:Value)(w:World):(Go.method 495 331 (.agg #[h]) "Kind").run Tryz.prog w=.ok (289,h) w:=by kernel_rfl
theorem asT.kind27(w:World):((ReflectliteType.abiMethod λt=>(λa:Nat=>Value.int IntKind.u8 (a:Int))<$>Rtype.kind t) #[.pointer (some ⟨9,269,none⟩)]).run Tryz.prog w=.ok (.int .u8 22) w:=Kr
theorem asT.kind25(w:World):((ReflectliteType.abiMethod λt=>(λa:Nat=>Value.int IntKind.u8 (a:Int))<$>Rtype.kind t) #[.pointer (some ⟨9,76,none⟩)]).run Tryz.prog w=.ok (.int .u8 22) w:=Kr
theorem rlm(z:Sem Value)(f:TypeId->Addr->Nat->Nat->Sem Value)(v:Value):
  ReflectliteValue.method z f #[v]=(do match <-ReflectliteValue.parts v with|none=>z|some (t,a,fl)=>f t a fl (fl%32)):=rfl
theorem asT.parts27(a:Addr)(w:World):(ReflectliteValue.parts (.agg #[.pointer (some ⟨9,269,none⟩),.pointer (some a),.int .u64 150])).run Tryz.prog w=.ok (some (269,a,150)) w:=Kr
theorem asT.isNil27(a p:Addr)(W:World)(ha:W.cell? a=some (.pointer (some p))):
  (ReflectliteValue.method (ReflectliteValue.valueError "reflectlite.Value.IsNil" 0) ReflectliteValue.isNil #[.agg #[.pointer (some ⟨9,269,none⟩),.pointer (some a),.int .u64 150]]).run Tryz.prog W=.ok (.bool false) W:=by
 rw[rlm];simp only[Sem.run_bind,asT.parts27,Result.andThen];simp[ReflectliteValue.isNil,loadVar,isAgg,underlying,Tryz.underlying269,ha,Result.andThen]
theorem asT.methodElem(h:Value)(w:World):(Go.method 495 331 (.agg #[h]) "Elem").run Tryz.prog w=.ok (307,.agg #[h]) w:=by kernel_rfl
theorem asT.methodImplements(h:Value)(w:World):(Go.method 495 331 (.agg #[h]) "Implements").run Tryz.prog w=.ok (308,.agg #[h]) w:=by kernel_rfl
theorem asT.methodAssignableTo(h:Value)(w:World):(Go.method 495 331 (.agg #[h]) "AssignableTo").run Tryz.prog w=.ok (305,.agg #[h]) w:=by kernel_rfl
theorem asT.elem27(w:World):(ReflectliteType.method ReflectliteType.elem #[.agg #[.pointer (some ⟨9,269,none⟩)]]).run Tryz.prog w=.ok (.iface 331 (.agg #[.pointer (some ⟨9,76,none⟩)])) w:=Kr
theorem asT.implements25(w:World):(ReflectliteType.relation "Implements" ReflectliteType.implements_ #[.agg #[.pointer (some ⟨9,76,none⟩)],.iface 331 (.agg #[.pointer (some ⟨9,25,none⟩)])]).run Tryz.prog w=.ok (.bool true) w:=by kernel_rfl
theorem asT.typeOf25(v:Value)(w:World):(ReflectliteType.typeOf #[.iface 76 v]).run Tryz.prog w=.ok (.iface 331 (.agg #[.pointer (some ⟨9,76,none⟩)])) w:=Kr
theorem asT.assignable25(w:World):(ReflectliteType.relation "AssignableTo" ReflectliteType.assignableTo #[.agg #[.pointer (some ⟨9,76,none⟩)],.iface 331 (.agg #[.pointer (some ⟨9,76,none⟩)])]).run Tryz.prog w=.ok (.bool true) w:=by kernel_rfl
theorem asT.valueOf25(e:Addr)(w:World):(ReflectliteValue.unpack (.iface 76 (.pointer (some e)))).run Tryz.prog w
  =.ok (.agg #[.pointer (some ⟨9,76,none⟩),.pointer (some ⟨w.heap.size,0,none⟩),.int .u64 150]) (w.alloc (.cells #[.pointer (some e)] 76)):=Kr
theorem asT.elemOf27(w:World):(Rtype.elem? 269).run Tryz.prog w=.ok (some 76) w:=Kr
theorem asT.mk25(p:Addr)(w:World):(ReflectliteValue.mk 76 p ReflectliteValue.flagAddr).run Tryz.prog w=.ok (.agg #[.pointer (some ⟨9,76,none⟩),.pointer (some p),.int .u64 406]) w:=Kr
theorem asT.elemV27(a p:Addr)(W:World)(ha:W.cell? a=some (.pointer (some p))):
  (ReflectliteValue.method (ReflectliteValue.valueError "reflectlite.Value.Elem" 0) ReflectliteValue.elem #[.agg #[.pointer (some ⟨9,269,none⟩),.pointer (some a),.int .u64 150]]).run Tryz.prog W
   =.ok (.agg #[.pointer (some ⟨9,76,none⟩),.pointer (some p),.int .u64 406]) W:=by
 rw[rlm];simp only[Sem.run_bind,asT.parts27,Result.andThen];simp[ReflectliteValue.elem,loadVar,isAgg,underlying,Tryz.underlying269,ha,Result.andThen,asT.elemOf27,asT.mk25]
theorem rls(v x:Value):ReflectliteValue.set #[v,x]=(do
  let (some (dst,a,fl),some (src,b,_)):=(<-ReflectliteValue.parts v,<-ReflectliteValue.parts x)
   |unsupported (.noEntry "extern/(internal/reflectlite.Value).Set.zeroValue")
  if fl / ReflectliteValue.flagAddr%2==0 then unsupported (.noEntry "extern/(internal/reflectlite.Value).Set.unaddressable")
  let val <-loadVar src b
  if <-Rtype.directlyAssignable dst src then storeVar dst a val
  else if <-Rtype.implements dst src then
   if(<-Rtype.kind src)==20 then
    match val with
    |.nilIface=>unsupported (.noEntry "extern/reflectlite: a nil value of one interface type handed on as a value of another")
    |_=>storeVar dst a val
   else storeVar dst a (.iface src val)
  else panicString ("reflectlite.Set: value of type " ++(<-Rtype.spelt src)++ " is not assignable to type " ++(<-Rtype.spelt dst))
  pure (.tuple #[])):=rfl
theorem asT.parts25a(a:Addr)(w:World):(ReflectliteValue.parts (.agg #[.pointer (some ⟨9,76,none⟩),.pointer (some a),.int .u64 406])).run Tryz.prog w=.ok (some (76,a,406)) w:=Kr
theorem asT.parts25(a:Addr)(w:World):(ReflectliteValue.parts (.agg #[.pointer (some ⟨9,76,none⟩),.pointer (some a),.int .u64 150])).run Tryz.prog w=.ok (some (76,a,150)) w:=Kr
theorem asT.direct25(w:World):(Rtype.directlyAssignable 76 76).run Tryz.prog w=.ok true w:=Kr
theorem asT.set25(ta b e:Addr)(old:Value)(W:World)(hb:W.cell? b=some (.pointer (some e)))(ht:W.cell? ta=some old)(hf:W.frozen? ta=false):
  (ReflectliteValue.set #[.agg #[.pointer (some ⟨9,76,none⟩),.pointer (some ta),.int .u64 406],.agg #[.pointer (some ⟨9,76,none⟩),.pointer (some b),.int .u64 150]]).run Tryz.prog W
   =.ok (.tuple #[]) (W.setCell ta (.pointer (some e))):=by
 rw[rls];simp only[Sem.run_bind,asT.parts25a,asT.parts25,Result.andThen];simp[ReflectliteValue.flagAddr,loadVar,isAgg,underlying,Tryz.underlying76,hb,Result.andThen,asT.direct25,storeVar,Value.cells,storeCells,Addr.add];rw[run_store Tryz.prog W ta _ _ (by rfl)];simp[ht,hf]
set_option maxHeartbeats 4000000 in
theorem zoa(e t:Addr)(old:Value)(w:World)(hg:w.cell? ⟨0,0,none⟩=some (.iface 331 (.agg #[.pointer (some ⟨9,25,none⟩)])))(ht0:w.cell? t=some old)(hf0:w.frozen? t=false):
  Calls Tryz.prog 182 #[.iface 76 (.pointer (some e)),.iface 269 (.pointer (some t))] w λev w'=>ev=.returned (.bool true)∧w'=((((w.alloc (.cells #[.pointer (some t)] 269)).alloc (.cells #[.pointer (some ⟨9,269,none⟩),.pointer (some ⟨w.heap.size,0,none⟩),.int .u64 150] 299)).alloc (.cells #[.pointer (some ⟨9,269,none⟩),.pointer (some ⟨w.heap.size,0,none⟩),.int .u64 150] 299)).alloc (.cells #[.pointer (some e)] 76)).setCell t (.pointer (some e)):=by
 have h6:=@run_callFunc_extern Tryz.prog 214 _ (λargs=>ReflectliteValue.unpack (args.getD 0 (.tuple #[]))) Tryz.func214 Kr Kr Kr Kr
 have h7:= @run_callFunc_extern Tryz.prog 215 _ (ReflectliteValue.methodAny (ReflectliteValue.valueError "reflectlite.Value.Type" 0) (λt _ _ _=>ReflectliteType.toType t)) Tryz.func215 (by kernel_rfl) (by kernel_rfl) (by kernel_rfl) (by kernel_rfl)
 have h8:= @run_callFunc_extern Tryz.prog 216 _ (ReflectliteValue.method (ReflectliteValue.valueError "reflectlite.Value.IsNil" 0) ReflectliteValue.isNil) Tryz.func216 (by kernel_rfl) (by kernel_rfl) (by kernel_rfl) (by kernel_rfl)
 have h27:=@run_callFunc_extern Tryz.prog 289 _ (ReflectliteType.abiMethod λt=>do pure (.int .u8 (<-Rtype.kind t))) Tryz.func289 Kr Kr Kr Kr;have h37:=@run_callFunc_extern Tryz.prog 307 _ (ReflectliteType.method ReflectliteType.elem) Tryz.func307 Kr Kr Kr Kr
 have h38:= @run_callFunc_extern Tryz.prog 308 _ (ReflectliteType.relation "Implements" ReflectliteType.implements_) Tryz.func308 (by kernel_rfl) (by kernel_rfl) (by kernel_rfl) (by kernel_rfl)
 have i3:=@run_callFunc_extern Tryz.prog 247 _ ReflectliteType.typeOf Tryz.func247 Kr Kr Kr Kr
 have h35:= @run_callFunc_extern Tryz.prog 305 _ (ReflectliteType.relation "AssignableTo" ReflectliteType.assignableTo) Tryz.func305 (by kernel_rfl) (by kernel_rfl) (by kernel_rfl) (by kernel_rfl)
 have h11:= @run_callFunc_extern Tryz.prog 248 _ (ReflectliteValue.method (ReflectliteValue.valueError "reflectlite.Value.Elem" 0) ReflectliteValue.elem) Tryz.func248 (by kernel_rfl) (by kernel_rfl) (by kernel_rfl) (by kernel_rfl)
 have h12:=@run_callFunc_extern Tryz.prog 249 _ ReflectliteValue.set Tryz.func249 Kr Kr Kr Kr;have tO:=asT.typeOf25;have mA:=asT.methodAssignableTo;have a25:=asT.assignable25;have v25:=asT.valueOf25;have f6:=asT.valueOf27;have f7:=asT.type27;have mK:=asT.methodKind;have mE:=asT.methodElem;have mI:=asT.methodImplements;have k27:=asT.kind27;have k25:=asT.kind25;have e27:=asT.elem27;have i25:=asT.implements25;have n8:=asT.isNil27 ⟨w.heap.size,0,none⟩ t ((w.alloc (.cells #[.pointer (some t)] 269)).alloc (.cells #[.pointer (some ⟨9,269,none⟩),.pointer (some ⟨w.heap.size,0,none⟩),.int .u64 150] 299)) Sx
 have d9:0<w.heap.size:=by
  rcases Zb 0 w.heap.size with h|h
  .exact h
  .simp[World.cell?,Qx h]at hg
 have hg2:((w.alloc (.cells #[.pointer (some t)] 269)).alloc (.cells #[.pointer (some ⟨9,269,none⟩),.pointer (some ⟨w.heap.size,0,none⟩),.int .u64 150] 299)).cell? ⟨0,0,none⟩=some (.iface 331 (.agg #[.pointer (some ⟨9,25,none⟩)])):=by
  rw[World.cell?_alloc_lt _ _ ⟨0,0,none⟩ (by first|(simp;done)|(simp;omega)),World.cell?_alloc_lt _ _ ⟨0,0,none⟩ d9];exact hg
 have sw:t.block<w.heap.size:=by
  rcases Zb t.block w.heap.size with h|h
  .exact h
  .simp[World.cell?,Qx h]at ht0
 have el:=asT.elemV27 ⟨w.heap.size,0,none⟩ t (((w.alloc (.cells #[.pointer (some t)] 269)).alloc (.cells #[.pointer (some ⟨9,269,none⟩),.pointer (some ⟨w.heap.size,0,none⟩),.int .u64 150] 299)).alloc (.cells #[.pointer (some ⟨9,269,none⟩),.pointer (some ⟨w.heap.size,0,none⟩),.int .u64 150] 299)) (by rw[World.cell?_alloc_lt _ _ ⟨w.heap.size,0,none⟩ (by first|(simp;done)|(simp;omega))];simp)
 have st:=asT.set25 t ⟨w.heap.size+1+1+1,0,none⟩ e old ((((w.alloc (.cells #[.pointer (some t)] 269)).alloc (.cells #[.pointer (some ⟨9,269,none⟩),.pointer (some ⟨w.heap.size,0,none⟩),.int .u64 150] 299)).alloc (.cells #[.pointer (some ⟨9,269,none⟩),.pointer (some ⟨w.heap.size,0,none⟩),.int .u64 150] 299)).alloc (.cells #[.pointer (some e)] 76))
  (by rw[World.cell?_alloc_at _ _ _ _ Sx];rfl)
  (by rw[World.cell?_alloc_lt _ _ t (by first|(simp;done)|(simp;omega)),World.cell?_alloc_lt _ _ t (by first|(simp;done)|(simp;omega)),World.cell?_alloc_lt _ _ t (by first|(simp;done)|(simp;omega)),World.cell?_alloc_lt _ _ t sw];exact ht0)
  (by rw[World.frozen?_alloc_old _ _ t (by first|(simp;done)|(simp;omega)),World.frozen?_alloc_old _ _ t (by first|(simp;done)|(simp;omega)),World.frozen?_alloc_old _ _ t (by first|(simp;done)|(simp;omega)),World.frozen?_alloc_old _ _ t (Nat.ne_of_lt sw)];exact hf0)
 go_enter Tryz.func182,Tryz.ntmps182
 go_wp2
 refine wp_loop_rounds 1 ?_;rw[rounds_succ]
 go_wp2
 go_ret
 exact⟨rfl,rfl⟩
theorem asT.typeOf31(v:Value)(w:World):(ReflectliteType.typeOf #[.iface 61 v]).run Tryz.prog w=.ok (.iface 331 (.agg #[.pointer (some ⟨9,61,none⟩)])) w:=Kr
theorem asT.assignable31(w:World):(ReflectliteType.relation "AssignableTo" ReflectliteType.assignableTo #[.agg #[.pointer (some ⟨9,61,none⟩)],.iface 331 (.agg #[.pointer (some ⟨9,76,none⟩)])]).run Tryz.prog w=.ok (.bool false) w:=by kernel_rfl
theorem asT.no230(v:Value)(xT:TypeId)(w:World):(Instr.typeAssert (.iface 61 v) xT 336 true).run Tryz.prog w=.ok (.tuple #[.nilIface,.bool false]) w:=run_typeAssert_lacksB Tryz.underlying336 Kr Kr v xT w
theorem asT.no233(v:Value)(xT:TypeId)(w:World):(Instr.typeAssert (.iface 61 v) xT 339 true).run Tryz.prog w=.ok (.tuple #[.nilIface,.bool false]) w:=run_typeAssert_lacksB Tryz.underlying339 Kr Kr v xT w
theorem asT.no234(v:Value)(xT:TypeId)(w:World):(Instr.typeAssert (.iface 61 v) xT 340 true).run Tryz.prog w=.ok (.tuple #[.nilIface,.bool false]) w:=run_typeAssert_lacksB Tryz.underlying340 Kr Kr v xT w
set_option maxHeartbeats 4000000 in
theorem zl2(n:Int)(t:Addr)(old:Value)(w:World)(hg:w.cell? ⟨0,0,none⟩=some (.iface 331 (.agg #[.pointer (some ⟨9,25,none⟩)])))(ht0:w.cell? t=some old):
  Calls Tryz.prog 182 #[.iface 61 (.int .i64 n),.iface 269 (.pointer (some t))] w λev w'=>ev=.returned (.bool false)∧Below w.heap.size w w':=by
 have h6:=@run_callFunc_extern Tryz.prog 214 _ (λargs=>ReflectliteValue.unpack (args.getD 0 (.tuple #[]))) Tryz.func214 Kr Kr Kr Kr
 have h7:= @run_callFunc_extern Tryz.prog 215 _ (ReflectliteValue.methodAny (ReflectliteValue.valueError "reflectlite.Value.Type" 0) (λt _ _ _=>ReflectliteType.toType t)) Tryz.func215 (by kernel_rfl) (by kernel_rfl) (by kernel_rfl) (by kernel_rfl)
 have h8:= @run_callFunc_extern Tryz.prog 216 _ (ReflectliteValue.method (ReflectliteValue.valueError "reflectlite.Value.IsNil" 0) ReflectliteValue.isNil) Tryz.func216 (by kernel_rfl) (by kernel_rfl) (by kernel_rfl) (by kernel_rfl)
 have h27:=@run_callFunc_extern Tryz.prog 289 _ (ReflectliteType.abiMethod λt=>do pure (.int .u8 (<-Rtype.kind t))) Tryz.func289 Kr Kr Kr Kr;have h37:=@run_callFunc_extern Tryz.prog 307 _ (ReflectliteType.method ReflectliteType.elem) Tryz.func307 Kr Kr Kr Kr
 have h38:= @run_callFunc_extern Tryz.prog 308 _ (ReflectliteType.relation "Implements" ReflectliteType.implements_) Tryz.func308 (by kernel_rfl) (by kernel_rfl) (by kernel_rfl) (by kernel_rfl)
 have i3:=@run_callFunc_extern Tryz.prog 247 _ ReflectliteType.typeOf Tryz.func247 Kr Kr Kr Kr
 have h35:= @run_callFunc_extern Tryz.prog 305 _ (ReflectliteType.relation "AssignableTo" ReflectliteType.assignableTo) Tryz.func305 (by kernel_rfl) (by kernel_rfl) (by kernel_rfl) (by kernel_rfl)
 have h11:= @run_callFunc_extern Tryz.prog 248 _ (ReflectliteValue.method (ReflectliteValue.valueError "reflectlite.Value.Elem" 0) ReflectliteValue.elem) Tryz.func248 (by kernel_rfl) (by kernel_rfl) (by kernel_rfl) (by kernel_rfl)
 have h12:=@run_callFunc_extern Tryz.prog 249 _ ReflectliteValue.set Tryz.func249 Kr Kr Kr Kr;have tO:=asT.typeOf31;have mA:=asT.methodAssignableTo;have a25:=asT.assignable31;have f6:=asT.valueOf27;have f7:=asT.type27;have mK:=asT.methodKind;have mE:=asT.methodElem;have mI:=asT.methodImplements;have k27:=asT.kind27;have k25:=asT.kind25;have e27:=asT.elem27;have i25:=asT.implements25;have n8:=asT.isNil27 ⟨w.heap.size,0,none⟩ t ((w.alloc (.cells #[.pointer (some t)] 269)).alloc (.cells #[.pointer (some ⟨9,269,none⟩),.pointer (some ⟨w.heap.size,0,none⟩),.int .u64 150] 299)) Sx
 have d9:0<w.heap.size:=by
  rcases Zb 0 w.heap.size with h|h
  .exact h
  .simp[World.cell?,Qx h]at hg
 have hg2:((w.alloc (.cells #[.pointer (some t)] 269)).alloc (.cells #[.pointer (some ⟨9,269,none⟩),.pointer (some ⟨w.heap.size,0,none⟩),.int .u64 150] 299)).cell? ⟨0,0,none⟩=some (.iface 331 (.agg #[.pointer (some ⟨9,25,none⟩)])):=by
  rw[World.cell?_alloc_lt _ _ ⟨0,0,none⟩ (by first|(simp;done)|(simp;omega)),World.cell?_alloc_lt _ _ ⟨0,0,none⟩ d9];exact hg
 have sw:t.block<w.heap.size:=by
  rcases Zb t.block w.heap.size with h|h
  .exact h
  .simp[World.cell?,Qx h]at ht0
 have n1:=asT.no230;have n2:=asT.no233;have n3:=asT.no234
 go_enter Tryz.func182,Tryz.ntmps182
 go_wp2
 refine wp_loop_rounds 1 ?_;rw[rounds_succ]
 go_wp2
 go_ret
 exact⟨rfl,(((Below.refl _ _).alloc (Qn _) _).alloc Sx _).alloc (by first|(simp;done)|(simp;omega)) _⟩
end Go.Proofs.YtlekheifonaipaaGreatDoor
namespace Go.Proofs.YtlekheifonaipaaGreatDoor
open Go Go.Av Go.RowKit Go.Proofs Go.Pl
theorem q9v{w:World}{b:Nat}{T:TypeId}{fz:Nat×Nat}{c:Array Value}(v:Value)(hc:w.heap[b]?=some (.cells c T fz))(h1:c.size=1):w.setCell ⟨b,0,none⟩ v=w.setRow b #[v]:=by
 unfold World.setCell World.setRow;congr 1;apply Array.ext_getElem?;intro i;rw[Zg,Zg];by_cases hi:b=i
 .subst hi
  rw[if_pos rfl,if_pos rfl,hc]
  have:c.setIfInBounds 0 v= #[v]:=by
   apply Array.ext
   .simp[h1]
   .intro i h2 h3
    have:i=0:=by simp at h3;omega
    subst this;simp
  simp[this]
 .rw[if_neg hi,if_neg hi]
theorem zl1(a n:Int)(o:Nat)(st:List AObj)(ho:st[o]?=some (.cells 0 76 [.v (.pointer none)])):qp E 182 [qjp a n,.ifc 269 (.bx o 0 0)] st λr st'=>r=Bv true∧st'=st.set o (.cells 0 76 [.pp [Iv a,.ifc 61 (Iv n)]]):=by
 refine⟨λB0 w0 G vals w hL hA hR=>?_⟩
 obtain⟨v1,v2,rfl⟩:∃x y,vals= #[x,y]:=by
  have:=hR.1
  match vals,this with
  |⟨[x,y]⟩,_=>exact⟨x,y,rfl⟩
 have h1:=hR.2 0 _ v1 rfl rfl;have h2:=hR.2 1 _ v2 rfl rfl;unfold qjp at h1
 cases h1 with
 |ifc _ _ y1 h1=>
  cases h2 with
  |ifc _ _ y2 h2=>
   have hpp:=h1
   cases h1 with
   |pp _ b off pub hp d5 hr=>
    cases h2 with
    |bx _ _ _ b2 hn hv hb=>
     obtain⟨_,g1,g2,g3,c,g4,g5,g6⟩:=hA.ob o _ ho;have hb:=hb g1;subst hb;have hc1:c.size=1:=by simpa using g5.symm
     have hl:=(hL w hA.below).ert;have db:w.cell? ⟨(G.ob o).blk,0,none⟩=some c[0]:=by simp[World.cell?,g4,hc1]
     have hfz:w.frozen? ⟨(G.ob o).blk,0,none⟩=false:=by simp[World.frozen?,g4]
     have d9:(G.ob o).blk<w.heap.size:=(Array.getElem?_eq_some_iff.1 g4).1;refine(zoa ⟨b,off,none⟩ ⟨(G.ob o).blk,0,none⟩ c[0] w hl db hfz).mono ?_;rintro e w' ⟨rfl,rfl⟩
     have p9:Below w.heap.size w ((((w.alloc (.cells #[.pointer (some ⟨(G.ob o).blk,0,none⟩)] 269)).alloc (.cells #[.pointer (some ⟨9,269,none⟩),.pointer (some ⟨w.heap.size,0,none⟩),.int .u64 150] 299)).alloc (.cells #[.pointer (some ⟨9,269,none⟩),.pointer (some ⟨w.heap.size,0,none⟩),.int .u64 150] 299)).alloc (.cells #[.pointer (some ⟨b,off,none⟩)] 76)):=
      ((((Below.refl _ _).alloc (Qn _) _).alloc Sx _).alloc (by first|(simp;done)|(simp;omega)) _).alloc (by first|(simp;done)|(simp;omega)) _
     have gw:=hA.fresh p9;obtain⟨_,k1,k2,k3,c',k4,k5,k6⟩:=gw.ob o _ ho;have hc1':c'.size=1:=by simpa using k5.symm
     refine⟨.bool true,G,Bv true,_,rfl,.refl G,?_,.v _,rfl,rfl⟩;rw[q9v _ k4 hc1']
     exact gw.setRow ho Sx λi x y hx hy=>by
      match i with
      |0=>simp at hx hy;subst hx;subst hy;exact hpp
      |i+1=>simp at hx
theorem zil(n:Int)(o:Nat)(st:List AObj)(ho:st[o]?=some (.cells 0 76 [.v (.pointer none)])):qp E 182 [.ifc 61 (Iv n),.ifc 269 (.bx o 0 0)] st λr st'=>r=Bv false∧st'=st:=by
 refine⟨λB0 w0 G vals w hL hA hR=>?_⟩
 obtain⟨v1,v2,rfl⟩:∃x y,vals= #[x,y]:=by
  have:=hR.1
  match vals,this with
  |⟨[x,y]⟩,_=>exact⟨x,y,rfl⟩
 have h1:=hR.2 0 _ v1 rfl rfl;have h2:=hR.2 1 _ v2 rfl rfl
 cases h1 with
 |ifc _ _ y1 h1=>
  cases h2 with
  |ifc _ _ y2 h2=>
   cases h1 with
   |v=>
    cases h2 with
    |bx _ _ _ b2 hn hv hb=>
     obtain⟨_,g1,g2,g3,c,g4,g5,g6⟩:=hA.ob o _ ho;have hb:=hb g1;subst hb;have hc1:c.size=1:=by simpa using g5.symm
     have hl:=(hL w hA.below).ert;have db:w.cell? ⟨(G.ob o).blk,0,none⟩=some c[0]:=by simp[World.cell?,g4,hc1]
     refine(zl2 n ⟨(G.ob o).blk,0,none⟩ c[0] w hl db).mono ?_;rintro e w' ⟨rfl,hb⟩;exact⟨_,G,Bv false,st,rfl,.refl G,hA.fresh hb,.v _,rfl,rfl⟩
end Go.Proofs.YtlekheifonaipaaGreatDoor
namespace Go.Proofs.YtlekheifonaipaaGreatDoor
open Go Go.Av Go.RowKit Go.Extern.Stop Go.Stop Go.Extern Go.Proofs
theorem isT.has(v:Value)(xT:TypeId)(w:World):(Instr.typeAssert (.iface 76 v) xT 339 true).run Tryz.prog w=.ok (.tuple #[.iface 76 v,.bool true]) w:=run_typeAssert_hasB Tryz.underlying339 Kr v xT w
theorem isT.typeOf(v:Value)(w:World):(ReflectliteType.typeOf #[.iface 61 v]).run Tryz.prog w=.ok (.iface 331 (.agg #[.pointer (some ⟨9,61,none⟩)])) w:=Kr
theorem isT.cmp(w:World):(ReflectliteType.method (λt=>do Rtype.noPackHeld "Comparable" t;(λa=>Value.bool a.comparable)<$>typeInfo t) #[.agg #[.pointer (some ⟨9,61,none⟩)]]).run Tryz.prog w=.ok (.bool true) w:=by kernel_rfl
end Go.Proofs.YtlekheifonaipaaGreatDoor
namespace Go.Pl
open Go Go.Proofs
inductive ErrV where
 |no
 |num (n:Int)
 |at' (a n:Int)
 deriving DecidableEq
def ErrV.code:ErrV->Int
 |.no=>0
 |.num n=>n
 |.at' _ n=>n
def ErrV.pos:ErrV->Int
 |.no=> -9
 |.num _=> -9
 |.at' a _=>a
def xm:Nat->List Fld->ErrV
 |_,[]=>.no
 |k,f::r=>if vj f=0 then xm (k+1) r else .at' k (vj f)
def z0(fs:List Fld):ErrV:=if fs=[]then .num 2 else if 40<fs.length then .num 11 else xm 0 fs
theorem qth:∀(k:Nat)(p r:List Fld),(∀x∈p,vj x=0)->xm k (p++r)=xm (k+p.length) r
 |k,[],r,_=>by simp
 |k,f::p,r,h=>by
  have h1:=h f Sx;rw[Qj,xm,if_pos h1,qth (k+1) p r λx hx=>h x (by simp[hx])];congr 1;simp;omega
theorem qqz:∀(k:Nat)(r:List Fld),(xm k r).code=0↔xm k r=.no
 |k,[]=>by simp[xm,ErrV.code]
 |k,f::r=>by
  unfold xm;split
  .exact qqz _ r
  .rename_i h
   simp[ErrV.code,h]
theorem qla(fs:List Fld):(z0 fs).code=0↔z0 fs=.no:=by
 unfold z0;split
 .simp[ErrV.code]
 .split
  .simp[ErrV.code]
  .exact qqz _ _
end Go.Pl
namespace Go.Proofs.YtlekheifonaipaaGreatDoor
open Go Go.Av Go.RowKit Go.Proofs Go.Pl
theorem qzn{st st':List AObj}(h:∀k,k<st.length->st'[k]?=st[k]?):∃ext,st'=st++ext:=by
 refine qor ?_ h;rcases Nat.eq_zero_or_pos st.length with h0|h0
 .omega
 .have h1:=h (st.length-1) Om
  have h2:st[st.length-1]?=some (st[st.length-1]'(by omega)):=Qg Om;have:=lt_of_getElem? (h1.trans h2);omega
def gErr(x:qm):ErrV:=if x.kind=2 then(if x.fields=[]then .no else .num 2)else if x.kind=1∨x.kind=3 then z0 x.fields else .num 2
def qa3:Nat->List qm->ErrV
 |_,[]=>.no
 |k,x::r=>if(gErr x).code=0 then qa3 (k+1) r else .at' k (gErr x).code
def eErr(b:List qm):ErrV:=if b.length<1∨40<b.length then .num 1 else qa3 0 b
theorem qra(x:qm):(gErr x).code=0↔gErr x=.no:=by
 unfold gErr;split
 .split <;>simp[ErrV.code]
 .split
  .exact qla _
  .simp[ErrV.code]
theorem qw8:∀(k:Nat)(r:List qm),(qa3 k r).code=0↔qa3 k r=.no
 |k,[]=>by simp[qa3,ErrV.code]
 |k,f::r=>by
  unfold qa3;split
  .exact qw8 _ r
  .rename_i h
   simp[ErrV.code]at h⊢;exact h
theorem qdr(b:List qm):(eErr b).code=0↔eErr b=.no:=by
 unfold eErr;split
 .simp[ErrV.code]
 .exact qw8 _ _
def errA:ErrV->AV
 |.no=>.v .nilIface
 |.num n=>.ifc 61 (Iv n)
 |.at' a n=>.ifc 76 (.pp [Iv a,.ifc 61 (Iv n)])
theorem ki(e:ErrV):Pure (errA e):=by
 cases e with
 |no=>exact qr _
 |num n=>exact qd2 (qr _)
 |at' a n=>exact qm4 a n
def KeyB(fs:List Fld):Prop:=∀f∈fs,f.1.length<4294967281
theorem q5n{fs:List Fld}{i:Nat}{x:Fld}(h:fs[i]?=some x):(fs.map fldA)[i]?=some (fldA x):=by simp[h]
theorem qq5{b:List qm}{i:Nat}{x:qm}(h:b[i]?=some x):(b.map zt)[i]?=some (zt x):=by simp[h]
theorem q0y{fs:List Fld}(h:¬0<fs.length):z0 fs=.num 2:=if_pos (List.length_eq_zero_iff.1 Om)
theorem qwv{fs:List Fld}(h:40<fs.length):z0 fs=.num 11:=(if_neg λh0=>by simp[h0]at h).trans (if_pos h)
theorem q0z{fs:List Fld}(h0:0<fs.length)(h:¬40<fs.length):z0 fs=xm 0 fs:=(if_neg (Qz.1 h0)).trans (if_neg h)
theorem qpl(fs:List Fld)(st:List AObj)(e:ErrV)(h:z0 fs=e)(hK:KeyB fs)(hl:fs.length<9223372036854775808):qp E 169 [jd fs] st λr st'=>r=errA e∧st'=st:=by
 subst h;refine ze [.a (jd fs)] (ki _) Tryz.func169 rfl rfl (λ_=>rfl) rfl λS0=>?_;have o0:(fs.map fldA).length=fs.length:=Sx
 apply qd [];repeat' (first|apply Qa|(intro h;try exact cDd)|exact cSd|apply qb []|refine exr ?_|refine qe ?_)
 .rw[q0y Om];rfl
 .rw[qwv Om];rfl
 rw[q0z Om Om];refine zw (X:=Nat) (λk=>⟨[(16,.a (jd fs)),(17,.i (fs.map fldA).length),(18,.i k)],[],0⟩) (λk=>k<=fs.length∧xm k (fs.drop k)=xm 0 fs) (λk=>fs.length-k) 0 ⟨Om,rfl⟩ ?_ ?_
 .skip
  repeat' (first|apply Qa|(intro h;try exact cDd)|exact cSd|apply qb []|refine exr ?_|refine qe ?_)
 .rintro k ⟨hk,hc⟩
  by_cases d9:k<fs.length
  .obtain⟨y,hy⟩:∃y,fs[k]?=some y:=⟨_,Qg d9⟩
   have d8:=q5n hy;have rz:=hK y (Qu hy);obtain⟨_,hye⟩:=Ql.1 hy;rw[Qm d9,hye,xm]at hc;rw[<-hc];by_cases ha:vj y=0
   .have hc4:=λst=>qlh y st rz ha
    apply qd [4];repeat' (first|apply Qa|(intro h;try exact cDd)|(refine Qb (k) ⟨Om,_,d8,?_⟩)|exact⟨Tryz.call170⟩|refine cpe hc4 ?_|(refine Qb (k+1) ⟨⟨Om,by simp_all⟩,Om,?_⟩)|exact cSd|apply qb [4]|refine exr ?_|refine qe ?_)
   .have hc4:=λst=>qli y st rz ha
    rw[if_neg ha];apply qd [4];repeat' (first|apply Qa|(intro h;try exact cDd)|(refine Qb (k) ⟨Om,_,d8,?_⟩)|exact⟨Tryz.call170⟩|refine cpe hc4 ?_|exact cSd|apply qb [4]|refine exr ?_|refine qe ?_)
  .rw[Qp Om,xm]at hc
   rw[<-hc];apply qd [];repeat' (first|apply Qa|(intro h;try exact cDd)|exact cSd|apply qb []|refine exr ?_|refine qe ?_)
theorem zmo(x:qm)(st:List AObj)(e:ErrV)(h:gErr x=e)(hK:KeyB x.fields)(hl:x.fields.length<9223372036854775808):qp E 113 [zt x] st λr st'=>r=errA e∧st'=st:=by
 subst h;refine ze [.a (zt x)] (ki _) Tryz.func113 rfl rfl (λ_=>rfl) rfl λS0=>?_;have o0:(x.fields.map fldA).length=x.fields.length:=Sx
 have cx:x.fields=[]↔x.fields.length=0:=Sx
 have hc6:=λst=>qpl x.fields st _ rfl hK hl;unfold gErr;simp only[cx];generalize z0 x.fields=e at *
 cases e
 all_goals apply qd [1]
 repeat' (first|apply Qa|(intro h;try exact cDd)|exact⟨Tryz.call169⟩|refine cpe hc6 ?_|exact cSd|apply qb [1]|refine exr ?_|refine qe ?_)
 all_goals clear hc6
 all_goals grind [errA]
theorem zjb(n:Int)(st:List AObj):qp E 128 [.ifc 61 (Iv n)] st λr st'=>r=.ifc 61 (Iv n)∧st'=st:=by
 refine qz (qd2 (qr _)) (qq Tryz.func128 rfl (Qc rfl) ?_);repeat' (first|apply qo|apply qf|apply qh|apply qj|apply qg|(apply qc;rfl;apply cd_f;exact cRa)|(apply vr;rfl;rfl)|(apply j7;rfl;rfl)|apply qv|apply qu|(apply qk;exact Tryz.call182;exact zil _ (st.length+0) _ (j9 rfl)))
 exact qn rfl (q5 rfl) ⟨rfl,_,rfl⟩
theorem zja(a n:Int)(st:List AObj):qp E 128 [qjp a n] st λr st'=>r=.ifc 61 (Iv n)∧st'=st:=by
 refine qz (qd2 (qr _)) (qq Tryz.func128 rfl (Qc rfl) ?_);repeat' (first|apply qo|apply qf|apply qh|apply qj|apply qg|(apply qc;rfl;apply cd_t;exact cRa)|(apply vr;rfl;rfl)|(apply j7;rfl;rfl)|(apply yl;rfl;rfl;rfl;rfl)|(apply jq;rfl;rfl;rfl)|(apply ww;rfl;rfl)|apply qu|(apply qk;exact Tryz.call182;exact zl1 a n (st.length+0) _ (j9 rfl))|(apply vc;rfl;(focus first|assumption|(repeat' (first|assumption|exact yg|exact j9 rfl|apply kg|apply j8|omega|apply qc4)));rfl;rfl))
 exact qn rfl (q5 rfl) ⟨rfl,qzn λj hj=>(qts Om).trans (Za hj)⟩
theorem quw(k:Int)(e:ErrV)(st:List AObj)(he:e.code≠0):qp E 85 [Iv k,errA e] st λr st'=>r=errA (.at' k e.code)∧st'=st:=by
 refine qz (ki _) (qq Tryz.func85 rfl (Qc rfl) ?_)
 cases e with
 |no=>exact absurd rfl he
 |num n=>
  repeat' (first|(apply qqq;rfl;rfl;rfl)|apply qo|apply qf|apply qh|apply qj|apply qg|(apply vr;rfl;rfl)|(apply yf;rfl;rfl;rfl)|apply qu|(apply qk;exact Tryz.call128;exact zjb _ _))
  exact qn rfl (q5 rfl) ⟨rfl,_,rfl⟩
 |at' a n=>
  repeat' (first|(apply qqq;rfl;rfl;rfl)|apply qo|apply qf|apply qh|apply qj|apply qg|(apply vr;rfl;rfl)|(apply yf;rfl;rfl;rfl)|apply qu|(apply qk;exact Tryz.call128;exact zja a n _))
  exact qn rfl (q5 rfl) ⟨rfl,_,rfl⟩
structure EdB (x:qm):Prop where
 keys:KeyB x.fields
 len:x.fields.length<9223372036854775808
 id1: -9223372036854775808<=x.id
 id2:x.id<=9223372036854775807
@[reducible] def zh (b : List qm) : AV := .sl 3 (b.map zt) none
theorem qon(b:List qm)(st:List AObj)(e:ErrV)(h:eErr b=e)(hB:∀x∈b,EdB x)(hl:b.length<9223372036854775808):qp E 67 [zh b] st λr st'=>r=errA e∧st'=st:=by
 subst h;refine ze [.a (zh b)] (ki _) Tryz.func67 rfl rfl (λ_=>rfl) rfl λS0=>?_;have o0:(b.map zt).length=b.length:=Sx
 have h1:b.length<1∨40<b.length->eErr b=.num 1:=λh=>if_pos h;have hr:¬(b.length<1∨40<b.length)->eErr b=qa3 0 b:=λh=>if_neg h;apply qd [];repeat' (first|apply Qa|(intro h;try exact cDd)|exact cSd|apply qb []|refine exr ?_|refine qe ?_)
 .rw[h1 Om];rfl
 .rw[h1 Om];rfl
 rw[hr Om];refine zw (X:=Nat) (λk=>⟨[(15,.a (zh b)),(16,.i (b.map zt).length),(17,.i k)],[],0⟩) (λk=>k<=b.length∧qa3 k (b.drop k)=qa3 0 b) (λk=>b.length-k) 0 ⟨Om,rfl⟩ ?_ ?_
 .skip
  repeat' (first|apply Qa|(intro h;try exact cDd)|exact cSd|apply qb []|refine exr ?_|refine qe ?_)
 .rintro k ⟨hk,hc⟩
  by_cases d9:k<b.length
  .obtain⟨y,hy⟩:∃y,b[k]?=some y:=⟨_,Qg d9⟩
   have d8:=qq5 hy;have rz:=hB y (Qu hy);obtain⟨_,hye⟩:=Ql.1 hy;rw[Qm d9,hye,qa3]at hc;have hc9:=λst=>zmo y st _ rfl rz.keys rz.len;have hcf:=λst=>quw k (gErr y) st;rw[<-hc]
   cases hg:gErr y
   all_goals rw[hg]at hc hc9 hcf
   .apply qd [4]
    repeat' (first|apply Qa|(intro h;try exact cDd)|(refine Qb (k) ⟨Om,_,d8,?_⟩)|exact⟨Tryz.call113⟩|refine cpe hc9 ?_|(refine Qb (k+1) ⟨⟨Om,(if_pos rfl).symm⟩,Om,?_⟩)|exact cSd|apply qb [4]|refine exr ?_|refine qe ?_)
   all_goals have hgc:=λh=>qra y |>.1 h
   all_goals rw[hg]at hgc
   all_goals rw[if_neg λh=>nomatch hgc h]
   .have hcg:=λst=>hcf st λh=>nomatch hgc h
    apply qd [4];repeat' (first|apply Qa|(intro h;try exact cDd)|(refine Qb (k) ⟨Om,_,d8,?_⟩)|exact⟨Tryz.call113⟩|refine cpe hc9 ?_|exact⟨Tryz.call85⟩|refine cpe hcg ?_|exact cSd|apply qb [4]|refine exr ?_|refine qe ?_)
   .have hcg:=λst=>hcf st λh=>nomatch hgc h
    apply qd [4];repeat' (first|apply Qa|(intro h;try exact cDd)|(refine Qb (k) ⟨Om,_,d8,?_⟩)|exact⟨Tryz.call113⟩|refine cpe hc9 ?_|exact⟨Tryz.call85⟩|refine cpe hcg ?_|exact cSd|apply qb [4]|refine exr ?_|refine qe ?_)
  .rw[Qp Om,qa3]at hc
   rw[<-hc];apply qd [];repeat' (first|apply Qa|(intro h;try exact cDd)|exact cSd|apply qb []|refine exr ?_|refine qe ?_)
theorem zbj(a b:Int):Pure (.tu [Iv a,Iv b]):=ju (qr _) (qr _)
theorem qlo(fs:List Fld)(st:List AObj)(hK:KeyB fs)(hl:fs.length<9223372036854775808):qp E 145 [jd fs] st λr st'=>r=.tu [Iv (z0 fs).pos,Iv (z0 fs).code]∧st'=st:=by
 refine ze [.a (jd fs)] (zbj _ _) Tryz.func145 rfl rfl (λ_=>rfl) rfl λS0=>?_;have o0:(fs.map fldA).length=fs.length:=Sx
 apply qd [];repeat' (first|apply Qa|(intro h;try exact cDd)|exact cSd|apply qb []|refine exr ?_|refine qe ?_)
 .rw[q0y Om];rfl
 .rw[qwv Om];rfl
 rw[q0z Om Om];refine zw (X:=Nat) (λk=>⟨[(0,.a (jd fs)),(4,.i k)],[],0⟩) (λk=>k<=fs.length∧xm k (fs.drop k)=xm 0 fs) (λk=>fs.length-k) 0 ⟨Om,rfl⟩ ?_ ?_
 .skip
  repeat' (first|apply Qa|(intro h;try exact cDd)|exact cSd|apply qb []|refine exr ?_|refine qe ?_)
 .rintro k ⟨hk,hc⟩
  by_cases d9:k<fs.length
  .obtain⟨y,hy⟩:∃y,fs[k]?=some y:=⟨_,Qg d9⟩
   have d8:=q5n hy;have rz:=hK y (Qu hy);obtain⟨_,hye⟩:=Ql.1 hy;rw[Qm d9,hye,xm]at hc;have hc4:=λst=>q7g y st rz;rw[<-hc];apply qd [];repeat' (first|apply Qa|(intro h;try exact cDd)|(refine Qb (k) ⟨Om,_,d8,?_⟩)|exact⟨Tryz.call189⟩|refine cpe hc4 ?_|(refine Qb (k+1) ⟨⟨Om,by simp_all⟩,Om,?_⟩)|exact cSd|apply qb []|refine exr ?_|refine qe ?_)
   all_goals (rw[if_neg (by assumption)];rfl)
  .rw[Qp Om,xm]at hc
   rw[<-hc];apply qd [];repeat' (first|apply Qa|(intro h;try exact cDd)|exact cSd|apply qb []|refine exr ?_|refine qe ?_)
theorem q9p(x:qm)(st:List AObj)(hK:EdB x):qp E 99 [zt x] st λr st'=>r=Iv (gErr x).code∧st'=st:=by
 refine ze [.a (zt x)] (qr _) Tryz.func99 rfl rfl (λ_=>rfl) rfl λS0=>?_;have o0:(x.fields.map fldA).length=x.fields.length:=Sx
 have cx:x.fields=[]↔x.fields.length=0:=Sx
 have hc6:=λst=>qlo x.fields st hK.keys hK.len
 have hg:(gErr x).code=if x.kind=2 then(if x.fields.length=0 then 0 else 2)else if x.kind=1∨x.kind=3 then(z0 x.fields).code else 2:=by
  unfold gErr;simp only[apply_ite ErrV.code,cx];rfl
 rw[hg];generalize(z0 x.fields).code=c at *;apply qd [1];repeat' (first|apply Qa|(intro h;try exact cDd)|exact⟨Tryz.call145⟩|refine cpe hc6 ?_|exact cSd|apply qb [1]|refine exr ?_|refine qe ?_)
 all_goals clear hc6
 all_goals refine congrArg Iv ?_
 all_goals omega
theorem qlp(b:List qm)(st:List AObj)(hB:∀x∈b,EdB x)(hl:b.length<9223372036854775808):qp E 53 [zh b] st λr st'=>r=.tu [Iv (eErr b).pos,Iv (eErr b).code]∧st'=st:=by
 refine ze [.a (zh b)] (zbj _ _) Tryz.func53 rfl rfl (λ_=>rfl) rfl λS0=>?_;have o0:(b.map zt).length=b.length:=Sx
 have h1:b.length<1∨40<b.length->eErr b=.num 1:=λh=>if_pos h;have hr:¬(b.length<1∨40<b.length)->eErr b=qa3 0 b:=λh=>if_neg h;apply qd [];repeat' (first|apply Qa|(intro h;try exact cDd)|exact cSd|apply qb []|refine exr ?_|refine qe ?_)
 .rw[h1 Om];rfl
 .rw[h1 Om];rfl
 rw[hr Om];refine zw (X:=Nat) (λk=>⟨[(0,.a (zh b)),(4,.i k)],[],0⟩) (λk=>k<=b.length∧qa3 k (b.drop k)=qa3 0 b) (λk=>b.length-k) 0 ⟨Om,rfl⟩ ?_ ?_
 .skip
  repeat' (first|apply Qa|(intro h;try exact cDd)|exact cSd|apply qb []|refine exr ?_|refine qe ?_)
 .rintro k ⟨hk,hc⟩
  by_cases d9:k<b.length
  .obtain⟨y,hy⟩:∃y,b[k]?=some y:=⟨_,Qg d9⟩
   have d8:=qq5 hy;have rz:=hB y (Qu hy);obtain⟨_,hye⟩:=Ql.1 hy;rw[Qm d9,hye,qa3]at hc;have hc9:=λst=>q9p y st rz;rw[<-hc];apply qd [];repeat' (first|apply Qa|(intro h;try exact cDd)|(refine Qb (k) ⟨Om,_,d8,?_⟩)|exact⟨Tryz.call99⟩|refine cpe hc9 ?_|(refine Qb (k+1) ⟨⟨Om,by simp_all⟩,Om,?_⟩)|exact cSd|apply qb []|refine exr ?_|refine qe ?_)
   all_goals (rw[if_neg (by assumption)];rfl)
  .rw[Qp Om,qa3]at hc
   rw[<-hc];apply qd [];repeat' (first|apply Qa|(intro h;try exact cDd)|exact cSd|apply qb []|refine exr ?_|refine qe ?_)
def okE:ErrV->Prop
 |.no=>True
 |.num n=>n≠0
 |.at' _ n=>n≠0
theorem q6j(e:ErrV)(st:List AObj)(he:okE e):qp E 8 [errA e] st λr st'=>r=Iv e.code∧st'=st:=by
 refine qz (qr _) (qq Tryz.func8 rfl (Qc rfl) ?_)
 cases e with
 |no=>
  repeat' (first|apply qo|apply qy|apply qf|apply qh|apply qj|apply qg)
  refine jr (λ(k:Unit)s=>StA [(0,.v .nilIface),(7,Iv 0)] (st++[]) [] s) (λk=>0) () (z6 ⟨rfl,rfl,trivial⟩) ?_;rintro k _ ⟨t,rfl⟩;repeat' (first|apply qo|apply qy|apply qf|apply qh|apply qj|apply qg|(apply qt;rfl;rfl;rfl)|(apply qc;rfl;apply va;exact cAo)|(apply qc;rfl;apply cd_t;exact cRa)|(apply qd8;rfl;rfl)|apply qv|apply qu)
  exact qn rfl (q5 rfl) ⟨rfl,_,rfl⟩
 |num n=>
  have hk:n≠0:=he;repeat' (first|apply qo|apply qy|apply qf|apply qh|apply qj|apply qg)
  refine jr (λ(k:Unit)s=>StA [(0,errA (.num n)),(7,Iv 0)] (st++[]) [] s) (λk=>0) () (z6 ⟨rfl,rfl,trivial⟩) ?_;rintro k _ ⟨t,rfl⟩;repeat' (first|apply qo|apply qy|apply qf|apply qh|apply qj|apply qg|(apply zf;rfl;rfl)|(apply qt;rfl;rfl;rfl)|(apply qw;rfl;rfl;rfl;rfl)|(apply qaf;exact cRa)|(apply qi;rfl;apply pk_t;exact cRa)|(apply qc;rfl;apply va;exact cAo)|(apply qc;rfl;apply cd_f;exact cRa)|(apply qbj;rfl;rfl)|apply qv|apply qu|(apply qe5;rfl;rfl;rfl))
  exact qn rfl (q5 rfl) ⟨rfl,_,rfl⟩
 |at' a n=>
  have hk:n≠0:=he;repeat' (first|apply qo|apply qy|apply qf|apply qh|apply qj|apply qg)
  refine jr (λ(j:Nat)s=>(j=0∧StA [(0,errA (.at' a n)),(7,Iv 0)] (st++[]) [] s)∨(j=1∧StA [(0,errA (.num n)),(7,Iv 1)] (st++[]) [] s)) (λj=>1-j) 0 (.inl ⟨rfl,z6 ⟨rfl,rfl,trivial⟩⟩) ?_;rintro j _ (⟨rfl,t,rfl⟩|⟨rfl,t,rfl⟩)
  .skip
   repeat' (first|apply qo|apply qy|apply qf|apply qh|apply qj|apply qg|(apply zf;rfl;rfl)|(apply qt;rfl;rfl;rfl)|(apply ja;rfl)|(apply qw;rfl;rfl;rfl;rfl)|(apply qao;exact cRa)|(apply qew;exact cRa)|(apply xu;exact cRa)|(apply qi;rfl;apply qfm;exact cRa)|(apply qi;rfl;apply pk_f;exact cRa)|(apply qc;rfl;apply va;exact cAo)|(apply qc;rfl;apply cd_f;exact cRa)|(apply zn;rfl;rfl;exact q6 Om Om)|(apply qbj;rfl;rfl)|(apply yl;rfl;rfl;rfl;rfl)|(apply jq;rfl;rfl;rfl)|(apply ww;rfl;rfl)|(apply qbl;rfl;rfl;rfl)|apply qv|(apply qly;(iterate 5 rfl))|(apply qe5;rfl;rfl;rfl))
   exact⟨1,.inr ⟨rfl,z6 ⟨rfl,rfl,trivial⟩⟩,Om⟩
  .skip
   repeat' (first|apply qo|apply qy|apply qf|apply qh|apply qj|apply qg|(apply zf;rfl;rfl)|(apply qt;rfl;rfl;rfl)|(apply qw;rfl;rfl;rfl;rfl)|(apply qaf;exact cRa)|(apply qi;rfl;apply pk_t;exact cRa)|(apply qc;rfl;apply va;exact cAo)|(apply qc;rfl;apply cd_f;exact cRa)|(apply qbj;rfl;rfl)|apply qv|apply qu|(apply qe5;rfl;rfl;rfl))
   exact qn rfl (q5 rfl) ⟨rfl,_,rfl⟩
theorem zcd(e:ErrV)(st:List AObj):qp E 9 [errA e] st λr st'=>r=Iv e.pos∧st'=st:=by
 refine qz (qr _) (qq Tryz.func9 rfl (Qc rfl) ?_)
 cases e with
 |no=>
  repeat' (first|apply qo|apply qf|apply qh|apply qj|apply qg|(apply zf;rfl;rfl)|(apply qw;rfl;rfl;rfl;rfl)|(apply xu;exact cRa)|(apply qi;rfl;apply pk_f;exact cRa)|(apply qc;rfl;apply cd_f;exact cRa)|apply qv|apply qu|(apply qy6;rfl;rfl;rfl;rfl))
  exact qn rfl (q5 rfl) ⟨rfl,_,rfl⟩
 |num n=>
  repeat' (first|apply qo|apply qf|apply qh|apply qj|apply qg|(apply zf;rfl;rfl)|(apply qw;rfl;rfl;rfl;rfl)|(apply xu;exact cRa)|(apply qi;rfl;apply pk_f;exact cRa)|(apply qc;rfl;apply cd_f;exact cRa)|apply qv|apply qu|(apply qly;(iterate 5 rfl)))
  exact qn rfl (q5 rfl) ⟨rfl,_,rfl⟩
 |at' a n=>
  repeat' (first|apply qo|apply qf|apply qh|apply qj|apply qg|(apply zf;rfl;rfl)|(apply qw;rfl;rfl;rfl;rfl)|(apply qaf;exact cRa)|(apply qi;rfl;apply pk_t;exact cRa)|(apply qc;rfl;apply qi3;exact cRa)|(apply yl;rfl;rfl;rfl;rfl)|(apply jq;rfl;rfl;rfl)|(apply ww;rfl;rfl)|(apply qf6;rfl;rfl;rfl)|apply qu|(apply qe5;rfl;rfl;rfl))
  exact qn rfl (q5 rfl) ⟨rfl,_,rfl⟩
def kj(x:qm):qa:=km x++[10]++qa2 [32,32] (zy x.fields)
def encF(b:List qm):qa:=b.flatMap kj
theorem q5c(a b:List qm):encF (a++b)=encF a++encF b:=by simp[encF]
theorem q5d(x:qm):encF [x]=kj x:=by simp[encF]
theorem qwx:∀(k:Nat)(r:List Fld),xm k r=.no↔∀f∈r,kh f
 |k,[]=>by simp[xm]
 |k,f::r=>by
  unfold xm;split
  .rename_i h
   rw[qwx (k+1) r];have:=(qc3 f).1 h;simp[this]
  .rename_i h
   have h2:¬kh f:=λg=>h ((qc3 f).2 g);simp[h2]
theorem qcm{fs:List Fld}(h:z0 fs=.no):fs≠[]∧fs.length<=40∧∀f∈fs,kh f:=by
 unfold z0 at h;split at h
 .exact absurd h Sx
 .split at h
  .exact absurd h Sx
  .exact⟨by assumption,Om,(qwx _ _).1 h⟩
theorem qfe{x:qm}(h:gErr x=.no):x.fields.length<=40∧∀f∈x.fields,kh f:=by
 unfold gErr at h;split at h
 .split at h
  .rename_i h0;rw[h0];simp
  .exact absurd h Sx
 .split at h
  .exact(qcm h).2
  .exact absurd h Sx
theorem q49:∀(k:Nat)(b:List qm),qa3 k b=.no↔∀x∈b,gErr x=.no
 |k,[]=>by simp[qa3]
 |k,x::b=>by
  unfold qa3;split
  .rename_i h
   rw[q49 (k+1) b];have:=(qra x).1 h;simp[this]
  .rename_i h
   have h2:¬gErr x=.no:=λg=>h ((qra x).2 g);simp[h2]
theorem qb0{b:List qm}(h:eErr b=.no):1<=b.length∧b.length<=40∧∀x∈b,gErr x=.no:=by
 unfold eErr at h;split at h
 .exact absurd h Sx
 .exact⟨Om,Om,(q49 _ _).1 h⟩
theorem qxk{fs:List Fld}(hl:fs.length<=40)(h:∀f∈fs,kh f):q3k fs:=⟨Om,λf hf=>by
 have:=h f hf;have h1:=this.1.2.1;have h2:=this.2
 omega⟩
theorem qxi(xs:List FldV)(st:List AObj)(hl:xs.length<=40)(h:∀f∈xs,kh f):qp E 68 [jd xs] st λr st'=>r=.tu [Sv (zy xs),.v .nilIface]∧st'=st:=by
 have:=zoo xs st (qxk hl h);unfold qxg at this;have h0:=(qq6 xs).2 h;rw[if_pos h0,h0]at this;exact this
theorem qm5(l:qa):(qa2 [32,32] l).length<=3*l.length:=by
 unfold qa2;obtain⟨h1,h2⟩:=qg2 _ l (Qn _);have:=qo1 [32,32] (zo l);simp only[Qe,Qy]at this;omega
theorem qrj(x:qm)(h1: -9223372036854775808<=x.id)(h2:x.id<=9223372036854775807):(km x).length<=100:=by
 have hn:=Lib.itoa_length_le x.id h1 h2;unfold km qag;split
 .split
  .simp;omega
  .split
   .simp;omega
   .split <;>simp <;>omega
 .simp
theorem zcx{x:qm}(hB:EdB x)(h:gErr x=.no):(kj x).length<=700000:=by
 obtain⟨hl,hg⟩:=qfe h;have h1:=qgy x.fields hg;have h2:=qm5 (zy x.fields);have h3:=qrj x hB.id1 hB.id2;unfold kj;simp only[Qq,Qe,Qy];omega
theorem qop:∀(b:List qm),(∀x∈b,EdB x)->(∀x∈b,gErr x=.no)->(encF b).length<=700000*b.length
 | [],_,_=>by simp[encF]
 |x::r,hB,h=>by
  have ih:=qop r (λy hy=>hB y (by simp[hy])) (λy hy=>h y (by simp[hy]));have h1:=zcx (hB x Sx) (h x Sx);have e:encF (x::r)=kj x++encF r:=by simp[encF]
  rw[e,Qq,Qe];omega
set_option maxHeartbeats 2000000 in
theorem q1h(b:List qm)(st:List AObj)(hB:∀x∈b,EdB x)(he:eErr b=.no):qp E 30 [zh b] st λr st'=>r=.tu [Sv (encF b),.v .nilIface]∧st'=st:=by
 refine qz (ju (qr _) (qr _)) (qq Tryz.func30 rfl (Qc rfl) ?_);have o0:(b.map zt).length=b.length:=Sx
 obtain⟨p9,hb40,hg⟩:=qb0 he;have nq:=qop b hB hg;repeat' (first|(apply qiv;rfl)|apply qo|apply qy|apply qf|apply qh|apply qj|apply qg|(apply qc;rfl;apply cd_f;exact cRa)|(apply jk;rfl;rfl;rfl;rfl)|(apply wh;rfl;rfl)|apply qv|(apply qk;exact Tryz.call67;exact qon _ _ _ he hB Om))
 refine qck b (λpre s=>∃q,(q=.v (.pointer none)∨q=.bx (st.length+0) 0 0)∧StE [(5,.bx (st.length+0) 0 0),(15,zh b),(16,Iv b.length),(17,Iv pre.length)] st [bldO 0 q (encF pre) (st.length+1),.tip (encF pre).length 1 5] s) ⟨_,.inl rfl,qek ⟨rfl,rfl,congrArg (λn:Nat=>Iv (n:Int)) o0,rfl,trivial⟩ rfl⟩ ?_ ?_
 .rintro _ ⟨q,hq,t,ext,rfl⟩
  repeat' (first|apply qo|apply qf|apply qh|apply qg|(apply qt;rfl;rfl;rfl)|(apply qc;rfl;apply vq;exact cAo)|apply z7|apply qu|(refine qk Tryz.call72 (qiy st _ _ _ _ 0 1 0 _ _ rfl rfl rfl) ?_))
  exact qn rfl (kw rfl) ⟨rfl,qa0 _ _ _ _⟩
 .rintro pre x rest _ hr ⟨q,hq,t,ext,rfl⟩
  have d5:b.length=pre.length+(rest.length+1):=by rw[hr];simp
  have d8:(b.map zt)[pre.length]?=some (zt x):=by rw[hr];simp
  have hxb:=hB x (by rw[hr];simp);have hxg:=hg x (by rw[hr];simp);obtain⟨o8,hfg⟩:=qfe hxg;have dx:=qop pre (λy hy=>hB y (by rw[hr];simp[hy])) (λy hy=>hg y (by rw[hr];simp[hy]));have pn:=qrj x hxb.id1 hxb.id2;have hfo:=qgy x.fields hfg;have hin:=qm5 (zy x.fields);repeat' (first|apply qo|apply qy|apply qf|apply qh|apply qj|apply qg|(apply zf;rfl;rfl)|(apply qt;rfl;rfl;rfl)|(apply qc;rfl;apply va;exact cAo)|(apply qc;rfl;apply cd_f;exact cRa)|(apply jz;rfl;rfl;exact cOs)|(apply wh;rfl;rfl)|(apply j7;rfl;rfl)|(apply zk;rfl;rfl;rfl)|(apply jq;rfl;rfl;rfl)|(apply jt;(iterate 5 rfl))|(apply jc;(iterate 11 rfl))|(apply wi;(iterate 9 rfl))|apply qv|(apply qk;exact Tryz.call68;exact qxi _ _ o8 hfg)|(apply qk;exact Tryz.call70;exact zov _ _ hxb.id1 hxb.id2)|(apply qk;exact Tryz.call71;exact zjo _ _ _ Om (by decide))|(apply kp (n:=pre.length);(iterate 5 rfl);exact d8))
  refine qk Tryz.call69 (qkh st _ _ _ _ 0 1 0 _ _ _ rfl rfl ?_ ?_ rfl) ?_;(exact hq);(simp only[Qq,Qe,Qy];omega);repeat' (first|apply qf|apply qh|apply qj|(apply zn;rfl;rfl;exact q6 Om Om))
  refine⟨_,.inr rfl,qbq ⟨rfl,rfl,rfl,?_,trivial⟩ ?_⟩
  .rw[qd6 pre x];rfl
  .have e:encF (pre++[x])=encF pre++((km x++[10])++qa2 [32,32] (zy x.fields)):=by rw[q5c,q5d];rfl
   rw[e];rfl
theorem qmb(b:List qm)(st:List AObj)(e:ErrV)(hB:∀x∈b,EdB x)(hl:b.length<9223372036854775808)(he:eErr b=e)(h0:e.code≠0):qp E 30 [zh b] st λr st'=>r=.tu [Sv [],errA e]∧st'=st:=by
 refine qz (ju (qr _) (ki _)) (qq Tryz.func30 rfl (Qc rfl) ?_)
 cases e with
 |no=>exact absurd rfl h0
 |num n=>
  repeat' (first|apply qo|apply qf|apply qh|apply qj|apply qg|(apply qc;rfl;apply cd_t;exact cRa)|(apply xi;rfl;rfl)|apply qu|(apply qk;exact Tryz.call67;exact qon _ _ _ he hB hl))
  exact qn rfl (kw rfl) ⟨rfl,_,rfl⟩
 |at' a n=>
  repeat' (first|apply qo|apply qf|apply qh|apply qj|apply qg|(apply qc;rfl;apply cd_t;exact cRa)|(apply xi;rfl;rfl)|apply qu|(apply qk;exact Tryz.call67;exact qon _ _ _ he hB hl))
  exact qn rfl (kw rfl) ⟨rfl,_,rfl⟩
end Go.Proofs.YtlekheifonaipaaGreatDoor
namespace Go.Av
open Go Go.RowKit
theorem qvw{b:Nat}{st l:List AObj}{sz:Nat}{T:TypeId}{xs:List AV}{c:AV}(h:TipO b st sz T xs c):TipO b (st++l) sz T xs c:=by
 rcases h with h|h
 .exact .inl (qlt h)
 .exact .inr h
theorem zbu{b:Nat}{st st':List AObj}{sz:Nat}{T:TypeId}{xs:List AV}{c:AV}(hs:∀(t m sz:Nat)(T:TypeId),st[t]?=some (AObj.tip m sz T)->st'[t]?=st[t]?)(h:TipO b st sz T xs c):TipO b st' sz T xs c:=by
 rcases h with(h|⟨t,h1,h2,h3⟩)|h
 .exact .inl (.inl h)
 .exact .inl (.inr ⟨t,h1,(hs t _ _ _ h2).trans h2,h3⟩)
 .exact .inr h
end Go.Av
namespace Go.Proofs.YtlekheifonaipaaGreatDoor
open Go Go.Av Go.RowKit Go.Proofs Go.Pl
theorem qij{st l:List AObj}:st.length<=(st++l).length:=Sx
theorem q2v{b o:Nat}{st:List AObj}{sz:Nat}{T:TypeId}{xs:List AV}{c:AV}{x:AObj}(h:TipO b st sz T xs c)(hn:qhz st[o]?):TipO b (st.set o x) sz T xs c:=
 zbu (λt m sz T ht=>Zi (λe=>by subst e;exact hn _ _ _ ht)) h
structure OutI (st:List AObj) (S:List AObj):Prop where
 low:∀j,j<st.length->S[j]?=st[j]?
 len:st.length<=S.length
theorem OutI.pre{st S l:List AObj}(h:OutI st S):OutI st (S++l):=⟨λj hj=>(Za (by have:=h.len;omega)).trans (h.low j hj),by have:=h.len;simp;omega⟩
theorem OutI.set{st S:List AObj}{o:Nat}{x:AObj}(h:OutI st S)(ho:st.length<=o):OutI st (S.set o x):=⟨λj hj=>(qts Om).trans (h.low j hj),by have:=h.len;simp;omega⟩
theorem OutI.fr{st S S':List AObj}{t:Nat}(h:OutI st S)(hf:Fr S S' t)(ht:st.length<=t):OutI st S':=⟨λj hj=>(hf.same j Om (by have:=h.len;omega)).trans (h.low j hj),Zq h.len hf.len⟩
theorem OutI.ext{st S:List AObj}(h:OutI st S):∃ext,S=st++ext:=qzn h.low
theorem qdw{E:Env}{rd:Option Nat}{N:Nat}{ops:Array Oper}{K:AS->Prop}{s:AS}{rest:List Oper}{d:Option Tmp}{T:TypeId}{p:String}{af:Array Edge}{t e:TypeId}{len sz:Nat}{agg:Bool}{parts:Array (Nat×Operand)}{zs cs:List AV}{st:List AObj}(e7:s.st=st)(hu:E.P.underlying t=some (.slice e))(ht:tyOf E.P e=some (sz,agg))(hz:qh9 E.P e len=some zs)
  (hf:qdb (λi=>some (i*sz,sz)) zs (vz N s parts)=some cs) (o6:Nat.ble (len*sz) 16777216=true)
  (h:AOps E rd N ops rest K (AS.put ⟨s.t,st++[.cells 0 e cs],s.df⟩ d (.os st.length 0 0 len len))):AOps E rd N ops (⟨d,.buildSlice t len parts,T,p,af,none⟩::rest) K s:=
 qb5 (loc:=[]) (by rw[e7];simp) hu ht hz hf o6 h
theorem qi4(x:qm):qis (zt x):=λy hy=>by
 simp only[AV.cells,Qd,Qi,or_false]at hy;rcases hy with rfl|rfl|rfl
 .exact qr _
 .exact qr _
 .exact qa5 _
theorem qa4(b:List qm):Pure (zh b):=qbi λx hx=>by
 obtain⟨f,_,rfl⟩:=Qf.1 hx;exact qi4 f
theorem zj1{α β:Type}(g:α->β)(l:List α)(a:α):(l++[a]).map g=l.map g++[g a]:=Sx
def tryB(k:Int)(l:qa):Option Int:=if qag k<+:l then(match Lib.atoiAll (l.drop (qag k).length)with
 |.ok n=>some n
 |_=>none)else none
def begE(l:qa):Option (Int×Int):=match tryB 1 l with
 |some n=>some (1,n)
 |none=>match tryB 2 l with
  |some n=>some (2,n)
  |none=>match tryB 3 l with
   |some n=>some (3,n)
   |none=>none
def begA:Option (Int×Int)->AV
 |some (k,n)=>.tu [zt ⟨k,n,[]⟩,Bv true]
 |none=>.tu [zt ⟨0,0,[]⟩,Bv false]
theorem ze1(x:Option (Int×Int)):Pure (begA x):=by
 rcases x with _|⟨k,n⟩
 .exact ju (ye (qi4 _)) (qr _)
 .exact ju (ye (qi4 _)) (qr _)
theorem q2y(k n:Int):Weak (.ag [Iv k,Iv n,zm]) (zt ⟨k,n,[]⟩):=
 zn4 rfl λi x y hx hy=>by
  match i with
  |0=>simp at hx hy;subst hx;subst hy;exact qc0 _
  |1=>simp at hx hy;subst hx;subst hy;exact qc0 _
  |2=>simp at hx hy;subst hx;subst hy;exact qh6 2
  |i+3=>simp at hx
theorem zct(l m:qa)(st:List AObj)(h:m<+:l):qp E 202 [Sv l,Sv m] st λr st'=>r=.tu [Sv (l.drop m.length),Bv true]∧st'=st:=by
 have:=qfz l m st;rw[qd9 h,(yx l m).2 h]at this;exact this
theorem zcu(l m d:qa)(st:List AObj)(h:m<+:l)(hd:l.drop m.length=d):qp E 202 [Sv l,Sv m] st λr st'=>r=.tu [Sv d,Bv true]∧st'=st:=by
 subst hd;exact zct l m st h
theorem zcs(l m:qa)(st:List AObj)(h:¬m<+:l):qp E 202 [Sv l,Sv m] st λr st'=>r=.tu [Sv l,Bv false]∧st'=st:=by
 have:=qfz l m st
 have hf:Lib.hasPrefix l m=false:=by
  cases hb:Lib.hasPrefix l m with
  |false=>rfl
  |true=>exact absurd ((yx l m).1 hb) h
 have ht:Lib.trimPrefix l m=l:=by
  unfold Lib.trimPrefix;rw[if_neg (by simp[hf])]
 rw[ht,hf]at this;exact this
theorem zl6{l:qa}{k:Nat}{n:Int}(h1:1<=k)(h3:k<=3)(h:∀j:Nat,1<=j->j<k->tryB j l=none)(hk:tryB k l=some n):begE l=some ((k:Int),n):=by
 have:k=1∨k=2∨k=3:=Om
 rcases this with rfl|rfl|rfl
 .have bn:tryB 1 l=some n:=hk
  simp[begE,bn]
 .have e1:tryB 1 l=none:=h 1 Om Om
  have bn:tryB 2 l=some n:=hk;simp[begE,e1,bn]
 .have e1:tryB 1 l=none:=h 1 Om Om
  have e2:tryB 2 l=none:=h 2 Om Om;have bn:tryB 3 l=some n:=hk;simp[begE,e1,e2,bn]
theorem ze3{l:qa}(h:∀j:Nat,1<=j->j<4->tryB j l=none):begE l=none:=by
 have e1:tryB 1 l=none:=h 1 Om Om;have e2:tryB 2 l=none:=h 2 Om Om;have e3:tryB 3 l=none:=h 3 Om Om;simp[begE,e1,e2,e3]
theorem zh8{k:Nat}(h1:1<=k)(h3:k<=3):qc1 (k:Int)≠[]∧([32]++qc1 (k:Int))++[32]=qag (k:Int)∧(qc1 (k:Int)).length<=10:=by
 have:k=1∨k=2∨k=3:=Om
 rcases this with rfl|rfl|rfl <;>decide
set_option maxHeartbeats 2000000 in
theorem zl8(l:qa)(st:List AObj)(hl:l.length<1000000):qp E 167 [Sv l] st λr st'=>r=begA (begE l)∧st'=st:=by
 refine qz (ze1 _) (qq Tryz.func167 rfl (Qc rfl) ?_);repeat' (first|apply qo|apply qy|apply qf|apply qh|apply qg|(apply j7;rfl;rfl))
 refine jr (λ(k:Nat)s=>1<=k∧k<=4∧(∀j:Nat,1<=j->j<k->tryB j l=none)∧StE [(0,Sv l),(2,.bx (st.length+0) 0 0),(4,Iv k)] st [.cells 0 44 [Iv 0,Iv 0,zm]] s) (λk=>4-k) 1 ⟨Om,Om,λj h1 h2=>by omega,qek ⟨rfl,rfl,rfl,trivial⟩ rfl⟩ ?_;rintro k _ ⟨bn,hk4,gp,t,ext,rfl⟩;by_cases h4:k=4
 .subst h4
  have hw:qc1 ((4:Nat):Int)=[]:=by decide
  rw[ze3 gp];repeat' (first|apply qo|apply qf|apply qh|apply qj|apply qg|(apply jp;rfl;rfl;rfl)|(apply qc;rfl;apply cd_f;exact cRa)|(apply qe8;(iterate 11 rfl))|(apply yf;rfl;rfl;rfl)|apply z7|apply qu|(apply qk;exact Tryz.call116;exact qy3 _ _))
  refine qn rfl (ya (qtc rfl rfl rfl rfl rfl rfl) (qgs (q2y 0 0) (qc0 _))) ⟨rfl,qa0 _ _ _ _⟩
 .obtain⟨hw,hm,hwl⟩:=zh8 bn Om
  by_cases hp:qag (k:Int)<+:l
  .have pb:([32]++qc1 (k:Int))++[32]<+:l:=by rw[hm];exact hp
   obtain⟨d,hd0⟩:∃d,d=l.drop (qag (k:Int)).length:=⟨_,rfl⟩;have hd:l.drop ((([32]:qa)++qc1 (k:Int))++[32]).length=d:=by rw[hm,hd0]
   have hdl:d.length<1000000:=by rw[hd0,Zl];omega
   repeat' (first|apply qo|apply qy|apply qf|apply qh|apply qj|apply qg|(apply zf;rfl;rfl)|(apply jp;rfl;rfl;rfl)|(apply qc;rfl;apply va;exact cAo)|(apply jz;rfl;rfl;exact cOs)|apply qv|(apply qk;exact Tryz.call116;exact qy3 _ _)|(apply qk;exact Tryz.call202;exact zcu _ _ _ _ pb hd))
   refine qgt Tryz.call105 ((qqu d _ Om).mono ?_);rintro _ _ ⟨rfl,n,x,rfl,hx⟩;rw[hd0]at hx;rcases x with _|⟨t',y⟩
   .simp only at hx
    have htr:tryB (k:Int) l=some n:=by unfold tryB;rw[if_pos hp,hx]
    rw[zl6 bn Om gp htr];repeat' (first|apply qo|apply qf|apply qh|apply qj|apply qg|(apply zf;rfl;rfl)|(apply qw;rfl;rfl;rfl;rfl)|(apply qaf;exact cRa)|(apply qi;rfl;apply pk_t;exact cRa)|(apply qc;rfl;apply cd_t;exact cRa)|(apply qd8;rfl;rfl)|(apply qe8;(iterate 11 rfl))|(apply yf;rfl;rfl;rfl)|apply qu)
    refine qn rfl (ya (qtc rfl rfl rfl rfl rfl rfl) (qgs (q2y k n) (qc0 _))) ⟨rfl,qa0 _ _ _ _⟩
   .simp only at hx
    have htr:tryB (k:Int) l=none:=by
     unfold tryB;rw[if_pos hp];split
     .rename_i v hv;exact absurd hv (hx v)
     .rfl
    repeat' (first|apply qo|apply qf|apply qh|apply qj|apply qg|(apply zf;rfl;rfl)|(apply qw;rfl;rfl;rfl;rfl)|(apply qaf;exact cRa)|(apply qi;rfl;apply pk_t;exact cRa)|(apply qc;rfl;apply cd_f;exact cRa)|(apply zn;rfl;rfl;exact q6 Om Om)|(apply qbj;rfl;rfl)|apply qv)
    refine⟨k+1,⟨Om,Om,λj h1 h2=>?_,qbq ⟨rfl,rfl,rfl,trivial⟩ rfl⟩,Om⟩;by_cases hjk:j=k
    .subst hjk;exact htr
    .exact gp j h1 Om
  .have pb:¬([32]++qc1 (k:Int))++[32]<+:l:=by rw[hm];exact hp
   have htr:tryB (k:Int) l=none:=by unfold tryB;rw[if_neg hp]
   repeat' (first|apply qo|apply qy|apply qf|apply qh|apply qj|apply qg|(apply zf;rfl;rfl)|(apply jp;rfl;rfl;rfl)|(apply qc;rfl;apply va;exact cAo)|(apply jz;rfl;rfl;exact cOs)|apply qv|(apply qk;exact Tryz.call116;exact qy3 _ _)|(apply qk;exact Tryz.call202;exact zcs _ _ _ pb))
   refine qgt Tryz.call105 ((qqu l _ Om).mono ?_);rintro _ _ ⟨rfl,n,x,rfl,hx⟩;rcases x with _|⟨t',y⟩
   all_goals
    repeat' (first|apply qo|apply qf|apply qh|apply qj|apply qg|(apply zf;rfl;rfl)|(apply qw;rfl;rfl;rfl;rfl)|(apply xu;exact cRa)|(apply qi;rfl;apply pk_f;exact cRa)|(apply qc;rfl;apply cd_f;exact cRa)|(apply zn;rfl;rfl;exact q6 Om Om)|apply qv)
    refine⟨k+1,⟨Om,Om,λj h1 h2=>?_,qbq ⟨rfl,rfl,rfl,trivial⟩ rfl⟩,Om⟩;by_cases hjk:j=k
    .subst hjk;exact htr
    .exact gp j h1 Om
def recsF(its:List zg):List (List Fld):=(its.filter λx=>decide (x.kind=3)).map zg.fields
@[reducible] def zlq (ls : List (List Fld)) : AV := .sl 1 (ls.map jd) none
theorem zd2(ls:List (List Fld)):Pure (zlq ls):=qbi λx hx=>by
 obtain⟨f,_,rfl⟩:=Qf.1 hx;intro y hy;simp only[AV.cells,Qd,Qi,or_false]at hy;subst hy;exact qa5 _
theorem q9l(l:List zg)(x:zg)(h:x.kind=3):recsF (l++[x])=recsF l++[x.fields]:=by simp[recsF,h]
theorem q9m(l:List zg)(x:zg)(h:¬x.kind=3):recsF (l++[x])=recsF l:=by simp[recsF,h]
theorem zn0{b t1:Nat}{st st':List AObj}{sz:Nat}{T:TypeId}{xs:List AV}{c c0:AV}{sz0:Nat}{xs0:List AV}(hf:Fr st st' t1)(cq:c0=.sl sz0 xs0 (some t1)∨st.length<=t1)(h0:∀t,c0≠.sl sz0 xs0 (some t))(h:TipO b st sz T xs c):TipO b st' sz T xs c:=
 zbu (λt m sz T ht=>hf.same t (λe=>by
  subst e;rcases cq with cq|cq
  .exact h0 _ cq
  .have:=lt_of_getElem? ht;omega) (lt_of_getElem? ht)) h
theorem zlg{b t1:Nat}{st st':List AObj}{sz:Nat}{T:TypeId}{xs:List AV}{c:AV}{sz0:Nat}{xs0:List AV}{o v f l k:Nat}(hf:Fr st st' t1)(cq:AV.os o v f l k=.sl sz0 xs0 (some t1)∨st.length<=t1)(h:TipO b st sz T xs c):TipO b st' sz T xs c:=
 zn0 hf cq Sx h
set_option maxHeartbeats 2000000 in
theorem zhp(its:List zg)(st:List AObj)(hl:its.length<1000000)(hf:∀x∈its,x.fields.length<1000000):qp E 206 [vu its] st λr st'=>r=zlq (recsF its)∧st'=st:=by
 refine qz (zd2 _) (qq Tryz.func206 rfl (Qc rfl) ?_);have o0:(its.map kq).length=its.length:=Sx
 rw[Zd];repeat' (first|apply qo|apply qy|apply qf|apply qh|apply qj|apply qg|(apply jk;rfl;rfl;rfl;rfl))
 refine qck its (λpre s=>∃c S,OutI st S∧TipO st.length S 1 41 ((recsF pre).map jd) c∧StA [(3,c),(6,vu its),(7,Iv its.length),(8,Iv pre.length)] S [] s) ⟨_,st,⟨λ_ _=>rfl,Qn _⟩,q8a ..,z6 ⟨rfl,rfl,congrArg (λn:Nat=>Iv (n:Int)) o0,rfl,trivial⟩⟩ ?_ ?_
 .rintro _ ⟨c,S,hO,hT,t,rfl⟩
  repeat' (first|apply qo|apply qf|apply qh|apply qj|apply qg|(apply qt;rfl;rfl;rfl)|(apply qc;rfl;apply vq;exact cAo)|apply z7|apply qu)
  exact qn rfl (ya (q5 rfl) (qpt hT)) ⟨rfl,hO.ext⟩
 .rintro pre x rest _ hr ⟨c,S,hO,hT,t,rfl⟩
  have d5:its.length=pre.length+(rest.length+1):=by rw[hr];simp
  have d8:(its.map kq)[pre.length]?=some (kq x):=by rw[hr];simp
  have hxf:=hf x (by rw[hr];simp);have dx:(recsF pre).length<=pre.length:=by unfold recsF;rw[List.length_map];exact List.length_filter_le _ _
  have hSl:=hO.len;have hO1:OutI st ((S++[AObj.cells 0 123 [Iv 0,Sv [],zm]]).set S.length (.cells 0 123 (kq x).cells)):=hO.pre.set hSl;have hT1:TipO st.length ((S++[AObj.cells 0 123 [Iv 0,Sv [],zm]]).set S.length (.cells 0 123 (kq x).cells)) 1 41 ((recsF pre).map jd) c:=q2v (qvw hT) (qbd yg);have fx:((S++[AObj.cells 0 123 [Iv 0,Sv [],zm]]).set S.length (.cells 0 123 (kq x).cells))[S.length]?=some (.cells 0 123 (kq x).cells):=kg yg;by_cases h3:x.kind=3
  .skip
   repeat' (first|(apply qdw (st:=(S++[AObj.cells 0 123 [Iv 0,Sv [],zm]]).set S.length (.cells 0 123 (kq x).cells));(iterate 6 rfl))|(apply zep 19 rfl (qpt g1);apply wi;(iterate 9 rfl))|apply qo|apply qy|apply qf|apply qh|apply qj|apply qg|(apply qt;rfl;rfl;rfl)|(apply qc;rfl;apply va;exact cAo)|(apply zn;rfl;rfl;exact q6 Om Om)|(apply zk;rfl;rfl;rfl)|(apply jq;rfl;rfl;rfl)|apply qv|(apply vc;rfl;exact fx;rfl;rfl)|(apply vc;rfl;exact qc4 fx;rfl;rfl)|(apply qmz (st:=S);rfl;rfl)|(apply qan;rfl;rfl;(focus first|assumption|(repeat' (first|assumption|exact yg|exact j9 rfl|apply kg|apply j8|omega|apply qc4)));(iterate 6 rfl))|(apply kp (n:=pre.length);(iterate 5 rfl);exact d8)|(apply qk9 (b:=st.length) (xs:=[]) (ys:=x.fields.map fldA) (bytes:=32);(iterate 5 rfl);exact⟨⟨_,_,rfl,rfl,rfl,rfl,rfl⟩⟩;exact zbv _ _ _ _ _ _ _;(exact Zq hO1.len qij);(first|rfl|exact qdv λ_=>rfl);((simp[maxLen];omega));((simp;omega));intro c1 S1 t1 g1 g2 g3 g4)|(apply qk9 (b:=st.length) (xs:=(recsF pre).map jd) (ys:=[jd x.fields]) (bytes:=24);(iterate 5 rfl);exact⟨⟨_,_,rfl,rfl,rfl,rfl,rfl⟩⟩;exact zlg g2 g4 (qvw hT1);(exact(hO1.pre.fr g2 g3).len);(first|rfl|exact qdv λ_=>rfl);((simp[maxLen];omega));((simp;omega));intro c2 S2 t2 k1 k2 k3 k4))
   exact⟨c2,S2,(hO1.pre.fr g2 g3).fr k2 k3,by rw[q9l _ _ h3,zj1];exact k1,z6 ⟨rfl,rfl,rfl,qii pre x,trivial⟩⟩
  .skip
   repeat' (first|apply qo|apply qy|apply qf|apply qh|apply qj|(apply qt;rfl;rfl;rfl)|(apply qc;rfl;apply va;exact cAo)|(apply qc;rfl;apply vq;exact cAo)|(apply zn;rfl;rfl;exact q6 Om Om)|(apply zk;rfl;rfl;rfl)|(apply jq;rfl;rfl;rfl)|apply qv|(apply vc;rfl;exact fx;rfl;rfl)|(apply qmz (st:=S);rfl;rfl)|(apply qan;rfl;rfl;(focus first|assumption|(repeat' (first|assumption|exact yg|exact j9 rfl|apply kg|apply j8|omega|apply qc4)));(iterate 6 rfl))|(apply kp (n:=pre.length);(iterate 5 rfl);exact d8))
   exact⟨c,_,hO1,by rw[q9m _ _ h3];exact hT1,z6 ⟨rfl,rfl,rfl,qii pre x,trivial⟩⟩
end Go.Proofs.YtlekheifonaipaaGreatDoor
namespace Go.Pl
open Go Go.Proofs Go.Proofs.YtlekheifonaipaaGreatDoor
def GF(fs:List Fld):Prop:=fs.length<=40∧∀f∈fs,kh f
structure PI (p:PSt):Prop where
 items:∀x∈p.items,GF x.fields∧(x.kind=3↔x.fields≠[])
 fields:GF p.fields
 full:p.lines≠[]->p.full=false->p.fields.length<40
theorem qjl{ls:List qa}(h:(zu ls).2=0):kh (zu ls).1:=by
 unfold zu at h⊢;split at h
 .split at h
  .simp at h
  .rename_i h1 h2
   rw[if_pos h1,if_neg h2];exact⟨(qmk.1 h1.2.1).2.2,Nat.le_of_not_lt h2⟩
 .simp at h
theorem pi0:PI p0:=⟨by simp[p0],⟨by simp[p0],by simp[p0]⟩,by simp[p0]⟩
theorem PI.flush{p:PSt}(h:PI p):PI (ka p).2:=by
 unfold ka;split
 .exact h
 .rename_i hl
  split
  .exact h
  .rename_i hu
   split
   .exact h
   .rename_i hf
    have d9:=h.full hl (by simpa using hf);refine⟨h.items,⟨So,λf hm=>?_⟩,Sx⟩;rcases Qh.1 hm with hm|hm
    .exact h.fields.2 f hm
    .simp at hm;subst hm;exact qjl (by simpa using hu)
theorem PI.close{p:PSt}(h:PI p):PI (y4 p):=by
 unfold y4;split
 .exact⟨h.items,⟨Sx,Sx⟩,λh1 h2=>by simp⟩
 .refine⟨λx hx=>?_,⟨Sx,Sx⟩,λh1 h2=>by simp⟩
  rcases Qh.1 hx with hx|hx
  .exact h.items x hx
  .simp at hx
   subst hx;refine⟨h.fields,?_⟩;simp only;split
   .rename_i h0;simp[h0]
   .rename_i h0;simp[h0]
theorem PI.end'{p:PSt}(h:PI p):PI (endP p).2:=by
 unfold endP;split
 .exact h
 .exact h.flush.close
theorem PI.lines'{p:PSt}(h:PI p)(hl:p.lines≠[])(text:qa):PI {p with lines:=p.lines++[text]}:=⟨h.items,h.fields,λ_ hf=>h.full hl hf⟩
theorem PI.begin'{p:PSt}(h:PI p)(no:Int)(text:qa):PI (vh p no text):=by
 refine⟨h.items,h.fields,λ_ hf=>?_⟩;have:=h.fields.1;simp only[vh,decide_eq_false_iff_not,not_or]at hf⊢;omega
theorem PI.ahead{p:PSt}(h:PI p)(no:Int)(text:qa)(ended:Bool)(kind:Int):PI (j6 p no text ended kind).2:=by
 unfold j6;split
 .split
  .exact h
  .rename_i hl
   split
   .exact h.lines' hl text
   .exact(h.lines' hl text).flush
 .split
  .exact h.end'
  .exact h.flush
theorem PI.take{p:PSt}(h:PI p)(no:Int)(text:qa)(ended:Bool):PI (xh p no text ended).2:=by
 have ha:=h.ahead no text ended (qx text);unfold xh;split
 .exact h
 .split
  .exact h
  .split
   .refine⟨λx hx=>?_,ha.fields,ha.full⟩
    rcases Qh.1 hx with hx|hx
    .exact ha.items x hx
    .simp at hx;subst hx;exact⟨⟨Sx,Sx⟩,Sx⟩
   .split
    .have hb:=ha.begin' no text
     exact⟨hb.items,hb.fields,hb.full⟩
    .exact⟨ha.items,ha.fields,ha.full⟩
theorem PI.run:∀(ls:List (qa×Bool))(k:Nat)(p:PSt),PI p->PI (runL k ls p).2
 | [],k,p,h=>h.end'
 |(t,e)::r,k,p,h=>by
  unfold runL;split
  .exact h
  .exact PI.run r (k+1) _ (h.take k t e)
theorem qnc(text:qa):∀x∈(jl text).2,GF x.fields∧(x.kind=3↔x.fields≠[]):=by
 unfold jl;split
 .simp
 .exact(PI.run _ 0 _ pi0).items
theorem q41(p:PSt):(y4 p).items.length<=p.items.length+1:=by
 unfold y4;split <;>simp
theorem qlg(p:PSt):(ka p).2.items=p.items:=by
 unfold ka;split
 .rfl
 .split
  .rfl
  .split <;>rfl
theorem qxb(p:PSt):(endP p).2.items.length<=p.items.length+1:=by
 unfold endP;split
 .simp
 .have:=q41 (ka p).2
  rw[qlg]at this;exact this
theorem q36(p:PSt)(no:Int)(text:qa)(ended:Bool)(kind:Int):(j6 p no text ended kind).2.items.length<=p.items.length+1:=by
 unfold j6;split
 .split
  .simp
  .split
   .simp
   .rw[qlg];simp
 .split
  .exact qxb p
  .rw[qlg];simp
theorem q91(p:PSt)(no:Int)(text:qa)(ended:Bool):(xh p no text ended).2.items.length<=p.items.length+2:=by
 have ha:=q36 p no text ended (qx text);unfold xh;split
 .simp
 .split
  .simp
  .split
   .simp;omega
   .split
    .simp[vh];omega
    .simp;omega
theorem qkw:∀(ls:List (qa×Bool))(k:Nat)(p:PSt),(runL k ls p).2.items.length<=p.items.length+2*ls.length+1
 | [],k,p=>by have:=qxb p;simp[runL];omega
 |(t,e)::r,k,p=>by
  unfold runL;split
  .simp;omega
  .have h1:=qkw r (k+1) (xh p k t e).2
   have h2:=q91 p k t e;simp only[Qe];omega
theorem zgq(text:qa):(jl text).2.length<=2*text.length+1:=by
 unfold jl;split
 .simp
 .have h1:=qkw (zo text) 0 p0
  have h2:=(qg2 _ text (Qn _)).2;have h3:p0.items.length=0:=rfl;simp only;omega
theorem zcv(by' l:qa):(v7 by' l).1.length<=l.length:=by
 unfold v7;split
 .have h:=(qg2 _ l (Qn _)).1
  have key:∀(ls:List (qa×Bool)),(ls.flatMap λx=>x.1.drop by'.length++x7 x.2).length<=lsum ls:=by
   intro ls
   induction ls with
   |nil=>simp[lsum]
   |cons x r ih=>
    simp only[lsum,Qo,Qq,Qs,List.sum_cons,Zl]at ih⊢;omega
  have:=key (zo l);simp only;omega
 .simp
end Go.Pl
namespace Go.Proofs.YtlekheifonaipaaGreatDoor
open Go Go.Av Go.RowKit Go.Proofs Go.Pl
theorem qpu(text:qa)(st:List AObj)(hl:text.length<=60000)(h:(jl text).1=none):qp E 65 [Sv text] st λr st'=>r=.tu [vu (jl text).2,.v .nilIface]∧st'=st:=by
 have:=qvo text st hl;unfold qe1 at this;rw[h]at this;exact this
theorem q9x(text:qa)(st:List AObj)(a n:Int)(hl:text.length<=60000)(h:(jl text).1=some (a,n)):qp E 65 [Sv text] st λr st'=>r=.tu [vu (jl text).2,.ifc 76 (.pp [Iv a,.ifc 61 (Iv n)])]∧st'=st:=by
 have:=qvo text st hl;unfold qe1 at this;rw[h]at this;exact this
def qeu(text:qa):List Fld×Bool:=
 if(v7 [32,32] text).2=false∨(jl (v7 [32,32] text).1).1≠none then([],false)
 else match recsF (jl (v7 [32,32] text).1).2 with
  | []=>([],decide ((v7 [32,32] text).1=[]))
  |f::_=>(f,decide ((jl (v7 [32,32] text).1).2.length=1))
theorem zpx{a b:List Fld}{c d:Bool}(h1:a=b)(h2:c=d):AV.tu [jd a,Bv c]=AV.tu [jd b,Bv d]:=by rw[h1,h2]
theorem zds{its:List zg}(h:∀x∈its,GF x.fields∧(x.kind=3↔x.fields≠[])):∀fs∈recsF its,GF fs∧fs≠[]:=λfs hfs=>by
 obtain⟨x,hx,rfl⟩:=Qf.1 hfs;obtain⟨hx1,hx2⟩:=List.mem_filter.1 hx;have:=h x hx1;exact⟨this.1,this.2.1 (by simpa using hx2)⟩
set_option maxHeartbeats 2000000 in
theorem zjf(text:qa)(st:List AObj)(hl:text.length<=60000):qp E 168 [Sv text] st λr st'=>r=.tu [jd (qeu text).1,Bv (qeu text).2]∧st'=st:=by
 refine qz (ju (qa5 _) (qr _)) (qq Tryz.func168 rfl (Qc rfl) ?_);have hdl:=zcv [32,32] text;have dx:=zgq (v7 [32,32] text).1;have tj:=qnc (v7 [32,32] text).1;unfold qeu;obtain⟨d,hd⟩:∃d,d=v7 [32,32] text:=⟨_,rfl⟩;have hdc:∀st,qp E 177 [Sv text,Sv [32,32]] st λr st'=>r=.tu [Sv d.1,Bv d.2]∧st'=st:=λst=>by rw[hd];exact q45 text [32,32] st Om
 rw[<-hd]at hdl dx tj⊢;obtain⟨b,ok⟩:=d;simp only at hdl dx tj hdc⊢
 cases hp:(jl b).1 with
 |some e=>
  obtain⟨a,n⟩:=e;rw[if_pos (.inr Sx)]
  cases ok
  all_goals
   repeat' (first|apply qo|apply qf|apply qh|apply qj|apply qg|(apply zf;rfl;rfl)|(apply ja;rfl)|(apply qw;rfl;rfl;rfl;rfl)|(apply qao;exact cRa)|(apply qbs;exact cRa)|(apply qi;rfl;apply qjb;exact cRa)|(apply qi;rfl;apply qfm;exact cRa)|(apply qc;rfl;apply cd_t;exact cRa)|(apply xi;rfl;rfl)|apply qu|(apply qk;exact Tryz.call177;exact hdc _)|(apply qk;exact Tryz.call65;exact q9x _ _ _ _ Om hp))
   exact qn rfl (ya (kw rfl) (qgs (qh6 2) (qc0 (Bv false)))) ⟨rfl,_,rfl⟩
 |none=>
  cases ok
  .rw[if_pos (.inl rfl)]
   repeat' (first|apply qo|apply qf|apply qh|apply qj|apply qg|(apply zf;rfl;rfl)|(apply ja;rfl)|(apply qw;rfl;rfl;rfl;rfl)|(apply qbs;exact cRa)|(apply qi;rfl;apply qjb;exact cRa)|(apply qc;rfl;apply cd_t;exact cRa)|apply qu|(apply qk;exact Tryz.call177;exact hdc _)|(apply qk;exact Tryz.call65;exact qpu _ _ Om hp))
   exact qn rfl (ya (kw rfl) (qgs (qh6 2) (qc0 (Bv false)))) ⟨rfl,_,rfl⟩
  .rw[if_neg Sx]
   have hsc:=λst=>zhp (jl b).2 st Om (λx hx=>by have:=(tj x hx).1.1;omega);have o0:((jl b).2.map kq).length=(jl b).2.length:=Sx
   cases hr:recsF (jl b).2 with
   |nil=>
    rw[hr]at hsc;repeat' (first|apply qo|apply qf|apply qh|apply qj|apply qg|(apply zf;rfl;rfl)|(apply qt;rfl;rfl;rfl)|(apply jp;rfl;rfl;rfl)|(apply ja;rfl)|(apply qw;rfl;rfl;rfl;rfl)|(apply qao;exact cRa)|(apply qi;rfl;apply qfm;exact cRa)|(apply qc;rfl;apply cd_t;exact cRa)|(apply qc;rfl;apply cd_f;exact cRa)|(apply jk;rfl;rfl;rfl;rfl)|(apply wh;rfl;rfl)|apply qv|apply qu|(apply qk;exact Tryz.call177;exact hdc _)|(apply qk;exact Tryz.call65;exact qpu _ _ Om hp)|(apply qk;exact Tryz.call206;exact hsc _))
    exact qn rfl (ya (kw rfl) (qgs (qh6 2) (qc0 (Bv (decide (b=[])))))) ⟨rfl,_,rfl⟩
   |cons f r=>
    rw[hr]at hsc;have dg:((f::r).map jd).length=r.length+1:=Sx
    repeat' (first|apply qo|apply qf|apply qh|apply qj|apply qg|(apply zf;rfl;rfl)|(apply qt;rfl;rfl;rfl)|(apply ja;rfl)|(apply qw;rfl;rfl;rfl;rfl)|(apply qao;exact cRa)|(apply qi;rfl;apply qfm;exact cRa)|(apply qc;rfl;apply vq;exact cAo)|(apply qc;rfl;apply cd_f;exact cRa)|(apply jk;rfl;rfl;rfl;rfl)|(apply wh;rfl;rfl)|(apply jq;rfl;rfl;rfl)|apply qv|apply qu|(apply qk;exact Tryz.call177;exact hdc _)|(apply qk;exact Tryz.call65;exact qpu _ _ Om hp)|(apply qk;exact Tryz.call206;exact hsc _)|(apply kp (n:=0);(iterate 6 rfl)))
    refine qn rfl (kw rfl) ⟨zpx rfl (decide_eq_decide.2 ?_),_,rfl⟩;rw[o0];omega
def y6(text:qa):List LnV->Nat->List qa
 | [],frm=>[text.drop frm]
 |l::r,frm=>if frm<l.at'∧¬ [32,32]<+:l.text then(text.take l.at').drop frm::y6 text r l.at' else y6 text r frm
def qf2(text:qa):List qa:=y6 text (lns text) 0
theorem zfw(l m:qa)(st:List AObj)(h:m<+:l):qp E 155 [Sv l,Sv m] st λr st'=>r=Bv true∧st'=st:=by
 have:=qf1 l m st;rw[(yx l m).2 h]at this;exact this
theorem zfv(l m:qa)(st:List AObj)(h:¬m<+:l):qp E 155 [Sv l,Sv m] st λr st'=>r=Bv false∧st'=st:=by
 have:=qf1 l m st
 have hf:Lib.hasPrefix l m=false:=by
  cases hb:Lib.hasPrefix l m with
  |false=>rfl
  |true=>exact absurd ((yx l m).1 hb) h
 rw[hf]at this;exact this
theorem znh(text:qa)(st:List AObj)(hl:text.length<1000000):qp E 166 [Sv text] st λr st'=>r=Ss (qf2 text)∧st'=st:=by
 refine ze [.s text] (qnz _) Tryz.func166 rfl rfl (λ_=>rfl) rfl λS0=>?_;apply qd [];repeat' (first|apply Qa|(intro h;try exact cDd)|exact⟨Tryz.call107⟩|(refine Qb _ ⟨qpw _,?_⟩)|exact cSd|apply qb []|refine exr ?_|refine qe ?_)
 refine qil (X:=List qa×Nat) text 2 3 [0,1,2] (λ(out,frm)=>⟨[(1,.a (.pp [Sv text])),(3,.bx 0 0),(4,.bx 1 0),(7,.fn (.func 154) [] [.bx 2 0])],
   [(0,some (.cells 199 [.tp 3])),(1,some (.cells 3 [.i frm])),(2,some (.cells 9 [.s text])),(3,some (.tip 1 9 (out.map λx=>Sv x)))],4⟩) _
  (λk rest(out,frm)=>∃a,a+rest.length=text.length∧frm<=a∧out.length<=k∧k<=a∧out++y6 text (v4 k a rest) frm=qf2 text) (λ_ _=>False) ([],0) ⟨0,Sx,Om,Sx,Om,rfl⟩ ?_ id Om (λ_=>rfl) rfl (λ_=>rfl) (λ_=>rfl) rfl ?_ ?_ (λ_ _ h=>h.elim)
 .skip
  repeat' (first|apply Qa|(intro h;try exact cDd)|exact cSd|apply qb []|refine exr ?_|refine qe ?_)
 .rintro k rest ⟨out,frm⟩ ⟨a,ha,hfa,hok,hka,a8⟩ b9 d7
  have np:=qbn (k:=k) (a:=a) b9;have hul:=vl 10 rest;have hr0:0<rest.length:=Qz.2 b9;have dx:=vm 10 rest
  have lv:a+(upto 10 rest).length+1+(past 10 rest).length=text.length∨past 10 rest=[]:=by
   by_cases i3:10∈rest
   .have:=qft i3
    exact .inl Om
   .right
    unfold past;rw[xy i3];simp
  have hpast:∀f,y6 text (v4 (k+1) (a+(upto 10 rest).length+1) (past 10 rest)) f=y6 text (v4 (k+1) (text.length-(past 10 rest).length) (past 10 rest)) f:=λf=>by
   rcases lv with h|h
   .have:a+(upto 10 rest).length+1=text.length-(past 10 rest).length:=by omega
    rw[this]
   .rw[h,qbh,qbh]
  have e:(text.length:Int)-rest.length=(a:Int):=Om
  rw[np,y6]at a8;unfold qo6;rw[e];by_cases hp:[32,32]<+:upto 10 rest
  .have hhp:=λst=>zfw (upto 10 rest) [32,32] st hp
   rw[if_neg (λh=>h.2 hp),hpast]at a8;refine RA.mk λS F ρ rd=>?_;apply qd [];repeat' (first|apply Qa|(intro h;try exact cDd)|(refine RB.mk λS rd=>?_;apply qd [])|exact⟨Tryz.call155⟩|refine cpe hhp ?_|(refine Qb (out,frm) ⟨⟨text.length-(past 10 rest).length,Om,Om,Om,Om,a8⟩,?_⟩)|exact cSd|apply qb []|refine exr ?_|refine qe ?_)
  .have hhp:=λst=>zfv (upto 10 rest) [32,32] st hp
   by_cases hfr:frm<a
   .rw[if_pos ⟨hfr,hp⟩,hpast]at a8
    refine RA.mk λS F ρ rd=>?_;apply qd [];repeat' (first|apply Qa|(intro h;try exact cDd)|(refine RB.mk λS rd=>?_;apply qd [25])|exact⟨Tryz.call155⟩|refine cpe hhp ?_|(refine Qb (out++[(text.take a).drop frm],a) ⟨⟨text.length-(past 10 rest).length,Om,Om,So,Om,by rw[<-a8];simp⟩,?_⟩)|exact cSd|apply qb [25]|refine exr ?_|refine qe ?_)
    all_goals first|(simp[SV.evs];omega)|(simp[SV.evs,SV.ev];done)
   .rw[if_neg (λh=>hfr h.1),hpast]at a8
    refine RA.mk λS F ρ rd=>?_;apply qd [];repeat' (first|apply Qa|(intro h;try exact cDd)|(refine RB.mk λS rd=>?_;apply qd [])|exact⟨Tryz.call155⟩|refine cpe hhp ?_|(refine Qb (out,frm) ⟨⟨text.length-(past 10 rest).length,Om,Om,Om,Om,a8⟩,?_⟩)|exact cSd|apply qb []|refine exr ?_|refine qe ?_)
 .rintro k ⟨out,frm⟩ ⟨a,ha,hfa,hok,hka,a8⟩
  rw[qbh,y6]at a8;repeat' (first|apply Qa|(intro h;try exact cDd)|exact cSd|apply qb []|refine exr ?_|refine qe ?_)
  rw[<-a8];simp
def decP:List qa->List qm->Option (List qm)
 | [],acc=>some acc
 |p::r,acc=>match begE (upto 10 p)with
  |none=>none
  |some (k,n)=>if(qeu (past 10 p)).2=true∧acc.length≠40 then decP r (acc++[⟨k,n,(qeu (past 10 p)).1⟩])else none
def decF(text:qa):Option (List qm):=if 50000<text.length then none else match decP (qf2 text) []with
 |none=>none
 |some b=>if eErr b=.no∧encF b=text then some b else none
def decA:Option (List qm)->AV
 |none=>.tu [zh [],.ifc 61 (Iv 2)]
 |some b=>.tu [zh b,.v .nilIface]
theorem zfg(x:Option (List qm)):Pure (decA x):=by
 rcases x with _|b
 .exact ju (qa4 _) (qd2 (qr _))
 .exact ju (qa4 _) (qr _)
theorem qmq(text:qa):∀(ls:List LnV)(f:Nat),(∀p∈y6 text ls f,p.length<=text.length)∧(y6 text ls f).length<=ls.length+1
 | [],f=>by simp[y6]
 |l::r,f=>by
  unfold y6;split
  .obtain⟨h1,h2⟩:=qmq text r l.at'
   refine⟨λp hp=>?_,So⟩;rcases Qd.1 hp with rfl|hp
   .simp;omega
   .exact h1 p hp
  .obtain⟨h1,h2⟩:=qmq text r f
   exact⟨h1,So⟩
theorem qzf{l:qa}{k n:Int}(h:begE l=some (k,n)): -9223372036854775808<=n∧n<=9223372036854775807:=by
 have key:∀{j:Int}{n:Int},tryB j l=some n->-9223372036854775808<=n∧n<=9223372036854775807:=λ{j n}h=>by
  unfold tryB at h;split at h
  .split at h
   .rename_i v hv
    cases h
    exact Lib.atoiAll_bounds hv
   .simp at h
  .simp at h
 unfold begE at h;split at h
 .rename_i v hv;simp at h;rw[<-h.2];exact key hv
 .split at h
  .rename_i v hv;simp at h;rw[<-h.2];exact key hv
  .split at h
   .rename_i v hv;simp at h;rw[<-h.2];exact key hv
   .simp at h
theorem qtp(text:qa):GF (qeu text).1:=by
 unfold qeu;split
 .exact⟨Sx,Sx⟩
 .split
  .exact⟨Sx,Sx⟩
  .rename_i f r hr
   exact(zds (qnc _) f (by rw[hr];simp)).1
theorem q5a{k n:Int}{fs:List Fld}(h1: -9223372036854775808<=n)(h2:n<=9223372036854775807)(hg:GF fs):EdB ⟨k,n,fs⟩:=
 ⟨λf hf=>by have:=(hg.2 f hf).1.2.1;omega,by have:=hg.1;simp only;omega,h1,h2⟩
set_option maxHeartbeats 4000000 in
theorem zi2(text:qa)(st:List AObj)(hl:text.length<1000000):qp E 112 [Sv text] st λr st'=>r=decA (decF text)∧st'=st:=by
 refine ze [.s text] (zfg _) Tryz.func112 rfl rfl (λ_=>rfl) rfl λS0=>?_;by_cases bd:50000<text.length
 .have hd:decF text=none:=if_pos bd
  rw[hd];apply qd [];repeat' (first|apply Qa|(intro h;try exact cDd)|exact cSd|apply qb []|refine exr ?_|refine qe ?_)
 have m8:decF text=match decP (qf2 text) []with
  |none=>none
  |some b=>if eErr b=.no∧encF b=text then some b else none:=if_neg bd
 have dx:=(qmq text (lns text) 0).1;have hpn:=(qmq text (lns text) 0).2;have hln:=qdt _ text 0 0 (Qn _);have lw:y6 text (lns text) 0=qf2 text:=rfl;have d7:(lns text).length<=text.length:=hln;rw[lw]at dx hpn;have o0:((qf2 text).map λx=>Sv x).length=(qf2 text).length:=Sx
 have hpc:=λst=>znh text st hl;generalize qf2 text=L at m8 dx hpn o0 hpc;apply qd [];repeat' (first|apply Qa|(intro h;try exact cDd)|exact⟨Tryz.call166⟩|refine cpe hpc ?_|exact cSd|apply qb []|refine exr ?_|refine qe ?_)
 refine zw (X:=Nat×List qm) (λ(k,acc)=>⟨[(0,.s text),(4,.tp 0),(21,.a (Ss L)),(22,.i L.length),(23,.i k)],[(0,some (.tip 3 44 (acc.map zt)))],1⟩)
  (λ(k,acc)=>k<=L.length∧acc.length<=k∧(∀x∈acc,EdB x)∧decP (L.drop k) acc=decP L []) (λx=>L.length-x.1) (0,[]) ⟨Om,Sx,Sx,rfl⟩ ?_ ?_
 .skip
  repeat' (first|apply Qa|(intro h;try exact cDd)|exact cSd|apply qb []|refine exr ?_|refine qe ?_)
  all_goals first|(simp;done)
 .rintro⟨j,acc⟩ ⟨hj,hal,hB,a8⟩
  have hma:(acc.map zt).length=acc.length:=Sx
  by_cases hc:j<L.length
  .obtain⟨p,hx⟩:∃p,L[j]?=some p:=⟨_,Qg hc⟩
   have hg:(L.map λx=>Sv x)[j]?=some (Sv p):=by simp[hx]
   have hd:L.drop j=p::L.drop (j+1):=by
    obtain⟨d9,e⟩:=Ql.1 hx;rw[Qm d9,e]
   have hpp:=dx p (Qu hx);have hul:=vl 10 p;have hpal:=vm 10 p;have hcu:=λst=>qlb p 10 st Om;have hbc:=λst=>zl8 (upto 10 p) st Om;have hgf:=qtp (past 10 p);have cr:=λst=>zjf (past 10 p) st Om;rw[hd,decP]at a8
   cases s6:begE (upto 10 p)with
   |none=>
    rw[s6]at a8 hbc;simp only at a8;rw[<-a8]at m8;simp only at m8;rw[m8];apply qd []
    repeat' (first|apply Qa|(intro h;try exact cDd)|(refine Qb (j) ⟨Om,_,hg,?_⟩)|exact⟨Tryz.call104⟩|refine cpe hcu ?_|exact⟨Tryz.call167⟩|refine cpe hbc ?_|exact⟨Tryz.call168⟩|refine cpe cr ?_|exact cSd|apply qb []|refine exr ?_|refine qe ?_)
   |some kn=>
    obtain⟨kd,n⟩:=kn;have cq:=qzf s6;rw[s6]at a8 hbc;simp only at a8;obtain⟨fs,hfs⟩:∃x,x=(qeu (past 10 p)).1:=⟨_,rfl⟩;rw[<-hfs]at a8 cr hgf
    cases hok:(qeu (past 10 p)).2 with
    |false=>
     rw[hok]at a8 cr;rw[if_neg Sx]at a8;rw[<-a8]at m8;simp only at m8;rw[m8];apply qd []
     repeat' (first|apply Qa|(intro h;try exact cDd)|(refine Qb (j) ⟨Om,_,hg,?_⟩)|exact⟨Tryz.call104⟩|refine cpe hcu ?_|exact⟨Tryz.call167⟩|refine cpe hbc ?_|exact⟨Tryz.call168⟩|refine cpe cr ?_|exact cSd|apply qb []|refine exr ?_|refine qe ?_)
    |true=>
     rw[hok]at a8 cr;by_cases h40:acc.length=40
     .rw[if_neg (by simp[h40])]at a8
      rw[<-a8]at m8;simp only at m8;rw[m8];apply qd [];repeat' (first|apply Qa|(intro h;try exact cDd)|(refine Qb (j) ⟨Om,_,hg,?_⟩)|exact⟨Tryz.call104⟩|refine cpe hcu ?_|exact⟨Tryz.call167⟩|refine cpe hbc ?_|exact⟨Tryz.call168⟩|refine cpe cr ?_|exact cSd|apply qb []|refine exr ?_|refine qe ?_)
     .rw[if_pos ⟨rfl,h40⟩]at a8
      have ml:∀x∈acc++[⟨kd,n,fs⟩],EdB x:=λx hx=>by
       rcases Qh.1 hx with hx|hx
       .exact hB x hx
       .obtain rfl:=Qw.1 hx
        exact q5a cq.1 cq.2 hgf
      apply qd [];repeat' (first|apply Qa|(intro h;try exact cDd)|(refine Qb (j) ⟨Om,_,hg,?_⟩)|exact⟨Tryz.call104⟩|refine cpe hcu ?_|exact⟨Tryz.call167⟩|refine cpe hbc ?_|exact⟨Tryz.call168⟩|refine cpe cr ?_|(refine Qb (j+1,acc++[⟨kd,n,fs⟩]) ⟨⟨Om,So,ml,a8⟩,by simp only;omega,?_⟩)|exact cSd|apply qb []|refine exr ?_|refine qe ?_)
      all_goals (simp;done)
  .have hd:L.drop j=[]:=Qp Om
   rw[hd,decP]at a8;rw[<-a8]at m8;simp only at m8
   cases he:eErr acc with
   |no=>
    have u0:=λst=>q1h acc st hB he;by_cases ht:encF acc=text
    .rw[if_pos ⟨he,ht⟩]at m8
     rw[m8];rw[ht]at u0;apply qd [];repeat' (first|apply Qa|(intro h;try exact cDd)|exact⟨Tryz.call30⟩|refine cpe u0 ?_|exact cSd|apply qb []|refine exr ?_|refine qe ?_)
    .rw[if_neg λh=>ht h.2]at m8
     rw[m8];apply qd [];repeat' (first|apply Qa|(intro h;try exact cDd)|exact⟨Tryz.call30⟩|refine cpe u0 ?_|exact cSd|apply qb []|refine exr ?_|refine qe ?_)
     all_goals exact absurd ht (by assumption)
   |num n=>
    have u0:=λst=>qmb acc st (.num n) hB Om he λh=>by
     have:=(qdr acc).1 (by rw[he];exact h);rw[he]at this;simp at this
    rw[if_neg λh=>by rw[he]at h;simp at h]at m8;rw[m8];apply qd []
    repeat' (first|apply Qa|(intro h;try exact cDd)|exact⟨Tryz.call30⟩|refine cpe u0 ?_|exact cSd|apply qb []|refine exr ?_|refine qe ?_)
   |at' a n=>
    have u0:=λst=>qmb acc st (.at' a n) hB Om he λh=>by
     have:=(qdr acc).1 (by rw[he];exact h);rw[he]at this;simp at this
    rw[if_neg λh=>by rw[he]at h;simp at h]at m8;rw[m8];apply qd [];repeat' (first|apply Qa|(intro h;try exact cDd)|exact⟨Tryz.call30⟩|refine cpe u0 ?_|exact cSd|apply qb []|refine exr ?_|refine qe ?_)
theorem qzm:qv3 E:=λ_ _ _ h hb hB _ h2=>h _ (hb.trans (h2.mono hB))
theorem zms:(Tryz.prog.fieldsOf 40).toList=[⟨ "Key",9,0,false,"","",0⟩,⟨ "Value",9,1,false,"","",16⟩]:=by kernel_rfl
theorem zmr(a b c d:ByteArray)(w:World):(Op.equalIn 10000 40 (.agg #[.string a,.string b]) (.agg #[.string c,.string d])).run Tryz.prog w=.ok (a.toList==c.toList&&b.toList==d.toList) w:=by
 rw[run_equalIn_agg w 9999 40 _ _ Kr Kr,zms];have p1:∀(x y:ByteArray)w,(part 9 #[.string x,.string y] 0).run Tryz.prog w=.ok (.string x) w:=λx y w=>by kernel_rfl
 have p2:∀(x y:ByteArray)w,(part 9 #[.string x,.string y] 1).run Tryz.prog w=.ok (.string y) w:=λx y w=>by kernel_rfl
 have hs:∀(x y:ByteArray)w,(Op.equalIn 9999 9 (.string x) (.string y)).run Tryz.prog w=.ok (x.toList==y.toList) w:=λx y w=>run_equalIn_string w 9998 9 x y Kr;simp only[Op.eqFields,Sem.run_bind,Sem.run_ite,p1,p2,hs,Result.andThen_ok,Sem.run_pure]
 cases hac:(a.toList==c.toList)<;>cases hbd:(b.toList==d.toList)<;>simp
theorem zbk{G:Gh}{f:Fld}{v:Value}(h:Rel G (fldA f) v):v=.agg #[.string ⟨f.1.toArray⟩,.string ⟨f.2.toArray⟩]:=by
 cases h with
 |ag _ vs hl h=>
  match vs,hl with
  |⟨[x,y]⟩,_=>
   have h1:=h 0 _ x rfl rfl;have h2:=h 1 _ y rfl rfl
   cases h1
   cases h2
   rfl
theorem znd(f g:Fld)(w:World):(binOp .neq 40 (.agg #[.string ⟨f.1.toArray⟩,.string ⟨f.2.toArray⟩]) (.agg #[.string ⟨g.1.toArray⟩,.string ⟨g.2.toArray⟩])).run Tryz.prog w=.ok (.bool (decide (f≠g))) w:=by
 rw[run_neq_struct,zmr];simp only[Result.andThen_ok,ByteArray.toList_eq];obtain⟨a,b⟩:=f;obtain⟨c,d⟩:=g;congr 2;by_cases h1:a=c<;>by_cases h2:b=d<;>simp[h1,h2]
section
variable {N : Nat} {ops : Array Oper} {K : AS → Prop} {s : AS} {rest : List Oper} {d : Option Tmp} {T : TypeId} {p : String} {af : Array Edge}
theorem zer{x y:Operand}{t':TypeId}{f g:Fld}{b:Bool}(hx:ql N s x=fldA f)(hy:ql N s y=fldA g)(hb:decide (f≠g)=b)
  (h:AQ E N ops rest K (s.put d (Bv b))):AQ E N ops (⟨d,.binOp .neq 40 x y t',T,p,af,none⟩::rest) K s:=by
 subst hb;refine qfa rfl nofun λB0 w0 G a w _ hI=>⟨.bool (decide (f≠g)),_,λw' _=>?_,.v _,h⟩;have h1:=zbk (hI.eval_of hx);have h2:=zbk (hI.eval_of hy);generalize a.eval=ρ at h1 h2;have hg:(eqGuard .neq 40 x y (.agg #[.string ⟨f.1.toArray⟩,.string ⟨f.2.toArray⟩]) (.agg #[.string ⟨g.1.toArray⟩,.string ⟨g.2.toArray⟩])).run Tryz.prog w'=.ok () w':=run_eqGuard_agg w' _ _ _ _ _ _ Kr;simp[execOp,h1,h2,hg,znd]
end
theorem qbz{α:Type}[DecidableEq α]{a b:List α}{k:Nat}{d:α}(hl:a.length=b.length)(hk:k<a.length)(h:a.take k=b.take k)(h2:a.getD k d=b.getD k d):a.take (k+1)=b.take (k+1):=by
 rw[Qv hk,Qv Om,h];congr 2
 simpa[Ze,hk,show k<b.length by omega]using h2
theorem zfq(a b:List Fld)(st:List AObj)(ha:a.length<9223372036854775808):qp E 24 [jd a,jd b] st λr st'=>r=Bv (decide (a=b))∧st'=st:=by
 refine qz (qr _) (qq Tryz.func24 rfl (Qc rfl) ?_);have hma:(a.map fldA).length=a.length:=Sx
 have hmb:(b.map fldA).length=b.length:=Sx
 by_cases hl:a.length=b.length
 .skip
  repeat' (first|apply qo|apply qy|apply qf|apply qh|apply qj|apply qg|(apply qt;rfl;rfl;rfl)|(apply qc;rfl;apply vq;exact cAo)|(apply jk;rfl;rfl;rfl;rfl)|apply qv)
  refine jr (λ(k:Nat)s=>k<=a.length∧a.take k=b.take k∧StE [(0,jd a),(1,jd b),(12,Iv a.length),(13,Iv k)] st [] s) (λk=>a.length-k) 0 ⟨Om,Sx,qek ⟨rfl,rfl,congrArg (λn:Nat=>Iv (n:Int)) hma,rfl,trivial⟩ rfl⟩ ?_;rintro k _ ⟨hk,ht,t,ext,rfl⟩;by_cases hc:k<a.length
  .by_cases he:a.getD k ([],[])=b.getD k ([],[])
   .have hn:decide (a.getD k ([],[])≠b.getD k ([],[]))=false:=decide_eq_false λh=>h he
    repeat' (first|apply qo|apply qy|apply qf|apply qh|apply qj|apply qg|(apply qt;rfl;rfl;rfl)|(apply qc;rfl;apply va;exact cAo)|(apply qc;rfl;apply cd_f;exact cRa)|(apply zn;rfl;rfl;exact q6 Om Om)|(apply qgg;rfl;kernel_rfl)|apply qfv|(apply qe9;rfl;rfl;rfl)|apply qea|apply qv|(apply qdh (n:=k);(iterate 5 rfl);exact qou (xs:=a) Om)|(apply qdh (n:=k);(iterate 5 rfl);exact qou (xs:=b) Om)|(apply zer;rfl;rfl;exact hn))
    exact⟨k+1,⟨Om,qbz hl hc ht he,qbq ⟨rfl,rfl,rfl,rfl,trivial⟩ rfl⟩,Om⟩
   .have hn:decide (a.getD k ([],[])≠b.getD k ([],[]))=true:=decide_eq_true he
    have hab:¬a=b:=λe=>he (by rw[e]);repeat' (first|apply qo|apply qy|apply qf|apply qh|apply qj|apply qg|(apply qt;rfl;rfl;rfl)|(apply qc;rfl;apply va;exact cAo)|(apply qc;rfl;apply cd_t;exact cRa)|(apply qgg;rfl;kernel_rfl)|apply qfv|(apply qe9;rfl;rfl;rfl)|apply qea|apply qv|apply qu|(apply qdh (n:=k);(iterate 5 rfl);exact qou (xs:=a) Om)|(apply qdh (n:=k);(iterate 5 rfl);exact qou (xs:=b) Om)|(apply zer;rfl;rfl;exact hn))
    exact qn rfl (q5 rfl) ⟨congrArg Bv (decide_eq_false hab).symm,qa0 _ _ _ _⟩
  .have hab:a=b:=by
    have e:k=a.length:=Om
    rw[e,Zm,List.take_of_length_le Om]at ht;exact ht
   repeat' (first|apply qo|apply qf|apply qh|apply qg|(apply qt;rfl;rfl;rfl)|(apply qc;rfl;apply vq;exact cAo)|apply z7|apply qu)
   exact qn rfl (q5 rfl) ⟨congrArg Bv (decide_eq_true hab).symm,qa0 _ _ _ _⟩
 .have hab:¬a=b:=λe=>hl (by rw[e])
  repeat' (first|apply qo|apply qf|apply qh|apply qj|apply qg|(apply qt;rfl;rfl;rfl)|(apply qc;rfl;apply va;exact cAo)|(apply jk;rfl;rfl;rfl;rfl)|apply qu)
  exact qn rfl (q5 rfl) ⟨congrArg Bv (decide_eq_false hab).symm,_,rfl⟩
end Go.Proofs.YtlekheifonaipaaGreatDoor
namespace Go.Pl
open Go Go.Proofs Go.Proofs.YtlekheifonaipaaGreatDoor
theorem yj(s:qa)(r:List qa):zj (s::r)=s++10::zj r:=by simp[zj]
theorem qdj:∀(ls:List qa),(∀s∈ls,10∉s)->zo (zj ls)=ls.map λs=>(s,true)
 | [],_=>by simp[zj,vv]
 |s::r,h=>by
  have hs:=h s Sx;rw[yj,wl Sx,v8 _ hs,xw _ hs,qdj r λx hx=>h x (by simp[hx])];simp
theorem q9e{f:Fld}(h:kh f):∀s∈zp f,10∉s:=λs hs=>by
 unfold zp at hs;rcases Qd.1 hs with rfl|hs
 .have h1:=qfl f.2 _ (qu4 f.2)
  have h2:=h.1.2.2.2.2.2;unfold kl;split <;>simp_all
 .obtain⟨x,hx,rfl⟩:=Qf.1 hs
  have h1:=qfl f.2 x (Zj hx);have:=qyv h1;simp[this]
theorem qrk{f:Fld}(h:kh f):∃hd mr,zp f=hd::mr∧qx hd=4∧∀s∈mr,qx s=3:=by
 refine⟨_,_,rfl,q1r h.1 (qfl f.2 _ (qu4 f.2)),λs hs=>?_⟩;obtain⟨x,hx,rfl⟩:=Qf.1 hs;exact q1s x (qfl f.2 x (Zj hx))
theorem zhx{p:PSt}{k:Int}{t:qa}(ht:qx t=3)(hl:p.lines≠[]):xh p k t true=(none,{p with lines:=p.lines++[t],block:=p.block++[t]}):=by
 have ha:j6 p k t true (qx t)=(none,{p with lines:=p.lines++[t]}):=by
  unfold j6;rw[if_pos ht,if_neg hl,if_pos rfl]
 unfold xh;rw[ha,ht];simp
theorem q2t{p q:PSt}{k:Int}{t:qa}(ht:qx t=4)(hf:ka p=(none,q)):xh p k t true=(none,{vh q k t with block:=q.block++[t]}):=by
 have ha:j6 p k t true (qx t)=(none,q):=by
  unfold j6;rw[if_neg Om,if_neg Om];exact hf
 unfold xh;rw[ha,ht];simp
theorem qvl:∀(m:List qa)(k:Nat)(p:PSt)(ls:List (qa×Bool)),(∀s∈m,qx s=3)->p.lines≠[]->
  runL k (m.map (λs=>(s,true))++ls) p=runL (k+m.length) ls {p with lines:=p.lines++m,block:=p.block++m}
 | [],k,p,ls,_,_=>by simp
 |s::m,k,p,ls,h,hl=>by
  have hs:=h s Sx;rw[Qs,Qj,runL,zhx hs hl];simp only;rw[qvl m (k+1) _ ls (λx hx=>h x (by simp[hx])) Sx];simp only[Qt,Qj,Qr,Qe];congr 1;omega
theorem qxf{g:Fld}(hg:kh g)(frm:Int)(its:List zg)(blk:List qa)(done:List Fld)(rc:Int):ka ⟨zp g,frm,false,its,blk,done,rc⟩=(none,⟨[],frm,false,its,blk,done++[g],rc⟩):=by
 have hu:=qqe hg;unfold ka;rw[if_neg (by simp[zp]),hu];simp
theorem q7x:∀(r:List Fld)(done:List Fld)(g:Fld)(k:Nat)(frm:Int)(blk:List qa),kh g->(∀f∈r,kh f)->done.length+1+r.length<=40->blk≠[]->
  (runL k ((r.flatMap zp).map λs=>(s,true)) ⟨zp g,frm,false,[],blk,done,0⟩).1=none∧(runL k ((r.flatMap zp).map λs=>(s,true)) ⟨zp g,frm,false,[],blk,done,0⟩).2.items=[⟨3,zj (blk++r.flatMap zp),done++g::r⟩]
 | [],done,g,k,frm,blk,hg,_,_,hb=>by
  have he:endP ⟨zp g,frm,false,[],blk,done,0⟩=(none,y4 ⟨[],frm,false,[],blk,done++[g],0⟩):=by
   unfold endP;rw[qxf hg]
  simp only[Zn,Zr,runL,he,Zd];refine⟨trivial,?_⟩;unfold y4;rw[if_neg hb]
  simp
 |f::r,done,g,k,frm,blk,hg,hr,hl,hb=>by
  have hf:=hr f Sx;obtain⟨hd,mr,hlf,hk4,gm⟩:=qrk hf;simp only[Qe]at hl
  have a8:runL k (((f::r).flatMap zp).map λs=>(s,true)) ⟨zp g,frm,false,[],blk,done,0⟩=runL (k+1+mr.length) ((r.flatMap zp).map λs=>(s,true)) ⟨zp f,k,false,[],blk++zp f,done++[g],0⟩:=by
   rw[Qo,Zf,hlf,Qs,Qj,runL,q2t hk4 (qxf hg frm [] blk done 0)];simp only;rw[qvl mr (k+1) _ _ gm (by simp[vh])]
   have hfu:decide ((done++[g]).length=40∨((done++[g]).length=0∧(0:Int)=400))=false:=by
    simp;omega
   simp only[vh,hfu,Qt,Qj,Qr]
  rw[a8];have ih:=q7x r (done++[g]) f (k+1+mr.length) k (blk++zp f) hf (λx hx=>hr x (by simp[hx])) So (by simp[hb]);rw[ih.1,ih.2];simp[Qo]
theorem qkm(fs:List Fld):zy fs=zj (fs.flatMap zp):=by
 induction fs with
 |nil=>rfl
 |cons f r ih=>
  rw[Qo,qaq,<-ih];simp[zy]
theorem qmd{fs:List Fld}(h:∀f∈fs,kh f):∀s∈fs.flatMap zp,10∉s:=λs hs=>by
 obtain⟨f,hf,hs⟩:=Zc.1 hs;exact q9e (h f hf) s hs
theorem qx3{fs:List Fld}(hg:GF fs)(b9:fs≠[]):jl (zy fs)=(none,[⟨3,zy fs,fs⟩]):=by
 have hl:=qdj _ (qmd hg.2);rw[<-qkm]at hl
 cases fs with
 |nil=>exact absurd rfl b9
 |cons f r=>
  have hf:=hg.2 f Sx;obtain⟨hd,mr,hlf,hk4,gm⟩:=qrk hf;have d5:=hg.1;simp only[Qe]at d5
  have a8:runL 0 (((f::r).flatMap zp).map λs=>(s,true)) p0=runL (0+1+mr.length) ((r.flatMap zp).map λs=>(s,true)) ⟨zp f,(0:Nat),false,[],zp f,[],0⟩:=by
   have o8:ka p0=(none,p0):=rfl;rw[Qo,Zf,hlf,Qs,Qj,runL,q2t hk4 o8];simp only;rw[qvl mr (0+1) _ _ gm (by simp[vh])];simp[vh,p0]
  have ih:=q7x r [] f (0+1+mr.length) (0:Nat) (zp f) hf (λx hx=>hg.2 x (by simp[hx])) So (by simp[zp]);unfold jl;rw[hl,a8,ih.1];simp only;rw[ih.2];rw[qkm,Qo,Qr]
theorem zgr:jl []=(none,[]):=by
 unfold jl;rw[vv];rfl
theorem qtv{ls:List qa}(h:∀s∈ls,10∉s):qa2 [32,32] (zj ls)=zj (ls.map λs=>[32,32]++s):=by
 unfold qa2 indF;rw[qdj ls h];simp only[zj,Zo,x7,if_pos]
theorem q5z{ls:List qa}(h:∀s∈ls,10∉s):∀s∈ls.map (λs=>[32,32]++s),10∉s:=λs hs=>by
 obtain⟨x,hx,rfl⟩:=Qf.1 hs;have:=h x hx;simp[this]
theorem q29{ls:List qa}(h:∀s∈ls,10∉s):v7 [32,32] (qa2 [32,32] (zj ls))=(zj ls,true):=by
 rw[qtv h];unfold v7;rw[qdj _ (q5z h),if_pos]
 .simp[zj,Zo,x7]
 .intro x hx
  obtain⟨s,hs,rfl⟩:=Qf.1 hx;obtain⟨y,_,rfl⟩:=Qf.1 hs;exact Qk _ _
theorem q3b{fs:List Fld}(hl:fs.length<=40)(hg:∀f∈fs,kh f):qeu (qa2 [32,32] (zy fs))=(fs,true):=by
 have hd:v7 [32,32] (qa2 [32,32] (zy fs))=(zy fs,true):=by
  rw[qkm];exact q29 (qmd hg)
 unfold qeu;rw[hd];simp only;by_cases h0:fs=[]
 .subst h0
  have hp:jl (zy [])=(none,[]):=zgr;rw[hp];simp[recsF,zy]
 .rw[qx3 ⟨hl,hg⟩ h0]
  simp[recsF]
theorem qxl{j k:Int}{s:qa}(hj:j=1∨j=2∨j=3)(hk:k=1∨k=2∨k=3)(b9:j≠k):¬qag j<+:qag k++s:=by
 rintro⟨t,ht⟩;have h2:=congrArg (Zt 2) ht;rcases hj with rfl|rfl|rfl <;>rcases hk with rfl|rfl|rfl <;>first|exact absurd rfl b9|(revert h2;simp[qag])
theorem ze2{x:qm}(hk:x.kind=1∨x.kind=2∨x.kind=3)(h1: -9223372036854775808<=x.id)(h2:x.id<=9223372036854775807):begE (km x)=some (x.kind,x.id):=by
 have hl:km x=qag x.kind++Lib.itoa x.id:=by
  unfold km;rw[if_pos Om]
 have o7:tryB x.kind (km x)=some x.id:=by
  unfold tryB;rw[hl,if_pos (Qk _ _),Zh,qoh h1 h2]
 have p6:∀j:Int,(j=1∨j=2∨j=3)->j≠x.kind->tryB j (km x)=none:=λj hj b9=>by
  unfold tryB;rw[hl,if_neg (qxl hj hk b9)]
 unfold begE;rcases hk with h|h|h
 .rw[h]at o7 p6⊢
  rw[o7]
 .rw[h]at o7 p6⊢
  rw[p6 1 Sx (by decide),o7]
 .rw[h]at o7 p6⊢
  rw[p6 1 Sx (by decide),p6 2 Sx (by decide),o7]
def qcc(x:qm):List qa:=(x.fields.flatMap zp).map λs=>[32,32]++s
theorem qm6(v:Int):∀c∈Lib.itoa v,c≠10∧c≠32:=λc hc=>by
 by_cases hv:v<0
 .rw[qgl hv]at hc
  rcases Qd.1 hc with rfl|hc
  .decide
  .have:=x3 _ _ (Qn _) c hc
   constructor <;>rintro rfl <;>simp at this
 .rw[qgm Om]at hc
  have:=x3 _ _ (Qn _) c hc;constructor <;>rintro rfl <;>simp at this
theorem qds(x:qm):10∉km x:=by
 unfold km;split
 .rename_i hk
  have h1:=qm6 x.id;intro hc;rcases Qh.1 hc with hc|hc
  .have:x.kind=1∨x.kind=2∨x.kind=3:=by omega
   rcases this with h|h|h<;>rw[h]at hc<;>revert hc<;>decide
  .exact(h1 10 hc).1 rfl
 .simp
theorem qna{x:qm}(hk:x.kind=1∨x.kind=2∨x.kind=3):¬ [32,32]<+:km x:=by
 unfold km;rw[if_pos Om];rintro⟨t,ht⟩;have h2:=congrArg (Zt 2) ht;rcases hk with h|h|h<;>rw[h]at h2<;>revert h2<;>simp[qag]
theorem qi5{x:qm}(hg:∀f∈x.fields,kh f):kj x=zj (km x::qcc x):=by
 unfold kj qcc;rw[yj,qkm,qtv (qmd hg)];simp
theorem q0x{x:qm}(hg:∀f∈x.fields,kh f):∀s∈qcc x,10∉s:=q5z (qmd hg)
theorem qfk(text:qa):∀(m:List qa)(k a f:Nat)(R:qa),(∀s∈m,10∉s∧[32,32]<+:s)->∃k',y6 text (v4 k a (zj m++R)) f=y6 text (v4 k' (a+(zj m).length) R) f
 | [],k,a,f,R,_=>⟨k,by simp[zj]⟩
 |s::m,k,a,f,R,h=>by
  obtain⟨i3,hp⟩:=h s Sx;have e:zj (s::m)++R=s++10::(zj m++R):=by rw[yj];simp
  obtain⟨k',ih⟩:=qfk text m (k+1) (a+s.length+1) f R λx hx=>h x (by simp[hx]);refine⟨k',?_⟩;rw[e,qbn Sx,v8 _ i3,xw _ i3,y6,if_neg (λh=>h.2 hp),ih,yj];congr 2;simp;omega
theorem qqx{x:qm}(hg:∀f∈x.fields,kh f):∀s∈qcc x,10∉s∧[32,32]<+:s:=λs hs=>⟨q0x hg s hs,by
 obtain⟨y,_,rfl⟩:=Qf.1 hs
 exact Qk _ _⟩
structure EncG (x:qm):Prop where
 kind:x.kind=1∨x.kind=2∨x.kind=3
 len:x.fields.length<=40
 good:∀f∈x.fields,kh f
 id1: -9223372036854775808<=x.id
 id2:x.id<=9223372036854775807
theorem qx4:∀(r:List qm)(D:qa)(x:qm)(k:Nat),EncG x->(∀y∈r,EncG y)->
  y6 (D++(kj x++encF r)) (v4 k (D.length+((km x).length+1)) (zj (qcc x)++encF r)) D.length=kj x::r.map kj
 | [],D,x,k,hx,_=>by
  obtain⟨k',h⟩:=qfk (D++(kj x++encF [])) (qcc x) k (D.length+((km x).length+1)) D.length (encF []) (qqx hx.good);rw[h];have e:encF []=[]:=rfl;rw[e,qbh,y6]
  simp
 |y::r,D,x,k,hx,hr=>by
  have hy:=hr y Sx;obtain⟨k',h⟩:=qfk (D++(kj x++encF (y::r))) (qcc x) k (D.length+((km x).length+1)) D.length (encF (y::r)) (qqx hx.good);rw[h]
  have e:encF (y::r)=km y++10::(zj (qcc y)++encF r):=by
   have:encF (y::r)=kj y++encF r:=by simp[encF]
   rw[this,qi5 hy.good,yj];simp
  have hlx:(kj x).length=(km x).length+1+(zj (qcc x)).length:=by
   rw[qi5 hx.good,yj];simp;omega
  have e2:encF (y::r)=kj y++encF r:=by simp[encF]
  have cx:D.length+((km x).length+1)+(zj (qcc x)).length=(D++kj x).length:=by
   rw[Qq,hlx];omega
  rw[cx]
  have hc:v4 k' (D++kj x).length (encF (y::r))=⟨k',(D++kj x).length,km y,true⟩::v4 (k'+1) ((D++kj x).length+(km y).length+1) (zj (qcc y)++encF r):=by
   rw[e,qbn Sx,v8 _ (qds y),xw _ (qds y)];simp
  have d9:D.length<(D++kj x).length:=by rw[Qq,hlx];omega
  rw[hc,y6,if_pos ⟨d9,qna hy.kind⟩];have ih:=qx4 r (D++kj x) y (k'+1) hy λz hz=>hr z (by simp[hz]);have et:D++(kj x++encF (y::r))=(D++kj x)++(kj y++encF r):=by rw[e2];simp
  rw[et]
  have ed:((D++kj x++(kj y++encF r)).take (D++kj x).length).drop D.length=kj x:=by
   rw[List.take_left,Zh]
  rw[ed,Qs];simp only;rw[show(D++kj x).length+(km y).length+1=(D++kj x).length+((km y).length+1)by omega,ih]
theorem zgs{x:qm}{r:List qm}(hx:EncG x)(hr:∀y∈r,EncG y):qf2 (encF (x::r))=(x::r).map kj:=by
 have e2:encF (x::r)=kj x++encF r:=by simp[encF]
 have e:encF (x::r)=km x++10::(zj (qcc x)++encF r):=by
  rw[e2,qi5 hx.good,yj];simp
 have h:=qx4 r [] x 1 hx hr;simp only[Qr,Qy,Nat.zero_add]at h
 have hc:lns (encF (x::r))=⟨0,0,km x,true⟩::v4 1 ((km x).length+1) (zj (qcc x)++encF r):=by
  unfold lns;rw[e,qbn Sx,v8 _ (qds x),xw _ (qds x)];simp
 unfold qf2;rw[hc,y6,if_neg Sx,e2,h];rfl
theorem q43:∀(r acc:List qm),(∀y∈r,EncG y)->acc.length+r.length<=40->decP (r.map kj) acc=some (acc++r)
 | [],acc,_,_=>by simp[decP]
 |x::r,acc,h,hl=>by
  have hx:=h x Sx;simp only[Qe]at hl
  have hu:upto 10 (kj x)=km x:=by
   unfold kj;rw[Qt];exact v8 _ (qds x)
  have hp:past 10 (kj x)=qa2 [32,32] (zy x.fields):=by
   unfold kj;rw[Qt];exact xw _ (qds x)
  have o8:=q3b hx.len hx.good;rw[Qs,decP,hu,ze2 hx.kind hx.id1 hx.id2];simp only[hp,o8];rw[if_pos ⟨trivial,Om⟩];have ih:=q43 r (acc++[⟨x.kind,x.id,x.fields⟩]) (λy hy=>h y (by simp[hy])) So;rw[ih];simp
theorem qzj{x:qm}(h:gErr x=.no)(hB:EdB x):EncG x:=by
 obtain⟨h1,h2⟩:=qfe h;refine⟨?_,h1,h2,hB.id1,hB.id2⟩;unfold gErr at h;split at h
 .exact .inr (.inl (by assumption))
 .split at h
  .rename_i hk;omega
  .simp at h
theorem zag{b:List qm}(he:eErr b=.no)(hB:∀x∈b,EdB x)(hl:(encF b).length<=50000):decF (encF b)=some b:=by
 obtain⟨h1,h40,hg⟩:=qb0 he;have hG:∀y∈b,EncG y:=λy hy=>qzj (hg y hy) (hB y hy);unfold decF;rw[if_neg Om]
 cases b with
 |nil=>simp at h1
 |cons x r=>
  rw[zgs (hG x Sx) (λy hy=>hG y (by simp[hy])),q43 (x::r) [] hG (by simp at h40⊢;omega)];simp only[Qr];rw[if_pos ⟨he,trivial⟩]
theorem q44{text:qa}{b:List qm}(h:decF text=some b):eErr b=.no∧encF b=text∧text.length<=50000:=by
 unfold decF at h;split at h
 .simp at h
 .split at h
  .simp at h
  .split at h
   .rename_i hc
    cases h
    exact⟨hc.1,hc.2,Om⟩
   .simp at h
def SpL(L:List qa):Prop:=L≠[]∧∀s∈L,10∉s∧[32]<+:s
def encL(b:List qm):List qa:=b.flatMap λx=>km x::qcc x
theorem q1g{b:List qm}(hg:∀x∈b,EncG x):encF b=zj (encL b):=by
 induction b with
 |nil=>rfl
 |cons x r ih=>
  have e:encL (x::r)=(km x::qcc x)++encL r:=by simp[encL]
  have e2:encF (x::r)=kj x++encF r:=by simp[encF]
  rw[e,qaq,e2,qi5 (hg x Sx).good,ih λy hy=>hg y (by simp[hy])]
theorem zm2{x:qm}(hk:x.kind=1∨x.kind=2∨x.kind=3):[32]<+:km x:=by
 unfold km;rw[if_pos Om];rcases hk with h|h|h<;>rw[h]<;>exact⟨_,rfl⟩
theorem zmp{b:List qm}(b9:b≠[])(hg:∀x∈b,EncG x):SpL (encL b):=by
 refine⟨?_,λs hs=>?_⟩
 .cases b with
  |nil=>exact absurd rfl b9
  |cons x r=>simp[encL]
 .obtain⟨x,hx,hs⟩:=Zc.1 hs
  have hG:=hg x hx;rcases Qd.1 hs with rfl|hs
  .exact⟨qds x,zm2 hG.kind⟩
  .obtain⟨h1,t,ht⟩:=qqx hG.good s hs
   exact⟨h1,[32]++t,by rw[<-ht];rfl⟩
theorem znx{L:List qa}(h:SpL L):sp true (zj L)=true:=by
 rw[<-qo7 _ (zj L) (Qn _),qdj L λs hs=>(h.2 s hs).1];intro x hx;obtain⟨s,hs,rfl⟩:=Qf.1 hx;exact(h.2 s hs).2
theorem zhz{L:List qa}(h:SpL L):(zj L)[0]?=some 32:=by
 obtain⟨b9,hs⟩:=h
 cases L with
 |nil=>exact absurd rfl b9
 |cons s r=>
  obtain⟨t,ht⟩:=(hs s Sx).2;rw[yj,<-ht];rfl
theorem q2u:∀(L:List qa),L≠[]->(zj L).getLast?=some 10
 | [],h=>absurd rfl h
 | [s],_=>by rw[yj];simp[zj]
 |s::t::r,_=>by
  have ih:=q2u (t::r) Sx;have b9:zj (t::r)≠[]:=λe=>by rw[e]at ih;simp at ih
  rw[yj,List.getLast?_append,List.getLast?_cons,ih];simp
theorem zfm{b:List qm}(he:eErr b=.no)(hB:∀x∈b,EdB x)(hl:(encF b).length<=50000):yw (encF b):=by
 obtain⟨h1,h40,hg⟩:=qb0 he;have hG:∀y∈b,EncG y:=λy hy=>qzj (hg y hy) (hB y hy);have b9:b≠[]:=λe=>by subst e;simp at h1
 have hS:=zmp b9 hG;have ht:=q1g hG;have hh:=zhz hS;have r8:=q2u _ hS.1;rw[<-ht]at hh r8;have r9:=znx hS;rw[<-ht]at r9;refine⟨?_,hl,r8,by rw[qes];exact r9⟩;rcases hc:encF b with _|⟨c,_|⟨d,r⟩⟩
 .rw[hc]at hh;simp at hh
 .rw[hc]at hh r8
  simp at hh r8;rw[hh]at r8;simp at r8
 .simp
end Go.Pl
namespace Go.Proofs.YtlekheifonaipaaGreatDoor
open Go Go.Av Go.RowKit Go.Proofs Go.Pl
theorem zfk{xs:List qm}{k:Nat}(hk:k<xs.length):(xs.map zt)[k]?=some (zt (xs.getD k ⟨0,0,[]⟩)):=by
 simp[Ze,hk]
theorem zo6{x:qm}:∀y∈[zt x],Pure y:=by
 intro y hy;simp only[Qd,Qi,or_false]at hy;subst hy;exact ye (qi4 x)
theorem qnt{l:qa}{i:Nat}{c:UInt8}(h:l[i]?=some c):l.getD i 0=c:=by simp[Ze,h]
theorem znk{a b:qa}:∀x∈[Sv a,Sv b],Pure x:=by
 intro x hx;simp only[Qd,Qi,or_false]at hx;rcases hx with rfl|rfl <;>exact qr _
theorem znj{a:List Fld}:∀x∈[jd a],Pure x:=by
 intro x hx;simp only[Qd,Qi,or_false]at hx;subst hx;exact qa5 _
theorem zfl{b:List qm}{k:Nat}(hk:k<b.length):encF (b.take (k+1))=((encF (b.take k)++km (b.getD k ⟨0,0,[]⟩))++[10])++qa2 [32,32] (zy (b.getD k ⟨0,0,[]⟩).fields):=by
 rw[Qv hk,q5c,q5d];have e:b.getD k ⟨0,0,[]⟩=b[k]:=by simp[Ze,hk]
 rw[e];unfold kj;simp[Qt]
set_option maxHeartbeats 2000000 in
theorem qj8(b:List qm)(st:List AObj)(hB:∀x∈b,EdB x)(he:eErr b=.no):qp E 28 [zh b] st λr st'=>r=Sv (encF b)∧st'=st:=by
 refine qz (qr _) (qq Tryz.func28 rfl (Qc rfl) ?_);have o0:(b.map zt).length=b.length:=Sx
 obtain⟨p9,hb40,hg⟩:=qb0 he;repeat' (first|apply qo|apply qy|apply qf|apply qh|apply qg)
 refine jr (λ(k:Nat)s=>k<=b.length∧StE [(0,zh b),(3,Sv (encF (b.take k))),(4,Iv k)] st [] s) (λk=>b.length-k) 0 ⟨Om,qek ⟨rfl,rfl,rfl,trivial⟩ rfl⟩ ?_;rintro k _ ⟨hk,t,ext,rfl⟩;by_cases hc:k<b.length
 .have hm:b.getD k ⟨0,0,[]⟩∈b:=by simp[Ze,hc]
  have hxb:=hB _ hm;have hxg:=hg _ hm;have bt:=zfl hc;have dx:=qop (b.take k) (λy hy=>hB y (Zk hy)) (λy hy=>hg y (Zk hy));have d8:(b.map zt)[k]?=some (zt (b.getD k ⟨0,0,[]⟩)):=zfk hc;generalize b.getD k ⟨0,0,[]⟩=x at hm hxb hxg bt d8;obtain⟨o8,hfg⟩:=qfe hxg;have pn:=qrj x hxb.id1 hxb.id2;have hfo:=qgy x.fields hfg;have hin:=qm5 (zy x.fields);have i7:(b.take k).length<=40:=by rw[List.length_take];omega
  repeat' (first|apply qo|apply qy|apply qf|apply qh|apply qj|apply qg|(apply qt;rfl;rfl;rfl)|(apply qc;rfl;apply va;exact cAo)|(apply jk;rfl;rfl;rfl;rfl)|(apply zn;rfl;rfl;exact q6 Om Om)|(apply qgg;rfl;kernel_rfl)|apply qfv|(apply qjn;rfl;rfl;exact cOs)|(apply qe9;rfl;rfl;rfl)|(apply qhp;rfl;rfl;rfl;rfl)|apply qea|apply qjm|apply qv|(apply qdh (n:=k);(iterate 5 rfl);exact d8)|(refine quk (args:=[zt x]) qzm Tryz.call60 rfl zo6 (qls _) (λ_=>.v _) (q2h x _ hxb.id1 hxb.id2) ?_)|(refine quk (args:=[jd x.fields]) qzm Tryz.call62 rfl znj (qls _) (λ_=>.v _) (qyf x.fields _ (qxk o8 hfg)) ?_)|(refine quk (args:=[Sv (zy x.fields),Sv [32,32]]) qzm Tryz.call61 rfl znk (qls _) (λ_=>.v _) (q9q (zy x.fields) [32,32] _ Om (by decide)) ?_))
  exact⟨k+1,⟨Om,qbq ⟨rfl,congrArg Sv bt.symm,rfl,trivial⟩ rfl⟩,Om⟩
 .have e:k=b.length:=by omega
  subst e;rw[Zm];repeat' (first|apply qo|apply qf|apply qh|apply qj|apply qg|(apply qt;rfl;rfl;rfl)|(apply qc;rfl;apply vq;exact cAo)|(apply jk;rfl;rfl;rfl;rfl)|apply z7|apply qu)
  exact qn rfl (q5 rfl) ⟨rfl,qa0 _ _ _ _⟩
theorem zfi:∀(ps:List qa)(acc b:List qm),(∀x∈acc,EdB x)->decP ps acc=some b->∀x∈b,EdB x
 | [],acc,b,h,e=>by
  rw[decP]at e
  cases e
  exact h
 |p::r,acc,b,h,e=>by
  rw[decP]at e;split at e
  .simp at e
  .rename_i k n hb
   split at e
   .refine zfi r _ b (λx hx=>?_) e
    rcases Qh.1 hx with hx|hx
    .exact h x hx
    .obtain rfl:=Qw.1 hx
     exact q5a (qzf hb).1 (qzf hb).2 (qtp _)
   .simp at e
theorem zfh{text:qa}{b:List qm}(h:decF text=some b):∀x∈b,EdB x:=by
 unfold decF at h;split at h
 .simp at h
 .split at h
  .simp at h
  .rename_i c hc
   split at h
   .cases h
    exact zfi _ _ _ Sx hc
   .simp at h
end Go.Proofs.YtlekheifonaipaaGreatDoor
namespace Go.Pl
open Go Go.Proofs Go.Proofs.YtlekheifonaipaaGreatDoor
def addF(out:List qm)(f:Fld):List qm:=match out.getLast? with
 |none=>out
 |some x=>out.dropLast++[⟨x.kind,x.id,x.fields++[f]⟩]
def qaw(out:List qm)(d6:List qa):Option (List qm):=
 if d6=[]then some out else if(zu d6).2=0 then some (addF out (zu d6).1)else none
def tryR(l:qa)(e:Option (Int×Int))(k:Int):Option (Int×Int):=
 if qag k<+:l then match numZ (l.drop (qag k).length)with
  |some n=>some (k,n)
  |none=>e
 else e
def begR(l:qa):Option (Int×Int):=tryR l (tryR l (tryR l none 1) 2) 3
def vg:List qa->List qm->List qa->Option (List qm)
 | [],out,d6=>qaw out d6
 |l::r,out,d6=>
  match(if d6≠[]∧¬ [32,32,32]<+:l then(qaw out d6).map λo=>(o,([]:List qa))else some (out,d6))with
  |none=>none
  |some (o,h)=>
   if [32,32]<+:l then if o=[]then none else vg r o (h++[l.drop 2])
   else match begR l with
    |none=>none
    |some (k,n)=>if 40<=o.length then none else vg r (o++[⟨k,n,[]⟩]) h
theorem zel(b:List qm)(k n:Int)(gs:List Fld)(f:Fld):addF (b++[⟨k,n,gs⟩]) f=b++[⟨k,n,gs++[f]⟩]:=by
 unfold addF;simp
def qv4(d6:List qa)(pe:List Fld):Prop:=(d6=[]∧pe=[])∨∃g,kh g∧d6=zp g∧pe=[g]
theorem qov{b:List qm}{k n:Int}{gs pe:List Fld}{d6:List qa}(h:qv4 d6 pe):qaw (b++[⟨k,n,gs⟩]) d6=some (b++[⟨k,n,gs++pe⟩]):=by
 unfold qaw;rcases h with⟨rfl,rfl⟩|⟨g,hg,rfl,rfl⟩
 .simp
 .have hu:=qqe hg
  rw[if_neg (by simp[zp]),hu,if_pos rfl,zel]
theorem ind3{s:qa}(h:[32]<+:s):[32,32,32]<+:[32,32]++s:=by
 obtain⟨t,rfl⟩:=h;exact⟨t,rfl⟩
theorem zjn{s:qa}(h:¬ [32]<+:s):¬ [32,32,32]<+:[32,32]++s:=λ⟨t,ht⟩=>h ⟨t,by simpa using ht⟩
theorem zhr{s:qa}{r:List qa}{out:List qm}{d6:List qa}(hs:[32]<+:s)(b9:out≠[]):vg (([32,32]++s)::r) out d6=vg r out (d6++[s]):=by
 rw[vg,if_neg (λh=>h.2 (ind3 hs))];simp only;rw[if_pos (Qk _ _),if_neg b9];rfl
theorem q2m:∀(m:List qa){r:List qa}{out:List qm}{d6:List qa},(∀s∈m,[32]<+:s)->out≠[]->vg (m.map (λs=>[32,32]++s)++r) out d6=vg r out (d6++m)
 | [],r,out,d6,_,_=>by simp
 |s::m,r,out,d6,h,b9=>by
  rw[Qs,Qj,zhr (h s Sx) b9,q2m m (λx hx=>h x (by simp[hx])) b9];simp
theorem zhq{s:qa}{r:List qa}{b:List qm}{k n:Int}{gs pe:List Fld}{d6:List qa}(hs:¬ [32]<+:s)(hh:qv4 d6 pe):vg (([32,32]++s)::r) (b++[⟨k,n,gs⟩]) d6=vg r (b++[⟨k,n,gs++pe⟩]) [s]:=by
 rw[vg];have hi:=zjn hs
 have e:(if d6≠[]∧¬ [32,32,32]<+:[32,32]++s then(qaw (b++[⟨k,n,gs⟩]) d6).map λo=>(o,([]:List qa))else some (b++[⟨k,n,gs⟩],d6))=some (b++[⟨k,n,gs++pe⟩],[]):=by
  by_cases h0:d6=[]
  .rcases hh with⟨_,rfl⟩|⟨g,_,h1,_⟩
   .rw[if_neg (λh=>h.1 h0),h0];simp
   .rw[h0]at h1;simp[zp]at h1
  .rw[if_pos ⟨h0,hi⟩,qov hh];rfl
 rw[e];simp only;rw[if_pos (Qk _ _),if_neg Sx];rfl
theorem q57{f:Fld}(h:kh f):∃hd mr,zp f=hd::mr∧¬ [32]<+:hd∧∀s∈mr,[32]<+:s:=by
 refine⟨_,_,rfl,?_,λs hs=>?_⟩
 .obtain⟨h1,_,h3,_⟩:=h.1
  rintro⟨t,ht⟩;apply h3
  cases hk:f.1 with
  |nil=>exact absurd hk h1
  |cons c l=>
   unfold kl at ht;rw[hk]at ht;have:=(Zp ht).1;rw[<-this];simp[qfy,wy]
 .obtain⟨x,_,rfl⟩:=Qf.1 hs
  exact Qk _ _
def q30(R:List qa):Prop:=∀l r,R=l::r->¬ [32,32]<+:l
theorem znq{R:List qa}{b:List qm}{k n:Int}{gs pe:List Fld}{d6:List qa}(hR:q30 R)(hh:qv4 d6 pe):vg R (b++[⟨k,n,gs⟩]) d6=vg R (b++[⟨k,n,gs++pe⟩]) []:=by
 cases R with
 |nil=>
  rw[vg,vg,qov hh]
  simp[qaw]
 |cons l r=>
  have h2:=hR l r rfl;have h3:¬ [32,32,32]<+:l:=λ⟨t,ht⟩=>h2 ⟨[32]++t,by rw[<-ht];rfl⟩
  have e:(if d6≠[]∧¬ [32,32,32]<+:l then(qaw (b++[⟨k,n,gs⟩]) d6).map λo=>(o,([]:List qa))else some (b++[⟨k,n,gs⟩],d6))=some (b++[⟨k,n,gs++pe⟩],[]):=by
   by_cases h0:d6=[]
   .rcases hh with⟨_,rfl⟩|⟨g,_,h1,_⟩
    .rw[if_neg (λh=>h.1 h0),h0];simp
    .rw[h0]at h1;simp[zp]at h1
   .rw[if_pos ⟨h0,h3⟩,qov hh];rfl
  rw[vg,e,vg,if_neg (λh=>h.1 rfl)]
theorem q2l:∀(fs:List Fld){R:List qa}{b:List qm}{k n:Int}{gs pe:List Fld}{d6:List qa},q30 R->(∀f∈fs,kh f)->qv4 d6 pe->
  vg ((fs.flatMap zp).map (λs=>[32,32]++s)++R) (b++[⟨k,n,gs⟩]) d6=vg R (b++[⟨k,n,gs++pe++fs⟩]) []
 | [],R,b,k,n,gs,pe,d6,hR,_,hh=>by
  rw[Zn,Zr,Qr,znq hR hh,Zd]
 |f::fs,R,b,k,n,gs,pe,d6,hR,hf,hh=>by
  have hgf:=hf f Sx;obtain⟨hd,mr,hl,h1,h2⟩:=q57 hgf;rw[Qo,Zf,hl,Qs,Qt,Qj,zhq h1 hh,q2m mr h2 Sx];have e:[hd]++mr=zp f:=by rw[hl];rfl
  rw[e,q2l fs hR (λx hx=>hf x (by simp[hx])) (.inr ⟨f,hgf,rfl,rfl⟩)];simp
theorem ze7{x:qm}(hx:EncG x):begR (km x)=some (x.kind,x.id):=by
 have hl:km x=qag x.kind++Lib.itoa x.id:=by
  unfold km;rw[if_pos (by have:=hx.kind;omega)]
 have o7:∀e,tryR (km x) e x.kind=some (x.kind,x.id):=λe=>by
  unfold tryR;rw[hl,if_pos (Qk _ _),Zh,qg5 hx.id1 hx.id2]
 have p6:∀(j:Int)e,(j=1∨j=2∨j=3)->j≠x.kind->tryR (km x) e j=e:=λj e hj b9=>by
  unfold tryR;rw[hl,if_neg (qxl hj hx.kind b9)]
 unfold begR;rcases hx.kind with h|h|h
 .rw[h]at o7 p6⊢
  rw[o7,p6 2 _ Sx (by decide),p6 3 _ Sx (by decide)]
 .rw[h]at o7 p6⊢
  rw[o7,p6 3 _ Sx (by decide)]
 .rw[h]at o7 p6⊢
  rw[o7]
theorem q2f:∀(r b:List qm),(∀x∈r,EncG x)->b.length+r.length<=40->vg (encL r) b []=some (b++r)
 | [],b,_,_=>by
  simp[encL,vg,qaw]
 |x::r,b,h,hl=>by
  have hx:=h x Sx;simp only[Qe]at hl;have e:encL (x::r)=km x::(qcc x++encL r):=by simp[encL]
  have hR:q30 (encL r):=λl t et=>by
   cases r with
   |nil=>simp[encL]at et
   |cons y r=>
    have e:encL (y::r)=km y::(qcc y++encL r):=by simp[encL]
    rw[e]at et;rw[<-(Zp et).1];exact qna (h y Sx).kind
  rw[e,vg,if_neg (λh=>h.1 rfl)];simp only;rw[if_neg (qna hx.kind),ze7 hx];simp only;rw[if_neg Om];unfold qcc;rw[q2l x.fields hR hx.good (.inl ⟨rfl,rfl⟩),q2f r _ (λy hy=>h y (by simp[hy])) So];simp
def OutG(out:List qm)(m:Nat):Prop:=∀x∈out,(∀f∈x.fields,kh f)∧x.fields.length<=m∧-9223372036854775808<=x.id∧x.id<=9223372036854775807
theorem OutG.mono{out:List qm}{m m':Nat}(h:OutG out m)(hm:m<=m'):OutG out m':=λx hx=>⟨(h x hx).1,by have:=(h x hx).2.1;omega,(h x hx).2.2⟩
theorem q32{out:List qm}{f:Fld}{m:Nat}(h:OutG out m)(hf:kh f):OutG (addF out f) (m+1):=by
 unfold addF
 cases hl:out.getLast? with
 |none=>exact h.mono Om
 |some y=>
  have hy:=h y (List.mem_of_getLast? hl);intro x hx;rcases Qh.1 hx with hx|hx
  .exact h.mono Om x ((List.dropLast_sublist out).subset hx)
  .obtain rfl:=Qw.1 hx
   refine⟨λg hg=>?_,by simp;exact hy.2.1,hy.2.2⟩;rcases Qh.1 hg with hg|hg
   .exact hy.1 g hg
   .obtain rfl:=Qw.1 hg
    exact hf
theorem q5o{out o:List qm}{d6:List qa}{m:Nat}(h:OutG out m)(e:qaw out d6=some o):OutG o (m+1):=by
 unfold qaw at e;split at e
 .cases e;exact h.mono Om
 .split at e
  .rename_i hu
   cases e
   exact q32 h (qjl hu)
  .simp at e
theorem q8b{l:qa}{e:Option (Int×Int)}{j k n:Int}(he:∀k n,e=some (k,n)->-9223372036854775808<=n∧n<=9223372036854775807)(h:tryR l e j=some (k,n)): -9223372036854775808<=n∧n<=9223372036854775807:=by
 unfold tryR at h;split at h
 .split at h
  .rename_i v hv
   cases h
   exact(qmn hv).2
  .exact he _ _ h
 .exact he _ _ h
theorem ze6{l:qa}{k n:Int}(h:begR l=some (k,n)): -9223372036854775808<=n∧n<=9223372036854775807:=
 q8b (λ_ _ h=>q8b (λ_ _ h=>q8b (λ_ _ h=>by simp at h) h) h) h
theorem qzy:∀(L:List qa){out b:List qm}{d6:List qa}{m:Nat},OutG out m->vg L out d6=some b->OutG b (m+L.length+1)
 | [],out,b,d6,m,h,e=>by
  rw[vg]at e
  exact(q5o h e).mono Sx
 |l::r,out,b,d6,m,h,e=>by
  rw[vg]at e;split at e
  .simp at e
  .rename_i o hd he
   have ho:OutG o (m+1):=by
    split at he
    .obtain⟨o',h1,h2⟩:=Option.map_eq_some_iff.1 he
     cases h2
     exact q5o h h1
    .cases he;exact h.mono Om
   split at e
   .split at e
    .simp at e
    .exact(qzy r ho e).mono So
   .split at e
    .simp at e
    .rename_i k n hb
     split at e
     .simp at e
     .refine(qzy r (m:=m+1) (λx hx=>?_) e).mono So
      rcases Qh.1 hx with hx|hx
      .exact ho x hx
      .obtain rfl:=Qw.1 hx
       exact⟨Sx,Sx,ze6 hb⟩
theorem zgl{b:List qm}{m:Nat}(h:OutG b m)(hm:m<9223372036854775808):∀x∈b,EdB x:=λx hx=>by
 obtain⟨h1,h2,h3,h4⟩:=h x hx;exact⟨λf hf=>by have:=(h1 f hf).1.2.1;omega,Om,h3,h4⟩
def qdn(text:qa):Option (List qm):=if 50000<text.length then none else match vg ((lns text).map λx=>x.text) [] []with
 |none=>none
 |some b=>if eErr b=.no∧encF b=text then some b else none
theorem zjy(l:qa):(lns l).map (λx=>x.text)=(zo l).map Prod.fst:=by
 rw[<-qrm,Zs];rfl
theorem zg2(text:qa):qdn text=decF text:=by
 by_cases bd:50000<text.length
 .unfold qdn decF
  rw[if_pos bd,if_pos bd]
 have hn:=qdt _ text 0 0 (Qn _)
 cases hd:decF text with
 |some b=>
  obtain⟨he,ht,_⟩:=q44 hd;obtain⟨h1,h40,hg⟩:=qb0 he;have hB:=zfh hd;have hG:∀y∈b,EncG y:=λy hy=>qzj (hg y hy) (hB y hy)
  have hl:(lns text).map (λx=>x.text)=encL b:=by
   rw[zjy,<-ht,q1g hG,qdj,Zs]
   .simp[Function.comp_def]
   .intro s hs
    obtain⟨x,hx,hs⟩:=Zc.1 hs;rcases Qd.1 hs with rfl|hs
    .exact qds x
    .exact q0x (hG x hx).good s hs
  unfold qdn;rw[if_neg bd,hl,q2f b [] hG So];simp only[Qr]
  rw[if_pos ⟨he,ht⟩]
 |none=>
  unfold qdn;rw[if_neg bd]
  cases hr:vg ((lns text).map λx=>x.text) [] []with
  |none=>rfl
  |some b=>
   simp only;split
   .rename_i hc
    have hB:=zgl (qzy _ (m:=0) (by intro x hx;simp at hx) hr) (by
     have:(lns text).length<=text.length:=hn;simp
     omega)
    have:=zag hc.1 hB (by rw[hc.2];omega);rw[hc.2,hd]at this;simp at this
   .rfl
end Go.Pl
