/- Contracts and plain facts that the closing text leans on (part 7). No condition of their own beyond those that each states. -/
import Derived.Test.YtmoklbacdkmkaaaGreatDoorK6
import Derived.LaidEql
import Derived.Stop.Asserts
import Derived.RowKitTokens
import Derived.Lib.IfaceEq
import Derived.Laws.StructEq
set_option maxRecDepth 100000
set_option linter.unusedVariables false
set_option linter.unusedSimpArgs false
namespace Go.Av
open Go Go.RowKit
theorem qvm {E:Env} {rd:Option Nat} {N:Nat} {B:Bs} {c:Code} {Q:Exit→Conf→Prop} {C:Conf} (d:Nat) {b sz:Nat} {T:TypeId} {ys:List AV} (hd:lkS C.sl d=some (.tp b)) (hb:hpF C.hp b=some (.own sz T ys))
  (h:Sm E rd N B c Q ⟨(d,.a (.sl sz ys none))::C.sl,(b,none)::C.hp,C.nx⟩):Sm E rd N B c Q C:=⟨fun s hs=>by
 obtain⟨t,S,df⟩:=s
 obtain⟨ρ,hF,hR⟩:=hs
 simp only at hF hR
 have ht:=hR.sl d _ hd
 have hok:=hR.hp.ok b _ hb
 simp only [SV.ev,qg5 hok] at ht
 rcases hok with⟨rfl,f1⟩ | ⟨o,ver,cap,pad,f1,f2,f3,f4,f5,f6⟩
 ·have hP:=hR.drop (o:=S.length) hb (fun o' ho'=>by rw [f1.loc] at ho';simp at ho') (.inr (List.set_eq_of_length_le (by simp)))
  rw [List.set_eq_of_length_le (by simp)] at hP
  refine qzl (t':=Av.put t d (.sl sz [] none)) (fun x=>?_) (h.run ⟨Av.put t d (.sl sz [] none),S,df⟩ ⟨ρ,⟨hF.dm,hF.nd,hF.rig,hF.le,hF.dz⟩,hP.slot d⟩)
  by_cases e:x=d
  ·subst e
   rw [w6,ht]
   exact f1.wk sz
  ·rw [y8 _ _ _ _ e]
   exact wp _
 ·rw [f1] at ht
  have hP:=hR.drop (o:=o) hb (fun o' ho'=>by rw [f1] at ho';simpa [zo] using ho'.symm) (.inl (by rw [f1];rfl))
  have hr:=h.run ⟨Av.put t d (.sl sz ys none),S.set o .dead,df⟩ ⟨ρ,⟨fun x hx=>?_,hF.nd,hF.rig,hF.le,hF.dz⟩,hP.slot d⟩
  ·exact⟨fun B0 w0 G a w hL hI=>by
    obtain⟨G1,h1,h2⟩:=hI.osPub (xs:=ys) (sz:=sz) ht f2 rfl f5 f4 (by rw [List.length_append,zt f4];omega) (by rw [List.drop_zero,← zt f4,List.take_left])
    exact wpIn_mono (hr.run B0 w0 G1 a w hL h2) fun _ _ _ ⟨G',s',hG,k1,k2⟩=>⟨G',s',h1.trans hG,k1,k2⟩⟩
  ·have hm:=hF.dm x hx
   refine⟨?_,hm.2⟩
   have hne:o≠x:=fun e=>by
    rw [← e] at hm
    rw [f2] at hm
    simp at hm
   simp only
   rw [List.getElem?_set_ne hne]
   exact hm.1⟩
section
variable {E : Env} {rd : Option Nat} {N : Nat} {ops : Array Oper} {K : AS → Prop} {s : AS} {rest : List Oper} {d : Option Tmp} {T : TypeId} {p : String} {af : Array Edge}
theorem q2w {x y:Operand} {t:TypeId} {sz:Nat} {agg:Bool} {o ver off:Nat} {T':TypeId} {cs xs:List AV} {r:AV} (hx:qm N s x = .bx o ver off) (hy:Wk (qm N s y) r) (ho:s.st[o]? = some (.cells ver T' cs)) (ht:tyOf E.P t=some (sz,agg))
  (hok:r.okc=true) (hc:r.cells=xs) (hsz:xs.length=sz) (h1:∀ z∈xs,z.one=true) (hfit:off+sz≤cs.length)
  (h:AOps E rd N ops rest K (AS.put ⟨s.t,s.st.set o (.cells ver T' (zx cs off xs)),s.df⟩ d (.v undef))):AOps E rd N ops (⟨d,.store t x y,T,p,af,none⟩::rest) K s:=by
 refine q9 rfl (qk2 nofun fun B0 w0 G a w _ hI=>?_)
 have he:=hI.eval_of hx
 have hey:=hy _ _ (hI.eval y)
 have hcl:=hey.cells hok
 generalize hv:a.eval x=v at he
 generalize hv2:a.eval y=v2 at hey hcl
 rw [hc] at hcl
 cases he with
 |bx _ _ _ b hn hv' hb=>
  obtain⟨_,g1,g2,g3,c,g4,g5,g6⟩:=hI.agree.ob o _ ho
  have hb:=hb g1
  subst hb
  have hcl':RelC G xs v2.cells.toList.toArray:=by simpa using hcl
  have hlen:v2.cells.size=sz:=by rw [← hcl.1];exact hsz
  have hone:∀ u∈v2.cells.toList,u.oneCell'=true:=fun u hu=>by
   obtain⟨i,hi⟩:=List.getElem?_of_mem hu
   obtain⟨z,hz⟩:=qs7 hi (Nat.le_of_eq (by simpa using hcl.1.symm))
   exact (hcl.2 i z u hz (by simpa using hi)).one (h1 z (List.mem_of_getElem? hz))
  have hst:=run_storeCells_at E.P (G.ob o).blk off T' v2.cells.toList 0 c w g4 (by simp [hlen];omega) hone
  have hsp:=qub (off:=off) g5 g6 hcl' (by omega)
  refine⟨_,G,_,?_,.refl G,hI.agree.setRow ho hsp.1 hsp.2,h⟩
  simp only [execOp,hv,hv2,Instr.storeAt,Instr.sureAddr]
  simp [storeVar,(vb ht w).1,hlen,hst]
end
section
variable {E : Env} {N : Nat} {ops : Array Oper} {nx : Nat} {sl : List (Nat × SV)} {H : Nat → Option SR} {k : Ef → Prop} {d : Option Tmp} {T : TypeId} {p : String} {af : Array Edge}
theorem qmy {t e:TypeId} {x y:Operand} {b off sz i j sz':Nat} {agg:Bool} {xs:List AV} {z z' u:AV} {v:SV} (hx:sval N sl x=some (.bx b off)) (hy:sval N sl y=some v) (hf:frz (resF (b::v.ks) H) v=some u) (hH:H b=some (.own sz e xs)) (ht:tyOf E.P t=some (sz',agg)) (ho:off=0+i * sz+j) (hz:xs[i]? = some z) (hz':z'.cells=zx z.cells j u.cells)
  (hj:(u.okc && Nat.beq u.cells.length sz' && j9 u.cells && Nat.ble (j+sz') sz)=true) (h:k ⟨.a (.v undef),b::v.ks,[(b,some (.own sz e (xs.set i z')))],nx⟩):∃ e,Loc E N ops ⟨d,.store t x y,T,p,af,none⟩ nx sl H e∧k e:=by
 simp only [Bool.and_eq_true] at hj
 obtain⟨⟨⟨j1,j2⟩,j3⟩,j4⟩:=hj
 have j2:=Nat.eq_of_beq_eq_true j2
 have j4:=Nat.le_of_ble_eq_true j4
 have hHb:resF (b::v.ks) H b=some (.own sz e xs):=by unfold resF;simp [memN,hH]
 refine⟨_,fun df rd K rest ρ t' S hs hS hk=>?_,h⟩
 rcases hS.ok b _ hHb with⟨rfl,_⟩ | ⟨o,ver,cap,pad,e1,e2,e3,e4,e5,e6⟩
 ·simp at hz
 ·subst ho
  obtain⟨q1,q2⟩:=qs1 (pad:=pad) e4 hz hz' (by omega)
  have hlt:=lt_of_getElem? hz
  refine q2w (o:=o) (ver:=ver) (off:=0+i * sz+j) (xs:=u.cells) ((q6 hs hx).trans (by simp only [SV.ev,e1,bxAt])) (by rw [q6 hs hy];exact qhv hS v u hf) e2 ht j1 rfl j2 (by simpa [j9] using j3) (by
   have h1:i * sz+sz≤xs.length * sz:=by rw [← Nat.succ_mul];exact Nat.mul_le_mul_right _ hlt
   rw [List.length_append,zt e4]
   omega) ?_
  rw [q1]
  have hw':∀ y∈xs.set i z',y.cells.length=sz:=fun y hy=>by
   rcases List.mem_or_eq_of_mem_set hy with h|rfl
   ·exact e4 y h
   ·exact q2
  have key:∀ k r,chF [(b,some (.own sz e (xs.set i z')))] (resF (b::v.ks) H) k=some r→(k=b∧r = .own sz e (xs.set i z'))∨(k≠b∧resF (b::v.ks) H k=some r):=fun k r hk=>by
   simp only [chF,lkS] at hk
   by_cases e:b=k
   ·subst e
    have:Nat.beq b b=true:=by simp
    rw [this] at hk
    simp only [cond_true,Option.some.injEq] at hk
    exact .inl ⟨rfl,hk.symm⟩
   ·rw [j6 e] at hk
    exact .inr ⟨fun h=>e h.symm,hk⟩
  have hloc:∀ k r,k≠b→resF (b::v.ks) H k=some r→∀ o',zo (ρ k)=some o'→o'≠o:=fun k r hne hk o' ho' e=>hS.sep k b _ _ hne hk hHb o' ho' (by rw [e1,e];rfl)
  refine hk ρ _ ⟨fun _ _=>rfl,⟨fun k r hk=>?_,fun k k' r r' hne g1 g2=>?_⟩,by simp,fun j hj hne=>?_,fun k r hk o' ho'=>?_⟩
  ·rcases key k r hk with⟨rfl,rfl⟩ | ⟨hne,hk⟩
   ·refine .inr ⟨o,ver,cap,pad,by rw [e1,List.length_set],yp e2,?_,hw',by rw [List.length_set];exact e5,e6⟩
    rw [List.length_append,zt hw',List.length_set,← zt e4,← List.length_append]
    exact e3
   ·have h3:=hS.ok k r hk
    cases r with
    |cells T1 cs=>
     obtain⟨o',v',f1,f2,f3⟩:=h3
     exact⟨o',v',f1,(List.getElem?_set_ne (hloc k _ hne hk o' (by rw [f1];rfl)).symm).trans f2,f3⟩
    |tip z T1 zs=>exact SR.ok_of (f:=fun _=>false) (r:=.tip z T1 zs) (ρ:= ρ) rfl (fun k hk=>by simp at hk) h3 fun o' ho'=>List.getElem?_set_ne (hloc k _ hne hk o' ho').symm
    |own z T1 zs=>exact SR.ok_of (f:=fun _=>false) (r:=.own z T1 zs) (ρ:= ρ) rfl (fun k hk=>by simp at hk) h3 fun o' ho'=>List.getElem?_set_ne (hloc k _ hne hk o' ho').symm
    |obj P1=>exact SR.ok_of (f:=fun _=>false) (r:=.obj P1) (ρ:= ρ) rfl (fun k hk=>by simp at hk) h3 fun o' ho'=>List.getElem?_set_ne (hloc k _ hne hk o' ho').symm
  ·rcases key k r g1 with⟨rfl,rfl⟩ | ⟨n1,g1⟩
   ·rcases key k' r' g2 with⟨rfl,rfl⟩ | ⟨n2,g2⟩
    ·exact absurd rfl hne
    ·exact fun o' ho'=>hS.sep _ _ _ _ hne hHb g2 o' ho'
   ·rcases key k' r' g2 with⟨rfl,rfl⟩ | ⟨n2,g2⟩
    ·exact fun o' ho'=>hS.sep _ _ _ _ hne g1 hHb o' ho'
    ·exact fun o' ho'=>hS.sep _ _ _ _ hne g1 g2 o' ho'
  ·have:=hne b _ hHb
   rw [e1] at this
   exact List.getElem?_set_ne (fun e=>this (by rw [e];rfl))
  ·rcases key k r hk with⟨rfl,rfl⟩ | ⟨n1,hk⟩
   ·exact .inr ⟨k,_,hHb,ho'⟩
   ·exact .inr ⟨k,_,hk,ho'⟩
end
end Go.Av
namespace Go.Pl
open Go Go.Proofs
structure zv where
 kind:Int
 raw:Bytes
 fields:List Fld
structure PSt where
 lines:List Bytes
 frm:Int
 full:Bool
 items:List zv
 block:List Bytes
 fields:List Fld
 records:Int
def jy (p:PSt):Option (Int×Int)×PSt:=
 if p.lines=[] then (none,p)
 else if (zp p.lines).2≠0 then (some (p.frm,(zp p.lines).2),p)
 else if p.full=true then (some (p.frm,11),p)
 else (none,{ p with lines:=[],fields:=p.fields++[(zp p.lines).1] })
end Go.Pl
namespace Go.Proofs.YtmoklbacdkmkaaaGreatDoor
open Go Go.Av Go.RowKit Go.Proofs Go.Pl
@[reducible] def z6 (x : zv) : AV := .ag [Iv x.kind, Sv x.raw, jw x.fields]
@[reducible] def js (xs : List zv) : AV := .sl 3 (xs.map z6) none
@[reducible] def parC (c1 c2 c3 c4 : AV) (p : PSt) : List AV := [c1, Iv p.frm, Bv p.full, c2, c3, c4, Iv p.records]
@[reducible] def parO (c1 c2 c3 c4 : AV) (p : PSt) : AObj := .cells 0 186 (parC c1 c2 c3 c4 p)
structure ParS (b o:Nat) (p:PSt) (st:List AObj) (c1 c2 c3 c4:AV):Prop where
 lt:o<b
 le:b≤st.length
 ob:st[o]? = some (parO c1 c2 c3 c4 p)
 h1:TipC b st 1 9 (p.lines.map fun x=>Sv x) c1
 h2:TipC b st 3 137 (p.items.map z6) c2
 h3:TipC b st 1 9 (p.block.map fun x=>Sv x) c3
 h4:TipC b st 2 156 (p.fields.map fldA) c4
 ne:∀ t xs ys,c1 = .sl 1 xs (some t)→c3 = .sl 1 ys (some t)→False
structure Keep (b o:Nat) (st st':List AObj):Prop where
 len:st.length≤st'.length
 same:∀ k,k≠o→k<st.length→(k<b∨qjn st[k]?)→st'[k]? = st[k]?
theorem Keep.trans {b o:Nat} {st st' st'':List AObj} (h:Keep b o st st') (k:Keep b o st' st''):Keep b o st st'':=⟨Nat.le_trans h.len k.len,fun i hne hi hc=>by
 have e:=h.same i hne hi hc
 refine (k.same i hne (Nat.lt_of_lt_of_le hi h.len) ?_).trans e
 rw [e]
 exact hc⟩
def qeu (a n:Int):AV:=.ifc 101 (.pp [Iv a,.ifc 76 (Iv n)])
def errP:Option (Int×Int)→AV
 |none=>.v .nilIface
 |some (a,n)=>qeu a n
theorem qk7 (a n:Int):Pure (qeu a n):=qc7 (qvi fun x hx=>by
 simp only [List.mem_cons,List.not_mem_nil,or_false] at hx
 rcases hx with rfl|rfl
 ·exact qs _
 ·exact qc7 (qs _))
theorem qm3 (a n:Int) (st:List AObj):qp E 167 [Iv a,.ifc 76 (Iv n)] st fun r st'=>r=qeu a n∧st'=st:=by
 refine qx (qk7 a n) (qq Tryz.func167 rfl (Nat.le_of_ble_eq_true rfl) ?_)
 repeat' (first|(apply qnu;(iterate 3 exact rfl))|apply qn|apply qf|apply qh|apply qj|apply qg|(apply kg;exact rfl;exact rfl)|(apply vu;(iterate 3 exact rfl))|apply qt)
 exact qo rfl (q5 rfl) ⟨rfl,_,rfl⟩
theorem q70 (ls:List Bytes) (t:Option Nat) (st:List AObj) (hB:LsB ls) (h:(zp ls).2=0):qp E 216 [.sl 1 (ls.map fun x=>Sv x) t] st fun r st'=>r = .tu [fldA (zp ls).1,.v .nilIface]∧st'=st:=by
 have:=qoe ls st hB
 unfold qf7 at this
 rw [h] at this
 exact qpv (qi0 _ _ _) this
theorem q71 (ls:List Bytes) (t:Option Nat) (st:List AObj) (hB:LsB ls) (h:(zp ls).2≠0):qp E 216 [.sl 1 (ls.map fun x=>Sv x) t] st fun r st'=>r = .tu [fldA (zp ls).1,.ifc 76 (Iv (zp ls).2)]∧st'=st:=by
 have:=qoe ls st hB
 unfold qf7 at this
 rw [qlr h] at this
 exact qpv (qi0 _ _ _) this
structure PB (n:Nat) (p:PSt):Prop where
 small:n<900000
 lines:p.lines.length≤n
 linesV:∀ s∈p.lines,s.length<1000000
 items:p.items.length≤n
 block:p.block.length≤n
 blockV:∀ s∈p.block,s.length<1000000
 fields:p.fields.length≤n
 rec0:0≤p.records
 rec1:p.records≤n
theorem PB.ls {n:Nat} {p:PSt} (h:PB n p):LsB p.lines:=⟨by have:=h.lines;have:=h.small;omega,h.linesV⟩
theorem ParS.pre {b o:Nat} {p:PSt} {st l:List AObj} {c1 c2 c3 c4:AV} (P:ParS b o p st c1 c2 c3 c4):ParS b o p (st++l) c1 c2 c3 c4:=
 ⟨P.lt,by have:=P.le;simp;omega,qcc P.ob,qj0 P.h1,qj0 P.h2,qj0 P.h3,qj0 P.h4,P.ne⟩
end Go.Proofs.YtmoklbacdkmkaaaGreatDoor
namespace Go.Pl
open Go Go.Proofs
def yf (p:PSt):PSt:=
 if p.block=[] then { p with block:=[],fields:=[] }
 else { p with items:=p.items++[⟨if p.fields=[] then 2 else 3,zk p.block,p.fields⟩],records:=if p.fields=[] then p.records else p.records+1,block:=[],fields:=[] }
def endP (p:PSt):Option (Int×Int)×PSt:=match (jy p).1 with
 |some e=>(some e,p)
 |none=>(none,yf (jy p).2)
theorem qoj:∀ (x:Bytes) (r:List Bytes),Lib.join (x::r) [10]++[10]=zk (x::r)
 |x,[]=>by rw [Lib.join_one];simp [zk]
 |x,y::r=>by
  have ih:=qoj y r
  rw [Lib.join_cons] at ih ⊢
  unfold Lib.joinTail at ih ⊢
  simp only [List.map_cons,List.flatten_cons,zk,List.flatMap_cons] at ih ⊢
  rw [← ih]
  simp
theorem qnc:∀ (r:List Bytes),(∀ s∈r,s.length<1000000)→(zk r).length≤1000001 * r.length
 | [],_=>by simp [zk]
 |a::r,h=>by
  have ih:=qnc r fun s hs=>h s (by simp [hs])
  have ha:=h a (by simp)
  simp only [zk,List.flatMap_cons,List.length_append,List.length_cons,List.length_nil] at ih ⊢
  omega
end Go.Pl
namespace Go.Proofs.YtmoklbacdkmkaaaGreatDoor
open Go Go.Av Go.RowKit Go.Proofs Go.Pl
theorem qhu {n:Nat} {p:PSt} (h:PB n p) (hs:n+1<900000):PB (n+1) (jy p).2:=by
 have h1:=h.lines;have h2:=h.items;have h3:=h.block;have h4:=h.fields;have h5:=h.rec0;have h6:=h.rec1
 unfold jy
 split
 ·exact⟨hs,by simp only;omega,h.linesV,by simp only;omega,by simp only;omega,h.blockV,by simp only;omega,h5,by simp only;omega⟩
 ·split
  ·exact⟨hs,by simp only;omega,h.linesV,by simp only;omega,by simp only;omega,h.blockV,by simp only;omega,h5,by simp only;omega⟩
  ·split
   ·exact⟨hs,by simp only;omega,h.linesV,by simp only;omega,by simp only;omega,h.blockV,by simp only;omega,h5,by simp only;omega⟩
   ·exact⟨hs,by simp,by simp,by simp only;omega,by simp only;omega,h.blockV,by simp;omega,h5,by simp only;omega⟩
theorem zfy (xs:List Bytes) (tip:Option Nat) (st:List AObj) (hne:xs≠[]) (hN:xs.length≤900000) (hv:∀ s∈xs,s.length<1000000):qp E 156 [.sl 1 (xs.map fun x=>Sv x) tip,Sv [10]] st fun r st'=>r=Sv (Lib.join xs [10])∧st'=st:=by
 refine q9t xs tip [10] st (by omega) ?_
 have h1:=qnc xs hv
 cases xs with
 |nil=>exact absurd rfl hne
 |cons x r=>
  have h2:=congrArg List.length (qoj x r)
  rw [List.length_append] at h2
  simp only [List.length_cons,List.length_nil] at h2 h1 hN
  omega
def parH (a:Nat) (p:PSt):List (Nat×Option SR):=[(0,some (.cells 186 [.tp a,.i p.frm,.b p.full,.tp (a+1),.tp (a+2),.tp (a+3),.i p.records])),(a,some (.tip 1 9 (p.lines.map fun x=>Sv x))),(a+1,some (.tip 3 137 (p.items.map z6))),(a+2,some (.tip 1 9 (p.block.map fun x=>Sv x))),(a+3,some (.tip 2 156 (p.fields.map fldA)))]
theorem qq8 (n:Nat) (p:PSt) (hB:PB n p):vn E 169 [.bx 0 0] 5 (hpF (parH 1 p)) ⟨.a (errP (jy p).1),wi (parH 1 p),parH 5 (jy p).2++ww (parH 1 p),9⟩:=by
 refine yx [.bx 0 0] (parH 1 p) 5 (.a (errP (jy p).1)) (parH 5 (jy p).2) 9 Tryz.func169 rfl rfl rfl rfl fun S F ρ=>?_
 have hls:=hB.ls
 have hsm:=hB.small
 have hfl:=hB.fields
 by_cases h0:p.lines=[]
 ·have e:jy p=(none,p):=by unfold jy;rw [if_pos h0]
  rw [e]
  have hl0:(p.lines.map fun x=>Sv x).length=0:=by simp [h0]
  apply qe []
  repeat' (first|apply And.intro|(intro h;try exact cDd)|exact cSd|apply qc []|refine exr ?_|refine qi ?_)
 ·have hl0:(p.lines.map fun x=>Sv x).length≠0:=by simp [h0]
  by_cases hu:(zp p.lines).2=0
  ·have hun:=fun st=>q70 p.lines none st hls hu
   cases hf:p.full with
   |true=>
    have e:jy p=(some (p.frm,11),p):=by unfold jy;rw [if_neg h0,if_neg (by simp [hu]),if_pos hf]
    rw [e]
    have hft:=fun st=>qm3 p.frm 11 st
    apply qe []
    repeat' (first|apply And.intro|(intro h;try exact cDd)|exact⟨Tryz.call216⟩|refine cpe hun ?_|exact⟨Tryz.call167⟩|refine cpe hft ?_|(exact absurd (by assumption:p.full=false) (by rw [hf];decide))|exact cSd|apply qc []|refine exr ?_|refine qi ?_)
   |false=>
    have e:jy p=(none,{ p with lines:=[],fields:=p.fields++[(zp p.lines).1] }):=by unfold jy;rw [if_neg h0,if_neg (by simp [hu]),if_neg (by simp [hf])]
    rw [e]
    apply qe [51]
    repeat' (first|apply And.intro|(intro h;try exact cDd)|exact⟨Tryz.call216⟩|refine cpe hun ?_|(exact absurd (by assumption:p.full=true) (by rw [hf];decide))|exact cSd|apply qc [51]|refine exr ?_|refine qi ?_)
    all_goals first|(simp [SV.evs,SV.ev];done)|(simp [SV.evs];omega)
  ·have hun:=fun st=>q71 p.lines none st hls hu
   have e:jy p=(some (p.frm,(zp p.lines).2),p):=by unfold jy;rw [if_neg h0,if_pos hu]
   rw [e]
   have hft:=fun st=>qm3 p.frm (zp p.lines).2 st
   apply qe []
   repeat' (first|apply And.intro|(intro h;try exact cDd)|exact⟨Tryz.call216⟩|refine cpe hun ?_|exact⟨Tryz.call167⟩|refine cpe hft ?_|exact cSd|apply qc []|refine exr ?_|refine qi ?_)
theorem q5e (n:Nat) (p:PSt) (hB:PB n p) (hs:n+1<900000):vn E 103 [.bx 0 0] 5 (hpF (parH 1 p)) ⟨.a (errP (endP p).1),wi (parH 1 p),parH 5 (endP p).2++ww (parH 1 p),9⟩:=by
 refine yx [.bx 0 0] (parH 1 p) 5 (.a (errP (endP p).1)) (parH 5 (endP p).2) 9 Tryz.func103 rfl rfl rfl rfl fun S F ρ=>?_
 have hfc:=qq8 n p hB
 have hB2:=qhu hB hs
 have hsame:∀ e,(jy p).1=some e→(jy p).2=p:=fun e=>by
  unfold jy
  split
  ·simp
  ·split
   ·simp
   ·split
    ·simp
    ·simp
 unfold endP
 generalize jy p=fq at hfc hB2 hsame
 obtain⟨fe,q⟩:=fq
 cases fe with
 |some e=>
  obtain rfl:=hsame e rfl
  obtain⟨a,k⟩:=e
  apply qe []
  repeat' (first|apply And.intro|(intro h;try exact cDd)|exact⟨Tryz.call169⟩|(refine j8 hfc ?_)|exact cSd|apply qc []|refine exr ?_|refine qi ?_)
 |none=>
  dsimp only at hB2 hfc
  have h3:=hB2.fields
  have h4:=hB2.rec0
  have h5:=hB2.rec1
  have h1:=hB2.block
  have h2:=hB2.items
  by_cases hb:q.block=[]
  ·have e:yf q={ q with block:=[],fields:=[] }:=by unfold yf;rw [if_pos hb]
   simp only [e]
   have hl0:(q.block.map fun x=>Sv x).length=0:=by simp [hb]
   apply qe []
   repeat' (first|apply And.intro|(intro h;try exact cDd)|exact⟨Tryz.call169⟩|(refine j8 hfc ?_)|exact cSd|apply qc []|refine exr ?_|refine qi ?_)
  ·have hl0:(q.block.map fun x=>Sv x).length≠0:=by simp [hb]
   have hbl:=qnc q.block hB2.blockV
   obtain⟨b,r,hbr⟩:∃ b r,q.block=b::r:=by
    cases hq:q.block with
    |nil=>exact absurd hq hb
    |cons b r=>exact⟨b,r,rfl⟩
   have hjt:=qoj b r
   rw [← hbr] at hjt
   have hjl:=congrArg List.length hjt
   simp only [List.length_append,List.length_cons,List.length_nil] at hjl
   have hjo:=fun st=>zfy q.block none st hb (by omega) hB2.blockV
   by_cases hf:q.fields=[]
   ·have e:yf q={ q with items:=q.items++[⟨2,zk q.block,q.fields⟩],records:=q.records,block:=[],fields:=[] }:=by unfold yf;rw [if_neg hb,if_pos hf,if_pos hf]
    simp only [e]
    have hl1:(q.fields.map fldA).length=0:=by simp [hf]
    apply qe []
    repeat' (first|apply And.intro|(intro h;try exact cDd)|exact⟨Tryz.call169⟩|(refine j8 hfc ?_)|exact⟨Tryz.call156⟩|refine cpe hjo ?_|exact cSd|apply qc []|refine exr ?_|refine qi ?_)
    all_goals first|(simp [SV.evs,SV.ev,hjt];done)|(simp [SV.evs];omega)
   ·have e:yf q={ q with items:=q.items++[⟨3,zk q.block,q.fields⟩],records:=q.records+1,block:=[],fields:=[] }:=by unfold yf;rw [if_neg hb,if_neg hf,if_neg hf]
    simp only [e]
    have hl1:(q.fields.map fldA).length≠0:=by simp [hf]
    apply qe []
    repeat' (first|apply And.intro|(intro h;try exact cDd)|exact⟨Tryz.call169⟩|(refine j8 hfc ?_)|exact⟨Tryz.call156⟩|refine cpe hjo ?_|exact cSd|apply qc []|refine exr ?_|refine qi ?_)
    all_goals first|(simp [SV.evs,SV.ev,hjt];done)|(simp [SV.evs];omega)
end Go.Proofs.YtmoklbacdkmkaaaGreatDoor
namespace Go.Pl
open Go Go.Proofs
def kz (p:PSt) (no:Int) (text:Bytes):PSt:={ p with lines:=[text],frm:=no,full:=decide (p.fields.length=40∨(p.fields.length=0∧p.records=400)) }
def jr (p:PSt) (no:Int) (text:Bytes) (ended:Bool) (kind:Int):Option (Int×Int)×PSt:=
 if kind=3 then
  if p.lines=[] then (some (no,2),p)
  else if ended=true then (none,{ p with lines:=p.lines++[text] })
  else jy { p with lines:=p.lines++[text] }
 else if kind=1 then endP p
 else jy p
def wr (p:PSt) (no:Int) (text:Bytes) (ended:Bool):Option (Int×Int)×PSt:=
 match (jr p no text ended (qz text)).1 with
 |some e=>(some e,p)
 |none=>
  if qz text=5∨ended=false then (some (no,2),p)
  else if qz text=1 then (none,{ (jr p no text ended (qz text)).2 with items:=(jr p no text ended (qz text)).2.items++[⟨1,text++[10],[]⟩] })
  else if qz text=4 then (none,{ kz (jr p no text ended (qz text)).2 no text with block:=(jr p no text ended (qz text)).2.block++[text] })
  else (none,{ (jr p no text ended (qz text)).2 with block:=(jr p no text ended (qz text)).2.block++[text] })
end Go.Pl
namespace Go.Proofs.YtmoklbacdkmkaaaGreatDoor
open Go Go.Av Go.RowKit Go.Proofs Go.Pl
theorem PB.more {n m:Nat} {p:PSt} (h:PB n p) (hm:n≤m) (hs:m<900000):PB m p:=by
 have h1:=h.lines;have h2:=h.items;have h3:=h.block;have h4:=h.fields;have h5:=h.rec0;have h6:=h.rec1
 exact⟨hs,by omega,h.linesV,by omega,by omega,h.blockV,by omega,h5,by omega⟩
theorem q8y {n:Nat} {p:PSt} (h:PB n p) (hs:n+1<900000):PB (n+1) (yf p):=by
 have h1:=h.lines;have h2:=h.items;have h3:=h.block;have h4:=h.fields;have h5:=h.rec0;have h6:=h.rec1
 unfold yf
 split
 ·exact⟨hs,by simp only;omega,h.linesV,by simp only;omega,by simp,by simp,by simp,h5,by simp only;omega⟩
 ·refine⟨hs,by simp only;omega,h.linesV,by simp;omega,by simp,by simp,by simp,?_,?_⟩
  ·simp only;split <;> omega
  ·simp only;split <;> omega
theorem qrk {n:Nat} {p:PSt} {text:Bytes} (h:PB n p) (hs:n+1<900000) (ht:text.length<1000000):PB (n+1) { p with lines:=p.lines++[text] }:=by
 have h1:=h.lines;have h2:=h.items;have h3:=h.block;have h4:=h.fields;have h5:=h.rec0;have h6:=h.rec1
 exact⟨hs,by simp;omega,qri h.linesV ht,by simp only;omega,by simp only;omega,h.blockV,by simp only;omega,h5,by simp only;omega⟩
theorem q1n {n:Nat} {p:PSt} {text:Bytes} (h:PB n p) (hs:n+1<900000) (ht:text.length<1000000):PB (n+1) { p with block:=p.block++[text] }:=by
 have h1:=h.lines;have h2:=h.items;have h3:=h.block;have h4:=h.fields;have h5:=h.rec0;have h6:=h.rec1
 exact⟨hs,by simp only;omega,h.linesV,by simp only;omega,by simp;omega,qri h.blockV ht,by simp only;omega,h5,by simp only;omega⟩
theorem zdn {n:Nat} {p:PSt} {x:zv} (h:PB n p) (hs:n+1<900000):PB (n+1) { p with items:=p.items++[x] }:=by
 have h1:=h.lines;have h2:=h.items;have h3:=h.block;have h4:=h.fields;have h5:=h.rec0;have h6:=h.rec1
 exact⟨hs,by simp only;omega,h.linesV,by simp;omega,by simp only;omega,h.blockV,by simp only;omega,h5,by simp only;omega⟩
theorem zdm {n:Nat} {p:PSt} {no:Int} {text:Bytes} (h:PB n p) (hs:n+1<900000) (ht:text.length<1000000):PB (n+1) (kz p no text):=by
 have h1:=h.lines;have h2:=h.items;have h3:=h.block;have h4:=h.fields;have h5:=h.rec0;have h6:=h.rec1
 exact⟨hs,by simp [kz],by simp [kz,ht],by simp only [kz];omega,by simp only [kz];omega,h.blockV,by simp only [kz];omega,h5,by simp only [kz];omega⟩
theorem qj3 {n:Nat} {p:PSt} {no:Int} {text:Bytes} {ended:Bool} {kind:Int} (h:PB n p) (hs:n+2<900000) (ht:text.length<1000000):PB (n+2) (jr p no text ended kind).2:=by
 unfold jr
 split
 ·split
  ·exact h.more (by omega) hs
  ·split
   ·exact (qrk h (by omega) ht).more (by omega) hs
   ·exact qhu (qrk h (by omega) ht) hs
 ·split
  ·unfold endP
   split
   ·exact h.more (by omega) hs
   ·exact q8y (qhu h (by omega)) hs
  ·exact (qhu h (by omega)).more (by omega) hs
theorem qtg (l:Bytes):1≤qz l∧qz l≤5:=by
 unfold qz
 repeat' split
 all_goals decide
theorem qrt {n:Nat} {p:PSt} {no:Int} {text:Bytes} {ended:Bool} (h:PB n p) (hs:n+4<900000) (ht:text.length<1000000):PB (n+4) (wr p no text ended).2:=by
 have h2:PB (n+2) (jr p no text ended (qz text)).2:=qj3 h (by omega) ht
 unfold wr
 split
 ·exact h.more (by omega) hs
 ·split
  ·exact h.more (by omega) hs
  ·split
   ·exact (zdn h2 (by omega)).more (by omega) hs
   ·split
    ·exact q1n (zdm h2 (by omega) ht) hs ht
    ·exact (q1n h2 (by omega) ht).more (by omega) hs
theorem zae (n:Nat) (p:PSt) (no at':Int) (text:Bytes) (ended:Bool) (hB:PB n p):vn E 168 [.bx 0 0,.ag [.i no,.i at',.s text,.b ended]] 5 (hpF (parH 1 p)) ⟨.tu [],wi (parH 1 p),parH 5 (kz p no text)++ww (parH 1 p),9⟩:=by
  refine yx [.bx 0 0,.ag [.i no,.i at',.s text,.b ended]] (parH 1 p) 5 (.tu []) (parH 5 (kz p no text)) 9 Tryz.func168 rfl rfl rfl rfl fun S F ρ=>?_
  obtain⟨ls,fr,fu,its,bk,fs,rc⟩:=p
  have hml:(fs.map fldA).length=fs.length:=by simp
  by_cases ha:fs.length=40∨(fs.length=0∧rc=400)
  · have e:kz ⟨ls,fr,fu,its,bk,fs,rc⟩ no text=⟨[text],no,true,its,bk,fs,rc⟩:=by
      unfold kz
      simp only [decide_eq_true ha]
    rw [e]
    apply qe [29]
    repeat' (first|apply And.intro|(intro h;try exact cDd)|exact cSd|apply qc [29]|refine exr ?_|refine qi ?_)
    all_goals (intros; simp only [hml] at *; first | (exfalso; omega) | (have hrc : rc = 400 := by omega
                                                                         subst hrc;rfl))
  · have e:kz ⟨ls,fr,fu,its,bk,fs,rc⟩ no text=⟨[text],no,false,its,bk,fs,rc⟩:=by
      unfold kz
      simp only [decide_eq_false ha]
    rw [e]
    apply qe [29]
    repeat' (first|apply And.intro|(intro h;try exact cDd)|exact cSd|apply qc [29]|refine exr ?_|refine qi ?_)
    all_goals (intros; simp only [hml] at *; first | (exfalso; omega) | (have hrc : ¬ rc = 400 := by omega
                                                                         simp [SV.evs,SV.ev,SV.rens,SV.ren,lkS,wo,hrc];exact⟨rfl,rfl,rfl⟩))
theorem qw3 (n:Nat) (p:PSt) (no at':Int) (text:Bytes) (ended:Bool) (kind:Int) (hB:PB n p) (hs:n+2<900000) (ht:text.length<1000000):vn E 166 [.bx 0 0,.ag [.i no,.i at',.s text,.b ended],.i kind] 5 (hpF (parH 1 p)) ⟨.a (errP (jr p no text ended kind).1),wi (parH 1 p),parH 5 (jr p no text ended kind).2++ww (parH 1 p),9⟩:=by
 refine yx [.bx 0 0,.ag [.i no,.i at',.s text,.b ended],.i kind] (parH 1 p) 5 (.a (errP (jr p no text ended kind).1)) (parH 5 (jr p no text ended kind).2) 9 Tryz.func166 rfl rfl rfl rfl fun S F ρ=>?_
 unfold jr
 by_cases hk3:kind=3
 ·rw [if_pos hk3]
  by_cases h0:p.lines=[]
  ·rw [if_pos h0]
   have hl0:(p.lines.map fun x=>Sv x).length=0:=by simp [h0]
   have hft:=fun st=>qm3 no 2 st
   apply qe []
   repeat' (first|apply And.intro|(intro h;try exact cDd)|exact⟨Tryz.call167⟩|refine cpe hft ?_|exact cSd|apply qc []|refine exr ?_|refine qi ?_)
  ·rw [if_neg h0]
   have hl0:(p.lines.map fun x=>Sv x).length≠0:=by simp [h0]
   have hll:=hB.lines
   have hsm:=hB.small
   have hml:(p.lines.map fun x=>Sv x).length=p.lines.length:=by simp
   have hfc:=qq8 (n+1) { p with lines:=p.lines++[text] } (qrk hB (by omega) ht)
   cases ended with
   |true=>
    rw [if_pos rfl]
    apply qe []
    repeat' (first|apply And.intro|(intro h;try exact cDd)|(exact absurd (by assumption:true=false) (by decide))|exact cSd|apply qc []|refine exr ?_|refine qi ?_)
    all_goals first|(simp [SV.evs,SV.ev];done)|(simp [SV.evs];omega)
   |false=>
    rw [if_neg (by decide)]
    apply qe []
    repeat' (first|apply And.intro|(intro h;try exact cDd)|(exact absurd (by assumption:false=true) (by decide))|exact⟨Tryz.call169⟩|(refine j8 hfc ?_)|exact cSd|apply qc []|refine exr ?_|refine qi ?_)
    all_goals first|(simp [SV.evs,SV.ev];done)|(simp [SV.evs];omega)
 ·rw [if_neg hk3]
  by_cases hk1:kind=1
  ·rw [if_pos hk1]
   have hfc:=q5e n p hB (by omega)
   apply qe []
   repeat' (first|apply And.intro|(intro h;try exact cDd)|exact⟨Tryz.call103⟩|(refine j8 hfc ?_)|exact cSd|apply qc []|refine exr ?_|refine qi ?_)
  ·rw [if_neg hk1]
   have hfc:=qq8 n p hB
   apply qe []
   repeat' (first|apply And.intro|(intro h;try exact cDd)|exact⟨Tryz.call169⟩|(refine j8 hfc ?_)|exact cSd|apply qc []|refine exr ?_|refine qi ?_)
theorem zdo (n:Nat) (p:PSt) (no at':Int) (text:Bytes) (ended:Bool) (hB:PB n p) (hs:n+4<900000) (ht:text.length<1000000) (hok:(wr p no text ended).1=none):vn E 102 [.bx 0 0,.ag [.i no,.i at',.s text,.b ended]] 5 (hpF (parH 1 p)) ⟨.a (.v .nilIface),wi (parH 1 p),parH 5 (wr p no text ended).2++ww (parH 1 p),9⟩:=by
 refine yx [.bx 0 0,.ag [.i no,.i at',.s text,.b ended]] (parH 1 p) 5 (.a (.v .nilIface)) (parH 5 (wr p no text ended).2) 9 Tryz.func102 rfl rfl rfl rfl fun S F ρ=>?_
 have hfc:=qw3 n p no at' text ended (qz text) hB (by omega) ht
 have hB1:=qj3 (no:=no) (text:=text) (ended:=ended) (kind:=qz text) hB (by omega) ht
 have hkr:=qtg text
 have hkd:=fun st=>qjl text st (by omega)
 unfold wr at hok ⊢
 generalize jr p no text ended (qz text)=fq at hfc hB1 hok ⊢
 obtain⟨fe,q⟩:=fq
 cases fe with
 |some e=>exact absurd hok (by simp)
 |none=>
  dsimp only at hB1 hfc hok ⊢
  have h1:=hB1.block
  have h2:=hB1.items
  have hmb:(q.block.map fun x=>Sv x).length=q.block.length:=by simp
  have hmi:(q.items.map z6).length=q.items.length:=by simp
  by_cases hk:qz text=5∨ended=false
  ·rw [if_pos hk] at hok
   exact absurd hok (by simp)
  ·rw [if_neg hk] at hok ⊢
   have hk5:qz text≠5:=fun h=>hk (.inl h)
   obtain rfl:ended=true:=by cases ended <;> simp_all
   by_cases hk1:qz text=1
   ·rw [if_pos hk1]
    apply qe []
    repeat' (first|apply And.intro|(intro h;try exact cDd)|exact⟨Tryz.call165⟩|refine cpe hkd ?_|exact⟨Tryz.call166⟩|(refine j8 hfc ?_)|(exact absurd (by assumption:true=false) (by decide))|exact cSd|apply qc []|refine exr ?_|refine qi ?_)
    all_goals first|(simp [SV.evs,SV.ev];done)|(simp [SV.evs];omega)
   ·rw [if_neg hk1]
    by_cases hk4:qz text=4
    ·rw [if_pos hk4]
     have hbc:=zae (n+2) q no at' text true hB1
     apply qe []
     repeat' (first|apply And.intro|(intro h;try exact cDd)|exact⟨Tryz.call165⟩|refine cpe hkd ?_|exact⟨Tryz.call166⟩|(refine j8 hfc ?_)|exact⟨Tryz.call168⟩|(refine j8 hbc ?_)|(exact absurd (by assumption:true=false) (by decide))|exact cSd|apply qc []|refine exr ?_|refine qi ?_)
     all_goals first|(simp [SV.evs,SV.ev,kz];done)|(simp [SV.evs,kz];omega)
    ·rw [if_neg hk4]
     apply qe []
     repeat' (first|apply And.intro|(intro h;try exact cDd)|exact⟨Tryz.call165⟩|refine cpe hkd ?_|exact⟨Tryz.call166⟩|(refine j8 hfc ?_)|(exact absurd (by assumption:true=false) (by decide))|exact cSd|apply qc []|refine exr ?_|refine qi ?_)
     all_goals first|(simp [SV.evs,SV.ev];done)|(simp [SV.evs];omega)
theorem zdp (n:Nat) (p:PSt) (no at':Int) (text:Bytes) (ended:Bool) (hB:PB n p) (hs:n+4<900000) (ht:text.length<1000000) (a m:Int) (hok:(wr p no text ended).1=some (a,m)):vn E 102 [.bx 0 0,.ag [.i no,.i at',.s text,.b ended]] 5 (hpF (parH 1 p)) ⟨.a (qeu a m),wi (parH 1 p),parH 5 (jr p no text ended (qz text)).2++ww (parH 1 p),9⟩:=by
 refine yx [.bx 0 0,.ag [.i no,.i at',.s text,.b ended]] (parH 1 p) 5 (.a (qeu a m)) (parH 5 (jr p no text ended (qz text)).2) 9 Tryz.func102 rfl rfl rfl rfl fun S F ρ=>?_
 have hfc:=qw3 n p no at' text ended (qz text) hB (by omega) ht
 have hB1:=qj3 (no:=no) (text:=text) (ended:=ended) (kind:=qz text) hB (by omega) ht
 have hkr:=qtg text
 have hkd:=fun st=>qjl text st (by omega)
 unfold wr at hok
 generalize jr p no text ended (qz text)=fq at hfc hB1 hok ⊢
 obtain⟨fe,q⟩:=fq
 cases fe with
 |some e=>
  dsimp only at hB1 hfc hok ⊢
  obtain rfl:e=(a,m):=by simpa using hok
  apply qe []
  repeat' (first|apply And.intro|(intro h;try exact cDd)|exact⟨Tryz.call165⟩|refine cpe hkd ?_|exact⟨Tryz.call166⟩|(refine j8 hfc ?_)|exact cSd|apply qc []|refine exr ?_|refine qi ?_)
 |none=>
  dsimp only at hB1 hfc hok ⊢
  by_cases hk:qz text=5∨ended=false
  ·rw [if_pos hk] at hok
   obtain⟨rfl,rfl⟩:no=a∧2=m:=by simpa using hok
   have hft:=fun st=>qm3 no 2 st
   cases ended with
   |true=>
    have hk5:qz text=5:=by simpa using hk
    apply qe []
    repeat' (first|apply And.intro|(intro h;try exact cDd)|exact⟨Tryz.call165⟩|refine cpe hkd ?_|exact⟨Tryz.call167⟩|refine cpe hft ?_|exact⟨Tryz.call166⟩|(refine j8 hfc ?_)|(exact absurd (by assumption:true=false) (by decide))|exact cSd|apply qc []|refine exr ?_|refine qi ?_)
   |false=>
    apply qe []
    repeat' (first|apply And.intro|(intro h;try exact cDd)|exact⟨Tryz.call165⟩|refine cpe hkd ?_|exact⟨Tryz.call167⟩|refine cpe hft ?_|exact⟨Tryz.call166⟩|(refine j8 hfc ?_)|(exact absurd (by assumption:false=true) (by decide))|exact cSd|apply qc []|refine exr ?_|refine qi ?_)
  ·rw [if_neg hk] at hok
   split at hok
   ·simp at hok
   ·split at hok
    ·simp at hok
    ·simp at hok
end Go.Proofs.YtmoklbacdkmkaaaGreatDoor
namespace Go.Pl
open Go Go.Proofs
def p0:PSt:=⟨[],0,false,[],[],[],0⟩
def runL:Nat→List (Bytes×Bool)→PSt→Option (Int×Int)×PSt
 | _,[],p=>endP p
 |k,(t,e)::r,p=>match (wr p k t e).1 with
  |some x=>(some x,p)
  |none=>runL (k+1) r (wr p k t e).2
def jz (text:Bytes):Option (Int×Int)×List zv:=match (runL 0 (zr text) p0).1 with
 |some e=>(some e,[])
 |none=>(none,(runL 0 (zr text) p0).2.items)
end Go.Pl
namespace Go.Proofs.YtmoklbacdkmkaaaGreatDoor
open Go Go.Av Go.RowKit Go.Proofs Go.Pl
theorem q9g (x:Option (Int×Int)):Pure (errP x):=by
 rcases x with _ | ⟨a,n⟩
 ·exact qs _
 ·exact qk7 a n
theorem q6w (f:Fld):ql5 (fldA f):=fun x hx=>by
 simp only [AV.cells,List.mem_cons,List.not_mem_nil,or_false] at hx
 rcases hx with rfl|rfl <;> exact qs _
theorem qc4 (fs:List Fld):Pure (jw fs):=qco fun x hx=>by
 obtain⟨f,_,rfl⟩:=List.mem_map.1 hx
 exact q6w f
theorem qhh (x:zv):ql5 (z6 x):=fun y hy=>by
 simp only [AV.cells,List.mem_cons,List.not_mem_nil,or_false] at hy
 rcases hy with rfl|rfl|rfl
 ·exact qs _
 ·exact qs _
 ·exact qc4 _
theorem qaj (xs:List zv):Pure (js xs):=qco fun x hx=>by
 obtain⟨f,_,rfl⟩:=List.mem_map.1 hx
 exact qhh f
theorem kj {x y:AV} (hx:Pure x) (hy:Pure y):Pure (.tu [x,y]):=qdi fun z hz=>by
 simp only [List.mem_cons,List.not_mem_nil,or_false] at hz
 rcases hz with rfl|rfl
 ·exact hx
 ·exact hy
def qd0 (text:Bytes):AV:=.tu [js (jz text).2,errP (jz text).1]
theorem q3k (text:Bytes):Pure (qd0 text):=kj (qaj _) (q9g _)
theorem qqe {S:List AObj} {o k:Nat} {x:AObj} (h:k≠o):(S.set o x)[k]? = S[k]?:=List.getElem?_set_ne (Ne.symm h)
theorem q7d:PB 0 p0:=⟨by omega,by simp [p0],by simp [p0],by simp [p0],by simp [p0],by simp [p0],by simp [p0],by simp [p0],by simp [p0]⟩
theorem qrq (text:Bytes) (st:List AObj) (hl:text.length≤60000):qp E 58 [Sv text] st fun r st'=>r=qd0 text∧st'=st:=by
 refine zl [.s text] (q3k text) Tryz.func58 rfl rfl (fun _=>rfl) rfl fun S0=>?_
 apply qe [13]
 repeat' (first|apply And.intro|(intro h;try exact cDd)|exact⟨Tryz.call100⟩|(refine Exists.intro _ ⟨qiv _,?_⟩)|exact cSd|apply qc [13]|refine exr ?_|refine qi ?_)
 refine qei (X:=PSt×Option (Int×Int)) text 4 5 [0,1,2,3,4] (fun (p,e)=>⟨[(2,.bx 0 0),(3,.bx 1 0),(4,.bx 2 0),(15,.fn (.func 163) [] [.bx 4 0])],
   [(0,some (.cells 106 [.a zm])),(1,some (.cells 29 [.a (errP e)])),(2,some (.cells 182 [.bx 3 0])),(3,some (.cells 186 [.tp 5,.i p.frm,.b p.full,.tp 6,.tp 7,.tp 8,.i p.records])),(4,some (.cells 9 [.s text])),
    (5,some (.tip 1 9 (p.lines.map fun x=>Sv x))),(6,some (.tip 3 137 (p.items.map z6))),(7,some (.tip 1 9 (p.block.map fun x=>Sv x))),(8,some (.tip 2 156 (p.fields.map fldA)))],9⟩) _
  (fun k rest (p,e)=>e=none∧PB (4 * k) p∧k+rest.length≤text.length∧runL 0 (zr text) p0=runL k (zr rest) p)
  (fun c (p,e)=>∃ a m,c = .ret∧e=some (a,m)∧(runL 0 (zr text) p0).1=some (a,m)) (p0,none) ⟨rfl,q7d,by omega,rfl⟩ ?_ id (by omega) (fun _=>rfl) rfl (fun _=>rfl) (fun _=>rfl) rfl ?_ ?_ ?_
 ·skip
  repeat' (first|apply And.intro|(intro h;try exact cDd)|exact cSd|apply qc []|refine exr ?_|refine qi ?_)
 ·rintro k rest ⟨p,e⟩ ⟨rfl,hB,hkl,hrun⟩ hne hle
  have hcons:=wv hne
  have hu:=ko 10 rest
  have hpl:=km 10 rest
  have hr0:0<rest.length:=List.length_pos_iff.2 hne
  rw [hcons] at hrun
  simp only [runL] at hrun
  unfold qkt
  generalize hen:decide (10∈rest)=en at hrun
  generalize upto 10 rest=up at hu hrun ⊢
  have hB2:=qrt (no:=k) (text:=up) (ended:=en) hB (by omega) (by omega)
  cases hah:(wr p k up en).1 with
  |some e=>
   obtain⟨a,m⟩:=e
   rw [hah] at hrun
   simp only at hrun
   have htk:=zdp (4 * k) p k ((text.length:Int) - rest.length) up en hB (by omega) (by omega) a m hah
   refine RA.mk fun S F ρ rd=>?_
   apply qe []
   repeat' (first|apply And.intro|(intro h;try exact cDd)|(refine RB.mk fun S rd=>?_;apply qe [])|exact⟨Tryz.call102⟩|(refine j8 htk ?_)|(refine Exists.intro ((jr p k up en (qz up)).2,some (a,m)) ⟨⟨a,m,rfl,rfl,by rw [hrun]⟩,?_⟩)|exact cSd|apply qc []|refine exr ?_|refine qi ?_)
   all_goals (rw [← hen];rfl)
  |none=>
   rw [hah] at hrun
   simp only at hrun
   have htk:=zdo (4 * k) p k ((text.length:Int) - rest.length) up en hB (by omega) (by omega) hah
   refine RA.mk fun S F ρ rd=>?_
   apply qe []
   repeat' (first|apply And.intro|(intro h;try exact cDd)|(refine RB.mk fun S rd=>?_;apply qe [])|exact⟨Tryz.call102⟩|(refine j8 htk ?_)|(refine Exists.intro ((wr p k up en).2,none) ⟨⟨rfl,hB2,by omega,hrun⟩,?_⟩)|exact cSd|apply qc []|refine exr ?_|refine qi ?_)
   all_goals (rw [← hen];rfl)
 ·rintro k ⟨p,e⟩ ⟨rfl,hB,hkl,hrun⟩
  have hre:runL k (zr []) p=endP p:=by rw [v6];rfl
  rw [hre] at hrun
  have hpe:=q5e (4 * k) p hB (by omega)
  generalize endP p=fq at hrun hpe
  obtain⟨fe,q⟩:=fq
  cases fe with
  |some e=>
   have hpf:qd0 text = .tu [js [],errP (some e)]:=by unfold qd0 jz;rw [hrun]
   rw [hpf]
   obtain⟨a,m⟩:=e
   repeat' (first|apply And.intro|(intro h;try exact cDd)|exact⟨Tryz.call103⟩|(refine j8 hpe ?_)|exact cSd|apply qc []|refine exr ?_|refine qi ?_)
  |none=>
   have hpf:qd0 text = .tu [js q.items,errP none]:=by unfold qd0 jz;rw [hrun]
   rw [hpf]
   dsimp only at hpe
   repeat' (first|apply And.intro|(intro h;try exact cDd)|exact⟨Tryz.call103⟩|(refine j8 hpe ?_)|exact cSd|apply qc []|refine exr ?_|refine qi ?_)
 ·rintro c ⟨p,e⟩ ⟨a,m,rfl,rfl,hre⟩
  have hpf:qd0 text = .tu [js [],errP (some (a,m))]:=by unfold qd0 jz;rw [hre]
  rw [hpf]
  repeat' (first|apply And.intro|(intro h;try exact cDd)|exact cSd|apply qc []|refine exr ?_|refine qi ?_)
end Go.Proofs.YtmoklbacdkmkaaaGreatDoor
namespace Go.Proofs.YtmoklbacdkmkaaaGreatDoor
open Go Go.RowKit Go.Extern.Stop Go.Stop Go.Extern Go.Proofs
theorem asT.valueOf27 (t:Addr) (w:World):(ReflectliteValue.unpack (.iface 165 (.pointer (some t)))).run Tryz.prog w
  = .ok (.agg #[.pointer (some ⟨9,165,none⟩),.pointer (some ⟨w.heap.size,0,none⟩),.int .u64 150]) (w.alloc (.cells #[.pointer (some t)] 165)):=by kernel_rfl
theorem asT.type27 (a : Addr) (w : World) : (ReflectliteValue.methodAny (ReflectliteValue.valueError "reflectlite.Value.Type" 0) (fun t _ _ _ => ReflectliteType.toType t) #[.agg #[.pointer (some ⟨9, 165, none⟩), .pointer (some a), .int .u64 150]]).run Tryz.prog w
  = .ok (.iface 277 (.agg #[.pointer (some ⟨9,165,none⟩)])) w:=by kernel_rfl
theorem asT.methodKind (h : Value) (w : World) : (Go.method 495 277 (.agg #[h]) "Kind").run Tryz.prog w = .ok (307, h) w := by kernel_rfl
theorem asT.kind27 (w:World):((ReflectliteType.abiMethod fun t=>(fun a:Nat=>Value.int IntKind.u8 (a:Int)) <$> Rtype.kind t) #[.pointer (some ⟨9,165,none⟩)]).run Tryz.prog w = .ok (.int .u8 22) w:=by kernel_rfl
theorem asT.kind25 (w:World):((ReflectliteType.abiMethod fun t=>(fun a:Nat=>Value.int IntKind.u8 (a:Int)) <$> Rtype.kind t) #[.pointer (some ⟨9,101,none⟩)]).run Tryz.prog w = .ok (.int .u8 22) w:=by kernel_rfl
theorem rlm (z:Sem Value) (f:TypeId→Addr→Nat→Nat→Sem Value) (v:Value) :
  ReflectliteValue.method z f #[v]=(do match ← ReflectliteValue.parts v with|none=>z|some (t,a,fl)=>f t a fl (fl % 32)):=rfl
theorem asT.parts27 (a:Addr) (w:World):(ReflectliteValue.parts (.agg #[.pointer (some ⟨9,165,none⟩),.pointer (some a),.int .u64 150])).run Tryz.prog w = .ok (some (165,a,150)) w:=by kernel_rfl
theorem asT.isNil27 (a p:Addr) (W:World) (ha:W.cell? a=some (.pointer (some p))) :
  (ReflectliteValue.method (ReflectliteValue.valueError "reflectlite.Value.IsNil" 0) ReflectliteValue.isNil #[.agg #[.pointer (some ⟨9, 165, none⟩), .pointer (some a), .int .u64 150]]).run Tryz.prog W = .ok (.bool false) W := by
 rw [rlm]
 simp only [Sem.run_bind,asT.parts27,Result.andThen]
 simp [ReflectliteValue.isNil,loadVar,isAgg,underlying,Tryz.underlying165,ha,Result.andThen]
theorem asT.methodElem (h : Value) (w : World) : (Go.method 495 277 (.agg #[h]) "Elem").run Tryz.prog w = .ok (321, .agg #[h]) w := by kernel_rfl
theorem asT.methodImplements (h : Value) (w : World) : (Go.method 495 277 (.agg #[h]) "Implements").run Tryz.prog w = .ok (322, .agg #[h]) w := by kernel_rfl
theorem asT.methodAssignableTo (h : Value) (w : World) : (Go.method 495 277 (.agg #[h]) "AssignableTo").run Tryz.prog w = .ok (319, .agg #[h]) w := by kernel_rfl
theorem asT.elem27 (w:World):(ReflectliteType.method ReflectliteType.elem #[.agg #[.pointer (some ⟨9,165,none⟩)]]).run Tryz.prog w = .ok (.iface 277 (.agg #[.pointer (some ⟨9,101,none⟩)])) w:=by kernel_rfl
theorem asT.implements25 (w : World) : (ReflectliteType.relation "Implements" ReflectliteType.implements_ #[.agg #[.pointer (some ⟨9, 101, none⟩)], .iface 277 (.agg #[.pointer (some ⟨9, 29, none⟩)])]).run Tryz.prog w = .ok (.bool true) w := by kernel_rfl
theorem asT.typeOf25 (v:Value) (w:World):(ReflectliteType.typeOf #[.iface 101 v]).run Tryz.prog w = .ok (.iface 277 (.agg #[.pointer (some ⟨9,101,none⟩)])) w:=by kernel_rfl
theorem asT.assignable25 (w : World) : (ReflectliteType.relation "AssignableTo" ReflectliteType.assignableTo #[.agg #[.pointer (some ⟨9, 101, none⟩)], .iface 277 (.agg #[.pointer (some ⟨9, 101, none⟩)])]).run Tryz.prog w = .ok (.bool true) w := by kernel_rfl
theorem asT.valueOf25 (e:Addr) (w:World):(ReflectliteValue.unpack (.iface 101 (.pointer (some e)))).run Tryz.prog w
  = .ok (.agg #[.pointer (some ⟨9,101,none⟩),.pointer (some ⟨w.heap.size,0,none⟩),.int .u64 150]) (w.alloc (.cells #[.pointer (some e)] 101)):=by kernel_rfl
theorem asT.elemOf27 (w:World):(Rtype.elem? 165).run Tryz.prog w = .ok (some 101) w:=by kernel_rfl
theorem asT.mk25 (p:Addr) (w:World):(ReflectliteValue.mk 101 p ReflectliteValue.flagAddr).run Tryz.prog w = .ok (.agg #[.pointer (some ⟨9,101,none⟩),.pointer (some p),.int .u64 406]) w:=by kernel_rfl
theorem asT.elemV27 (a p:Addr) (W:World) (ha:W.cell? a=some (.pointer (some p))) :
  (ReflectliteValue.method (ReflectliteValue.valueError "reflectlite.Value.Elem" 0) ReflectliteValue.elem #[.agg #[.pointer (some ⟨9, 165, none⟩), .pointer (some a), .int .u64 150]]).run Tryz.prog W
   = .ok (.agg #[.pointer (some ⟨9,101,none⟩),.pointer (some p),.int .u64 406]) W:=by
 rw [rlm]
 simp only [Sem.run_bind,asT.parts27,Result.andThen]
 simp [ReflectliteValue.elem,loadVar,isAgg,underlying,Tryz.underlying165,ha,Result.andThen,asT.elemOf27,asT.mk25]
theorem rls (v x:Value):ReflectliteValue.set #[v,x]=(do
  let (some (dst,a,fl),some (src,b,_)):=(← ReflectliteValue.parts v,← ReflectliteValue.parts x)
   | unsupported (.noEntry "extern/(internal/reflectlite.Value).Set.zeroValue")
  if fl / ReflectliteValue.flagAddr % 2 == 0 then unsupported (.noEntry "extern/(internal/reflectlite.Value).Set.unaddressable")
  let val ← loadVar src b
  if ← Rtype.directlyAssignable dst src then storeVar dst a val
  else if ← Rtype.implements dst src then
   if (← Rtype.kind src) == 20 then
    match val with
    | .nilIface => unsupported (.noEntry "extern/reflectlite: a nil value of one interface type handed on as a value of another")
    | _=>storeVar dst a val
   else storeVar dst a (.iface src val)
  else panicString ("reflectlite.Set: value of type " ++ (← Rtype.spelt src) ++ " is not assignable to type " ++ (← Rtype.spelt dst))
  pure (.tuple #[])):=rfl
theorem asT.parts25a (a:Addr) (w:World):(ReflectliteValue.parts (.agg #[.pointer (some ⟨9,101,none⟩),.pointer (some a),.int .u64 406])).run Tryz.prog w = .ok (some (101,a,406)) w:=by kernel_rfl
theorem asT.parts25 (a:Addr) (w:World):(ReflectliteValue.parts (.agg #[.pointer (some ⟨9,101,none⟩),.pointer (some a),.int .u64 150])).run Tryz.prog w = .ok (some (101,a,150)) w:=by kernel_rfl
theorem asT.direct25 (w:World):(Rtype.directlyAssignable 101 101).run Tryz.prog w = .ok true w:=by kernel_rfl
theorem asT.set25 (ta b e:Addr) (old:Value) (W:World) (hb:W.cell? b=some (.pointer (some e))) (ht:W.cell? ta=some old) (hf:W.frozen? ta=false) :
  (ReflectliteValue.set #[.agg #[.pointer (some ⟨9,101,none⟩),.pointer (some ta),.int .u64 406],.agg #[.pointer (some ⟨9,101,none⟩),.pointer (some b),.int .u64 150]]).run Tryz.prog W
   = .ok (.tuple #[]) (W.setCell ta (.pointer (some e))):=by
 rw [rls]
 simp only [Sem.run_bind,asT.parts25a,asT.parts25,Result.andThen]
 simp [ReflectliteValue.flagAddr,loadVar,isAgg,underlying,Tryz.underlying101,hb,Result.andThen,asT.direct25,storeVar,Value.cells,storeCells,Addr.add]
 rw [run_store Tryz.prog W ta _ _ (by rfl)]
 simp [ht,hf]
set_option maxHeartbeats 4000000 in
theorem zha (e t:Addr) (old:Value) (w:World) (hg:w.cell? ⟨0,0,none⟩=some (.iface 277 (.agg #[.pointer (some ⟨9,29,none⟩)]))) (ht0:w.cell? t=some old) (hf0:w.frozen? t=false) :
  Calls Tryz.prog 85 #[.iface 101 (.pointer (some e)),.iface 165 (.pointer (some t))] w fun ev w'=>ev = .returned (.bool true)∧w'=((((w.alloc (.cells #[.pointer (some t)] 165)).alloc (.cells #[.pointer (some ⟨9,165,none⟩),.pointer (some ⟨w.heap.size,0,none⟩),.int .u64 150] 233)).alloc (.cells #[.pointer (some ⟨9,165,none⟩),.pointer (some ⟨w.heap.size,0,none⟩),.int .u64 150] 233)).alloc (.cells #[.pointer (some e)] 101)).setCell t (.pointer (some e)):=by
 have h6:=@run_callFunc_extern Tryz.prog 150 _ (fun args=>ReflectliteValue.unpack (args.getD 0 (.tuple #[]))) Tryz.func150 (by kernel_rfl) (by kernel_rfl) (by kernel_rfl) (by kernel_rfl)
 have h7 := @run_callFunc_extern Tryz.prog 151 _ (ReflectliteValue.methodAny (ReflectliteValue.valueError "reflectlite.Value.Type" 0) (fun t _ _ _ => ReflectliteType.toType t)) Tryz.func151 (by kernel_rfl) (by kernel_rfl) (by kernel_rfl) (by kernel_rfl)
 have h8 := @run_callFunc_extern Tryz.prog 152 _ (ReflectliteValue.method (ReflectliteValue.valueError "reflectlite.Value.IsNil" 0) ReflectliteValue.isNil) Tryz.func152 (by kernel_rfl) (by kernel_rfl) (by kernel_rfl) (by kernel_rfl)
 have h27:=@run_callFunc_extern Tryz.prog 307 _ (ReflectliteType.abiMethod fun t=>do pure (.int .u8 (← Rtype.kind t))) Tryz.func307 (by kernel_rfl) (by kernel_rfl) (by kernel_rfl) (by kernel_rfl)
 have h37:=@run_callFunc_extern Tryz.prog 321 _ (ReflectliteType.method ReflectliteType.elem) Tryz.func321 (by kernel_rfl) (by kernel_rfl) (by kernel_rfl) (by kernel_rfl)
 have h38 := @run_callFunc_extern Tryz.prog 322 _ (ReflectliteType.relation "Implements" ReflectliteType.implements_) Tryz.func322 (by kernel_rfl) (by kernel_rfl) (by kernel_rfl) (by kernel_rfl)
 have h10:=@run_callFunc_extern Tryz.prog 148 _ ReflectliteType.typeOf Tryz.func148 (by kernel_rfl) (by kernel_rfl) (by kernel_rfl) (by kernel_rfl)
 have h35 := @run_callFunc_extern Tryz.prog 319 _ (ReflectliteType.relation "AssignableTo" ReflectliteType.assignableTo) Tryz.func319 (by kernel_rfl) (by kernel_rfl) (by kernel_rfl) (by kernel_rfl)
 have h11 := @run_callFunc_extern Tryz.prog 199 _ (ReflectliteValue.method (ReflectliteValue.valueError "reflectlite.Value.Elem" 0) ReflectliteValue.elem) Tryz.func199 (by kernel_rfl) (by kernel_rfl) (by kernel_rfl) (by kernel_rfl)
 have h12:=@run_callFunc_extern Tryz.prog 200 _ ReflectliteValue.set Tryz.func200 (by kernel_rfl) (by kernel_rfl) (by kernel_rfl) (by kernel_rfl)
 have tO:=asT.typeOf25
 have mA:=asT.methodAssignableTo
 have a25:=asT.assignable25
 have v25:=asT.valueOf25
 have f6:=asT.valueOf27
 have f7:=asT.type27
 have mK:=asT.methodKind
 have mE:=asT.methodElem
 have mI:=asT.methodImplements
 have k27:=asT.kind27
 have k25:=asT.kind25
 have e27:=asT.elem27
 have i25:=asT.implements25
 have n8:=asT.isNil27 ⟨w.heap.size,0,none⟩ t ((w.alloc (.cells #[.pointer (some t)] 165)).alloc (.cells #[.pointer (some ⟨9,165,none⟩),.pointer (some ⟨w.heap.size,0,none⟩),.int .u64 150] 233)) (by simp)
 have hlt:0<w.heap.size:=by
  rcases Nat.lt_or_ge 0 w.heap.size with h|h
  ·exact h
  ·simp [World.cell?,Array.getElem?_eq_none h] at hg
 have hg2:((w.alloc (.cells #[.pointer (some t)] 165)).alloc (.cells #[.pointer (some ⟨9,165,none⟩),.pointer (some ⟨w.heap.size,0,none⟩),.int .u64 150] 233)).cell? ⟨0,0,none⟩=some (.iface 277 (.agg #[.pointer (some ⟨9,29,none⟩)])):=by
  rw [World.cell?_alloc_lt _ _ ⟨0,0,none⟩ (by first|(simp;done)|(simp;omega)),World.cell?_alloc_lt _ _ ⟨0,0,none⟩ hlt];exact hg
 have htl:t.block<w.heap.size:=by
  rcases Nat.lt_or_ge t.block w.heap.size with h|h
  ·exact h
  ·simp [World.cell?,Array.getElem?_eq_none h] at ht0
 have el:=asT.elemV27 ⟨w.heap.size,0,none⟩ t (((w.alloc (.cells #[.pointer (some t)] 165)).alloc (.cells #[.pointer (some ⟨9,165,none⟩),.pointer (some ⟨w.heap.size,0,none⟩),.int .u64 150] 233)).alloc (.cells #[.pointer (some ⟨9,165,none⟩),.pointer (some ⟨w.heap.size,0,none⟩),.int .u64 150] 233)) (by rw [World.cell?_alloc_lt _ _ ⟨w.heap.size,0,none⟩ (by first|(simp;done)|(simp;omega))];simp)
 have st:=asT.set25 t ⟨w.heap.size+1+1+1,0,none⟩ e old ((((w.alloc (.cells #[.pointer (some t)] 165)).alloc (.cells #[.pointer (some ⟨9,165,none⟩),.pointer (some ⟨w.heap.size,0,none⟩),.int .u64 150] 233)).alloc (.cells #[.pointer (some ⟨9,165,none⟩),.pointer (some ⟨w.heap.size,0,none⟩),.int .u64 150] 233)).alloc (.cells #[.pointer (some e)] 101))
  (by rw [World.cell?_alloc_at _ _ _ _ (by simp)];rfl)
  (by rw [World.cell?_alloc_lt _ _ t (by first|(simp;done)|(simp;omega)),World.cell?_alloc_lt _ _ t (by first|(simp;done)|(simp;omega)),World.cell?_alloc_lt _ _ t (by first|(simp;done)|(simp;omega)),World.cell?_alloc_lt _ _ t htl];exact ht0)
  (by rw [World.frozen?_alloc_old _ _ t (by first|(simp;done)|(simp;omega)),World.frozen?_alloc_old _ _ t (by first|(simp;done)|(simp;omega)),World.frozen?_alloc_old _ _ t (by first|(simp;done)|(simp;omega)),World.frozen?_alloc_old _ _ t (Nat.ne_of_lt htl)];exact hf0)
 go_enter Tryz.func85,Tryz.ntmps85
 go_wp2
 refine wp_loop_rounds 1 ?_
 rw [rounds_succ]
 go_wp2
 go_ret
 exact⟨rfl,rfl⟩
theorem asT.typeOf31 (v:Value) (w:World):(ReflectliteType.typeOf #[.iface 76 v]).run Tryz.prog w = .ok (.iface 277 (.agg #[.pointer (some ⟨9,76,none⟩)])) w:=by kernel_rfl
theorem asT.assignable31 (w : World) : (ReflectliteType.relation "AssignableTo" ReflectliteType.assignableTo #[.agg #[.pointer (some ⟨9, 76, none⟩)], .iface 277 (.agg #[.pointer (some ⟨9, 101, none⟩)])]).run Tryz.prog w = .ok (.bool false) w := by kernel_rfl
theorem asT.no230 (v:Value) (xT:TypeId) (w:World):(Instr.typeAssert (.iface 76 v) xT 288 true).run Tryz.prog w = .ok (.tuple #[.nilIface,.bool false]) w:=run_typeAssert_lacksB Tryz.underlying288 (by kernel_rfl) (by kernel_rfl) v xT w
theorem asT.no233 (v:Value) (xT:TypeId) (w:World):(Instr.typeAssert (.iface 76 v) xT 282 true).run Tryz.prog w = .ok (.tuple #[.nilIface,.bool false]) w:=run_typeAssert_lacksB Tryz.underlying282 (by kernel_rfl) (by kernel_rfl) v xT w
theorem asT.no234 (v:Value) (xT:TypeId) (w:World):(Instr.typeAssert (.iface 76 v) xT 283 true).run Tryz.prog w = .ok (.tuple #[.nilIface,.bool false]) w:=run_typeAssert_lacksB Tryz.underlying283 (by kernel_rfl) (by kernel_rfl) v xT w
set_option maxHeartbeats 4000000 in
theorem ze4 (n:Int) (t:Addr) (old:Value) (w:World) (hg:w.cell? ⟨0,0,none⟩=some (.iface 277 (.agg #[.pointer (some ⟨9,29,none⟩)]))) (ht0:w.cell? t=some old) :
  Calls Tryz.prog 85 #[.iface 76 (.int .i64 n),.iface 165 (.pointer (some t))] w fun ev w'=>ev = .returned (.bool false)∧Below w.heap.size w w':=by
 have h6:=@run_callFunc_extern Tryz.prog 150 _ (fun args=>ReflectliteValue.unpack (args.getD 0 (.tuple #[]))) Tryz.func150 (by kernel_rfl) (by kernel_rfl) (by kernel_rfl) (by kernel_rfl)
 have h7 := @run_callFunc_extern Tryz.prog 151 _ (ReflectliteValue.methodAny (ReflectliteValue.valueError "reflectlite.Value.Type" 0) (fun t _ _ _ => ReflectliteType.toType t)) Tryz.func151 (by kernel_rfl) (by kernel_rfl) (by kernel_rfl) (by kernel_rfl)
 have h8 := @run_callFunc_extern Tryz.prog 152 _ (ReflectliteValue.method (ReflectliteValue.valueError "reflectlite.Value.IsNil" 0) ReflectliteValue.isNil) Tryz.func152 (by kernel_rfl) (by kernel_rfl) (by kernel_rfl) (by kernel_rfl)
 have h27:=@run_callFunc_extern Tryz.prog 307 _ (ReflectliteType.abiMethod fun t=>do pure (.int .u8 (← Rtype.kind t))) Tryz.func307 (by kernel_rfl) (by kernel_rfl) (by kernel_rfl) (by kernel_rfl)
 have h37:=@run_callFunc_extern Tryz.prog 321 _ (ReflectliteType.method ReflectliteType.elem) Tryz.func321 (by kernel_rfl) (by kernel_rfl) (by kernel_rfl) (by kernel_rfl)
 have h38 := @run_callFunc_extern Tryz.prog 322 _ (ReflectliteType.relation "Implements" ReflectliteType.implements_) Tryz.func322 (by kernel_rfl) (by kernel_rfl) (by kernel_rfl) (by kernel_rfl)
 have h10:=@run_callFunc_extern Tryz.prog 148 _ ReflectliteType.typeOf Tryz.func148 (by kernel_rfl) (by kernel_rfl) (by kernel_rfl) (by kernel_rfl)
 have h35 := @run_callFunc_extern Tryz.prog 319 _ (ReflectliteType.relation "AssignableTo" ReflectliteType.assignableTo) Tryz.func319 (by kernel_rfl) (by kernel_rfl) (by kernel_rfl) (by kernel_rfl)
 have h11 := @run_callFunc_extern Tryz.prog 199 _ (ReflectliteValue.method (ReflectliteValue.valueError "reflectlite.Value.Elem" 0) ReflectliteValue.elem) Tryz.func199 (by kernel_rfl) (by kernel_rfl) (by kernel_rfl) (by kernel_rfl)
 have h12:=@run_callFunc_extern Tryz.prog 200 _ ReflectliteValue.set Tryz.func200 (by kernel_rfl) (by kernel_rfl) (by kernel_rfl) (by kernel_rfl)
 have tO:=asT.typeOf31
 have mA:=asT.methodAssignableTo
 have a25:=asT.assignable31
 have f6:=asT.valueOf27
 have f7:=asT.type27
 have mK:=asT.methodKind
 have mE:=asT.methodElem
 have mI:=asT.methodImplements
 have k27:=asT.kind27
 have k25:=asT.kind25
 have e27:=asT.elem27
 have i25:=asT.implements25
 have n8:=asT.isNil27 ⟨w.heap.size,0,none⟩ t ((w.alloc (.cells #[.pointer (some t)] 165)).alloc (.cells #[.pointer (some ⟨9,165,none⟩),.pointer (some ⟨w.heap.size,0,none⟩),.int .u64 150] 233)) (by simp)
 have hlt:0<w.heap.size:=by
  rcases Nat.lt_or_ge 0 w.heap.size with h|h
  ·exact h
  ·simp [World.cell?,Array.getElem?_eq_none h] at hg
 have hg2:((w.alloc (.cells #[.pointer (some t)] 165)).alloc (.cells #[.pointer (some ⟨9,165,none⟩),.pointer (some ⟨w.heap.size,0,none⟩),.int .u64 150] 233)).cell? ⟨0,0,none⟩=some (.iface 277 (.agg #[.pointer (some ⟨9,29,none⟩)])):=by
  rw [World.cell?_alloc_lt _ _ ⟨0,0,none⟩ (by first|(simp;done)|(simp;omega)),World.cell?_alloc_lt _ _ ⟨0,0,none⟩ hlt];exact hg
 have htl:t.block<w.heap.size:=by
  rcases Nat.lt_or_ge t.block w.heap.size with h|h
  ·exact h
  ·simp [World.cell?,Array.getElem?_eq_none h] at ht0
 have n1:=asT.no230
 have n2:=asT.no233
 have n3:=asT.no234
 go_enter Tryz.func85,Tryz.ntmps85
 go_wp2
 refine wp_loop_rounds 1 ?_
 rw [rounds_succ]
 go_wp2
 go_ret
 exact⟨rfl,(((Below.refl _ _).alloc (Nat.le_refl _) _).alloc (by simp) _).alloc (by first|(simp;done)|(simp;omega)) _⟩
end Go.Proofs.YtmoklbacdkmkaaaGreatDoor
namespace Go.Proofs.YtmoklbacdkmkaaaGreatDoor
open Go Go.Av Go.RowKit Go.Proofs Go.Pl
theorem q35 {w:World} {b:Nat} {T:TypeId} {fz:Nat×Nat} {c:Array Value} (v:Value) (hc:w.heap[b]? = some (.cells c T fz)) (h1:c.size=1):w.setCell ⟨b,0,none⟩ v=w.setRow b #[v]:=by
 unfold World.setCell World.setRow
 congr 1
 apply Array.ext_getElem?
 intro i
 rw [Array.getElem?_modify,Array.getElem?_modify]
 by_cases hi:b=i
 ·subst hi
  rw [if_pos rfl,if_pos rfl,hc]
  have:c.setIfInBounds 0 v = #[v]:=by
   apply Array.ext
   ·simp [h1]
   ·intro i h2 h3
    have:i=0:=by simp at h3;omega
    subst this
    simp
  simp [this]
 ·rw [if_neg hi,if_neg hi]
theorem q4k (a n:Int) (o:Nat) (st:List AObj) (ho:st[o]? = some (.cells 0 101 [.v (.pointer none)])):qp E 85 [qeu a n,.ifc 165 (.bx o 0 0)] st fun r st'=>r=Bv true∧st'=st.set o (.cells 0 101 [.pp [Iv a,.ifc 76 (Iv n)]]):=by
 refine⟨fun B0 w0 G vals w hL hA hR=>?_⟩
 obtain⟨v1,v2,rfl⟩:∃ x y,vals = #[x,y]:=by
  have:=hR.1
  match vals,this with
  | ⟨[x,y]⟩,_=>exact⟨x,y,rfl⟩
 have h1:=hR.2 0 _ v1 rfl rfl
 have h2:=hR.2 1 _ v2 rfl rfl
 unfold qeu at h1
 cases h1 with
 |ifc _ _ y1 h1=>
  cases h2 with
  |ifc _ _ y2 h2=>
   have hpp:=h1
   cases h1 with
   |pp _ b off pub hp hlen hr=>
    cases h2 with
    |bx _ _ _ b2 hn hv hb=>
     obtain⟨_,g1,g2,g3,c,g4,g5,g6⟩:=hA.ob o _ ho
     have hb:=hb g1
     subst hb
     have hc1:c.size=1:=by simpa using g5.symm
     have hl:=(hL w hA.below).ert
     have hcell:w.cell? ⟨(G.ob o).blk,0,none⟩=some c[0]:=by simp [World.cell?,g4,hc1]
     have hfz:w.frozen? ⟨(G.ob o).blk,0,none⟩=false:=by simp [World.frozen?,g4]
     have hlt:(G.ob o).blk<w.heap.size:=(Array.getElem?_eq_some_iff.1 g4).1
     refine (zha ⟨b,off,none⟩ ⟨(G.ob o).blk,0,none⟩ c[0] w hl hcell hfz).mono ?_
     rintro e w' ⟨rfl,rfl⟩
     have hb1:Below w.heap.size w ((((w.alloc (.cells #[.pointer (some ⟨(G.ob o).blk,0,none⟩)] 165)).alloc (.cells #[.pointer (some ⟨9,165,none⟩),.pointer (some ⟨w.heap.size,0,none⟩),.int .u64 150] 233)).alloc (.cells #[.pointer (some ⟨9,165,none⟩),.pointer (some ⟨w.heap.size,0,none⟩),.int .u64 150] 233)).alloc (.cells #[.pointer (some ⟨b,off,none⟩)] 101)):=
      ((((Below.refl _ _).alloc (Nat.le_refl _) _).alloc (by simp) _).alloc (by first|(simp;done)|(simp;omega)) _).alloc (by first|(simp;done)|(simp;omega)) _
     have hA1:=hA.fresh hb1
     obtain⟨_,k1,k2,k3,c',k4,k5,k6⟩:=hA1.ob o _ ho
     have hc1':c'.size=1:=by simpa using k5.symm
     refine⟨.bool true,G,Bv true,_,rfl,.refl G,?_,.v _,rfl,rfl⟩
     rw [q35 _ k4 hc1']
     exact hA1.setRow ho (by simp) fun i x y hx hy=>by
      match i with
      | 0=>simp at hx hy;subst hx;subst hy;exact hpp
      |i+1=>simp at hx
theorem qzh (n:Int) (o:Nat) (st:List AObj) (ho:st[o]? = some (.cells 0 101 [.v (.pointer none)])):qp E 85 [.ifc 76 (Iv n),.ifc 165 (.bx o 0 0)] st fun r st'=>r=Bv false∧st'=st:=by
 refine⟨fun B0 w0 G vals w hL hA hR=>?_⟩
 obtain⟨v1,v2,rfl⟩:∃ x y,vals = #[x,y]:=by
  have:=hR.1
  match vals,this with
  | ⟨[x,y]⟩,_=>exact⟨x,y,rfl⟩
 have h1:=hR.2 0 _ v1 rfl rfl
 have h2:=hR.2 1 _ v2 rfl rfl
 cases h1 with
 |ifc _ _ y1 h1=>
  cases h2 with
  |ifc _ _ y2 h2=>
   cases h1 with
   |v=>
    cases h2 with
    |bx _ _ _ b2 hn hv hb=>
     obtain⟨_,g1,g2,g3,c,g4,g5,g6⟩:=hA.ob o _ ho
     have hb:=hb g1
     subst hb
     have hc1:c.size=1:=by simpa using g5.symm
     have hl:=(hL w hA.below).ert
     have hcell:w.cell? ⟨(G.ob o).blk,0,none⟩=some c[0]:=by simp [World.cell?,g4,hc1]
     refine (ze4 n ⟨(G.ob o).blk,0,none⟩ c[0] w hl hcell).mono ?_
     rintro e w' ⟨rfl,hb⟩
     exact⟨_,G,Bv false,st,rfl,.refl G,hA.fresh hb,.v _,rfl,rfl⟩
end Go.Proofs.YtmoklbacdkmkaaaGreatDoor
namespace Go.Proofs.YtmoklbacdkmkaaaGreatDoor
open Go Go.Av Go.RowKit Go.Extern.Stop Go.Stop Go.Extern Go.Proofs
theorem isT.eqN (n m:Int) (w:World):(binOp .eql 29 (.iface 76 (.int .i64 n)) (.iface 76 (.int .i64 m))).run Tryz.prog w = .ok (.bool (n == m)) w:=Go.Lib.run_eql_iface_int w n m Tryz.underlying29 (by kernel_rfl) Tryz.underlying76
theorem isT.eqF (v:Value) (m:Int) (w:World):(binOp .eql 29 (.iface 101 v) (.iface 76 (.int .i64 m))).run Tryz.prog w = .ok (.bool false) w:=run_eql_iface_types _ _ _ _ Tryz.underlying29 (by decide) w
theorem isT.gd (t u v:TypeId) (a b:Value) (x y:Operand) (w:World):(eqGuard .eql t x y (.iface u a) (.iface v b)).run Tryz.prog w = .ok () w:=by simp [eqGuard]
theorem isT.no1 (v:Value) (xT:TypeId) (w:World):(Instr.typeAssert (.iface 76 v) xT 279 true).run Tryz.prog w = .ok (.tuple #[.nilIface,.bool false]) w:=run_typeAssert_lacksB Tryz.underlying279 (by kernel_rfl) (by kernel_rfl) v xT w
theorem isT.no2 (v:Value) (xT:TypeId) (w:World):(Instr.typeAssert (.iface 101 v) xT 279 true).run Tryz.prog w = .ok (.tuple #[.nilIface,.bool false]) w:=run_typeAssert_lacksB Tryz.underlying279 (by kernel_rfl) (by kernel_rfl) v xT w
theorem isT.no3 (v:Value) (xT:TypeId) (w:World):(Instr.typeAssert (.iface 76 v) xT 282 true).run Tryz.prog w = .ok (.tuple #[.nilIface,.bool false]) w:=run_typeAssert_lacksB Tryz.underlying282 (by kernel_rfl) (by kernel_rfl) v xT w
theorem isT.no4 (v:Value) (xT:TypeId) (w:World):(Instr.typeAssert (.iface 76 v) xT 283 true).run Tryz.prog w = .ok (.tuple #[.nilIface,.bool false]) w:=run_typeAssert_lacksB Tryz.underlying283 (by kernel_rfl) (by kernel_rfl) v xT w
theorem isT.has (v:Value) (xT:TypeId) (w:World):(Instr.typeAssert (.iface 101 v) xT 282 true).run Tryz.prog w = .ok (.tuple #[.iface 101 v,.bool true]) w:=run_typeAssert_hasB Tryz.underlying282 (by kernel_rfl) v xT w
theorem isT.mU (a : Addr) (w : World) : (Go.method 495 101 (.pointer (some a)) "Unwrap").run Tryz.prog w = .ok (313, .pointer (some a)) w := by kernel_rfl
theorem isT.typeOf (v:Value) (w:World):(ReflectliteType.typeOf #[.iface 76 v]).run Tryz.prog w = .ok (.iface 277 (.agg #[.pointer (some ⟨9,76,none⟩)])) w:=by kernel_rfl
theorem isT.mC (h : Value) (w : World) : (Go.method 495 277 (.agg #[h]) "Comparable").run Tryz.prog w = .ok (320, .agg #[h]) w := by kernel_rfl
theorem isT.cmp (w : World) : (ReflectliteType.method (fun t => do Rtype.noPackHeld "Comparable" t; (fun a => Value.bool a.comparable) <$> typeInfo t) #[.agg #[.pointer (some ⟨9, 76, none⟩)]]).run Tryz.prog w = .ok (.bool true) w := by kernel_rfl
set_option maxHeartbeats 4000000 in
theorem q2o (b off:Nat) (v:Value) (w:World) (h1:w.cell? ⟨b,off+1,none⟩=some v) :
  Calls Tryz.prog 313 #[.pointer (some ⟨b,off,none⟩)] w fun ev w'=>ev = .returned v∧w'=w:=by
 go_enter Tryz.func313,Tryz.ntmps313
 go_wp2
 go_ret
 exact⟨rfl,rfl⟩
set_option maxHeartbeats 4000000 in
theorem zit (n m:Int) (w:World):Calls Tryz.prog 149 #[.iface 76 (.int .i64 n),.iface 76 (.int .i64 m),.bool true] w fun ev w'=>ev = .returned (.bool (n == m))∧w'=w:=by
 have q:=isT.eqN n m
 have gd:=isT.gd
 have n1:=isT.no1
 have n3:=isT.no3
 have n4:=isT.no4
 go_enter Tryz.func149,Tryz.ntmps149
 by_cases h:n=m
 ·subst h
  have e:(n == n)=true:=by simp
  rw [e] at q ⊢
  clear e
  go_wp2
  refine wp_loop_rounds 1 ?_
  rw [rounds_succ]
  go_wp2
  go_ret
  exact⟨rfl,rfl⟩
 ·have e:(n == m)=false:=by simpa using h
  rw [e] at q ⊢
  clear e h
  go_wp2
  refine wp_loop_rounds 1 ?_
  rw [rounds_succ]
  go_wp2
  go_ret
  exact⟨rfl,rfl⟩
set_option maxHeartbeats 4000000 in
theorem zis (b off:Nat) (n m:Int) (w:World) (h1:w.cell? ⟨b,off+1,none⟩=some (.iface 76 (.int .i64 n))):Calls Tryz.prog 149 #[.iface 101 (.pointer (some ⟨b,off,none⟩)),.iface 76 (.int .i64 m),.bool true] w fun ev w'=>ev = .returned (.bool (n == m))∧w'=w:=by
 have q:=isT.eqN n m
 have q2:=isT.eqF (.pointer (some ⟨b,off,none⟩)) m
 have gd:=isT.gd
 have n1:=isT.no1
 have n2:=isT.no2
 have n3:=isT.no3
 have n4:=isT.no4
 have hs:=isT.has
 have mU:=isT.mU
 go_enter Tryz.func149,Tryz.ntmps149
 by_cases h:n=m
 ·subst h
  have e:(n == n)=true:=by simp
  rw [e] at q ⊢
  clear e
  go_wp2
  refine wp_loop_rounds 2 ?_
  rw [rounds_succ]
  go_wp2_with (go_at_call 313;refine (q2o b off _ _ h1).mono ?_;rintro e w' ⟨rfl,rfl⟩)
  rw [rounds_succ]
  go_wp2
  go_ret
  exact⟨rfl,rfl⟩
 ·have e:(n == m)=false:=by simpa using h
  rw [e] at q ⊢
  clear e h
  go_wp2
  refine wp_loop_rounds 2 ?_
  rw [rounds_succ]
  go_wp2_with (go_at_call 313;refine (q2o b off _ _ h1).mono ?_;rintro e w' ⟨rfl,rfl⟩)
  rw [rounds_succ]
  go_wp2
  go_ret
  exact⟨rfl,rfl⟩
set_option maxHeartbeats 4000000 in
theorem is_w (v:Value) (t:TypeId) (m:Int) (r:Bool) (w:World) (h1:Calls Tryz.prog 149 #[.iface t v,.iface 76 (.int .i64 m),.bool true] w fun ev w'=>ev = .returned (.bool r)∧w'=w) :
  Calls Tryz.prog 84 #[.iface t v,.iface 76 (.int .i64 m)] w fun ev w'=>ev = .returned (.bool r)∧w'=w:=by
 have h10:=@run_callFunc_extern Tryz.prog 148 _ ReflectliteType.typeOf Tryz.func148 (by kernel_rfl) (by kernel_rfl) (by kernel_rfl) (by kernel_rfl)
 have h11 := @run_callFunc_extern Tryz.prog 320 _ (ReflectliteType.method (fun t => do Rtype.noPackHeld "Comparable" t; pure (.bool (← typeInfo t).comparable))) Tryz.func320 (by kernel_rfl) (by kernel_rfl) (by kernel_rfl) (by kernel_rfl)
 have tO:=isT.typeOf
 have mC:=isT.mC
 have cm:=isT.cmp
 have gd:=isT.gd
 go_enter Tryz.func84,Tryz.ntmps84
 go_wp2_with (go_at_call 149;refine h1.mono ?_;rintro e w' ⟨rfl,rfl⟩)
 go_ret
 exact⟨rfl,rfl⟩
theorem zhk (n m:Int) (st:List AObj):qp E 84 [.ifc 76 (Iv n),.ifc 76 (Iv m)] st fun r st'=>r=Bv (decide (n=m))∧st'=st:=by
 refine⟨fun B0 w0 G vals w hL hA hR=>?_⟩
 obtain⟨v1,v2,rfl⟩:∃ x y,vals = #[x,y]:=by
  have:=hR.1
  match vals,this with
  | ⟨[x,y]⟩,_=>exact⟨x,y,rfl⟩
 have h1:=hR.2 0 _ v1 rfl rfl
 have h2:=hR.2 1 _ v2 rfl rfl
 cases h1 with
 |ifc _ _ y1 h1=>
  cases h2 with
  |ifc _ _ y2 h2=>
   cases h1
   cases h2
   refine (is_w _ _ m (n == m) w (zit n m w)).mono ?_
   rintro e w' ⟨rfl,rfl⟩
   refine⟨.bool (n == m),G,Bv (decide (n=m)),_,rfl,.refl G,hA,?_,rfl,rfl⟩
   have:(n == m)=decide (n=m):=by by_cases h:n=m <;> simp [h]
   rw [this]
   exact .v _
theorem zhj (a n m:Int) (st:List AObj):qp E 84 [qeu a n,.ifc 76 (Iv m)] st fun r st'=>r=Bv (decide (n=m))∧st'=st:=by
 refine⟨fun B0 w0 G vals w hL hA hR=>?_⟩
 obtain⟨v1,v2,rfl⟩:∃ x y,vals = #[x,y]:=by
  have:=hR.1
  match vals,this with
  | ⟨[x,y]⟩,_=>exact⟨x,y,rfl⟩
 have h1:=hR.2 0 _ v1 rfl rfl
 have h2:=hR.2 1 _ v2 rfl rfl
 unfold qeu at h1
 cases h1 with
 |ifc _ _ y1 h1=>
  cases h2 with
  |ifc _ _ y2 h2=>
   cases h2
   cases h1 with
   |pp _ b off pub hp hlen hr=>
    have h0:=hr 1 _ (pub[off+1]'(by simp at hlen;omega)) rfl (by simp)
    obtain⟨c,T',fz,g1,g2⟩:=hA.pub b pub hp
    have g3:=g2 (off+1) _ (List.getElem?_eq_getElem (by simp at hlen;omega))
    generalize pub[off+1]'(by simp at hlen;omega)=y at h0 g3
    cases h0 with
    |ifc _ _ y3 h3=>
     cases h3
     have hcell:w.cell? ⟨b,off+1,none⟩=some (.iface 76 (.int .i64 n)):=by simp [World.cell?,g1,g3]
     refine (is_w _ _ m (n == m) w (zis b off n m w hcell)).mono ?_
     rintro e w' ⟨rfl,rfl⟩
     refine⟨.bool (n == m),G,Bv (decide (n=m)),_,rfl,.refl G,hA,?_,rfl,rfl⟩
     have:(n == m)=decide (n=m):=by by_cases h:n=m <;> simp [h]
     rw [this]
     exact .v _
end Go.Proofs.YtmoklbacdkmkaaaGreatDoor
namespace Go.Pl
open Go Go.Proofs
inductive ErrV where
 |no
 |num (n:Int)
 |at' (a n:Int)
 deriving DecidableEq
def ErrV.code:ErrV→Int
 | .no=>0
 | .num n=>n
 | .at' _ n=>n
def ErrV.pos:ErrV→Int
 | .no=> -9
 | .num _=> -9
 | .at' a _=>a
def xz:Nat→List Fld→ErrV
 | _,[]=>.no
 |k,f::r=>if ve f=0 then xz (k+1) r else .at' k (ve f)
def j7 (fs:List Fld):ErrV:=if fs=[] then .num 2 else if 40<fs.length then .num 11 else xz 0 fs
theorem qn5:∀ (k:Nat) (r:List Fld),(xz k r).code=0↔xz k r = .no
 |k,[]=>by simp [xz,ErrV.code]
 |k,f::r=>by
  unfold xz
  split
  ·exact qn5 _ r
  ·rename_i h
   simp [ErrV.code,h]
theorem qjd (fs:List Fld):(j7 fs).code=0↔j7 fs = .no:=by
 unfold j7
 split
 ·simp [ErrV.code]
 ·split
  ·simp [ErrV.code]
  ·exact qn5 _ _
end Go.Pl
namespace Go.Proofs.YtmoklbacdkmkaaaGreatDoor
open Go Go.Av Go.RowKit Go.Proofs Go.Pl
theorem qu9 {st st':List AObj} (h:∀ k,k<st.length→st'[k]? = st[k]?):∃ ext,st'=st++ext:=by
 refine qmj ?_ h
 rcases Nat.eq_zero_or_pos st.length with h0|h0
 ·omega
 ·have h1:=h (st.length - 1) (by omega)
  have h2:st[st.length - 1]? = some (st[st.length - 1]'(by omega)):=List.getElem?_eq_getElem (by omega)
  have:=lt_of_getElem? (h1.trans h2)
  omega
def gErr (x:qu):ErrV:=if x.kind=2 then (if x.fields=[] then .no else .num 2) else if x.kind=1∨x.kind=3 then j7 x.fields else .num 2
def qaw:Nat→List qu→ErrV
 | _,[]=>.no
 |k,x::r=>if (gErr x).code=0 then qaw (k+1) r else .at' k (gErr x).code
def eErr (b:List qu):ErrV:=if b.length<1∨40<b.length then .num 1 else qaw 0 b
theorem qof (x:qu):(gErr x).code=0↔gErr x = .no:=by
 unfold gErr
 split
 ·split <;> simp [ErrV.code]
 ·split
  ·exact qjd _
  ·simp [ErrV.code]
theorem qsu:∀ (k:Nat) (r:List qu),(qaw k r).code=0↔qaw k r = .no
 |k,[]=>by simp [qaw,ErrV.code]
 |k,f::r=>by
  unfold qaw
  split
  ·exact qsu _ r
  ·rename_i h
   simp [ErrV.code] at h ⊢
   exact h
theorem qdq (b:List qu):(eErr b).code=0↔eErr b = .no:=by
 unfold eErr
 split
 ·simp [ErrV.code]
 ·exact qsu _ _
def errA:ErrV→AV
 | .no=>.v .nilIface
 | .num n=>.ifc 76 (Iv n)
 | .at' a n=>.ifc 101 (.pp [Iv a,.ifc 76 (Iv n)])
theorem vl (e:ErrV):Pure (errA e):=by
 cases e with
 |no=>exact qs _
 |num n=>exact qc7 (qs _)
 |at' a n=>exact qk7 a n
def KeyB (fs:List Fld):Prop:=∀ f∈fs,f.1.length<4294967281
theorem q0e {fs:List Fld} {i:Nat} {x:Fld} (h:fs[i]? = some x):(fs.map fldA)[i]? = some (fldA x):=by simp [h]
theorem qwo {b:List qu} {i:Nat} {x:qu} (h:b[i]? = some x):(b.map ji)[i]? = some (ji x):=by simp [h]
theorem qwb {fs:List Fld} (h:¬ 0<fs.length):j7 fs = .num 2:=if_pos (List.length_eq_zero_iff.1 (by omega))
theorem qsm {fs:List Fld} (h:40<fs.length):j7 fs = .num 11:=(if_neg fun h0=>by simp [h0] at h).trans (if_pos h)
theorem qwc {fs:List Fld} (h0:0<fs.length) (h:¬ 40<fs.length):j7 fs=xz 0 fs:=(if_neg (List.length_pos_iff.1 h0)).trans (if_neg h)
theorem qm2 (fs:List Fld) (st:List AObj) (e:ErrV) (h:j7 fs=e) (hK:KeyB fs) (hl:fs.length<9223372036854775808):qp E 185 [jw fs] st fun r st'=>r=errA e∧st'=st:=by
 subst h
 refine zl [.a (jw fs)] (vl _) Tryz.func185 rfl rfl (fun _=>rfl) rfl fun S0=>?_
 have hml:(fs.map fldA).length=fs.length:=by simp
 apply qe []
 repeat' (first|apply And.intro|(intro h;try exact cDd)|exact cSd|apply qc []|refine exr ?_|refine qi ?_)
 ·rw [qwb (by omega)];rfl
 ·rw [qsm (by omega)];rfl
 rw [qwc (by omega) (by omega)]
 refine jf (X:=Nat) (fun k=>⟨[(16,.a (jw fs)),(17,.i (fs.map fldA).length),(18,.i k)],[],0⟩) (fun k=>k≤fs.length∧xz k (fs.drop k)=xz 0 fs) (fun k=>fs.length - k) 0 ⟨by omega,rfl⟩ ?_ ?_
 ·skip
  repeat' (first|apply And.intro|(intro h;try exact cDd)|exact cSd|apply qc []|refine exr ?_|refine qi ?_)
 ·rintro k ⟨hk,hc⟩
  by_cases hlt:k<fs.length
  ·obtain⟨y,hy⟩:∃ y,fs[k]? = some y:=⟨_,List.getElem?_eq_getElem hlt⟩
   have hget:=q0e hy
   have hky:=hK y (List.mem_of_getElem? hy)
   obtain⟨_,hye⟩:=List.getElem?_eq_some_iff.1 hy
   rw [List.drop_eq_getElem_cons hlt,hye,xz] at hc
   rw [← hc]
   by_cases ha:ve y=0
   ·have hc4:=fun st=>qji y st hky ha
    apply qe [4]
    repeat' (first|apply And.intro|(intro h;try exact cDd)|(refine Exists.intro (k) ⟨by omega,_,hget,?_⟩)|exact⟨Tryz.call226⟩|refine cpe hc4 ?_|(refine Exists.intro (k+1) ⟨⟨by omega,by simp_all⟩,by omega,?_⟩)|exact cSd|apply qc [4]|refine exr ?_|refine qi ?_)
   ·have hc4:=fun st=>qjj y st hky ha
    rw [if_neg ha]
    apply qe [4]
    repeat' (first|apply And.intro|(intro h;try exact cDd)|(refine Exists.intro (k) ⟨by omega,_,hget,?_⟩)|exact⟨Tryz.call226⟩|refine cpe hc4 ?_|exact cSd|apply qc [4]|refine exr ?_|refine qi ?_)
  ·rw [List.drop_eq_nil_of_le (by omega),xz] at hc
   rw [← hc]
   apply qe []
   repeat' (first|apply And.intro|(intro h;try exact cDd)|exact cSd|apply qc []|refine exr ?_|refine qi ?_)
theorem zfp (x:qu) (st:List AObj) (e:ErrV) (h:gErr x=e) (hK:KeyB x.fields) (hl:x.fields.length<9223372036854775808):qp E 129 [ji x] st fun r st'=>r=errA e∧st'=st:=by
 subst h
 refine zl [.a (ji x)] (vl _) Tryz.func129 rfl rfl (fun _=>rfl) rfl fun S0=>?_
 have hml:(x.fields.map fldA).length=x.fields.length:=by simp
 have hpos:x.fields=[]↔x.fields.length=0:=by simp
 have hc6:=fun st=>qm2 x.fields st _ rfl hK hl
 unfold gErr
 simp only [hpos]
 generalize j7 x.fields=e at *
 cases e
 all_goals apply qe [1]
 repeat' (first|apply And.intro|(intro h;try exact cDd)|exact⟨Tryz.call185⟩|refine cpe hc6 ?_|exact cSd|apply qc [1]|refine exr ?_|refine qi ?_)
 all_goals clear hc6
 all_goals grind [errA]
theorem zct (n:Int) (st:List AObj):qp E 134 [.ifc 76 (Iv n)] st fun r st'=>r = .ifc 76 (Iv n)∧st'=st:=by
 refine qx (qc7 (qs _)) (qq Tryz.func134 rfl (Nat.le_of_ble_eq_true rfl) ?_)
 repeat' (first|apply qn|apply qf|apply qh|apply qj|apply qg|(apply qd;exact rfl;apply cd_f;exact cRa)|(apply kg;exact rfl;exact rfl)|(apply jm;exact rfl;exact rfl)|apply qv|apply qt|(apply qk;exact Tryz.call85;exact qzh _ (st.length+0) _ (jo rfl)))
 exact qo rfl (q5 rfl) ⟨rfl,_,rfl⟩
theorem zcs (a n:Int) (st:List AObj):qp E 134 [qeu a n] st fun r st'=>r = .ifc 76 (Iv n)∧st'=st:=by
 refine qx (qc7 (qs _)) (qq Tryz.func134 rfl (Nat.le_of_ble_eq_true rfl) ?_)
 repeat' (first|apply qn|apply qf|apply qh|apply qj|apply qg|(apply qd;exact rfl;apply cd_t;exact cRa)|(apply kg;exact rfl;exact rfl)|(apply jm;exact rfl;exact rfl)|(apply qav;(iterate 4 exact rfl))|(apply zy;(iterate 3 exact rfl))|(apply xl;exact rfl;exact rfl)|apply qt|(apply qk;exact Tryz.call85;exact q4k a n (st.length+0) _ (jo rfl))|(apply vd;exact rfl;(focus first|assumption|(repeat' (first|assumption|exact xm|exact jo rfl|apply kq|apply vg|omega|apply qcc)));exact rfl;exact rfl))
 exact qo rfl (q5 rfl) ⟨rfl,qu9 fun j hj=>(qqe (by omega)).trans (List.getElem?_append_left hj)⟩
theorem qq3 (k:Int) (e:ErrV) (st:List AObj) (he:e.code≠0):qp E 74 [Iv k,errA e] st fun r st'=>r=errA (.at' k e.code)∧st'=st:=by
 refine qx (vl _) (qq Tryz.func74 rfl (Nat.le_of_ble_eq_true rfl) ?_)
 cases e with
 |no=>exact absurd rfl he
 |num n=>
  repeat' (first|(apply qnu;(iterate 3 exact rfl))|apply qn|apply qf|apply qh|apply qj|apply qg|(apply kg;exact rfl;exact rfl)|(apply vu;(iterate 3 exact rfl))|apply qt|(apply qk;exact Tryz.call134;exact zct _ _))
  exact qo rfl (q5 rfl) ⟨rfl,_,rfl⟩
 |at' a n=>
  repeat' (first|(apply qnu;(iterate 3 exact rfl))|apply qn|apply qf|apply qh|apply qj|apply qg|(apply kg;exact rfl;exact rfl)|(apply vu;(iterate 3 exact rfl))|apply qt|(apply qk;exact Tryz.call134;exact zcs a n _))
  exact qo rfl (q5 rfl) ⟨rfl,_,rfl⟩
structure EdB (x:qu):Prop where
 keys:KeyB x.fields
 len:x.fields.length<9223372036854775808
 id1 : -9223372036854775808≤x.id
 id2:x.id≤9223372036854775807
@[reducible] def jg (b : List qu) : AV := .sl 3 (b.map ji) none
theorem qmg (b:List qu) (st:List AObj) (e:ErrV) (h:eErr b=e) (hB:∀ x∈b,EdB x) (hl:b.length<9223372036854775808):qp E 71 [jg b] st fun r st'=>r=errA e∧st'=st:=by
 subst h
 refine zl [.a (jg b)] (vl _) Tryz.func71 rfl rfl (fun _=>rfl) rfl fun S0=>?_
 have hml:(b.map ji).length=b.length:=by simp
 have h1:b.length<1∨40<b.length→eErr b = .num 1:=fun h=>if_pos h
 have hr:¬ (b.length<1∨40<b.length)→eErr b=qaw 0 b:=fun h=>if_neg h
 apply qe []
 repeat' (first|apply And.intro|(intro h;try exact cDd)|exact cSd|apply qc []|refine exr ?_|refine qi ?_)
 ·rw [h1 (by omega)];rfl
 ·rw [h1 (by omega)];rfl
 rw [hr (by omega)]
 refine jf (X:=Nat) (fun k=>⟨[(15,.a (jg b)),(16,.i (b.map ji).length),(17,.i k)],[],0⟩) (fun k=>k≤b.length∧qaw k (b.drop k)=qaw 0 b) (fun k=>b.length - k) 0 ⟨by omega,rfl⟩ ?_ ?_
 ·skip
  repeat' (first|apply And.intro|(intro h;try exact cDd)|exact cSd|apply qc []|refine exr ?_|refine qi ?_)
 ·rintro k ⟨hk,hc⟩
  by_cases hlt:k<b.length
  ·obtain⟨y,hy⟩:∃ y,b[k]? = some y:=⟨_,List.getElem?_eq_getElem hlt⟩
   have hget:=qwo hy
   have hky:=hB y (List.mem_of_getElem? hy)
   obtain⟨_,hye⟩:=List.getElem?_eq_some_iff.1 hy
   rw [List.drop_eq_getElem_cons hlt,hye,qaw] at hc
   have hc9:=fun st=>zfp y st _ rfl hky.keys hky.len
   have hcf:=fun st=>qq3 k (gErr y) st
   rw [← hc]
   cases hg:gErr y
   all_goals rw [hg] at hc hc9 hcf
   ·apply qe [4]
    repeat' (first|apply And.intro|(intro h;try exact cDd)|(refine Exists.intro (k) ⟨by omega,_,hget,?_⟩)|exact⟨Tryz.call129⟩|refine cpe hc9 ?_|(refine Exists.intro (k+1) ⟨⟨by omega,(if_pos rfl).symm⟩,by omega,?_⟩)|exact cSd|apply qc [4]|refine exr ?_|refine qi ?_)
   all_goals have hgc:=fun h=>qof y |>.1 h
   all_goals rw [hg] at hgc
   all_goals rw [if_neg fun h=>nomatch hgc h]
   ·have hcg:=fun st=>hcf st fun h=>nomatch hgc h
    apply qe [4]
    repeat' (first|apply And.intro|(intro h;try exact cDd)|(refine Exists.intro (k) ⟨by omega,_,hget,?_⟩)|exact⟨Tryz.call129⟩|refine cpe hc9 ?_|exact⟨Tryz.call74⟩|refine cpe hcg ?_|exact cSd|apply qc [4]|refine exr ?_|refine qi ?_)
   ·have hcg:=fun st=>hcf st fun h=>nomatch hgc h
    apply qe [4]
    repeat' (first|apply And.intro|(intro h;try exact cDd)|(refine Exists.intro (k) ⟨by omega,_,hget,?_⟩)|exact⟨Tryz.call129⟩|refine cpe hc9 ?_|exact⟨Tryz.call74⟩|refine cpe hcg ?_|exact cSd|apply qc [4]|refine exr ?_|refine qi ?_)
  ·rw [List.drop_eq_nil_of_le (by omega),qaw] at hc
   rw [← hc]
   apply qe []
   repeat' (first|apply And.intro|(intro h;try exact cDd)|exact cSd|apply qc []|refine exr ?_|refine qi ?_)
theorem q5g (a b:Int):Pure (.tu [Iv a,Iv b]):=kj (qs _) (qs _)
theorem qjt (fs:List Fld) (st:List AObj) (hK:KeyB fs) (hl:fs.length<9223372036854775808):qp E 224 [jw fs] st fun r st'=>r = .tu [Iv (j7 fs).pos,Iv (j7 fs).code]∧st'=st:=by
 refine zl [.a (jw fs)] (q5g _ _) Tryz.func224 rfl rfl (fun _=>rfl) rfl fun S0=>?_
 have hml:(fs.map fldA).length=fs.length:=by simp
 apply qe []
 repeat' (first|apply And.intro|(intro h;try exact cDd)|exact cSd|apply qc []|refine exr ?_|refine qi ?_)
 ·rw [qwb (by omega)];rfl
 ·rw [qsm (by omega)];rfl
 rw [qwc (by omega) (by omega)]
 refine jf (X:=Nat) (fun k=>⟨[(0,.a (jw fs)),(4,.i k)],[],0⟩) (fun k=>k≤fs.length∧xz k (fs.drop k)=xz 0 fs) (fun k=>fs.length - k) 0 ⟨by omega,rfl⟩ ?_ ?_
 ·skip
  repeat' (first|apply And.intro|(intro h;try exact cDd)|exact cSd|apply qc []|refine exr ?_|refine qi ?_)
 ·rintro k ⟨hk,hc⟩
  by_cases hlt:k<fs.length
  ·obtain⟨y,hy⟩:∃ y,fs[k]? = some y:=⟨_,List.getElem?_eq_getElem hlt⟩
   have hget:=q0e hy
   have hky:=hK y (List.mem_of_getElem? hy)
   obtain⟨_,hye⟩:=List.getElem?_eq_some_iff.1 hy
   rw [List.drop_eq_getElem_cons hlt,hye,xz] at hc
   have hc4:=fun st=>q1x y st hky
   rw [← hc]
   apply qe []
   repeat' (first|apply And.intro|(intro h;try exact cDd)|(refine Exists.intro (k) ⟨by omega,_,hget,?_⟩)|exact⟨Tryz.call259⟩|refine cpe hc4 ?_|(refine Exists.intro (k+1) ⟨⟨by omega,by simp_all⟩,by omega,?_⟩)|exact cSd|apply qc []|refine exr ?_|refine qi ?_)
   all_goals (rw [if_neg (by assumption)];rfl)
  ·rw [List.drop_eq_nil_of_le (by omega),xz] at hc
   rw [← hc]
   apply qe []
   repeat' (first|apply And.intro|(intro h;try exact cDd)|exact cSd|apply qc []|refine exr ?_|refine qi ?_)
theorem q3t (x:qu) (st:List AObj) (hK:EdB x):qp E 182 [ji x] st fun r st'=>r=Iv (gErr x).code∧st'=st:=by
 refine zl [.a (ji x)] (qs _) Tryz.func182 rfl rfl (fun _=>rfl) rfl fun S0=>?_
 have hml:(x.fields.map fldA).length=x.fields.length:=by simp
 have hpos:x.fields=[]↔x.fields.length=0:=by simp
 have hc6:=fun st=>qjt x.fields st hK.keys hK.len
 have hg:(gErr x).code=if x.kind=2 then (if x.fields.length=0 then 0 else 2) else if x.kind=1∨x.kind=3 then (j7 x.fields).code else 2:=by
  unfold gErr
  simp only [apply_ite ErrV.code,hpos]
  rfl
 rw [hg]
 generalize (j7 x.fields).code=c at *
 apply qe [1]
 repeat' (first|apply And.intro|(intro h;try exact cDd)|exact⟨Tryz.call224⟩|refine cpe hc6 ?_|exact cSd|apply qc [1]|refine exr ?_|refine qi ?_)
 all_goals clear hc6
 all_goals refine congrArg Iv ?_
 all_goals omega
theorem qo0 (b:List qu) (st:List AObj) (hB:∀ x∈b,EdB x) (hl:b.length<9223372036854775808):qp E 124 [jg b] st fun r st'=>r = .tu [Iv (eErr b).pos,Iv (eErr b).code]∧st'=st:=by
 refine zl [.a (jg b)] (q5g _ _) Tryz.func124 rfl rfl (fun _=>rfl) rfl fun S0=>?_
 have hml:(b.map ji).length=b.length:=by simp
 have h1:b.length<1∨40<b.length→eErr b = .num 1:=fun h=>if_pos h
 have hr:¬ (b.length<1∨40<b.length)→eErr b=qaw 0 b:=fun h=>if_neg h
 apply qe []
 repeat' (first|apply And.intro|(intro h;try exact cDd)|exact cSd|apply qc []|refine exr ?_|refine qi ?_)
 ·rw [h1 (by omega)];rfl
 ·rw [h1 (by omega)];rfl
 rw [hr (by omega)]
 refine jf (X:=Nat) (fun k=>⟨[(0,.a (jg b)),(4,.i k)],[],0⟩) (fun k=>k≤b.length∧qaw k (b.drop k)=qaw 0 b) (fun k=>b.length - k) 0 ⟨by omega,rfl⟩ ?_ ?_
 ·skip
  repeat' (first|apply And.intro|(intro h;try exact cDd)|exact cSd|apply qc []|refine exr ?_|refine qi ?_)
 ·rintro k ⟨hk,hc⟩
  by_cases hlt:k<b.length
  ·obtain⟨y,hy⟩:∃ y,b[k]? = some y:=⟨_,List.getElem?_eq_getElem hlt⟩
   have hget:=qwo hy
   have hky:=hB y (List.mem_of_getElem? hy)
   obtain⟨_,hye⟩:=List.getElem?_eq_some_iff.1 hy
   rw [List.drop_eq_getElem_cons hlt,hye,qaw] at hc
   have hc9:=fun st=>q3t y st hky
   rw [← hc]
   apply qe []
   repeat' (first|apply And.intro|(intro h;try exact cDd)|(refine Exists.intro (k) ⟨by omega,_,hget,?_⟩)|exact⟨Tryz.call182⟩|refine cpe hc9 ?_|(refine Exists.intro (k+1) ⟨⟨by omega,by simp_all⟩,by omega,?_⟩)|exact cSd|apply qc []|refine exr ?_|refine qi ?_)
   all_goals (rw [if_neg (by assumption)];rfl)
  ·rw [List.drop_eq_nil_of_le (by omega),qaw] at hc
   rw [← hc]
   apply qe []
   repeat' (first|apply And.intro|(intro h;try exact cDd)|exact cSd|apply qc []|refine exr ?_|refine qi ?_)
def okE:ErrV→Prop
 | .no=>True
 | .num n=>n≠0
 | .at' _ n=>n≠0
theorem zh1 (e:ErrV) (st:List AObj) (he:okE e):qp E 14 [errA e] st fun r st'=>r=Iv e.code∧st'=st:=by
 refine qx (qs _) (qq Tryz.func14 rfl (Nat.le_of_ble_eq_true rfl) ?_)
 cases e with
 |no=>
  repeat' (first|apply qn|apply qw|apply qf|apply qh|apply qj|apply qg)
  refine ju (fun (k:Unit) s=>StA [(0,.v .nilIface),(7,Iv 0)] (st++[]) [] s) (fun k=>0) () (jb ⟨rfl,rfl,trivial⟩) ?_
  rintro k _ ⟨t,rfl⟩
  repeat' (first|apply qn|apply qw|apply qf|apply qh|apply qj|apply qg|(apply qr;(iterate 3 exact rfl))|(apply qd;exact rfl;apply ku;exact cAo)|(apply qd;exact rfl;apply cd_t;exact cRa)|(apply qe0;exact rfl;exact rfl)|apply qv|apply qt)
  exact qo rfl (q5 rfl) ⟨rfl,_,rfl⟩
 |num n=>
  have hk:n≠0:=he
  repeat' (first|apply qn|apply qw|apply qf|apply qh|apply qj|apply qg)
  refine ju (fun (k:Unit) s=>StA [(0,errA (.num n)),(7,Iv 0)] (st++[]) [] s) (fun k=>0) () (jb ⟨rfl,rfl,trivial⟩) ?_
  rintro k _ ⟨t,rfl⟩
  repeat' (first|apply qn|apply qw|apply qf|apply qh|apply qj|apply qg|(apply zf;exact rfl;exact rfl)|(apply qr;(iterate 3 exact rfl))|(apply qy;(iterate 4 exact rfl))|(apply qab;exact cRa)|(apply ql;exact rfl;apply pk_t;exact cRa)|(apply qd;exact rfl;apply ku;exact cAo)|(apply qd;exact rfl;apply cd_f;exact cRa)|(apply qbg;exact rfl;exact rfl)|apply qv|apply qt|(apply qd4;(iterate 3 exact rfl)))
  exact qo rfl (q5 rfl) ⟨rfl,_,rfl⟩
 |at' a n=>
  have hk:n≠0:=he
  repeat' (first|apply qn|apply qw|apply qf|apply qh|apply qj|apply qg)
  refine ju (fun (j:Nat) s=>(j=0∧StA [(0,errA (.at' a n)),(7,Iv 0)] (st++[]) [] s)∨(j=1∧StA [(0,errA (.num n)),(7,Iv 1)] (st++[]) [] s)) (fun j=>1 - j) 0 (.inl ⟨rfl,jb ⟨rfl,rfl,trivial⟩⟩) ?_
  rintro j _ (⟨rfl,t,rfl⟩ | ⟨rfl,t,rfl⟩)
  ·skip
   repeat' (first|apply qn|apply qw|apply qf|apply qh|apply qj|apply qg|(apply zf;exact rfl;exact rfl)|(apply qr;(iterate 3 exact rfl))|(apply je;exact rfl)|(apply qy;(iterate 4 exact rfl))|(apply qao;exact cRa)|(apply qfe;exact cRa)|(apply xi;exact cRa)|(apply ql;exact rfl;apply qe6;exact cRa)|(apply ql;exact rfl;apply pk_f;exact cRa)|(apply qd;exact rfl;apply ku;exact cAo)|(apply qd;exact rfl;apply cd_f;exact cRa)|(apply zi;exact rfl;exact rfl;exact q8 (by omega) (by omega))|(apply qbg;exact rfl;exact rfl)|(apply qav;(iterate 4 exact rfl))|(apply zy;(iterate 3 exact rfl))|(apply xl;exact rfl;exact rfl)|(apply qc9;(iterate 3 exact rfl))|apply qv|(apply qj4;(iterate 5 exact rfl))|(apply qd4;(iterate 3 exact rfl)))
   exact⟨1,.inr ⟨rfl,jb ⟨rfl,rfl,trivial⟩⟩,by omega⟩
  ·skip
   repeat' (first|apply qn|apply qw|apply qf|apply qh|apply qj|apply qg|(apply zf;exact rfl;exact rfl)|(apply qr;(iterate 3 exact rfl))|(apply qy;(iterate 4 exact rfl))|(apply qab;exact cRa)|(apply ql;exact rfl;apply pk_t;exact cRa)|(apply qd;exact rfl;apply ku;exact cAo)|(apply qd;exact rfl;apply cd_f;exact cRa)|(apply qbg;exact rfl;exact rfl)|apply qv|apply qt|(apply qd4;(iterate 3 exact rfl)))
   exact qo rfl (q5 rfl) ⟨rfl,_,rfl⟩
theorem zin (e:ErrV) (st:List AObj):qp E 15 [errA e] st fun r st'=>r=Iv e.pos∧st'=st:=by
 refine qx (qs _) (qq Tryz.func15 rfl (Nat.le_of_ble_eq_true rfl) ?_)
 cases e with
 |no=>
  repeat' (first|apply qn|apply qf|apply qh|apply qj|apply qg|(apply zf;exact rfl;exact rfl)|(apply qy;(iterate 4 exact rfl))|(apply xi;exact cRa)|(apply ql;exact rfl;apply pk_f;exact cRa)|(apply qd;exact rfl;apply cd_f;exact cRa)|apply qv|apply qt|(apply qup;(iterate 4 exact rfl)))
  exact qo rfl (q5 rfl) ⟨rfl,_,rfl⟩
 |num n=>
  repeat' (first|apply qn|apply qf|apply qh|apply qj|apply qg|(apply zf;exact rfl;exact rfl)|(apply qy;(iterate 4 exact rfl))|(apply xi;exact cRa)|(apply ql;exact rfl;apply pk_f;exact cRa)|(apply qd;exact rfl;apply cd_f;exact cRa)|apply qv|apply qt|(apply qj4;(iterate 5 exact rfl)))
  exact qo rfl (q5 rfl) ⟨rfl,_,rfl⟩
 |at' a n=>
  repeat' (first|apply qn|apply qf|apply qh|apply qj|apply qg|(apply zf;exact rfl;exact rfl)|(apply qy;(iterate 4 exact rfl))|(apply qab;exact cRa)|(apply ql;exact rfl;apply pk_t;exact cRa)|(apply qd;exact rfl;apply qkd;exact cRa)|(apply qav;(iterate 4 exact rfl))|(apply zy;(iterate 3 exact rfl))|(apply xl;exact rfl;exact rfl)|(apply qhz;(iterate 3 exact rfl))|apply qt|(apply qd4;(iterate 3 exact rfl)))
  exact qo rfl (q5 rfl) ⟨rfl,_,rfl⟩
def ke (x:qu):Bytes:=kf x++[10]++qaf [32,32] (zq x.fields)
def encF (b:List qu):Bytes:=b.flatMap ke
theorem qz3 (a b:List qu):encF (a++b)=encF a++encF b:=by simp [encF]
theorem qz4 (x:qu):encF [x]=ke x:=by simp [encF]
theorem qso:∀ (k:Nat) (r:List Fld),xz k r = .no↔∀ f∈r,ka f
 |k,[]=>by simp [xz]
 |k,f::r=>by
  unfold xz
  split
  ·rename_i h
   rw [qso (k+1) r]
   have:=(qde f).1 h
   simp [this]
  ·rename_i h
   have h2:¬ ka f:=fun g=>h ((qde f).2 g)
   simp [h2]
theorem qgh {fs:List Fld} (h:j7 fs = .no):fs≠[]∧fs.length≤40∧∀ f∈fs,ka f:=by
 unfold j7 at h
 split at h
 ·exact absurd h (by simp)
 ·split at h
  ·exact absurd h (by simp)
  ·exact⟨by assumption,by omega,(qso _ _).1 h⟩
theorem qi2 {x:qu} (h:gErr x = .no):x.fields.length≤40∧∀ f∈x.fields,ka f:=by
 unfold gErr at h
 split at h
 ·split at h
  ·rename_i h0;rw [h0];simp
  ·exact absurd h (by simp)
 ·split at h
  ·exact (qgh h).2
  ·exact absurd h (by simp)
theorem qz1:∀ (k:Nat) (b:List qu),qaw k b = .no↔∀ x∈b,gErr x = .no
 |k,[]=>by simp [qaw]
 |k,x::b=>by
  unfold qaw
  split
  ·rename_i h
   rw [qz1 (k+1) b]
   have:=(qof x).1 h
   simp [this]
  ·rename_i h
   have h2:¬ gErr x = .no:=fun g=>h ((qof x).2 g)
   simp [h2]
theorem qck {b:List qu} (h:eErr b = .no):1≤b.length∧b.length≤40∧∀ x∈b,gErr x = .no:=by
 unfold eErr at h
 split at h
 ·exact absurd h (by simp)
 ·exact⟨by omega,by omega,(qz1 _ _).1 h⟩
theorem qs8 {fs:List Fld} (hl:fs.length≤40) (h:∀ f∈fs,ka f):qyg fs:=⟨by omega,fun f hf=>by
 have:=h f hf
 have h1:=this.1.2.1
 have h2:=this.2
 omega⟩
theorem qs5 (xs:List FldV) (st:List AObj) (hl:xs.length≤40) (h:∀ f∈xs,ka f):qp E 135 [jw xs] st fun r st'=>r = .tu [Sv (zq xs),.v .nilIface]∧st'=st:=by
 have:=zho xs st (qs8 hl h)
 unfold qs3 at this
 have h0:=(qoa xs).2 h
 rw [if_pos h0,h0] at this
 exact this
theorem qk8 (l:Bytes):(qaf [32,32] l).length≤3 * l.length:=by
 unfold qaf
 obtain⟨h1,h2⟩:=qft _ l (Nat.le_refl _)
 have:=qmp [32,32] (zr l)
 simp only [List.length_cons,List.length_nil] at this
 omega
theorem qol (x:qu) (h1 : -9223372036854775808≤x.id) (h2:x.id≤9223372036854775807):(kf x).length≤100:=by
 have hn:=Lib.itoa_length_le x.id h1 h2
 unfold kf yr
 split
 ·split
  ·simp;omega
  ·split
   ·simp;omega
   ·split <;> simp <;> omega
 ·simp
theorem q6r {x:qu} (hB:EdB x) (h:gErr x = .no):(ke x).length≤700000:=by
 obtain⟨hl,hg⟩:=qi2 h
 have h1:=qfr x.fields hg
 have h2:=qk8 (zq x.fields)
 have h3:=qol x hB.id1 hB.id2
 unfold ke
 simp only [List.length_append,List.length_cons,List.length_nil]
 omega
theorem qmi:∀ (b:List qu),(∀ x∈b,EdB x)→(∀ x∈b,gErr x = .no)→(encF b).length≤700000 * b.length
 | [],_,_=>by simp [encF]
 |x::r,hB,h=>by
  have ih:=qmi r (fun y hy=>hB y (by simp [hy])) (fun y hy=>h y (by simp [hy]))
  have h1:=q6r (hB x (by simp)) (h x (by simp))
  have e:encF (x::r)=ke x++encF r:=by simp [encF]
  rw [e,List.length_append,List.length_cons]
  omega
set_option maxHeartbeats 2000000 in
theorem qwq (b:List qu) (st:List AObj) (hB:∀ x∈b,EdB x) (he:eErr b = .no):qp E 75 [jg b] st fun r st'=>r = .tu [Sv (encF b),.v .nilIface]∧st'=st:=by
 refine qx (kj (qs _) (qs _)) (qq Tryz.func75 rfl (Nat.le_of_ble_eq_true rfl) ?_)
 have hml:(b.map ji).length=b.length:=by simp
 obtain⟨hb1,hb40,hg⟩:=qck he
 have hel:=qmi b hB hg
 repeat' (first|(apply qha;exact rfl)|apply qn|apply qw|apply qf|apply qh|apply qj|apply qg|(apply qd;exact rfl;apply cd_f;exact cRa)|(apply zw;(iterate 4 exact rfl))|(apply vt;exact rfl;exact rfl)|apply qv|(apply qk;exact Tryz.call71;exact qmg _ _ _ he hB (by omega)))
 refine ye b (fun pre s=>∃ q,(q = .v (.pointer none)∨q = .bx (st.length+0) 0 0)∧StE [(5,.bx (st.length+0) 0 0),(15,jg b),(16,Iv b.length),(17,Iv pre.length)] st [bldO 0 q (encF pre) (st.length+1),.tip (encF pre).length 1 5] s) ⟨_,.inl rfl,qbj ⟨rfl,rfl,congrArg (fun n:Nat=>Iv (n:Int)) hml,rfl,trivial⟩ rfl⟩ ?_ ?_
 ·rintro _ ⟨q,hq,t,ext,rfl⟩
  repeat' (first|apply qn|apply qf|apply qh|apply qg|(apply qr;(iterate 3 exact rfl))|(apply qd;exact rfl;apply vc;exact cAo)|apply z4|apply qt|(refine qk Tryz.call139 (qhc st _ _ _ _ 0 1 0 _ _ rfl rfl rfl) ?_))
  exact qo rfl (ki rfl) ⟨rfl,x2 _ _ _ _⟩
 ·rintro pre x rest _ hr ⟨q,hq,t,ext,rfl⟩
  have hlen:b.length=pre.length+(rest.length+1):=by rw [hr];simp
  have hget:(b.map ji)[pre.length]? = some (ji x):=by rw [hr];simp
  have hxb:=hB x (by rw [hr];simp)
  have hxg:=hg x (by rw [hr];simp)
  obtain⟨hfl,hfg⟩:=qi2 hxg
  have hpl:=qmi pre (fun y hy=>hB y (by rw [hr];simp [hy])) (fun y hy=>hg y (by rw [hr];simp [hy]))
  have hll:=qol x hxb.id1 hxb.id2
  have hfo:=qfr x.fields hfg
  have hin:=qk8 (zq x.fields)
  repeat' (first|apply qn|apply qw|apply qf|apply qh|apply qj|apply qg|(apply zf;exact rfl;exact rfl)|(apply qr;(iterate 3 exact rfl))|(apply qd;exact rfl;apply ku;exact cAo)|(apply qd;exact rfl;apply cd_f;exact cRa)|(apply jc;exact rfl;exact rfl;exact cOs)|(apply vt;exact rfl;exact rfl)|(apply jm;exact rfl;exact rfl)|(apply zj;(iterate 3 exact rfl))|(apply zy;(iterate 3 exact rfl))|(apply jl;(iterate 5 exact rfl))|(apply zz;(iterate 11 exact rfl))|(apply kw;(iterate 9 exact rfl))|apply qv|(apply qk;exact Tryz.call135;exact qs5 _ _ hfl hfg)|(apply qk;exact Tryz.call137;exact zhu _ _ hxb.id1 hxb.id2)|(apply qk;exact Tryz.call138;exact zc2 _ _ _ (by omega) (by decide))|(apply z8 (n:=pre.length);(iterate 5 exact rfl);exact hget))
  refine qk Tryz.call136 (qie st _ _ _ _ 0 1 0 _ _ _ rfl rfl ?_ ?_ rfl) ?_;(exact hq);(simp only [List.length_append,List.length_cons,List.length_nil];omega)
  repeat' (first|apply qf|apply qh|apply qj|(apply zi;exact rfl;exact rfl;exact q8 (by omega) (by omega)))
  refine⟨_,.inr rfl,xp ⟨rfl,rfl,rfl,?_,trivial⟩ ?_⟩
  ·rw [yt pre x];rfl
  ·have e:encF (pre++[x])=encF pre++((kf x++[10])++qaf [32,32] (zq x.fields)):=by rw [qz3,qz4];rfl
   rw [e];rfl
theorem qki (b:List qu) (st:List AObj) (e:ErrV) (hB:∀ x∈b,EdB x) (hl:b.length<9223372036854775808) (he:eErr b=e) (h0:e.code≠0):qp E 75 [jg b] st fun r st'=>r = .tu [Sv [],errA e]∧st'=st:=by
 refine qx (kj (qs _) (vl _)) (qq Tryz.func75 rfl (Nat.le_of_ble_eq_true rfl) ?_)
 cases e with
 |no=>exact absurd rfl h0
 |num n=>
  repeat' (first|apply qn|apply qf|apply qh|apply qj|apply qg|(apply qd;exact rfl;apply cd_t;exact cRa)|(apply wt;exact rfl;exact rfl)|apply qt|(apply qk;exact Tryz.call71;exact qmg _ _ _ he hB hl))
  exact qo rfl (ki rfl) ⟨rfl,_,rfl⟩
 |at' a n=>
  repeat' (first|apply qn|apply qf|apply qh|apply qj|apply qg|(apply qd;exact rfl;apply cd_t;exact cRa)|(apply wt;exact rfl;exact rfl)|apply qt|(apply qk;exact Tryz.call71;exact qmg _ _ _ he hB hl))
  exact qo rfl (ki rfl) ⟨rfl,_,rfl⟩
end Go.Proofs.YtmoklbacdkmkaaaGreatDoor
namespace Go.Av
open Go Go.RowKit
theorem qrw {b:Nat} {st l:List AObj} {sz:Nat} {T:TypeId} {xs:List AV} {c:AV} (h:TipO b st sz T xs c):TipO b (st++l) sz T xs c:=by
 rcases h with h|h
 ·exact .inl (qj0 h)
 ·exact .inr h
theorem q5n {b:Nat} {st st':List AObj} {sz:Nat} {T:TypeId} {xs:List AV} {c:AV} (hs:∀ (t m sz:Nat) (T:TypeId),st[t]? = some (AObj.tip m sz T)→st'[t]? = st[t]?) (h:TipO b st sz T xs c):TipO b st' sz T xs c:=by
 rcases h with (h | ⟨t,h1,h2,h3⟩)|h
 ·exact .inl (.inl h)
 ·exact .inl (.inr ⟨t,h1,(hs t _ _ _ h2).trans h2,h3⟩)
 ·exact .inr h
end Go.Av
namespace Go.Proofs.YtmoklbacdkmkaaaGreatDoor
open Go Go.Av Go.RowKit Go.Proofs Go.Pl
theorem qg2 {st l:List AObj}:st.length≤(st++l).length:=by simp
theorem qxp {b o:Nat} {st:List AObj} {sz:Nat} {T:TypeId} {xs:List AV} {c:AV} {x:AObj} (h:TipO b st sz T xs c) (hn:qjn st[o]?):TipO b (st.set o x) sz T xs c:=
 q5n (fun t m sz T ht=>List.getElem?_set_ne (fun e=>by subst e;exact hn _ _ _ ht)) h
structure OutI (st:List AObj) (S:List AObj):Prop where
 low:∀ j,j<st.length→S[j]? = st[j]?
 len:st.length≤S.length
theorem OutI.pre {st S l:List AObj} (h:OutI st S):OutI st (S++l):=⟨fun j hj=>(List.getElem?_append_left (by have:=h.len;omega)).trans (h.low j hj),by have:=h.len;simp;omega⟩
theorem OutI.set {st S:List AObj} {o:Nat} {x:AObj} (h:OutI st S) (ho:st.length≤o):OutI st (S.set o x):=⟨fun j hj=>(qqe (by omega)).trans (h.low j hj),by have:=h.len;simp;omega⟩
theorem OutI.fr {st S S':List AObj} {t:Nat} (h:OutI st S) (hf:Fr S S' t) (ht:st.length≤t):OutI st S':=⟨fun j hj=>(hf.same j (by omega) (by have:=h.len;omega)).trans (h.low j hj),Nat.le_trans h.len hf.len⟩
theorem OutI.ext {st S:List AObj} (h:OutI st S):∃ ext,S=st++ext:=qu9 h.low
theorem qc0 {E:Env} {rd:Option Nat} {N:Nat} {ops:Array Oper} {K:AS→Prop} {s:AS} {rest:List Oper} {d:Option Tmp} {T:TypeId} {p:String} {af:Array Edge} {t e:TypeId} {len sz:Nat} {agg:Bool} {parts:Array (Nat×Operand)} {zs cs:List AV} {st:List AObj} (hst:s.st=st) (hu:E.P.underlying t=some (.slice e)) (ht:tyOf E.P e=some (sz,agg)) (hz:qgs E.P e len=some zs)
  (hf:qc3 (fun i=>some (i * sz,sz)) zs (wd N s parts)=some cs) (hsz:Nat.ble (len * sz) 16777216=true)
  (h:AOps E rd N ops rest K (AS.put ⟨s.t,st++[.cells 0 e cs],s.df⟩ d (.os st.length 0 0 len len))):AOps E rd N ops (⟨d,.buildSlice t len parts,T,p,af,none⟩::rest) K s:=
 x9 (loc:=[]) (by rw [hst];simp) hu ht hz hf hsz h
theorem qhe (x:qu):ql5 (ji x):=fun y hy=>by
 simp only [AV.cells,List.mem_cons,List.not_mem_nil,or_false] at hy
 rcases hy with rfl|rfl|rfl
 ·exact qs _
 ·exact qs _
 ·exact qc4 _
theorem qet (b:List qu):Pure (jg b):=qco fun x hx=>by
 obtain⟨f,_,rfl⟩:=List.mem_map.1 hx
 exact qhe f
theorem zda {α β : Type} (g : α→β) (l:List α) (a : α):(l++[a]).map g=l.map g++[g a]:=by simp
def tryB (k:Int) (l:Bytes):Option Int:=if yr k <+: l then (match Lib.atoiAll (l.drop (yr k).length) with
 | .ok n=>some n
 | _=>none) else none
def begE (l:Bytes):Option (Int×Int):=match tryB 1 l with
 |some n=>some (1,n)
 |none=>match tryB 2 l with
  |some n=>some (2,n)
  |none=>match tryB 3 l with
   |some n=>some (3,n)
   |none=>none
def begA:Option (Int×Int)→AV
 |some (k,n)=>.tu [ji ⟨k,n,[]⟩,Bv true]
 |none=>.tu [ji ⟨0,0,[]⟩,Bv false]
theorem q8n (x:Option (Int×Int)):Pure (begA x):=by
 rcases x with _ | ⟨k,n⟩
 ·exact kj (yz (qhe _)) (qs _)
 ·exact kj (yz (qhe _)) (qs _)
theorem qxr (k n:Int):Weak (.ag [Iv k,Iv n,zm]) (ji ⟨k,n,[]⟩):=
 zg5 rfl fun i x y hx hy=>by
  match i with
  | 0=>simp at hx hy;subst hx;subst hy;exact qb8 _
  | 1=>simp at hx hy;subst hx;subst hy;exact qb8 _
  | 2=>simp at hx hy;subst hx;subst hy;exact qgq 2
  |i+3=>simp at hx
theorem q6j (l m:Bytes) (st:List AObj) (h:m <+: l):qp E 217 [Sv l,Sv m] st fun r st'=>r = .tu [Sv (l.drop m.length),Bv true]∧st'=st:=by
 have:=qes l m st
 rw [qdb h,(x8 l m).2 h] at this
 exact this
theorem q6k (l m d:Bytes) (st:List AObj) (h:m <+: l) (hd:l.drop m.length=d):qp E 217 [Sv l,Sv m] st fun r st'=>r = .tu [Sv d,Bv true]∧st'=st:=by
 subst hd
 exact q6j l m st h
theorem q6i (l m:Bytes) (st:List AObj) (h:¬ m <+: l):qp E 217 [Sv l,Sv m] st fun r st'=>r = .tu [Sv l,Bv false]∧st'=st:=by
 have:=qes l m st
 have hf:Lib.hasPrefix l m=false:=by
  cases hb:Lib.hasPrefix l m with
  |false=>rfl
  |true=>exact absurd ((x8 l m).1 hb) h
 have ht:Lib.trimPrefix l m=l:=by
  unfold Lib.trimPrefix
  rw [if_neg (by simp [hf])]
 rw [ht,hf] at this
 exact this
theorem ze6 {l:Bytes} {k:Nat} {n:Int} (h1:1≤k) (h3:k≤3) (h:∀ j:Nat,1≤j→j<k→tryB j l=none) (hk:tryB k l=some n):begE l=some ((k:Int),n):=by
 have:k=1∨k=2∨k=3:=by omega
 rcases this with rfl|rfl|rfl
 ·have hk1:tryB 1 l=some n:=hk
  simp [begE,hk1]
 ·have e1:tryB 1 l=none:=h 1 (by omega) (by omega)
  have hk1:tryB 2 l=some n:=hk
  simp [begE,e1,hk1]
 ·have e1:tryB 1 l=none:=h 1 (by omega) (by omega)
  have e2:tryB 2 l=none:=h 2 (by omega) (by omega)
  have hk1:tryB 3 l=some n:=hk
  simp [begE,e1,e2,hk1]
theorem q8q {l:Bytes} (h:∀ j:Nat,1≤j→j<4→tryB j l=none):begE l=none:=by
 have e1:tryB 1 l=none:=h 1 (by omega) (by omega)
 have e2:tryB 2 l=none:=h 2 (by omega) (by omega)
 have e3:tryB 3 l=none:=h 3 (by omega) (by omega)
 simp [begE,e1,e2,e3]
theorem zbw {k:Nat} (h1:1≤k) (h3:k≤3):qca (k:Int)≠[]∧([32]++qca (k:Int))++[32]=yr (k:Int)∧(qca (k:Int)).length≤10:=by
 have:k=1∨k=2∨k=3:=by omega
 rcases this with rfl|rfl|rfl <;> decide
set_option maxHeartbeats 2000000 in
theorem ze8 (l:Bytes) (st:List AObj) (hl:l.length<1000000):qp E 176 [Sv l] st fun r st'=>r=begA (begE l)∧st'=st:=by
 refine qx (q8n _) (qq Tryz.func176 rfl (Nat.le_of_ble_eq_true rfl) ?_)
 repeat' (first|apply qn|apply qw|apply qf|apply qh|apply qg|(apply jm;exact rfl;exact rfl))
 refine ju (fun (k:Nat) s=>1≤k∧k≤4∧(∀ j:Nat,1≤j→j<k→tryB j l=none)∧StE [(0,Sv l),(2,.bx (st.length+0) 0 0),(4,Iv k)] st [.cells 0 97 [Iv 0,Iv 0,zm]] s) (fun k=>4 - k) 1 ⟨by omega,by omega,fun j h1 h2=>by omega,qbj ⟨rfl,rfl,rfl,trivial⟩ rfl⟩ ?_
 rintro k _ ⟨hk1,hk4,hno,t,ext,rfl⟩
 by_cases h4:k=4
 ·subst h4
  have hw:qca ((4:Nat):Int)=[]:=by decide
  rw [q8q hno]
  repeat' (first|apply qn|apply qf|apply qh|apply qj|apply qg|(apply jj;(iterate 3 exact rfl))|(apply qd;exact rfl;apply cd_f;exact cRa)|(apply qa3;(iterate 11 exact rfl))|(apply vu;(iterate 3 exact rfl))|apply z4|apply qt|(apply qk;exact Tryz.call191;exact qul _ _))
  refine qo rfl (wz (qep rfl rfl rfl rfl rfl rfl) (qfk (qxr 0 0) (qb8 _))) ⟨rfl,x2 _ _ _ _⟩
 ·obtain⟨hw,hm,hwl⟩:=zbw hk1 (by omega)
  by_cases hp:yr (k:Int) <+: l
  ·have hp':([32]++qca (k:Int))++[32] <+: l:=by rw [hm];exact hp
   obtain⟨d,hd0⟩:∃ d,d=l.drop (yr (k:Int)).length:=⟨_,rfl⟩
   have hd:l.drop ((([32]:Bytes)++qca (k:Int))++[32]).length=d:=by rw [hm,hd0]
   have hdl:d.length<1000000:=by rw [hd0,List.length_drop];omega
   repeat' (first|apply qn|apply qw|apply qf|apply qh|apply qj|apply qg|(apply zf;exact rfl;exact rfl)|(apply jj;(iterate 3 exact rfl))|(apply qd;exact rfl;apply ku;exact cAo)|(apply jc;exact rfl;exact rfl;exact cOs)|apply qv|(apply qk;exact Tryz.call191;exact qul _ _)|(apply qk;exact Tryz.call217;exact q6k _ _ _ _ hp' hd))
   refine qfm Tryz.call97 ((qnz d _ (by omega)).mono ?_)
   rintro _ _ ⟨rfl,n,x,rfl,hx⟩
   rw [hd0] at hx
   rcases x with _ | ⟨t',y⟩
   ·simp only at hx
    have htr:tryB (k:Int) l=some n:=by unfold tryB;rw [if_pos hp,hx]
    rw [ze6 hk1 (by omega) hno htr]
    repeat' (first|apply qn|apply qf|apply qh|apply qj|apply qg|(apply zf;exact rfl;exact rfl)|(apply qy;(iterate 4 exact rfl))|(apply qab;exact cRa)|(apply ql;exact rfl;apply pk_t;exact cRa)|(apply qd;exact rfl;apply cd_t;exact cRa)|(apply qe0;exact rfl;exact rfl)|(apply qa3;(iterate 11 exact rfl))|(apply vu;(iterate 3 exact rfl))|apply qt)
    refine qo rfl (wz (qep rfl rfl rfl rfl rfl rfl) (qfk (qxr k n) (qb8 _))) ⟨rfl,x2 _ _ _ _⟩
   ·simp only at hx
    have htr:tryB (k:Int) l=none:=by
     unfold tryB
     rw [if_pos hp]
     split
     ·rename_i v hv;exact absurd hv (hx v)
     ·rfl
    repeat' (first|apply qn|apply qf|apply qh|apply qj|apply qg|(apply zf;exact rfl;exact rfl)|(apply qy;(iterate 4 exact rfl))|(apply qab;exact cRa)|(apply ql;exact rfl;apply pk_t;exact cRa)|(apply qd;exact rfl;apply cd_f;exact cRa)|(apply zi;exact rfl;exact rfl;exact q8 (by omega) (by omega))|(apply qbg;exact rfl;exact rfl)|apply qv)
    refine⟨k+1,⟨by omega,by omega,fun j h1 h2=>?_,xp ⟨rfl,rfl,rfl,trivial⟩ rfl⟩,by omega⟩
    by_cases hjk:j=k
    ·subst hjk;exact htr
    ·exact hno j h1 (by omega)
  ·have hp':¬ ([32]++qca (k:Int))++[32] <+: l:=by rw [hm];exact hp
   have htr:tryB (k:Int) l=none:=by unfold tryB;rw [if_neg hp]
   repeat' (first|apply qn|apply qw|apply qf|apply qh|apply qj|apply qg|(apply zf;exact rfl;exact rfl)|(apply jj;(iterate 3 exact rfl))|(apply qd;exact rfl;apply ku;exact cAo)|(apply jc;exact rfl;exact rfl;exact cOs)|apply qv|(apply qk;exact Tryz.call191;exact qul _ _)|(apply qk;exact Tryz.call217;exact q6i _ _ _ hp'))
   refine qfm Tryz.call97 ((qnz l _ (by omega)).mono ?_)
   rintro _ _ ⟨rfl,n,x,rfl,hx⟩
   rcases x with _ | ⟨t',y⟩
   all_goals
    repeat' (first|apply qn|apply qf|apply qh|apply qj|apply qg|(apply zf;exact rfl;exact rfl)|(apply qy;(iterate 4 exact rfl))|(apply xi;exact cRa)|(apply ql;exact rfl;apply pk_f;exact cRa)|(apply qd;exact rfl;apply cd_f;exact cRa)|(apply zi;exact rfl;exact rfl;exact q8 (by omega) (by omega))|apply qv)
    refine⟨k+1,⟨by omega,by omega,fun j h1 h2=>?_,xp ⟨rfl,rfl,rfl,trivial⟩ rfl⟩,by omega⟩
    by_cases hjk:j=k
    ·subst hjk;exact htr
    ·exact hno j h1 (by omega)
def recsF (its:List zv):List (List Fld):=(its.filter fun x=>decide (x.kind=3)).map zv.fields
@[reducible] def zer (ls : List (List Fld)) : AV := .sl 1 (ls.map jw) none
theorem q7t (ls:List (List Fld)):Pure (zer ls):=qco fun x hx=>by
 obtain⟨f,_,rfl⟩:=List.mem_map.1 hx
 intro y hy
 simp only [AV.cells,List.mem_cons,List.not_mem_nil,or_false] at hy
 subst hy
 exact qc4 _
theorem q3p (l:List zv) (x:zv) (h:x.kind=3):recsF (l++[x])=recsF l++[x.fields]:=by simp [recsF,h]
theorem q3q (l:List zv) (x:zv) (h:¬ x.kind=3):recsF (l++[x])=recsF l:=by simp [recsF,h]
theorem zg2 {b t1:Nat} {st st':List AObj} {sz:Nat} {T:TypeId} {xs:List AV} {c c0:AV} {sz0:Nat} {xs0:List AV} (hf:Fr st st' t1) (hid:c0 = .sl sz0 xs0 (some t1)∨st.length≤t1) (h0:∀ t,c0≠.sl sz0 xs0 (some t)) (h:TipO b st sz T xs c):TipO b st' sz T xs c:=
 q5n (fun t m sz T ht=>hf.same t (fun e=>by
  subst e
  rcases hid with hid|hid
  ·exact h0 _ hid
  ·have:=lt_of_getElem? ht;omega) (lt_of_getElem? ht)) h
theorem zei {b t1:Nat} {st st':List AObj} {sz:Nat} {T:TypeId} {xs:List AV} {c:AV} {sz0:Nat} {xs0:List AV} {o v f l k:Nat} (hf:Fr st st' t1) (hid:AV.os o v f l k = .sl sz0 xs0 (some t1)∨st.length≤t1) (h:TipO b st sz T xs c):TipO b st' sz T xs c:=
 zg2 hf hid (by simp) h
set_option maxHeartbeats 2000000 in
theorem zbb (its:List zv) (st:List AObj) (hl:its.length<1000000) (hf:∀ x∈its,x.fields.length<1000000):qp E 222 [js its] st fun r st'=>r=zer (recsF its)∧st'=st:=by
 refine qx (q7t _) (qq Tryz.func222 rfl (Nat.le_of_ble_eq_true rfl) ?_)
 have hml:(its.map z6).length=its.length:=by simp
 rw [List.append_nil]
 repeat' (first|apply qn|apply qw|apply qf|apply qh|apply qj|apply qg|(apply zw;(iterate 4 exact rfl)))
 refine ye its (fun pre s=>∃ c S,OutI st S∧TipO st.length S 1 95 ((recsF pre).map jw) c∧StA [(3,c),(6,js its),(7,Iv its.length),(8,Iv pre.length)] S [] s) ⟨_,st,⟨fun _ _=>rfl,Nat.le_refl _⟩,q2k ..,jb ⟨rfl,rfl,congrArg (fun n:Nat=>Iv (n:Int)) hml,rfl,trivial⟩⟩ ?_ ?_
 ·rintro _ ⟨c,S,hO,hT,t,rfl⟩
  repeat' (first|apply qn|apply qf|apply qh|apply qj|apply qg|(apply qr;(iterate 3 exact rfl))|(apply qd;exact rfl;apply vc;exact cAo)|apply z4|apply qt)
  exact qo rfl (wz (q5 rfl) (qm7 hT)) ⟨rfl,hO.ext⟩
 ·rintro pre x rest _ hr ⟨c,S,hO,hT,t,rfl⟩
  have hlen:its.length=pre.length+(rest.length+1):=by rw [hr];simp
  have hget:(its.map z6)[pre.length]? = some (z6 x):=by rw [hr];simp
  have hxf:=hf x (by rw [hr];simp)
  have hpl:(recsF pre).length≤pre.length:=by unfold recsF;rw [List.length_map];exact List.length_filter_le _ _
  have hSl:=hO.len
  have hO1:OutI st ((S++[AObj.cells 0 137 [Iv 0,Sv [],zm]]).set S.length (.cells 0 137 (z6 x).cells)):=hO.pre.set hSl
  have hT1:TipO st.length ((S++[AObj.cells 0 137 [Iv 0,Sv [],zm]]).set S.length (.cells 0 137 (z6 x).cells)) 1 95 ((recsF pre).map jw) c:=qxp (qrw hT) (qa8 xm)
  have hob:((S++[AObj.cells 0 137 [Iv 0,Sv [],zm]]).set S.length (.cells 0 137 (z6 x).cells))[S.length]? = some (.cells 0 137 (z6 x).cells):=kq xm
  by_cases h3:x.kind=3
  ·skip
   repeat' (first|(apply qc0 (st:=(S++[AObj.cells 0 137 [Iv 0,Sv [],zm]]).set S.length (.cells 0 137 (z6 x).cells));(iterate 6 exact rfl))|(apply q8c 19 rfl (qm7 g1);apply kw;(iterate 9 exact rfl))|apply qn|apply qw|apply qf|apply qh|apply qj|apply qg|(apply qr;(iterate 3 exact rfl))|(apply qd;exact rfl;apply ku;exact cAo)|(apply zi;exact rfl;exact rfl;exact q8 (by omega) (by omega))|(apply zj;(iterate 3 exact rfl))|(apply zy;(iterate 3 exact rfl))|apply qv|(apply vd;exact rfl;exact hob;exact rfl;exact rfl)|(apply vd;exact rfl;exact qcc hob;exact rfl;exact rfl)|(apply qk3 (st:=S);exact rfl;exact rfl)|(apply yy;exact rfl;exact rfl;(focus first|assumption|(repeat' (first|assumption|exact xm|exact jo rfl|apply kq|apply vg|omega|apply qcc)));(iterate 6 exact rfl))|(apply z8 (n:=pre.length);(iterate 5 exact rfl);exact hget)|(apply qi8 (b:=st.length) (xs:=[]) (ys:=x.fields.map fldA) (bytes:=32);(iterate 5 exact rfl);exact⟨⟨_,_,rfl,rfl,rfl,rfl,rfl⟩⟩;exact q5o _ _ _ _ _ _ _;(exact Nat.le_trans hO1.len qg2);(first|exact rfl|exact qcz fun _=>rfl);((simp [maxLen];omega));((simp;omega));intro c1 S1 t1 g1 g2 g3 g4)|(apply qi8 (b:=st.length) (xs:=(recsF pre).map jw) (ys:=[jw x.fields]) (bytes:=24);(iterate 5 exact rfl);exact⟨⟨_,_,rfl,rfl,rfl,rfl,rfl⟩⟩;exact zei g2 g4 (qrw hT1);(exact (hO1.pre.fr g2 g3).len);(first|exact rfl|exact qcz fun _=>rfl);((simp [maxLen];omega));((simp;omega));intro c2 S2 t2 k1 k2 k3 k4))
   exact⟨c2,S2,(hO1.pre.fr g2 g3).fr k2 k3,by rw [q3p _ _ h3,zda];exact k1,jb ⟨rfl,rfl,rfl,qdf pre x,trivial⟩⟩
  ·skip
   repeat' (first|apply qn|apply qw|apply qf|apply qh|apply qj|(apply qr;(iterate 3 exact rfl))|(apply qd;exact rfl;apply ku;exact cAo)|(apply qd;exact rfl;apply vc;exact cAo)|(apply zi;exact rfl;exact rfl;exact q8 (by omega) (by omega))|(apply zj;(iterate 3 exact rfl))|(apply zy;(iterate 3 exact rfl))|apply qv|(apply vd;exact rfl;exact hob;exact rfl;exact rfl)|(apply qk3 (st:=S);exact rfl;exact rfl)|(apply yy;exact rfl;exact rfl;(focus first|assumption|(repeat' (first|assumption|exact xm|exact jo rfl|apply kq|apply vg|omega|apply qcc)));(iterate 6 exact rfl))|(apply z8 (n:=pre.length);(iterate 5 exact rfl);exact hget))
   exact⟨c,_,hO1,by rw [q3q _ _ h3];exact hT1,jb ⟨rfl,rfl,rfl,qdf pre x,trivial⟩⟩
end Go.Proofs.YtmoklbacdkmkaaaGreatDoor
namespace Go.Pl
open Go Go.Proofs Go.Proofs.YtmoklbacdkmkaaaGreatDoor
def GF (fs:List Fld):Prop:=fs.length≤40∧∀ f∈fs,ka f
structure PI (p:PSt):Prop where
 items:∀ x∈p.items,GF x.fields∧(x.kind=3↔x.fields≠[])
 fields:GF p.fields
 full:p.lines≠[]→p.full=false→p.fields.length<40
theorem qhp {ls:List Bytes} (h:(zp ls).2=0):ka (zp ls).1:=by
 unfold zp at h ⊢
 split at h
 ·split at h
  ·simp at h
  ·rename_i h1 h2
   rw [if_pos h1,if_neg h2]
   exact⟨(qkr.1 h1.2.1).2.2,Nat.le_of_not_lt h2⟩
 ·simp at h
theorem pi0:PI p0:=⟨by simp [p0],⟨by simp [p0],by simp [p0]⟩,by simp [p0]⟩
theorem PI.flush {p:PSt} (h:PI p):PI (jy p).2:=by
 unfold jy
 split
 ·exact h
 ·rename_i hl
  split
  ·exact h
  ·rename_i hu
   split
   ·exact h
   ·rename_i hf
    have hlt:=h.full hl (by simpa using hf)
    refine⟨h.items,⟨by simp;omega,fun f hm=>?_⟩,by simp⟩
    rcases List.mem_append.1 hm with hm|hm
    ·exact h.fields.2 f hm
    ·simp at hm;subst hm;exact qhp (by simpa using hu)
theorem PI.close {p:PSt} (h:PI p):PI (yf p):=by
 unfold yf
 split
 ·exact⟨h.items,⟨by simp,by simp⟩,fun h1 h2=>by simp⟩
 ·refine⟨fun x hx=>?_,⟨by simp,by simp⟩,fun h1 h2=>by simp⟩
  rcases List.mem_append.1 hx with hx|hx
  ·exact h.items x hx
  ·simp at hx
   subst hx
   refine⟨h.fields,?_⟩
   simp only
   split
   ·rename_i h0;simp [h0]
   ·rename_i h0;simp [h0]
theorem PI.end' {p:PSt} (h:PI p):PI (endP p).2:=by
 unfold endP
 split
 ·exact h
 ·exact h.flush.close
theorem PI.lines' {p:PSt} (h:PI p) (hl:p.lines≠[]) (text:Bytes):PI { p with lines:=p.lines++[text] }:=⟨h.items,h.fields,fun _ hf=>h.full hl hf⟩
theorem PI.begin' {p:PSt} (h:PI p) (no:Int) (text:Bytes):PI (kz p no text):=by
 refine⟨h.items,h.fields,fun _ hf=>?_⟩
 have:=h.fields.1
 simp only [kz,decide_eq_false_iff_not,not_or] at hf ⊢
 omega
theorem PI.ahead {p:PSt} (h:PI p) (no:Int) (text:Bytes) (ended:Bool) (kind:Int):PI (jr p no text ended kind).2:=by
 unfold jr
 split
 ·split
  ·exact h
  ·rename_i hl
   split
   ·exact h.lines' hl text
   ·exact (h.lines' hl text).flush
 ·split
  ·exact h.end'
  ·exact h.flush
theorem PI.take {p:PSt} (h:PI p) (no:Int) (text:Bytes) (ended:Bool):PI (wr p no text ended).2:=by
 have ha:=h.ahead no text ended (qz text)
 unfold wr
 split
 ·exact h
 ·split
  ·exact h
  ·split
   ·refine⟨fun x hx=>?_,ha.fields,ha.full⟩
    rcases List.mem_append.1 hx with hx|hx
    ·exact ha.items x hx
    ·simp at hx;subst hx;exact⟨⟨by simp,by simp⟩,by simp⟩
   ·split
    ·have hb:=ha.begin' no text
     exact⟨hb.items,hb.fields,hb.full⟩
    ·exact⟨ha.items,ha.fields,ha.full⟩
theorem PI.run:∀ (ls:List (Bytes×Bool)) (k:Nat) (p:PSt),PI p→PI (runL k ls p).2
 | [],k,p,h=>h.end'
 |(t,e)::r,k,p,h=>by
  unfold runL
  split
  ·exact h
  ·exact PI.run r (k+1) _ (h.take k t e)
theorem qql (text:Bytes):∀ x∈(jz text).2,GF x.fields∧(x.kind=3↔x.fields≠[]):=by
 unfold jz
 split
 ·simp
 ·exact (PI.run _ 0 _ pi0).items
theorem qzu (p:PSt):(yf p).items.length≤p.items.length+1:=by
 unfold yf
 split <;> simp
theorem qjh (p:PSt):(jy p).2.items=p.items:=by
 unfold jy
 split
 ·rfl
 ·split
  ·rfl
  ·split <;> rfl
theorem qsw (p:PSt):(endP p).2.items.length≤p.items.length+1:=by
 unfold endP
 split
 ·simp
 ·have:=qzu (jy p).2
  rw [qjh] at this
  exact this
theorem qyx (p:PSt) (no:Int) (text:Bytes) (ended:Bool) (kind:Int):(jr p no text ended kind).2.items.length≤p.items.length+1:=by
 unfold jr
 split
 ·split
  ·simp
  ·split
   ·simp
   ·rw [qjh];simp
 ·split
  ·exact qsw p
  ·rw [qjh];simp
theorem q39 (p:PSt) (no:Int) (text:Bytes) (ended:Bool):(wr p no text ended).2.items.length≤p.items.length+2:=by
 have ha:=qyx p no text ended (qz text)
 unfold wr
 split
 ·simp
 ·split
  ·simp
  ·split
   ·simp;omega
   ·split
    ·simp [kz];omega
    ·simp;omega
theorem qit:∀ (ls:List (Bytes×Bool)) (k:Nat) (p:PSt),(runL k ls p).2.items.length≤p.items.length+2 * ls.length+1
 | [],k,p=>by have:=qsw p;simp [runL];omega
 |(t,e)::r,k,p=>by
  unfold runL
  split
  ·simp;omega
  ·have h1:=qit r (k+1) (wr p k t e).2
   have h2:=q39 p k t e
   simp only [List.length_cons]
   omega
theorem zab (text:Bytes):(jz text).2.length≤2 * text.length+1:=by
 unfold jz
 split
 ·simp
 ·have h1:=qit (zr text) 0 p0
  have h2:=(qft _ text (Nat.le_refl _)).2
  have h3:p0.items.length=0:=rfl
  simp only
  omega
theorem q6l (by' l:Bytes):(vj by' l).1.length≤l.length:=by
 unfold vj
 split
 ·have h:=(qft _ l (Nat.le_refl _)).1
  have key:∀ (ls:List (Bytes×Bool)),(ls.flatMap fun x=>x.1.drop by'.length++xf x.2).length≤lsum ls:=by
   intro ls
   induction ls with
   |nil=>simp [lsum]
   |cons x r ih=>
    simp only [lsum,List.flatMap_cons,List.length_append,List.map_cons,List.sum_cons,List.length_drop] at ih ⊢
    omega
  have:=key (zr l)
  simp only
  omega
 ·simp
end Go.Pl
namespace Go.Proofs.YtmoklbacdkmkaaaGreatDoor
open Go Go.Av Go.RowKit Go.Proofs Go.Pl
theorem qm8 (text:Bytes) (st:List AObj) (hl:text.length≤60000) (h:(jz text).1=none):qp E 58 [Sv text] st fun r st'=>r = .tu [js (jz text).2,.v .nilIface]∧st'=st:=by
 have:=qrq text st hl
 unfold qd0 at this
 rw [h] at this
 exact this
theorem q37 (text:Bytes) (st:List AObj) (a n:Int) (hl:text.length≤60000) (h:(jz text).1=some (a,n)):qp E 58 [Sv text] st fun r st'=>r = .tu [js (jz text).2,.ifc 101 (.pp [Iv a,.ifc 76 (Iv n)])]∧st'=st:=by
 have:=qrq text st hl
 unfold qd0 at this
 rw [h] at this
 exact this
def qds (text:Bytes):List Fld×Bool:=
 if (vj [32,32] text).2=false∨(jz (vj [32,32] text).1).1≠none then ([],false)
 else match recsF (jz (vj [32,32] text).1).2 with
  | []=>([],decide ((vj [32,32] text).1=[]))
  |f::_=>(f,decide ((jz (vj [32,32] text).1).2.length=1))
theorem zi1 {a b:List Fld} {c d:Bool} (h1:a=b) (h2:c=d):AV.tu [jw a,Bv c]=AV.tu [jw b,Bv d]:=by rw [h1,h2]
theorem q7k {its:List zv} (h:∀ x∈its,GF x.fields∧(x.kind=3↔x.fields≠[])):∀ fs∈recsF its,GF fs∧fs≠[]:=fun fs hfs=>by
 obtain⟨x,hx,rfl⟩:=List.mem_map.1 hfs
 obtain⟨hx1,hx2⟩:=List.mem_filter.1 hx
 have:=h x hx1
 exact⟨this.1,this.2.1 (by simpa using hx2)⟩
set_option maxHeartbeats 2000000 in
theorem zcw (text:Bytes) (st:List AObj) (hl:text.length≤60000):qp E 177 [Sv text] st fun r st'=>r = .tu [jw (qds text).1,Bv (qds text).2]∧st'=st:=by
 refine qx (kj (qc4 _) (qs _)) (qq Tryz.func177 rfl (Nat.le_of_ble_eq_true rfl) ?_)
 have hdl:=q6l [32,32] text
 have hpl:=zab (vj [32,32] text).1
 have hit:=qql (vj [32,32] text).1
 unfold qds
 obtain⟨d,hd⟩:∃ d,d=vj [32,32] text:=⟨_,rfl⟩
 have hdc:∀ st,qp E 221 [Sv text,Sv [32,32]] st fun r st'=>r = .tu [Sv d.1,Bv d.2]∧st'=st:=fun st=>by rw [hd];exact qz0 text [32,32] st (by omega)
 rw [← hd] at hdl hpl hit ⊢
 obtain⟨b,ok⟩:=d
 simp only at hdl hpl hit hdc ⊢
 cases hp:(jz b).1 with
 |some e=>
  obtain⟨a,n⟩:=e
  rw [if_pos (.inr (by simp))]
  cases ok
  all_goals
   repeat' (first|apply qn|apply qf|apply qh|apply qj|apply qg|(apply zf;exact rfl;exact rfl)|(apply je;exact rfl)|(apply qy;(iterate 4 exact rfl))|(apply qao;exact cRa)|(apply qbw;exact cRa)|(apply ql;exact rfl;apply qio;exact cRa)|(apply ql;exact rfl;apply qe6;exact cRa)|(apply qd;exact rfl;apply cd_t;exact cRa)|(apply wt;exact rfl;exact rfl)|apply qt|(apply qk;exact Tryz.call221;exact hdc _)|(apply qk;exact Tryz.call58;exact q37 _ _ _ _ (by omega) hp))
   exact qo rfl (wz (ki rfl) (qfk (qgq 2) (qb8 (Bv false)))) ⟨rfl,_,rfl⟩
 |none=>
  cases ok
  ·rw [if_pos (.inl rfl)]
   repeat' (first|apply qn|apply qf|apply qh|apply qj|apply qg|(apply zf;exact rfl;exact rfl)|(apply je;exact rfl)|(apply qy;(iterate 4 exact rfl))|(apply qbw;exact cRa)|(apply ql;exact rfl;apply qio;exact cRa)|(apply qd;exact rfl;apply cd_t;exact cRa)|apply qt|(apply qk;exact Tryz.call221;exact hdc _)|(apply qk;exact Tryz.call58;exact qm8 _ _ (by omega) hp))
   exact qo rfl (wz (ki rfl) (qfk (qgq 2) (qb8 (Bv false)))) ⟨rfl,_,rfl⟩
  ·rw [if_neg (by simp)]
   have hsc:=fun st=>zbb (jz b).2 st (by omega) (fun x hx=>by have:=(hit x hx).1.1;omega)
   have hml:((jz b).2.map z6).length=(jz b).2.length:=by simp
   cases hr:recsF (jz b).2 with
   |nil=>
    rw [hr] at hsc
    repeat' (first|apply qn|apply qf|apply qh|apply qj|apply qg|(apply zf;exact rfl;exact rfl)|(apply qr;(iterate 3 exact rfl))|(apply jj;(iterate 3 exact rfl))|(apply je;exact rfl)|(apply qy;(iterate 4 exact rfl))|(apply qao;exact cRa)|(apply ql;exact rfl;apply qe6;exact cRa)|(apply qd;exact rfl;apply cd_t;exact cRa)|(apply qd;exact rfl;apply cd_f;exact cRa)|(apply zw;(iterate 4 exact rfl))|(apply vt;exact rfl;exact rfl)|apply qv|apply qt|(apply qk;exact Tryz.call221;exact hdc _)|(apply qk;exact Tryz.call58;exact qm8 _ _ (by omega) hp)|(apply qk;exact Tryz.call222;exact hsc _))
    exact qo rfl (wz (ki rfl) (qfk (qgq 2) (qb8 (Bv (decide (b=[])))))) ⟨rfl,_,rfl⟩
   |cons f r=>
    rw [hr] at hsc
    have hrl:((f::r).map jw).length=r.length+1:=by simp
    repeat' (first|apply qn|apply qf|apply qh|apply qj|apply qg|(apply zf;exact rfl;exact rfl)|(apply qr;(iterate 3 exact rfl))|(apply je;exact rfl)|(apply qy;(iterate 4 exact rfl))|(apply qao;exact cRa)|(apply ql;exact rfl;apply qe6;exact cRa)|(apply qd;exact rfl;apply vc;exact cAo)|(apply qd;exact rfl;apply cd_f;exact cRa)|(apply zw;(iterate 4 exact rfl))|(apply vt;exact rfl;exact rfl)|(apply zy;(iterate 3 exact rfl))|apply qv|apply qt|(apply qk;exact Tryz.call221;exact hdc _)|(apply qk;exact Tryz.call58;exact qm8 _ _ (by omega) hp)|(apply qk;exact Tryz.call222;exact hsc _)|(apply z8 (n:=0);(iterate 6 exact rfl)))
    refine qo rfl (ki rfl) ⟨zi1 rfl (decide_eq_decide.2 ?_),_,rfl⟩
    rw [hml]
    omega
def yh (text:Bytes):List LnV→Nat→List Bytes
 | [],frm=>[text.drop frm]
 |l::r,frm=>if frm<l.at'∧¬ [32,32] <+: l.text then (text.take l.at').drop frm::yh text r l.at' else yh text r frm
def qex (text:Bytes):List Bytes:=yh text (lns text) 0
theorem q9n (l m:Bytes) (st:List AObj) (h:m <+: l):qp E 164 [Sv l,Sv m] st fun r st'=>r=Bv true∧st'=st:=by
 have:=qew l m st
 rw [(x8 l m).2 h] at this
 exact this
theorem q9m (l m:Bytes) (st:List AObj) (h:¬ m <+: l):qp E 164 [Sv l,Sv m] st fun r st'=>r=Bv false∧st'=st:=by
 have:=qew l m st
 have hf:Lib.hasPrefix l m=false:=by
  cases hb:Lib.hasPrefix l m with
  |false=>rfl
  |true=>exact absurd ((x8 l m).1 hb) h
 rw [hf] at this
 exact this
theorem zgd (text:Bytes) (st:List AObj) (hl:text.length<1000000):qp E 175 [Sv text] st fun r st'=>r=Ss (qex text)∧st'=st:=by
 refine zl [.s text] (qlw _) Tryz.func175 rfl rfl (fun _=>rfl) rfl fun S0=>?_
 apply qe []
 repeat' (first|apply And.intro|(intro h;try exact cDd)|exact⟨Tryz.call100⟩|(refine Exists.intro _ ⟨qiv _,?_⟩)|exact cSd|apply qc []|refine exr ?_|refine qi ?_)
 refine qei (X:=List Bytes×Nat) text 2 3 [0,1,2] (fun (out,frm)=>⟨[(1,.a (.pp [Sv text])),(3,.bx 0 0),(4,.bx 1 0),(7,.fn (.func 163) [] [.bx 2 0])],
   [(0,some (.cells 85 [.tp 3])),(1,some (.cells 3 [.i frm])),(2,some (.cells 9 [.s text])),(3,some (.tip 1 9 (out.map fun x=>Sv x)))],4⟩) _
  (fun k rest (out,frm)=>∃ a,a+rest.length=text.length∧frm≤a∧out.length≤k∧k≤a∧out++yh text (vi k a rest) frm=qex text) (fun _ _=>False) ([],0) ⟨0,by simp,by omega,by simp,by omega,rfl⟩ ?_ id (by omega) (fun _=>rfl) rfl (fun _=>rfl) (fun _=>rfl) rfl ?_ ?_ (fun _ _ h=>h.elim)
 ·skip
  repeat' (first|apply And.intro|(intro h;try exact cDd)|exact cSd|apply qc []|refine exr ?_|refine qi ?_)
 ·rintro k rest ⟨out,frm⟩ ⟨a,ha,hfa,hok,hka,hrun⟩ hne hle
  have hcons:=qat (k:=k) (a:=a) hne
  have hul:=ko 10 rest
  have hr0:0<rest.length:=List.length_pos_iff.2 hne
  have hpl:=km 10 rest
  have hpa:a+(upto 10 rest).length+1+(past 10 rest).length=text.length∨past 10 rest=[]:=by
   by_cases h10:10∈rest
   ·have:=qem h10
    exact .inl (by omega)
   ·right
    unfold past
    rw [w7 h10]
    simp
  have hpast:∀ f,yh text (vi (k+1) (a+(upto 10 rest).length+1) (past 10 rest)) f=yh text (vi (k+1) (text.length - (past 10 rest).length) (past 10 rest)) f:=fun f=>by
   rcases hpa with h|h
   ·have:a+(upto 10 rest).length+1=text.length - (past 10 rest).length:=by omega
    rw [this]
   ·rw [h,qar,qar]
  have e:(text.length:Int) - rest.length=(a:Int):=by omega
  rw [hcons,yh] at hrun
  unfold qkt
  rw [e]
  by_cases hp:[32,32] <+: upto 10 rest
  ·have hhp:=fun st=>q9n (upto 10 rest) [32,32] st hp
   rw [if_neg (fun h=>h.2 hp),hpast] at hrun
   refine RA.mk fun S F ρ rd=>?_
   apply qe []
   repeat' (first|apply And.intro|(intro h;try exact cDd)|(refine RB.mk fun S rd=>?_;apply qe [])|exact⟨Tryz.call164⟩|refine cpe hhp ?_|(refine Exists.intro (out,frm) ⟨⟨text.length - (past 10 rest).length,by omega,by omega,by omega,by omega,hrun⟩,?_⟩)|exact cSd|apply qc []|refine exr ?_|refine qi ?_)
  ·have hhp:=fun st=>q9m (upto 10 rest) [32,32] st hp
   by_cases hfr:frm<a
   ·rw [if_pos ⟨hfr,hp⟩,hpast] at hrun
    refine RA.mk fun S F ρ rd=>?_
    apply qe []
    repeat' (first|apply And.intro|(intro h;try exact cDd)|(refine RB.mk fun S rd=>?_;apply qe [25])|exact⟨Tryz.call164⟩|refine cpe hhp ?_|(refine Exists.intro (out++[(text.take a).drop frm],a) ⟨⟨text.length - (past 10 rest).length,by omega,by omega,by simp;omega,by omega,by rw [← hrun];simp⟩,?_⟩)|exact cSd|apply qc [25]|refine exr ?_|refine qi ?_)
    all_goals first|(simp [SV.evs];omega)|(simp [SV.evs,SV.ev];done)
   ·rw [if_neg (fun h=>hfr h.1),hpast] at hrun
    refine RA.mk fun S F ρ rd=>?_
    apply qe []
    repeat' (first|apply And.intro|(intro h;try exact cDd)|(refine RB.mk fun S rd=>?_;apply qe [])|exact⟨Tryz.call164⟩|refine cpe hhp ?_|(refine Exists.intro (out,frm) ⟨⟨text.length - (past 10 rest).length,by omega,by omega,by omega,by omega,hrun⟩,?_⟩)|exact cSd|apply qc []|refine exr ?_|refine qi ?_)
 ·rintro k ⟨out,frm⟩ ⟨a,ha,hfa,hok,hka,hrun⟩
  rw [qar,yh] at hrun
  repeat' (first|apply And.intro|(intro h;try exact cDd)|exact cSd|apply qc []|refine exr ?_|refine qi ?_)
  rw [← hrun]
  simp
def decP:List Bytes→List qu→Option (List qu)
 | [],acc=>some acc
 |p::r,acc=>match begE (upto 10 p) with
  |none=>none
  |some (k,n)=>if (qds (past 10 p)).2=true∧acc.length≠40 then decP r (acc++[⟨k,n,(qds (past 10 p)).1⟩]) else none
def decF (text:Bytes):Option (List qu):=if 50000<text.length then none else match decP (qex text) [] with
 |none=>none
 |some b=>if eErr b = .no∧encF b=text then some b else none
def decA:Option (List qu)→AV
 |none=>.tu [jg [],.ifc 76 (Iv 2)]
 |some b=>.tu [jg b,.v .nilIface]
theorem q83 (x:Option (List qu)):Pure (decA x):=by
 rcases x with _|b
 ·exact kj (qet _) (qc7 (qs _))
 ·exact kj (qet _) (qs _)
theorem qkw (text:Bytes):∀ (ls:List LnV) (f:Nat),(∀ p∈yh text ls f,p.length≤text.length)∧(yh text ls f).length≤ls.length+1
 | [],f=>by simp [yh]
 |l::r,f=>by
  unfold yh
  split
  ·obtain⟨h1,h2⟩:=qkw text r l.at'
   refine⟨fun p hp=>?_,by simp;omega⟩
   rcases List.mem_cons.1 hp with rfl|hp
   ·simp;omega
   ·exact h1 p hp
  ·obtain⟨h1,h2⟩:=qkw text r f
   exact⟨h1,by simp;omega⟩
theorem qu0 {l:Bytes} {k n:Int} (h:begE l=some (k,n)) : -9223372036854775808≤n∧n≤9223372036854775807:=by
 have key:∀ {j:Int} {n:Int},tryB j l=some n→-9223372036854775808≤n∧n≤9223372036854775807:=fun {j n} h=>by
  unfold tryB at h
  split at h
  ·split at h
   ·rename_i v hv
    cases h
    exact Lib.atoiAll_bounds hv
   ·simp at h
  ·simp at h
 unfold begE at h
 split at h
 ·rename_i v hv;simp at h;rw [← h.2];exact key hv
 ·split at h
  ·rename_i v hv;simp at h;rw [← h.2];exact key hv
  ·split at h
   ·rename_i v hv;simp at h;rw [← h.2];exact key hv
   ·simp at h
theorem qqb (text:Bytes):GF (qds text).1:=by
 unfold qds
 split
 ·exact⟨by simp,by simp⟩
 ·split
  ·exact⟨by simp,by simp⟩
  ·rename_i f r hr
   exact (q7k (qql _) f (by rw [hr];simp)).1
theorem q9a {k n:Int} {fs:List Fld} (h1 : -9223372036854775808≤n) (h2:n≤9223372036854775807) (hg:GF fs):EdB ⟨k,n,fs⟩:=
 ⟨fun f hf=>by have:=(hg.2 f hf).1.2.1;omega,by have:=hg.1;simp only;omega,h1,h2⟩
set_option maxHeartbeats 4000000 in
theorem qzz (text:Bytes) (st:List AObj) (hl:text.length<1000000):qp E 105 [Sv text] st fun r st'=>r=decA (decF text)∧st'=st:=by
 refine zl [.s text] (q83 _) Tryz.func105 rfl rfl (fun _=>rfl) rfl fun S0=>?_
 by_cases hbig:50000<text.length
 ·have hd:decF text=none:=if_pos hbig
  rw [hd]
  apply qe []
  repeat' (first|apply And.intro|(intro h;try exact cDd)|exact cSd|apply qc []|refine exr ?_|refine qi ?_)
 have hdf:decF text=match decP (qex text) [] with
  |none=>none
  |some b=>if eErr b = .no∧encF b=text then some b else none:=if_neg hbig
 have hpl:=(qkw text (lns text) 0).1
 have hpn:=(qkw text (lns text) 0).2
 have hln:=qcw _ text 0 0 (Nat.le_refl _)
 have hpe:yh text (lns text) 0=qex text:=rfl
 have hle:(lns text).length≤text.length:=hln
 rw [hpe] at hpl hpn
 have hml:((qex text).map fun x=>Sv x).length=(qex text).length:=by simp
 have hpc:=fun st=>zgd text st hl
 generalize qex text=L at hdf hpl hpn hml hpc
 apply qe []
 repeat' (first|apply And.intro|(intro h;try exact cDd)|exact⟨Tryz.call175⟩|refine cpe hpc ?_|exact cSd|apply qc []|refine exr ?_|refine qi ?_)
 refine jf (X:=Nat×List qu) (fun (k,acc)=>⟨[(0,.s text),(4,.tp 0),(21,.a (Ss L)),(22,.i L.length),(23,.i k)],[(0,some (.tip 3 97 (acc.map ji)))],1⟩)
  (fun (k,acc)=>k≤L.length∧acc.length≤k∧(∀ x∈acc,EdB x)∧decP (L.drop k) acc=decP L []) (fun x=>L.length - x.1) (0,[]) ⟨by omega,by simp,by simp,rfl⟩ ?_ ?_
 ·skip
  repeat' (first|apply And.intro|(intro h;try exact cDd)|exact cSd|apply qc []|refine exr ?_|refine qi ?_)
  all_goals first|(simp;done)
 ·rintro⟨j,acc⟩ ⟨hj,hal,hB,hrun⟩
  have hma:(acc.map ji).length=acc.length:=by simp
  by_cases hc:j<L.length
  ·obtain⟨p,hx⟩:∃ p,L[j]? = some p:=⟨_,List.getElem?_eq_getElem hc⟩
   have hg:(L.map fun x=>Sv x)[j]? = some (Sv p):=by simp [hx]
   have hd:L.drop j=p::L.drop (j+1):=by
    obtain⟨hlt,e⟩:=List.getElem?_eq_some_iff.1 hx
    rw [List.drop_eq_getElem_cons hlt,e]
   have hpp:=hpl p (List.mem_of_getElem? hx)
   have hul:=ko 10 p
   have hpal:=km 10 p
   have hcu:=fun st=>qje p 10 st (by omega)
   have hbc:=fun st=>ze8 (upto 10 p) st (by omega)
   have hgf:=qqb (past 10 p)
   have hfc:=fun st=>zcw (past 10 p) st (by omega)
   rw [hd,decP] at hrun
   cases hbe:begE (upto 10 p) with
   |none=>
    rw [hbe] at hrun hbc
    simp only at hrun
    rw [← hrun] at hdf
    simp only at hdf
    rw [hdf]
    apply qe []
    repeat' (first|apply And.intro|(intro h;try exact cDd)|(refine Exists.intro (j) ⟨by omega,_,hg,?_⟩)|exact⟨Tryz.call96⟩|refine cpe hcu ?_|exact⟨Tryz.call176⟩|refine cpe hbc ?_|exact⟨Tryz.call177⟩|refine cpe hfc ?_|exact cSd|apply qc []|refine exr ?_|refine qi ?_)
   |some kn=>
    obtain⟨kd,n⟩:=kn
    have hid:=qu0 hbe
    rw [hbe] at hrun hbc
    simp only at hrun
    obtain⟨fs,hfs⟩:∃ x,x=(qds (past 10 p)).1:=⟨_,rfl⟩
    rw [← hfs] at hrun hfc hgf
    cases hok:(qds (past 10 p)).2 with
    |false=>
     rw [hok] at hrun hfc
     rw [if_neg (by simp)] at hrun
     rw [← hrun] at hdf
     simp only at hdf
     rw [hdf]
     apply qe []
     repeat' (first|apply And.intro|(intro h;try exact cDd)|(refine Exists.intro (j) ⟨by omega,_,hg,?_⟩)|exact⟨Tryz.call96⟩|refine cpe hcu ?_|exact⟨Tryz.call176⟩|refine cpe hbc ?_|exact⟨Tryz.call177⟩|refine cpe hfc ?_|exact cSd|apply qc []|refine exr ?_|refine qi ?_)
    |true=>
     rw [hok] at hrun hfc
     by_cases h40:acc.length=40
     ·rw [if_neg (by simp [h40])] at hrun
      rw [← hrun] at hdf
      simp only at hdf
      rw [hdf]
      apply qe []
      repeat' (first|apply And.intro|(intro h;try exact cDd)|(refine Exists.intro (j) ⟨by omega,_,hg,?_⟩)|exact⟨Tryz.call96⟩|refine cpe hcu ?_|exact⟨Tryz.call176⟩|refine cpe hbc ?_|exact⟨Tryz.call177⟩|refine cpe hfc ?_|exact cSd|apply qc []|refine exr ?_|refine qi ?_)
     ·rw [if_pos ⟨rfl,h40⟩] at hrun
      have hB2:∀ x∈acc++[⟨kd,n,fs⟩],EdB x:=fun x hx=>by
       rcases List.mem_append.1 hx with hx|hx
       ·exact hB x hx
       ·obtain rfl:=List.mem_singleton.1 hx
        exact q9a hid.1 hid.2 hgf
      apply qe []
      repeat' (first|apply And.intro|(intro h;try exact cDd)|(refine Exists.intro (j) ⟨by omega,_,hg,?_⟩)|exact⟨Tryz.call96⟩|refine cpe hcu ?_|exact⟨Tryz.call176⟩|refine cpe hbc ?_|exact⟨Tryz.call177⟩|refine cpe hfc ?_|(refine Exists.intro (j+1,acc++[⟨kd,n,fs⟩]) ⟨⟨by omega,by simp;omega,hB2,hrun⟩,by simp only;omega,?_⟩)|exact cSd|apply qc []|refine exr ?_|refine qi ?_)
      all_goals (simp;done)
  ·have hd:L.drop j=[]:=List.drop_eq_nil_of_le (by omega)
   rw [hd,decP] at hrun
   rw [← hrun] at hdf
   simp only at hdf
   cases he:eErr acc with
   |no=>
    have hen:=fun st=>qwq acc st hB he
    by_cases ht:encF acc=text
    ·rw [if_pos ⟨he,ht⟩] at hdf
     rw [hdf]
     rw [ht] at hen
     apply qe []
     repeat' (first|apply And.intro|(intro h;try exact cDd)|exact⟨Tryz.call75⟩|refine cpe hen ?_|exact cSd|apply qc []|refine exr ?_|refine qi ?_)
    ·rw [if_neg fun h=>ht h.2] at hdf
     rw [hdf]
     apply qe []
     repeat' (first|apply And.intro|(intro h;try exact cDd)|exact⟨Tryz.call75⟩|refine cpe hen ?_|exact cSd|apply qc []|refine exr ?_|refine qi ?_)
     all_goals exact absurd ht (by assumption)
   |num n=>
    have hen:=fun st=>qki acc st (.num n) hB (by omega) he fun h=>by
     have:=(qdq acc).1 (by rw [he];exact h)
     rw [he] at this
     simp at this
    rw [if_neg fun h=>by rw [he] at h;simp at h] at hdf
    rw [hdf]
    apply qe []
    repeat' (first|apply And.intro|(intro h;try exact cDd)|exact⟨Tryz.call75⟩|refine cpe hen ?_|exact cSd|apply qc []|refine exr ?_|refine qi ?_)
   |at' a n=>
    have hen:=fun st=>qki acc st (.at' a n) hB (by omega) he fun h=>by
     have:=(qdq acc).1 (by rw [he];exact h)
     rw [he] at this
     simp at this
    rw [if_neg fun h=>by rw [he] at h;simp at h] at hdf
    rw [hdf]
    apply qe []
    repeat' (first|apply And.intro|(intro h;try exact cDd)|exact⟨Tryz.call75⟩|refine cpe hen ?_|exact cSd|apply qc []|refine exr ?_|refine qi ?_)
theorem qu8:qyf E:=fun _ _ _ h hb hB _ h2=>h _ (hb.trans (h2.mono hB))
theorem qb6 {α : Type} [DecidableEq α] {a b:List α} {k:Nat} {d : α} (hl:a.length=b.length) (hk:k<a.length) (h:a.take k=b.take k) (h2:a.getD k d=b.getD k d):a.take (k+1)=b.take (k+1):=by
 rw [List.take_succ_eq_append_getElem hk,List.take_succ_eq_append_getElem (by omega),h]
 congr 2
 simpa [List.getD,hk,show k<b.length by omega] using h2
end Go.Proofs.YtmoklbacdkmkaaaGreatDoor
namespace Go.Pl
open Go Go.Proofs Go.Proofs.YtmoklbacdkmkaaaGreatDoor
theorem qan (s:Bytes) (r:List Bytes):zk (s::r)=s++10::zk r:=by simp [zk]
theorem qcl:∀ (ls:List Bytes),(∀ s∈ls,10∉s)→zr (zk ls)=ls.map fun s=>(s,true)
 | [],_=>by simp [zk,v6]
 |s::r,h=>by
  have hs:=h s (by simp)
  rw [qan,wv (by simp),v8 _ hs,xu _ hs,qcl r fun x hx=>h x (by simp [hx])]
  simp
theorem q3i {f:Fld} (h:ka f):∀ s∈zu f,10∉s:=fun s hs=>by
 unfold zu at hs
 rcases List.mem_cons.1 hs with rfl|hs
 ·have h1:=qef f.2 _ (qra f.2)
  have h2:=h.1.2.2.2.2.2
  unfold jp
  split <;> simp_all
 ·obtain⟨x,hx,rfl⟩:=List.mem_map.1 hs
  have h1:=qef f.2 x (List.mem_of_mem_tail hx)
  have:=qud h1
  simp [this]
theorem qom {f:Fld} (h:ka f):∃ hd mr,zu f=hd::mr∧qz hd=4∧∀ s∈mr,qz s=3:=by
 refine⟨_,_,rfl,qwy h.1 (qef f.2 _ (qra f.2)),fun s hs=>?_⟩
 obtain⟨x,hx,rfl⟩:=List.mem_map.1 hs
 exact qwz x (qef f.2 x (List.mem_of_mem_tail hx))
theorem zbi {p:PSt} {k:Int} {t:Bytes} (ht:qz t=3) (hl:p.lines≠[]):wr p k t true=(none,{ p with lines:=p.lines++[t],block:=p.block++[t] }):=by
 have ha:jr p k t true (qz t)=(none,{ p with lines:=p.lines++[t] }):=by
  unfold jr
  rw [if_pos ht,if_neg hl,if_pos rfl]
 unfold wr
 rw [ha,ht]
 simp
theorem qxn {p q:PSt} {k:Int} {t:Bytes} (ht:qz t=4) (hf:jy p=(none,q)):wr p k t true=(none,{ kz q k t with block:=q.block++[t] }):=by
 have ha:jr p k t true (qz t)=(none,q):=by
  unfold jr
  rw [if_neg (by omega),if_neg (by omega)]
  exact hf
 unfold wr
 rw [ha,ht]
 simp
theorem qro:∀ (m:List Bytes) (k:Nat) (p:PSt) (ls:List (Bytes×Bool)),(∀ s∈m,qz s=3)→p.lines≠[] →
  runL k (m.map (fun s=>(s,true))++ls) p=runL (k+m.length) ls { p with lines:=p.lines++m,block:=p.block++m }
 | [],k,p,ls,_,_=>by simp
 |s::m,k,p,ls,h,hl=>by
  have hs:=h s (by simp)
  rw [List.map_cons,List.cons_append,runL,zbi hs hl]
  simp only
  rw [qro m (k+1) _ ls (fun x hx=>h x (by simp [hx])) (by simp)]
  simp only [List.append_assoc,List.cons_append,List.nil_append,List.length_cons]
  congr 1
  omega
theorem qs2 {g:Fld} (hg:ka g) (frm:Int) (its:List zv) (blk:List Bytes) (done:List Fld) (rc:Int):jy ⟨zu g,frm,false,its,blk,done,rc⟩=(none,⟨[],frm,false,its,blk,done++[g],rc⟩):=by
 have hu:=qnm hg
 unfold jy
 rw [if_neg (by simp [zu]),hu]
 simp
theorem q2b:∀ (r:List Fld) (done:List Fld) (g:Fld) (k:Nat) (frm:Int) (blk:List Bytes),ka g→(∀ f∈r,ka f)→done.length+1+r.length≤40→blk≠[] →
  (runL k ((r.flatMap zu).map fun s=>(s,true)) ⟨zu g,frm,false,[],blk,done,0⟩).1=none∧(runL k ((r.flatMap zu).map fun s=>(s,true)) ⟨zu g,frm,false,[],blk,done,0⟩).2.items=[⟨3,zk (blk++r.flatMap zu),done++g::r⟩]
 | [],done,g,k,frm,blk,hg,_,_,hb=>by
  have he:endP ⟨zu g,frm,false,[],blk,done,0⟩=(none,yf ⟨[],frm,false,[],blk,done++[g],0⟩):=by
   unfold endP
   rw [qs2 hg]
  simp only [List.flatMap_nil,List.map_nil,runL,he,List.append_nil]
  refine⟨trivial,?_⟩
  unfold yf
  rw [if_neg hb]
  simp
 |f::r,done,g,k,frm,blk,hg,hr,hl,hb=>by
  have hf:=hr f (by simp)
  obtain⟨hd,mr,hlf,hk4,hk3⟩:=qom hf
  simp only [List.length_cons] at hl
  have hrun:runL k (((f::r).flatMap zu).map fun s=>(s,true)) ⟨zu g,frm,false,[],blk,done,0⟩=runL (k+1+mr.length) ((r.flatMap zu).map fun s=>(s,true)) ⟨zu f,k,false,[],blk++zu f,done++[g],0⟩:=by
   rw [List.flatMap_cons,List.map_append,hlf,List.map_cons,List.cons_append,runL,qxn hk4 (qs2 hg frm [] blk done 0)]
   simp only
   rw [qro mr (k+1) _ _ hk3 (by simp [kz])]
   have hfu:decide ((done++[g]).length=40∨((done++[g]).length=0∧(0:Int)=400))=false:=by
    simp
    omega
   simp only [kz,hfu,List.append_assoc,List.cons_append,List.nil_append]
  rw [hrun]
  have ih:=q2b r (done++[g]) f (k+1+mr.length) k (blk++zu f) hf (fun x hx=>hr x (by simp [hx])) (by simp;omega) (by simp [hb])
  rw [ih.1,ih.2]
  simp [List.flatMap_cons]
theorem qih (fs:List Fld):zq fs=zk (fs.flatMap zu):=by
 induction fs with
 |nil=>rfl
 |cons f r ih=>
  rw [List.flatMap_cons,yi,← ih]
  simp [zq]
theorem qkk {fs:List Fld} (h:∀ f∈fs,ka f):∀ s∈fs.flatMap zu,10∉s:=fun s hs=>by
 obtain⟨f,hf,hs⟩:=List.mem_flatMap.1 hs
 exact q3i (h f hf) s hs
theorem q7e {fs:List Fld} (hg:GF fs) (hne:fs≠[]):jz (zq fs)=(none,[⟨3,zq fs,fs⟩]):=by
 have hl:=qcl _ (qkk hg.2)
 rw [← qih] at hl
 cases fs with
 |nil=>exact absurd rfl hne
 |cons f r=>
  have hf:=hg.2 f (by simp)
  obtain⟨hd,mr,hlf,hk4,hk3⟩:=qom hf
  have hlen:=hg.1
  simp only [List.length_cons] at hlen
  have hrun:runL 0 (((f::r).flatMap zu).map fun s=>(s,true)) p0=runL (0+1+mr.length) ((r.flatMap zu).map fun s=>(s,true)) ⟨zu f,(0:Nat),false,[],zu f,[],0⟩:=by
   have hfl:jy p0=(none,p0):=rfl
   rw [List.flatMap_cons,List.map_append,hlf,List.map_cons,List.cons_append,runL,qxn hk4 hfl]
   simp only
   rw [qro mr (0+1) _ _ hk3 (by simp [kz])]
   simp [kz,p0]
  have ih:=q2b r [] f (0+1+mr.length) (0:Nat) (zu f) hf (fun x hx=>hg.2 x (by simp [hx])) (by simp;omega) (by simp [zu])
  unfold jz
  rw [hl,hrun,ih.1]
  simp only
  rw [ih.2]
  rw [qih,List.flatMap_cons,List.nil_append]
theorem zac:jz []=(none,[]):=by
 unfold jz
 rw [v6]
 rfl
theorem qqh {ls:List Bytes} (h:∀ s∈ls,10∉s):qaf [32,32] (zk ls)=zk (ls.map fun s=>[32,32]++s):=by
 unfold qaf indF
 rw [qcl ls h]
 simp only [zk,List.flatMap_map,xf,if_pos]
theorem q0n {ls:List Bytes} (h:∀ s∈ls,10∉s):∀ s∈ls.map (fun s=>[32,32]++s),10∉s:=fun s hs=>by
 obtain⟨x,hx,rfl⟩:=List.mem_map.1 hs
 have:=h x hx
 simp [this]
theorem qx2 {ls:List Bytes} (h:∀ s∈ls,10∉s):vj [32,32] (qaf [32,32] (zk ls))=(zk ls,true):=by
 rw [qqh h]
 unfold vj
 rw [qcl _ (q0n h),if_pos]
 ·simp [zk,List.flatMap_map,xf]
 ·intro x hx
  obtain⟨s,hs,rfl⟩:=List.mem_map.1 hx
  obtain⟨y,_,rfl⟩:=List.mem_map.1 hs
  exact List.prefix_append _ _
theorem qx4 {fs:List Fld} (hl:fs.length≤40) (hg:∀ f∈fs,ka f):qds (qaf [32,32] (zq fs))=(fs,true):=by
 have hd:vj [32,32] (qaf [32,32] (zq fs))=(zq fs,true):=by
  rw [qih]
  exact qx2 (qkk hg)
 unfold qds
 rw [hd]
 simp only
 by_cases h0:fs=[]
 ·subst h0
  have hp:jz (zq [])=(none,[]):=zac
  rw [hp]
  simp [recsF,zq]
 ·rw [q7e ⟨hl,hg⟩ h0]
  simp [recsF]
theorem qs9 {j k:Int} {s:Bytes} (hj:j=1∨j=2∨j=3) (hk:k=1∨k=2∨k=3) (hne:j≠k):¬ yr j <+: yr k++s:=by
 rintro⟨t,ht⟩
 have h2:=congrArg (List.take 2) ht
 rcases hj with rfl|rfl|rfl <;> rcases hk with rfl|rfl|rfl <;> first|exact absurd rfl hne|(revert h2;simp [yr])
theorem q8p {x:qu} (hk:x.kind=1∨x.kind=2∨x.kind=3) (h1 : -9223372036854775808≤x.id) (h2:x.id≤9223372036854775807):begE (kf x)=some (x.kind,x.id):=by
 have hl:kf x=yr x.kind++Lib.itoa x.id:=by
  unfold kf
  rw [if_pos (by omega)]
 have hself:tryB x.kind (kf x)=some x.id:=by
  unfold tryB
  rw [hl,if_pos (List.prefix_append _ _),List.drop_left,qmb h1 h2]
 have hoth:∀ j:Int,(j=1∨j=2∨j=3)→j≠x.kind→tryB j (kf x)=none:=fun j hj hne=>by
  unfold tryB
  rw [hl,if_neg (qs9 hj hk hne)]
 unfold begE
 rcases hk with h|h|h
 ·rw [h] at hself hoth ⊢
  rw [hself]
 ·rw [h] at hself hoth ⊢
  rw [hoth 1 (by simp) (by decide),hself]
 ·rw [h] at hself hoth ⊢
  rw [hoth 1 (by simp) (by decide),hoth 2 (by simp) (by decide),hself]
def qbd (x:qu):List Bytes:=(x.fields.flatMap zu).map fun s=>[32,32]++s
theorem qk9 (v:Int):∀ c∈Lib.itoa v,c≠10∧c≠32:=fun c hc=>by
 by_cases hv:v<0
 ·rw [qfg hv] at hc
  rcases List.mem_cons.1 hc with rfl|hc
  ·decide
  ·have:=w9 _ _ (Nat.le_refl _) c hc
   constructor <;> rintro rfl <;> simp at this
 ·rw [qfh (by omega)] at hc
  have:=w9 _ _ (Nat.le_refl _) c hc
  constructor <;> rintro rfl <;> simp at this
theorem qcv (x:qu):10∉kf x:=by
 unfold kf
 split
 ·rename_i hk
  have h1:=qk9 x.id
  intro hc
  rcases List.mem_append.1 hc with hc|hc
  ·have:x.kind=1∨x.kind=2∨x.kind=3:=by omega
   rcases this with h|h|h <;> rw [h] at hc <;> revert hc <;> decide
  ·exact (h1 10 hc).1 rfl
 ·simp
theorem qlb {x:qu} (hk:x.kind=1∨x.kind=2∨x.kind=3):¬ [32,32] <+: kf x:=by
 unfold kf
 rw [if_pos (by omega)]
 rintro⟨t,ht⟩
 have h2:=congrArg (List.take 2) ht
 rcases hk with h|h|h <;> rw [h] at h2 <;> revert h2 <;> simp [yr]
theorem qhf {x:qu} (hg:∀ f∈x.fields,ka f):ke x=zk (kf x::qbd x):=by
 unfold ke qbd
 rw [qan,qih,qqh (qkk hg)]
 simp
theorem qwa {x:qu} (hg:∀ f∈x.fields,ka f):∀ s∈qbd x,10∉s:=q0n (qkk hg)
theorem qee (text:Bytes):∀ (m:List Bytes) (k a f:Nat) (R:Bytes),(∀ s∈m,10∉s∧[32,32] <+: s)→∃ k',yh text (vi k a (zk m++R)) f=yh text (vi k' (a+(zk m).length) R) f
 | [],k,a,f,R,_=>⟨k,by simp [zk]⟩
 |s::m,k,a,f,R,h=>by
  obtain⟨h10,hp⟩:=h s (by simp)
  have e:zk (s::m)++R=s++10::(zk m++R):=by rw [qan];simp
  obtain⟨k',ih⟩:=qee text m (k+1) (a+s.length+1) f R fun x hx=>h x (by simp [hx])
  refine⟨k',?_⟩
  rw [e,qat (by simp),v8 _ h10,xu _ h10,yh,if_neg (fun h=>h.2 hp),ih,qan]
  congr 2
  simp
  omega
theorem qn3 {x:qu} (hg:∀ f∈x.fields,ka f):∀ s∈qbd x,10∉s∧[32,32] <+: s:=fun s hs=>⟨qwa hg s hs,by
 obtain⟨y,_,rfl⟩:=List.mem_map.1 hs
 exact List.prefix_append _ _⟩
structure EncG (x:qu):Prop where
 kind:x.kind=1∨x.kind=2∨x.kind=3
 len:x.fields.length≤40
 good:∀ f∈x.fields,ka f
 id1 : -9223372036854775808≤x.id
 id2:x.id≤9223372036854775807
theorem qtr:∀ (r:List qu) (D:Bytes) (x:qu) (k:Nat),EncG x→(∀ y∈r,EncG y) →
  yh (D++(ke x++encF r)) (vi k (D.length+((kf x).length+1)) (zk (qbd x)++encF r)) D.length=ke x::r.map ke
 | [],D,x,k,hx,_=>by
  obtain⟨k',h⟩:=qee (D++(ke x++encF [])) (qbd x) k (D.length+((kf x).length+1)) D.length (encF []) (qn3 hx.good)
  rw [h]
  have e:encF []=[]:=rfl
  rw [e,qar,yh]
  simp
 |y::r,D,x,k,hx,hr=>by
  have hy:=hr y (by simp)
  obtain⟨k',h⟩:=qee (D++(ke x++encF (y::r))) (qbd x) k (D.length+((kf x).length+1)) D.length (encF (y::r)) (qn3 hx.good)
  rw [h]
  have e:encF (y::r)=kf y++10::(zk (qbd y)++encF r):=by
   have:encF (y::r)=ke y++encF r:=by simp [encF]
   rw [this,qhf hy.good,qan]
   simp
  have hlx:(ke x).length=(kf x).length+1+(zk (qbd x)).length:=by
   rw [qhf hx.good,qan]
   simp
   omega
  have e2:encF (y::r)=ke y++encF r:=by simp [encF]
  have hpos:D.length+((kf x).length+1)+(zk (qbd x)).length=(D++ke x).length:=by
   rw [List.length_append,hlx]
   omega
  rw [hpos]
  have hc:vi k' (D++ke x).length (encF (y::r))=⟨k',(D++ke x).length,kf y,true⟩::vi (k'+1) ((D++ke x).length+(kf y).length+1) (zk (qbd y)++encF r):=by
   rw [e,qat (by simp),v8 _ (qcv y),xu _ (qcv y)]
   simp
  have hlt:D.length<(D++ke x).length:=by rw [List.length_append,hlx];omega
  rw [hc,yh,if_pos ⟨hlt,qlb hy.kind⟩]
  have ih:=qtr r (D++ke x) y (k'+1) hy fun z hz=>hr z (by simp [hz])
  have et:D++(ke x++encF (y::r))=(D++ke x)++(ke y++encF r):=by rw [e2];simp
  rw [et]
  have ed:((D++ke x++(ke y++encF r)).take (D++ke x).length).drop D.length=ke x:=by
   rw [List.take_left,List.drop_left]
  rw [ed,List.map_cons]
  simp only
  rw [show (D++ke x).length+(kf y).length+1=(D++ke x).length+((kf y).length+1) by omega,ih]
theorem zad {x:qu} {r:List qu} (hx:EncG x) (hr:∀ y∈r,EncG y):qex (encF (x::r))=(x::r).map ke:=by
 have e2:encF (x::r)=ke x++encF r:=by simp [encF]
 have e:encF (x::r)=kf x++10::(zk (qbd x)++encF r):=by
  rw [e2,qhf hx.good,qan]
  simp
 have h:=qtr r [] x 1 hx hr
 simp only [List.nil_append,List.length_nil,Nat.zero_add] at h
 have hc:lns (encF (x::r))=⟨0,0,kf x,true⟩::vi 1 ((kf x).length+1) (zk (qbd x)++encF r):=by
  unfold lns
  rw [e,qat (by simp),v8 _ (qcv x),xu _ (qcv x)]
  simp
 unfold qex
 rw [hc,yh,if_neg (by simp),e2,h]
 rfl
theorem qzx:∀ (r acc:List qu),(∀ y∈r,EncG y)→acc.length+r.length≤40→decP (r.map ke) acc=some (acc++r)
 | [],acc,_,_=>by simp [decP]
 |x::r,acc,h,hl=>by
  have hx:=h x (by simp)
  simp only [List.length_cons] at hl
  have hu:upto 10 (ke x)=kf x:=by
   unfold ke
   rw [List.append_assoc]
   exact v8 _ (qcv x)
  have hp:past 10 (ke x)=qaf [32,32] (zq x.fields):=by
   unfold ke
   rw [List.append_assoc]
   exact xu _ (qcv x)
  have hfl:=qx4 hx.len hx.good
  rw [List.map_cons,decP,hu,q8p hx.kind hx.id1 hx.id2]
  simp only [hp,hfl]
  rw [if_pos ⟨trivial,by omega⟩]
  have ih:=qzx r (acc++[⟨x.kind,x.id,x.fields⟩]) (fun y hy=>h y (by simp [hy])) (by simp;omega)
  rw [ih]
  simp
theorem qu5 {x:qu} (h:gErr x = .no) (hB:EdB x):EncG x:=by
 obtain⟨h1,h2⟩:=qi2 h
 refine⟨?_,h1,h2,hB.id1,hB.id2⟩
 unfold gErr at h
 split at h
 ·exact .inr (.inl (by assumption))
 ·split at h
  ·rename_i hk;omega
  ·simp at h
theorem zfi {b:List qu} (he:eErr b = .no) (hB:∀ x∈b,EdB x) (hl:(encF b).length≤50000):decF (encF b)=some b:=by
 obtain⟨h1,h40,hg⟩:=qck he
 have hG:∀ y∈b,EncG y:=fun y hy=>qu5 (hg y hy) (hB y hy)
 unfold decF
 rw [if_neg (by omega)]
 cases b with
 |nil=>simp at h1
 |cons x r=>
  rw [zad (hG x (by simp)) (fun y hy=>hG y (by simp [hy])),qzx (x::r) [] hG (by simp at h40 ⊢;omega)]
  simp only [List.nil_append]
  rw [if_pos ⟨he,trivial⟩]
theorem qzy {text:Bytes} {b:List qu} (h:decF text=some b):eErr b = .no∧encF b=text∧text.length≤50000:=by
 unfold decF at h
 split at h
 ·simp at h
 ·split at h
  ·simp at h
  ·split at h
   ·rename_i hc
    cases h
    exact⟨hc.1,hc.2,by omega⟩
   ·simp at h
end Go.Pl
