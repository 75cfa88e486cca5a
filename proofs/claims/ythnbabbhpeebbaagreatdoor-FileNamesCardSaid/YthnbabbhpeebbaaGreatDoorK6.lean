/- Contracts and plain facts that the closing text leans on (part 6). No condition of their own beyond those that each states. -/
import Derived.Test.YthnbabbhpeebbaaGreatDoorK5
import Derived.Maps.RangeRun
import Derived.LaidEql
import Derived.Stop.Asserts
import Derived.RowKitTokens
import Derived.Lib.IfaceEq
import Derived.Laws.StructEq
set_option maxRecDepth 100000
set_option linter.unusedVariables false
set_option linter.unusedSimpArgs false
open And renaming intro→Qa
open Array renaming getElem?_eq_none→Qp,getElem?_eq_some_iff→Qs,getElem?_modify→Zf
open Exists renaming intro→Qb
open List renaming length_cons→Qc,length_append→Qe,mem_map→Qf,mem_cons→Qh,flatMap_cons→Qi,length_nil→Qj,nil_append→Qk,map_cons→Ql,not_mem_nil→Qm,getElem?_eq_getElem→Qn,mem_append→Qo,drop_eq_nil_of_le→Qq,cons_append→Qr,getElem?_eq_some_iff→Qt,drop_eq_getElem_cons→Qu,append_nil→Qv,length_eq_zero_iff→Qw,append_assoc→Qx,take_succ_eq_append_getElem→Qy,mem_of_getElem?→Qz,length_pos_iff→Za,prefix_append→Zb,getElem?_append_left→Zc,getElem?_cons_zero→Ze,getElem?_set_ne→Zg,mem_of_mem_tail→Zh,mem_singleton→Zj,length_drop→Zk,mem_flatMap→Zl,flatMap_map→Zm,map_append→Zn,drop_left→Zo,length→Zq,take→Zr
open List.Pairwise renaming imp→Zt
open Nat renaming le_of_ble_eq_true→Qd,le_refl→Qg,lt_or_ge→Zd,le_trans→Zi,ne_of_lt→Zp
open Option.some renaming injEq→Zs,inj→Zu
namespace Go.Av
open Go Go.RowKit
theorem zge{G:Gh}{x:AV}{v:Value}(h1:Rel G x v):Rel G (.tu [x]) (.tuple #[v]):=
 .tu _ _ rfl λi a b ha hb=>by
  match i with
  |0=>
   simp only[Ze,Zs]at ha;simp at hb;subst ha;subst hb
   exact h1
  |i+1=>simp at ha
section
variable {E : Env} {rd : Option Nat} {N : Nat} {ops : Array Oper} {K : AS → Prop} {s : AS} {rest : List Oper} {d : Option Tmp} {T : TypeId} {p : String} {af : Array Edge}
theorem q1v{t kt vt:TypeId}{x:Operand}{o clock:Nat}{es:List MapEntry}(hx:qg N s x=.mp o)(ho:s.st[o]?=some (.map es clock))(hu:E.P.underlying t=some (.map kt vt))
  (h:AOps E rd N ops rest K (AS.put ⟨s.t,s.st++[.iter (.mp o) clock #[] clock],s.df⟩ d (.bx s.st.length 0 0))):AOps E rd N ops (⟨d,.range t x,T,p,af,none⟩::rest) K s:=by
 refine qv rfl (qu nofun λB0 w0 G a w _ hI=>?_);have hn:=hI.agree.n;have he:=hI.eval_of hx;generalize sq:a.eval x=v at he
 cases he with
 |mp _ b h1 hr hb=>
  obtain⟨_,_,h4⟩:=hI.agree.ob o _ ho;rw[hb]at h4
  have hA:=hI.agree.newAny 0 true (.iter (.mp o) clock #[] clock) (.mapIter (some b) clock #[] clock) ⟨by simp[Gh.new,hn],by simp[Gh.new,hn],by simp[Gh.new,hn];exact hI.agree.hB,b,Rel.mono (G.le_new 0 w.heap.size 0 true) (.mp o b h1 hr hb),by
   have e:((G.new 0 w.heap.size 0 true).ob s.st.length).blk=w.heap.size:=by simp[Gh.new,hn]
   rw[e]
   exact ww w _⟩
  refine⟨.pointer (some ⟨w.heap.size,0,none⟩),_,_,_,_,?_,G.le_new _ _ _ _,hA,.bx _ _ _ _ (by simp[Gh.new,hn]) Sx (λ_=>by simp[Gh.new,hn]),h⟩;simp only[execOp,sq,Instr.range,Sem.run_bind,run_underlying hu,Result.andThen];simp[getObj,newObj,Sem.run,h4]
theorem q4r{x:Operand}{oi om since last clock:Nat}{seen:Array Nat}{es:List MapEntry}(hx:qg N s x=.bx oi 0 0)(hi:s.st[oi]?=some (.iter (.mp om) since seen last))(hm:s.st[om]?=some (.map es clock))(e9:∀e∈es,e.born<since)(hsc:since<=last)
  (h0:(∀e∈es,e.born∈seen)->AOps E rd N ops rest K (AS.put s d (.tu [Bv false])))
  (h1:∀e∈es,e.born∉seen->AOps E rd N ops rest K (AS.put ⟨s.t,s.st.set oi (.iter (.mp om) since (seen.push e.born) clock),s.df⟩ d (.tu [Bv true,.v e.key,.v e.val]))):AOps E rd N ops (⟨d,.next x false,T,p,af,none⟩::rest) K s:=by
 refine qv rfl (qu nofun λB0 w0 G a w _ hI=>?_);obtain⟨r1,r0,r2,b,r3,r4⟩:=hI.agree.ob oi _ hi;obtain⟨_,_,m4⟩:=hI.agree.ob om _ hm;have hb:(G.ob om).blk=b:=by cases r3;assumption
 rw[hb]at m4;have he:=hI.eval_of hx;generalize sq:a.eval x=v at he
 cases he with
 |bx _ _ _ bi k1 k2 k3=>
  have hbi:=k3 r0;have r5:=r4;rw[hbi]at r4;rcases run_next_at (P:=E.P) w T bi b since last seen es.toArray clock r4 m4 (by simpa using e9) hsc with⟨hz,a8⟩|⟨e,he,w1,hw1,a8⟩
  .have i6:∀e∈es,e.born∈seen:=λe he=>by
    by_cases hc:e.born∈seen
    .exact hc
    .have hf:leftOf es.toArray seen= #[]:=Array.eq_empty_of_size_eq_zero hz
     unfold leftOf at hf;have:=(Array.filter_eq_empty_iff.1 hf) e (by simpa using he);simp at this;exact absurd this hc
   refine⟨_,w,G,_,s.st,?_,.refl G,hI.agree,zge (.v (.bool false)),h0 i6⟩;simp only[execOp,sq];rw[Sem.run_bind,a8];rfl
  .have dq:e∈es∧e.born∉seen:=by
    unfold leftOf at he
    simpa using he
   have hBl:Below w.heap.size w w1∧w1.heap=w.heap:=by
    rcases hw1 with rfl|rfl
    .exact⟨.refl _ _,rfl⟩
    .exact⟨⟨rfl,rfl,rfl,Qg _,λ_ _=>rfl⟩,rfl⟩
   have gq:=hI.agree.fresh hBl.1;refine⟨_,_,G,_,_,?_,.refl G,gq.putRaw (x':=.iter (.mp om) since (seen.push e.born) clock) (y':=.mapIter (some b) since (seen.push e.born) clock) hi trivial r1 (by rw[hBl.2];exact r5) Sx ⟨r1,r0,r2,b,r3,?_⟩,qpp (.v (.bool true)) (.v e.key) (.v e.val),h1 e dq.1 dq.2⟩
   .simp only[execOp,sq]
    rw[Sem.run_bind,a8,hbi];rfl
   .have e8:(G.ob oi).blk<w1.heap.size:=by rw[hBl.2];exact(Qs.1 r5).1
    simp[World.putObj,e8]
theorem q1r{x:Operand}{oi om since last clock:Nat}{seen:Array Nat}{es:List MapEntry}{e:MapEntry}(hx:qg N s x=.bx oi 0 0)(hi:s.st[oi]?=some (.iter (.mp om) since (seen.push e.born) last))(hl:last=clock)(hm:s.st[om]?=some (.map es clock))(he:e∈es)(t6:qb4 es clock)
  (h:AOps E rd N ops rest K (AS.put s d (.tu [.v e.key,.v e.val]))):AOps E rd N ops (⟨d,.entry x,T,p,af,none⟩::rest) K s:=by
 subst hl;refine qv rfl (qu nofun λB0 w0 G a w _ hI=>?_);obtain⟨r1,r0,r2,b,r3,r4⟩:=hI.agree.ob oi _ hi;obtain⟨_,_,m4⟩:=hI.agree.ob om _ hm;have hb:(G.ob om).blk=b:=by cases r3;assumption
 rw[hb]at m4;have hex:=hI.eval_of hx;generalize sq:a.eval x=v at hex
 cases hex with
 |bx _ _ _ bi k1 k2 k3=>
  have hbi:=k3 r0;rw[hbi]at r4
  have bv:(es.toArray.toList.map (·.born)).Nodup:=by
   simp only[List.toList_toArray];refine Zt (R:=λa b=>a<b) (λh=>Zp h) ?_;exact List.pairwise_map.2 t6.up
  have a8:=run_entry_at (P:=E.P) w bi b since seen es.toArray last e r4 m4 (by simpa using he) bv;refine⟨_,w,G,_,s.st,?_,.refl G,hI.agree,qgr (.v e.key) (.v e.val),h⟩;simp only[execOp,sq];rw[Sem.run_bind,a8];rfl
def mdel{α:Type}(l:List α):Option (Nat×Value)->List α
 |some (i,_)=>l.eraseIdx i
 |none=>l
theorem zch{α β:Type}(f:α->β)(l:List α)(r:Option (Nat×Value)):(mdel l r).map f=mdel (l.map f) r:=by
 cases r with
 |none=>rfl
 |some q=>simp[mdel,List.eraseIdx_eq_take_drop_succ,List.map_take,List.map_drop]
theorem qb4.del{es:List MapEntry}{clock:Nat}(h:qb4 es clock)(r:Option (Nat×Value)):qb4 (mdel es r) clock:=by
 cases r with
 |none=>exact h
 |some q=>exact⟨h.up.sublist (List.eraseIdx_sublist ..),λe he=>h.lt e (List.mem_of_mem_eraseIdx he)⟩
theorem q1t{t u kt vt:TypeId}{kd:TypeDesc}{x y:Operand}{o:Nat}{k:Value}{es:List MapEntry}{clock:Nat}{r:Option (Nat×Value)}(hx:qg N s x=.mp o)(hy:qg N s y=.v k)(ho:s.st[o]?=some (.map es clock))
  (hu:E.P.underlying t=some (.map kt vt)) (hk:E.P.underlying kt=some kd) (r7:mkey kd k=true) (hf:yx kd k (es.map kvE) 0=some r)
  (h:AOps E rd N ops rest K (AS.put ⟨s.t,s.st.set o (.map (mdel es r) clock),s.df⟩ d (.tu []))):AOps E rd N ops (⟨d,.call ⟨.builtin .delete,#[x,y],#[t,u]⟩,T,p,af,none⟩::rest) K s:=by
 refine qv rfl (qu nofun λB0 w0 G a w _ hI=>?_);have hv:=hI.evalv hy;have he:=hI.eval_of hx;generalize sq:a.eval x=v at he
 cases he with
 |mp _ b hn hr hb=>
  obtain⟨hraw,mz,h4⟩:=hI.agree.ob o _ ho;have h5:=h4;rw[hb]at h4;have e8:(G.ob o).blk<w.heap.size:=(Qs.1 h5).1;refine⟨.tuple #[],_,G,.tu [],_,?_,.refl G,hI.agree.putRaw (x':=.map (mdel es r) clock) (y':=.map (mdel es r).toArray clock) ho trivial hraw h5 Sx ⟨hraw,mz,by simp[World.putObj,e8]⟩,.tu [] #[] rfl Sx,h⟩
  have ld:(Builtin.delete_ #[t,u] T #[.map (some b),k]).run E.P w=.ok (.tuple #[]) (w.putObj b (.map (mdel es r).toArray clock)):=by
   unfold Builtin.delete_;simp only[List.getElem?_toArray,Ze,List.getElem?_cons_succ,Sem.run_bind,run_underlying hu,Result.andThen_ok];simp only[getObj,Sem.run,h4,Result.andThen_ok,Sem.run_bind];rw[show(10000:Nat)=9999+1 from rfl,qju hk r7];simp only[Result.andThen_ok];rw[qk4 hk hf];simp only[Result.andThen_ok]
   cases r with
   |none=>simp[setObj,Sem.run,World.putObj,h4,mdel]
   |some q=>
    obtain⟨i,v0⟩:=q;obtain⟨_,q0,hq1,_⟩:=qms hf
    have hi:i<es.length:=by
     have:=lt_of_getElem? hq1
     simpa using this
    simp[setObj,Sem.run,World.putObj,h4,mdel,Array.eraseIdxIfInBounds,hi]
  rw[hb];simp only[execOp,resolve,invoke,builtin];simp[sq,hv,ld]
end
end Go.Av
namespace Go.Av
open Go Go.RowKit
def getM{α:Type}[DecidableEq α](s:α):List (α×Int)->Int
 | []=>0
 |q::r=>if q.1=s then q.2 else getM s r
def setM{α:Type}[DecidableEq α](s:α)(n:Int):List (α×Int)->List (α×Int)
 | []=>[(s,n)]
 |q::r=>if q.1=s then(s,n)::r else q::setM s n r
section
variable {α : Type} [DecidableEq α] {kd : TypeDesc} {key : α → Value}
def kvM(key:α->Value)(q:α×Int):Value×Value:=(key q.1,.int .i64 q.2)
theorem qu6(hs:∀a b,Instr.sameNow kd (key a) (key b)=some (decide (b=a)))(s:α)(n:Int):∀(L:List (α×Int))(pre:List (Value×Value)),∃r,yx kd (key s) (L.map (kvM key)) pre.length=some r∧mval (.int .i64 0) r=.int .i64 (getM s L)∧mset (pre++L.map (kvM key)) (key s) (.int .i64 n) r=pre++(setM s n L).map (kvM key)
 | [],pre=>⟨none,rfl,rfl,by simp[mset,setM,kvM]⟩
 |q::r,pre=>by
  rw[Ql,yx]
  show∃r',(match Instr.sameNow kd (key s) (key q.1)with|some true=>_|some false=>_|none=>_)=some r'∧_
  rw[hs];unfold getM setM;by_cases h:q.1=s
  .rw[if_pos h,if_pos h]
   simp only[h,decide_true];refine⟨_,rfl,rfl,?_⟩;simp only[mset];rw[List.set_append_right _ _ (Qg _),Nat.sub_self];rfl
  .rw[if_neg h,if_neg h]
   simp only[h,decide_false];obtain⟨r',h1,h2,h3⟩:=qu6 hs s n r (pre++[kvM key q]);rw[Qe,List.length_singleton]at h1;exact⟨r',h1,h2,by simpa using h3⟩
variable {E : Env} {N : Nat} {ops : Array Oper} {nx : Nat} {sl : List (Nat × SV)} {H : Nat → Option SR} {k : Ef → Prop} {d : Option Tmp} {T : TypeId} {p : String} {af : Array Edge}
theorem qz5{t kt vt:TypeId}{x y q:Operand}{b:Nat}{L:List (α×Int)}{v w:SV}{s:α}{n:Int}(hs:∀a b,Instr.sameNow kd (key a) (key b)=some (decide (b=a)))(hx:sval N sl x=some (.tp b))(hH:H b=some (.obj (mapP (L.map (kvM key)))))(hy:sval N sl y=some v)(hv:∀ρ,v.ev ρ=.v (key s))(hq:sval N sl q=some w)(hw:∀ρ,w.ev ρ=.v (.int .i64 n))
  (hu:E.P.underlying t=some (.map kt vt)) (hk:E.P.underlying kt=some kd) (r7:mkey kd (key s)=true)
  (h:k ⟨.a (.v undef),[b],[(b,some (.obj (mapP ((setM s n L).map (kvM key)))))],nx⟩):∃e,Loc E N ops ⟨d,.mapUpdate t x y q,T,p,af,none⟩ nx sl H e∧k e:=by
 obtain⟨r,h1,_,h3⟩:=qu6 hs s n L [];rw[Qk,Qk]at h3;rw[<-h3]at h;exact zfz hx hH hy hv hq hw hu hk r7 h1 h
end
def keyS(l:List UInt8):Value:=.string ⟨l.toArray⟩
theorem qhx(a b:List UInt8):Instr.sameNow .string (keyS a) (keyS b)=some (decide (b=a)):=by
 show some ((⟨a.toArray⟩:ByteArray)==⟨b.toArray⟩)=_
 congr 1;by_cases h:b=a
 .subst h
  rw[decide_eq_true rfl];exact(Go.MapKept.bytes_beq _ _).2 rfl
 .rw[decide_eq_false h]
  refine Bool.eq_false_iff.2 λe=>h ?_;have:=(Go.MapKept.bytes_beq _ _).1 e;have:=congrArg (λx:ByteArray=>x.data.toList) this
  simpa using this.symm
end Go.Av
namespace Go.Pl
open Go Go.Proofs
structure jc where
 kind:Int
 raw:qa
 fields:List Fld
structure PSt where
 lines:List qa
 frm:Int
 full:Bool
 items:List jc
 block:List qa
 fields:List Fld
 records:Int
def jr(p:PSt):Option (Int×Int)×PSt:=
 if p.lines=[]then(none,p)
 else if(j8 p.lines).2≠0 then(some (p.frm,(j8 p.lines).2),p)
 else if p.full=true then(some (p.frm,11),p)
 else(none,{p with lines:=[],fields:=p.fields++[(j8 p.lines).1]})
end Go.Pl
namespace Go.Proofs.YthnbabbhpeebbaaGreatDoor
open Go Go.Av Go.RowKit Go.Proofs Go.Pl
@[reducible] def qaj (x : jc) : AV := .ag [Iv x.kind, Sv x.raw, wn x.fields]
@[reducible] def qc1 (xs : List jc) : AV := .sl 3 (xs.map qaj) none
@[reducible] def parC (c1 c2 c3 c4 : AV) (p : PSt) : List AV := [c1, Iv p.frm, Bv p.full, c2, c3, c4, Iv p.records]
@[reducible] def parO (c1 c2 c3 c4 : AV) (p : PSt) : AObj := .cells 0 216 (parC c1 c2 c3 c4 p)
structure ParS (b o:Nat) (p:PSt) (st:List AObj) (c1 c2 c3 c4:AV):Prop where
 lt:o<b
 le:b<=st.length
 ob:st[o]?=some (parO c1 c2 c3 c4 p)
 h1:TipC b st 1 9 (p.lines.map λx=>Sv x) c1
 h2:TipC b st 3 208 (p.items.map qaj) c2
 h3:TipC b st 1 9 (p.block.map λx=>Sv x) c3
 h4:TipC b st 2 117 (p.fields.map fldA) c4
 ne:∀t xs ys,c1=.sl 1 xs (some t)->c3=.sl 1 ys (some t)->False
structure Keep (b o:Nat) (st st':List AObj):Prop where
 len:st.length<=st'.length
 same:∀k,k≠o->k<st.length->(k<b∨qjp st[k]?)->st'[k]?=st[k]?
theorem Keep.trans{b o:Nat}{st st' st'':List AObj}(h:Keep b o st st')(k:Keep b o st' st''):Keep b o st st'':=⟨Zi h.len k.len,λi d7 hi hc=>by
 have e:=h.same i d7 hi hc;refine(k.same i d7 (Nat.lt_of_lt_of_le hi h.len) ?_).trans e;rw[e]
 exact hc⟩
def qhj(a n:Int):AV:=.ifc 125 (.pp [Iv a,.ifc 43 (Iv n)])
def errP:Option (Int×Int)->AV
 |none=>.v .nilIface
 |some (a,n)=>qhj a n
theorem qk0(a n:Int):Pure (qhj a n):=qcu (qve λx hx=>by
 simp only[Qh,Qm,or_false]at hx;rcases hx with rfl|rfl
 .exact qw _
 .exact qcu (qw _))
theorem qm0(a n:Int)(st:List AObj):qm E 186 [Iv a,.ifc 43 (Iv n)] st λr st'=>r=qhj a n∧st'=st:=by
 refine ze (qk0 a n) (qq Tryz.func186 rfl (Qd rfl) ?_);repeat' (first|(apply qnp;(iterate 3 exact rfl))|apply qp|apply qi|apply qh|apply ql|apply qj|(apply vc;exact rfl;exact rfl)|(apply yc;(iterate 3 exact rfl))|apply q7)
 exact qo rfl (zt rfl) ⟨rfl,_,rfl⟩
theorem q6x(ls:List qa)(t:Option Nat)(st:List AObj)(hB:LsB ls)(h:(j8 ls).2=0):qm E 232 [.sl 1 (ls.map λx=>Sv x) t] st λr st'=>r=.tu [fldA (j8 ls).1,.v .nilIface]∧st'=st:=by
 have:=qnj ls st hB;unfold qgz at this;rw[h]at this;exact qpt (qne _ _ _) this
theorem q6y(ls:List qa)(t:Option Nat)(st:List AObj)(hB:LsB ls)(h:(j8 ls).2≠0):qm E 232 [.sl 1 (ls.map λx=>Sv x) t] st λr st'=>r=.tu [fldA (j8 ls).1,.ifc 43 (Iv (j8 ls).2)]∧st'=st:=by
 have:=qnj ls st hB;unfold qgz at this;rw[qli h]at this;exact qpt (qne _ _ _) this
structure PB (n:Nat) (p:PSt):Prop where
 small:n<900000
 lines:p.lines.length<=n
 linesV:∀s∈p.lines,s.length<1000000
 items:p.items.length<=n
 block:p.block.length<=n
 blockV:∀s∈p.block,s.length<1000000
 fields:p.fields.length<=n
 rec0:0<=p.records
 rec1:p.records<=n
theorem PB.ls{n:Nat}{p:PSt}(h:PB n p):LsB p.lines:=⟨by have:=h.lines;have:=h.small;omega,h.linesV⟩
theorem ParS.pre{b o:Nat}{p:PSt}{st l:List AObj}{c1 c2 c3 c4:AV}(P:ParS b o p st c1 c2 c3 c4):ParS b o p (st++l) c1 c2 c3 c4:=
 ⟨P.lt,by have:=P.le;simp;omega,qay P.ob,qjz P.h1,qjz P.h2,qjz P.h3,qjz P.h4,P.ne⟩
end Go.Proofs.YthnbabbhpeebbaaGreatDoor
namespace Go.Pl
open Go Go.Proofs
def x4(p:PSt):PSt:=
 if p.block=[]then {p with block:=[],fields:=[]}
 else {p with items:=p.items++[⟨if p.fields=[]then 2 else 3,zp p.block,p.fields⟩],records:=if p.fields=[]then p.records else p.records+1,block:=[],fields:=[]}
def endP(p:PSt):Option (Int×Int)×PSt:=match(jr p).1 with
 |some e=>(some e,p)
 |none=>(none,x4 (jr p).2)
theorem qoh:∀(x:qa)(r:List qa),Lib.join (x::r) [10]++[10]=zp (x::r)
 |x,[]=>by rw[Lib.join_one];simp[zp]
 |x,y::r=>by
  have ih:=qoh y r;rw[Lib.join_cons]at ih⊢;unfold Lib.joinTail at ih⊢;simp only[Ql,List.flatten_cons,zp,Qi]at ih⊢;rw[<-ih];simp
theorem qm9:∀(r:List qa),(∀s∈r,s.length<1000000)->(zp r).length<=1000001*r.length
 | [],_=>by simp[zp]
 |a::r,h=>by
  have ih:=qm9 r λs hs=>h s (by simp[hs]);have ha:=h a Sx;simp only[zp,Qi,Qe,Qc,Qj]at ih⊢;omega
end Go.Pl
namespace Go.Proofs.YthnbabbhpeebbaaGreatDoor
open Go Go.Av Go.RowKit Go.Proofs Go.Pl
theorem qhm{n:Nat}{p:PSt}(h:PB n p)(hs:n+1<900000):PB (n+1) (jr p).2:=by
 have h1:=h.lines;have h2:=h.items;have h3:=h.block;have h4:=h.fields;have h5:=h.rec0;have h6:=h.rec1;unfold jr;split
 .exact⟨hs,by simp only;omega,h.linesV,by simp only;omega,by simp only;omega,h.blockV,by simp only;omega,h5,by simp only;omega⟩
 .split
  .exact⟨hs,by simp only;omega,h.linesV,by simp only;omega,by simp only;omega,h.blockV,by simp only;omega,h5,by simp only;omega⟩
  .split
   .exact⟨hs,by simp only;omega,h.linesV,by simp only;omega,by simp only;omega,h.blockV,by simp only;omega,h5,by simp only;omega⟩
   .exact⟨hs,Sx,Sx,by simp only;omega,by simp only;omega,h.blockV,So,h5,by simp only;omega⟩
theorem zfn(xs:List qa)(tip:Option Nat)(st:List AObj)(d7:xs≠[])(hN:xs.length<=900000)(hv:∀s∈xs,s.length<1000000):qm E 177 [.sl 1 (xs.map λx=>Sv x) tip,Sv [10]] st λr st'=>r=Sv (Lib.join xs [10])∧st'=st:=by
 refine q8t xs tip [10] st Om ?_;have h1:=qm9 xs hv
 cases xs with
 |nil=>exact absurd rfl d7
 |cons x r=>
  have h2:=congrArg Zq (qoh x r);rw[Qe]at h2;simp only[Qc,Qj]at h2 h1 hN;omega
def parH(a:Nat)(p:PSt):List (Nat×Option SR):=[(0,some (.cells 216 [.tp a,.i p.frm,.b p.full,.tp (a+1),.tp (a+2),.tp (a+3),.i p.records])),(a,some (.tip 1 9 (p.lines.map λx=>Sv x))),(a+1,some (.tip 3 208 (p.items.map qaj))),(a+2,some (.tip 1 9 (p.block.map λx=>Sv x))),(a+3,some (.tip 2 117 (p.fields.map fldA)))]
theorem qq8(n:Nat)(p:PSt)(hB:PB n p):qz E 188 [.bx 0 0] 5 (hpF (parH 1 p)) ⟨.a (errP (jr p).1),q8 (parH 1 p),parH 5 (jr p).2++q9 (parH 1 p),9⟩:=by
 refine je [.bx 0 0] (parH 1 p) 5 (.a (errP (jr p).1)) (parH 5 (jr p).2) 9 Tryz.func188 rfl rfl rfl rfl λS F ρ=>?_;have hls:=hB.ls;have hsm:=hB.small;have r6:=hB.fields;by_cases h0:p.lines=[]
 .have e:jr p=(none,p):=by unfold jr;rw[if_pos h0]
  rw[e];have pk:(p.lines.map λx=>Sv x).length=0:=by simp[h0]
  apply qd [];repeat' (first|apply Qa|(intro h;try exact cDd)|exact cSd|apply qb []|refine exr ?_|refine qf ?_)
 .have pk:(p.lines.map λx=>Sv x).length≠0:=by simp[h0]
  by_cases hu:(j8 p.lines).2=0
  .have sm:=λst=>q6x p.lines none st hls hu
   cases hf:p.full with
   |true=>
    have e:jr p=(some (p.frm,11),p):=by unfold jr;rw[if_neg h0,if_neg (by simp[hu]),if_pos hf]
    rw[e];have hft:=λst=>qm0 p.frm 11 st;apply qd []
    repeat' (first|apply Qa|(intro h;try exact cDd)|exact⟨Tryz.call232⟩|refine cpe sm ?_|exact⟨Tryz.call186⟩|refine cpe hft ?_|(exact absurd (by assumption:p.full=false) (by rw[hf];decide))|exact cSd|apply qb []|refine exr ?_|refine qf ?_)
   |false=>
    have e:jr p=(none,{p with lines:=[],fields:=p.fields++[(j8 p.lines).1]}):=by unfold jr;rw[if_neg h0,if_neg (by simp[hu]),if_neg (by simp[hf])]
    rw[e];apply qd [51];repeat' (first|apply Qa|(intro h;try exact cDd)|exact⟨Tryz.call232⟩|refine cpe sm ?_|(exact absurd (by assumption:p.full=true) (by rw[hf];decide))|exact cSd|apply qb [51]|refine exr ?_|refine qf ?_)
    all_goals first|(simp[SV.evs,SV.ev];done)|(simp[SV.evs];omega)
  .have sm:=λst=>q6y p.lines none st hls hu
   have e:jr p=(some (p.frm,(j8 p.lines).2),p):=by unfold jr;rw[if_neg h0,if_pos hu]
   rw[e];have hft:=λst=>qm0 p.frm (j8 p.lines).2 st;apply qd [];repeat' (first|apply Qa|(intro h;try exact cDd)|exact⟨Tryz.call232⟩|refine cpe sm ?_|exact⟨Tryz.call186⟩|refine cpe hft ?_|exact cSd|apply qb []|refine exr ?_|refine qf ?_)
theorem q30(n:Nat)(p:PSt)(hB:PB n p)(hs:n+1<900000):qz E 145 [.bx 0 0] 5 (hpF (parH 1 p)) ⟨.a (errP (endP p).1),q8 (parH 1 p),parH 5 (endP p).2++q9 (parH 1 p),9⟩:=by
 refine je [.bx 0 0] (parH 1 p) 5 (.a (errP (endP p).1)) (parH 5 (endP p).2) 9 Tryz.func145 rfl rfl rfl rfl λS F ρ=>?_;have dg:=qq8 n p hB;have ng:=qhm hB hs
 have pd:∀e,(jr p).1=some e->(jr p).2=p:=λe=>by
  unfold jr;split
  .simp
  .split
   .simp
   .split
    .simp
    .simp
 unfold endP;generalize jr p=fq at dg ng pd;obtain⟨fe,q⟩:=fq
 cases fe with
 |some e=>
  obtain rfl:=pd e rfl;obtain⟨a,k⟩:=e;apply qd []
  repeat' (first|apply Qa|(intro h;try exact cDd)|exact⟨Tryz.call188⟩|(refine qx dg ?_)|exact cSd|apply qb []|refine exr ?_|refine qf ?_)
 |none=>
  dsimp only at ng dg;have h3:=ng.fields;have h4:=ng.rec0;have h5:=ng.rec1;have h1:=ng.block;have h2:=ng.items;by_cases hb:q.block=[]
  .have e:x4 q={q with block:=[],fields:=[]}:=by unfold x4;rw[if_pos hb]
   simp only[e];have pk:(q.block.map λx=>Sv x).length=0:=by simp[hb]
   apply qd [];repeat' (first|apply Qa|(intro h;try exact cDd)|exact⟨Tryz.call188⟩|(refine qx dg ?_)|exact cSd|apply qb []|refine exr ?_|refine qf ?_)
  .have pk:(q.block.map λx=>Sv x).length≠0:=by simp[hb]
   have tg:=qm9 q.block ng.blockV
   obtain⟨b,r,gj⟩:∃b r,q.block=b::r:=by
    cases hq:q.block with
    |nil=>exact absurd hq hb
    |cons b r=>exact⟨b,r,rfl⟩
   have hjt:=qoh b r;rw[<-gj]at hjt;have hjl:=congrArg Zq hjt;simp only[Qe,Qc,Qj]at hjl;have hjo:=λst=>zfn q.block none st hb Om ng.blockV;by_cases hf:q.fields=[]
   .have e:x4 q={q with items:=q.items++[⟨2,zp q.block,q.fields⟩],records:=q.records,block:=[],fields:=[]}:=by unfold x4;rw[if_neg hb,if_pos hf,if_pos hf]
    simp only[e];have dp:(q.fields.map fldA).length=0:=by simp[hf]
    apply qd [];repeat' (first|apply Qa|(intro h;try exact cDd)|exact⟨Tryz.call188⟩|(refine qx dg ?_)|exact⟨Tryz.call177⟩|refine cpe hjo ?_|exact cSd|apply qb []|refine exr ?_|refine qf ?_)
    all_goals first|(simp[SV.evs,SV.ev,hjt];done)|(simp[SV.evs];omega)
   .have e:x4 q={q with items:=q.items++[⟨3,zp q.block,q.fields⟩],records:=q.records+1,block:=[],fields:=[]}:=by unfold x4;rw[if_neg hb,if_neg hf,if_neg hf]
    simp only[e];have dp:(q.fields.map fldA).length≠0:=by simp[hf]
    apply qd [];repeat' (first|apply Qa|(intro h;try exact cDd)|exact⟨Tryz.call188⟩|(refine qx dg ?_)|exact⟨Tryz.call177⟩|refine cpe hjo ?_|exact cSd|apply qb []|refine exr ?_|refine qf ?_)
    all_goals first|(simp[SV.evs,SV.ev,hjt];done)|(simp[SV.evs];omega)
end Go.Proofs.YthnbabbhpeebbaaGreatDoor
namespace Go.Pl
open Go Go.Proofs
def kl(p:PSt)(no:Int)(text:qa):PSt:={p with lines:=[text],frm:=no,full:=decide (p.fields.length=40∨(p.fields.length=0∧p.records=400))}
def jk(p:PSt)(no:Int)(text:qa)(ended:Bool)(kind:Int):Option (Int×Int)×PSt:=
 if kind=3 then
  if p.lines=[]then(some (no,2),p)
  else if ended=true then(none,{p with lines:=p.lines++[text]})
  else jr {p with lines:=p.lines++[text]}
 else if kind=1 then endP p
 else jr p
def wo(p:PSt)(no:Int)(text:qa)(ended:Bool):Option (Int×Int)×PSt:=
 match(jk p no text ended (qy text)).1 with
 |some e=>(some e,p)
 |none=>
  if qy text=5∨ended=false then(some (no,2),p)
  else if qy text=1 then(none,{(jk p no text ended (qy text)).2 with items:=(jk p no text ended (qy text)).2.items++[⟨1,text++[10],[]⟩]})
  else if qy text=4 then(none,{kl (jk p no text ended (qy text)).2 no text with block:=(jk p no text ended (qy text)).2.block++[text]})
  else(none,{(jk p no text ended (qy text)).2 with block:=(jk p no text ended (qy text)).2.block++[text]})
end Go.Pl
namespace Go.Proofs.YthnbabbhpeebbaaGreatDoor
open Go Go.Av Go.RowKit Go.Proofs Go.Pl
theorem PB.more{n m:Nat}{p:PSt}(h:PB n p)(hm:n<=m)(hs:m<900000):PB m p:=by
 have h1:=h.lines;have h2:=h.items;have h3:=h.block;have h4:=h.fields;have h5:=h.rec0;have h6:=h.rec1;exact⟨hs,Om,h.linesV,Om,Om,h.blockV,Om,h5,Om⟩
theorem q7u{n:Nat}{p:PSt}(h:PB n p)(hs:n+1<900000):PB (n+1) (x4 p):=by
 have h1:=h.lines;have h2:=h.items;have h3:=h.block;have h4:=h.fields;have h5:=h.rec0;have h6:=h.rec1;unfold x4;split
 .exact⟨hs,by simp only;omega,h.linesV,by simp only;omega,Sx,Sx,Sx,h5,by simp only;omega⟩
 .refine⟨hs,by simp only;omega,h.linesV,So,Sx,Sx,Sx,?_,?_⟩
  .simp only;split <;>omega
  .simp only;split <;>omega
theorem qrm{n:Nat}{p:PSt}{text:qa}(h:PB n p)(hs:n+1<900000)(ht:text.length<1000000):PB (n+1) {p with lines:=p.lines++[text]}:=by
 have h1:=h.lines;have h2:=h.items;have h3:=h.block;have h4:=h.fields;have h5:=h.rec0;have h6:=h.rec1;exact⟨hs,So,qrg h.linesV ht,by simp only;omega,by simp only;omega,h.blockV,by simp only;omega,h5,by simp only;omega⟩
theorem q0t{n:Nat}{p:PSt}{text:qa}(h:PB n p)(hs:n+1<900000)(ht:text.length<1000000):PB (n+1) {p with block:=p.block++[text]}:=by
 have h1:=h.lines;have h2:=h.items;have h3:=h.block;have h4:=h.fields;have h5:=h.rec0;have h6:=h.rec1;exact⟨hs,by simp only;omega,h.linesV,by simp only;omega,So,qrg h.blockV ht,by simp only;omega,h5,by simp only;omega⟩
theorem zcv{n:Nat}{p:PSt}{x:jc}(h:PB n p)(hs:n+1<900000):PB (n+1) {p with items:=p.items++[x]}:=by
 have h1:=h.lines;have h2:=h.items;have h3:=h.block;have h4:=h.fields;have h5:=h.rec0;have h6:=h.rec1;exact⟨hs,by simp only;omega,h.linesV,So,by simp only;omega,h.blockV,by simp only;omega,h5,by simp only;omega⟩
theorem zcu{n:Nat}{p:PSt}{no:Int}{text:qa}(h:PB n p)(hs:n+1<900000)(ht:text.length<1000000):PB (n+1) (kl p no text):=by
 have h1:=h.lines;have h2:=h.items;have h3:=h.block;have h4:=h.fields;have h5:=h.rec0;have h6:=h.rec1;exact⟨hs,by simp[kl],by simp[kl,ht],by simp only[kl];omega,by simp only[kl];omega,h.blockV,by simp only[kl];omega,h5,by simp only[kl];omega⟩
theorem qj3{n:Nat}{p:PSt}{no:Int}{text:qa}{ended:Bool}{kind:Int}(h:PB n p)(hs:n+2<900000)(ht:text.length<1000000):PB (n+2) (jk p no text ended kind).2:=by
 unfold jk;split
 .split
  .exact h.more Om hs
  .split
   .exact(qrm h Om ht).more Om hs
   .exact qhm (qrm h Om ht) hs
 .split
  .unfold endP
   split
   .exact h.more Om hs
   .exact q7u (qhm h Om) hs
  .exact(qhm h Om).more Om hs
theorem qtm(l:qa):1<=qy l∧qy l<=5:=by
 unfold qy;repeat' split
 all_goals decide
theorem qrx{n:Nat}{p:PSt}{no:Int}{text:qa}{ended:Bool}(h:PB n p)(hs:n+4<900000)(ht:text.length<1000000):PB (n+4) (wo p no text ended).2:=by
 have h2:PB (n+2) (jk p no text ended (qy text)).2:=qj3 h Om ht;unfold wo;split
 .exact h.more Om hs
 .split
  .exact h.more Om hs
  .split
   .exact(zcv h2 Om).more Om hs
   .split
    .exact q0t (zcu h2 Om ht) hs ht
    .exact(q0t h2 Om ht).more Om hs
theorem q9n(n:Nat)(p:PSt)(no at':Int)(text:qa)(ended:Bool)(hB:PB n p):qz E 187 [.bx 0 0,.ag [.i no,.i at',.s text,.b ended]] 5 (hpF (parH 1 p)) ⟨.tu [],q8 (parH 1 p),parH 5 (kl p no text)++q9 (parH 1 p),9⟩:=by
 refine je [.bx 0 0,.ag [.i no,.i at',.s text,.b ended]] (parH 1 p) 5 (.tu []) (parH 5 (kl p no text)) 9 Tryz.func187 rfl rfl rfl rfl λS F ρ=>?_;obtain⟨ls,fr,fu,its,bk,fs,rc⟩:=p;have bf:(fs.map fldA).length=fs.length:=Sx
 by_cases ha:fs.length=40∨(fs.length=0∧rc=400)
 .have e:kl ⟨ls,fr,fu,its,bk,fs,rc⟩ no text=⟨[text],no,true,its,bk,fs,rc⟩:=by
   unfold kl;simp only[decide_eq_true ha]
  rw[e];apply qd [29];repeat' (first|apply Qa|(intro h;try exact cDd)|exact cSd|apply qb [29]|refine exr ?_|refine qf ?_)
  all_goals (intros;simp only[bf]at *;first|(exfalso;omega)|(have gw:rc=400:=Om;subst gw;rfl))
 .have e:kl ⟨ls,fr,fu,its,bk,fs,rc⟩ no text=⟨[text],no,false,its,bk,fs,rc⟩:=by
   unfold kl;simp only[decide_eq_false ha]
  rw[e];apply qd [29];repeat' (first|apply Qa|(intro h;try exact cDd)|exact cSd|apply qb [29]|refine exr ?_|refine qf ?_)
  all_goals (intros;simp only[bf]at *;first|(exfalso;omega)|(have gw:¬rc=400:=Om;simp[SV.evs,SV.ev,SV.rens,SV.ren,lkS,wj,gw];exact⟨rfl,rfl,rfl⟩))
theorem qwr(n:Nat)(p:PSt)(no at':Int)(text:qa)(ended:Bool)(kind:Int)(hB:PB n p)(hs:n+2<900000)(ht:text.length<1000000):qz E 185 [.bx 0 0,.ag [.i no,.i at',.s text,.b ended],.i kind] 5 (hpF (parH 1 p)) ⟨.a (errP (jk p no text ended kind).1),q8 (parH 1 p),parH 5 (jk p no text ended kind).2++q9 (parH 1 p),9⟩:=by
 refine je [.bx 0 0,.ag [.i no,.i at',.s text,.b ended],.i kind] (parH 1 p) 5 (.a (errP (jk p no text ended kind).1)) (parH 5 (jk p no text ended kind).2) 9 Tryz.func185 rfl rfl rfl rfl λS F ρ=>?_;unfold jk;by_cases hk3:kind=3
 .rw[if_pos hk3]
  by_cases h0:p.lines=[]
  .rw[if_pos h0]
   have pk:(p.lines.map λx=>Sv x).length=0:=by simp[h0]
   have hft:=λst=>qm0 no 2 st;apply qd [];repeat' (first|apply Qa|(intro h;try exact cDd)|exact⟨Tryz.call186⟩|refine cpe hft ?_|exact cSd|apply qb []|refine exr ?_|refine qf ?_)
  .rw[if_neg h0]
   have pk:(p.lines.map λx=>Sv x).length≠0:=by simp[h0]
   have hll:=hB.lines;have hsm:=hB.small;have bf:(p.lines.map λx=>Sv x).length=p.lines.length:=Sx
   have dg:=qq8 (n+1) {p with lines:=p.lines++[text]} (qrm hB Om ht)
   cases ended with
   |true=>
    rw[if_pos rfl];apply qd [];repeat' (first|apply Qa|(intro h;try exact cDd)|(exact absurd (by assumption:true=false) (by decide))|exact cSd|apply qb []|refine exr ?_|refine qf ?_)
    all_goals first|(simp[SV.evs,SV.ev];done)|(simp[SV.evs];omega)
   |false=>
    rw[if_neg (by decide)];apply qd [];repeat' (first|apply Qa|(intro h;try exact cDd)|(exact absurd (by assumption:false=true) (by decide))|exact⟨Tryz.call188⟩|(refine qx dg ?_)|exact cSd|apply qb []|refine exr ?_|refine qf ?_)
    all_goals first|(simp[SV.evs,SV.ev];done)|(simp[SV.evs];omega)
 .rw[if_neg hk3]
  by_cases tz:kind=1
  .rw[if_pos tz]
   have dg:=q30 n p hB Om;apply qd [];repeat' (first|apply Qa|(intro h;try exact cDd)|exact⟨Tryz.call145⟩|(refine qx dg ?_)|exact cSd|apply qb []|refine exr ?_|refine qf ?_)
  .rw[if_neg tz]
   have dg:=qq8 n p hB;apply qd [];repeat' (first|apply Qa|(intro h;try exact cDd)|exact⟨Tryz.call188⟩|(refine qx dg ?_)|exact cSd|apply qb []|refine exr ?_|refine qf ?_)
theorem zcz(n:Nat)(p:PSt)(no at':Int)(text:qa)(ended:Bool)(hB:PB n p)(hs:n+4<900000)(ht:text.length<1000000)(hok:(wo p no text ended).1=none):qz E 144 [.bx 0 0,.ag [.i no,.i at',.s text,.b ended]] 5 (hpF (parH 1 p)) ⟨.a (.v .nilIface),q8 (parH 1 p),parH 5 (wo p no text ended).2++q9 (parH 1 p),9⟩:=by
 refine je [.bx 0 0,.ag [.i no,.i at',.s text,.b ended]] (parH 1 p) 5 (.a (.v .nilIface)) (parH 5 (wo p no text ended).2) 9 Tryz.func144 rfl rfl rfl rfl λS F ρ=>?_;have dg:=qwr n p no at' text ended (qy text) hB Om ht;have hB1:=qj3 (no:=no) (text:=text) (ended:=ended) (kind:=qy text) hB Om ht;have hkr:=qtm text;have hkd:=λst=>qlk text st Om;unfold wo at hok⊢;generalize jk p no text ended (qy text)=fq at dg hB1 hok⊢;obtain⟨fe,q⟩:=fq
 cases fe with
 |some e=>exact absurd hok Sx
 |none=>
  dsimp only at hB1 dg hok⊢;have h1:=hB1.block;have h2:=hB1.items;have hmb:(q.block.map λx=>Sv x).length=q.block.length:=Sx
  have hmi:(q.items.map qaj).length=q.items.length:=Sx
  by_cases hk:qy text=5∨ended=false
  .rw[if_pos hk]at hok
   exact absurd hok Sx
  .rw[if_neg hk]at hok⊢
   have hk5:qy text≠5:=λh=>hk (.inl h);obtain rfl:ended=true:=by cases ended<;>simp_all
   by_cases tz:qy text=1
   .rw[if_pos tz]
    apply qd [];repeat' (first|apply Qa|(intro h;try exact cDd)|exact⟨Tryz.call184⟩|refine cpe hkd ?_|exact⟨Tryz.call185⟩|(refine qx dg ?_)|(exact absurd (by assumption:true=false) (by decide))|exact cSd|apply qb []|refine exr ?_|refine qf ?_)
    all_goals first|(simp[SV.evs,SV.ev];done)|(simp[SV.evs];omega)
   .rw[if_neg tz]
    by_cases hk4:qy text=4
    .rw[if_pos hk4]
     have hbc:=q9n (n+2) q no at' text true hB1;apply qd [];repeat' (first|apply Qa|(intro h;try exact cDd)|exact⟨Tryz.call184⟩|refine cpe hkd ?_|exact⟨Tryz.call185⟩|(refine qx dg ?_)|exact⟨Tryz.call187⟩|(refine qx hbc ?_)|(exact absurd (by assumption:true=false) (by decide))|exact cSd|apply qb []|refine exr ?_|refine qf ?_)
     all_goals first|(simp[SV.evs,SV.ev,kl];done)|(simp[SV.evs,kl];omega)
    .rw[if_neg hk4]
     apply qd [];repeat' (first|apply Qa|(intro h;try exact cDd)|exact⟨Tryz.call184⟩|refine cpe hkd ?_|exact⟨Tryz.call185⟩|(refine qx dg ?_)|(exact absurd (by assumption:true=false) (by decide))|exact cSd|apply qb []|refine exr ?_|refine qf ?_)
     all_goals first|(simp[SV.evs,SV.ev];done)|(simp[SV.evs];omega)
theorem zc0(n:Nat)(p:PSt)(no at':Int)(text:qa)(ended:Bool)(hB:PB n p)(hs:n+4<900000)(ht:text.length<1000000)(a m:Int)(hok:(wo p no text ended).1=some (a,m)):qz E 144 [.bx 0 0,.ag [.i no,.i at',.s text,.b ended]] 5 (hpF (parH 1 p)) ⟨.a (qhj a m),q8 (parH 1 p),parH 5 (jk p no text ended (qy text)).2++q9 (parH 1 p),9⟩:=by
 refine je [.bx 0 0,.ag [.i no,.i at',.s text,.b ended]] (parH 1 p) 5 (.a (qhj a m)) (parH 5 (jk p no text ended (qy text)).2) 9 Tryz.func144 rfl rfl rfl rfl λS F ρ=>?_;have dg:=qwr n p no at' text ended (qy text) hB Om ht;have hB1:=qj3 (no:=no) (text:=text) (ended:=ended) (kind:=qy text) hB Om ht;have hkr:=qtm text;have hkd:=λst=>qlk text st Om;unfold wo at hok;generalize jk p no text ended (qy text)=fq at dg hB1 hok⊢;obtain⟨fe,q⟩:=fq
 cases fe with
 |some e=>
  dsimp only at hB1 dg hok⊢;obtain rfl:e=(a,m):=by simpa using hok
  apply qd []
  repeat' (first|apply Qa|(intro h;try exact cDd)|exact⟨Tryz.call184⟩|refine cpe hkd ?_|exact⟨Tryz.call185⟩|(refine qx dg ?_)|exact cSd|apply qb []|refine exr ?_|refine qf ?_)
 |none=>
  dsimp only at hB1 dg hok⊢;by_cases hk:qy text=5∨ended=false
  .rw[if_pos hk]at hok
   obtain⟨rfl,rfl⟩:no=a∧2=m:=by simpa using hok
   have hft:=λst=>qm0 no 2 st
   cases ended with
   |true=>
    have hk5:qy text=5:=by simpa using hk
    apply qd []
    repeat' (first|apply Qa|(intro h;try exact cDd)|exact⟨Tryz.call184⟩|refine cpe hkd ?_|exact⟨Tryz.call186⟩|refine cpe hft ?_|exact⟨Tryz.call185⟩|(refine qx dg ?_)|(exact absurd (by assumption:true=false) (by decide))|exact cSd|apply qb []|refine exr ?_|refine qf ?_)
   |false=>
    apply qd [];repeat' (first|apply Qa|(intro h;try exact cDd)|exact⟨Tryz.call184⟩|refine cpe hkd ?_|exact⟨Tryz.call186⟩|refine cpe hft ?_|exact⟨Tryz.call185⟩|(refine qx dg ?_)|(exact absurd (by assumption:false=true) (by decide))|exact cSd|apply qb []|refine exr ?_|refine qf ?_)
  .rw[if_neg hk]at hok
   split at hok
   .simp at hok
   .split at hok
    .simp at hok
    .simp at hok
end Go.Proofs.YthnbabbhpeebbaaGreatDoor
namespace Go.Pl
open Go Go.Proofs
def p0:PSt:=⟨[],0,false,[],[],[],0⟩
def runL:Nat->List (qa×Bool)->PSt->Option (Int×Int)×PSt
 |_,[],p=>endP p
 |k,(t,e)::r,p=>match(wo p k t e).1 with
  |some x=>(some x,p)
  |none=>runL (k+1) r (wo p k t e).2
def kr(text:qa):Option (Int×Int)×List jc:=match(runL 0 (zv text) p0).1 with
 |some e=>(some e,[])
 |none=>(none,(runL 0 (zv text) p0).2.items)
end Go.Pl
namespace Go.Proofs.YthnbabbhpeebbaaGreatDoor
open Go Go.Av Go.RowKit Go.Proofs Go.Pl
theorem q8a(x:Option (Int×Int)):Pure (errP x):=by
 rcases x with _|⟨a,n⟩
 .exact qw _
 .exact qk0 a n
theorem q5k(f:Fld):qlv (fldA f):=λx hx=>by
 simp only[AV.cells,Qh,Qm,or_false]at hx;rcases hx with rfl|rfl <;>exact qw _
theorem qd1(fs:List Fld):Pure (wn fs):=qc9 λx hx=>by
 obtain⟨f,_,rfl⟩:=Qf.1 hx;exact q5k f
theorem qqh(x:jc):qlv (qaj x):=λy hy=>by
 simp only[AV.cells,Qh,Qm,or_false]at hy;rcases hy with rfl|rfl|rfl
 .exact qw _
 .exact qw _
 .exact qd1 _
theorem qqi(xs:List jc):Pure (qc1 xs):=qc9 λx hx=>by
 obtain⟨f,_,rfl⟩:=Qf.1 hx;exact qqh f
theorem vz{x y:AV}(hx:Pure x)(hy:Pure y):Pure (.tu [x,y]):=qfl λz hz=>by
 simp only[Qh,Qm,or_false]at hz;rcases hz with rfl|rfl
 .exact hx
 .exact hy
def qdt(text:qa):AV:=.tu [qc1 (kr text).2,errP (kr text).1]
theorem q2n(text:qa):Pure (qdt text):=vz (qqi _) (q8a _)
theorem qqc{S:List AObj}{o k:Nat}{x:AObj}(h:k≠o):(S.set o x)[k]?=S[k]?:=Zg (Ne.symm h)
theorem q57:PB 0 p0:=⟨Om,by simp[p0],by simp[p0],by simp[p0],by simp[p0],by simp[p0],by simp[p0],by simp[p0],by simp[p0]⟩
theorem qrv(text:qa)(st:List AObj)(hl:text.length<=60000):qm E 111 [Sv text] st λr st'=>r=qdt text∧st'=st:=by
 refine ja [.s text] (q2n text) Tryz.func111 rfl rfl (λ_=>rfl) rfl λS0=>?_;apply qd [13];repeat' (first|apply Qa|(intro h;try exact cDd)|exact⟨Tryz.call143⟩|(refine Qb _ ⟨qm7 _,?_⟩)|exact cSd|apply qb [13]|refine exr ?_|refine qf ?_)
 refine qgt (X:=PSt×Option (Int×Int)) text 4 5 [0,1,2,3,4] (λ(p,e)=>⟨[(2,.bx 0 0),(3,.bx 1 0),(4,.bx 2 0),(15,.fn (.func 183) [] [.bx 4 0])],
   [(0,some (.cells 158 [.a zf])),(1,some (.cells 30 [.a (errP e)])),(2,some (.cells 212 [.bx 3 0])),(3,some (.cells 216 [.tp 5,.i p.frm,.b p.full,.tp 6,.tp 7,.tp 8,.i p.records])),(4,some (.cells 9 [.s text])),
    (5,some (.tip 1 9 (p.lines.map λx=>Sv x))),(6,some (.tip 3 208 (p.items.map qaj))),(7,some (.tip 1 9 (p.block.map λx=>Sv x))),(8,some (.tip 2 117 (p.fields.map fldA)))],9⟩) _
  (λk rest(p,e)=>e=none∧PB (4*k) p∧k+rest.length<=text.length∧runL 0 (zv text) p0=runL k (zv rest) p)
  (λc(p,e)=>∃a m,c=.ret∧e=some (a,m)∧(runL 0 (zv text) p0).1=some (a,m)) (p0,none) ⟨rfl,q57,Om,rfl⟩ ?_ id Om (λ_=>rfl) rfl (λ_=>rfl) (λ_=>rfl) rfl ?_ ?_ ?_
 .skip
  repeat' (first|apply Qa|(intro h;try exact cDd)|exact cSd|apply qb []|refine exr ?_|refine qf ?_)
 .rintro k rest ⟨p,e⟩ ⟨rfl,hB,hkl,a8⟩ d7 d8
  have nv:=wr d7;have hu:=vd 10 rest;have gm:=ku 10 rest;have hr0:0<rest.length:=Za.2 d7;rw[nv]at a8;simp only[runL]at a8;unfold qmo;generalize mb:decide (10∈rest)=en at a8;generalize upto 10 rest=up at hu a8⊢;have ng:=qrx (no:=k) (text:=up) (ended:=en) hB Om Om
  cases hah:(wo p k up en).1 with
  |some e=>
   obtain⟨a,m⟩:=e;rw[hah]at a8;simp only at a8;have gz:=zc0 (4*k) p k ((text.length:Int)-rest.length) up en hB Om Om a m hah;refine RA.mk λS F ρ rd=>?_;apply qd [];repeat' (first|apply Qa|(intro h;try exact cDd)|(refine RB.mk λS rd=>?_;apply qd [])|exact⟨Tryz.call144⟩|(refine qx gz ?_)|(refine Qb ((jk p k up en (qy up)).2,some (a,m)) ⟨⟨a,m,rfl,rfl,by rw[a8]⟩,?_⟩)|exact cSd|apply qb []|refine exr ?_|refine qf ?_)
   all_goals (rw[<-mb];rfl)
  |none=>
   rw[hah]at a8;simp only at a8;have gz:=zcz (4*k) p k ((text.length:Int)-rest.length) up en hB Om Om hah;refine RA.mk λS F ρ rd=>?_;apply qd [];repeat' (first|apply Qa|(intro h;try exact cDd)|(refine RB.mk λS rd=>?_;apply qd [])|exact⟨Tryz.call144⟩|(refine qx gz ?_)|(refine Qb ((wo p k up en).2,none) ⟨⟨rfl,ng,Om,a8⟩,?_⟩)|exact cSd|apply qb []|refine exr ?_|refine qf ?_)
   all_goals (rw[<-mb];rfl)
 .rintro k ⟨p,e⟩ ⟨rfl,hB,hkl,a8⟩
  have hre:runL k (zv []) p=endP p:=by rw[wi];rfl
  rw[hre]at a8;have o6:=q30 (4*k) p hB Om;generalize endP p=fq at a8 o6;obtain⟨fe,q⟩:=fq
  cases fe with
  |some e=>
   have hpf:qdt text=.tu [qc1 [],errP (some e)]:=by unfold qdt kr;rw[a8]
   rw[hpf];obtain⟨a,m⟩:=e
   repeat' (first|apply Qa|(intro h;try exact cDd)|exact⟨Tryz.call145⟩|(refine qx o6 ?_)|exact cSd|apply qb []|refine exr ?_|refine qf ?_)
  |none=>
   have hpf:qdt text=.tu [qc1 q.items,errP none]:=by unfold qdt kr;rw[a8]
   rw[hpf];dsimp only at o6;repeat' (first|apply Qa|(intro h;try exact cDd)|exact⟨Tryz.call145⟩|(refine qx o6 ?_)|exact cSd|apply qb []|refine exr ?_|refine qf ?_)
 .rintro c ⟨p,e⟩ ⟨a,m,rfl,rfl,hre⟩
  have hpf:qdt text=.tu [qc1 [],errP (some (a,m))]:=by unfold qdt kr;rw[hre]
  rw[hpf];repeat' (first|apply Qa|(intro h;try exact cDd)|exact cSd|apply qb []|refine exr ?_|refine qf ?_)
end Go.Proofs.YthnbabbhpeebbaaGreatDoor
namespace Go.Proofs.YthnbabbhpeebbaaGreatDoor
open Go Go.RowKit Go.Extern.Stop Go.Stop Go.Extern Go.Proofs
theorem asT.valueOf27(t:Addr)(w:World):(ReflectliteValue.unpack (.iface 287 (.pointer (some t)))).run Tryz.prog w
  =.ok (.agg #[.pointer (some ⟨9,287,none⟩),.pointer (some ⟨w.heap.size,0,none⟩),.int .u64 150]) (w.alloc (.cells #[.pointer (some t)] 287)):=Kr
theorem asT.type27(a:Addr)(w:World):(ReflectliteValue.methodAny (ReflectliteValue.valueError "reflectlite.Value.Type" 0) (λt _ _ _=>ReflectliteType.toType t) #[.agg #[.pointer (some ⟨9,287,none⟩),.pointer (some a),.int .u64 150]]).run Tryz.prog w
  =.ok (.iface 169 (.agg #[.pointer (some ⟨9,287,none⟩)])) w:=Kr
theorem asT.methodKind(h:Value)(w:World):(Go.method 495 169 (.agg #[h]) "Kind").run Tryz.prog w=.ok (308,h) w:=by kernel_rfl
theorem asT.kind27(w:World):((ReflectliteType.abiMethod λt=>(λa:Nat=>Value.int IntKind.u8 (a:Int))<$>Rtype.kind t) #[.pointer (some ⟨9,287,none⟩)]).run Tryz.prog w=.ok (.int .u8 22) w:=Kr
theorem asT.kind25(w:World):((ReflectliteType.abiMethod λt=>(λa:Nat=>Value.int IntKind.u8 (a:Int))<$>Rtype.kind t) #[.pointer (some ⟨9,125,none⟩)]).run Tryz.prog w=.ok (.int .u8 22) w:=Kr
theorem rlm(z:Sem Value)(f:TypeId->Addr->Nat->Nat->Sem Value)(v:Value):
  ReflectliteValue.method z f #[v]=(do match <-ReflectliteValue.parts v with|none=>z|some (t,a,fl)=>f t a fl (fl%32)):=rfl
theorem asT.parts27(a:Addr)(w:World):(ReflectliteValue.parts (.agg #[.pointer (some ⟨9,287,none⟩),.pointer (some a),.int .u64 150])).run Tryz.prog w=.ok (some (287,a,150)) w:=Kr
theorem asT.isNil27(a p:Addr)(W:World)(ha:W.cell? a=some (.pointer (some p))):
  (ReflectliteValue.method (ReflectliteValue.valueError "reflectlite.Value.IsNil" 0) ReflectliteValue.isNil #[.agg #[.pointer (some ⟨9,287,none⟩),.pointer (some a),.int .u64 150]]).run Tryz.prog W=.ok (.bool false) W:=by
 rw[rlm];simp only[Sem.run_bind,asT.parts27,Result.andThen];simp[ReflectliteValue.isNil,loadVar,isAgg,underlying,Tryz.underlying287,ha,Result.andThen]
theorem asT.methodElem(h:Value)(w:World):(Go.method 495 169 (.agg #[h]) "Elem").run Tryz.prog w=.ok (319,.agg #[h]) w:=by kernel_rfl
theorem asT.methodImplements(h:Value)(w:World):(Go.method 495 169 (.agg #[h]) "Implements").run Tryz.prog w=.ok (320,.agg #[h]) w:=by kernel_rfl
theorem asT.methodAssignableTo(h:Value)(w:World):(Go.method 495 169 (.agg #[h]) "AssignableTo").run Tryz.prog w=.ok (317,.agg #[h]) w:=by kernel_rfl
theorem asT.elem27(w:World):(ReflectliteType.method ReflectliteType.elem #[.agg #[.pointer (some ⟨9,287,none⟩)]]).run Tryz.prog w=.ok (.iface 169 (.agg #[.pointer (some ⟨9,125,none⟩)])) w:=Kr
theorem asT.implements25(w:World):(ReflectliteType.relation "Implements" ReflectliteType.implements_ #[.agg #[.pointer (some ⟨9,125,none⟩)],.iface 169 (.agg #[.pointer (some ⟨9,30,none⟩)])]).run Tryz.prog w=.ok (.bool true) w:=by kernel_rfl
theorem asT.typeOf25(v:Value)(w:World):(ReflectliteType.typeOf #[.iface 125 v]).run Tryz.prog w=.ok (.iface 169 (.agg #[.pointer (some ⟨9,125,none⟩)])) w:=Kr
theorem asT.assignable25(w:World):(ReflectliteType.relation "AssignableTo" ReflectliteType.assignableTo #[.agg #[.pointer (some ⟨9,125,none⟩)],.iface 169 (.agg #[.pointer (some ⟨9,125,none⟩)])]).run Tryz.prog w=.ok (.bool true) w:=by kernel_rfl
theorem asT.valueOf25(e:Addr)(w:World):(ReflectliteValue.unpack (.iface 125 (.pointer (some e)))).run Tryz.prog w
  =.ok (.agg #[.pointer (some ⟨9,125,none⟩),.pointer (some ⟨w.heap.size,0,none⟩),.int .u64 150]) (w.alloc (.cells #[.pointer (some e)] 125)):=Kr
theorem asT.elemOf27(w:World):(Rtype.elem? 287).run Tryz.prog w=.ok (some 125) w:=Kr
theorem asT.mk25(p:Addr)(w:World):(ReflectliteValue.mk 125 p ReflectliteValue.flagAddr).run Tryz.prog w=.ok (.agg #[.pointer (some ⟨9,125,none⟩),.pointer (some p),.int .u64 406]) w:=Kr
theorem asT.elemV27(a p:Addr)(W:World)(ha:W.cell? a=some (.pointer (some p))):
  (ReflectliteValue.method (ReflectliteValue.valueError "reflectlite.Value.Elem" 0) ReflectliteValue.elem #[.agg #[.pointer (some ⟨9,287,none⟩),.pointer (some a),.int .u64 150]]).run Tryz.prog W
   =.ok (.agg #[.pointer (some ⟨9,125,none⟩),.pointer (some p),.int .u64 406]) W:=by
 rw[rlm];simp only[Sem.run_bind,asT.parts27,Result.andThen];simp[ReflectliteValue.elem,loadVar,isAgg,underlying,Tryz.underlying287,ha,Result.andThen,asT.elemOf27,asT.mk25]
theorem rls(v x:Value):ReflectliteValue.set #[v,x]=(do
  let (some (dst,a,fl),some (src,b,_)):=(<-ReflectliteValue.parts v,<-ReflectliteValue.parts x)
   |unsupported (.noEntry "extern/(internal/reflectlite.Value).Set.zeroValue")
  if fl / ReflectliteValue.flagAddr%2==0 then unsupported (.noEntry "extern/(internal/reflectlite.Value).Set.unaddressable")
  let val <-loadVar src b
  if <-Rtype.directlyAssignable dst src then storeVar dst a val
  else if <-Rtype.implements dst src then
   if(<-Rtype.kind src)==20 then
    match val with
    |.nilIface=>unsupported (.noEntry "extern/reflectlite: a nil value of one interface type handed on as a value of another")
    |_=>storeVar dst a val
   else storeVar dst a (.iface src val)
  else panicString ("reflectlite.Set: value of type " ++(<-Rtype.spelt src)++ " is not assignable to type " ++(<-Rtype.spelt dst))
  pure (.tuple #[])):=rfl
theorem asT.parts25a(a:Addr)(w:World):(ReflectliteValue.parts (.agg #[.pointer (some ⟨9,125,none⟩),.pointer (some a),.int .u64 406])).run Tryz.prog w=.ok (some (125,a,406)) w:=Kr
theorem asT.parts25(a:Addr)(w:World):(ReflectliteValue.parts (.agg #[.pointer (some ⟨9,125,none⟩),.pointer (some a),.int .u64 150])).run Tryz.prog w=.ok (some (125,a,150)) w:=Kr
theorem asT.direct25(w:World):(Rtype.directlyAssignable 125 125).run Tryz.prog w=.ok true w:=Kr
theorem asT.set25(ta b e:Addr)(old:Value)(W:World)(hb:W.cell? b=some (.pointer (some e)))(ht:W.cell? ta=some old)(hf:W.frozen? ta=false):
  (ReflectliteValue.set #[.agg #[.pointer (some ⟨9,125,none⟩),.pointer (some ta),.int .u64 406],.agg #[.pointer (some ⟨9,125,none⟩),.pointer (some b),.int .u64 150]]).run Tryz.prog W
   =.ok (.tuple #[]) (W.setCell ta (.pointer (some e))):=by
 rw[rls];simp only[Sem.run_bind,asT.parts25a,asT.parts25,Result.andThen];simp[ReflectliteValue.flagAddr,loadVar,isAgg,underlying,Tryz.underlying125,hb,Result.andThen,asT.direct25,storeVar,Value.cells,storeCells,Addr.add];rw[run_store Tryz.prog W ta _ _ (by rfl)];simp[ht,hf]
set_option maxHeartbeats 4000000 in
theorem zg5(e t:Addr)(old:Value)(w:World)(hg:w.cell? ⟨3,0,none⟩=some (.iface 169 (.agg #[.pointer (some ⟨9,30,none⟩)])))(ht0:w.cell? t=some old)(hf0:w.frozen? t=false):
  Calls Tryz.prog 214 #[.iface 125 (.pointer (some e)),.iface 287 (.pointer (some t))] w λev w'=>ev=.returned (.bool true)∧w'=((((w.alloc (.cells #[.pointer (some t)] 287)).alloc (.cells #[.pointer (some ⟨9,287,none⟩),.pointer (some ⟨w.heap.size,0,none⟩),.int .u64 150] 323)).alloc (.cells #[.pointer (some ⟨9,287,none⟩),.pointer (some ⟨w.heap.size,0,none⟩),.int .u64 150] 323)).alloc (.cells #[.pointer (some e)] 125)).setCell t (.pointer (some e)):=by
 have h6:=@run_callFunc_extern Tryz.prog 252 _ (λargs=>ReflectliteValue.unpack (args.getD 0 (.tuple #[]))) Tryz.func252 Kr Kr Kr Kr
 have h7:= @run_callFunc_extern Tryz.prog 253 _ (ReflectliteValue.methodAny (ReflectliteValue.valueError "reflectlite.Value.Type" 0) (λt _ _ _=>ReflectliteType.toType t)) Tryz.func253 (by kernel_rfl) (by kernel_rfl) (by kernel_rfl) (by kernel_rfl)
 have h8:= @run_callFunc_extern Tryz.prog 254 _ (ReflectliteValue.method (ReflectliteValue.valueError "reflectlite.Value.IsNil" 0) ReflectliteValue.isNil) Tryz.func254 (by kernel_rfl) (by kernel_rfl) (by kernel_rfl) (by kernel_rfl)
 have h27:=@run_callFunc_extern Tryz.prog 308 _ (ReflectliteType.abiMethod λt=>do pure (.int .u8 (<-Rtype.kind t))) Tryz.func308 Kr Kr Kr Kr;have h37:=@run_callFunc_extern Tryz.prog 319 _ (ReflectliteType.method ReflectliteType.elem) Tryz.func319 Kr Kr Kr Kr
 have h38:= @run_callFunc_extern Tryz.prog 320 _ (ReflectliteType.relation "Implements" ReflectliteType.implements_) Tryz.func320 (by kernel_rfl) (by kernel_rfl) (by kernel_rfl) (by kernel_rfl)
 have p7:=@run_callFunc_extern Tryz.prog 86 _ ReflectliteType.typeOf Tryz.func86 Kr Kr Kr Kr
 have h35:= @run_callFunc_extern Tryz.prog 317 _ (ReflectliteType.relation "AssignableTo" ReflectliteType.assignableTo) Tryz.func317 (by kernel_rfl) (by kernel_rfl) (by kernel_rfl) (by kernel_rfl)
 have h11:= @run_callFunc_extern Tryz.prog 275 _ (ReflectliteValue.method (ReflectliteValue.valueError "reflectlite.Value.Elem" 0) ReflectliteValue.elem) Tryz.func275 (by kernel_rfl) (by kernel_rfl) (by kernel_rfl) (by kernel_rfl)
 have h12:=@run_callFunc_extern Tryz.prog 276 _ ReflectliteValue.set Tryz.func276 Kr Kr Kr Kr;have tO:=asT.typeOf25;have mA:=asT.methodAssignableTo;have a25:=asT.assignable25;have v25:=asT.valueOf25;have f6:=asT.valueOf27;have f7:=asT.type27;have mK:=asT.methodKind;have mE:=asT.methodElem;have mI:=asT.methodImplements;have k27:=asT.kind27;have k25:=asT.kind25;have e27:=asT.elem27;have i25:=asT.implements25;have n8:=asT.isNil27 ⟨w.heap.size,0,none⟩ t ((w.alloc (.cells #[.pointer (some t)] 287)).alloc (.cells #[.pointer (some ⟨9,287,none⟩),.pointer (some ⟨w.heap.size,0,none⟩),.int .u64 150] 323)) Sx
 have e8:3<w.heap.size:=by
  rcases Zd 3 w.heap.size with h|h
  .exact h
  .simp[World.cell?,Qp h]at hg
 have hg2:((w.alloc (.cells #[.pointer (some t)] 287)).alloc (.cells #[.pointer (some ⟨9,287,none⟩),.pointer (some ⟨w.heap.size,0,none⟩),.int .u64 150] 323)).cell? ⟨3,0,none⟩=some (.iface 169 (.agg #[.pointer (some ⟨9,30,none⟩)])):=by
  rw[World.cell?_alloc_lt _ _ ⟨3,0,none⟩ (by first|(simp;done)|(simp;omega)),World.cell?_alloc_lt _ _ ⟨3,0,none⟩ e8];exact hg
 have htl:t.block<w.heap.size:=by
  rcases Zd t.block w.heap.size with h|h
  .exact h
  .simp[World.cell?,Qp h]at ht0
 have el:=asT.elemV27 ⟨w.heap.size,0,none⟩ t (((w.alloc (.cells #[.pointer (some t)] 287)).alloc (.cells #[.pointer (some ⟨9,287,none⟩),.pointer (some ⟨w.heap.size,0,none⟩),.int .u64 150] 323)).alloc (.cells #[.pointer (some ⟨9,287,none⟩),.pointer (some ⟨w.heap.size,0,none⟩),.int .u64 150] 323)) (by rw[World.cell?_alloc_lt _ _ ⟨w.heap.size,0,none⟩ (by first|(simp;done)|(simp;omega))];simp)
 have st:=asT.set25 t ⟨w.heap.size+1+1+1,0,none⟩ e old ((((w.alloc (.cells #[.pointer (some t)] 287)).alloc (.cells #[.pointer (some ⟨9,287,none⟩),.pointer (some ⟨w.heap.size,0,none⟩),.int .u64 150] 323)).alloc (.cells #[.pointer (some ⟨9,287,none⟩),.pointer (some ⟨w.heap.size,0,none⟩),.int .u64 150] 323)).alloc (.cells #[.pointer (some e)] 125))
  (by rw[World.cell?_alloc_at _ _ _ _ Sx];rfl)
  (by rw[World.cell?_alloc_lt _ _ t (by first|(simp;done)|(simp;omega)),World.cell?_alloc_lt _ _ t (by first|(simp;done)|(simp;omega)),World.cell?_alloc_lt _ _ t (by first|(simp;done)|(simp;omega)),World.cell?_alloc_lt _ _ t htl];exact ht0)
  (by rw[World.frozen?_alloc_old _ _ t (by first|(simp;done)|(simp;omega)),World.frozen?_alloc_old _ _ t (by first|(simp;done)|(simp;omega)),World.frozen?_alloc_old _ _ t (by first|(simp;done)|(simp;omega)),World.frozen?_alloc_old _ _ t (Zp htl)];exact hf0)
 go_enter Tryz.func214,Tryz.ntmps214
 go_wp2
 refine wp_loop_rounds 1 ?_;rw[rounds_succ]
 go_wp2
 go_ret
 exact⟨rfl,rfl⟩
theorem asT.typeOf31(v:Value)(w:World):(ReflectliteType.typeOf #[.iface 43 v]).run Tryz.prog w=.ok (.iface 169 (.agg #[.pointer (some ⟨9,43,none⟩)])) w:=Kr
theorem asT.assignable31(w:World):(ReflectliteType.relation "AssignableTo" ReflectliteType.assignableTo #[.agg #[.pointer (some ⟨9,43,none⟩)],.iface 169 (.agg #[.pointer (some ⟨9,125,none⟩)])]).run Tryz.prog w=.ok (.bool false) w:=by kernel_rfl
theorem asT.no230(v:Value)(xT:TypeId)(w:World):(Instr.typeAssert (.iface 43 v) xT 348 true).run Tryz.prog w=.ok (.tuple #[.nilIface,.bool false]) w:=run_typeAssert_lacksB Tryz.underlying348 Kr Kr v xT w
theorem asT.no233(v:Value)(xT:TypeId)(w:World):(Instr.typeAssert (.iface 43 v) xT 174 true).run Tryz.prog w=.ok (.tuple #[.nilIface,.bool false]) w:=run_typeAssert_lacksB Tryz.underlying174 Kr Kr v xT w
theorem asT.no234(v:Value)(xT:TypeId)(w:World):(Instr.typeAssert (.iface 43 v) xT 175 true).run Tryz.prog w=.ok (.tuple #[.nilIface,.bool false]) w:=run_typeAssert_lacksB Tryz.underlying175 Kr Kr v xT w
set_option maxHeartbeats 4000000 in
theorem zen(n:Int)(t:Addr)(old:Value)(w:World)(hg:w.cell? ⟨3,0,none⟩=some (.iface 169 (.agg #[.pointer (some ⟨9,30,none⟩)])))(ht0:w.cell? t=some old):
  Calls Tryz.prog 214 #[.iface 43 (.int .i64 n),.iface 287 (.pointer (some t))] w λev w'=>ev=.returned (.bool false)∧Below w.heap.size w w':=by
 have h6:=@run_callFunc_extern Tryz.prog 252 _ (λargs=>ReflectliteValue.unpack (args.getD 0 (.tuple #[]))) Tryz.func252 Kr Kr Kr Kr
 have h7:= @run_callFunc_extern Tryz.prog 253 _ (ReflectliteValue.methodAny (ReflectliteValue.valueError "reflectlite.Value.Type" 0) (λt _ _ _=>ReflectliteType.toType t)) Tryz.func253 (by kernel_rfl) (by kernel_rfl) (by kernel_rfl) (by kernel_rfl)
 have h8:= @run_callFunc_extern Tryz.prog 254 _ (ReflectliteValue.method (ReflectliteValue.valueError "reflectlite.Value.IsNil" 0) ReflectliteValue.isNil) Tryz.func254 (by kernel_rfl) (by kernel_rfl) (by kernel_rfl) (by kernel_rfl)
 have h27:=@run_callFunc_extern Tryz.prog 308 _ (ReflectliteType.abiMethod λt=>do pure (.int .u8 (<-Rtype.kind t))) Tryz.func308 Kr Kr Kr Kr;have h37:=@run_callFunc_extern Tryz.prog 319 _ (ReflectliteType.method ReflectliteType.elem) Tryz.func319 Kr Kr Kr Kr
 have h38:= @run_callFunc_extern Tryz.prog 320 _ (ReflectliteType.relation "Implements" ReflectliteType.implements_) Tryz.func320 (by kernel_rfl) (by kernel_rfl) (by kernel_rfl) (by kernel_rfl)
 have p7:=@run_callFunc_extern Tryz.prog 86 _ ReflectliteType.typeOf Tryz.func86 Kr Kr Kr Kr
 have h35:= @run_callFunc_extern Tryz.prog 317 _ (ReflectliteType.relation "AssignableTo" ReflectliteType.assignableTo) Tryz.func317 (by kernel_rfl) (by kernel_rfl) (by kernel_rfl) (by kernel_rfl)
 have h11:= @run_callFunc_extern Tryz.prog 275 _ (ReflectliteValue.method (ReflectliteValue.valueError "reflectlite.Value.Elem" 0) ReflectliteValue.elem) Tryz.func275 (by kernel_rfl) (by kernel_rfl) (by kernel_rfl) (by kernel_rfl)
 have h12:=@run_callFunc_extern Tryz.prog 276 _ ReflectliteValue.set Tryz.func276 Kr Kr Kr Kr;have tO:=asT.typeOf31;have mA:=asT.methodAssignableTo;have a25:=asT.assignable31;have f6:=asT.valueOf27;have f7:=asT.type27;have mK:=asT.methodKind;have mE:=asT.methodElem;have mI:=asT.methodImplements;have k27:=asT.kind27;have k25:=asT.kind25;have e27:=asT.elem27;have i25:=asT.implements25;have n8:=asT.isNil27 ⟨w.heap.size,0,none⟩ t ((w.alloc (.cells #[.pointer (some t)] 287)).alloc (.cells #[.pointer (some ⟨9,287,none⟩),.pointer (some ⟨w.heap.size,0,none⟩),.int .u64 150] 323)) Sx
 have e8:3<w.heap.size:=by
  rcases Zd 3 w.heap.size with h|h
  .exact h
  .simp[World.cell?,Qp h]at hg
 have hg2:((w.alloc (.cells #[.pointer (some t)] 287)).alloc (.cells #[.pointer (some ⟨9,287,none⟩),.pointer (some ⟨w.heap.size,0,none⟩),.int .u64 150] 323)).cell? ⟨3,0,none⟩=some (.iface 169 (.agg #[.pointer (some ⟨9,30,none⟩)])):=by
  rw[World.cell?_alloc_lt _ _ ⟨3,0,none⟩ (by first|(simp;done)|(simp;omega)),World.cell?_alloc_lt _ _ ⟨3,0,none⟩ e8];exact hg
 have htl:t.block<w.heap.size:=by
  rcases Zd t.block w.heap.size with h|h
  .exact h
  .simp[World.cell?,Qp h]at ht0
 have n1:=asT.no230;have n2:=asT.no233;have n3:=asT.no234
 go_enter Tryz.func214,Tryz.ntmps214
 go_wp2
 refine wp_loop_rounds 1 ?_;rw[rounds_succ]
 go_wp2
 go_ret
 exact⟨rfl,(((Below.refl _ _).alloc (Qg _) _).alloc Sx _).alloc (by first|(simp;done)|(simp;omega)) _⟩
end Go.Proofs.YthnbabbhpeebbaaGreatDoor
namespace Go.Proofs.YthnbabbhpeebbaaGreatDoor
open Go Go.Av Go.RowKit Go.Proofs Go.Pl
theorem q2v{w:World}{b:Nat}{T:TypeId}{fz:Nat×Nat}{c:Array Value}(v:Value)(hc:w.heap[b]?=some (.cells c T fz))(h1:c.size=1):w.setCell ⟨b,0,none⟩ v=w.setRow b #[v]:=by
 unfold World.setCell World.setRow;congr 1;apply Array.ext_getElem?;intro i;rw[Zf,Zf];by_cases hi:b=i
 .subst hi
  rw[if_pos rfl,if_pos rfl,hc]
  have:c.setIfInBounds 0 v= #[v]:=by
   apply Array.ext
   .simp[h1]
   .intro i h2 h3
    have:i=0:=by simp at h3;omega
    subst this;simp
  simp[this]
 .rw[if_neg hi,if_neg hi]
theorem zem(a n:Int)(o:Nat)(st:List AObj)(ho:st[o]?=some (.cells 0 125 [.v (.pointer none)])):qm E 214 [qhj a n,.ifc 287 (.bx o 0 0)] st λr st'=>r=Bv true∧st'=st.set o (.cells 0 125 [.pp [Iv a,.ifc 43 (Iv n)]]):=by
 refine⟨λB0 w0 G vals w hL hA hR=>?_⟩
 obtain⟨v1,v2,rfl⟩:∃x y,vals= #[x,y]:=by
  have:=hR.1
  match vals,this with
  |⟨[x,y]⟩,_=>exact⟨x,y,rfl⟩
 have h1:=hR.2 0 _ v1 rfl rfl;have h2:=hR.2 1 _ v2 rfl rfl;unfold qhj at h1
 cases h1 with
 |ifc _ _ y1 h1=>
  cases h2 with
  |ifc _ _ y2 h2=>
   have hpp:=h1
   cases h1 with
   |pp _ b off pub hp b9 hr=>
    cases h2 with
    |bx _ _ _ b2 hn hv hb=>
     obtain⟨_,g1,g2,g3,c,g4,g5,g6⟩:=hA.ob o _ ho;have hb:=hb g1;subst hb;have mt:c.size=1:=by simpa using g5.symm
     have hl:=(hL w hA.below).ert;have s9:w.cell? ⟨(G.ob o).blk,0,none⟩=some c[0]:=by simp[World.cell?,g4,mt]
     have hfz:w.frozen? ⟨(G.ob o).blk,0,none⟩=false:=by simp[World.frozen?,g4]
     have e8:(G.ob o).blk<w.heap.size:=(Qs.1 g4).1;refine(zg5 ⟨b,off,none⟩ ⟨(G.ob o).blk,0,none⟩ c[0] w hl s9 hfz).mono ?_;rintro e w' ⟨rfl,rfl⟩
     have db:Below w.heap.size w ((((w.alloc (.cells #[.pointer (some ⟨(G.ob o).blk,0,none⟩)] 287)).alloc (.cells #[.pointer (some ⟨9,287,none⟩),.pointer (some ⟨w.heap.size,0,none⟩),.int .u64 150] 323)).alloc (.cells #[.pointer (some ⟨9,287,none⟩),.pointer (some ⟨w.heap.size,0,none⟩),.int .u64 150] 323)).alloc (.cells #[.pointer (some ⟨b,off,none⟩)] 125)):=
      ((((Below.refl _ _).alloc (Qg _) _).alloc Sx _).alloc (by first|(simp;done)|(simp;omega)) _).alloc (by first|(simp;done)|(simp;omega)) _
     have gq:=hA.fresh db;obtain⟨_,k1,k2,k3,c',k4,k5,k6⟩:=gq.ob o _ ho;have hc1':c'.size=1:=by simpa using k5.symm
     refine⟨.bool true,G,Bv true,_,rfl,.refl G,?_,.v _,rfl,rfl⟩;rw[q2v _ k4 hc1']
     exact gq.setRow ho Sx λi x y hx hy=>by
      match i with
      |0=>simp at hx hy;subst hx;subst hy;exact hpp
      |i+1=>simp at hx
theorem za4(n:Int)(o:Nat)(st:List AObj)(ho:st[o]?=some (.cells 0 125 [.v (.pointer none)])):qm E 214 [.ifc 43 (Iv n),.ifc 287 (.bx o 0 0)] st λr st'=>r=Bv false∧st'=st:=by
 refine⟨λB0 w0 G vals w hL hA hR=>?_⟩
 obtain⟨v1,v2,rfl⟩:∃x y,vals= #[x,y]:=by
  have:=hR.1
  match vals,this with
  |⟨[x,y]⟩,_=>exact⟨x,y,rfl⟩
 have h1:=hR.2 0 _ v1 rfl rfl;have h2:=hR.2 1 _ v2 rfl rfl
 cases h1 with
 |ifc _ _ y1 h1=>
  cases h2 with
  |ifc _ _ y2 h2=>
   cases h1 with
   |v=>
    cases h2 with
    |bx _ _ _ b2 hn hv hb=>
     obtain⟨_,g1,g2,g3,c,g4,g5,g6⟩:=hA.ob o _ ho;have hb:=hb g1;subst hb;have mt:c.size=1:=by simpa using g5.symm
     have hl:=(hL w hA.below).ert;have s9:w.cell? ⟨(G.ob o).blk,0,none⟩=some c[0]:=by simp[World.cell?,g4,mt]
     refine(zen n ⟨(G.ob o).blk,0,none⟩ c[0] w hl s9).mono ?_;rintro e w' ⟨rfl,hb⟩;exact⟨_,G,Bv false,st,rfl,.refl G,hA.fresh hb,.v _,rfl,rfl⟩
end Go.Proofs.YthnbabbhpeebbaaGreatDoor
namespace Go.Proofs.YthnbabbhpeebbaaGreatDoor
open Go Go.Av Go.RowKit Go.Extern.Stop Go.Stop Go.Extern Go.Proofs
theorem isT.eqN(n m:Int)(w:World):(binOp .eql 30 (.iface 43 (.int .i64 n)) (.iface 43 (.int .i64 m))).run Tryz.prog w=.ok (.bool (n==m)) w:=Go.Lib.run_eql_iface_int w n m Tryz.underlying30 Kr Tryz.underlying43
theorem isT.gd(t u v:TypeId)(a b:Value)(x y:Operand)(w:World):(eqGuard .eql t x y (.iface u a) (.iface v b)).run Tryz.prog w=.ok () w:=by simp[eqGuard]
theorem isT.no1(v:Value)(xT:TypeId)(w:World):(Instr.typeAssert (.iface 43 v) xT 171 true).run Tryz.prog w=.ok (.tuple #[.nilIface,.bool false]) w:=run_typeAssert_lacksB Tryz.underlying171 Kr Kr v xT w
theorem isT.no3(v:Value)(xT:TypeId)(w:World):(Instr.typeAssert (.iface 43 v) xT 174 true).run Tryz.prog w=.ok (.tuple #[.nilIface,.bool false]) w:=run_typeAssert_lacksB Tryz.underlying174 Kr Kr v xT w
theorem isT.no4(v:Value)(xT:TypeId)(w:World):(Instr.typeAssert (.iface 43 v) xT 175 true).run Tryz.prog w=.ok (.tuple #[.nilIface,.bool false]) w:=run_typeAssert_lacksB Tryz.underlying175 Kr Kr v xT w
theorem isT.has(v:Value)(xT:TypeId)(w:World):(Instr.typeAssert (.iface 125 v) xT 174 true).run Tryz.prog w=.ok (.tuple #[.iface 125 v,.bool true]) w:=run_typeAssert_hasB Tryz.underlying174 Kr v xT w
theorem isT.typeOf(v:Value)(w:World):(ReflectliteType.typeOf #[.iface 43 v]).run Tryz.prog w=.ok (.iface 169 (.agg #[.pointer (some ⟨9,43,none⟩)])) w:=Kr
theorem isT.mC(h:Value)(w:World):(Go.method 495 169 (.agg #[h]) "Comparable").run Tryz.prog w=.ok (318,.agg #[h]) w:=by kernel_rfl
theorem isT.cmp(w:World):(ReflectliteType.method (λt=>do Rtype.noPackHeld "Comparable" t;(λa=>Value.bool a.comparable)<$>typeInfo t) #[.agg #[.pointer (some ⟨9,43,none⟩)]]).run Tryz.prog w=.ok (.bool true) w:=by kernel_rfl
set_option maxHeartbeats 4000000 in
theorem zi3(n m:Int)(w:World):Calls Tryz.prog 87 #[.iface 43 (.int .i64 n),.iface 43 (.int .i64 m),.bool true] w λev w'=>ev=.returned (.bool (n==m))∧w'=w:=by
 have q:=isT.eqN n m;have gd:=isT.gd;have n1:=isT.no1;have n3:=isT.no3;have n4:=isT.no4
 go_enter Tryz.func87,Tryz.ntmps87
 by_cases h:n=m
 .subst h
  have e:(n==n)=true:=Sx
  rw[e]at q⊢;clear e
  go_wp2
  refine wp_loop_rounds 1 ?_;rw[rounds_succ]
  go_wp2
  go_ret
  exact⟨rfl,rfl⟩
 .have e:(n==m)=false:=by simpa using h
  rw[e]at q⊢;clear e h
  go_wp2
  refine wp_loop_rounds 1 ?_;rw[rounds_succ]
  go_wp2
  go_ret
  exact⟨rfl,rfl⟩
set_option maxHeartbeats 4000000 in
theorem is_w(v:Value)(t:TypeId)(m:Int)(r:Bool)(w:World)(h1:Calls Tryz.prog 87 #[.iface t v,.iface 43 (.int .i64 m),.bool true] w λev w'=>ev=.returned (.bool r)∧w'=w):
  Calls Tryz.prog 43 #[.iface t v,.iface 43 (.int .i64 m)] w λev w'=>ev=.returned (.bool r)∧w'=w:=by
 have p7:=@run_callFunc_extern Tryz.prog 86 _ ReflectliteType.typeOf Tryz.func86 Kr Kr Kr Kr
 have h11:= @run_callFunc_extern Tryz.prog 318 _ (ReflectliteType.method (λt=>do Rtype.noPackHeld "Comparable" t;pure (.bool (<-typeInfo t).comparable))) Tryz.func318 (by kernel_rfl) (by kernel_rfl) (by kernel_rfl) (by kernel_rfl)
 have tO:=isT.typeOf;have mC:=isT.mC;have cm:=isT.cmp;have gd:=isT.gd
 go_enter Tryz.func43,Tryz.ntmps43
 go_wp2_with (go_at_call 87;refine h1.mono ?_;rintro e w' ⟨rfl,rfl⟩)
 go_ret
 exact⟨rfl,rfl⟩
theorem q77(n m:Int)(st:List AObj):qm E 43 [.ifc 43 (Iv n),.ifc 43 (Iv m)] st λr st'=>r=Bv (decide (n=m))∧st'=st:=by
 refine⟨λB0 w0 G vals w hL hA hR=>?_⟩
 obtain⟨v1,v2,rfl⟩:∃x y,vals= #[x,y]:=by
  have:=hR.1
  match vals,this with
  |⟨[x,y]⟩,_=>exact⟨x,y,rfl⟩
 have h1:=hR.2 0 _ v1 rfl rfl;have h2:=hR.2 1 _ v2 rfl rfl
 cases h1 with
 |ifc _ _ y1 h1=>
  cases h2 with
  |ifc _ _ y2 h2=>
   cases h1
   cases h2
   refine(is_w _ _ m (n==m) w (zi3 n m w)).mono ?_;rintro e w' ⟨rfl,rfl⟩;refine⟨.bool (n==m),G,Bv (decide (n=m)),_,rfl,.refl G,hA,?_,rfl,rfl⟩;have:(n==m)=decide (n=m):=by by_cases h:n=m<;>simp[h]
   rw[this];exact .v _
end Go.Proofs.YthnbabbhpeebbaaGreatDoor
namespace Go.Pl
open Go Go.Proofs
inductive ErrV where
 |no
 |num (n:Int)
 |at' (a n:Int)
 deriving DecidableEq
def ErrV.code:ErrV->Int
 |.no=>0
 |.num n=>n
 |.at' _ n=>n
def ErrV.pos:ErrV->Int
 |.no=> -9
 |.num _=> -9
 |.at' a _=>a
def y6:Nat->List Fld->ErrV
 |_,[]=>.no
 |k,f::r=>if v7 f=0 then y6 (k+1) r else .at' k (v7 f)
def vi(fs:List Fld):ErrV:=if fs=[]then .num 2 else if 40<fs.length then .num 11 else y6 0 fs
theorem qn3:∀(k:Nat)(r:List Fld),(y6 k r).code=0↔y6 k r=.no
 |k,[]=>by simp[y6,ErrV.code]
 |k,f::r=>by
  unfold y6;split
  .exact qn3 _ r
  .rename_i h
   simp[ErrV.code,h]
theorem qn2(fs:List Fld):(vi fs).code=0↔vi fs=.no:=by
 unfold vi;split
 .simp[ErrV.code]
 .split
  .simp[ErrV.code]
  .exact qn3 _ _
end Go.Pl
namespace Go.Proofs.YthnbabbhpeebbaaGreatDoor
open Go Go.Av Go.RowKit Go.Proofs Go.Pl
theorem qph{st st':List AObj}(h:∀k,k<st.length->st'[k]?=st[k]?):∃ext,st'=st++ext:=by
 refine qme ?_ h;rcases Nat.eq_zero_or_pos st.length with h0|h0
 .omega
 .have h1:=h (st.length-1) Om
  have h2:st[st.length-1]?=some (st[st.length-1]'(by omega)):=Qn Om;have:=lt_of_getElem? (h1.trans h2);omega
def gErr(x:qt):ErrV:=if x.kind=2 then(if x.fields=[]then .no else .num 2)else if x.kind=1∨x.kind=3 then vi x.fields else .num 2
def qdd:Nat->List qt->ErrV
 |_,[]=>.no
 |k,x::r=>if(gErr x).code=0 then qdd (k+1) r else .at' k (gErr x).code
def eErr(b:List qt):ErrV:=if b.length<1∨40<b.length then .num 1 else qdd 0 b
theorem qob(x:qt):(gErr x).code=0↔gErr x=.no:=by
 unfold gErr;split
 .split <;>simp[ErrV.code]
 .split
  .exact qn2 _
  .simp[ErrV.code]
theorem qs4:∀(k:Nat)(r:List qt),(qdd k r).code=0↔qdd k r=.no
 |k,[]=>by simp[qdd,ErrV.code]
 |k,f::r=>by
  unfold qdd;split
  .exact qs4 _ r
  .rename_i h
   simp[ErrV.code]at h⊢;exact h
theorem qkd(b:List qt):(eErr b).code=0↔eErr b=.no:=by
 unfold eErr;split
 .simp[ErrV.code]
 .exact qs4 _ _
def errA:ErrV->AV
 |.no=>.v .nilIface
 |.num n=>.ifc 43 (Iv n)
 |.at' a n=>.ifc 125 (.pp [Iv a,.ifc 43 (Iv n)])
theorem vu(e:ErrV):Pure (errA e):=by
 cases e with
 |no=>exact qw _
 |num n=>exact qcu (qw _)
 |at' a n=>exact qk0 a n
def KeyB(fs:List Fld):Prop:=∀f∈fs,f.1.length<4294967281
theorem zbx{fs:List Fld}{i:Nat}{x:Fld}(h:fs[i]?=some x):(fs.map fldA)[i]?=some (fldA x):=by simp[h]
theorem q75{b:List qt}{i:Nat}{x:qt}(h:b[i]?=some x):(b.map ye)[i]?=some (ye x):=by simp[h]
theorem q7s{fs:List Fld}(h:¬0<fs.length):vi fs=.num 2:=if_pos (Qw.1 Om)
theorem q43{fs:List Fld}(h:40<fs.length):vi fs=.num 11:=(if_neg λh0=>by simp[h0]at h).trans (if_pos h)
theorem q7t{fs:List Fld}(h0:0<fs.length)(h:¬40<fs.length):vi fs=y6 0 fs:=(if_neg (Za.1 h0)).trans (if_neg h)
theorem qmz(fs:List Fld)(st:List AObj)(e:ErrV)(h:vi fs=e)(hK:KeyB fs)(hl:fs.length<9223372036854775808):qm E 209 [wn fs] st λr st'=>r=errA e∧st'=st:=by
 subst h;refine ja [.a (wn fs)] (vu _) Tryz.func209 rfl rfl (λ_=>rfl) rfl λS0=>?_;have bf:(fs.map fldA).length=fs.length:=Sx
 apply qd [];repeat' (first|apply Qa|(intro h;try exact cDd)|exact cSd|apply qb []|refine exr ?_|refine qf ?_)
 .rw[q7s Om];rfl
 .rw[q43 Om];rfl
 rw[q7t Om Om];refine xx (X:=Nat) (λk=>⟨[(16,.a (wn fs)),(17,.i (fs.map fldA).length),(18,.i k)],[],0⟩) (λk=>k<=fs.length∧y6 k (fs.drop k)=y6 0 fs) (λk=>fs.length-k) 0 ⟨Om,rfl⟩ ?_ ?_
 .skip
  repeat' (first|apply Qa|(intro h;try exact cDd)|exact cSd|apply qb []|refine exr ?_|refine qf ?_)
 .rintro k ⟨hk,hc⟩
  by_cases e8:k<fs.length
  .obtain⟨y,hy⟩:∃y,fs[k]?=some y:=⟨_,Qn e8⟩
   have i8:=zbx hy;have hky:=hK y (Qz hy);obtain⟨_,hye⟩:=Qt.1 hy;rw[Qu e8,hye,y6]at hc;rw[<-hc];by_cases ha:v7 y=0
   .have hc4:=λst=>qjf y st hky ha
    apply qd [4];repeat' (first|apply Qa|(intro h;try exact cDd)|(refine Qb (k) ⟨Om,_,i8,?_⟩)|exact⟨Tryz.call221⟩|refine cpe hc4 ?_|(refine Qb (k+1) ⟨⟨Om,by simp_all⟩,Om,?_⟩)|exact cSd|apply qb [4]|refine exr ?_|refine qf ?_)
   .have hc4:=λst=>qjg y st hky ha
    rw[if_neg ha];apply qd [4];repeat' (first|apply Qa|(intro h;try exact cDd)|(refine Qb (k) ⟨Om,_,i8,?_⟩)|exact⟨Tryz.call221⟩|refine cpe hc4 ?_|exact cSd|apply qb [4]|refine exr ?_|refine qf ?_)
  .rw[Qq Om,y6]at hc
   rw[<-hc];apply qd [];repeat' (first|apply Qa|(intro h;try exact cDd)|exact cSd|apply qb []|refine exr ?_|refine qf ?_)
theorem ze8(x:qt)(st:List AObj)(e:ErrV)(h:gErr x=e)(hK:KeyB x.fields)(hl:x.fields.length<9223372036854775808):qm E 157 [ye x] st λr st'=>r=errA e∧st'=st:=by
 subst h;refine ja [.a (ye x)] (vu _) Tryz.func157 rfl rfl (λ_=>rfl) rfl λS0=>?_;have bf:(x.fields.map fldA).length=x.fields.length:=Sx
 have pt:x.fields=[]↔x.fields.length=0:=Sx
 have hc6:=λst=>qmz x.fields st _ rfl hK hl;unfold gErr;simp only[pt];generalize vi x.fields=e at *
 cases e
 all_goals apply qd [1]
 repeat' (first|apply Qa|(intro h;try exact cDd)|exact⟨Tryz.call209⟩|refine cpe hc6 ?_|exact cSd|apply qb [1]|refine exr ?_|refine qf ?_)
 all_goals clear hc6
 all_goals grind [errA]
theorem zbq(n:Int)(st:List AObj):qm E 162 [.ifc 43 (Iv n)] st λr st'=>r=.ifc 43 (Iv n)∧st'=st:=by
 refine ze (qcu (qw _)) (qq Tryz.func162 rfl (Qd rfl) ?_);repeat' (first|apply qp|apply qi|apply qh|apply ql|apply qj|(apply qe;exact rfl;apply cd_f;exact cRa)|(apply vc;exact rfl;exact rfl)|(apply kj;exact rfl;exact rfl)|apply za|apply q7|(apply qk;exact Tryz.call214;exact za4 _ (st.length+0) _ (jl rfl)))
 exact qo rfl (zt rfl) ⟨rfl,_,rfl⟩
theorem zbp(a n:Int)(st:List AObj):qm E 162 [qhj a n] st λr st'=>r=.ifc 43 (Iv n)∧st'=st:=by
 refine ze (qcu (qw _)) (qq Tryz.func162 rfl (Qd rfl) ?_);repeat' (first|apply qp|apply qi|apply qh|apply ql|apply qj|(apply qe;exact rfl;apply cd_t;exact cRa)|(apply vc;exact rfl;exact rfl)|(apply kj;exact rfl;exact rfl)|(apply qb0;(iterate 4 exact rfl))|(apply vr;(iterate 3 exact rfl))|(apply xu;exact rfl;exact rfl)|apply q7|(apply qk;exact Tryz.call214;exact zem a n (st.length+0) _ (jl rfl))|(apply kh;exact rfl;(focus first|assumption|(repeat' (first|assumption|exact we|exact jl rfl|apply ke|apply kq|omega|apply qay)));exact rfl;exact rfl))
 exact qo rfl (zt rfl) ⟨rfl,qph λj hj=>(qqc Om).trans (Zc hj)⟩
theorem qq4(k:Int)(e:ErrV)(st:List AObj)(he:e.code≠0):qm E 125 [Iv k,errA e] st λr st'=>r=errA (.at' k e.code)∧st'=st:=by
 refine ze (vu _) (qq Tryz.func125 rfl (Qd rfl) ?_)
 cases e with
 |no=>exact absurd rfl he
 |num n=>
  repeat' (first|(apply qnp;(iterate 3 exact rfl))|apply qp|apply qi|apply qh|apply ql|apply qj|(apply vc;exact rfl;exact rfl)|(apply yc;(iterate 3 exact rfl))|apply q7|(apply qk;exact Tryz.call162;exact zbq _ _))
  exact qo rfl (zt rfl) ⟨rfl,_,rfl⟩
 |at' a n=>
  repeat' (first|(apply qnp;(iterate 3 exact rfl))|apply qp|apply qi|apply qh|apply ql|apply qj|(apply vc;exact rfl;exact rfl)|(apply yc;(iterate 3 exact rfl))|apply q7|(apply qk;exact Tryz.call162;exact zbp a n _))
  exact qo rfl (zt rfl) ⟨rfl,_,rfl⟩
structure EdB (x:qt):Prop where
 keys:KeyB x.fields
 len:x.fields.length<9223372036854775808
 id1: -9223372036854775808<=x.id
 id2:x.id<=9223372036854775807
@[reducible] def jz (b : List qt) : AV := .sl 3 (b.map ye) none
theorem qmc(b:List qt)(st:List AObj)(e:ErrV)(h:eErr b=e)(hB:∀x∈b,EdB x)(hl:b.length<9223372036854775808):qm E 122 [jz b] st λr st'=>r=errA e∧st'=st:=by
 subst h;refine ja [.a (jz b)] (vu _) Tryz.func122 rfl rfl (λ_=>rfl) rfl λS0=>?_;have bf:(b.map ye).length=b.length:=Sx
 have h1:b.length<1∨40<b.length->eErr b=.num 1:=λh=>if_pos h;have hr:¬(b.length<1∨40<b.length)->eErr b=qdd 0 b:=λh=>if_neg h;apply qd [];repeat' (first|apply Qa|(intro h;try exact cDd)|exact cSd|apply qb []|refine exr ?_|refine qf ?_)
 .rw[h1 Om];rfl
 .rw[h1 Om];rfl
 rw[hr Om];refine xx (X:=Nat) (λk=>⟨[(15,.a (jz b)),(16,.i (b.map ye).length),(17,.i k)],[],0⟩) (λk=>k<=b.length∧qdd k (b.drop k)=qdd 0 b) (λk=>b.length-k) 0 ⟨Om,rfl⟩ ?_ ?_
 .skip
  repeat' (first|apply Qa|(intro h;try exact cDd)|exact cSd|apply qb []|refine exr ?_|refine qf ?_)
 .rintro k ⟨hk,hc⟩
  by_cases e8:k<b.length
  .obtain⟨y,hy⟩:∃y,b[k]?=some y:=⟨_,Qn e8⟩
   have i8:=q75 hy;have hky:=hB y (Qz hy);obtain⟨_,hye⟩:=Qt.1 hy;rw[Qu e8,hye,qdd]at hc;have hc9:=λst=>ze8 y st _ rfl hky.keys hky.len;have hcf:=λst=>qq4 k (gErr y) st;rw[<-hc]
   cases hg:gErr y
   all_goals rw[hg]at hc hc9 hcf
   .apply qd [4]
    repeat' (first|apply Qa|(intro h;try exact cDd)|(refine Qb (k) ⟨Om,_,i8,?_⟩)|exact⟨Tryz.call157⟩|refine cpe hc9 ?_|(refine Qb (k+1) ⟨⟨Om,(if_pos rfl).symm⟩,Om,?_⟩)|exact cSd|apply qb [4]|refine exr ?_|refine qf ?_)
   all_goals have hgc:=λh=>qob y |>.1 h
   all_goals rw[hg]at hgc
   all_goals rw[if_neg λh=>nomatch hgc h]
   .have hcg:=λst=>hcf st λh=>nomatch hgc h
    apply qd [4];repeat' (first|apply Qa|(intro h;try exact cDd)|(refine Qb (k) ⟨Om,_,i8,?_⟩)|exact⟨Tryz.call157⟩|refine cpe hc9 ?_|exact⟨Tryz.call125⟩|refine cpe hcg ?_|exact cSd|apply qb [4]|refine exr ?_|refine qf ?_)
   .have hcg:=λst=>hcf st λh=>nomatch hgc h
    apply qd [4];repeat' (first|apply Qa|(intro h;try exact cDd)|(refine Qb (k) ⟨Om,_,i8,?_⟩)|exact⟨Tryz.call157⟩|refine cpe hc9 ?_|exact⟨Tryz.call125⟩|refine cpe hcg ?_|exact cSd|apply qb [4]|refine exr ?_|refine qf ?_)
  .rw[Qq Om,qdd]at hc
   rw[<-hc];apply qd [];repeat' (first|apply Qa|(intro h;try exact cDd)|exact cSd|apply qb []|refine exr ?_|refine qf ?_)
def j9(x:qt):qa:=vv x++[10]++qas [32,32] (kp x.fields)
def encF(b:List qt):qa:=b.flatMap j9
theorem zbs(a b:List qt):encF (a++b)=encF a++encF b:=by simp[encF]
theorem zbt(x:qt):encF [x]=j9 x:=by simp[encF]
theorem qsv:∀(k:Nat)(r:List Fld),y6 k r=.no↔∀f∈r,kf f
 |k,[]=>by simp[y6]
 |k,f::r=>by
  unfold y6;split
  .rename_i h
   rw[qsv (k+1) r];have:=(qc6 f).1 h;simp[this]
  .rename_i h
   have h2:¬kf f:=λg=>h ((qc6 f).2 g);simp[h2]
theorem ql7{fs:List Fld}(h:vi fs=.no):fs≠[]∧fs.length<=40∧∀f∈fs,kf f:=by
 unfold vi at h;split at h
 .exact absurd h Sx
 .split at h
  .exact absurd h Sx
  .exact⟨by assumption,Om,(qsv _ _).1 h⟩
theorem qpj{x:qt}(h:gErr x=.no):x.fields.length<=40∧∀f∈x.fields,kf f:=by
 unfold gErr at h;split at h
 .split at h
  .rename_i h0;rw[h0];simp
  .exact absurd h Sx
 .split at h
  .exact(ql7 h).2
  .exact absurd h Sx
theorem qzb:∀(k:Nat)(b:List qt),qdd k b=.no↔∀x∈b,gErr x=.no
 |k,[]=>by simp[qdd]
 |k,x::b=>by
  unfold qdd;split
  .rename_i h
   rw[qzb (k+1) b];have:=(qob x).1 h;simp[this]
  .rename_i h
   have h2:¬gErr x=.no:=λg=>h ((qob x).2 g);simp[h2]
theorem qgf{b:List qt}(h:eErr b=.no):1<=b.length∧b.length<=40∧∀x∈b,gErr x=.no:=by
 unfold eErr at h;split at h
 .exact absurd h Sx
 .exact⟨Om,Om,(qzb _ _).1 h⟩
theorem zhq{fs:List Fld}(hl:fs.length<=40)(h:∀f∈fs,kf f):zdy fs:=⟨Om,λf hf=>by
 have:=h f hf;have h1:=this.1.2.1;have h2:=this.2
 omega⟩
theorem qte(xs:List FldV)(st:List AObj)(hl:xs.length<=40)(h:∀f∈xs,kf f):qm E 129 [wn xs] st λr st'=>r=.tu [Sv (kp xs),.v .nilIface]∧st'=st:=by
 have:=zhn xs st (zhq hl h);unfold qtd at this;have h0:=(qn7 xs).2 h;rw[if_pos h0,h0]at this;exact this
theorem qqf(l:qa):(qas [32,32] l).length<=3*l.length:=by
 unfold qas;obtain⟨h1,h2⟩:=qho _ l (Qg _);have:=qrb [32,32] (zv l);simp only[Qc,Qj]at this;omega
theorem qwl(x:qt)(h1: -9223372036854775808<=x.id)(h2:x.id<=9223372036854775807):(vv x).length<=100:=by
 have hn:=Lib.itoa_length_le x.id h1 h2;unfold vv qbm;split
 .split
  .simp;omega
  .split
   .simp;omega
   .split <;>simp <;>omega
 .simp
theorem q5e{x:qt}(hB:EdB x)(h:gErr x=.no):(j9 x).length<=700000:=by
 obtain⟨hl,hg⟩:=qpj h;have h1:=qhn x.fields hg;have h2:=qqf (kp x.fields);have h3:=qwl x hB.id1 hB.id2;unfold j9;simp only[Qe,Qc,Qj];omega
theorem qq5:∀(b:List qt),(∀x∈b,EdB x)->(∀x∈b,gErr x=.no)->(encF b).length<=700000*b.length
 | [],_,_=>by simp[encF]
 |x::r,hB,h=>by
  have ih:=qq5 r (λy hy=>hB y (by simp[hy])) (λy hy=>h y (by simp[hy]));have h1:=q5e (hB x Sx) (h x Sx);have e:encF (x::r)=j9 x++encF r:=by simp[encF]
  rw[e,Qe,Qc];omega
set_option maxHeartbeats 2000000 in
theorem qwc(b:List qt)(st:List AObj)(hB:∀x∈b,EdB x)(he:eErr b=.no):qm E 103 [jz b] st λr st'=>r=.tu [Sv (encF b),.v .nilIface]∧st'=st:=by
 refine ze (vz (qw _) (qw _)) (qq Tryz.func103 rfl (Qd rfl) ?_);have bf:(b.map ye).length=b.length:=Sx
 obtain⟨db,hb40,hg⟩:=qgf he;have mw:=qq5 b hB hg;repeat' (first|(apply qku;exact rfl)|apply qp|apply zm|apply qi|apply qh|apply ql|apply qj|(apply qe;exact rfl;apply cd_f;exact cRa)|(apply kc;(iterate 4 exact rfl))|(apply vp;exact rfl;exact rfl)|apply za|(apply qk;exact Tryz.call122;exact qmc _ _ _ he hB Om))
 refine qhg b (λpre s=>∃q,(q=.v (.pointer none)∨q=.bx (st.length+0) 0 0)∧StE [(5,.bx (st.length+0) 0 0),(15,jz b),(16,Iv b.length),(17,Iv pre.length)] st [bldO 0 q (encF pre) (st.length+1),.tip (encF pre).length 1 5] s) ⟨_,.inl rfl,qpq ⟨rfl,rfl,congrArg (λn:Nat=>Iv (n:Int)) bf,rfl,trivial⟩ rfl⟩ ?_ ?_
 .rintro _ ⟨q,hq,t,ext,rfl⟩
  repeat' (first|apply qp|apply qi|apply qh|apply qj|(apply zh;(iterate 3 exact rfl))|(apply qe;exact rfl;apply yw;exact cAo)|apply wd|apply q7|(refine qk Tryz.call133 (qkx st _ _ _ _ 0 1 0 _ _ rfl rfl rfl) ?_))
  exact qo rfl (wz rfl) ⟨rfl,qgj _ _ _ _⟩
 .rintro pre x rest _ hr ⟨q,hq,t,ext,rfl⟩
  have b9:b.length=pre.length+(rest.length+1):=by rw[hr];simp
  have i8:(b.map ye)[pre.length]?=some (ye x):=by rw[hr];simp
  have hxb:=hB x (by rw[hr];simp);have hxg:=hg x (by rw[hr];simp);obtain⟨r6,hfg⟩:=qpj hxg;have gm:=qq5 pre (λy hy=>hB y (by rw[hr];simp[hy])) (λy hy=>hg y (by rw[hr];simp[hy]));have hll:=qwl x hxb.id1 hxb.id2;have hfo:=qhn x.fields hfg;have lg:=qqf (kp x.fields);repeat' (first|apply qp|apply zm|apply qi|apply qh|apply ql|apply qj|(apply zk;exact rfl;exact rfl)|(apply zh;(iterate 3 exact rfl))|(apply qe;exact rfl;apply y5;exact cAo)|(apply qe;exact rfl;apply cd_f;exact cRa)|(apply vb;exact rfl;exact rfl;exact cOs)|(apply vp;exact rfl;exact rfl)|(apply kj;exact rfl;exact rfl)|(apply zr;(iterate 3 exact rfl))|(apply vr;(iterate 3 exact rfl))|(apply ve;(iterate 5 exact rfl))|(apply jt;(iterate 11 exact rfl))|(apply xj;(iterate 9 exact rfl))|apply za|(apply qk;exact Tryz.call129;exact qte _ _ r6 hfg)|(apply qk;exact Tryz.call131;exact zhx _ _ hxb.id1 hxb.id2)|(apply qk;exact Tryz.call132;exact zb8 _ _ _ Om (by decide))|(apply wv (n:=pre.length);(iterate 5 exact rfl);exact i8))
  refine qk Tryz.call130 (ql3 st _ _ _ _ 0 1 0 _ _ _ rfl rfl ?_ ?_ rfl) ?_;(exact hq);(simp only[Qe,Qc,Qj];omega);repeat' (first|apply qi|apply qh|apply ql|(apply jw;exact rfl;exact rfl;exact zu Om Om))
  refine⟨_,.inr rfl,qjx ⟨rfl,rfl,rfl,?_,trivial⟩ ?_⟩
  .rw[qjw pre x];rfl
  .have e:encF (pre++[x])=encF pre++((vv x++[10])++qas [32,32] (kp x.fields)):=by rw[zbs,zbt];rfl
   rw[e];rfl
theorem qke(b:List qt)(st:List AObj)(e:ErrV)(hB:∀x∈b,EdB x)(hl:b.length<9223372036854775808)(he:eErr b=e)(h0:e.code≠0):qm E 103 [jz b] st λr st'=>r=.tu [Sv [],errA e]∧st'=st:=by
 refine ze (vz (qw _) (vu _)) (qq Tryz.func103 rfl (Qd rfl) ?_)
 cases e with
 |no=>exact absurd rfl h0
 |num n=>
  repeat' (first|apply qp|apply qi|apply qh|apply ql|apply qj|(apply qe;exact rfl;apply cd_t;exact cRa)|(apply wq;exact rfl;exact rfl)|apply q7|(apply qk;exact Tryz.call122;exact qmc _ _ _ he hB hl))
  exact qo rfl (wz rfl) ⟨rfl,_,rfl⟩
 |at' a n=>
  repeat' (first|apply qp|apply qi|apply qh|apply ql|apply qj|(apply qe;exact rfl;apply cd_t;exact cRa)|(apply wq;exact rfl;exact rfl)|apply q7|(apply qk;exact Tryz.call122;exact qmc _ _ _ he hB hl))
  exact qo rfl (wz rfl) ⟨rfl,_,rfl⟩
end Go.Proofs.YthnbabbhpeebbaaGreatDoor
namespace Go.Av
open Go Go.RowKit
theorem qnb{b:Nat}{st l:List AObj}{sz:Nat}{T:TypeId}{xs:List AV}{c:AV}(h:TipO b st sz T xs c):TipO b (st++l) sz T xs c:=by
 rcases h with h|h
 .exact .inl (qjz h)
 .exact .inr h
theorem q39{b:Nat}{st st':List AObj}{sz:Nat}{T:TypeId}{xs:List AV}{c:AV}(hs:∀(t m sz:Nat)(T:TypeId),st[t]?=some (AObj.tip m sz T)->st'[t]?=st[t]?)(h:TipO b st sz T xs c):TipO b st' sz T xs c:=by
 rcases h with(h|⟨t,h1,h2,h3⟩)|h
 .exact .inl (.inl h)
 .exact .inl (.inr ⟨t,h1,(hs t _ _ _ h2).trans h2,h3⟩)
 .exact .inr h
end Go.Av
namespace Go.Proofs.YthnbabbhpeebbaaGreatDoor
open Go Go.Av Go.RowKit Go.Proofs Go.Pl
theorem qd4{st l:List AObj}:st.length<=(st++l).length:=Sx
theorem qo3{b o:Nat}{st:List AObj}{sz:Nat}{T:TypeId}{xs:List AV}{c:AV}{x:AObj}(h:TipO b st sz T xs c)(hn:qjp st[o]?):TipO b (st.set o x) sz T xs c:=
 q39 (λt m sz T ht=>Zg (λe=>by subst e;exact hn _ _ _ ht)) h
structure OutI (st:List AObj) (S:List AObj):Prop where
 low:∀j,j<st.length->S[j]?=st[j]?
 len:st.length<=S.length
theorem OutI.pre{st S l:List AObj}(h:OutI st S):OutI st (S++l):=⟨λj hj=>(Zc (by have:=h.len;omega)).trans (h.low j hj),by have:=h.len;simp;omega⟩
theorem OutI.set{st S:List AObj}{o:Nat}{x:AObj}(h:OutI st S)(ho:st.length<=o):OutI st (S.set o x):=⟨λj hj=>(qqc Om).trans (h.low j hj),by have:=h.len;simp;omega⟩
theorem OutI.fr{st S S':List AObj}{t:Nat}(h:OutI st S)(hf:Fr S S' t)(ht:st.length<=t):OutI st S':=⟨λj hj=>(hf.same j Om (by have:=h.len;omega)).trans (h.low j hj),Zi h.len hf.len⟩
theorem OutI.ext{st S:List AObj}(h:OutI st S):∃ext,S=st++ext:=qph h.low
theorem qax{E:Env}{rd:Option Nat}{N:Nat}{ops:Array Oper}{K:AS->Prop}{s:AS}{rest:List Oper}{d:Option Tmp}{T:TypeId}{p:String}{af:Array Edge}{t e:TypeId}{len sz:Nat}{agg:Bool}{parts:Array (Nat×Operand)}{zs cs:List AV}{st:List AObj}(d9:s.st=st)(hu:E.P.underlying t=some (.slice e))(ht:tyOf E.P e=some (sz,agg))(hz:qes E.P e len=some zs)
  (hf:qcp (λi=>some (i*sz,sz)) zs (vk N s parts)=some cs) (o9:Nat.ble (len*sz) 16777216=true)
  (h:AOps E rd N ops rest K (AS.put ⟨s.t,st++[.cells 0 e cs],s.df⟩ d (.os st.length 0 0 len len))):AOps E rd N ops (⟨d,.buildSlice t len parts,T,p,af,none⟩::rest) K s:=
 qaw (loc:=[]) (by rw[d9];simp) hu ht hz hf o9 h
theorem qky(x:qt):qlv (ye x):=λy hy=>by
 simp only[AV.cells,Qh,Qm,or_false]at hy;rcases hy with rfl|rfl|rfl
 .exact qw _
 .exact qw _
 .exact qd1 _
theorem qkz(b:List qt):Pure (jz b):=qc9 λx hx=>by
 obtain⟨f,_,rfl⟩:=Qf.1 hx;exact qky f
theorem zcg{α β:Type}(g:α->β)(l:List α)(a:α):(l++[a]).map g=l.map g++[g a]:=Sx
def tryB(k:Int)(l:qa):Option Int:=if qbm k<+:l then(match Lib.atoiAll (l.drop (qbm k).length)with
 |.ok n=>some n
 |_=>none)else none
def begE(l:qa):Option (Int×Int):=match tryB 1 l with
 |some n=>some (1,n)
 |none=>match tryB 2 l with
  |some n=>some (2,n)
  |none=>match tryB 3 l with
   |some n=>some (3,n)
   |none=>none
def begA:Option (Int×Int)->AV
 |some (k,n)=>.tu [ye ⟨k,n,[]⟩,Bv true]
 |none=>.tu [ye ⟨0,0,[]⟩,Bv false]
theorem q7j(x:Option (Int×Int)):Pure (begA x):=by
 rcases x with _|⟨k,n⟩
 .exact vz (qh8 (qky _)) (qw _)
 .exact vz (qh8 (qky _)) (qw _)
theorem qxd(k n:Int):Weak (.ag [Iv k,Iv n,zf]) (ye ⟨k,n,[]⟩):=
 zgw rfl λi x y hx hy=>by
  match i with
  |0=>simp at hx hy;subst hx;subst hy;exact qbr _
  |1=>simp at hx hy;subst hx;subst hy;exact qbr _
  |2=>simp at hx hy;subst hx;subst hy;exact qga 2
  |i+3=>simp at hx
theorem q49(l m:qa)(st:List AObj)(h:m<+:l):qm E 240 [Sv l,Sv m] st λr st'=>r=.tu [Sv (l.drop m.length),Bv true]∧st'=st:=by
 have:=qem l m st;rw[qc3 h,(xw l m).2 h]at this;exact this
theorem q5a(l m d:qa)(st:List AObj)(h:m<+:l)(hd:l.drop m.length=d):qm E 240 [Sv l,Sv m] st λr st'=>r=.tu [Sv d,Bv true]∧st'=st:=by
 subst hd;exact q49 l m st h
theorem q48(l m:qa)(st:List AObj)(h:¬m<+:l):qm E 240 [Sv l,Sv m] st λr st'=>r=.tu [Sv l,Bv false]∧st'=st:=by
 have:=qem l m st
 have hf:Lib.hasPrefix l m=false:=by
  cases hb:Lib.hasPrefix l m with
  |false=>rfl
  |true=>exact absurd ((xw l m).1 hb) h
 have ht:Lib.trimPrefix l m=l:=by
  unfold Lib.trimPrefix;rw[if_neg (by simp[hf])]
 rw[ht,hf]at this;exact this
theorem zep{l:qa}{k:Nat}{n:Int}(h1:1<=k)(h3:k<=3)(h:∀j:Nat,1<=j->j<k->tryB j l=none)(hk:tryB k l=some n):begE l=some ((k:Int),n):=by
 have:k=1∨k=2∨k=3:=Om
 rcases this with rfl|rfl|rfl
 .have tz:tryB 1 l=some n:=hk
  simp[begE,tz]
 .have e1:tryB 1 l=none:=h 1 Om Om
  have tz:tryB 2 l=some n:=hk;simp[begE,e1,tz]
 .have e1:tryB 1 l=none:=h 1 Om Om
  have e2:tryB 2 l=none:=h 2 Om Om;have tz:tryB 3 l=some n:=hk;simp[begE,e1,e2,tz]
theorem q7l{l:qa}(h:∀j:Nat,1<=j->j<4->tryB j l=none):begE l=none:=by
 have e1:tryB 1 l=none:=h 1 Om Om;have e2:tryB 2 l=none:=h 2 Om Om;have e3:tryB 3 l=none:=h 3 Om Om;simp[begE,e1,e2,e3]
theorem zas{k:Nat}(h1:1<=k)(h3:k<=3):qbs (k:Int)≠[]∧([32]++qbs (k:Int))++[32]=qbm (k:Int)∧(qbs (k:Int)).length<=10:=by
 have:k=1∨k=2∨k=3:=Om
 rcases this with rfl|rfl|rfl <;>decide
set_option maxHeartbeats 2000000 in
theorem zer(l:qa)(st:List AObj)(hl:l.length<1000000):qm E 200 [Sv l] st λr st'=>r=begA (begE l)∧st'=st:=by
 refine ze (q7j _) (qq Tryz.func200 rfl (Qd rfl) ?_);repeat' (first|apply qp|apply zm|apply qi|apply qh|apply qj|(apply kj;exact rfl;exact rfl))
 refine xy (λ(k:Nat)s=>1<=k∧k<=4∧(∀j:Nat,1<=j->j<k->tryB j l=none)∧StE [(0,Sv l),(2,.bx (st.length+0) 0 0),(4,Iv k)] st [.cells 0 71 [Iv 0,Iv 0,zf]] s) (λk=>4-k) 1 ⟨Om,Om,λj h1 h2=>by omega,qpq ⟨rfl,rfl,rfl,trivial⟩ rfl⟩ ?_;rintro k _ ⟨tz,hk4,hno,t,ext,rfl⟩;by_cases h4:k=4
 .subst h4
  have hw:qbs ((4:Nat):Int)=[]:=by decide
  rw[q7l hno];repeat' (first|apply qp|apply qi|apply qh|apply ql|apply qj|(apply j5;(iterate 3 exact rfl))|(apply qe;exact rfl;apply cd_f;exact cRa)|(apply qdx;(iterate 11 exact rfl))|(apply yc;(iterate 3 exact rfl))|apply wd|apply q7|(apply qk;exact Tryz.call176;exact qui _ _))
  refine qo rfl (vh (qpz rfl rfl rfl rfl rfl rfl) (qfd (qxd 0 0) (qbr _))) ⟨rfl,qgj _ _ _ _⟩
 .obtain⟨hw,hm,hwl⟩:=zas tz Om
  by_cases hp:qbm (k:Int)<+:l
  .have hp':([32]++qbs (k:Int))++[32]<+:l:=by rw[hm];exact hp
   obtain⟨d,hd0⟩:∃d,d=l.drop (qbm (k:Int)).length:=⟨_,rfl⟩;have hd:l.drop ((([32]:qa)++qbs (k:Int))++[32]).length=d:=by rw[hm,hd0]
   have hdl:d.length<1000000:=by rw[hd0,Zk];omega
   repeat' (first|apply qp|apply zm|apply qi|apply qh|apply ql|apply qj|(apply zk;exact rfl;exact rfl)|(apply j5;(iterate 3 exact rfl))|(apply qe;exact rfl;apply y5;exact cAo)|(apply vb;exact rfl;exact rfl;exact cOs)|apply za|(apply qk;exact Tryz.call176;exact qui _ _)|(apply qk;exact Tryz.call240;exact q5a _ _ _ _ hp' hd))
   refine qfe Tryz.call147 ((qnx d _ Om).mono ?_);rintro _ _ ⟨rfl,n,x,rfl,hx⟩;rw[hd0]at hx;rcases x with _|⟨t',y⟩
   .simp only at hx
    have htr:tryB (k:Int) l=some n:=by unfold tryB;rw[if_pos hp,hx]
    rw[zep tz Om hno htr];repeat' (first|apply qp|apply qi|apply qh|apply ql|apply qj|(apply zk;exact rfl;exact rfl)|(apply zn;(iterate 4 exact rfl))|(apply qdm;exact cRa)|(apply qn;exact rfl;apply pk_t;exact cRa)|(apply qe;exact rfl;apply cd_t;exact cRa)|(apply qew;exact rfl;exact rfl)|(apply qdx;(iterate 11 exact rfl))|(apply yc;(iterate 3 exact rfl))|apply q7)
    refine qo rfl (vh (qpz rfl rfl rfl rfl rfl rfl) (qfd (qxd k n) (qbr _))) ⟨rfl,qgj _ _ _ _⟩
   .simp only at hx
    have htr:tryB (k:Int) l=none:=by
     unfold tryB;rw[if_pos hp];split
     .rename_i v hv;exact absurd hv (hx v)
     .rfl
    repeat' (first|apply qp|apply qi|apply qh|apply ql|apply qj|(apply zk;exact rfl;exact rfl)|(apply zn;(iterate 4 exact rfl))|(apply qdm;exact cRa)|(apply qn;exact rfl;apply pk_t;exact cRa)|(apply qe;exact rfl;apply cd_f;exact cRa)|(apply jw;exact rfl;exact rfl;exact zu Om Om)|(apply qeu;exact rfl;exact rfl)|apply za)
    refine⟨k+1,⟨Om,Om,λj h1 h2=>?_,qjx ⟨rfl,rfl,rfl,trivial⟩ rfl⟩,Om⟩;by_cases hjk:j=k
    .subst hjk;exact htr
    .exact hno j h1 Om
  .have hp':¬([32]++qbs (k:Int))++[32]<+:l:=by rw[hm];exact hp
   have htr:tryB (k:Int) l=none:=by unfold tryB;rw[if_neg hp]
   repeat' (first|apply qp|apply zm|apply qi|apply qh|apply ql|apply qj|(apply zk;exact rfl;exact rfl)|(apply j5;(iterate 3 exact rfl))|(apply qe;exact rfl;apply y5;exact cAo)|(apply vb;exact rfl;exact rfl;exact cOs)|apply za|(apply qk;exact Tryz.call176;exact qui _ _)|(apply qk;exact Tryz.call240;exact q48 _ _ _ hp'))
   refine qfe Tryz.call147 ((qnx l _ Om).mono ?_);rintro _ _ ⟨rfl,n,x,rfl,hx⟩;rcases x with _|⟨t',y⟩
   all_goals
    repeat' (first|apply qp|apply qi|apply qh|apply ql|apply qj|(apply zk;exact rfl;exact rfl)|(apply zn;(iterate 4 exact rfl))|(apply qcf;exact cRa)|(apply qn;exact rfl;apply pk_f;exact cRa)|(apply qe;exact rfl;apply cd_f;exact cRa)|(apply jw;exact rfl;exact rfl;exact zu Om Om)|apply za)
    refine⟨k+1,⟨Om,Om,λj h1 h2=>?_,qjx ⟨rfl,rfl,rfl,trivial⟩ rfl⟩,Om⟩;by_cases hjk:j=k
    .subst hjk;exact htr
    .exact hno j h1 Om
def recsF(its:List jc):List (List Fld):=(its.filter λx=>decide (x.kind=3)).map jc.fields
@[reducible] def zd7 (ls : List (List Fld)) : AV := .sl 1 (ls.map wn) none
theorem q6n(ls:List (List Fld)):Pure (zd7 ls):=qc9 λx hx=>by
 obtain⟨f,_,rfl⟩:=Qf.1 hx;intro y hy;simp only[AV.cells,Qh,Qm,or_false]at hy;subst hy;exact qd1 _
theorem q2p(l:List jc)(x:jc)(h:x.kind=3):recsF (l++[x])=recsF l++[x.fields]:=by simp[recsF,h]
theorem q2q(l:List jc)(x:jc)(h:¬x.kind=3):recsF (l++[x])=recsF l:=by simp[recsF,h]
theorem zgt{b t1:Nat}{st st':List AObj}{sz:Nat}{T:TypeId}{xs:List AV}{c c0:AV}{sz0:Nat}{xs0:List AV}(hf:Fr st st' t1)(nc:c0=.sl sz0 xs0 (some t1)∨st.length<=t1)(h0:∀t,c0≠.sl sz0 xs0 (some t))(h:TipO b st sz T xs c):TipO b st' sz T xs c:=
 q39 (λt m sz T ht=>hf.same t (λe=>by
  subst e;rcases nc with nc|nc
  .exact h0 _ nc
  .have:=lt_of_getElem? ht;omega) (lt_of_getElem? ht)) h
theorem zds{b t1:Nat}{st st':List AObj}{sz:Nat}{T:TypeId}{xs:List AV}{c:AV}{sz0:Nat}{xs0:List AV}{o v f l k:Nat}(hf:Fr st st' t1)(nc:AV.os o v f l k=.sl sz0 xs0 (some t1)∨st.length<=t1)(h:TipO b st sz T xs c):TipO b st' sz T xs c:=
 zgt hf nc Sx h
set_option maxHeartbeats 2000000 in
theorem zac(its:List jc)(st:List AObj)(hl:its.length<1000000)(hf:∀x∈its,x.fields.length<1000000):qm E 244 [qc1 its] st λr st'=>r=zd7 (recsF its)∧st'=st:=by
 refine ze (q6n _) (qq Tryz.func244 rfl (Qd rfl) ?_);have bf:(its.map qaj).length=its.length:=Sx
 rw[Qv];repeat' (first|apply qp|apply zm|apply qi|apply qh|apply ql|apply qj|(apply kc;(iterate 4 exact rfl)))
 refine qhg its (λpre s=>∃c S,OutI st S∧TipO st.length S 1 69 ((recsF pre).map wn) c∧StA [(3,c),(6,qc1 its),(7,Iv its.length),(8,Iv pre.length)] S [] s) ⟨_,st,⟨λ_ _=>rfl,Qg _⟩,qgx ..,xp ⟨rfl,rfl,congrArg (λn:Nat=>Iv (n:Int)) bf,rfl,trivial⟩⟩ ?_ ?_
 .rintro _ ⟨c,S,hO,hT,t,rfl⟩
  repeat' (first|apply qp|apply qi|apply qh|apply ql|apply qj|(apply zh;(iterate 3 exact rfl))|(apply qe;exact rfl;apply yw;exact cAo)|apply wd|apply q7)
  exact qo rfl (vh (zt rfl) (qjs hT)) ⟨rfl,hO.ext⟩
 .rintro pre x rest _ hr ⟨c,S,hO,hT,t,rfl⟩
  have b9:its.length=pre.length+(rest.length+1):=by rw[hr];simp
  have i8:(its.map qaj)[pre.length]?=some (qaj x):=by rw[hr];simp
  have hxf:=hf x (by rw[hr];simp);have gm:(recsF pre).length<=pre.length:=by unfold recsF;rw[List.length_map];exact List.length_filter_le _ _
  have hSl:=hO.len;have hO1:OutI st ((S++[AObj.cells 0 208 [Iv 0,Sv [],zf]]).set S.length (.cells 0 208 (qaj x).cells)):=hO.pre.set hSl;have hT1:TipO st.length ((S++[AObj.cells 0 208 [Iv 0,Sv [],zf]]).set S.length (.cells 0 208 (qaj x).cells)) 1 69 ((recsF pre).map wn) c:=qo3 (qnb hT) (y0 we);have fj:((S++[AObj.cells 0 208 [Iv 0,Sv [],zf]]).set S.length (.cells 0 208 (qaj x).cells))[S.length]?=some (.cells 0 208 (qaj x).cells):=ke we;by_cases h3:x.kind=3
  .skip
   repeat' (first|(apply qax (st:=(S++[AObj.cells 0 208 [Iv 0,Sv [],zf]]).set S.length (.cells 0 208 (qaj x).cells));(iterate 6 exact rfl))|(apply q65 19 rfl (qjs g1);apply xj;(iterate 9 exact rfl))|apply qp|apply zm|apply qi|apply qh|apply ql|apply qj|(apply zh;(iterate 3 exact rfl))|(apply qe;exact rfl;apply y5;exact cAo)|(apply jw;exact rfl;exact rfl;exact zu Om Om)|(apply zr;(iterate 3 exact rfl))|(apply vr;(iterate 3 exact rfl))|apply za|(apply kh;exact rfl;exact fj;exact rfl;exact rfl)|(apply kh;exact rfl;exact qay fj;exact rfl;exact rfl)|(apply qkv (st:=S);exact rfl;exact rfl)|(apply yo;exact rfl;exact rfl;(focus first|assumption|(repeat' (first|assumption|exact we|exact jl rfl|apply ke|apply kq|omega|apply qay)));(iterate 6 exact rfl))|(apply wv (n:=pre.length);(iterate 5 exact rfl);exact i8)|(apply qfr (b:=st.length) (xs:=[]) (ys:=x.fields.map fldA) (bytes:=32);(iterate 5 exact rfl);exact⟨⟨_,_,rfl,rfl,rfl,rfl,rfl⟩⟩;exact qvm _ _ _ _ _ _ _;(exact Zi hO1.len qd4);(first|exact rfl|exact qba λ_=>rfl);((simp[maxLen];omega));((simp;omega));intro c1 S1 t1 g1 g2 g3 g4)|(apply qfr (b:=st.length) (xs:=(recsF pre).map wn) (ys:=[wn x.fields]) (bytes:=24);(iterate 5 exact rfl);exact⟨⟨_,_,rfl,rfl,rfl,rfl,rfl⟩⟩;exact zds g2 g4 (qnb hT1);(exact(hO1.pre.fr g2 g3).len);(first|exact rfl|exact qba λ_=>rfl);((simp[maxLen];omega));((simp;omega));intro c2 S2 t2 k1 k2 k3 k4))
   exact⟨c2,S2,(hO1.pre.fr g2 g3).fr k2 k3,by rw[q2p _ _ h3,zcg];exact k1,xp ⟨rfl,rfl,rfl,qu4 pre x,trivial⟩⟩
  .skip
   repeat' (first|apply qp|apply zm|apply qi|apply qh|apply ql|(apply zh;(iterate 3 exact rfl))|(apply qe;exact rfl;apply y5;exact cAo)|(apply qe;exact rfl;apply yw;exact cAo)|(apply jw;exact rfl;exact rfl;exact zu Om Om)|(apply zr;(iterate 3 exact rfl))|(apply vr;(iterate 3 exact rfl))|apply za|(apply kh;exact rfl;exact fj;exact rfl;exact rfl)|(apply qkv (st:=S);exact rfl;exact rfl)|(apply yo;exact rfl;exact rfl;(focus first|assumption|(repeat' (first|assumption|exact we|exact jl rfl|apply ke|apply kq|omega|apply qay)));(iterate 6 exact rfl))|(apply wv (n:=pre.length);(iterate 5 exact rfl);exact i8))
   exact⟨c,_,hO1,by rw[q2q _ _ h3];exact hT1,xp ⟨rfl,rfl,rfl,qu4 pre x,trivial⟩⟩
end Go.Proofs.YthnbabbhpeebbaaGreatDoor
namespace Go.Pl
open Go Go.Proofs Go.Proofs.YthnbabbhpeebbaaGreatDoor
def GF(fs:List Fld):Prop:=fs.length<=40∧∀f∈fs,kf f
structure PI (p:PSt):Prop where
 items:∀x∈p.items,GF x.fields∧(x.kind=3↔x.fields≠[])
 fields:GF p.fields
 full:p.lines≠[]->p.full=false->p.fields.length<40
theorem q22{ls:List qa}(h:(j8 ls).2=0):kf (j8 ls).1:=by
 unfold j8 at h⊢;split at h
 .split at h
  .simp at h
  .rename_i h1 h2
   rw[if_pos h1,if_neg h2];exact⟨(qoi.1 h1.2.1).2.2,Nat.le_of_not_lt h2⟩
 .simp at h
theorem pi0:PI p0:=⟨by simp[p0],⟨by simp[p0],by simp[p0]⟩,by simp[p0]⟩
theorem PI.flush{p:PSt}(h:PI p):PI (jr p).2:=by
 unfold jr;split
 .exact h
 .rename_i hl
  split
  .exact h
  .rename_i hu
   split
   .exact h
   .rename_i hf
    have e8:=h.full hl (by simpa using hf);refine⟨h.items,⟨So,λf hm=>?_⟩,Sx⟩;rcases Qo.1 hm with hm|hm
    .exact h.fields.2 f hm
    .simp at hm;subst hm;exact q22 (by simpa using hu)
theorem PI.close{p:PSt}(h:PI p):PI (x4 p):=by
 unfold x4;split
 .exact⟨h.items,⟨Sx,Sx⟩,λh1 h2=>by simp⟩
 .refine⟨λx hx=>?_,⟨Sx,Sx⟩,λh1 h2=>by simp⟩
  rcases Qo.1 hx with hx|hx
  .exact h.items x hx
  .simp at hx
   subst hx;refine⟨h.fields,?_⟩;simp only;split
   .rename_i h0;simp[h0]
   .rename_i h0;simp[h0]
theorem PI.end'{p:PSt}(h:PI p):PI (endP p).2:=by
 unfold endP;split
 .exact h
 .exact h.flush.close
theorem PI.lines'{p:PSt}(h:PI p)(hl:p.lines≠[])(text:qa):PI {p with lines:=p.lines++[text]}:=⟨h.items,h.fields,λ_ hf=>h.full hl hf⟩
theorem PI.begin'{p:PSt}(h:PI p)(no:Int)(text:qa):PI (kl p no text):=by
 refine⟨h.items,h.fields,λ_ hf=>?_⟩;have:=h.fields.1;simp only[kl,decide_eq_false_iff_not,not_or]at hf⊢;omega
theorem PI.ahead{p:PSt}(h:PI p)(no:Int)(text:qa)(ended:Bool)(kind:Int):PI (jk p no text ended kind).2:=by
 unfold jk;split
 .split
  .exact h
  .rename_i hl
   split
   .exact h.lines' hl text
   .exact(h.lines' hl text).flush
 .split
  .exact h.end'
  .exact h.flush
theorem PI.take{p:PSt}(h:PI p)(no:Int)(text:qa)(ended:Bool):PI (wo p no text ended).2:=by
 have ha:=h.ahead no text ended (qy text);unfold wo;split
 .exact h
 .split
  .exact h
  .split
   .refine⟨λx hx=>?_,ha.fields,ha.full⟩
    rcases Qo.1 hx with hx|hx
    .exact ha.items x hx
    .simp at hx;subst hx;exact⟨⟨Sx,Sx⟩,Sx⟩
   .split
    .have hb:=ha.begin' no text
     exact⟨hb.items,hb.fields,hb.full⟩
    .exact⟨ha.items,ha.fields,ha.full⟩
theorem PI.run:∀(ls:List (qa×Bool))(k:Nat)(p:PSt),PI p->PI (runL k ls p).2
 | [],k,p,h=>h.end'
 |(t,e)::r,k,p,h=>by
  unfold runL;split
  .exact h
  .exact PI.run r (k+1) _ (h.take k t e)
theorem qql(text:qa):∀x∈(kr text).2,GF x.fields∧(x.kind=3↔x.fields≠[]):=by
 unfold kr;split
 .simp
 .exact(PI.run _ 0 _ pi0).items
theorem qy0(p:PSt):(x4 p).items.length<=p.items.length+1:=by
 unfold x4;split <;>simp
theorem qje(p:PSt):(jr p).2.items=p.items:=by
 unfold jr;split
 .rfl
 .split
  .rfl
  .split <;>rfl
theorem qs6(p:PSt):(endP p).2.items.length<=p.items.length+1:=by
 unfold endP;split
 .simp
 .have:=qy0 (jr p).2
  rw[qje]at this;exact this
theorem qx5(p:PSt)(no:Int)(text:qa)(ended:Bool)(kind:Int):(jk p no text ended kind).2.items.length<=p.items.length+1:=by
 unfold jk;split
 .split
  .simp
  .split
   .simp
   .rw[qje];simp
 .split
  .exact qs6 p
  .rw[qje];simp
theorem q20(p:PSt)(no:Int)(text:qa)(ended:Bool):(wo p no text ended).2.items.length<=p.items.length+2:=by
 have ha:=qx5 p no text ended (qy text);unfold wo;split
 .simp
 .split
  .simp
  .split
   .simp;omega
   .split
    .simp[kl];omega
    .simp;omega
theorem qiw:∀(ls:List (qa×Bool))(k:Nat)(p:PSt),(runL k ls p).2.items.length<=p.items.length+2*ls.length+1
 | [],k,p=>by have:=qs6 p;simp[runL];omega
 |(t,e)::r,k,p=>by
  unfold runL;split
  .simp;omega
  .have h1:=qiw r (k+1) (wo p k t e).2
   have h2:=q20 p k t e;simp only[Qc];omega
theorem q9k(text:qa):(kr text).2.length<=2*text.length+1:=by
 unfold kr;split
 .simp
 .have h1:=qiw (zv text) 0 p0
  have h2:=(qho _ text (Qg _)).2;have h3:p0.items.length=0:=rfl;simp only;omega
theorem q5b(by' l:qa):(vf by' l).1.length<=l.length:=by
 unfold vf;split
 .have h:=(qho _ l (Qg _)).1
  have key:∀(ls:List (qa×Bool)),(ls.flatMap λx=>x.1.drop by'.length++ym x.2).length<=lsum ls:=by
   intro ls
   induction ls with
   |nil=>simp[lsum]
   |cons x r ih=>
    simp only[lsum,Qi,Qe,Ql,List.sum_cons,Zk]at ih⊢;omega
  have:=key (zv l);simp only;omega
 .simp
end Go.Pl
namespace Go.Proofs.YthnbabbhpeebbaaGreatDoor
open Go Go.Av Go.RowKit Go.Proofs Go.Pl
theorem qm5(text:qa)(st:List AObj)(hl:text.length<=60000)(h:(kr text).1=none):qm E 111 [Sv text] st λr st'=>r=.tu [qc1 (kr text).2,.v .nilIface]∧st'=st:=by
 have:=qrv text st hl;unfold qdt at this;rw[h]at this;exact this
theorem q2x(text:qa)(st:List AObj)(a n:Int)(hl:text.length<=60000)(h:(kr text).1=some (a,n)):qm E 111 [Sv text] st λr st'=>r=.tu [qc1 (kr text).2,.ifc 125 (.pp [Iv a,.ifc 43 (Iv n)])]∧st'=st:=by
 have:=qrv text st hl;unfold qdt at this;rw[h]at this;exact this
def qdl(text:qa):List Fld×Bool:=
 if(vf [32,32] text).2=false∨(kr (vf [32,32] text).1).1≠none then([],false)
 else match recsF (kr (vf [32,32] text).1).2 with
  | []=>([],decide ((vf [32,32] text).1=[]))
  |f::_=>(f,decide ((kr (vf [32,32] text).1).2.length=1))
theorem zjb{a b:List Fld}{c d:Bool}(h1:a=b)(h2:c=d):AV.tu [wn a,Bv c]=AV.tu [wn b,Bv d]:=by rw[h1,h2]
theorem q6i{its:List jc}(h:∀x∈its,GF x.fields∧(x.kind=3↔x.fields≠[])):∀fs∈recsF its,GF fs∧fs≠[]:=λfs rl=>by
 obtain⟨x,hx,rfl⟩:=Qf.1 rl;obtain⟨sr,hx2⟩:=List.mem_filter.1 hx;have:=h x sr;exact⟨this.1,this.2.1 (by simpa using hx2)⟩
set_option maxHeartbeats 2000000 in
theorem zbv(text:qa)(st:List AObj)(hl:text.length<=60000):qm E 201 [Sv text] st λr st'=>r=.tu [wn (qdl text).1,Bv (qdl text).2]∧st'=st:=by
 refine ze (vz (qd1 _) (qw _)) (qq Tryz.func201 rfl (Qd rfl) ?_);have hdl:=q5b [32,32] text;have gm:=q9k (vf [32,32] text).1;have hit:=qql (vf [32,32] text).1;unfold qdl;obtain⟨d,hd⟩:∃d,d=vf [32,32] text:=⟨_,rfl⟩;have hdc:∀st,qm E 227 [Sv text,Sv [32,32]] st λr st'=>r=.tu [Sv d.1,Bv d.2]∧st'=st:=λst=>by rw[hd];exact qy6 text [32,32] st Om
 rw[<-hd]at hdl gm hit⊢;obtain⟨b,ok⟩:=d;simp only at hdl gm hit hdc⊢
 cases hp:(kr b).1 with
 |some e=>
  obtain⟨a,n⟩:=e;rw[if_pos (.inr Sx)]
  cases ok
  all_goals
   repeat' (first|apply qp|apply qi|apply qh|apply ql|apply qj|(apply zk;exact rfl;exact rfl)|(apply j6;exact rfl)|(apply zn;(iterate 4 exact rfl))|(apply qbk;exact cRa)|(apply qcr;exact cRa)|(apply qn;exact rfl;apply qko;exact cRa)|(apply qn;exact rfl;apply qg8;exact cRa)|(apply qe;exact rfl;apply cd_t;exact cRa)|(apply wq;exact rfl;exact rfl)|apply q7|(apply qk;exact Tryz.call227;exact hdc _)|(apply qk;exact Tryz.call111;exact q2x _ _ _ _ Om hp))
   exact qo rfl (vh (wz rfl) (qfd (qga 2) (qbr (Bv false)))) ⟨rfl,_,rfl⟩
 |none=>
  cases ok
  .rw[if_pos (.inl rfl)]
   repeat' (first|apply qp|apply qi|apply qh|apply ql|apply qj|(apply zk;exact rfl;exact rfl)|(apply j6;exact rfl)|(apply zn;(iterate 4 exact rfl))|(apply qcr;exact cRa)|(apply qn;exact rfl;apply qko;exact cRa)|(apply qe;exact rfl;apply cd_t;exact cRa)|apply q7|(apply qk;exact Tryz.call227;exact hdc _)|(apply qk;exact Tryz.call111;exact qm5 _ _ Om hp))
   exact qo rfl (vh (wz rfl) (qfd (qga 2) (qbr (Bv false)))) ⟨rfl,_,rfl⟩
  .rw[if_neg Sx]
   have hsc:=λst=>zac (kr b).2 st Om (λx hx=>by have:=(hit x hx).1.1;omega);have bf:((kr b).2.map qaj).length=(kr b).2.length:=Sx
   cases hr:recsF (kr b).2 with
   |nil=>
    rw[hr]at hsc;repeat' (first|apply qp|apply qi|apply qh|apply ql|apply qj|(apply zk;exact rfl;exact rfl)|(apply zh;(iterate 3 exact rfl))|(apply j5;(iterate 3 exact rfl))|(apply j6;exact rfl)|(apply zn;(iterate 4 exact rfl))|(apply qbk;exact cRa)|(apply qn;exact rfl;apply qg8;exact cRa)|(apply qe;exact rfl;apply cd_t;exact cRa)|(apply qe;exact rfl;apply cd_f;exact cRa)|(apply kc;(iterate 4 exact rfl))|(apply vp;exact rfl;exact rfl)|apply za|apply q7|(apply qk;exact Tryz.call227;exact hdc _)|(apply qk;exact Tryz.call111;exact qm5 _ _ Om hp)|(apply qk;exact Tryz.call244;exact hsc _))
    exact qo rfl (vh (wz rfl) (qfd (qga 2) (qbr (Bv (decide (b=[])))))) ⟨rfl,_,rfl⟩
   |cons f r=>
    rw[hr]at hsc;have hrl:((f::r).map wn).length=r.length+1:=Sx
    repeat' (first|apply qp|apply qi|apply qh|apply ql|apply qj|(apply zk;exact rfl;exact rfl)|(apply zh;(iterate 3 exact rfl))|(apply j6;exact rfl)|(apply zn;(iterate 4 exact rfl))|(apply qbk;exact cRa)|(apply qn;exact rfl;apply qg8;exact cRa)|(apply qe;exact rfl;apply yw;exact cAo)|(apply qe;exact rfl;apply cd_f;exact cRa)|(apply kc;(iterate 4 exact rfl))|(apply vp;exact rfl;exact rfl)|(apply vr;(iterate 3 exact rfl))|apply za|apply q7|(apply qk;exact Tryz.call227;exact hdc _)|(apply qk;exact Tryz.call111;exact qm5 _ _ Om hp)|(apply qk;exact Tryz.call244;exact hsc _)|(apply wv (n:=0);(iterate 6 exact rfl)))
    refine qo rfl (wz rfl) ⟨zjb rfl (decide_eq_decide.2 ?_),_,rfl⟩;rw[bf];omega
def x8(text:qa):List LnV->Nat->List qa
 | [],frm=>[text.drop frm]
 |l::r,frm=>if frm<l.at'∧¬ [32,32]<+:l.text then(text.take l.at').drop frm::x8 text r l.at' else x8 text r frm
def qep(text:qa):List qa:=x8 text (lns text) 0
theorem q8o(l m:qa)(st:List AObj)(h:m<+:l):qm E 193 [Sv l,Sv m] st λr st'=>r=Bv true∧st'=st:=by
 have:=qeo l m st;rw[(xw l m).2 h]at this;exact this
theorem q8n(l m:qa)(st:List AObj)(h:¬m<+:l):qm E 193 [Sv l,Sv m] st λr st'=>r=Bv false∧st'=st:=by
 have:=qeo l m st
 have hf:Lib.hasPrefix l m=false:=by
  cases hb:Lib.hasPrefix l m with
  |false=>rfl
  |true=>exact absurd ((xw l m).1 hb) h
 rw[hf]at this;exact this
theorem zf6(text:qa)(st:List AObj)(hl:text.length<1000000):qm E 199 [Sv text] st λr st'=>r=Ss (qep text)∧st'=st:=by
 refine ja [.s text] (q33 _) Tryz.func199 rfl rfl (λ_=>rfl) rfl λS0=>?_;apply qd [];repeat' (first|apply Qa|(intro h;try exact cDd)|exact⟨Tryz.call143⟩|(refine Qb _ ⟨qm7 _,?_⟩)|exact cSd|apply qb []|refine exr ?_|refine qf ?_)
 refine qgt (X:=List qa×Nat) text 2 3 [0,1,2] (λ(out,frm)=>⟨[(1,.a (.pp [Sv text])),(3,.bx 0 0),(4,.bx 1 0),(7,.fn (.func 183) [] [.bx 2 0])],
   [(0,some (.cells 47 [.tp 3])),(1,some (.cells 3 [.i frm])),(2,some (.cells 9 [.s text])),(3,some (.tip 1 9 (out.map λx=>Sv x)))],4⟩) _
  (λk rest(out,frm)=>∃a,a+rest.length=text.length∧frm<=a∧out.length<=k∧k<=a∧out++x8 text (x7 k a rest) frm=qep text) (λ_ _=>False) ([],0) ⟨0,Sx,Om,Sx,Om,rfl⟩ ?_ id Om (λ_=>rfl) rfl (λ_=>rfl) (λ_=>rfl) rfl ?_ ?_ (λ_ _ h=>h.elim)
 .skip
  repeat' (first|apply Qa|(intro h;try exact cDd)|exact cSd|apply qb []|refine exr ?_|refine qf ?_)
 .rintro k rest ⟨out,frm⟩ ⟨a,ha,hfa,hok,hka,a8⟩ d7 d8
  have nv:=qjn (k:=k) (a:=a) d7;have hul:=vd 10 rest;have hr0:0<rest.length:=Za.2 d7;have gm:=ku 10 rest
  have pq:a+(upto 10 rest).length+1+(past 10 rest).length=text.length∨past 10 rest=[]:=by
   by_cases p7:10∈rest
   .have:=qei p7
    exact .inl Om
   .right
    unfold past;rw[qfc p7];simp
  have hpast:∀f,x8 text (x7 (k+1) (a+(upto 10 rest).length+1) (past 10 rest)) f=x8 text (x7 (k+1) (text.length-(past 10 rest).length) (past 10 rest)) f:=λf=>by
   rcases pq with h|h
   .have:a+(upto 10 rest).length+1=text.length-(past 10 rest).length:=by omega
    rw[this]
   .rw[h,qlm,qlm]
  have e:(text.length:Int)-rest.length=(a:Int):=Om
  rw[nv,x8]at a8;unfold qmo;rw[e];by_cases hp:[32,32]<+:upto 10 rest
  .have hhp:=λst=>q8o (upto 10 rest) [32,32] st hp
   rw[if_neg (λh=>h.2 hp),hpast]at a8;refine RA.mk λS F ρ rd=>?_;apply qd [];repeat' (first|apply Qa|(intro h;try exact cDd)|(refine RB.mk λS rd=>?_;apply qd [])|exact⟨Tryz.call193⟩|refine cpe hhp ?_|(refine Qb (out,frm) ⟨⟨text.length-(past 10 rest).length,Om,Om,Om,Om,a8⟩,?_⟩)|exact cSd|apply qb []|refine exr ?_|refine qf ?_)
  .have hhp:=λst=>q8n (upto 10 rest) [32,32] st hp
   by_cases t6:frm<a
   .rw[if_pos ⟨t6,hp⟩,hpast]at a8
    refine RA.mk λS F ρ rd=>?_;apply qd [];repeat' (first|apply Qa|(intro h;try exact cDd)|(refine RB.mk λS rd=>?_;apply qd [25])|exact⟨Tryz.call193⟩|refine cpe hhp ?_|(refine Qb (out++[(text.take a).drop frm],a) ⟨⟨text.length-(past 10 rest).length,Om,Om,So,Om,by rw[<-a8];simp⟩,?_⟩)|exact cSd|apply qb [25]|refine exr ?_|refine qf ?_)
    all_goals first|(simp[SV.evs];omega)|(simp[SV.evs,SV.ev];done)
   .rw[if_neg (λh=>t6 h.1),hpast]at a8
    refine RA.mk λS F ρ rd=>?_;apply qd [];repeat' (first|apply Qa|(intro h;try exact cDd)|(refine RB.mk λS rd=>?_;apply qd [])|exact⟨Tryz.call193⟩|refine cpe hhp ?_|(refine Qb (out,frm) ⟨⟨text.length-(past 10 rest).length,Om,Om,Om,Om,a8⟩,?_⟩)|exact cSd|apply qb []|refine exr ?_|refine qf ?_)
 .rintro k ⟨out,frm⟩ ⟨a,ha,hfa,hok,hka,a8⟩
  rw[qlm,x8]at a8;repeat' (first|apply Qa|(intro h;try exact cDd)|exact cSd|apply qb []|refine exr ?_|refine qf ?_)
  rw[<-a8];simp
def decP:List qa->List qt->Option (List qt)
 | [],acc=>some acc
 |p::r,acc=>match begE (upto 10 p)with
  |none=>none
  |some (k,n)=>if(qdl (past 10 p)).2=true∧acc.length≠40 then decP r (acc++[⟨k,n,(qdl (past 10 p)).1⟩])else none
def decF(text:qa):Option (List qt):=if 50000<text.length then none else match decP (qep text) []with
 |none=>none
 |some b=>if eErr b=.no∧encF b=text then some b else none
def decA:Option (List qt)->AV
 |none=>.tu [jz [],.ifc 43 (Iv 2)]
 |some b=>.tu [jz b,.v .nilIface]
theorem q70(x:Option (List qt)):Pure (decA x):=by
 rcases x with _|b
 .exact vz (qkz _) (qcu (qw _))
 .exact vz (qkz _) (qw _)
theorem qkm(text:qa):∀(ls:List LnV)(f:Nat),(∀p∈x8 text ls f,p.length<=text.length)∧(x8 text ls f).length<=ls.length+1
 | [],f=>by simp[x8]
 |l::r,f=>by
  unfold x8;split
  .obtain⟨h1,h2⟩:=qkm text r l.at'
   refine⟨λp hp=>?_,So⟩;rcases Qh.1 hp with rfl|hp
   .simp;omega
   .exact h1 p hp
  .obtain⟨h1,h2⟩:=qkm text r f
   exact⟨h1,So⟩
theorem qux{l:qa}{k n:Int}(h:begE l=some (k,n)): -9223372036854775808<=n∧n<=9223372036854775807:=by
 have key:∀{j:Int}{n:Int},tryB j l=some n->-9223372036854775808<=n∧n<=9223372036854775807:=λ{j n}h=>by
  unfold tryB at h;split at h
  .split at h
   .rename_i v hv
    cases h
    exact Lib.atoiAll_bounds hv
   .simp at h
  .simp at h
 unfold begE at h;split at h
 .rename_i v hv;simp at h;rw[<-h.2];exact key hv
 .split at h
  .rename_i v hv;simp at h;rw[<-h.2];exact key hv
  .split at h
   .rename_i v hv;simp at h;rw[<-h.2];exact key hv
   .simp at h
theorem qp9(text:qa):GF (qdl text).1:=by
 unfold qdl;split
 .exact⟨Sx,Sx⟩
 .split
  .exact⟨Sx,Sx⟩
  .rename_i f r hr
   exact(q6i (qql _) f (by rw[hr];simp)).1
theorem q74{k n:Int}{fs:List Fld}(h1: -9223372036854775808<=n)(h2:n<=9223372036854775807)(hg:GF fs):EdB ⟨k,n,fs⟩:=
 ⟨λf hf=>by have:=(hg.2 f hf).1.2.1;omega,by have:=hg.1;simp only;omega,h1,h2⟩
set_option maxHeartbeats 4000000 in
theorem zbj(text:qa)(st:List AObj)(hl:text.length<1000000):qm E 151 [Sv text] st λr st'=>r=decA (decF text)∧st'=st:=by
 refine ja [.s text] (q70 _) Tryz.func151 rfl rfl (λ_=>rfl) rfl λS0=>?_;by_cases hbig:50000<text.length
 .have hd:decF text=none:=if_pos hbig
  rw[hd];apply qd [];repeat' (first|apply Qa|(intro h;try exact cDd)|exact cSd|apply qb []|refine exr ?_|refine qf ?_)
 have i5:decF text=match decP (qep text) []with
  |none=>none
  |some b=>if eErr b=.no∧encF b=text then some b else none:=if_neg hbig
 have gm:=(qkm text (lns text) 0).1;have hpn:=(qkm text (lns text) 0).2;have hln:=qwo _ text 0 0 (Qg _);have o6:x8 text (lns text) 0=qep text:=rfl;have d8:(lns text).length<=text.length:=hln;rw[o6]at gm hpn;have bf:((qep text).map λx=>Sv x).length=(qep text).length:=Sx
 have hpc:=λst=>zf6 text st hl;generalize qep text=L at i5 gm hpn bf hpc;apply qd [];repeat' (first|apply Qa|(intro h;try exact cDd)|exact⟨Tryz.call199⟩|refine cpe hpc ?_|exact cSd|apply qb []|refine exr ?_|refine qf ?_)
 refine xx (X:=Nat×List qt) (λ(k,acc)=>⟨[(0,.s text),(4,.tp 0),(21,.a (Ss L)),(22,.i L.length),(23,.i k)],[(0,some (.tip 3 71 (acc.map ye)))],1⟩)
  (λ(k,acc)=>k<=L.length∧acc.length<=k∧(∀x∈acc,EdB x)∧decP (L.drop k) acc=decP L []) (λx=>L.length-x.1) (0,[]) ⟨Om,Sx,Sx,rfl⟩ ?_ ?_
 .skip
  repeat' (first|apply Qa|(intro h;try exact cDd)|exact cSd|apply qb []|refine exr ?_|refine qf ?_)
  all_goals first|(simp;done)
 .rintro⟨j,acc⟩ ⟨hj,hal,hB,a8⟩
  have hma:(acc.map ye).length=acc.length:=Sx
  by_cases hc:j<L.length
  .obtain⟨p,hx⟩:∃p,L[j]?=some p:=⟨_,Qn hc⟩
   have hg:(L.map λx=>Sv x)[j]?=some (Sv p):=by simp[hx]
   have hd:L.drop j=p::L.drop (j+1):=by
    obtain⟨e8,e⟩:=Qt.1 hx;rw[Qu e8,e]
   have hpp:=gm p (Qz hx);have hul:=vd 10 p;have hpal:=ku 10 p;have hcu:=λst=>qi9 p 10 st Om;have hbc:=λst=>zer (upto 10 p) st Om;have hgf:=qp9 (past 10 p);have dg:=λst=>zbv (past 10 p) st Om;rw[hd,decP]at a8
   cases sb:begE (upto 10 p)with
   |none=>
    rw[sb]at a8 hbc;simp only at a8;rw[<-a8]at i5;simp only at i5;rw[i5];apply qd []
    repeat' (first|apply Qa|(intro h;try exact cDd)|(refine Qb (j) ⟨Om,_,hg,?_⟩)|exact⟨Tryz.call146⟩|refine cpe hcu ?_|exact⟨Tryz.call200⟩|refine cpe hbc ?_|exact⟨Tryz.call201⟩|refine cpe dg ?_|exact cSd|apply qb []|refine exr ?_|refine qf ?_)
   |some kn=>
    obtain⟨kd,n⟩:=kn;have nc:=qux sb;rw[sb]at a8 hbc;simp only at a8;obtain⟨fs,rl⟩:∃x,x=(qdl (past 10 p)).1:=⟨_,rfl⟩;rw[<-rl]at a8 dg hgf
    cases hok:(qdl (past 10 p)).2 with
    |false=>
     rw[hok]at a8 dg;rw[if_neg Sx]at a8;rw[<-a8]at i5;simp only at i5;rw[i5];apply qd []
     repeat' (first|apply Qa|(intro h;try exact cDd)|(refine Qb (j) ⟨Om,_,hg,?_⟩)|exact⟨Tryz.call146⟩|refine cpe hcu ?_|exact⟨Tryz.call200⟩|refine cpe hbc ?_|exact⟨Tryz.call201⟩|refine cpe dg ?_|exact cSd|apply qb []|refine exr ?_|refine qf ?_)
    |true=>
     rw[hok]at a8 dg;by_cases h40:acc.length=40
     .rw[if_neg (by simp[h40])]at a8
      rw[<-a8]at i5;simp only at i5;rw[i5];apply qd [];repeat' (first|apply Qa|(intro h;try exact cDd)|(refine Qb (j) ⟨Om,_,hg,?_⟩)|exact⟨Tryz.call146⟩|refine cpe hcu ?_|exact⟨Tryz.call200⟩|refine cpe hbc ?_|exact⟨Tryz.call201⟩|refine cpe dg ?_|exact cSd|apply qb []|refine exr ?_|refine qf ?_)
     .rw[if_pos ⟨rfl,h40⟩]at a8
      have ng:∀x∈acc++[⟨kd,n,fs⟩],EdB x:=λx hx=>by
       rcases Qo.1 hx with hx|hx
       .exact hB x hx
       .obtain rfl:=Zj.1 hx
        exact q74 nc.1 nc.2 hgf
      apply qd [];repeat' (first|apply Qa|(intro h;try exact cDd)|(refine Qb (j) ⟨Om,_,hg,?_⟩)|exact⟨Tryz.call146⟩|refine cpe hcu ?_|exact⟨Tryz.call200⟩|refine cpe hbc ?_|exact⟨Tryz.call201⟩|refine cpe dg ?_|(refine Qb (j+1,acc++[⟨kd,n,fs⟩]) ⟨⟨Om,So,ng,a8⟩,by simp only;omega,?_⟩)|exact cSd|apply qb []|refine exr ?_|refine qf ?_)
      all_goals (simp;done)
  .have hd:L.drop j=[]:=Qq Om
   rw[hd,decP]at a8;rw[<-a8]at i5;simp only at i5
   cases he:eErr acc with
   |no=>
    have mb:=λst=>qwc acc st hB he;by_cases ht:encF acc=text
    .rw[if_pos ⟨he,ht⟩]at i5
     rw[i5];rw[ht]at mb;apply qd [];repeat' (first|apply Qa|(intro h;try exact cDd)|exact⟨Tryz.call103⟩|refine cpe mb ?_|exact cSd|apply qb []|refine exr ?_|refine qf ?_)
    .rw[if_neg λh=>ht h.2]at i5
     rw[i5];apply qd [];repeat' (first|apply Qa|(intro h;try exact cDd)|exact⟨Tryz.call103⟩|refine cpe mb ?_|exact cSd|apply qb []|refine exr ?_|refine qf ?_)
     all_goals exact absurd ht (by assumption)
   |num n=>
    have mb:=λst=>qke acc st (.num n) hB Om he λh=>by
     have:=(qkd acc).1 (by rw[he];exact h);rw[he]at this;simp at this
    rw[if_neg λh=>by rw[he]at h;simp at h]at i5;rw[i5];apply qd []
    repeat' (first|apply Qa|(intro h;try exact cDd)|exact⟨Tryz.call103⟩|refine cpe mb ?_|exact cSd|apply qb []|refine exr ?_|refine qf ?_)
   |at' a n=>
    have mb:=λst=>qke acc st (.at' a n) hB Om he λh=>by
     have:=(qkd acc).1 (by rw[he];exact h);rw[he]at this;simp at this
    rw[if_neg λh=>by rw[he]at h;simp at h]at i5;rw[i5];apply qd [];repeat' (first|apply Qa|(intro h;try exact cDd)|exact⟨Tryz.call103⟩|refine cpe mb ?_|exact cSd|apply qb []|refine exr ?_|refine qf ?_)
theorem qo1{α:Type}[DecidableEq α]{a b:List α}{k:Nat}{d:α}(hl:a.length=b.length)(hk:k<a.length)(h:a.take k=b.take k)(h2:a.getD k d=b.getD k d):a.take (k+1)=b.take (k+1):=by
 rw[Qy hk,Qy Om,h];congr 2
 simpa[List.getD,hk,show k<b.length by omega]using h2
end Go.Proofs.YthnbabbhpeebbaaGreatDoor
namespace Go.Pl
open Go Go.Proofs Go.Proofs.YthnbabbhpeebbaaGreatDoor
theorem yy(s:qa)(r:List qa):zp (s::r)=s++10::zp r:=by simp[zp]
theorem qdq:∀(ls:List qa),(∀s∈ls,10∉s)->zv (zp ls)=ls.map λs=>(s,true)
 | [],_=>by simp[zp,wi]
 |s::r,h=>by
  have hs:=h s Sx;rw[yy,wr Sx,yj _ hs,qad _ hs,qdq r λx hx=>h x (by simp[hx])];simp
theorem q2l{f:Fld}(h:kf f):∀s∈ju f,10∉s:=λs hs=>by
 unfold ju at hs;rcases Qh.1 hs with rfl|hs
 .have h1:=qf3 f.2 _ (qq9 f.2)
  have h2:=h.1.2.2.2.2.2;unfold vn;split <;>simp_all
 .obtain⟨x,hx,rfl⟩:=Qf.1 hs
  have h1:=qf3 f.2 x (Zh hx);have:=qud h1;simp[this]
theorem qok{f:Fld}(h:kf f):∃hd mr,ju f=hd::mr∧qy hd=4∧∀s∈mr,qy s=3:=by
 refine⟨_,_,rfl,qwj h.1 (qf3 f.2 _ (qq9 f.2)),λs hs=>?_⟩;obtain⟨x,hx,rfl⟩:=Qf.1 hs;exact qwk x (qf3 f.2 x (Zh hx))
theorem zah{p:PSt}{k:Int}{t:qa}(ht:qy t=3)(hl:p.lines≠[]):wo p k t true=(none,{p with lines:=p.lines++[t],block:=p.block++[t]}):=by
 have ha:jk p k t true (qy t)=(none,{p with lines:=p.lines++[t]}):=by
  unfold jk;rw[if_pos ht,if_neg hl,if_pos rfl]
 unfold wo;rw[ha,ht];simp
theorem qw9{p q:PSt}{k:Int}{t:qa}(ht:qy t=4)(hf:jr p=(none,q)):wo p k t true=(none,{kl q k t with block:=q.block++[t]}):=by
 have ha:jk p k t true (qy t)=(none,q):=by
  unfold jk;rw[if_neg Om,if_neg Om];exact hf
 unfold wo;rw[ha,ht];simp
theorem qrs:∀(m:List qa)(k:Nat)(p:PSt)(ls:List (qa×Bool)),(∀s∈m,qy s=3)->p.lines≠[]->
  runL k (m.map (λs=>(s,true))++ls) p=runL (k+m.length) ls {p with lines:=p.lines++m,block:=p.block++m}
 | [],k,p,ls,_,_=>by simp
 |s::m,k,p,ls,h,hl=>by
  have hs:=h s Sx;rw[Ql,Qr,runL,zah hs hl];simp only;rw[qrs m (k+1) _ ls (λx hx=>h x (by simp[hx])) Sx];simp only[Qx,Qr,Qk,Qc];congr 1;omega
theorem qtc{g:Fld}(hg:kf g)(frm:Int)(its:List jc)(blk:List qa)(done:List Fld)(rc:Int):jr ⟨ju g,frm,false,its,blk,done,rc⟩=(none,⟨[],frm,false,its,blk,done++[g],rc⟩):=by
 have hu:=qxr hg;unfold jr;rw[if_neg (by simp[ju]),hu];simp
theorem q02:∀(r:List Fld)(done:List Fld)(g:Fld)(k:Nat)(frm:Int)(blk:List qa),kf g->(∀f∈r,kf f)->done.length+1+r.length<=40->blk≠[]->
  (runL k ((r.flatMap ju).map λs=>(s,true)) ⟨ju g,frm,false,[],blk,done,0⟩).1=none∧(runL k ((r.flatMap ju).map λs=>(s,true)) ⟨ju g,frm,false,[],blk,done,0⟩).2.items=[⟨3,zp (blk++r.flatMap ju),done++g::r⟩]
 | [],done,g,k,frm,blk,hg,_,_,hb=>by
  have he:endP ⟨ju g,frm,false,[],blk,done,0⟩=(none,x4 ⟨[],frm,false,[],blk,done++[g],0⟩):=by
   unfold endP;rw[qtc hg]
  simp only[List.flatMap_nil,List.map_nil,runL,he,Qv];refine⟨trivial,?_⟩;unfold x4;rw[if_neg hb]
  simp
 |f::r,done,g,k,frm,blk,hg,hr,hl,hb=>by
  have hf:=hr f Sx;obtain⟨hd,mr,hlf,hk4,hk3⟩:=qok hf;simp only[Qc]at hl
  have a8:runL k (((f::r).flatMap ju).map λs=>(s,true)) ⟨ju g,frm,false,[],blk,done,0⟩=runL (k+1+mr.length) ((r.flatMap ju).map λs=>(s,true)) ⟨ju f,k,false,[],blk++ju f,done++[g],0⟩:=by
   rw[Qi,Zn,hlf,Ql,Qr,runL,qw9 hk4 (qtc hg frm [] blk done 0)];simp only;rw[qrs mr (k+1) _ _ hk3 (by simp[kl])]
   have hfu:decide ((done++[g]).length=40∨((done++[g]).length=0∧(0:Int)=400))=false:=by
    simp;omega
   simp only[kl,hfu,Qx,Qr,Qk]
  rw[a8];have ih:=q02 r (done++[g]) f (k+1+mr.length) k (blk++ju f) hf (λx hx=>hr x (by simp[hx])) So (by simp[hb]);rw[ih.1,ih.2];simp[Qi]
theorem qil(fs:List Fld):kp fs=zp (fs.flatMap ju):=by
 induction fs with
 |nil=>rfl
 |cons f r ih=>
  rw[Qi,qbp,<-ih];simp[kp]
theorem qkh{fs:List Fld}(h:∀f∈fs,kf f):∀s∈fs.flatMap ju,10∉s:=λs hs=>by
 obtain⟨f,hf,hs⟩:=Zl.1 hs;exact q2l (h f hf) s hs
theorem q59{fs:List Fld}(hg:GF fs)(d7:fs≠[]):kr (kp fs)=(none,[⟨3,kp fs,fs⟩]):=by
 have hl:=qdq _ (qkh hg.2);rw[<-qil]at hl
 cases fs with
 |nil=>exact absurd rfl d7
 |cons f r=>
  have hf:=hg.2 f Sx;obtain⟨hd,mr,hlf,hk4,hk3⟩:=qok hf;have b9:=hg.1;simp only[Qc]at b9
  have a8:runL 0 (((f::r).flatMap ju).map λs=>(s,true)) p0=runL (0+1+mr.length) ((r.flatMap ju).map λs=>(s,true)) ⟨ju f,(0:Nat),false,[],ju f,[],0⟩:=by
   have r6:jr p0=(none,p0):=rfl;rw[Qi,Zn,hlf,Ql,Qr,runL,qw9 hk4 r6];simp only;rw[qrs mr (0+1) _ _ hk3 (by simp[kl])];simp[kl,p0]
  have ih:=q02 r [] f (0+1+mr.length) (0:Nat) (ju f) hf (λx hx=>hg.2 x (by simp[hx])) So (by simp[ju]);unfold kr;rw[hl,a8,ih.1];simp only;rw[ih.2];rw[qil,Qi,Qk]
theorem q9l:kr []=(none,[]):=by
 unfold kr;rw[wi];rfl
theorem qqg{ls:List qa}(h:∀s∈ls,10∉s):qas [32,32] (zp ls)=zp (ls.map λs=>[32,32]++s):=by
 unfold qas indF;rw[qdq ls h];simp only[zp,Zm,ym,if_pos]
theorem qzv{ls:List qa}(h:∀s∈ls,10∉s):∀s∈ls.map (λs=>[32,32]++s),10∉s:=λs hs=>by
 obtain⟨x,hx,rfl⟩:=Qf.1 hs;have:=h x hx;simp[this]
theorem qxn{ls:List qa}(h:∀s∈ls,10∉s):vf [32,32] (qas [32,32] (zp ls))=(zp ls,true):=by
 rw[qqg h];unfold vf;rw[qdq _ (qzv h),if_pos]
 .simp[zp,Zm,ym]
 .intro x hx
  obtain⟨s,hs,rfl⟩:=Qf.1 hx;obtain⟨y,_,rfl⟩:=Qf.1 hs;exact Zb _ _
theorem qxp{fs:List Fld}(hl:fs.length<=40)(hg:∀f∈fs,kf f):qdl (qas [32,32] (kp fs))=(fs,true):=by
 have hd:vf [32,32] (qas [32,32] (kp fs))=(kp fs,true):=by
  rw[qil];exact qxn (qkh hg)
 unfold qdl;rw[hd];simp only;by_cases h0:fs=[]
 .subst h0
  have hp:kr (kp [])=(none,[]):=q9l;rw[hp];simp[recsF,kp]
 .rw[q59 ⟨hl,hg⟩ h0]
  simp[recsF]
theorem q5r{j k:Int}{s:qa}(hj:j=1∨j=2∨j=3)(hk:k=1∨k=2∨k=3)(d7:j≠k):¬qbm j<+:qbm k++s:=by
 rintro⟨t,ht⟩;have h2:=congrArg (Zr 2) ht;rcases hj with rfl|rfl|rfl <;>rcases hk with rfl|rfl|rfl <;>first|exact absurd rfl d7|(revert h2;simp[qbm])
theorem q7k{x:qt}(hk:x.kind=1∨x.kind=2∨x.kind=3)(h1: -9223372036854775808<=x.id)(h2:x.id<=9223372036854775807):begE (vv x)=some (x.kind,x.id):=by
 have hl:vv x=qbm x.kind++Lib.itoa x.id:=by
  unfold vv;rw[if_pos Om]
 have t7:tryB x.kind (vv x)=some x.id:=by
  unfold tryB;rw[hl,if_pos (Zb _ _),Zo,ql1 h1 h2]
 have t8:∀j:Int,(j=1∨j=2∨j=3)->j≠x.kind->tryB j (vv x)=none:=λj hj d7=>by
  unfold tryB;rw[hl,if_neg (q5r hj hk d7)]
 unfold begE;rcases hk with h|h|h
 .rw[h]at t7 t8⊢
  rw[t7]
 .rw[h]at t7 t8⊢
  rw[t8 1 Sx (by decide),t7]
 .rw[h]at t7 t8⊢
  rw[t8 1 Sx (by decide),t8 2 Sx (by decide),t7]
def qcl(x:qt):List qa:=(x.fields.flatMap ju).map λs=>[32,32]++s
theorem qqj(v:Int):∀c∈Lib.itoa v,c≠10∧c≠32:=λc hc=>by
 by_cases hv:v<0
 .rw[qjk hv]at hc
  rcases Qh.1 hc with rfl|hc
  .decide
  .have:=xk _ _ (Qg _) c hc
   constructor <;>rintro rfl <;>simp at this
 .rw[qjl Om]at hc
  have:=xk _ _ (Qg _) c hc;constructor <;>rintro rfl <;>simp at this
theorem qdp(x:qt):10∉vv x:=by
 unfold vv;split
 .rename_i hk
  have h1:=qqj x.id;intro hc;rcases Qo.1 hc with hc|hc
  .have:x.kind=1∨x.kind=2∨x.kind=3:=by omega
   rcases this with h|h|h<;>rw[h]at hc<;>revert hc<;>decide
  .exact(h1 10 hc).1 rfl
 .simp
theorem q2i{x:qt}(hk:x.kind=1∨x.kind=2∨x.kind=3):¬ [32,32]<+:vv x:=by
 unfold vv;rw[if_pos Om];rintro⟨t,ht⟩;have h2:=congrArg (Zr 2) ht;rcases hk with h|h|h<;>rw[h]at h2<;>revert h2<;>simp[qbm]
theorem qg5{x:qt}(hg:∀f∈x.fields,kf f):j9 x=zp (vv x::qcl x):=by
 unfold j9 qcl;rw[yy,qil,qqg (qkh hg)];simp
theorem q7p{x:qt}(hg:∀f∈x.fields,kf f):∀s∈qcl x,10∉s:=qzv (qkh hg)
theorem qf2(text:qa):∀(m:List qa)(k a f:Nat)(R:qa),(∀s∈m,10∉s∧[32,32]<+:s)->∃k',x8 text (x7 k a (zp m++R)) f=x8 text (x7 k' (a+(zp m).length) R) f
 | [],k,a,f,R,_=>⟨k,by simp[zp]⟩
 |s::m,k,a,f,R,h=>by
  obtain⟨p7,hp⟩:=h s Sx;have e:zp (s::m)++R=s++10::(zp m++R):=by rw[yy];simp
  obtain⟨k',ih⟩:=qf2 text m (k+1) (a+s.length+1) f R λx hx=>h x (by simp[hx]);refine⟨k',?_⟩;rw[e,qjn Sx,yj _ p7,qad _ p7,x8,if_neg (λh=>h.2 hp),ih,yy];congr 2;simp;omega
theorem qn0{x:qt}(hg:∀f∈x.fields,kf f):∀s∈qcl x,10∉s∧[32,32]<+:s:=λs hs=>⟨q7p hg s hs,by
 obtain⟨y,_,rfl⟩:=Qf.1 hs
 exact Zb _ _⟩
structure EncG (x:qt):Prop where
 kind:x.kind=1∨x.kind=2∨x.kind=3
 len:x.fields.length<=40
 good:∀f∈x.fields,kf f
 id1: -9223372036854775808<=x.id
 id2:x.id<=9223372036854775807
theorem qtx:∀(r:List qt)(D:qa)(x:qt)(k:Nat),EncG x->(∀y∈r,EncG y)->
  x8 (D++(j9 x++encF r)) (x7 k (D.length+((vv x).length+1)) (zp (qcl x)++encF r)) D.length=j9 x::r.map j9
 | [],D,x,k,hx,_=>by
  obtain⟨k',h⟩:=qf2 (D++(j9 x++encF [])) (qcl x) k (D.length+((vv x).length+1)) D.length (encF []) (qn0 hx.good);rw[h];have e:encF []=[]:=rfl;rw[e,qlm,x8]
  simp
 |y::r,D,x,k,hx,hr=>by
  have hy:=hr y Sx;obtain⟨k',h⟩:=qf2 (D++(j9 x++encF (y::r))) (qcl x) k (D.length+((vv x).length+1)) D.length (encF (y::r)) (qn0 hx.good);rw[h]
  have e:encF (y::r)=vv y++10::(zp (qcl y)++encF r):=by
   have:encF (y::r)=j9 y++encF r:=by simp[encF]
   rw[this,qg5 hy.good,yy];simp
  have hlx:(j9 x).length=(vv x).length+1+(zp (qcl x)).length:=by
   rw[qg5 hx.good,yy];simp;omega
  have e2:encF (y::r)=j9 y++encF r:=by simp[encF]
  have pt:D.length+((vv x).length+1)+(zp (qcl x)).length=(D++j9 x).length:=by
   rw[Qe,hlx];omega
  rw[pt]
  have hc:x7 k' (D++j9 x).length (encF (y::r))=⟨k',(D++j9 x).length,vv y,true⟩::x7 (k'+1) ((D++j9 x).length+(vv y).length+1) (zp (qcl y)++encF r):=by
   rw[e,qjn Sx,yj _ (qdp y),qad _ (qdp y)];simp
  have e8:D.length<(D++j9 x).length:=by rw[Qe,hlx];omega
  rw[hc,x8,if_pos ⟨e8,q2i hy.kind⟩];have ih:=qtx r (D++j9 x) y (k'+1) hy λz hz=>hr z (by simp[hz]);have et:D++(j9 x++encF (y::r))=(D++j9 x)++(j9 y++encF r):=by rw[e2];simp
  rw[et]
  have ed:((D++j9 x++(j9 y++encF r)).take (D++j9 x).length).drop D.length=j9 x:=by
   rw[List.take_left,Zo]
  rw[ed,Ql];simp only;rw[show(D++j9 x).length+(vv y).length+1=(D++j9 x).length+((vv y).length+1)by omega,ih]
theorem q9m{x:qt}{r:List qt}(hx:EncG x)(hr:∀y∈r,EncG y):qep (encF (x::r))=(x::r).map j9:=by
 have e2:encF (x::r)=j9 x++encF r:=by simp[encF]
 have e:encF (x::r)=vv x++10::(zp (qcl x)++encF r):=by
  rw[e2,qg5 hx.good,yy];simp
 have h:=qtx r [] x 1 hx hr;simp only[Qk,Qj,Nat.zero_add]at h
 have hc:lns (encF (x::r))=⟨0,0,vv x,true⟩::x7 1 ((vv x).length+1) (zp (qcl x)++encF r):=by
  unfold lns;rw[e,qjn Sx,yj _ (qdp x),qad _ (qdp x)];simp
 unfold qep;rw[hc,x8,if_neg Sx,e2,h];rfl
theorem qy5:∀(r acc:List qt),(∀y∈r,EncG y)->acc.length+r.length<=40->decP (r.map j9) acc=some (acc++r)
 | [],acc,_,_=>by simp[decP]
 |x::r,acc,h,hl=>by
  have hx:=h x Sx;simp only[Qc]at hl
  have hu:upto 10 (j9 x)=vv x:=by
   unfold j9;rw[Qx];exact yj _ (qdp x)
  have hp:past 10 (j9 x)=qas [32,32] (kp x.fields):=by
   unfold j9;rw[Qx];exact qad _ (qdp x)
  have r6:=qxp hx.len hx.good;rw[Ql,decP,hu,q7k hx.kind hx.id1 hx.id2];simp only[hp,r6];rw[if_pos ⟨trivial,Om⟩];have ih:=qy5 r (acc++[⟨x.kind,x.id,x.fields⟩]) (λy hy=>h y (by simp[hy])) So;rw[ih];simp
theorem q3k{x:qt}(h:gErr x=.no)(hB:EdB x):EncG x:=by
 obtain⟨h1,h2⟩:=qpj h;refine⟨?_,h1,h2,hB.id1,hB.id2⟩;unfold gErr at h;split at h
 .exact .inr (.inl (by assumption))
 .split at h
  .rename_i hk;omega
  .simp at h
theorem ze4{b:List qt}(he:eErr b=.no)(hB:∀x∈b,EdB x)(hl:(encF b).length<=50000):decF (encF b)=some b:=by
 obtain⟨h1,h40,hg⟩:=qgf he;have hG:∀y∈b,EncG y:=λy hy=>q3k (hg y hy) (hB y hy);unfold decF;rw[if_neg Om]
 cases b with
 |nil=>simp at h1
 |cons x r=>
  rw[q9m (hG x Sx) (λy hy=>hG y (by simp[hy])),qy5 (x::r) [] hG (by simp at h40⊢;omega)];simp only[Qk];rw[if_pos ⟨he,trivial⟩]
theorem zbi{text:qa}{b:List qt}(h:decF text=some b):eErr b=.no∧encF b=text∧text.length<=50000:=by
 unfold decF at h;split at h
 .simp at h
 .split at h
  .simp at h
  .split at h
   .rename_i hc
    cases h
    exact⟨hc.1,hc.2,Om⟩
   .simp at h
def SpL(L:List qa):Prop:=L≠[]∧∀s∈L,10∉s∧[32]<+:s
def encL(b:List qt):List qa:=b.flatMap λx=>vv x::qcl x
theorem q78{b:List qt}(hg:∀x∈b,EncG x):encF b=zp (encL b):=by
 induction b with
 |nil=>rfl
 |cons x r ih=>
  have e:encL (x::r)=(vv x::qcl x)++encL r:=by simp[encL]
  have e2:encF (x::r)=j9 x++encF r:=by simp[encF]
  rw[e,qbp,e2,qg5 (hg x Sx).good,ih λy hy=>hg y (by simp[hy])]
theorem zfq{x:qt}(hk:x.kind=1∨x.kind=2∨x.kind=3):[32]<+:vv x:=by
 unfold vv;rw[if_pos Om];rcases hk with h|h|h<;>rw[h]<;>exact⟨_,rfl⟩
theorem ze9{b:List qt}(d7:b≠[])(hg:∀x∈b,EncG x):SpL (encL b):=by
 refine⟨?_,λs hs=>?_⟩
 .cases b with
  |nil=>exact absurd rfl d7
  |cons x r=>simp[encL]
 .obtain⟨x,hx,hs⟩:=Zl.1 hs
  have hG:=hg x hx;rcases Qh.1 hs with rfl|hs
  .exact⟨qdp x,zfq hG.kind⟩
  .obtain⟨h1,t,ht⟩:=qn0 hG.good s hs
   exact⟨h1,[32]++t,by rw[<-ht];rfl⟩
theorem zgp{L:List qa}(h:SpL L):sp true (zp L)=true:=by
 rw[<-qmp _ (zp L) (Qg _),qdq L λs hs=>(h.2 s hs).1];intro x hx;obtain⟨s,hs,rfl⟩:=Qf.1 hx;exact(h.2 s hs).2
theorem zaj{L:List qa}(h:SpL L):(zp L)[0]?=some 32:=by
 obtain⟨d7,hs⟩:=h
 cases L with
 |nil=>exact absurd rfl d7
 |cons s r=>
  obtain⟨t,ht⟩:=(hs s Sx).2;rw[yy,<-ht];rfl
theorem qxa:∀(L:List qa),L≠[]->(zp L).getLast?=some 10
 | [],h=>absurd rfl h
 | [s],_=>by rw[yy];simp[zp]
 |s::t::r,_=>by
  have ih:=qxa (t::r) Sx;have d7:zp (t::r)≠[]:=λe=>by rw[e]at ih;simp at ih
  rw[yy,List.getLast?_append,List.getLast?_cons,ih];simp
theorem q79{b:List qt}(he:eErr b=.no)(hB:∀x∈b,EdB x)(hl:(encF b).length<=50000):y9 (encF b):=by
 obtain⟨h1,h40,hg⟩:=qgf he;have hG:∀y∈b,EncG y:=λy hy=>q3k (hg y hy) (hB y hy);have d7:b≠[]:=λe=>by subst e;simp at h1
 have hS:=ze9 d7 hG;have ht:=q78 hG;have hh:=zaj hS;have m9:=qxa _ hS.1;rw[<-ht]at hh m9;have s6:=zgp hS;rw[<-ht]at s6;refine⟨?_,hl,m9,by rw[qkc];exact s6⟩;rcases hc:encF b with _|⟨c,_|⟨d,r⟩⟩
 .rw[hc]at hh;simp at hh
 .rw[hc]at hh m9
  simp at hh m9;rw[hh]at m9;simp at m9
 .simp
end Go.Pl
namespace Go.Proofs.YthnbabbhpeebbaaGreatDoor
open Go Go.Av Go.RowKit Go.Proofs Go.Pl
theorem qx7{α:Type}{g:α->AV}{P:α->Prop}:∀{xs:List AV},(∀x∈xs,∃a,x=g a∧P a)->∃ys:List α,xs=ys.map g∧∀a∈ys,P a
 | [],_=>⟨[],rfl,Sx⟩
 |x::r,h=>by
  obtain⟨ys,hys,has⟩:=qx7 (xs:=r) λy hy=>h y (List.mem_cons_of_mem _ hy);obtain⟨a,rfl,ha⟩:=h x Sx;subst hys;refine⟨a::ys,rfl,λb hb=>?_⟩;rcases Qh.1 hb with rfl|hb
  .exact ha
  .exact has b hb
end Go.Proofs.YthnbabbhpeebbaaGreatDoor
namespace Go.Proofs.YthnbabbhpeebbaaGreatDoor
open Go Go.Av Go.RowKit Go.WideShapes Go.ChangeShapes Go.Deep Go.Proofs Go.Pl
theorem zg4{H:Type}{enc:TypeId×Value->H}{P:Program}{W:World}{r:Reach}{b0:Nat}{t:TypeId}{fs:Array Field}{S:AV->Prop}{v:Value}{d:DataW H}{ps:List MemPlace}(hu:P.underlying t=some (.struct fs))(hO:Opn P t S)(hS:∀a,S a->∃us,a=.ag us)(nt:Value.okWide P W r b0 t v)(hd:DataW.Trod enc P W 0 (λ_=>true) true t v d ps):
  ∃a,S a∧Rel (gW W) a v:=by
 obtain⟨cs,rfl,_⟩:=okWide_struct hu nt;obtain⟨fuel,hf⟩:=hd;obtain⟨y,hy,hr⟩:=hO H enc W fuel _ _ hf;obtain⟨us,rfl⟩:=hS y hy;exact⟨_,hy,.ag us cs (by simpa[AV.cells,Value.cells]using hr.1) λi x z hx hz=>hr.2 i x z hx (by simpa[Value.cells]using hz)⟩
end Go.Proofs.YthnbabbhpeebbaaGreatDoor
namespace Go.Proofs.YthnbabbhpeebbaaGreatDoor
open Go Go.Av Go.RowKit Go.Proofs Go.Pl
theorem q71:∀(ps:List qa)(acc b:List qt),(∀x∈acc,EdB x)->decP ps acc=some b->∀x∈b,EdB x
 | [],acc,b,h,e=>by
  rw[decP]at e
  cases e
  exact h
 |p::r,acc,b,h,e=>by
  rw[decP]at e;split at e
  .simp at e
  .rename_i k n hb
   split at e
   .refine q71 r _ b (λx hx=>?_) e
    rcases Qo.1 hx with hx|hx
    .exact h x hx
    .obtain rfl:=Zj.1 hx
     exact q74 (qux hb).1 (qux hb).2 (qp9 _)
   .simp at e
theorem zhf{text:qa}{b:List qt}(h:decF text=some b):∀x∈b,EdB x:=by
 unfold decF at h;split at h
 .simp at h
 .split at h
  .simp at h
  .rename_i c hc
   split at h
   .cases h
    exact q71 _ _ _ Sx hc
   .simp at h
end Go.Proofs.YthnbabbhpeebbaaGreatDoor
namespace Go.Pl
open Go Go.Proofs Go.Proofs.YthnbabbhpeebbaaGreatDoor
def OutG(out:List qt)(m:Nat):Prop:=∀x∈out,(∀f∈x.fields,kf f)∧x.fields.length<=m∧-9223372036854775808<=x.id∧x.id<=9223372036854775807
theorem OutG.mono{out:List qt}{m m':Nat}(h:OutG out m)(hm:m<=m'):OutG out m':=λx hx=>⟨(h x hx).1,by have:=(h x hx).2.1;omega,(h x hx).2.2⟩
end Go.Pl
namespace Go.Pl
open Go Go.Proofs
def wu:List (qa×Bool)->List qa
 | []=>[]
 |(t,_)::r=>if qy t=3 then t::wu r else []
def ya(prev:Bool)(t:qa)(e:Bool)(r:List (qa×Bool))(fields:Nat)(records:Int):Int:=
 if qy t=5∨(qy t=3∧prev=false)∨e=false then 2
 else if qy t≠4 then 0
 else if(j8 (t::wu r)).2≠0 then(j8 (t::wu r)).2
 else if 40<=fields∨(fields=0∧400<=records)then 11 else 0
theorem q2c{α:Type}{l:List α}{x:α}(h:l.getLast?=some x):l.dropLast++[x]=l:=by
 have d7:l≠[]:=λe=>by subst e;simp at h
 rw[List.getLast?_eq_some_getLast d7]at h;obtain rfl:=Zu h;exact List.dropLast_concat_getLast d7
def outR(now:jc)(out:List jc):List jc:=if now.raw=[]then out else out++[now]
def refL:Nat->List (qa×Bool)->Bool->jc->Int->List jc->Option (Int×Int)×List jc
 |_,[],_,now,_,out=>(none,outR now out)
 |i,(t,e)::r,prev,now,rec,out=>
  if ya prev t e r now.fields.length rec≠0 then(some ((i:Int),ya prev t e r now.fields.length rec),[])
  else if qy t=1 then refL (i+1) r false ⟨2,[],[]⟩ rec (outR now out++[⟨1,t++[10],[]⟩])
  else if qy t=4 then refL (i+1) r true ⟨3,now.raw++t++[10],now.fields++[(j8 (t::wu r)).1]⟩ (if now.kind=2 then rec+1 else rec) out
  else refL (i+1) r (decide (qy t=3)) ⟨now.kind,now.raw++t++[10],now.fields⟩ rec out
def qxw:List (qa×Bool)->Prop
 | []=>True
 |(_,e)::r=>(e=false->r=[])∧qxw r
theorem qqk:∀(n:Nat)(l:qa),l.length<=n->qxw (zv l)
 |0,l,h=>by
  have:l=[]:=Qw.1 Om;subst this;rw[wi]
  trivial
 |n+1,l,h=>by
  by_cases hl:l=[]
  .subst hl
   rw[wi];trivial
  .rw[wr hl]
   refine⟨λhe=>?_,qqk n _ (by have:=yn (c:=10) hl;omega)⟩;have p7:10∉l:=by simpa using he
   have:past 10 l=[]:=by
    unfold past;rw[qfc p7];exact Qq Om
   rw[this,wi]
def qen(ls:List qa)(full:Bool):Int:=if(j8 ls).2≠0 then(j8 ls).2 else if full=true then 11 else 0
theorem qik{p:PSt}(h:p.lines≠[])(hc:qen p.lines p.full≠0):(jr p).1=some (p.frm,qen p.lines p.full):=by
 unfold qen at *;unfold jr;rw[if_neg h];by_cases h1:(j8 p.lines).2≠0
 .rw[if_pos h1,if_pos h1]
 .rw[if_neg h1]at hc⊢
  rw[if_neg h1];by_cases h2:p.full=true
  .rw[if_pos h2,if_pos h2]
  .rw[if_neg h2]at hc
   exact absurd rfl hc
theorem qwg{p:PSt}(h:p.lines=[]∨qen p.lines p.full=0):jr p=(none,{p with lines:=[],fields:=p.fields++(if p.lines=[]then []else [(j8 p.lines).1])}):=by
 unfold jr;by_cases h0:p.lines=[]
 .rw[if_pos h0,if_pos h0]
  obtain⟨a,b,c,d,e,f,g⟩:=p;simp only at h0;subst h0;simp
 .rw[if_neg h0,if_neg h0]
  have h:=h.resolve_left h0;unfold qen at h;by_cases h1:(j8 p.lines).2≠0
  .rw[if_pos h1]at h
   exact absurd h h1
  .rw[if_neg h1]at h⊢
   by_cases h2:p.full=true
   .rw[if_pos h2]at h
    simp at h
   .rw[if_neg h2]
theorem qry{p:PSt}{no:Int}{t:qa}{e:Bool}{x:Int×Int}(h:(jk p no t e (qy t)).1=some x):(wo p no t e).1=some x:=by
 unfold wo;rw[h]
theorem qrz{p q:PSt}{no:Int}{t:qa}{e:Bool}(h:jk p no t e (qy t)=(none,q))(hc:qy t=5∨e=false):(wo p no t e).1=some (no,2):=by
 unfold wo;rw[h];simp only;rw[if_pos hc]
theorem qlr{p q:PSt}{no:Int}{t:qa}(h:jk p no t true (qy t)=(none,q))(hc:qy t≠5):wo p no t true=
  if qy t=1 then(none,{q with items:=q.items++[⟨1,t++[10],[]⟩]})else if qy t=4 then(none,{kl q no t with block:=q.block++[t]})else(none,{q with block:=q.block++[t]}):=by
 unfold wo;rw[h];simp only;rw[if_neg (by simp[hc])]
theorem qfn{k:Nat}{t:qa}{e:Bool}{r:List (qa×Bool)}{p:PSt}{x:Int×Int}(h:(wo p k t e).1=some x):(runL k ((t,e)::r) p).1=some x:=by
 rw[runL,h]
theorem qhw{k:Nat}{t:qa}{e:Bool}{r:List (qa×Bool)}{p q:PSt}(h:wo p k t e=(none,q)):runL k ((t,e)::r) p=runL (k+1) r q:=by
 rw[runL,h]
theorem qsb{p:PSt}{no:Int}{t:qa}(hk:qy t=3)(hl:p.lines≠[]):jk p no t true (qy t)=(none,{p with lines:=p.lines++[t]}):=by
 unfold jk;rw[if_pos hk,if_neg hl,if_pos rfl]
theorem qsa{p:PSt}{no:Int}{t:qa}(hk:qy t=3)(hl:p.lines≠[]):jk p no t false (qy t)=jr {p with lines:=p.lines++[t]}:=by
 unfold jk;rw[if_pos hk,if_neg hl,if_neg Sx]
theorem qg1{p:PSt}{no:Int}{t:qa}{e:Bool}(hk:qy t≠3)(h1:qy t≠1):jk p no t e (qy t)=jr p:=by
 unfold jk;rw[if_neg hk,if_neg h1]
theorem qkt{p:PSt}{no:Int}{t:qa}{e:Bool}(h1:qy t=1):jk p no t e (qy t)=endP p:=by
 unfold jk;rw[if_neg Om,if_pos h1]
theorem qtp{t:qa}{e:Bool}{r:List (qa×Bool)}(h:qy t≠3):wu ((t,e)::r)=[]:=by
 rw[wu,if_neg h]
theorem qk3{t:qa}{e:Bool}{r:List (qa×Bool)}(h:qy t=3):wu ((t,e)::r)=t::wu r:=by
 rw[wu,if_pos h]
theorem qzd{p:PSt}{x:Int×Int}(h:(jr p).1=some x):(endP p).1=some x:=by
 unfold endP;rw[h]
theorem qu0{p q:PSt}(h:jr p=(none,q)):endP p=(none,x4 q):=by
 unfold endP;rw[h]
theorem q0u:∀(r:List (qa×Bool))(p:PSt)(k:Nat)(c:Int),qxw r->p.lines≠[]->qen (p.lines++wu r) p.full=c->c≠0->(runL k r p).1=some (p.frm,c)
 | [],p,k,c,_,hl,hc,h0=>by
  rw[wu,Qv]at hc;rw[runL];subst hc
  exact qzd (qik hl h0)
 |(t,e)::r,p,k,c,hE,hl,hc,h0=>by
  by_cases h3:qy t=3
  .rw[qk3 h3]at hc
   cases e with
   |true=>
    have ht:=qlr (qsb (no:=k) h3 hl) Om;rw[if_neg Om,if_neg Om]at ht;rw[qhw ht]
    exact q0u r _ (k+1) c hE.2 Sx (by simpa using hc) h0
   |false=>
    have hr:=hE.1 rfl;subst hr;refine qfn (qry ?_);rw[qsa h3 hl];have tj:qen (p.lines++[t]) p.full=c:=hc;have:=qik (p:={p with lines:=p.lines++[t]}) Sx (by simp only;rw[tj];exact h0);simp only at this;rw[this,tj]
  .rw[qtp h3,Qv]at hc
   subst hc;refine qfn (qry ?_);by_cases h1:qy t=1
   .rw[qkt h1]
    exact qzd (qik hl h0)
   .rw[qg1 h3 h1]
    exact qik hl h0
structure Sim (r:List (qa×Bool)) (p:PSt) (prev:Bool) (now:jc) (rec:Int) (out:List jc):Prop where
 hprev:prev=decide (p.lines≠[])
 hok:p.lines=[]∨qen (p.lines++wu r) p.full=0
 hraw:now.raw=zp p.block
 hfields:now.fields=p.fields++(if p.lines=[]then []else [(j8 (p.lines++wu r)).1])
 hkind:now.kind=if now.fields=[]then 2 else 3
 hrec:rec=p.records+if now.fields=[]then 0 else 1
 hout:out=p.items
 hempty:p.block=[]->p.lines=[]∧p.fields=[]
 b1:now.fields.length<=40
 b2:rec<=400
theorem zai(b:List qa):zp b=[]↔b=[]:=by
 cases b with
 |nil=>simp[zp]
 |cons x r=>simp[zp]
theorem qna(b:List qa)(t:qa):zp (b++[t])=zp b++t++[10]:=by simp[zp]
theorem Sim.flush{r:List (qa×Bool)}{p:PSt}{prev:Bool}{now:jc}{rec:Int}{out:List jc}(h:Sim r p prev now rec out)(hm:wu r=[]):jr p=(none,{p with lines:=[],fields:=now.fields}):=by
 have h1:=h.hok;have h2:=h.hfields;rw[hm,Qv]at h1 h2;rw[qwg h1,h2]
theorem Sim.close{r:List (qa×Bool)}{p:PSt}{prev:Bool}{now:jc}{rec:Int}{out:List jc}(h:Sim r p prev now rec out)(hm:wu r=[]):x4 {p with lines:=[],fields:=now.fields}={p with lines:=[],fields:=[],block:=[],items:=outR now out,records:=rec}:=by
 have hk:=h.hkind;have hr:=h.hrec;have hw:=h.hraw;have ho:=h.hout;unfold x4 outR;simp only;by_cases hb:p.block=[]
 .obtain⟨e1,e2⟩:=h.hempty hb
  have hf:now.fields=[]:=by rw[h.hfields,e1,e2];simp
  rw[if_pos hb,if_pos (by rw[hw,hb];rfl),ho,hr,hf];simp
 .have d7:¬now.raw=[]:=by rw[hw,zai];exact hb
  rw[if_neg hb,if_neg d7,ho,hr,<-hw];obtain⟨nk,nr,nf⟩:=now;simp only at hk d7⊢;by_cases hf:nf=[]
  .rw[if_pos hf]at hk
   simp[hf,hk,d7]
  .rw[if_neg hf]at hk
   simp[hf,hk,d7]
theorem qlo:∀(r:List (qa×Bool))(k:Nat)(p:PSt)(prev:Bool)(now:jc)(rec:Int)(out:List jc),qxw r->Sim r p prev now rec out->
  refL k r prev now rec out=match(runL k r p).1 with
   |some e=>(some e,[])
   |none=>(none,(runL k r p).2.items)
 | [],k,p,prev,now,rec,out,_,h=>by
  rw[runL,qu0 (h.flush rfl),h.close rfl,refL]
 |(t,e)::r,k,p,prev,now,rec,out,hE,h=>by
  rw[refL];by_cases h3:qy t=3
  .by_cases hl:p.lines=[]
   .have hp:prev=false:=by rw[h.hprev];simp[hl]
    have hw:ya prev t e r now.fields.length rec=2:=by
     unfold ya;rw[if_pos (.inr (.inl ⟨h3,hp⟩))]
    rw[hw,if_pos (by decide),qfn (x:=((k:Int),2)) (qry (by unfold jk;rw[if_pos h3,if_pos hl]))]
   .cases e with
    |true=>
     have hp:prev=true:=by rw[h.hprev];simp[hl]
     have hw:ya prev t true r now.fields.length rec=0:=by
      unfold ya;rw[if_neg (by simp[hp];omega),if_pos Om]
     have ht:=qlr (qsb (no:=k) h3 hl) Om;rw[if_neg Om,if_neg Om]at ht;rw[hw,if_neg Sx,if_neg Om,if_neg Om,qhw ht];have hm:=qk3 (e:=true) (r:=r) h3;have hok:=h.hok.resolve_left hl;have rl:=h.hfields;rw[if_neg hl,hm]at rl;rw[hm]at hok
     refine qlo r (k+1) _ _ _ _ _ hE.2 ⟨by simp[h3],.inr (by simpa using hok),by rw[qna,<-h.hraw],by simp[rl],h.hkind,h.hrec,h.hout,Sx,h.b1,h.b2⟩
    |false=>
     have hr:=hE.1 rfl;subst hr
     have hw:ya prev t false [] now.fields.length rec=2:=by
      unfold ya;rw[if_pos (.inr (.inr rfl))]
     have hok:=h.hok.resolve_left hl;rw[qk3 h3]at hok;have hf:=qwg (p:={p with lines:=p.lines++[t]}) (.inr hok);rw[hw,if_pos (by decide),qfn (x:=((k:Int),2)) (qrz ((qsa h3 hl).trans hf) (.inr rfl))]
  .have hm:=qtp (e:=e) (r:=r) h3
   have hf:=h.flush hm;have hc:=h.close hm;by_cases gf:qy t=5∨e=false
   .have hw:ya prev t e r now.fields.length rec=2:=by
     unfold ya;rw[if_pos (by rcases gf with h|h;exact .inl h;exact .inr (.inr h))]
    rw[hw,if_pos (by decide)];by_cases h1:qy t=1
    .rw[qfn (x:=((k:Int),2)) (qrz ((qkt h1).trans (qu0 hf)) gf)]
    .rw[qfn (x:=((k:Int),2)) (qrz ((qg1 h3 h1).trans hf) gf)]
   .have he:e=true:=by
     cases e with
     |true=>rfl
     |false=>exact absurd (.inr rfl) gf
    have h5:qy t≠5:=λh=>gf (.inl h);subst he;by_cases h1:qy t=1
    .have hw:ya prev t true r now.fields.length rec=0:=by
      unfold ya;rw[if_neg (by simp[h3,h5]),if_pos Om]
     have ht:=qlr ((qkt (no:=k) h1).trans (qu0 hf)) h5;rw[if_pos h1,hc]at ht;rw[hw,if_neg Sx,if_pos h1,qhw ht];exact qlo r (k+1) _ _ _ _ _ hE.2 ⟨Sx,.inl rfl,rfl,Sx,Sx,Sx,rfl,Sx,Sx,h.b2⟩
    .by_cases h4:qy t=4
     .have ht:=qlr ((qg1 (no:=k) h3 h1).trans hf) h5
      rw[if_neg h1,if_pos h4]at ht;rw[qhw ht];have db:=h.b1;have gp:=h.b2;have hrec:=h.hrec
      have hfull:(40<=now.fields.length∨(now.fields.length=0∧400<=rec))↔(now.fields.length=40∨(now.fields.length=0∧p.records=400)):=by
       by_cases hz:now.fields=[]
       .rw[if_pos hz]at hrec
        simp only[hz,Qj];constructor
        .rintro(h'|h')
         .exact absurd h' (by decide)
         .exact .inr ⟨trivial,Om⟩
        .rintro(h'|h')
         .exact absurd h' (by decide)
         .exact .inr ⟨trivial,Om⟩
       .have:now.fields.length≠0:=λh=>hz (Qw.1 h)
        constructor
        .rintro(h'|h')
         .exact .inl Om
         .exact absurd h'.1 this
        .rintro(h'|h')
         .exact .inl Om
         .exact absurd h'.1 this
      have hw:ya prev t true r now.fields.length rec=qen (t::wu r) (decide (now.fields.length=40∨(now.fields.length=0∧p.records=400))):=by
       unfold ya qen;rw[if_neg (by simp[h3,h5]),if_neg Om];by_cases hu:(j8 (t::wu r)).2≠0
       .rw[if_pos hu,if_pos hu]
       .rw[if_neg hu,if_neg hu]
        by_cases hx:40<=now.fields.length∨(now.fields.length=0∧400<=rec)
        .rw[if_pos hx,if_pos (decide_eq_true (hfull.1 hx))]
        .rw[if_neg hx,if_neg (by simpa usingλh=>hx (hfull.2 h))]
      by_cases hw0:ya prev t true r now.fields.length rec=0
      .rw[if_neg (by simp[hw0]),if_neg h1,if_pos h4]
       have hx:¬(40<=now.fields.length∨(now.fields.length=0∧400<=rec)):=λhx=>by
        unfold ya at hw0;rw[if_neg (by simp[h3,h5]),if_neg Om]at hw0;by_cases hu:(j8 (t::wu r)).2≠0
        .rw[if_pos hu]at hw0;exact hu hw0
        .rw[if_neg hu,if_pos hx]at hw0;simp at hw0
       rw[hw]at hw0;refine qlo r (k+1) _ _ _ _ _ hE.2 ⟨by simp[kl],.inr hw0,by simp only[kl];rw[qna,<-h.hraw],by simp[kl],Sx,?_,h.hout,by simp[kl],So,?_⟩
       .have hkd:=h.hkind
        simp only[kl];by_cases hz:now.fields=[]
        .rw[if_pos hz]at hrec hkd
         rw[hkd];simp;omega
        .rw[if_neg hz]at hrec hkd
         rw[hkd];simp;omega
       .rw[h.hkind]
        by_cases hz:now.fields=[]
        .have:now.fields.length=0:=by rw[hz];rfl
         rw[if_pos hz,if_pos rfl];omega
        .rw[if_neg hz,if_neg (by decide)]
         exact gp
      .rw[if_pos hw0]
       have:=q0u r {kl {p with lines:=[],fields:=now.fields} k t with block:=p.block++[t]} (k+1) (ya prev t true r now.fields.length rec) hE.2 (by simp[kl]) hw.symm hw0;simp only[kl]at this⊢;rw[this]
     .have hw:ya prev t true r now.fields.length rec=0:=by
       unfold ya;rw[if_neg (by simp[h3,h5]),if_pos h4]
      have ht:=qlr ((qg1 (no:=k) h3 h1).trans hf) h5;rw[if_neg h1,if_neg h4]at ht;rw[hw,if_neg Sx,if_neg h1,if_neg h4,qhw ht];exact qlo r (k+1) _ _ _ _ _ hE.2 ⟨by simp[h3],.inl rfl,by rw[qna,<-h.hraw],Sx,h.hkind,h.hrec,h.hout,Sx,h.b1,h.b2⟩
theorem q2r(text:qa):refL 0 (zv text) false ⟨2,[],[]⟩ 0 []=kr text:=by
 unfold kr;exact qlo (zv text) 0 p0 false ⟨2,[],[]⟩ 0 [] (qqk _ text (Qg _)) ⟨by simp[p0],.inl rfl,rfl,by simp[p0],Sx,by simp[p0],rfl,by simp[p0],Sx,Om⟩
end Go.Pl
