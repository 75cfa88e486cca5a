/- Contracts and plain facts that the closing text leans on (part 6). No condition of their own beyond those that each states. -/
import Derived.Test.YtapblfabkbdgcaaGreatDoorK5
import Derived.LaidEql
import Derived.Stop.Asserts
import Derived.RowKitTokens
import Derived.Lib.IfaceEq
import Derived.Laws.StructEq
import Derived.Lib.SliceRun
set_option maxRecDepth 100000
set_option linter.unusedVariables false
set_option linter.unusedSimpArgs false
open And renaming intro→Qa
open Array renaming getElem?_eq_none→Qs,getElem?_modify→Zf
open Exists renaming intro→Qb
open List renaming getElem?_eq_getElem→Qc,mem_cons→Qd,drop_eq_getElem_cons→Qe,drop_eq_nil_of_le→Qf,getElem?_eq_some_iff→Qg,append_nil→Qj,mem_of_getElem?→Qk,getElem?_append_left→Ql,not_mem_nil→Qm,mem_map→Qn,length_cons→Qo,cons_append→Qp,mem_append→Qq,length_eq_zero_iff→Qr,append_assoc→Qt,flatMap_cons→Qu,take_succ_eq_append_getElem→Qv,prefix_refl→Qw,nil_append→Qx,forall_mem_cons→Qy,length_pos_iff→Qz,getLast?_cons→Za,exists_cons_of_ne_nil→Zb,length_nil→Zd,take_of_length_le→Ze,drop_left→Zg,drop_drop→Zh,getElem?_set_ne→Zi,mem_of_mem_tail→Zj,getLast?_append→Zk,map_cons→Zl,length_append→Zm,prefix_append→Zn,getElem?_map→Zp,mem_flatMap→Zq,drop_length→Zr,map_append→Zs,map_nil→Zv,getD→Zw
open List.cons renaming inj→Zt
open Nat renaming le_of_ble_eq_true→Qh,le_refl→Qi,lt_or_ge→Zc,le_trans→Zu
open Option.some renaming injEq→Zo,inj→Zx
open Prod.mk renaming inj→Zy
namespace Go.Pl
open Go Go.Proofs
def p0:PSt:=⟨[],0,false,[],[],[],0⟩
def runL:Nat->List (qd×Bool)->PSt->Option (Int×Int)×PSt
 |_,[],p=>endP p
 |k,(t,e)::r,p=>match(vu p k t e).1 with
  |some x=>(some x,p)
  |none=>runL (k+1) r (vu p k t e).2
def jq(text:qd):Option (Int×Int)×List qx:=match(runL 0 (zy text) p0).1 with
 |some e=>(some e,[])
 |none=>(none,(runL 0 (zy text) p0).2.items)
end Go.Pl
namespace Go.Proofs.YtapblfabkbdgcaaGreatDoor
open Go Go.Av Go.RowKit Go.Proofs Go.Pl
theorem q6e(x:Option (Int×Int)):Pure (errP x):=by
 rcases x with _|⟨a,n⟩
 .exact qt _
 .exact qin a n
theorem q3s(f:Fld):qmh (fldA f):=λx hx=>by
 simp only[AV.cells,Qd,Qm,or_false]at hx
 rcases hx with rfl|rfl <;>exact qt _
theorem qa8(fs:List Fld):Pure (q6 fs):=y7 λx hx=>by
 obtain⟨f,_,rfl⟩:=Qn.1 hx
 exact q3s f
theorem qe0(x:qx):qmh (jh x):=λy hy=>by
 simp only[AV.cells,Qd,Qm,or_false]at hy
 rcases hy with rfl|rfl|rfl
 .exact qt _
 .exact qt _
 .exact qa8 _
theorem x3(xs:List qx):Pure (jm xs):=y7 λx hx=>by
 obtain⟨f,_,rfl⟩:=Qn.1 hx
 exact qe0 f
theorem xw{x y:AV}(hx:Pure x)(hy:Pure y):Pure (.tu [x,y]):=qdt λz hz=>by
 simp only[Qd,Qm,or_false]at hz
 rcases hz with rfl|rfl
 .exact hx
 .exact hy
def qec(text:qd):AV:=.tu [jm (jq text).2,errP (jq text).1]
theorem q0m(text:qd):Pure (qec text):=xw (x3 _) (q6e _)
theorem qno{S:List AObj}{o k:Nat}{x:AObj}(h:k≠o):(S.set o x)[k]?=S[k]?:=Zi (Ne.symm h)
theorem qvs:PB 0 p0:=⟨Om,by simp[p0],by simp[p0],by simp[p0],by simp[p0],by simp[p0],by simp[p0],by simp[p0],by simp[p0]⟩
theorem zaz(text:qd)(st:List AObj)(hl:text.length<=60000):ql E 49 [Sv text] st λr st'=>r=qec text∧st'=st:=by
 refine q5 [.s text] (q0m text) Tryz.func49 rfl rfl (λ_=>rfl) rfl λS0=>?_
 apply qe [13]
 repeat' (first|apply Qa|(intro h;try exact cDd)|exact⟨Tryz.call82⟩|(refine Qb _ ⟨q4t _,?_⟩)|exact cSd|apply qc [13]|refine exr ?_|refine qf ?_)
 refine qsv (X:=PSt×Option (Int×Int)) text 4 5 [0,1,2,3,4] (λ(p,e)=>⟨[(2,.bx 0 0),(3,.bx 1 0),(4,.bx 2 0),(15,.fn (.func 120) [] [.bx 4 0])],
   [(0,some (.cells 100 [.a z0])),(1,some (.cells 31 [.a (errP e)])),(2,some (.cells 156 [.bx 3 0])),(3,some (.cells 160 [.tp 5,.i p.frm,.b p.full,.tp 6,.tp 7,.tp 8,.i p.records])),(4,some (.cells 9 [.s text])),
    (5,some (.tip 1 9 (p.lines.map λx=>Sv x))),(6,some (.tip 3 107 (p.items.map jh))),(7,some (.tip 1 9 (p.block.map λx=>Sv x))),(8,some (.tip 2 98 (p.fields.map fldA)))],9⟩) _
  (λk rest(p,e)=>e=none∧PB (4*k) p∧k+rest.length<=text.length∧runL 0 (zy text) p0=runL k (zy rest) p)
  (λc(p,e)=>∃a m,c=.ret∧e=some (a,m)∧(runL 0 (zy text) p0).1=some (a,m)) (p0,none) ⟨rfl,qvs,Om,rfl⟩ ?_ id Om (λ_=>rfl) rfl (λ_=>rfl) (λ_=>rfl) rfl ?_ ?_ ?_
 .skip
  repeat' (first|apply Qa|(intro h;try exact cDd)|exact cSd|apply qc []|refine exr ?_|refine qf ?_)
 .rintro k rest ⟨p,e⟩ ⟨rfl,hB,hkl,hrun⟩ hne hle
  have hcons:=wz hne
  have hu:=yq 10 rest
  have hpl:=ym 10 rest
  have hr0:0<rest.length:=Qz.2 hne
  rw[hcons]at hrun
  simp only[runL]at hrun
  unfold qqz
  generalize hen:decide (10∈rest)=en at hrun
  generalize upto 10 rest=up at hu hrun⊢
  have hB2:=qo9 (no:=k) (text:=up) (ended:=en) hB Om Om
  cases hah:(vu p k up en).1 with
  |some e=>
   obtain⟨a,m⟩:=e
   rw[hah]at hrun
   simp only at hrun
   have htk:=zae (4*k) p k ((text.length:Int)-rest.length) up en hB Om Om a m hah
   refine RA.mk λS F ρ rd=>?_
   apply qe []
   repeat' (first|apply Qa|(intro h;try exact cDd)|(refine RB.mk λS rd=>?_;apply qe [])|exact⟨Tryz.call83⟩|(refine jf htk ?_)|(refine Qb ((jd p k up en (qn up)).2,some (a,m)) ⟨⟨a,m,rfl,rfl,by rw[hrun]⟩,?_⟩)|exact cSd|apply qc []|refine exr ?_|refine qf ?_)
   all_goals (rw[<-hen];rfl)
  |none=>
   rw[hah]at hrun
   simp only at hrun
   have htk:=zad (4*k) p k ((text.length:Int)-rest.length) up en hB Om Om hah
   refine RA.mk λS F ρ rd=>?_
   apply qe []
   repeat' (first|apply Qa|(intro h;try exact cDd)|(refine RB.mk λS rd=>?_;apply qe [])|exact⟨Tryz.call83⟩|(refine jf htk ?_)|(refine Qb ((vu p k up en).2,none) ⟨⟨rfl,hB2,Om,hrun⟩,?_⟩)|exact cSd|apply qc []|refine exr ?_|refine qf ?_)
   all_goals (rw[<-hen];rfl)
 .rintro k ⟨p,e⟩ ⟨rfl,hB,hkl,hrun⟩
  have hre:runL k (zy []) p=endP p:=by rw[vm];rfl
  rw[hre]at hrun
  have hpe:=q15 (4*k) p hB Om
  generalize endP p=fq at hrun hpe
  obtain⟨fe,q⟩:=fq
  cases fe with
  |some e=>
   have hpf:qec text=.tu [jm [],errP (some e)]:=by unfold qec jq;rw[hrun]
   rw[hpf]
   obtain⟨a,m⟩:=e
   repeat' (first|apply Qa|(intro h;try exact cDd)|exact⟨Tryz.call84⟩|(refine jf hpe ?_)|exact cSd|apply qc []|refine exr ?_|refine qf ?_)
  |none=>
   have hpf:qec text=.tu [jm q.items,errP none]:=by unfold qec jq;rw[hrun]
   rw[hpf]
   dsimp only at hpe
   repeat' (first|apply Qa|(intro h;try exact cDd)|exact⟨Tryz.call84⟩|(refine jf hpe ?_)|exact cSd|apply qc []|refine exr ?_|refine qf ?_)
 .rintro c ⟨p,e⟩ ⟨a,m,rfl,rfl,hre⟩
  have hpf:qec text=.tu [jm [],errP (some (a,m))]:=by unfold qec jq;rw[hre]
  rw[hpf]
  repeat' (first|apply Qa|(intro h;try exact cDd)|exact cSd|apply qc []|refine exr ?_|refine qf ?_)
end Go.Proofs.YtapblfabkbdgcaaGreatDoor
namespace Go.Proofs.YtapblfabkbdgcaaGreatDoor
open Go Go.RowKit Go.Extern.Stop Go.Stop Go.Extern Go.Proofs
theorem asT.valueOf27(t:Addr)(w:World):(ReflectliteValue.unpack (.iface 247 (.pointer (some t)))).run Tryz.prog w
  =.ok (.agg #[.pointer (some ⟨9,247,none⟩),.pointer (some ⟨w.heap.size,0,none⟩),.int .u64 150]) (w.alloc (.cells #[.pointer (some t)] 247)):=Kr
theorem asT.type27(a:Addr)(w:World):(ReflectliteValue.methodAny (ReflectliteValue.valueError "reflectlite.Value.Type" 0) (λt _ _ _=>ReflectliteType.toType t) #[.agg #[.pointer (some ⟨9,247,none⟩),.pointer (some a),.int .u64 150]]).run Tryz.prog w
  =.ok (.iface 298 (.agg #[.pointer (some ⟨9,247,none⟩)])) w:=Kr
theorem asT.methodKind(h:Value)(w:World):(Go.method 460 298 (.agg #[h]) "Kind").run Tryz.prog w=.ok (259,h) w:=by kernel_rfl
theorem asT.kind27(w:World):((ReflectliteType.abiMethod λt=>(λa:Nat=>Value.int IntKind.u8 (a:Int))<$>Rtype.kind t) #[.pointer (some ⟨9,247,none⟩)]).run Tryz.prog w=.ok (.int .u8 22) w:=Kr
theorem asT.kind25(w:World):((ReflectliteType.abiMethod λt=>(λa:Nat=>Value.int IntKind.u8 (a:Int))<$>Rtype.kind t) #[.pointer (some ⟨9,73,none⟩)]).run Tryz.prog w=.ok (.int .u8 22) w:=Kr
theorem rlm(z:Sem Value)(f:TypeId->Addr->Nat->Nat->Sem Value)(v:Value):
  ReflectliteValue.method z f #[v]=(do match <-ReflectliteValue.parts v with|none=>z|some (t,a,fl)=>f t a fl (fl%32)):=rfl
theorem asT.parts27(a:Addr)(w:World):(ReflectliteValue.parts (.agg #[.pointer (some ⟨9,247,none⟩),.pointer (some a),.int .u64 150])).run Tryz.prog w=.ok (some (247,a,150)) w:=Kr
theorem asT.isNil27(a p:Addr)(W:World)(ha:W.cell? a=some (.pointer (some p))):
  (ReflectliteValue.method (ReflectliteValue.valueError "reflectlite.Value.IsNil" 0) ReflectliteValue.isNil #[.agg #[.pointer (some ⟨9,247,none⟩),.pointer (some a),.int .u64 150]]).run Tryz.prog W=.ok (.bool false) W:=by
 rw[rlm]
 simp only[Sem.run_bind,asT.parts27,Result.andThen]
 simp[ReflectliteValue.isNil,loadVar,isAgg,underlying,Tryz.underlying247,ha,Result.andThen]
theorem asT.methodElem(h:Value)(w:World):(Go.method 460 298 (.agg #[h]) "Elem").run Tryz.prog w=.ok (276,.agg #[h]) w:=by kernel_rfl
theorem asT.methodImplements(h:Value)(w:World):(Go.method 460 298 (.agg #[h]) "Implements").run Tryz.prog w=.ok (277,.agg #[h]) w:=by kernel_rfl
theorem asT.methodAssignableTo(h:Value)(w:World):(Go.method 460 298 (.agg #[h]) "AssignableTo").run Tryz.prog w=.ok (274,.agg #[h]) w:=by kernel_rfl
theorem asT.elem27(w:World):(ReflectliteType.method ReflectliteType.elem #[.agg #[.pointer (some ⟨9,247,none⟩)]]).run Tryz.prog w=.ok (.iface 298 (.agg #[.pointer (some ⟨9,73,none⟩)])) w:=Kr
theorem asT.implements25(w:World):(ReflectliteType.relation "Implements" ReflectliteType.implements_ #[.agg #[.pointer (some ⟨9,73,none⟩)],.iface 298 (.agg #[.pointer (some ⟨9,31,none⟩)])]).run Tryz.prog w=.ok (.bool true) w:=by kernel_rfl
theorem asT.typeOf25(v:Value)(w:World):(ReflectliteType.typeOf #[.iface 73 v]).run Tryz.prog w=.ok (.iface 298 (.agg #[.pointer (some ⟨9,73,none⟩)])) w:=Kr
theorem asT.assignable25(w:World):(ReflectliteType.relation "AssignableTo" ReflectliteType.assignableTo #[.agg #[.pointer (some ⟨9,73,none⟩)],.iface 298 (.agg #[.pointer (some ⟨9,73,none⟩)])]).run Tryz.prog w=.ok (.bool true) w:=by kernel_rfl
theorem asT.valueOf25(e:Addr)(w:World):(ReflectliteValue.unpack (.iface 73 (.pointer (some e)))).run Tryz.prog w
  =.ok (.agg #[.pointer (some ⟨9,73,none⟩),.pointer (some ⟨w.heap.size,0,none⟩),.int .u64 150]) (w.alloc (.cells #[.pointer (some e)] 73)):=Kr
theorem asT.elemOf27(w:World):(Rtype.elem? 247).run Tryz.prog w=.ok (some 73) w:=Kr
theorem asT.mk25(p:Addr)(w:World):(ReflectliteValue.mk 73 p ReflectliteValue.flagAddr).run Tryz.prog w=.ok (.agg #[.pointer (some ⟨9,73,none⟩),.pointer (some p),.int .u64 406]) w:=Kr
theorem asT.elemV27(a p:Addr)(W:World)(ha:W.cell? a=some (.pointer (some p))):
  (ReflectliteValue.method (ReflectliteValue.valueError "reflectlite.Value.Elem" 0) ReflectliteValue.elem #[.agg #[.pointer (some ⟨9,247,none⟩),.pointer (some a),.int .u64 150]]).run Tryz.prog W
   =.ok (.agg #[.pointer (some ⟨9,73,none⟩),.pointer (some p),.int .u64 406]) W:=by
 rw[rlm]
 simp only[Sem.run_bind,asT.parts27,Result.andThen]
 simp[ReflectliteValue.elem,loadVar,isAgg,underlying,Tryz.underlying247,ha,Result.andThen,asT.elemOf27,asT.mk25]
theorem rls(v x:Value):ReflectliteValue.set #[v,x]=(do
  let (some (dst,a,fl),some (src,b,_)):=(<-ReflectliteValue.parts v,<-ReflectliteValue.parts x)
   |unsupported (.noEntry "extern/(internal/reflectlite.Value).Set.zeroValue")
  if fl / ReflectliteValue.flagAddr%2==0 then unsupported (.noEntry "extern/(internal/reflectlite.Value).Set.unaddressable")
  let val <-loadVar src b
  if <-Rtype.directlyAssignable dst src then storeVar dst a val
  else if <-Rtype.implements dst src then
   if(<-Rtype.kind src)==20 then
    match val with
    |.nilIface=>unsupported (.noEntry "extern/reflectlite: a nil value of one interface type handed on as a value of another")
    |_=>storeVar dst a val
   else storeVar dst a (.iface src val)
  else panicString ("reflectlite.Set: value of type " ++(<-Rtype.spelt src)++ " is not assignable to type " ++(<-Rtype.spelt dst))
  pure (.tuple #[])):=rfl
theorem asT.parts25a(a:Addr)(w:World):(ReflectliteValue.parts (.agg #[.pointer (some ⟨9,73,none⟩),.pointer (some a),.int .u64 406])).run Tryz.prog w=.ok (some (73,a,406)) w:=Kr
theorem asT.parts25(a:Addr)(w:World):(ReflectliteValue.parts (.agg #[.pointer (some ⟨9,73,none⟩),.pointer (some a),.int .u64 150])).run Tryz.prog w=.ok (some (73,a,150)) w:=Kr
theorem asT.direct25(w:World):(Rtype.directlyAssignable 73 73).run Tryz.prog w=.ok true w:=Kr
theorem asT.set25(ta b e:Addr)(old:Value)(W:World)(hb:W.cell? b=some (.pointer (some e)))(ht:W.cell? ta=some old)(hf:W.frozen? ta=false):
  (ReflectliteValue.set #[.agg #[.pointer (some ⟨9,73,none⟩),.pointer (some ta),.int .u64 406],.agg #[.pointer (some ⟨9,73,none⟩),.pointer (some b),.int .u64 150]]).run Tryz.prog W
   =.ok (.tuple #[]) (W.setCell ta (.pointer (some e))):=by
 rw[rls]
 simp only[Sem.run_bind,asT.parts25a,asT.parts25,Result.andThen]
 simp[ReflectliteValue.flagAddr,loadVar,isAgg,underlying,Tryz.underlying73,hb,Result.andThen,asT.direct25,storeVar,Value.cells,storeCells,Addr.add]
 rw[run_store Tryz.prog W ta _ _ (by rfl)]
 simp[ht,hf]
set_option maxHeartbeats 4000000 in
theorem zeu(e t:Addr)(old:Value)(w:World)(hg:w.cell? ⟨1,0,none⟩=some (.iface 298 (.agg #[.pointer (some ⟨9,31,none⟩)])))(ht0:w.cell? t=some old)(hf0:w.frozen? t=false):
  Calls Tryz.prog 172 #[.iface 73 (.pointer (some e)),.iface 247 (.pointer (some t))] w λev w'=>ev=.returned (.bool true)∧w'=((((w.alloc (.cells #[.pointer (some t)] 247)).alloc (.cells #[.pointer (some ⟨9,247,none⟩),.pointer (some ⟨w.heap.size,0,none⟩),.int .u64 150] 272)).alloc (.cells #[.pointer (some ⟨9,247,none⟩),.pointer (some ⟨w.heap.size,0,none⟩),.int .u64 150] 272)).alloc (.cells #[.pointer (some e)] 73)).setCell t (.pointer (some e)):=by
 have h6:=@run_callFunc_extern Tryz.prog 200 _ (λargs=>ReflectliteValue.unpack (args.getD 0 (.tuple #[]))) Tryz.func200 Kr Kr Kr Kr
 have h7:= @run_callFunc_extern Tryz.prog 201 _ (ReflectliteValue.methodAny (ReflectliteValue.valueError "reflectlite.Value.Type" 0) (λt _ _ _=>ReflectliteType.toType t)) Tryz.func201 (by kernel_rfl) (by kernel_rfl) (by kernel_rfl) (by kernel_rfl)
 have h8:= @run_callFunc_extern Tryz.prog 202 _ (ReflectliteValue.method (ReflectliteValue.valueError "reflectlite.Value.IsNil" 0) ReflectliteValue.isNil) Tryz.func202 (by kernel_rfl) (by kernel_rfl) (by kernel_rfl) (by kernel_rfl)
 have h27:=@run_callFunc_extern Tryz.prog 259 _ (ReflectliteType.abiMethod λt=>do pure (.int .u8 (<-Rtype.kind t))) Tryz.func259 Kr Kr Kr Kr
 have h37:=@run_callFunc_extern Tryz.prog 276 _ (ReflectliteType.method ReflectliteType.elem) Tryz.func276 Kr Kr Kr Kr
 have h38:= @run_callFunc_extern Tryz.prog 277 _ (ReflectliteType.relation "Implements" ReflectliteType.implements_) Tryz.func277 (by kernel_rfl) (by kernel_rfl) (by kernel_rfl) (by kernel_rfl)
 have h10:=@run_callFunc_extern Tryz.prog 222 _ ReflectliteType.typeOf Tryz.func222 Kr Kr Kr Kr
 have h35:= @run_callFunc_extern Tryz.prog 274 _ (ReflectliteType.relation "AssignableTo" ReflectliteType.assignableTo) Tryz.func274 (by kernel_rfl) (by kernel_rfl) (by kernel_rfl) (by kernel_rfl)
 have h11:= @run_callFunc_extern Tryz.prog 223 _ (ReflectliteValue.method (ReflectliteValue.valueError "reflectlite.Value.Elem" 0) ReflectliteValue.elem) Tryz.func223 (by kernel_rfl) (by kernel_rfl) (by kernel_rfl) (by kernel_rfl)
 have h12:=@run_callFunc_extern Tryz.prog 224 _ ReflectliteValue.set Tryz.func224 Kr Kr Kr Kr
 have tO:=asT.typeOf25
 have mA:=asT.methodAssignableTo
 have a25:=asT.assignable25
 have v25:=asT.valueOf25
 have f6:=asT.valueOf27
 have f7:=asT.type27
 have mK:=asT.methodKind
 have mE:=asT.methodElem
 have mI:=asT.methodImplements
 have k27:=asT.kind27
 have k25:=asT.kind25
 have e27:=asT.elem27
 have i25:=asT.implements25
 have n8:=asT.isNil27 ⟨w.heap.size,0,none⟩ t ((w.alloc (.cells #[.pointer (some t)] 247)).alloc (.cells #[.pointer (some ⟨9,247,none⟩),.pointer (some ⟨w.heap.size,0,none⟩),.int .u64 150] 272)) Sx
 have hlt:1<w.heap.size:=by
  rcases Zc 1 w.heap.size with h|h
  .exact h
  .simp[World.cell?,Qs h]at hg
 have hg2:((w.alloc (.cells #[.pointer (some t)] 247)).alloc (.cells #[.pointer (some ⟨9,247,none⟩),.pointer (some ⟨w.heap.size,0,none⟩),.int .u64 150] 272)).cell? ⟨1,0,none⟩=some (.iface 298 (.agg #[.pointer (some ⟨9,31,none⟩)])):=by
  rw[World.cell?_alloc_lt _ _ ⟨1,0,none⟩ (by first|(simp;done)|(simp;omega)),World.cell?_alloc_lt _ _ ⟨1,0,none⟩ hlt];exact hg
 have htl:t.block<w.heap.size:=by
  rcases Zc t.block w.heap.size with h|h
  .exact h
  .simp[World.cell?,Qs h]at ht0
 have el:=asT.elemV27 ⟨w.heap.size,0,none⟩ t (((w.alloc (.cells #[.pointer (some t)] 247)).alloc (.cells #[.pointer (some ⟨9,247,none⟩),.pointer (some ⟨w.heap.size,0,none⟩),.int .u64 150] 272)).alloc (.cells #[.pointer (some ⟨9,247,none⟩),.pointer (some ⟨w.heap.size,0,none⟩),.int .u64 150] 272)) (by rw[World.cell?_alloc_lt _ _ ⟨w.heap.size,0,none⟩ (by first|(simp;done)|(simp;omega))];simp)
 have st:=asT.set25 t ⟨w.heap.size+1+1+1,0,none⟩ e old ((((w.alloc (.cells #[.pointer (some t)] 247)).alloc (.cells #[.pointer (some ⟨9,247,none⟩),.pointer (some ⟨w.heap.size,0,none⟩),.int .u64 150] 272)).alloc (.cells #[.pointer (some ⟨9,247,none⟩),.pointer (some ⟨w.heap.size,0,none⟩),.int .u64 150] 272)).alloc (.cells #[.pointer (some e)] 73))
  (by rw[World.cell?_alloc_at _ _ _ _ Sx];rfl)
  (by rw[World.cell?_alloc_lt _ _ t (by first|(simp;done)|(simp;omega)),World.cell?_alloc_lt _ _ t (by first|(simp;done)|(simp;omega)),World.cell?_alloc_lt _ _ t (by first|(simp;done)|(simp;omega)),World.cell?_alloc_lt _ _ t htl];exact ht0)
  (by rw[World.frozen?_alloc_old _ _ t (by first|(simp;done)|(simp;omega)),World.frozen?_alloc_old _ _ t (by first|(simp;done)|(simp;omega)),World.frozen?_alloc_old _ _ t (by first|(simp;done)|(simp;omega)),World.frozen?_alloc_old _ _ t (Nat.ne_of_lt htl)];exact hf0)
 go_enter Tryz.func172,Tryz.ntmps172
 go_wp2
 refine wp_loop_rounds 1 ?_
 rw[rounds_succ]
 go_wp2
 go_ret
 exact⟨rfl,rfl⟩
theorem asT.typeOf31(v:Value)(w:World):(ReflectliteType.typeOf #[.iface 50 v]).run Tryz.prog w=.ok (.iface 298 (.agg #[.pointer (some ⟨9,50,none⟩)])) w:=Kr
theorem asT.assignable31(w:World):(ReflectliteType.relation "AssignableTo" ReflectliteType.assignableTo #[.agg #[.pointer (some ⟨9,50,none⟩)],.iface 298 (.agg #[.pointer (some ⟨9,73,none⟩)])]).run Tryz.prog w=.ok (.bool false) w:=by kernel_rfl
theorem asT.no230(v:Value)(xT:TypeId)(w:World):(Instr.typeAssert (.iface 50 v) xT 303 true).run Tryz.prog w=.ok (.tuple #[.nilIface,.bool false]) w:=run_typeAssert_lacksB Tryz.underlying303 Kr Kr v xT w
theorem asT.no233(v:Value)(xT:TypeId)(w:World):(Instr.typeAssert (.iface 50 v) xT 306 true).run Tryz.prog w=.ok (.tuple #[.nilIface,.bool false]) w:=run_typeAssert_lacksB Tryz.underlying306 Kr Kr v xT w
theorem asT.no234(v:Value)(xT:TypeId)(w:World):(Instr.typeAssert (.iface 50 v) xT 307 true).run Tryz.prog w=.ok (.tuple #[.nilIface,.bool false]) w:=run_typeAssert_lacksB Tryz.underlying307 Kr Kr v xT w
set_option maxHeartbeats 4000000 in
theorem zb0(n:Int)(t:Addr)(old:Value)(w:World)(hg:w.cell? ⟨1,0,none⟩=some (.iface 298 (.agg #[.pointer (some ⟨9,31,none⟩)])))(ht0:w.cell? t=some old):
  Calls Tryz.prog 172 #[.iface 50 (.int .i64 n),.iface 247 (.pointer (some t))] w λev w'=>ev=.returned (.bool false)∧Below w.heap.size w w':=by
 have h6:=@run_callFunc_extern Tryz.prog 200 _ (λargs=>ReflectliteValue.unpack (args.getD 0 (.tuple #[]))) Tryz.func200 Kr Kr Kr Kr
 have h7:= @run_callFunc_extern Tryz.prog 201 _ (ReflectliteValue.methodAny (ReflectliteValue.valueError "reflectlite.Value.Type" 0) (λt _ _ _=>ReflectliteType.toType t)) Tryz.func201 (by kernel_rfl) (by kernel_rfl) (by kernel_rfl) (by kernel_rfl)
 have h8:= @run_callFunc_extern Tryz.prog 202 _ (ReflectliteValue.method (ReflectliteValue.valueError "reflectlite.Value.IsNil" 0) ReflectliteValue.isNil) Tryz.func202 (by kernel_rfl) (by kernel_rfl) (by kernel_rfl) (by kernel_rfl)
 have h27:=@run_callFunc_extern Tryz.prog 259 _ (ReflectliteType.abiMethod λt=>do pure (.int .u8 (<-Rtype.kind t))) Tryz.func259 Kr Kr Kr Kr
 have h37:=@run_callFunc_extern Tryz.prog 276 _ (ReflectliteType.method ReflectliteType.elem) Tryz.func276 Kr Kr Kr Kr
 have h38:= @run_callFunc_extern Tryz.prog 277 _ (ReflectliteType.relation "Implements" ReflectliteType.implements_) Tryz.func277 (by kernel_rfl) (by kernel_rfl) (by kernel_rfl) (by kernel_rfl)
 have h10:=@run_callFunc_extern Tryz.prog 222 _ ReflectliteType.typeOf Tryz.func222 Kr Kr Kr Kr
 have h35:= @run_callFunc_extern Tryz.prog 274 _ (ReflectliteType.relation "AssignableTo" ReflectliteType.assignableTo) Tryz.func274 (by kernel_rfl) (by kernel_rfl) (by kernel_rfl) (by kernel_rfl)
 have h11:= @run_callFunc_extern Tryz.prog 223 _ (ReflectliteValue.method (ReflectliteValue.valueError "reflectlite.Value.Elem" 0) ReflectliteValue.elem) Tryz.func223 (by kernel_rfl) (by kernel_rfl) (by kernel_rfl) (by kernel_rfl)
 have h12:=@run_callFunc_extern Tryz.prog 224 _ ReflectliteValue.set Tryz.func224 Kr Kr Kr Kr
 have tO:=asT.typeOf31
 have mA:=asT.methodAssignableTo
 have a25:=asT.assignable31
 have f6:=asT.valueOf27
 have f7:=asT.type27
 have mK:=asT.methodKind
 have mE:=asT.methodElem
 have mI:=asT.methodImplements
 have k27:=asT.kind27
 have k25:=asT.kind25
 have e27:=asT.elem27
 have i25:=asT.implements25
 have n8:=asT.isNil27 ⟨w.heap.size,0,none⟩ t ((w.alloc (.cells #[.pointer (some t)] 247)).alloc (.cells #[.pointer (some ⟨9,247,none⟩),.pointer (some ⟨w.heap.size,0,none⟩),.int .u64 150] 272)) Sx
 have hlt:1<w.heap.size:=by
  rcases Zc 1 w.heap.size with h|h
  .exact h
  .simp[World.cell?,Qs h]at hg
 have hg2:((w.alloc (.cells #[.pointer (some t)] 247)).alloc (.cells #[.pointer (some ⟨9,247,none⟩),.pointer (some ⟨w.heap.size,0,none⟩),.int .u64 150] 272)).cell? ⟨1,0,none⟩=some (.iface 298 (.agg #[.pointer (some ⟨9,31,none⟩)])):=by
  rw[World.cell?_alloc_lt _ _ ⟨1,0,none⟩ (by first|(simp;done)|(simp;omega)),World.cell?_alloc_lt _ _ ⟨1,0,none⟩ hlt];exact hg
 have htl:t.block<w.heap.size:=by
  rcases Zc t.block w.heap.size with h|h
  .exact h
  .simp[World.cell?,Qs h]at ht0
 have n1:=asT.no230
 have n2:=asT.no233
 have n3:=asT.no234
 go_enter Tryz.func172,Tryz.ntmps172
 go_wp2
 refine wp_loop_rounds 1 ?_
 rw[rounds_succ]
 go_wp2
 go_ret
 exact⟨rfl,(((Below.refl _ _).alloc (Qi _) _).alloc Sx _).alloc (by first|(simp;done)|(simp;omega)) _⟩
end Go.Proofs.YtapblfabkbdgcaaGreatDoor
namespace Go.Proofs.YtapblfabkbdgcaaGreatDoor
open Go Go.Av Go.RowKit Go.Proofs Go.Pl
theorem q0y{w:World}{b:Nat}{T:TypeId}{fz:Nat×Nat}{c:Array Value}(v:Value)(hc:w.heap[b]?=some (.cells c T fz))(h1:c.size=1):w.setCell ⟨b,0,none⟩ v=w.setRow b #[v]:=by
 unfold World.setCell World.setRow
 congr 1
 apply Array.ext_getElem?
 intro i
 rw[Zf,Zf]
 by_cases hi:b=i
 .subst hi
  rw[if_pos rfl,if_pos rfl,hc]
  have:c.setIfInBounds 0 v= #[v]:=by
   apply Array.ext
   .simp[h1]
   .intro i h2 h3
    have:i=0:=by simp at h3;omega
    subst this
    simp
  simp[this]
 .rw[if_neg hi,if_neg hi]
theorem zbz(a n:Int)(o:Nat)(st:List AObj)(ho:st[o]?=some (.cells 0 73 [.v (.pointer none)])):ql E 172 [qfb a n,.ifc 247 (.bx o 0 0)] st λr st'=>r=Bv true∧st'=st.set o (.cells 0 73 [.pp [Iv a,.ifc 50 (Iv n)]]):=by
 refine⟨λB0 w0 G vals w hL hA hR=>?_⟩
 obtain⟨v1,v2,rfl⟩:∃x y,vals= #[x,y]:=by
  have:=hR.1
  match vals,this with
  |⟨[x,y]⟩,_=>exact⟨x,y,rfl⟩
 have h1:=hR.2 0 _ v1 rfl rfl
 have h2:=hR.2 1 _ v2 rfl rfl
 unfold qfb at h1
 cases h1 with
 |ifc _ _ y1 h1=>
  cases h2 with
  |ifc _ _ y2 h2=>
   have hpp:=h1
   cases h1 with
   |pp _ b off pub hp hlen hr=>
    cases h2 with
    |bx _ _ _ b2 hn hv hb=>
     obtain⟨_,g1,g2,g3,c,g4,g5,g6⟩:=hA.ob o _ ho
     have hb:=hb g1
     subst hb
     have hc1:c.size=1:=by simpa using g5.symm
     have hl:=(hL w hA.below).ert
     have hcell:w.cell? ⟨(G.ob o).blk,0,none⟩=some c[0]:=by simp[World.cell?,g4,hc1]
     have hfz:w.frozen? ⟨(G.ob o).blk,0,none⟩=false:=by simp[World.frozen?,g4]
     have hlt:(G.ob o).blk<w.heap.size:=(Array.getElem?_eq_some_iff.1 g4).1
     refine(zeu ⟨b,off,none⟩ ⟨(G.ob o).blk,0,none⟩ c[0] w hl hcell hfz).mono ?_
     rintro e w' ⟨rfl,rfl⟩
     have hb1:Below w.heap.size w ((((w.alloc (.cells #[.pointer (some ⟨(G.ob o).blk,0,none⟩)] 247)).alloc (.cells #[.pointer (some ⟨9,247,none⟩),.pointer (some ⟨w.heap.size,0,none⟩),.int .u64 150] 272)).alloc (.cells #[.pointer (some ⟨9,247,none⟩),.pointer (some ⟨w.heap.size,0,none⟩),.int .u64 150] 272)).alloc (.cells #[.pointer (some ⟨b,off,none⟩)] 73)):=
      ((((Below.refl _ _).alloc (Qi _) _).alloc Sx _).alloc (by first|(simp;done)|(simp;omega)) _).alloc (by first|(simp;done)|(simp;omega)) _
     have hA1:=hA.fresh hb1
     obtain⟨_,k1,k2,k3,c',k4,k5,k6⟩:=hA1.ob o _ ho
     have hc1':c'.size=1:=by simpa using k5.symm
     refine⟨.bool true,G,Bv true,_,rfl,.refl G,?_,.v _,rfl,rfl⟩
     rw[q0y _ k4 hc1']
     exact hA1.setRow ho Sx λi x y hx hy=>by
      match i with
      |0=>simp at hx hy;subst hx;subst hy;exact hpp
      |i+1=>simp at hx
theorem q8u(n:Int)(o:Nat)(st:List AObj)(ho:st[o]?=some (.cells 0 73 [.v (.pointer none)])):ql E 172 [.ifc 50 (Iv n),.ifc 247 (.bx o 0 0)] st λr st'=>r=Bv false∧st'=st:=by
 refine⟨λB0 w0 G vals w hL hA hR=>?_⟩
 obtain⟨v1,v2,rfl⟩:∃x y,vals= #[x,y]:=by
  have:=hR.1
  match vals,this with
  |⟨[x,y]⟩,_=>exact⟨x,y,rfl⟩
 have h1:=hR.2 0 _ v1 rfl rfl
 have h2:=hR.2 1 _ v2 rfl rfl
 cases h1 with
 |ifc _ _ y1 h1=>
  cases h2 with
  |ifc _ _ y2 h2=>
   cases h1 with
   |v=>
    cases h2 with
    |bx _ _ _ b2 hn hv hb=>
     obtain⟨_,g1,g2,g3,c,g4,g5,g6⟩:=hA.ob o _ ho
     have hb:=hb g1
     subst hb
     have hc1:c.size=1:=by simpa using g5.symm
     have hl:=(hL w hA.below).ert
     have hcell:w.cell? ⟨(G.ob o).blk,0,none⟩=some c[0]:=by simp[World.cell?,g4,hc1]
     refine(zb0 n ⟨(G.ob o).blk,0,none⟩ c[0] w hl hcell).mono ?_
     rintro e w' ⟨rfl,hb⟩
     exact⟨_,G,Bv false,st,rfl,.refl G,hA.fresh hb,.v _,rfl,rfl⟩
end Go.Proofs.YtapblfabkbdgcaaGreatDoor
namespace Go.Proofs.YtapblfabkbdgcaaGreatDoor
open Go Go.Av Go.RowKit Go.Extern.Stop Go.Stop Go.Extern Go.Proofs
theorem isT.has(v:Value)(xT:TypeId)(w:World):(Instr.typeAssert (.iface 73 v) xT 306 true).run Tryz.prog w=.ok (.tuple #[.iface 73 v,.bool true]) w:=run_typeAssert_hasB Tryz.underlying306 Kr v xT w
theorem isT.typeOf(v:Value)(w:World):(ReflectliteType.typeOf #[.iface 50 v]).run Tryz.prog w=.ok (.iface 298 (.agg #[.pointer (some ⟨9,50,none⟩)])) w:=Kr
theorem isT.cmp(w:World):(ReflectliteType.method (λt=>do Rtype.noPackHeld "Comparable" t;(λa=>Value.bool a.comparable)<$>typeInfo t) #[.agg #[.pointer (some ⟨9,50,none⟩)]]).run Tryz.prog w=.ok (.bool true) w:=by kernel_rfl
end Go.Proofs.YtapblfabkbdgcaaGreatDoor
namespace Go.Pl
open Go Go.Proofs
inductive ErrV where
 |no
 |num (n:Int)
 |at' (a n:Int)
 deriving DecidableEq
def ErrV.code:ErrV->Int
 |.no=>0
 |.num n=>n
 |.at' _ n=>n
def ErrV.pos:ErrV->Int
 |.no=> -9
 |.num _=> -9
 |.at' a _=>a
def vz:Nat->List Fld->ErrV
 |_,[]=>.no
 |k,f::r=>if j5 f=0 then vz (k+1) r else .at' k (j5 f)
def zo(fs:List Fld):ErrV:=if fs=[]then .num 2 else if 40<fs.length then .num 11 else vz 0 fs
theorem qnf:∀(k:Nat)(p r:List Fld),(∀x∈p,j5 x=0)->vz k (p++r)=vz (k+p.length) r
 |k,[],r,_=>by simp
 |k,f::p,r,h=>by
  have h1:=h f Sx
  rw[Qp,vz,if_pos h1,qnf (k+1) p r λx hx=>h x (by simp[hx])]
  congr 1
  simp
  omega
theorem qk8:∀(k:Nat)(r:List Fld),(vz k r).code=0↔vz k r=.no
 |k,[]=>by simp[vz,ErrV.code]
 |k,f::r=>by
  unfold vz
  split
  .exact qk8 _ r
  .rename_i h
   simp[ErrV.code,h]
theorem qgu(fs:List Fld):(zo fs).code=0↔zo fs=.no:=by
 unfold zo
 split
 .simp[ErrV.code]
 .split
  .simp[ErrV.code]
  .exact qk8 _ _
end Go.Pl
namespace Go.Proofs.YtapblfabkbdgcaaGreatDoor
open Go Go.Av Go.RowKit Go.Proofs Go.Pl
theorem qsi{st st':List AObj}(h:∀k,k<st.length->st'[k]?=st[k]?):∃ext,st'=st++ext:=by
 refine qjo ?_ h
 rcases Nat.eq_zero_or_pos st.length with h0|h0
 .omega
 .have h1:=h (st.length-1) Om
  have h2:st[st.length-1]?=some (st[st.length-1]'(by omega)):=Qc Om
  have:=lt_of_getElem? (h1.trans h2)
  omega
def gErr(x:qq):ErrV:=if x.kind=2 then(if x.fields=[]then .no else .num 2)else if x.kind=1∨x.kind=3 then zo x.fields else .num 2
def xz:Nat->List qq->ErrV
 |_,[]=>.no
 |k,x::r=>if(gErr x).code=0 then xz (k+1) r else .at' k (gErr x).code
def eErr(b:List qq):ErrV:=if b.length<1∨40<b.length then .num 1 else xz 0 b
theorem qlh(x:qq):(gErr x).code=0↔gErr x=.no:=by
 unfold gErr
 split
 .split <;>simp[ErrV.code]
 .split
  .exact qgu _
  .simp[ErrV.code]
theorem qp9:∀(k:Nat)(r:List qq),(xz k r).code=0↔xz k r=.no
 |k,[]=>by simp[xz,ErrV.code]
 |k,f::r=>by
  unfold xz
  split
  .exact qp9 _ r
  .rename_i h
   simp[ErrV.code]at h⊢
   exact h
theorem qtr(b:List qq):(eErr b).code=0↔eErr b=.no:=by
 unfold eErr
 split
 .simp[ErrV.code]
 .exact qp9 _ _
def errA:ErrV->AV
 |.no=>.v .nilIface
 |.num n=>.ifc 50 (Iv n)
 |.at' a n=>.ifc 73 (.pp [Iv a,.ifc 50 (Iv n)])
theorem v6(e:ErrV):Pure (errA e):=by
 cases e with
 |no=>exact qt _
 |num n=>exact qeq (qt _)
 |at' a n=>exact qin a n
def KeyB(fs:List Fld):Prop:=∀f∈fs,f.1.length<4294967281
theorem qxc{fs:List Fld}{i:Nat}{x:Fld}(h:fs[i]?=some x):(fs.map fldA)[i]?=some (fldA x):=by simp[h]
theorem qhz{b:List qq}{i:Nat}{x:qq}(h:b[i]?=some x):(b.map j6)[i]?=some (j6 x):=by simp[h]
theorem qte{fs:List Fld}(h:¬0<fs.length):zo fs=.num 2:=if_pos (Qr.1 Om)
theorem qp2{fs:List Fld}(h:40<fs.length):zo fs=.num 11:=(if_neg λh0=>by simp[h0]at h).trans (if_pos h)
theorem qtf{fs:List Fld}(h0:0<fs.length)(h:¬40<fs.length):zo fs=vz 0 fs:=(if_neg (Qz.1 h0)).trans (if_neg h)
theorem qj9(fs:List Fld)(st:List AObj)(e:ErrV)(h:zo fs=e)(hK:KeyB fs)(hl:fs.length<9223372036854775808):ql E 141 [q6 fs] st λr st'=>r=errA e∧st'=st:=by
 subst h
 refine q5 [.a (q6 fs)] (v6 _) Tryz.func141 rfl rfl (λ_=>rfl) rfl λS0=>?_
 have hml:(fs.map fldA).length=fs.length:=Sx
 apply qe []
 repeat' (first|apply Qa|(intro h;try exact cDd)|exact cSd|apply qc []|refine exr ?_|refine qf ?_)
 .rw[qte Om];rfl
 .rw[qp2 Om];rfl
 rw[qtf Om Om]
 refine zl (X:=Nat) (λk=>⟨[(16,.a (q6 fs)),(17,.i (fs.map fldA).length),(18,.i k)],[],0⟩) (λk=>k<=fs.length∧vz k (fs.drop k)=vz 0 fs) (λk=>fs.length-k) 0 ⟨Om,rfl⟩ ?_ ?_
 .skip
  repeat' (first|apply Qa|(intro h;try exact cDd)|exact cSd|apply qc []|refine exr ?_|refine qf ?_)
 .rintro k ⟨hk,hc⟩
  by_cases hlt:k<fs.length
  .obtain⟨y,hy⟩:∃y,fs[k]?=some y:=⟨_,Qc hlt⟩
   have hget:=qxc hy
   have hky:=hK y (Qk hy)
   obtain⟨_,hye⟩:=Qg.1 hy
   rw[Qe hlt,hye,vz]at hc
   rw[<-hc]
   by_cases ha:j5 y=0
   .have hc4:=λst=>qg0 y st hky ha
    apply qe [4]
    repeat' (first|apply Qa|(intro h;try exact cDd)|(refine Qb (k) ⟨Om,_,hget,?_⟩)|exact⟨Tryz.call142⟩|refine cpe hc4 ?_|(refine Qb (k+1) ⟨⟨Om,by simp_all⟩,Om,?_⟩)|exact cSd|apply qc [4]|refine exr ?_|refine qf ?_)
   .have hc4:=λst=>qg1 y st hky ha
    rw[if_neg ha]
    apply qe [4]
    repeat' (first|apply Qa|(intro h;try exact cDd)|(refine Qb (k) ⟨Om,_,hget,?_⟩)|exact⟨Tryz.call142⟩|refine cpe hc4 ?_|exact cSd|apply qc [4]|refine exr ?_|refine qf ?_)
  .rw[Qf Om,vz]at hc
   rw[<-hc]
   apply qe []
   repeat' (first|apply Qa|(intro h;try exact cDd)|exact cSd|apply qc []|refine exr ?_|refine qf ?_)
theorem zcm(x:qq)(st:List AObj)(e:ErrV)(h:gErr x=e)(hK:KeyB x.fields)(hl:x.fields.length<9223372036854775808):ql E 101 [j6 x] st λr st'=>r=errA e∧st'=st:=by
 subst h
 refine q5 [.a (j6 x)] (v6 _) Tryz.func101 rfl rfl (λ_=>rfl) rfl λS0=>?_
 have hml:(x.fields.map fldA).length=x.fields.length:=Sx
 have hpos:x.fields=[]↔x.fields.length=0:=Sx
 have hc6:=λst=>qj9 x.fields st _ rfl hK hl
 unfold gErr
 simp only[hpos]
 generalize zo x.fields=e at *
 cases e
 all_goals apply qe [1]
 repeat' (first|apply Qa|(intro h;try exact cDd)|exact⟨Tryz.call141⟩|refine cpe hc6 ?_|exact cSd|apply qc [1]|refine exr ?_|refine qf ?_)
 all_goals clear hc6
 all_goals grind [errA]
theorem q9f(n:Int)(st:List AObj):ql E 131 [.ifc 50 (Iv n)] st λr st'=>r=.ifc 50 (Iv n)∧st'=st:=by
 refine zr (qeq (qt _)) (qy Tryz.func131 rfl (Qh rfl) ?_)
 repeat' (first|apply qp|apply qj|apply qi|apply qm|apply qk|(apply qh;exact rfl;apply cd_f;exact cRa)|(apply vp;exact rfl;exact rfl)|(apply wh;exact rfl;exact rfl)|apply za|apply zg|(apply zf;exact Tryz.call172;exact q8u _ (st.length+0) _ (yc rfl)))
 exact qs rfl (zj rfl) ⟨rfl,_,rfl⟩
theorem q9e(a n:Int)(st:List AObj):ql E 131 [qfb a n] st λr st'=>r=.ifc 50 (Iv n)∧st'=st:=by
 refine zr (qeq (qt _)) (qy Tryz.func131 rfl (Qh rfl) ?_)
 repeat' (first|apply qp|apply qj|apply qi|apply qm|apply qk|(apply qh;exact rfl;apply cd_t;exact cRa)|(apply vp;exact rfl;exact rfl)|(apply wh;exact rfl;exact rfl)|(apply xh;(iterate 4 exact rfl))|(apply kg;(iterate 3 exact rfl))|(apply wg;exact rfl;exact rfl)|apply zg|(apply zf;exact Tryz.call172;exact zbz a n (st.length+0) _ (yc rfl))|(apply ve;exact rfl;(focus first|assumption|(repeat' (first|assumption|exact wu|exact yc rfl|apply kp|apply vt|omega|apply qdf)));exact rfl;exact rfl))
 exact qs rfl (zj rfl) ⟨rfl,qsi λj hj=>(qno Om).trans (Ql hj)⟩
theorem qof(k:Int)(e:ErrV)(st:List AObj)(he:e.code≠0):ql E 88 [Iv k,errA e] st λr st'=>r=errA (.at' k e.code)∧st'=st:=by
 refine zr (v6 _) (qy Tryz.func88 rfl (Qh rfl) ?_)
 cases e with
 |no=>exact absurd rfl he
 |num n=>
  repeat' (first|(apply qk2;(iterate 3 exact rfl))|apply qp|apply qj|apply qi|apply qm|apply qk|(apply vp;exact rfl;exact rfl)|(apply y8;(iterate 3 exact rfl))|apply zg|(apply zf;exact Tryz.call131;exact q9f _ _))
  exact qs rfl (zj rfl) ⟨rfl,_,rfl⟩
 |at' a n=>
  repeat' (first|(apply qk2;(iterate 3 exact rfl))|apply qp|apply qj|apply qi|apply qm|apply qk|(apply vp;exact rfl;exact rfl)|(apply y8;(iterate 3 exact rfl))|apply zg|(apply zf;exact Tryz.call131;exact q9e a n _))
  exact qs rfl (zj rfl) ⟨rfl,_,rfl⟩
structure EdB (x:qq):Prop where
 keys:KeyB x.fields
 len:x.fields.length<9223372036854775808
 id1: -9223372036854775808<=x.id
 id2:x.id<=9223372036854775807
@[reducible] def ji (b : List qq) : AV := .sl 3 (b.map j6) none
theorem q9g(b:List qq)(st:List AObj)(e:ErrV)(h:eErr b=e)(hB:∀x∈b,EdB x)(hl:b.length<9223372036854775808):ql E 63 [ji b] st λr st'=>r=errA e∧st'=st:=by
 subst h
 refine q5 [.a (ji b)] (v6 _) Tryz.func63 rfl rfl (λ_=>rfl) rfl λS0=>?_
 have hml:(b.map j6).length=b.length:=Sx
 have h1:b.length<1∨40<b.length->eErr b=.num 1:=λh=>if_pos h
 have hr:¬(b.length<1∨40<b.length)->eErr b=xz 0 b:=λh=>if_neg h
 apply qe []
 repeat' (first|apply Qa|(intro h;try exact cDd)|exact cSd|apply qc []|refine exr ?_|refine qf ?_)
 .rw[h1 Om];rfl
 .rw[h1 Om];rfl
 rw[hr Om]
 refine zl (X:=Nat) (λk=>⟨[(15,.a (ji b)),(16,.i (b.map j6).length),(17,.i k)],[],0⟩) (λk=>k<=b.length∧xz k (b.drop k)=xz 0 b) (λk=>b.length-k) 0 ⟨Om,rfl⟩ ?_ ?_
 .skip
  repeat' (first|apply Qa|(intro h;try exact cDd)|exact cSd|apply qc []|refine exr ?_|refine qf ?_)
 .rintro k ⟨hk,hc⟩
  by_cases hlt:k<b.length
  .obtain⟨y,hy⟩:∃y,b[k]?=some y:=⟨_,Qc hlt⟩
   have hget:=qhz hy
   have hky:=hB y (Qk hy)
   obtain⟨_,hye⟩:=Qg.1 hy
   rw[Qe hlt,hye,xz]at hc
   have hc9:=λst=>zcm y st _ rfl hky.keys hky.len
   have hcf:=λst=>qof k (gErr y) st
   rw[<-hc]
   cases hg:gErr y
   all_goals rw[hg]at hc hc9 hcf
   .apply qe [4]
    repeat' (first|apply Qa|(intro h;try exact cDd)|(refine Qb (k) ⟨Om,_,hget,?_⟩)|exact⟨Tryz.call101⟩|refine cpe hc9 ?_|(refine Qb (k+1) ⟨⟨Om,(if_pos rfl).symm⟩,Om,?_⟩)|exact cSd|apply qc [4]|refine exr ?_|refine qf ?_)
   all_goals have hgc:=λh=>qlh y |>.1 h
   all_goals rw[hg]at hgc
   all_goals rw[if_neg λh=>nomatch hgc h]
   .have hcg:=λst=>hcf st λh=>nomatch hgc h
    apply qe [4]
    repeat' (first|apply Qa|(intro h;try exact cDd)|(refine Qb (k) ⟨Om,_,hget,?_⟩)|exact⟨Tryz.call101⟩|refine cpe hc9 ?_|exact⟨Tryz.call88⟩|refine cpe hcg ?_|exact cSd|apply qc [4]|refine exr ?_|refine qf ?_)
   .have hcg:=λst=>hcf st λh=>nomatch hgc h
    apply qe [4]
    repeat' (first|apply Qa|(intro h;try exact cDd)|(refine Qb (k) ⟨Om,_,hget,?_⟩)|exact⟨Tryz.call101⟩|refine cpe hc9 ?_|exact⟨Tryz.call88⟩|refine cpe hcg ?_|exact cSd|apply qc [4]|refine exr ?_|refine qf ?_)
  .rw[Qf Om,xz]at hc
   rw[<-hc]
   apply qe []
   repeat' (first|apply Qa|(intro h;try exact cDd)|exact cSd|apply qc []|refine exr ?_|refine qf ?_)
theorem q18(a b:Int):Pure (.tu [Iv a,Iv b]):=xw (qt _) (qt _)
theorem qhe(fs:List Fld)(st:List AObj)(hK:KeyB fs)(hl:fs.length<9223372036854775808):ql E 106 [q6 fs] st λr st'=>r=.tu [Iv (zo fs).pos,Iv (zo fs).code]∧st'=st:=by
 refine q5 [.a (q6 fs)] (q18 _ _) Tryz.func106 rfl rfl (λ_=>rfl) rfl λS0=>?_
 have hml:(fs.map fldA).length=fs.length:=Sx
 apply qe []
 repeat' (first|apply Qa|(intro h;try exact cDd)|exact cSd|apply qc []|refine exr ?_|refine qf ?_)
 .rw[qte Om];rfl
 .rw[qp2 Om];rfl
 rw[qtf Om Om]
 refine zl (X:=Nat) (λk=>⟨[(0,.a (q6 fs)),(4,.i k)],[],0⟩) (λk=>k<=fs.length∧vz k (fs.drop k)=vz 0 fs) (λk=>fs.length-k) 0 ⟨Om,rfl⟩ ?_ ?_
 .skip
  repeat' (first|apply Qa|(intro h;try exact cDd)|exact cSd|apply qc []|refine exr ?_|refine qf ?_)
 .rintro k ⟨hk,hc⟩
  by_cases hlt:k<fs.length
  .obtain⟨y,hy⟩:∃y,fs[k]?=some y:=⟨_,Qc hlt⟩
   have hget:=qxc hy
   have hky:=hK y (Qk hy)
   obtain⟨_,hye⟩:=Qg.1 hy
   rw[Qe hlt,hye,vz]at hc
   have hc4:=λst=>qyk y st hky
   rw[<-hc]
   apply qe []
   repeat' (first|apply Qa|(intro h;try exact cDd)|(refine Qb (k) ⟨Om,_,hget,?_⟩)|exact⟨Tryz.call147⟩|refine cpe hc4 ?_|(refine Qb (k+1) ⟨⟨Om,by simp_all⟩,Om,?_⟩)|exact cSd|apply qc []|refine exr ?_|refine qf ?_)
   all_goals (rw[if_neg (by assumption)];rfl)
  .rw[Qf Om,vz]at hc
   rw[<-hc]
   apply qe []
   repeat' (first|apply Qa|(intro h;try exact cDd)|exact cSd|apply qc []|refine exr ?_|refine qf ?_)
theorem q0s(x:qq)(st:List AObj)(hK:EdB x):ql E 68 [j6 x] st λr st'=>r=Iv (gErr x).code∧st'=st:=by
 refine q5 [.a (j6 x)] (qt _) Tryz.func68 rfl rfl (λ_=>rfl) rfl λS0=>?_
 have hml:(x.fields.map fldA).length=x.fields.length:=Sx
 have hpos:x.fields=[]↔x.fields.length=0:=Sx
 have hc6:=λst=>qhe x.fields st hK.keys hK.len
 have hg:(gErr x).code=if x.kind=2 then(if x.fields.length=0 then 0 else 2)else if x.kind=1∨x.kind=3 then(zo x.fields).code else 2:=by
  unfold gErr
  simp only[apply_ite ErrV.code,hpos]
  rfl
 rw[hg]
 generalize(zo x.fields).code=c at *
 apply qe [1]
 repeat' (first|apply Qa|(intro h;try exact cDd)|exact⟨Tryz.call106⟩|refine cpe hc6 ?_|exact cSd|apply qc [1]|refine exr ?_|refine qf ?_)
 all_goals clear hc6
 all_goals refine congrArg Iv ?_
 all_goals omega
theorem qyl(b:List qq)(st:List AObj)(hB:∀x∈b,EdB x)(hl:b.length<9223372036854775808):ql E 37 [ji b] st λr st'=>r=.tu [Iv (eErr b).pos,Iv (eErr b).code]∧st'=st:=by
 refine q5 [.a (ji b)] (q18 _ _) Tryz.func37 rfl rfl (λ_=>rfl) rfl λS0=>?_
 have hml:(b.map j6).length=b.length:=Sx
 have h1:b.length<1∨40<b.length->eErr b=.num 1:=λh=>if_pos h
 have hr:¬(b.length<1∨40<b.length)->eErr b=xz 0 b:=λh=>if_neg h
 apply qe []
 repeat' (first|apply Qa|(intro h;try exact cDd)|exact cSd|apply qc []|refine exr ?_|refine qf ?_)
 .rw[h1 Om];rfl
 .rw[h1 Om];rfl
 rw[hr Om]
 refine zl (X:=Nat) (λk=>⟨[(0,.a (ji b)),(4,.i k)],[],0⟩) (λk=>k<=b.length∧xz k (b.drop k)=xz 0 b) (λk=>b.length-k) 0 ⟨Om,rfl⟩ ?_ ?_
 .skip
  repeat' (first|apply Qa|(intro h;try exact cDd)|exact cSd|apply qc []|refine exr ?_|refine qf ?_)
 .rintro k ⟨hk,hc⟩
  by_cases hlt:k<b.length
  .obtain⟨y,hy⟩:∃y,b[k]?=some y:=⟨_,Qc hlt⟩
   have hget:=qhz hy
   have hky:=hB y (Qk hy)
   obtain⟨_,hye⟩:=Qg.1 hy
   rw[Qe hlt,hye,xz]at hc
   have hc9:=λst=>q0s y st hky
   rw[<-hc]
   apply qe []
   repeat' (first|apply Qa|(intro h;try exact cDd)|(refine Qb (k) ⟨Om,_,hget,?_⟩)|exact⟨Tryz.call68⟩|refine cpe hc9 ?_|(refine Qb (k+1) ⟨⟨Om,by simp_all⟩,Om,?_⟩)|exact cSd|apply qc []|refine exr ?_|refine qf ?_)
   all_goals (rw[if_neg (by assumption)];rfl)
  .rw[Qf Om,xz]at hc
   rw[<-hc]
   apply qe []
   repeat' (first|apply Qa|(intro h;try exact cDd)|exact cSd|apply qc []|refine exr ?_|refine qf ?_)
def okE:ErrV->Prop
 |.no=>True
 |.num n=>n≠0
 |.at' _ n=>n≠0
theorem q6x(e:ErrV)(st:List AObj)(he:okE e):ql E 11 [errA e] st λr st'=>r=Iv e.code∧st'=st:=by
 refine zr (qt _) (qy Tryz.func11 rfl (Qh rfl) ?_)
 cases e with
 |no=>
  repeat' (first|apply qp|apply q8|apply qj|apply qi|apply qm|apply qk)
  refine ko (λ(k:Unit)s=>StA [(0,.v .nilIface),(7,Iv 0)] (st++[]) [] s) (λk=>0) () (jx ⟨rfl,rfl,trivial⟩) ?_
  rintro k _ ⟨t,rfl⟩
  repeat' (first|apply qp|apply q8|apply qj|apply qi|apply qm|apply qk|(apply qz;(iterate 3 exact rfl))|(apply qh;exact rfl;apply xc;exact cAo)|(apply qh;exact rfl;apply cd_t;exact cRa)|(apply qfo;exact rfl;exact rfl)|apply za|apply zg)
  exact qs rfl (zj rfl) ⟨rfl,_,rfl⟩
 |num n=>
  have hk:n≠0:=he
  repeat' (first|apply qp|apply q8|apply qj|apply qi|apply qm|apply qk)
  refine ko (λ(k:Unit)s=>StA [(0,errA (.num n)),(7,Iv 0)] (st++[]) [] s) (λk=>0) () (jx ⟨rfl,rfl,trivial⟩) ?_
  rintro k _ ⟨t,rfl⟩
  repeat' (first|apply qp|apply q8|apply qj|apply qi|apply qm|apply qk|(apply kf;exact rfl;exact rfl)|(apply qz;(iterate 3 exact rfl))|(apply z6;(iterate 4 exact rfl))|(apply qeo;exact cRa)|(apply q7;exact rfl;apply pk_t;exact cRa)|(apply qh;exact rfl;apply xc;exact cAo)|(apply qh;exact rfl;apply cd_f;exact cRa)|(apply qbf;exact rfl;exact rfl)|apply za|apply zg|(apply qci;(iterate 3 exact rfl)))
  exact qs rfl (zj rfl) ⟨rfl,_,rfl⟩
 |at' a n=>
  have hk:n≠0:=he
  repeat' (first|apply qp|apply q8|apply qj|apply qi|apply qm|apply qk)
  refine ko (λ(j:Nat)s=>(j=0∧StA [(0,errA (.at' a n)),(7,Iv 0)] (st++[]) [] s)∨(j=1∧StA [(0,errA (.num n)),(7,Iv 1)] (st++[]) [] s)) (λj=>1-j) 0 (.inl ⟨rfl,jx ⟨rfl,rfl,trivial⟩⟩) ?_
  rintro j _ (⟨rfl,t,rfl⟩|⟨rfl,t,rfl⟩)
  .skip
   repeat' (first|apply qp|apply q8|apply qj|apply qi|apply qm|apply qk|(apply kf;exact rfl;exact rfl)|(apply qz;(iterate 3 exact rfl))|(apply w6;exact rfl)|(apply z6;(iterate 4 exact rfl))|(apply qtx;exact cRa)|(apply qxh;exact cRa)|(apply qb4;exact cRa)|(apply q7;exact rfl;apply q4d;exact cRa)|(apply q7;exact rfl;apply pk_f;exact cRa)|(apply qh;exact rfl;apply xc;exact cAo)|(apply qh;exact rfl;apply cd_f;exact cRa)|(apply ja;exact rfl;exact rfl;exact zp Om Om)|(apply qbf;exact rfl;exact rfl)|(apply xh;(iterate 4 exact rfl))|(apply kg;(iterate 3 exact rfl))|(apply wg;exact rfl;exact rfl)|(apply y4;(iterate 3 exact rfl))|apply za|(apply qhm;(iterate 5 exact rfl))|(apply qci;(iterate 3 exact rfl)))
   exact⟨1,.inr ⟨rfl,jx ⟨rfl,rfl,trivial⟩⟩,Om⟩
  .skip
   repeat' (first|apply qp|apply q8|apply qj|apply qi|apply qm|apply qk|(apply kf;exact rfl;exact rfl)|(apply qz;(iterate 3 exact rfl))|(apply z6;(iterate 4 exact rfl))|(apply qeo;exact cRa)|(apply q7;exact rfl;apply pk_t;exact cRa)|(apply qh;exact rfl;apply xc;exact cAo)|(apply qh;exact rfl;apply cd_f;exact cRa)|(apply qbf;exact rfl;exact rfl)|apply za|apply zg|(apply qci;(iterate 3 exact rfl)))
   exact qs rfl (zj rfl) ⟨rfl,_,rfl⟩
theorem zbd(e:ErrV)(st:List AObj):ql E 12 [errA e] st λr st'=>r=Iv e.pos∧st'=st:=by
 refine zr (qt _) (qy Tryz.func12 rfl (Qh rfl) ?_)
 cases e with
 |no=>
  repeat' (first|apply qp|apply qj|apply qi|apply qm|apply qk|(apply kf;exact rfl;exact rfl)|(apply z6;(iterate 4 exact rfl))|(apply qb4;exact cRa)|(apply q7;exact rfl;apply pk_f;exact cRa)|(apply qh;exact rfl;apply cd_f;exact cRa)|apply za|apply zg|(apply qr3;(iterate 4 exact rfl)))
  exact qs rfl (zj rfl) ⟨rfl,_,rfl⟩
 |num n=>
  repeat' (first|apply qp|apply qj|apply qi|apply qm|apply qk|(apply kf;exact rfl;exact rfl)|(apply z6;(iterate 4 exact rfl))|(apply qb4;exact cRa)|(apply q7;exact rfl;apply pk_f;exact cRa)|(apply qh;exact rfl;apply cd_f;exact cRa)|apply za|apply zg|(apply qhm;(iterate 5 exact rfl)))
  exact qs rfl (zj rfl) ⟨rfl,_,rfl⟩
 |at' a n=>
  repeat' (first|apply qp|apply qj|apply qi|apply qm|apply qk|(apply kf;exact rfl;exact rfl)|(apply z6;(iterate 4 exact rfl))|(apply qeo;exact cRa)|(apply q7;exact rfl;apply pk_t;exact cRa)|(apply qh;exact rfl;apply qp1;exact cRa)|(apply xh;(iterate 4 exact rfl))|(apply kg;(iterate 3 exact rfl))|(apply wg;exact rfl;exact rfl)|(apply qfp;(iterate 3 exact rfl))|apply zg|(apply qci;(iterate 3 exact rfl)))
  exact qs rfl (zj rfl) ⟨rfl,_,rfl⟩
def qc0(x:qq):qd:=qe1 x++[10]++qgi [32,32] (zu x.fields)
def encF(b:List qq):qd:=b.flatMap qc0
theorem qp4:∀(k:Nat)(r:List Fld),vz k r=.no↔∀f∈r,j7 f
 |k,[]=>by simp[vz]
 |k,f::r=>by
  unfold vz
  split
  .rename_i h
   rw[qp4 (k+1) r]
   have:=(qan f).1 h
   simp[this]
  .rename_i h
   have h2:¬j7 f:=λg=>h ((qan f).2 g)
   simp[h2]
theorem qa4{fs:List Fld}(h:zo fs=.no):fs≠[]∧fs.length<=40∧∀f∈fs,j7 f:=by
 unfold zo at h
 split at h
 .exact absurd h Sx
 .split at h
  .exact absurd h Sx
  .exact⟨by assumption,Om,(qp4 _ _).1 h⟩
theorem qgh{x:qq}(h:gErr x=.no):x.fields.length<=40∧∀f∈x.fields,j7 f:=by
 unfold gErr at h
 split at h
 .split at h
  .rename_i h0;rw[h0];simp
  .exact absurd h Sx
 .split at h
  .exact(qa4 h).2
  .exact absurd h Sx
theorem qwy:∀(k:Nat)(b:List qq),xz k b=.no↔∀x∈b,gErr x=.no
 |k,[]=>by simp[xz]
 |k,x::b=>by
  unfold xz
  split
  .rename_i h
   rw[qwy (k+1) b]
   have:=(qlh x).1 h
   simp[this]
  .rename_i h
   have h2:¬gErr x=.no:=λg=>h ((qlh x).2 g)
   simp[h2]
theorem qge{b:List qq}(h:eErr b=.no):1<=b.length∧b.length<=40∧∀x∈b,gErr x=.no:=by
 unfold eErr at h
 split at h
 .exact absurd h Sx
 .exact⟨Om,Om,(qwy _ _).1 h⟩
theorem qqp{fs:List Fld}(hl:fs.length<=40)(h:∀f∈fs,j7 f):qvf fs:=⟨Om,λf hf=>by
 have:=h f hf
 have h1:=this.1.2.1
 have h2:=this.2
 omega⟩
theorem q3u(xs:List FldV)(st:List AObj)(hl:xs.length<=40)(h:∀f∈xs,j7 f):ql E 64 [q6 xs] st λr st'=>r=.tu [Sv (zu xs),.v .nilIface]∧st'=st:=by
 have:=zfc xs st (qqp hl h)
 unfold qql at this
 have h0:=(qld xs).2 h
 rw[if_pos h0,h0]at this
 exact this
theorem q0a(l:qd):(qgi [32,32] l).length<=3*l.length:=by
 unfold qgi
 obtain⟨h1,h2⟩:=qls _ l (Qi _)
 have:=qxj [32,32] (zy l)
 simp only[Qo,Zd]at this
 omega
theorem q6p(x:qq)(h1: -9223372036854775808<=x.id)(h2:x.id<=9223372036854775807):(qe1 x).length<=100:=by
 have hn:=Lib.itoa_length_le x.id h1 h2
 unfold qe1 qqq
 split
 .split
  .simp;omega
  .split
   .simp;omega
   .split <;>simp <;>omega
 .simp
theorem q3n{x:qq}(hB:EdB x)(h:gErr x=.no):(qc0 x).length<=700000:=by
 obtain⟨hl,hg⟩:=qgh h
 have h1:=qh3 x.fields hg
 have h2:=q0a (zu x.fields)
 have h3:=q6p x hB.id1 hB.id2
 unfold qc0
 simp only[Zm,Qo,Zd]
 omega
theorem qw1:∀(b:List qq),(∀x∈b,EdB x)->(∀x∈b,gErr x=.no)->(encF b).length<=700000*b.length
 | [],_,_=>by simp[encF]
 |x::r,hB,h=>by
  have ih:=qw1 r (λy hy=>hB y (by simp[hy])) (λy hy=>h y (by simp[hy]))
  have h1:=q3n (hB x Sx) (h x Sx)
  have e:encF (x::r)=qc0 x++encF r:=by simp[encF]
  rw[e,Zm,Qo]
  omega
end Go.Proofs.YtapblfabkbdgcaaGreatDoor
namespace Go.Av
open Go Go.RowKit
theorem za9{b:Nat}{st l:List AObj}{sz:Nat}{T:TypeId}{xs:List AV}{c:AV}(h:TipO b st sz T xs c):TipO b (st++l) sz T xs c:=by
 rcases h with h|h
 .exact .inl (qhh h)
 .exact .inr h
theorem zei{b:Nat}{st st':List AObj}{sz:Nat}{T:TypeId}{xs:List AV}{c:AV}(hs:∀(t m sz:Nat)(T:TypeId),st[t]?=some (AObj.tip m sz T)->st'[t]?=st[t]?)(h:TipO b st sz T xs c):TipO b st' sz T xs c:=by
 rcases h with(h|⟨t,h1,h2,h3⟩)|h
 .exact .inl (.inl h)
 .exact .inl (.inr ⟨t,h1,(hs t _ _ _ h2).trans h2,h3⟩)
 .exact .inr h
end Go.Av
namespace Go.Proofs.YtapblfabkbdgcaaGreatDoor
open Go Go.Av Go.RowKit Go.Proofs Go.Pl
theorem qgj{st l:List AObj}:st.length<=(st++l).length:=Sx
theorem q8c{b o:Nat}{st:List AObj}{sz:Nat}{T:TypeId}{xs:List AV}{c:AV}{x:AObj}(h:TipO b st sz T xs c)(hn:qg8 st[o]?):TipO b (st.set o x) sz T xs c:=
 zei (λt m sz T ht=>Zi (λe=>by subst e;exact hn _ _ _ ht)) h
structure OutI (st:List AObj) (S:List AObj):Prop where
 low:∀j,j<st.length->S[j]?=st[j]?
 len:st.length<=S.length
theorem OutI.pre{st S l:List AObj}(h:OutI st S):OutI st (S++l):=⟨λj hj=>(Ql (by have:=h.len;omega)).trans (h.low j hj),by have:=h.len;simp;omega⟩
theorem OutI.set{st S:List AObj}{o:Nat}{x:AObj}(h:OutI st S)(ho:st.length<=o):OutI st (S.set o x):=⟨λj hj=>(qno Om).trans (h.low j hj),by have:=h.len;simp;omega⟩
theorem OutI.fr{st S S':List AObj}{t:Nat}(h:OutI st S)(hf:Fr S S' t)(ht:st.length<=t):OutI st S':=⟨λj hj=>(hf.same j Om (by have:=h.len;omega)).trans (h.low j hj),Zu h.len hf.len⟩
theorem OutI.ext{st S:List AObj}(h:OutI st S):∃ext,S=st++ext:=qsi h.low
theorem qdd{E:Env}{rd:Option Nat}{N:Nat}{ops:Array Oper}{K:AS->Prop}{s:AS}{rest:List Oper}{d:Option Tmp}{T:TypeId}{p:String}{af:Array Edge}{t e:TypeId}{len sz:Nat}{agg:Bool}{parts:Array (Nat×Operand)}{zs cs:List AV}{st:List AObj}(hst:s.st=st)(hu:E.P.underlying t=some (.slice e))(ht:tyOf E.P e=some (sz,agg))(hz:qc4 E.P e len=some zs)
  (hf:qa7 (λi=>some (i*sz,sz)) zs (kv N s parts)=some cs) (hsz:Nat.ble (len*sz) 16777216=true)
  (h:AOps E rd N ops rest K (AS.put ⟨s.t,st++[.cells 0 e cs],s.df⟩ d (.os st.length 0 0 len len))):AOps E rd N ops (⟨d,.buildSlice t len parts,T,p,af,none⟩::rest) K s:=
 xq (loc:=[]) (by rw[hst];simp) hu ht hz hf hsz h
theorem qz3(x:qq):qmh (j6 x):=λy hy=>by
 simp only[AV.cells,Qd,Qm,or_false]at hy
 rcases hy with rfl|rfl|rfl
 .exact qt _
 .exact qt _
 .exact qa8 _
theorem qcz(b:List qq):Pure (ji b):=y7 λx hx=>by
 obtain⟨f,_,rfl⟩:=Qn.1 hx
 exact qz3 f
def tryB(k:Int)(l:qd):Option Int:=if qqq k<+:l then(match Lib.atoiAll (l.drop (qqq k).length)with
 |.ok n=>some n
 |_=>none)else none
def begE(l:qd):Option (Int×Int):=match tryB 1 l with
 |some n=>some (1,n)
 |none=>match tryB 2 l with
  |some n=>some (2,n)
  |none=>match tryB 3 l with
   |some n=>some (3,n)
   |none=>none
def qvt(its:List qx):List (List Fld):=(its.filter λx=>decide (x.kind=3)).map qx.fields
@[reducible] def jy (ls : List (List Fld)) : AV := .sl 1 (ls.map q6) none
theorem qgb(ls:List (List Fld)):Pure (jy ls):=y7 λx hx=>by
 obtain⟨f,_,rfl⟩:=Qn.1 hx
 intro y hy
 simp only[AV.cells,Qd,Qm,or_false]at hy
 subst hy
 exact qa8 _
end Go.Proofs.YtapblfabkbdgcaaGreatDoor
namespace Go.Pl
open Go Go.Proofs Go.Proofs.YtapblfabkbdgcaaGreatDoor
def GF(fs:List Fld):Prop:=fs.length<=40∧∀f∈fs,j7 f
structure PI (p:PSt):Prop where
 items:∀x∈p.items,GF x.fields∧(x.kind=3↔x.fields≠[])
 fields:GF p.fields
 full:p.lines≠[]->p.full=false->p.fields.length<40
theorem q07{ls:List qd}(h:(z7 ls).2=0):j7 (z7 ls).1:=by
 unfold z7 at h⊢
 split at h
 .split at h
  .simp at h
  .rename_i h1 h2
   rw[if_pos h1,if_neg h2]
   exact⟨(qh7.1 h1.2.1).2.2,Nat.le_of_not_lt h2⟩
 .simp at h
theorem pi0:PI p0:=⟨by simp[p0],⟨by simp[p0],by simp[p0]⟩,by simp[p0]⟩
theorem PI.flush{p:PSt}(h:PI p):PI (jg p).2:=by
 unfold jg
 split
 .exact h
 .rename_i hl
  split
  .exact h
  .rename_i hu
   split
   .exact h
   .rename_i hf
    have hlt:=h.full hl (by simpa using hf)
    refine⟨h.items,⟨So,λf hm=>?_⟩,Sx⟩
    rcases Qq.1 hm with hm|hm
    .exact h.fields.2 f hm
    .simp at hm;subst hm;exact q07 (by simpa using hu)
theorem PI.close{p:PSt}(h:PI p):PI (w9 p):=by
 unfold w9
 split
 .exact⟨h.items,⟨Sx,Sx⟩,λh1 h2=>by simp⟩
 .refine⟨λx hx=>?_,⟨Sx,Sx⟩,λh1 h2=>by simp⟩
  rcases Qq.1 hx with hx|hx
  .exact h.items x hx
  .simp at hx
   subst hx
   refine⟨h.fields,?_⟩
   simp only
   split
   .rename_i h0;simp[h0]
   .rename_i h0;simp[h0]
theorem PI.end'{p:PSt}(h:PI p):PI (endP p).2:=by
 unfold endP
 split
 .exact h
 .exact h.flush.close
theorem PI.lines'{p:PSt}(h:PI p)(hl:p.lines≠[])(text:qd):PI {p with lines:=p.lines++[text]}:=⟨h.items,h.fields,λ_ hf=>h.full hl hf⟩
theorem PI.begin'{p:PSt}(h:PI p)(no:Int)(text:qd):PI (jz p no text):=by
 refine⟨h.items,h.fields,λ_ hf=>?_⟩
 have:=h.fields.1
 simp only[jz,decide_eq_false_iff_not,not_or]at hf⊢
 omega
theorem PI.ahead{p:PSt}(h:PI p)(no:Int)(text:qd)(ended:Bool)(kind:Int):PI (jd p no text ended kind).2:=by
 unfold jd
 split
 .split
  .exact h
  .rename_i hl
   split
   .exact h.lines' hl text
   .exact(h.lines' hl text).flush
 .split
  .exact h.end'
  .exact h.flush
theorem PI.take{p:PSt}(h:PI p)(no:Int)(text:qd)(ended:Bool):PI (vu p no text ended).2:=by
 have ha:=h.ahead no text ended (qn text)
 unfold vu
 split
 .exact h
 .split
  .exact h
  .split
   .refine⟨λx hx=>?_,ha.fields,ha.full⟩
    rcases Qq.1 hx with hx|hx
    .exact ha.items x hx
    .simp at hx;subst hx;exact⟨⟨Sx,Sx⟩,Sx⟩
   .split
    .have hb:=ha.begin' no text
     exact⟨hb.items,hb.fields,hb.full⟩
    .exact⟨ha.items,ha.fields,ha.full⟩
theorem PI.run:∀(ls:List (qd×Bool))(k:Nat)(p:PSt),PI p->PI (runL k ls p).2
 | [],k,p,h=>h.end'
 |(t,e)::r,k,p,h=>by
  unfold runL
  split
  .exact h
  .exact PI.run r (k+1) _ (h.take k t e)
theorem q0n(text:qd):∀x∈(jq text).2,GF x.fields∧(x.kind=3↔x.fields≠[]):=by
 unfold jq
 split
 .simp
 .exact(PI.run _ 0 _ pi0).items
theorem qwu(p:PSt):(w9 p).items.length<=p.items.length+1:=by
 unfold w9
 split <;>simp
theorem qgz(p:PSt):(jg p).2.items=p.items:=by
 unfold jg
 split
 .rfl
 .split
  .rfl
  .split <;>rfl
theorem qqc(p:PSt):(endP p).2.items.length<=p.items.length+1:=by
 unfold endP
 split
 .simp
 .have:=qwu (jg p).2
  rw[qgz]at this
  exact this
theorem qv1(p:PSt)(no:Int)(text:qd)(ended:Bool)(kind:Int):(jd p no text ended kind).2.items.length<=p.items.length+1:=by
 unfold jd
 split
 .split
  .simp
  .split
   .simp
   .rw[qgz];simp
 .split
  .exact qqc p
  .rw[qgz];simp
theorem q05(p:PSt)(no:Int)(text:qd)(ended:Bool):(vu p no text ended).2.items.length<=p.items.length+2:=by
 have ha:=qv1 p no text ended (qn text)
 unfold vu
 split
 .simp
 .split
  .simp
  .split
   .simp;omega
   .split
    .simp[jz];omega
    .simp;omega
theorem qkh:∀(ls:List (qd×Bool))(k:Nat)(p:PSt),(runL k ls p).2.items.length<=p.items.length+2*ls.length+1
 | [],k,p=>by have:=qqc p;simp[runL];omega
 |(t,e)::r,k,p=>by
  unfold runL
  split
  .simp;omega
  .have h1:=qkh r (k+1) (vu p k t e).2
   have h2:=q05 p k t e
   simp only[Qo]
   omega
end Go.Pl
namespace Go.Proofs.YtapblfabkbdgcaaGreatDoor
open Go Go.Av Go.RowKit Go.Proofs Go.Pl
def q6h(text:qd):List Fld×Bool:=
 if(qa6 [32,32] text).2=false∨(jq (qa6 [32,32] text).1).1≠none then([],false)
 else match qvt (jq (qa6 [32,32] text).1).2 with
  | []=>([],decide ((qa6 [32,32] text).1=[]))
  |f::_=>(f,decide ((jq (qa6 [32,32] text).1).2.length=1))
def qja(text:qd):List LnV->Nat->List qd
 | [],frm=>[text.drop frm]
 |l::r,frm=>if frm<l.at'∧¬ [32,32]<+:l.text then(text.take l.at').drop frm::qja text r l.at' else qja text r frm
def zfy(text:qd):List qd:=qja text (lns text) 0
def decP:List qd->List qq->Option (List qq)
 | [],acc=>some acc
 |p::r,acc=>match begE (upto 10 p)with
  |none=>none
  |some (k,n)=>if(q6h (past 10 p)).2=true∧acc.length≠40 then decP r (acc++[⟨k,n,(q6h (past 10 p)).1⟩])else none
def decF(text:qd):Option (List qq):=if 50000<text.length then none else match decP (zfy text) []with
 |none=>none
 |some b=>if eErr b=.no∧encF b=text then some b else none
theorem zct:(Tryz.prog.fieldsOf 98).toList=[⟨ "Key",9,0,false,"","",0⟩,⟨ "Value",9,1,false,"","",16⟩]:=by kernel_rfl
theorem zcr(a b c d:ByteArray)(w:World):(Op.equalIn 10000 98 (.agg #[.string a,.string b]) (.agg #[.string c,.string d])).run Tryz.prog w=.ok (a.toList==c.toList&&b.toList==d.toList) w:=by
 rw[run_equalIn_agg w 9999 98 _ _ Kr Kr,zct]
 have p1:∀(x y:ByteArray)w,(part 9 #[.string x,.string y] 0).run Tryz.prog w=.ok (.string x) w:=λx y w=>by kernel_rfl
 have p2:∀(x y:ByteArray)w,(part 9 #[.string x,.string y] 1).run Tryz.prog w=.ok (.string y) w:=λx y w=>by kernel_rfl
 have hs:∀(x y:ByteArray)w,(Op.equalIn 9999 9 (.string x) (.string y)).run Tryz.prog w=.ok (x.toList==y.toList) w:=λx y w=>run_equalIn_string w 9998 9 x y Kr
 simp only[Op.eqFields,Sem.run_bind,Sem.run_ite,p1,p2,hs,Result.andThen_ok,Sem.run_pure]
 cases hac:(a.toList==c.toList)<;>cases hbd:(b.toList==d.toList)<;>simp
theorem q2a{G:Gh}{f:Fld}{v:Value}(h:Rel G (fldA f) v):v=.agg #[.string ⟨f.1.toArray⟩,.string ⟨f.2.toArray⟩]:=by
 cases h with
 |ag _ vs hl h=>
  match vs,hl with
  |⟨[x,y]⟩,_=>
   have h1:=h 0 _ x rfl rfl
   have h2:=h 1 _ y rfl rfl
   cases h1
   cases h2
   rfl
theorem zdm(f g:Fld)(w:World):(binOp .neq 98 (.agg #[.string ⟨f.1.toArray⟩,.string ⟨f.2.toArray⟩]) (.agg #[.string ⟨g.1.toArray⟩,.string ⟨g.2.toArray⟩])).run Tryz.prog w=.ok (.bool (decide (f≠g))) w:=by
 rw[run_neq_struct,zcr]
 simp only[Result.andThen_ok,ByteArray.toList_eq]
 obtain⟨a,b⟩:=f
 obtain⟨c,d⟩:=g
 congr 2
 by_cases h1:a=c<;>by_cases h2:b=d<;>simp[h1,h2]
section
variable {N : Nat} {ops : Array Oper} {K : AS → Prop} {s : AS} {rest : List Oper} {d : Option Tmp} {T : TypeId} {p : String} {af : Array Edge}
theorem q5j{x y:Operand}{t':TypeId}{f g:Fld}{b:Bool}(hx:qg N s x=fldA f)(hy:qg N s y=fldA g)(hb:decide (f≠g)=b)
  (h:AQ E N ops rest K (s.put d (Bv b))):AQ E N ops (⟨d,.binOp .neq 98 x y t',T,p,af,none⟩::rest) K s:=by
 subst hb
 refine qcl rfl nofun λB0 w0 G a w _ hI=>⟨.bool (decide (f≠g)),_,λw' _=>?_,.v _,h⟩
 have h1:=q2a (hI.eval_of hx)
 have h2:=q2a (hI.eval_of hy)
 generalize a.eval=ρ at h1 h2
 have hg:(eqGuard .neq 98 x y (.agg #[.string ⟨f.1.toArray⟩,.string ⟨f.2.toArray⟩]) (.agg #[.string ⟨g.1.toArray⟩,.string ⟨g.2.toArray⟩])).run Tryz.prog w'=.ok () w':=run_eqGuard_agg w' _ _ _ _ _ _ Kr
 simp[execOp,h1,h2,hg,zdm]
end
theorem qce{α:Type}[DecidableEq α]{a b:List α}{k:Nat}{d:α}(hl:a.length=b.length)(hk:k<a.length)(h:a.take k=b.take k)(h2:a.getD k d=b.getD k d):a.take (k+1)=b.take (k+1):=by
 rw[Qv hk,Qv Om,h]
 congr 2
 simpa[Zw,hk,show k<b.length by omega]using h2
theorem q6g(a b:List Fld)(st:List AObj)(ha:a.length<9223372036854775808):ql E 58 [q6 a,q6 b] st λr st'=>r=Bv (decide (a=b))∧st'=st:=by
 refine zr (qt _) (qy Tryz.func58 rfl (Qh rfl) ?_)
 have hma:(a.map fldA).length=a.length:=Sx
 have hmb:(b.map fldA).length=b.length:=Sx
 by_cases hl:a.length=b.length
 .skip
  repeat' (first|apply qp|apply q8|apply qj|apply qi|apply qm|apply qk|(apply qz;(iterate 3 exact rfl))|(apply qh;exact rfl;apply yi;exact cAo)|(apply js;(iterate 4 exact rfl))|apply za)
  refine ko (λ(k:Nat)s=>k<=a.length∧a.take k=b.take k∧StE [(0,q6 a),(1,q6 b),(12,Iv a.length),(13,Iv k)] st [] s) (λk=>a.length-k) 0 ⟨Om,Sx,qgo ⟨rfl,rfl,congrArg (λn:Nat=>Iv (n:Int)) hma,rfl,trivial⟩ rfl⟩ ?_
  rintro k _ ⟨hk,ht,t,ext,rfl⟩
  by_cases hc:k<a.length
  .by_cases he:a.getD k ([],[])=b.getD k ([],[])
   .have hn:decide (a.getD k ([],[])≠b.getD k ([],[]))=false:=decide_eq_false λh=>h he
    repeat' (first|apply qp|apply q8|apply qj|apply qi|apply qm|apply qk|(apply qz;(iterate 3 exact rfl))|(apply qh;exact rfl;apply xc;exact cAo)|(apply qh;exact rfl;apply cd_f;exact cRa)|(apply ja;exact rfl;exact rfl;exact zp Om Om)|(apply qjk;exact rfl;kernel_rfl)|apply qgs|(apply qfw;(iterate 3 exact rfl))|apply qei|apply za|(apply qbz (n:=k);(iterate 5 exact rfl);exact qjs (xs:=a) Om)|(apply qbz (n:=k);(iterate 5 exact rfl);exact qjs (xs:=b) Om)|(apply q5j;exact rfl;exact rfl;exact hn))
    exact⟨k+1,⟨Om,qce hl hc ht he,qc3 ⟨rfl,rfl,rfl,rfl,trivial⟩ rfl⟩,Om⟩
   .have hn:decide (a.getD k ([],[])≠b.getD k ([],[]))=true:=decide_eq_true he
    have hab:¬a=b:=λe=>he (by rw[e])
    repeat' (first|apply qp|apply q8|apply qj|apply qi|apply qm|apply qk|(apply qz;(iterate 3 exact rfl))|(apply qh;exact rfl;apply xc;exact cAo)|(apply qh;exact rfl;apply cd_t;exact cRa)|(apply qjk;exact rfl;kernel_rfl)|apply qgs|(apply qfw;(iterate 3 exact rfl))|apply qei|apply za|apply zg|(apply qbz (n:=k);(iterate 5 exact rfl);exact qjs (xs:=a) Om)|(apply qbz (n:=k);(iterate 5 exact rfl);exact qjs (xs:=b) Om)|(apply q5j;exact rfl;exact rfl;exact hn))
    exact qs rfl (zj rfl) ⟨congrArg Bv (decide_eq_false hab).symm,qcm _ _ _ _⟩
  .have hab:a=b:=by
    have e:k=a.length:=Om
    rw[e,List.take_length,Ze Om]at ht
    exact ht
   repeat' (first|apply qp|apply qj|apply qi|apply qk|(apply qz;(iterate 3 exact rfl))|(apply qh;exact rfl;apply yi;exact cAo)|apply kh|apply zg)
   exact qs rfl (zj rfl) ⟨congrArg Bv (decide_eq_true hab).symm,qcm _ _ _ _⟩
 .have hab:¬a=b:=λe=>hl (by rw[e])
  repeat' (first|apply qp|apply qj|apply qi|apply qm|apply qk|(apply qz;(iterate 3 exact rfl))|(apply qh;exact rfl;apply xc;exact cAo)|(apply js;(iterate 4 exact rfl))|apply zg)
  exact qs rfl (zj rfl) ⟨congrArg Bv (decide_eq_false hab).symm,_,rfl⟩
end Go.Proofs.YtapblfabkbdgcaaGreatDoor
namespace Go.Pl
open Go Go.Proofs Go.Proofs.YtapblfabkbdgcaaGreatDoor
theorem x7(s:qd)(r:List qd):zb (s::r)=s++10::zb r:=by simp[zb]
theorem qea:∀(ls:List qd),(∀s∈ls,10∉s)->zy (zb ls)=ls.map λs=>(s,true)
 | [],_=>by simp[zb,vm]
 |s::r,h=>by
  have hs:=h s Sx
  rw[x7,wz Sx,xy _ hs,yw _ hs,qea r λx hx=>h x (by simp[hx])]
  simp
theorem q0j{f:Fld}(h:j7 f):∀s∈zh f,10∉s:=λs hs=>by
 unfold zh at hs
 rcases Qd.1 hs with rfl|hs
 .have h1:=qcs f.2 _ (qom f.2)
  have h2:=h.1.2.2.2.2.2
  unfold jn
  split <;>simp_all
 .obtain⟨x,hx,rfl⟩:=Qn.1 hs
  have h1:=qcs f.2 x (Zj hx)
  have:=qrs h1
  simp[this]
theorem qlq{f:Fld}(h:j7 f):∃hd mr,zh f=hd::mr∧qn hd=4∧∀s∈mr,qn s=3:=by
 refine⟨_,_,rfl,qt2 h.1 (qcs f.2 _ (qom f.2)),λs hs=>?_⟩
 obtain⟨x,hx,rfl⟩:=Qn.1 hs
 exact qt3 x (qcs f.2 x (Zj hx))
theorem q78{p:PSt}{k:Int}{t:qd}(ht:qn t=3)(hl:p.lines≠[]):vu p k t true=(none,{p with lines:=p.lines++[t],block:=p.block++[t]}):=by
 have ha:jd p k t true (qn t)=(none,{p with lines:=p.lines++[t]}):=by
  unfold jd
  rw[if_pos ht,if_neg hl,if_pos rfl]
 unfold vu
 rw[ha,ht]
 simp
theorem qur{p q:PSt}{k:Int}{t:qd}(ht:qn t=4)(hf:jg p=(none,q)):vu p k t true=(none,{jz q k t with block:=q.block++[t]}):=by
 have ha:jd p k t true (qn t)=(none,q):=by
  unfold jd
  rw[if_neg Om,if_neg Om]
  exact hf
 unfold vu
 rw[ha,ht]
 simp
theorem qo5:∀(m:List qd)(k:Nat)(p:PSt)(ls:List (qd×Bool)),(∀s∈m,qn s=3)->p.lines≠[]->
  runL k (m.map (λs=>(s,true))++ls) p=runL (k+m.length) ls {p with lines:=p.lines++m,block:=p.block++m}
 | [],k,p,ls,_,_=>by simp
 |s::m,k,p,ls,h,hl=>by
  have hs:=h s Sx
  rw[Zl,Qp,runL,q78 hs hl]
  simp only
  rw[qo5 m (k+1) _ ls (λx hx=>h x (by simp[hx])) Sx]
  simp only[Qt,Qp,Qx,Qo]
  congr 1
  omega
theorem qqk{g:Fld}(hg:j7 g)(frm:Int)(its:List qx)(blk:List qd)(done:List Fld)(rc:Int):jg ⟨zh g,frm,false,its,blk,done,rc⟩=(none,⟨[],frm,false,its,blk,done++[g],rc⟩):=by
 have hu:=qu8 hg
 unfold jg
 rw[if_neg (by simp[zh]),hu]
 simp
theorem qyy:∀(r:List Fld)(done:List Fld)(g:Fld)(k:Nat)(frm:Int)(blk:List qd),j7 g->(∀f∈r,j7 f)->done.length+1+r.length<=40->blk≠[]->
  (runL k ((r.flatMap zh).map λs=>(s,true)) ⟨zh g,frm,false,[],blk,done,0⟩).1=none∧(runL k ((r.flatMap zh).map λs=>(s,true)) ⟨zh g,frm,false,[],blk,done,0⟩).2.items=[⟨3,zb (blk++r.flatMap zh),done++g::r⟩]
 | [],done,g,k,frm,blk,hg,_,_,hb=>by
  have he:endP ⟨zh g,frm,false,[],blk,done,0⟩=(none,w9 ⟨[],frm,false,[],blk,done++[g],0⟩):=by
   unfold endP
   rw[qqk hg]
  simp only[List.flatMap_nil,Zv,runL,he,Qj]
  refine⟨trivial,?_⟩
  unfold w9
  rw[if_neg hb]
  simp
 |f::r,done,g,k,frm,blk,hg,hr,hl,hb=>by
  have hf:=hr f Sx
  obtain⟨hd,mr,hlf,hk4,hk3⟩:=qlq hf
  simp only[Qo]at hl
  have hrun:runL k (((f::r).flatMap zh).map λs=>(s,true)) ⟨zh g,frm,false,[],blk,done,0⟩=runL (k+1+mr.length) ((r.flatMap zh).map λs=>(s,true)) ⟨zh f,k,false,[],blk++zh f,done++[g],0⟩:=by
   rw[Qu,Zs,hlf,Zl,Qp,runL,qur hk4 (qqk hg frm [] blk done 0)]
   simp only
   rw[qo5 mr (k+1) _ _ hk3 (by simp[jz])]
   have hfu:decide ((done++[g]).length=40∨((done++[g]).length=0∧(0:Int)=400))=false:=by
    simp
    omega
   simp only[jz,hfu,Qt,Qp,Qx]
  rw[hrun]
  have ih:=qyy r (done++[g]) f (k+1+mr.length) k (blk++zh f) hf (λx hx=>hr x (by simp[hx])) So (by simp[hb])
  rw[ih.1,ih.2]
  simp[Qu]
theorem qjt(fs:List Fld):zu fs=zb (fs.flatMap zh):=by
 induction fs with
 |nil=>rfl
 |cons f r ih=>
  rw[Qu,xo,<-ih]
  simp[zu]
theorem qlf{fs:List Fld}(h:∀f∈fs,j7 f):∀s∈fs.flatMap zh,10∉s:=λs hs=>by
 obtain⟨f,hf,hs⟩:=Zq.1 hs
 exact q0j (h f hf) s hs
theorem q38{fs:List Fld}(hg:GF fs)(hne:fs≠[]):jq (zu fs)=(none,[⟨3,zu fs,fs⟩]):=by
 have hl:=qea _ (qlf hg.2)
 rw[<-qjt]at hl
 cases fs with
 |nil=>exact absurd rfl hne
 |cons f r=>
  have hf:=hg.2 f Sx
  obtain⟨hd,mr,hlf,hk4,hk3⟩:=qlq hf
  have hlen:=hg.1
  simp only[Qo]at hlen
  have hrun:runL 0 (((f::r).flatMap zh).map λs=>(s,true)) p0=runL (0+1+mr.length) ((r.flatMap zh).map λs=>(s,true)) ⟨zh f,(0:Nat),false,[],zh f,[],0⟩:=by
   have hfl:jg p0=(none,p0):=rfl
   rw[Qu,Zs,hlf,Zl,Qp,runL,qur hk4 hfl]
   simp only
   rw[qo5 mr (0+1) _ _ hk3 (by simp[jz])]
   simp[jz,p0]
  have ih:=qyy r [] f (0+1+mr.length) (0:Nat) (zh f) hf (λx hx=>hg.2 x (by simp[hx])) So (by simp[zh])
  unfold jq
  rw[hl,hrun,ih.1]
  simp only
  rw[ih.2]
  rw[qjt,Qu,Qx]
theorem q0b{ls:List qd}(h:∀s∈ls,10∉s):qgi [32,32] (zb ls)=zb (ls.map λs=>[32,32]++s):=by
 unfold qgi indF
 rw[qea ls h]
 simp only[zb,List.flatMap_map,qgk,if_pos]
theorem q9p{ls:List qd}(h:∀s∈ls,10∉s):∀s∈ls.map (λs=>[32,32]++s),10∉s:=λs hs=>by
 obtain⟨x,hx,rfl⟩:=Qn.1 hs
 have:=h x hx
 simp[this]
def qmj(x:qq):List qd:=(x.fields.flatMap zh).map λs=>[32,32]++s
theorem qnq(v:Int):∀c∈Lib.itoa v,c≠10∧c≠32:=λc hc=>by
 by_cases hv:v<0
 .rw[qjw hv]at hc
  rcases Qd.1 hc with rfl|hc
  .decide
  .have:=wr _ _ (Qi _) c hc
   constructor <;>rintro rfl <;>simp at this
 .rw[qjx Om]at hc
  have:=wr _ _ (Qi _) c hc
  constructor <;>rintro rfl <;>simp at this
theorem q6q(x:qq):10∉qe1 x:=by
 unfold qe1
 split
 .rename_i hk
  have h1:=qnq x.id
  intro hc
  rcases Qq.1 hc with hc|hc
  .have:x.kind=1∨x.kind=2∨x.kind=3:=by omega
   rcases this with h|h|h<;>rw[h]at hc<;>revert hc<;>decide
  .exact(h1 10 hc).1 rfl
 .simp
theorem qz5{x:qq}(hg:∀f∈x.fields,j7 f):qc0 x=zb (qe1 x::qmj x):=by
 unfold qc0 qmj
 rw[x7,qjt,q0b (qlf hg)]
 simp
theorem q5y{x:qq}(hg:∀f∈x.fields,j7 f):∀s∈qmj x,10∉s:=q9p (qlf hg)
theorem qf6(text:qd):∀(m:List qd)(k a f:Nat)(R:qd),(∀s∈m,10∉s∧[32,32]<+:s)->∃k',qja text (wl k a (zb m++R)) f=qja text (wl k' (a+(zb m).length) R) f
 | [],k,a,f,R,_=>⟨k,by simp[zb]⟩
 |s::m,k,a,f,R,h=>by
  obtain⟨h10,hp⟩:=h s Sx
  have e:zb (s::m)++R=s++10::(zb m++R):=by rw[x7];simp
  obtain⟨k',ih⟩:=qf6 text m (k+1) (a+s.length+1) f R λx hx=>h x (by simp[hx])
  refine⟨k',?_⟩
  rw[e,qb7 Sx,xy _ h10,yw _ h10,qja,if_neg (λh=>h.2 hp),ih,x7]
  congr 2
  simp
  omega
theorem q5x{x:qq}(hg:∀f∈x.fields,j7 f):∀s∈qmj x,10∉s∧[32,32]<+:s:=λs hs=>⟨q5y hg s hs,by
 obtain⟨y,_,rfl⟩:=Qn.1 hs
 exact Zn _ _⟩
structure EncG (x:qq):Prop where
 kind:x.kind=1∨x.kind=2∨x.kind=3
 len:x.fields.length<=40
 good:∀f∈x.fields,j7 f
 id1: -9223372036854775808<=x.id
 id2:x.id<=9223372036854775807
theorem zco{x:qq}(h:gErr x=.no)(hB:EdB x):EncG x:=by
 obtain⟨h1,h2⟩:=qgh h
 refine⟨?_,h1,h2,hB.id1,hB.id2⟩
 unfold gErr at h
 split at h
 .exact .inr (.inl (by assumption))
 .split at h
  .rename_i hk;omega
  .simp at h
def SpL(L:List qd):Prop:=L≠[]∧∀s∈L,10∉s∧[32]<+:s
def encL(b:List qq):List qd:=b.flatMap λx=>qe1 x::qmj x
theorem q6c{b:List qq}(hg:∀x∈b,EncG x):encF b=zb (encL b):=by
 induction b with
 |nil=>rfl
 |cons x r ih=>
  have e:encL (x::r)=(qe1 x::qmj x)++encL r:=by simp[encL]
  have e2:encF (x::r)=qc0 x++encF r:=by simp[encF]
  rw[e,xo,e2,qz5 (hg x Sx).good,ih λy hy=>hg y (by simp[hy])]
theorem zdb{x:qq}(hk:x.kind=1∨x.kind=2∨x.kind=3):[32]<+:qe1 x:=by
 unfold qe1
 rw[if_pos Om]
 rcases hk with h|h|h<;>rw[h]<;>exact⟨_,rfl⟩
theorem zcp{b:List qq}(hne:b≠[])(hg:∀x∈b,EncG x):SpL (encL b):=by
 refine⟨?_,λs hs=>?_⟩
 .cases b with
  |nil=>exact absurd rfl hne
  |cons x r=>simp[encL]
 .obtain⟨x,hx,hs⟩:=Zq.1 hs
  have hG:=hg x hx
  rcases Qd.1 hs with rfl|hs
  .exact⟨q6q x,zdb hG.kind⟩
  .obtain⟨h1,t,ht⟩:=q5x hG.good s hs
   exact⟨h1,[32]++t,by rw[<-ht];rfl⟩
theorem zd8{L:List qd}(h:SpL L):sp true (zb L)=true:=by
 rw[<-qjz _ (zb L) (Qi _),qea L λs hs=>(h.2 s hs).1]
 intro x hx
 obtain⟨s,hs,rfl⟩:=Qn.1 hx
 exact(h.2 s hs).2
theorem q8a{L:List qd}(h:SpL L):(zb L)[0]?=some 32:=by
 obtain⟨hne,hs⟩:=h
 cases L with
 |nil=>exact absurd rfl hne
 |cons s r=>
  obtain⟨t,ht⟩:=(hs s Sx).2
  rw[x7,<-ht]
  rfl
theorem qus:∀(L:List qd),L≠[]->(zb L).getLast?=some 10
 | [],h=>absurd rfl h
 | [s],_=>by rw[x7];simp[zb]
 |s::t::r,_=>by
  have ih:=qus (t::r) Sx
  have hne:zb (t::r)≠[]:=λe=>by rw[e]at ih;simp at ih
  rw[x7,Zk,Za,ih]
  simp
theorem q6d{b:List qq}(he:eErr b=.no)(hB:∀x∈b,EdB x)(hl:(encF b).length<=50000):qez (encF b):=by
 obtain⟨h1,h40,hg⟩:=qge he
 have hG:∀y∈b,EncG y:=λy hy=>zco (hg y hy) (hB y hy)
 have hne:b≠[]:=λe=>by subst e;simp at h1
 have hS:=zcp hne hG
 have ht:=q6c hG
 have hh:=q8a hS
 have hlast:=qus _ hS.1
 rw[<-ht]at hh hlast
 have hsp:=zd8 hS
 rw[<-ht]at hsp
 refine⟨?_,hl,hlast,by rw[qhw];exact hsp⟩
 rcases hc:encF b with _|⟨c,_|⟨d,r⟩⟩
 .rw[hc]at hh;simp at hh
 .rw[hc]at hh hlast
  simp at hh hlast
  rw[hh]at hlast
  simp at hlast
 .simp
end Go.Pl
namespace Go.Proofs.YtapblfabkbdgcaaGreatDoor
open Go Go.Av Go.RowKit Go.Proofs Go.Pl
def q48(b:List qq):Prop:=b.length<=51∧∀x∈b,zbc x.fields
def ArgE(b:List qq):Prop:=b.length<9223372036854775808∧∀x∈b,x.fields.length<9223372036854775808∧-9223372036854775808<=x.id∧x.id<=9223372036854775807
theorem zda{b:List qq}(hA:ArgE b)(h:q48 b):∀x∈b,EdB x:=λx hx=>⟨λf hf=>((h.2 x hx).val f hf).1,(hA.2 x hx).1,(hA.2 x hx).2.1,(hA.2 x hx).2.2⟩
theorem qi6{l:qd}{i:Nat}{c:UInt8}(h:l[i]?=some c):l.getD i 0=c:=by simp[Zw,h]
def ArgX(x:qq):Prop:=x.fields.length<9223372036854775808∧-9223372036854775808<=x.id∧x.id<=9223372036854775807
theorem q94:Opn Tryz.prog 55 λa=>∃x:qq,a=j6 x∧ArgX x:=by
 intro H enc W fuel cs x h
 obtain⟨a,⟨vs,rfl,hl,hv⟩,hr⟩:=qj4 (As:=[(some (.int .i64),IsI .i64),(some (.int .i64),IsI .i64),(some (.slice 98),λa=>∃xs:List FldV,a=q6 xs∧xs.length<=maxLen)]) Kr Kr Kr Kr
  (Qy.2 ⟨⟨λ_ h=>qvq h,qvp _⟩,Qy.2 ⟨⟨λ_ h=>qvq h,qvp _⟩,Qy.2 ⟨⟨λ_ h=>q95 h,q93⟩,nofun⟩⟩⟩) H enc W fuel cs x h
 match vs,hl with
 | [v0,v1,v2],_=>
  obtain⟨n0,rfl,w0⟩:=hv 0 _ _ rfl rfl
  obtain⟨n1,rfl,w1⟩:=hv 1 _ _ rfl rfl
  obtain⟨xs,rfl,m⟩:=hv 2 _ _ rfl rfl
  exact⟨_,⟨⟨n0,n1,xs⟩,rfl,q6u m,lit_i64 w1⟩,hr⟩
theorem qv4{α:Type}{g:α->AV}{P:α->Prop}:∀{xs:List AV},(∀x∈xs,∃a,x=g a∧P a)->∃ys:List α,xs=ys.map g∧∀a∈ys,P a
 | [],_=>⟨[],rfl,Sx⟩
 |x::r,h=>by
  obtain⟨ys,hys,has⟩:=qv4 (xs:=r) λy hy=>h y (List.mem_cons_of_mem _ hy)
  obtain⟨a,rfl,ha⟩:=h x Sx
  subst hys
  refine⟨a::ys,rfl,λb hb=>?_⟩
  rcases Qd.1 hb with rfl|hb
  .exact ha
  .exact has b hb
theorem q68{t:TypeId}(hu:Tryz.prog.underlying t=some (.slice 55)):Opn Tryz.prog t λa=>∃xs:List qq,a=ji xs∧ArgE xs:=by
 intro H enc W fuel cs x h
 obtain⟨a,⟨xs,rfl,hl,hx⟩,hr⟩:=q69 (sz:=3) hu Kr (by decide) q94 H enc W fuel cs x h
 obtain⟨rs,rfl,hrs⟩:=qv4 hx
 exact⟨_,⟨rs,rfl,q6u (by simpa using hl),hrs⟩,hr⟩
theorem q66:One λa=>∃xs:List qq,a=ji xs∧ArgE xs:=by rintro _ ⟨xs,rfl,_⟩;rfl
end Go.Proofs.YtapblfabkbdgcaaGreatDoor
namespace Go.Proofs.YtapblfabkbdgcaaGreatDoor
open Go Go.Av Go.RowKit Go.WideShapes Go.ChangeShapes Go.Deep Go.Proofs Go.Pl
theorem zet{H:Type}{enc:TypeId×Value->H}{P:Program}{W:World}{r:Reach}{b0:Nat}{t:TypeId}{fs:Array Field}{S:AV->Prop}{v:Value}{d:DataW H}{ps:List MemPlace}(hu:P.underlying t=some (.struct fs))(hO:Opn P t S)(hS:∀a,S a->∃us,a=.ag us)(hval:Value.okWide P W r b0 t v)(hd:DataW.Trod enc P W 0 (λ_=>true) true t v d ps):
  ∃a,S a∧Rel (gW W) a v:=by
 obtain⟨cs,rfl,_⟩:=okWide_struct hu hval
 obtain⟨fuel,hf⟩:=hd
 obtain⟨y,hy,hr⟩:=hO H enc W fuel _ _ hf
 obtain⟨us,rfl⟩:=hS y hy
 exact⟨_,hy,.ag us cs (by simpa[AV.cells,Value.cells]using hr.1) λi x z hx hz=>hr.2 i x z hx (by simpa[Value.cells]using hz)⟩
end Go.Proofs.YtapblfabkbdgcaaGreatDoor
namespace Go.Pl
open Go Go.Proofs Go.Proofs.YtapblfabkbdgcaaGreatDoor
def OutG(out:List qq)(m:Nat):Prop:=∀x∈out,(∀f∈x.fields,j7 f)∧x.fields.length<=m∧-9223372036854775808<=x.id∧x.id<=9223372036854775807
theorem OutG.mono{out:List qq}{m m':Nat}(h:OutG out m)(hm:m<=m'):OutG out m':=λx hx=>⟨(h x hx).1,by have:=(h x hx).2.1;omega,(h x hx).2.2⟩
end Go.Pl
namespace Go.Pl
open Go Go.Proofs
def j8:List (qd×Bool)->List qd
 | []=>[]
 |(t,_)::r=>if qn t=3 then t::j8 r else []
def jj(prev:Bool)(t:qd)(e:Bool)(r:List (qd×Bool))(fields:Nat)(records:Int):Int:=
 if qn t=5∨(qn t=3∧prev=false)∨e=false then 2
 else if qn t≠4 then 0
 else if(z7 (t::j8 r)).2≠0 then(z7 (t::j8 r)).2
 else if 40<=fields∨(fields=0∧400<=records)then 11 else 0
theorem qz2{α:Type}{l:List α}{x:α}(h:l.getLast?=some x):l.dropLast++[x]=l:=by
 have hne:l≠[]:=λe=>by subst e;simp at h
 rw[List.getLast?_eq_some_getLast hne]at h
 obtain rfl:=Zx h
 exact List.dropLast_concat_getLast hne
def outR(now:qx)(out:List qx):List qx:=if now.raw=[]then out else out++[now]
def refL:Nat->List (qd×Bool)->Bool->qx->Int->List qx->Option (Int×Int)×List qx
 |_,[],_,now,_,out=>(none,outR now out)
 |i,(t,e)::r,prev,now,rec,out=>
  if jj prev t e r now.fields.length rec≠0 then(some ((i:Int),jj prev t e r now.fields.length rec),[])
  else if qn t=1 then refL (i+1) r false ⟨2,[],[]⟩ rec (outR now out++[⟨1,t++[10],[]⟩])
  else if qn t=4 then refL (i+1) r true ⟨3,now.raw++t++[10],now.fields++[(z7 (t::j8 r)).1]⟩ (if now.kind=2 then rec+1 else rec) out
  else refL (i+1) r (decide (qn t=3)) ⟨now.kind,now.raw++t++[10],now.fields⟩ rec out
def qvg:List (qd×Bool)->Prop
 | []=>True
 |(_,e)::r=>(e=false->r=[])∧qvg r
theorem qns:∀(n:Nat)(l:qd),l.length<=n->qvg (zy l)
 |0,l,h=>by
  have:l=[]:=Qr.1 Om
  subst this
  rw[vm]
  trivial
 |n+1,l,h=>by
  by_cases hl:l=[]
  .subst hl
   rw[vm]
   trivial
  .rw[wz hl]
   refine⟨λhe=>?_,qns n _ (by have:=wx (c:=10) hl;omega)⟩
   have h10:10∉l:=by simpa using he
   have:past 10 l=[]:=by
    unfold past
    rw[qcf h10]
    exact Qf Om
   rw[this,vm]
def qc1(ls:List qd)(full:Bool):Int:=if(z7 ls).2≠0 then(z7 ls).2 else if full=true then 11 else 0
theorem qf0{p:PSt}(h:p.lines≠[])(hc:qc1 p.lines p.full≠0):(jg p).1=some (p.frm,qc1 p.lines p.full):=by
 unfold qc1 at *
 unfold jg
 rw[if_neg h]
 by_cases h1:(z7 p.lines).2≠0
 .rw[if_pos h1,if_pos h1]
 .rw[if_neg h1]at hc⊢
  rw[if_neg h1]
  by_cases h2:p.full=true
  .rw[if_pos h2,if_pos h2]
  .rw[if_neg h2]at hc
   exact absurd rfl hc
theorem qtu{p:PSt}(h:p.lines=[]∨qc1 p.lines p.full=0):jg p=(none,{p with lines:=[],fields:=p.fields++(if p.lines=[]then []else [(z7 p.lines).1])}):=by
 unfold jg
 by_cases h0:p.lines=[]
 .rw[if_pos h0,if_pos h0]
  obtain⟨a,b,c,d,e,f,g⟩:=p
  simp only at h0
  subst h0
  simp
 .rw[if_neg h0,if_neg h0]
  have h:=h.resolve_left h0
  unfold qc1 at h
  by_cases h1:(z7 p.lines).2≠0
  .rw[if_pos h1]at h
   exact absurd h h1
  .rw[if_neg h1]at h⊢
   by_cases h2:p.full=true
   .rw[if_pos h2]at h
    simp at h
   .rw[if_neg h2]
theorem qpa{p:PSt}{no:Int}{t:qd}{e:Bool}{x:Int×Int}(h:(jd p no t e (qn t)).1=some x):(vu p no t e).1=some x:=by
 unfold vu
 rw[h]
theorem qpb{p q:PSt}{no:Int}{t:qd}{e:Bool}(h:jd p no t e (qn t)=(none,q))(hc:qn t=5∨e=false):(vu p no t e).1=some (no,2):=by
 unfold vu
 rw[h]
 simp only
 rw[if_pos hc]
theorem qjf{p q:PSt}{no:Int}{t:qd}(h:jd p no t true (qn t)=(none,q))(hc:qn t≠5):vu p no t true=
  if qn t=1 then(none,{q with items:=q.items++[⟨1,t++[10],[]⟩]})else if qn t=4 then(none,{jz q no t with block:=q.block++[t]})else(none,{q with block:=q.block++[t]}):=by
 unfold vu
 rw[h]
 simp only
 rw[if_neg (by simp[hc])]
theorem qdu{k:Nat}{t:qd}{e:Bool}{r:List (qd×Bool)}{p:PSt}{x:Int×Int}(h:(vu p k t e).1=some x):(runL k ((t,e)::r) p).1=some x:=by
 rw[runL,h]
theorem qfg{k:Nat}{t:qd}{e:Bool}{r:List (qd×Bool)}{p q:PSt}(h:vu p k t e=(none,q)):runL k ((t,e)::r) p=runL (k+1) r q:=by
 rw[runL,h]
theorem qpi{p:PSt}{no:Int}{t:qd}(hk:qn t=3)(hl:p.lines≠[]):jd p no t true (qn t)=(none,{p with lines:=p.lines++[t]}):=by
 unfold jd
 rw[if_pos hk,if_neg hl,if_pos rfl]
theorem qph{p:PSt}{no:Int}{t:qd}(hk:qn t=3)(hl:p.lines≠[]):jd p no t false (qn t)=jg {p with lines:=p.lines++[t]}:=by
 unfold jd
 rw[if_pos hk,if_neg hl,if_neg Sx]
theorem qey{p:PSt}{no:Int}{t:qd}{e:Bool}(hk:qn t≠3)(h1:qn t≠1):jd p no t e (qn t)=jg p:=by
 unfold jd
 rw[if_neg hk,if_neg h1]
theorem qii{p:PSt}{no:Int}{t:qd}{e:Bool}(h1:qn t=1):jd p no t e (qn t)=endP p:=by
 unfold jd
 rw[if_neg Om,if_pos h1]
theorem qj2{t:qd}{e:Bool}{r:List (qd×Bool)}(h:qn t≠3):j8 ((t,e)::r)=[]:=by
 rw[j8,if_neg h]
theorem qe2{t:qd}{e:Bool}{r:List (qd×Bool)}(h:qn t=3):j8 ((t,e)::r)=t::j8 r:=by
 rw[j8,if_pos h]
theorem qw2{p:PSt}{x:Int×Int}(h:(jg p).1=some x):(endP p).1=some x:=by
 unfold endP
 rw[h]
theorem qsg{p q:PSt}(h:jg p=(none,q)):endP p=(none,w9 q):=by
 unfold endP
 rw[h]
theorem qyf:∀(r:List (qd×Bool))(p:PSt)(k:Nat)(c:Int),qvg r->p.lines≠[]->qc1 (p.lines++j8 r) p.full=c->c≠0->(runL k r p).1=some (p.frm,c)
 | [],p,k,c,_,hl,hc,h0=>by
  rw[j8,Qj]at hc
  rw[runL]
  subst hc
  exact qw2 (qf0 hl h0)
 |(t,e)::r,p,k,c,hE,hl,hc,h0=>by
  by_cases h3:qn t=3
  .rw[qe2 h3]at hc
   cases e with
   |true=>
    have ht:=qjf (qpi (no:=k) h3 hl) Om
    rw[if_neg Om,if_neg Om]at ht
    rw[qfg ht]
    exact qyf r _ (k+1) c hE.2 Sx (by simpa using hc) h0
   |false=>
    have hr:=hE.1 rfl
    subst hr
    refine qdu (qpa ?_)
    rw[qph h3 hl]
    have hc':qc1 (p.lines++[t]) p.full=c:=hc
    have:=qf0 (p:={p with lines:=p.lines++[t]}) Sx (by simp only;rw[hc'];exact h0)
    simp only at this
    rw[this,hc']
  .rw[qj2 h3,Qj]at hc
   subst hc
   refine qdu (qpa ?_)
   by_cases h1:qn t=1
   .rw[qii h1]
    exact qw2 (qf0 hl h0)
   .rw[qey h3 h1]
    exact qf0 hl h0
structure Sim (r:List (qd×Bool)) (p:PSt) (prev:Bool) (now:qx) (rec:Int) (out:List qx):Prop where
 hprev:prev=decide (p.lines≠[])
 hok:p.lines=[]∨qc1 (p.lines++j8 r) p.full=0
 hraw:now.raw=zb p.block
 hfields:now.fields=p.fields++(if p.lines=[]then []else [(z7 (p.lines++j8 r)).1])
 hkind:now.kind=if now.fields=[]then 2 else 3
 hrec:rec=p.records+if now.fields=[]then 0 else 1
 hout:out=p.items
 hempty:p.block=[]->p.lines=[]∧p.fields=[]
 b1:now.fields.length<=40
 b2:rec<=400
theorem q79(b:List qd):zb b=[]↔b=[]:=by
 cases b with
 |nil=>simp[zb]
 |cons x r=>simp[zb]
theorem qkp(b:List qd)(t:qd):zb (b++[t])=zb b++t++[10]:=by simp[zb]
theorem Sim.flush{r:List (qd×Bool)}{p:PSt}{prev:Bool}{now:qx}{rec:Int}{out:List qx}(h:Sim r p prev now rec out)(hm:j8 r=[]):jg p=(none,{p with lines:=[],fields:=now.fields}):=by
 have h1:=h.hok
 have h2:=h.hfields
 rw[hm,Qj]at h1 h2
 rw[qtu h1,h2]
theorem Sim.close{r:List (qd×Bool)}{p:PSt}{prev:Bool}{now:qx}{rec:Int}{out:List qx}(h:Sim r p prev now rec out)(hm:j8 r=[]):w9 {p with lines:=[],fields:=now.fields}={p with lines:=[],fields:=[],block:=[],items:=outR now out,records:=rec}:=by
 have hk:=h.hkind
 have hr:=h.hrec
 have hw:=h.hraw
 have ho:=h.hout
 unfold w9 outR
 simp only
 by_cases hb:p.block=[]
 .obtain⟨e1,e2⟩:=h.hempty hb
  have hf:now.fields=[]:=by rw[h.hfields,e1,e2];simp
  rw[if_pos hb,if_pos (by rw[hw,hb];rfl),ho,hr,hf]
  simp
 .have hne:¬now.raw=[]:=by rw[hw,q79];exact hb
  rw[if_neg hb,if_neg hne,ho,hr,<-hw]
  obtain⟨nk,nr,nf⟩:=now
  simp only at hk hne⊢
  by_cases hf:nf=[]
  .rw[if_pos hf]at hk
   simp[hf,hk,hne]
  .rw[if_neg hf]at hk
   simp[hf,hk,hne]
theorem qjc:∀(r:List (qd×Bool))(k:Nat)(p:PSt)(prev:Bool)(now:qx)(rec:Int)(out:List qx),qvg r->Sim r p prev now rec out->
  refL k r prev now rec out=match(runL k r p).1 with
   |some e=>(some e,[])
   |none=>(none,(runL k r p).2.items)
 | [],k,p,prev,now,rec,out,_,h=>by
  rw[runL,qsg (h.flush rfl),h.close rfl,refL]
 |(t,e)::r,k,p,prev,now,rec,out,hE,h=>by
  rw[refL]
  by_cases h3:qn t=3
  .by_cases hl:p.lines=[]
   .have hp:prev=false:=by rw[h.hprev];simp[hl]
    have hw:jj prev t e r now.fields.length rec=2:=by
     unfold jj
     rw[if_pos (.inr (.inl ⟨h3,hp⟩))]
    rw[hw,if_pos (by decide),qdu (x:=((k:Int),2)) (qpa (by unfold jd;rw[if_pos h3,if_pos hl]))]
   .cases e with
    |true=>
     have hp:prev=true:=by rw[h.hprev];simp[hl]
     have hw:jj prev t true r now.fields.length rec=0:=by
      unfold jj
      rw[if_neg (by simp[hp];omega),if_pos Om]
     have ht:=qjf (qpi (no:=k) h3 hl) Om
     rw[if_neg Om,if_neg Om]at ht
     rw[hw,if_neg Sx,if_neg Om,if_neg Om,qfg ht]
     have hm:=qe2 (e:=true) (r:=r) h3
     have hok:=h.hok.resolve_left hl
     have hfs:=h.hfields
     rw[if_neg hl,hm]at hfs
     rw[hm]at hok
     refine qjc r (k+1) _ _ _ _ _ hE.2 ⟨by simp[h3],.inr (by simpa using hok),by rw[qkp,<-h.hraw],by simp[hfs],h.hkind,h.hrec,h.hout,Sx,h.b1,h.b2⟩
    |false=>
     have hr:=hE.1 rfl
     subst hr
     have hw:jj prev t false [] now.fields.length rec=2:=by
      unfold jj
      rw[if_pos (.inr (.inr rfl))]
     have hok:=h.hok.resolve_left hl
     rw[qe2 h3]at hok
     have hf:=qtu (p:={p with lines:=p.lines++[t]}) (.inr hok)
     rw[hw,if_pos (by decide),qdu (x:=((k:Int),2)) (qpb ((qph h3 hl).trans hf) (.inr rfl))]
  .have hm:=qj2 (e:=e) (r:=r) h3
   have hf:=h.flush hm
   have hc:=h.close hm
   by_cases hbad:qn t=5∨e=false
   .have hw:jj prev t e r now.fields.length rec=2:=by
     unfold jj
     rw[if_pos (by rcases hbad with h|h;exact .inl h;exact .inr (.inr h))]
    rw[hw,if_pos (by decide)]
    by_cases h1:qn t=1
    .rw[qdu (x:=((k:Int),2)) (qpb ((qii h1).trans (qsg hf)) hbad)]
    .rw[qdu (x:=((k:Int),2)) (qpb ((qey h3 h1).trans hf) hbad)]
   .have he:e=true:=by
     cases e with
     |true=>rfl
     |false=>exact absurd (.inr rfl) hbad
    have h5:qn t≠5:=λh=>hbad (.inl h)
    subst he
    by_cases h1:qn t=1
    .have hw:jj prev t true r now.fields.length rec=0:=by
      unfold jj
      rw[if_neg (by simp[h3,h5]),if_pos Om]
     have ht:=qjf ((qii (no:=k) h1).trans (qsg hf)) h5
     rw[if_pos h1,hc]at ht
     rw[hw,if_neg Sx,if_pos h1,qfg ht]
     exact qjc r (k+1) _ _ _ _ _ hE.2 ⟨Sx,.inl rfl,rfl,Sx,Sx,Sx,rfl,Sx,Sx,h.b2⟩
    .by_cases h4:qn t=4
     .have ht:=qjf ((qey (no:=k) h3 h1).trans hf) h5
      rw[if_neg h1,if_pos h4]at ht
      rw[qfg ht]
      have hb1:=h.b1
      have hb2:=h.b2
      have hrec:=h.hrec
      have hfull:(40<=now.fields.length∨(now.fields.length=0∧400<=rec))↔(now.fields.length=40∨(now.fields.length=0∧p.records=400)):=by
       by_cases hz:now.fields=[]
       .rw[if_pos hz]at hrec
        simp only[hz,Zd]
        constructor
        .rintro(h'|h')
         .exact absurd h' (by decide)
         .exact .inr ⟨trivial,Om⟩
        .rintro(h'|h')
         .exact absurd h' (by decide)
         .exact .inr ⟨trivial,Om⟩
       .have:now.fields.length≠0:=λh=>hz (Qr.1 h)
        constructor
        .rintro(h'|h')
         .exact .inl Om
         .exact absurd h'.1 this
        .rintro(h'|h')
         .exact .inl Om
         .exact absurd h'.1 this
      have hw:jj prev t true r now.fields.length rec=qc1 (t::j8 r) (decide (now.fields.length=40∨(now.fields.length=0∧p.records=400))):=by
       unfold jj qc1
       rw[if_neg (by simp[h3,h5]),if_neg Om]
       by_cases hu:(z7 (t::j8 r)).2≠0
       .rw[if_pos hu,if_pos hu]
       .rw[if_neg hu,if_neg hu]
        by_cases hx:40<=now.fields.length∨(now.fields.length=0∧400<=rec)
        .rw[if_pos hx,if_pos (decide_eq_true (hfull.1 hx))]
        .rw[if_neg hx,if_neg (by simpa usingλh=>hx (hfull.2 h))]
      by_cases hw0:jj prev t true r now.fields.length rec=0
      .rw[if_neg (by simp[hw0]),if_neg h1,if_pos h4]
       have hx:¬(40<=now.fields.length∨(now.fields.length=0∧400<=rec)):=λhx=>by
        unfold jj at hw0
        rw[if_neg (by simp[h3,h5]),if_neg Om]at hw0
        by_cases hu:(z7 (t::j8 r)).2≠0
        .rw[if_pos hu]at hw0;exact hu hw0
        .rw[if_neg hu,if_pos hx]at hw0;simp at hw0
       rw[hw]at hw0
       refine qjc r (k+1) _ _ _ _ _ hE.2 ⟨by simp[jz],.inr hw0,by simp only[jz];rw[qkp,<-h.hraw],by simp[jz],Sx,?_,h.hout,by simp[jz],So,?_⟩
       .have hkd:=h.hkind
        simp only[jz]
        by_cases hz:now.fields=[]
        .rw[if_pos hz]at hrec hkd
         rw[hkd]
         simp
         omega
        .rw[if_neg hz]at hrec hkd
         rw[hkd]
         simp
         omega
       .rw[h.hkind]
        by_cases hz:now.fields=[]
        .have:now.fields.length=0:=by rw[hz];rfl
         rw[if_pos hz,if_pos rfl]
         omega
        .rw[if_neg hz,if_neg (by decide)]
         exact hb2
      .rw[if_pos hw0]
       have:=qyf r {jz {p with lines:=[],fields:=now.fields} k t with block:=p.block++[t]} (k+1) (jj prev t true r now.fields.length rec) hE.2 (by simp[jz]) hw.symm hw0
       simp only[jz]at this⊢
       rw[this]
     .have hw:jj prev t true r now.fields.length rec=0:=by
       unfold jj
       rw[if_neg (by simp[h3,h5]),if_pos h4]
      have ht:=qjf ((qey (no:=k) h3 h1).trans hf) h5
      rw[if_neg h1,if_neg h4]at ht
      rw[hw,if_neg Sx,if_neg h1,if_neg h4,qfg ht]
      exact qjc r (k+1) _ _ _ _ _ hE.2 ⟨by simp[h3],.inl rfl,by rw[qkp,<-h.hraw],Sx,h.hkind,h.hrec,h.hout,Sx,h.b1,h.b2⟩
theorem qbn(text:qd):refL 0 (zy text) false ⟨2,[],[]⟩ 0 []=jq text:=by
 unfold jq
 exact qjc (zy text) 0 p0 false ⟨2,[],[]⟩ 0 [] (qns _ text (Qi _)) ⟨by simp[p0],.inl rfl,rfl,by simp[p0],Sx,by simp[p0],rfl,by simp[p0],Sx,Om⟩
end Go.Pl
namespace Go.Pl
open Go Go.Proofs Go.Proofs.YtapblfabkbdgcaaGreatDoor
def genL:qd:=[35,37,103,101,110,32]
def qbu(n:Int):qd:=genL++Lib.itoa n++[10,10]
def qd7(n:Int):Prop:=1<=n∧n<=2147483648
instance (n:Int):Decidable (qd7 n):=inferInstanceAs (Decidable (_∧_))
def qau(text:qd):Int×qd:=
 if genL<+:text then
  match numZ (upto 10 (text.drop 6))with
  |some n=>if qd7 n∧[10,10]<+:text.drop (6+(upto 10 (text.drop 6)).length)then(n,text.drop (8+(upto 10 (text.drop 6)).length))else(0,text)
  |none=>(0,text)
 else(0,text)
theorem qqw(v:Int):(10:UInt8)∉Lib.itoa v:=by
 intro h
 by_cases hv:v<0
 .rw[qjw hv]at h
  rcases Qd.1 h with h|h
  .simp at h
  .have:=wr _ _ (Qi _) _ h
   simp at this
 .rw[qjx Om]at h
  have:=wr _ _ (Qi _) _ h
  simp at this
theorem qxr(n:Int)(r:qd):qbu n++r=genL++(Lib.itoa n++10::10::r):=by simp[qbu]
theorem qkn{n:Int}(h:qd7 n)(r:qd):qau (qbu n++r)=(n,r):=by
 unfold qau
 have hd:(genL++(Lib.itoa n++10::10::r)).drop 6=Lib.itoa n++10::10::r:=by rw[show(6:Nat)=genL.length by rfl,Zg]
 rw[qxr,if_pos (Zn _ _),hd,xy _ (qqw n),q6y (by have:=h.1;omega) (by have:=h.2;omega)]
 have e1:(genL++(Lib.itoa n++10::10::r)).drop (6+(Lib.itoa n).length)=10::10::r:=by rw[<-Zh,hd,Zg]
 have e2:(genL++(Lib.itoa n++10::10::r)).drop (8+(Lib.itoa n).length)=r:=by
  rw[show 8+(Lib.itoa n).length=(6+(Lib.itoa n).length)+2 by omega,<-Zh,e1]
  rfl
 simp only
 rw[e1,e2,if_pos ⟨h,r,rfl⟩]
theorem quq{text:qd}(h:∀n r,qd7 n->text≠qbu n++r):qau text=(0,text):=by
 unfold qau
 split
 .rename_i hp
  obtain⟨t,rfl⟩:=hp
  have hd:(genL++t).drop 6=t:=by rw[show(6:Nat)=genL.length by rfl,Zg]
  rw[hd]
  split
  .rename_i n hn
   split
   .rename_i hc
    obtain⟨hg,r,hr⟩:=hc
    rw[<-Zh,hd]at hr
    obtain⟨he,_⟩:=q6z hn
    refine absurd ?_ (h n r hg)
    rw[qxr,<-he]
    congr 1
    conv=>lhs;rw[<-List.take_append_drop (upto 10 t).length t,qig,<-hr]
    rfl
   .rfl
  .rfl
 .rfl
theorem q03(text:qd):(∃n r,qd7 n∧text=qbu n++r∧qau text=(n,r))∨((∀n r,qd7 n->text≠qbu n++r)∧qau text=(0,text)):=by
 by_cases h:∃n r,qd7 n∧text=qbu n++r
 .obtain⟨n,r,hg,rfl⟩:=h
  exact .inl ⟨n,r,hg,rfl,qkn hg r⟩
 .have h':∀n r,qd7 n->text≠qbu n++r:=λn r hg e=>h ⟨n,r,hg,e⟩
  exact .inr ⟨h',quq h'⟩
def qa9(n:Int):qd:=if qd7 n then qbu n else []
theorem q04(text:qd):text=qa9 (qau text).1++(qau text).2∧((qau text).1=0∨qd7 (qau text).1):=by
 rcases q03 text with⟨n,r,hg,he,ht⟩|⟨_,ht⟩
 .rw[ht]
  simp only
  unfold qa9
  rw[if_pos hg]
  exact⟨he,.inr hg⟩
 .rw[ht]
  exact⟨rfl,.inl rfl⟩
def begF(l:qd):Bool:=decide (l.head?=some 37∧qn l=5)
def q5w(n:Nat)(l:qd):Nat:=if h:l=[]then n else if begF (upto 10 l)=true then n-l.length else q5w n (past 10 l)
 termination_by l.length
 decreasing_by exact wx h
theorem qf9:∀(r:List (qd×Bool))(k:Nat)(prev:Bool)(now:qx)(rec:Int)(out:List qx),(refL k r prev now rec out).1=none->∀x∈r,qn x.1≠5∧x.2=true
 | [],_,_,_,_,_,_=>by simp
 |(t,e)::r,k,prev,now,rec,out,h=>by
  rw[refL]at h
  split at h
  .simp at h
  .rename_i hw
   have hx:qn t≠5∧e=true:=by
    unfold jj at hw
    split at hw
    .simp at hw
    .rename_i hc
     exact⟨λh5=>hc (.inl h5),by cases e with|true=>rfl|false=>exact absurd (.inr (.inr rfl)) hc⟩
   have hr:∀x∈r,qn x.1≠5∧x.2=true:=by
    split at h
    .exact qf9 r _ _ _ _ _ h
    .split at h
     .exact qf9 r _ _ _ _ _ h
     .exact qf9 r _ _ _ _ _ h
   intro x hx'
   rcases Qd.1 hx' with rfl|hx'
   .exact hx
   .exact hr x hx'
theorem q0o{text:qd}(h:(jq text).1=none):∀x∈zy text,begF x.1=false∧x.2=true:=λx hx=>by
 rw[<-qbn]at h
 obtain⟨h1,h2⟩:=qf9 _ _ _ _ _ _ h x hx
 exact⟨by simp[begF,h1],h2⟩
theorem qhq{n:Nat}{fig l:qd}(hf:qax fig)(h:l<+:ye n fig)(hne:l≠[]):begF l=true:=by
 have h10:10∉l:=qsr h (qd8 n hf)
 have h58:(58:UInt8)∉l:=qsr h λh'=>by
  unfold ye at h'
  rcases Qq.1 h' with h'|h'
  .revert h';decide
  .rcases Qq.1 h' with h'|h'
   .exact qq8 n (by decide) h'
   .rcases Qd.1 h' with h'|h'
    .simp at h'
    .exact qlk hf (by decide) h'
 obtain⟨c,q,rfl⟩:=Zb hne
 have hc:c=37:=by
  obtain⟨t,ht⟩:=h
  unfold ye wb at ht
  exact(Zt ht).1
 subst hc
 have hk:=qnr h10 (λhb=>by
  have:=hb 37 Sx
  revert this
  decide)
 simp only[begF,List.head?_cons,true_and,decide_eq_true_eq]
 rw[hk.2]
 rw[if_neg Sx,if_neg (by simp[vr]),if_neg (λh=>h58 h.1)]
theorem q5v{n:Nat}{fig body l:qd}(hf:qax fig)(h:l<+:recL n fig body)(hne:l≠[]):begF (upto 10 l)=true:=by
 rcases quj (show l<+:ye n fig++10::(body++qgd n) from h)with h|⟨r,rfl,hr⟩
 .rw[qcf (qsr h (qd8 n hf))]
  exact qhq hf h hne
 .cases r with
  |nil=>
   rw[Qj,qcf (qd8 n hf)]
   exact qhq hf (Qw _) (by simp[ye,wb])
  |cons c r=>
   have:c=10:=by obtain⟨t,ht⟩:=hr;exact(Zt ht).1
   subst this
   rw[xy _ (qd8 n hf)]
   exact qhq hf (Qw _) (by simp[ye,wb])
theorem zb1{b:qd}(x:qd)(hg:qez b):begF (upto 10 (recF b++x))=true:=by
 rw[zdx]
 have hx:qax (sumF b):=qz9 (addP 0 b)
 unfold recL
 rw[Qt,Qp,xy _ (qd8 _ hx)]
 exact qhq hx (Qw _) (by simp[ye,wb])
theorem q6r:∀(n:Nat)(l:qd)(k a:Nat),l.length<=n->∀x∈wl k a l,x.text.length<=l.length
 |n,l,k,a,hn,x,hx=>by
  by_cases h:l=[]
  .subst h;rw[qcp]at hx;simp at hx
  .have hlt:=wx (c:=10) h
   cases n with
   |zero=>omega
   |succ n=>
    rw[qb7 h]at hx
    rcases Qd.1 hx with rfl|hx
    .exact yq 10 l
    .have:=q6r n (past 10 l) (k+1) (a+(upto 10 l).length+1) Om x hx
     omega
structure qdz where
 gen:Int
 base:qd
 batches:List (List qq)
 ends : List Int
 tail:qd
def q26:qdz:=⟨0,[],[],[],[]⟩
def zn(text:qd):ErrV:=if 60000<text.length then .num 1 else match(jq text).1 with
 |none=>.no
 |some (a,n)=>.at' a n
def qvt:Nat->qd->Int->List (List qq)->List Int->Bool×List (List qq)×List Int×qd
 |0,l,_,bs,es=>(false,bs,es,l)
 |f+1,l,a,bs,es=>
  if(qaj l).1=2 then(false,bs,es,l)
  else if(qaj l).1=1 then match decF (qaj l).2.1 with
   |some b=>qvt f (l.drop (qaj l).2.2.toNat) (a+(qaj l).2.2) (bs++[b]) (es++[a+(qaj l).2.2])
   |none=>(true,bs,es,l)
  else(true,bs,es,l)
def qrm(text:qd):qd:=(qau text).2
def atH(text:qd):Nat:=q5w (qrm text).length (qrm text)
def zbf(text:qd):qd:=(qrm text).take (atH text)
def qrh(text:qd):Bool×List (List qq)×List Int×qd:=qvt (text.length+1) ((qrm text).drop (atH text)) (((text.length-(qrm text).length+atH text:Nat)):Int) [] []
def zbg(text:qd):ErrV×qdz:=
 if 120000<text.length then(.num 1,q26)
 else match zn (zbf text)with
  |.no=>if(qrh text).1=true then(.at' (qrh text).2.1.length 10,q26)else(.no,⟨(qau text).1,zbf text,(qrh text).2.1,(qrh text).2.2.1,(qrh text).2.2.2⟩)
  |e=>(e,q26)
structure qmg (b:List qq):Prop where
 ok:eErr b=.no
 B:∀x∈b,EdB x
 len:(encF b).length<=50000
theorem qmg.good{b:List qq}(h:qmg b):qez (encF b):=q6d h.ok h.B h.len
def recE(b:List qq):qd:=recF (encF b)
def y3(bs:List (List qq)):qd:=bs.flatMap recE
def qda(a:Int):List (List qq)->List Int
 | []=>[]
 |b::r=>(a+(recE b).length)::qda (a+(recE b).length) r
theorem qkd(b:List qq)(r:List (List qq)):y3 (b::r)=recE b++y3 r:=rfl
theorem q4g(r:List (List qq))(b:List qq):y3 (r++[b])=y3 r++recE b:=by simp[y3]
theorem qqe:∀(r:List (List qq))(a:Int)(b:List qq),qda a (r++[b])=qda a r++[a+(y3 r).length+(recE b).length]
 | [],a,b=>by simp[qda,y3]
 |x::r,a,b=>by
  rw[Qp,qda,qda,qqe r,qkd]
  simp
  omega
theorem qqd:∀(r:List (List qq))(a:Int),r≠[]->(qda a r).getLast?=some (a+(y3 r).length)
 | [],_,h=>absurd rfl h
 | [x],a,_=>by simp[qda,y3]
 |x::y::r,a,_=>by
  have:=qqd (y::r) (a+(recE x).length) Sx
  rw[qda,Za]
  rw[this,qkd x]
  simp
  omega
structure qbo (text:qd) (b:qdz):Prop where
 txt:text=qa9 b.gen++(b.base++(y3 b.batches++b.tail))
 gen:qau text=(b.gen,b.base++(y3 b.batches++b.tail))
 parse:zn b.base=.no
 good:∀x∈b.batches,qmg x
 tail:(qaj b.tail).1=2
 ends : b.ends = qda ((qa9 b.gen).length + b.base.length) b.batches
 len:text.length<=120000
def BegP(x:qd):Prop:=x=[]∨begF (upto 10 x)=true
theorem q5u{t:qd}(h:(qaj t).1=2):BegP t:=by
 by_cases h0:t=[]
 .exact .inl h0
 .obtain⟨n,fig,body,R,hp,_⟩:=zdo h
  obtain⟨_,_,_,_,_,hx⟩:=R
  exact .inr (q5v hx hp h0)
theorem q5t{bs:List (List qq)}{t:qd}(hg:∀b∈bs,qmg b)(h:(qaj t).1=2):BegP (y3 bs++t):=by
 cases bs with
 |nil=>exact q5u h
 |cons b r=>
  refine .inr ?_
  rw[qkd,Qt]
  exact zb1 _ (hg b Sx).good
theorem q5s{x:qd}(h:BegP x):x=[]∨x.head?=some 37:=by
 rcases h with h|h
 .exact .inl h
 .simp only[begF,decide_eq_true_eq]at h
  cases x with
  |nil=>exact .inl rfl
  |cons c r=>
   refine .inr ?_
   have h1:=h.1
   unfold upto at h1
   by_cases hc:c=10
   .subst hc;simp at h1
   .simpa[hc]using h1
theorem qyc{l:qd}(h:zn l=.no):(∀p∈zy l,begF p.1=false∧p.2=true)∧l.length<=60000:=by
 unfold zn at h
 split at h
 .simp at h
 .split at h
  .rename_i hp
   exact⟨q0o hp,Om⟩
  .simp at h
def qcg(b:qdz):qd:=qa9 b.gen++(b.base++y3 b.batches)
def qmc(b:qdz):Int:=match b.ends.getLast? with
 |some e=>e
 |none=>((qa9 b.gen).length+b.base.length:Nat)
theorem qbo.split{text:qd}{b:qdz}(h:qbo text b):text=qcg b++b.tail:=by
 have:=h.txt
 unfold qcg
 simpa using this
theorem qbo.whole{text:qd}{b:qdz}(h:qbo text b):qmc b=((qcg b).length:Int):=by
 unfold qmc
 rw[h.ends]
 by_cases h0:b.batches=[]
 .rw[h0]
  simp[qda,qcg,h0,y3]
 .rw[qqd _ _ h0]
  simp[qcg]
  omega
theorem qbo.take{text:qd}{b:qdz}(h:qbo text b):text.take (qmc b).toNat=qcg b:=by
 rw[h.whole,Int.toNat_natCast]
 conv=>lhs;rw[h.split]
 rw[List.take_left]
theorem q3w{l:qd}(h:l≠[])(hp:∀p∈zy l,p.2=true):l.getLast?=some 10:=by
 have:∀(k:Nat)(l:qd),l.length<=k->l≠[]->(∀p∈zy l,p.2=true)->l.getLast?=some 10:=by
  intro k
  induction k with
  |zero=>intro l hl h0;exact absurd (Qr.1 Om) h0
  |succ k ih=>
   intro l hl h0 hp
   rw[wz h0]at hp
   have h10:10∈l:=by simpa using hp _ (List.mem_cons_self ..)
   have e:=yn h10
   by_cases hq:past 10 l=[]
   .rw[hq]at e
    rw[e]
    simp
   .have:=ih (past 10 l) (by have:=wx (c:=10) h0;omega) hq λp hp'=>hp p (by simp[hp'])
    rw[e]
    rw[Zk,Za,this]
    simp
 exact this _ l (Qi _) h hp
theorem zcv{l x:qd}{n:Int}(h:∀p∈zy l,p.2=true)(hx:x=[]∨x.head?=some 37)(hp:qbu n<+:l++x):qbu n<+:l:=by
 rcases quj hp with h1|⟨r,h1,hr⟩
 .exact h1
 .by_cases hr0:r=[]
  .rw[h1,hr0,Qj]
   exact Qw _
  .exfalso
   obtain⟨c,q,rfl⟩:=Zb hr0
   have hc:c=37:=by
    obtain⟨t,ht⟩:=hr
    rcases hx with rfl|hx
    .simp at ht
    .rw[<-ht]at hx
     simpa using hx
   subst hc
   by_cases hl:l=[]
   .rw[hl]at h1
    simp[qbu,genL]at h1
   .have hlast:=q3w hl h
    obtain⟨q0,hq0⟩:∃q0,l=q0++[10]:=by
     have:=qz2 hlast
     exact⟨_,this.symm⟩
    have e:genL++Lib.itoa n++10::[10]=q0++10::(37::q):=by
     have:=h1
     unfold qbu at this
     rw[hq0]at this
     simpa using this
    have hu10:10∉genL++Lib.itoa n:=by
     intro h
     rcases Qq.1 h with h|h
     .revert h;decide
     .exact qqw n h
    have hA:=xy (c:=10) [10] hu10
    have hB:=yw (c:=10) [10] hu10
    rw[e]at hA hB
    by_cases hq10:10∈q0
    .have e2:=yn hq10
     have e3:q0++10::(37::q)=upto 10 q0++10::(past 10 q0++10::(37::q)):=by
      conv=>lhs;rw[e2]
      simp
     rw[e3,yw _ (qah 10 q0)]at hB
     have:=congrArg List.length hB
     simp at this
     omega
    .rw[yw _ hq10]at hB
     simp at hB
theorem q4y{l x y:qd}(h:∀p∈zy l,p.2=true)(hx:qau (l++x)=(0,l++x))(hy:y=[]∨y.head?=some 37):qau (l++y)=(0,l++y):=by
 refine quq λn r hg e=>?_
 obtain⟨t,ht⟩:=zcv (n:=n) h hy ⟨r,e.symm⟩
 have:qau (l++x)=(n,t++x):=by rw[<-ht,Qt,qkn hg]
 rw[hx]at this
 have h0:(0:Int)=n:=(Zy this).1
 have:=hg.1
 omega
theorem qbo.gen0{text:qd}{b:qdz}(h:qbo text b):b.gen=0∨qd7 b.gen:=by
 have:=(q04 text).2
 rw[h.gen]at this
 exact this
theorem qbo.other{text:qd}{b:qdz}(h:qbo text b){bs:List (List qq)}{t:qd}(hg:∀x∈bs,qmg x)(ht:(qaj t).1=2)(hlen:(qa9 b.gen++(b.base++(y3 bs++t))).length<=120000):
  qbo (qa9 b.gen++(b.base++(y3 bs++t))) ⟨b.gen,b.base,bs,qda ((qa9 b.gen).length+b.base.length) bs,t⟩:=by
 refine⟨rfl,?_,h.parse,hg,ht,rfl,hlen⟩
 rcases h.gen0 with h0|h0
 .have hgen:=h.gen
  have htext:=h.txt
  have e:qa9 b.gen=[]:=by unfold qa9;rw[if_neg (by rw[h0];decide)]
  rw[e,Qx]at htext⊢
  rw[h0,htext]at hgen
  simp only
  rw[h0]
  exact q4y (λp hp=>((qyc h.parse).1 p hp).2) hgen (q5s (q5t hg ht))
 .have e:qa9 b.gen=qbu b.gen:=by unfold qa9;rw[if_pos h0]
  simp only
  rw[e,qkn h0]
theorem zai:qaj []=(2,[],0):=by
 unfold qaj qha
 rw[if_neg Sx,if_pos]
 rw[if_neg (by decide)]
 decide
theorem qbo.more{text:qd}{b:qdz}(h:qbo text b){x:List qq}(hx:qmg x)(hl:(qcg b++recE x).length<=120000):qbo (qcg b++recE x) {b with batches:=b.batches++[x],ends:=b.ends++[qmc b+(recE x).length],tail:=[]}:=by
 have e:qa9 b.gen++(b.base++(y3 (b.batches++[x])++[]))=qcg b++recE x:=by simp[qcg,q4g]
 have:=h.other (bs:=b.batches++[x]) (t:=[]) (λy hy=>by
  rcases Qq.1 hy with hy|hy
  .exact h.good y hy
  .obtain rfl:=List.mem_singleton.1 hy
   exact hx) (by rw[zai]) (by rw[e];exact hl)
 rw[e,qqe,<-h.ends]at this
 have hw:((qa9 b.gen).length+b.base.length+(y3 b.batches).length+(recE x).length:Int)=qmc b+(recE x).length:=by
  rw[h.whole]
  simp[qcg]
  omega
 rw[hw]at this
 exact this
end Go.Pl
namespace Go.Proofs.YtapblfabkbdgcaaGreatDoor
open Go Go.Av Go.RowKit Go.Proofs Go.Pl
@[reducible] def qd9 (L : List LnV) : AV := .sl 1 (L.map fun x => Iv (qn x.text)) none
def qe3(L:List LnV):Nat->Bool
 |0=>false
 |j+1=>match L[j]?with
  |some x=>decide (qn x.text=4∨qn x.text=3)
  |none=>false
theorem qh8{L:List LnV}{i:Nat}{x:LnV}(h:L[i]?=some x):(L.map λx=>Iv (qn x.text))[i]?=some (Iv (qn x.text)):=by simp[h]
theorem qi9{L:List LnV}{i:Nat}{x:LnV}(h:L[i]?=some x):(L.map lnA)[i]?=some (lnA x):=by simp[h]
theorem qva(L:List LnV)(i:Nat)(st:List AObj)(hi:i<=L.length)(hL:L.length<1000000):ql E 134 [qd9 L,Iv i] st λr st'=>r=Bv (qe3 L i)∧st'=st:=by
 refine q5 [.a (qd9 L),.i i] (qt _) Tryz.func134 rfl rfl (λ_=>rfl) rfl λS0=>?_
 cases i with
 |zero=>
  apply qe []
  repeat' (first|apply Qa|(intro h;try exact cDd)|exact cSd|apply qc []|refine exr ?_|refine qf ?_)
 |succ j=>
  obtain⟨x,hx⟩:∃x,L[j]?=some x:=⟨_,Qc Om⟩
  have hget:=qh8 hx
  have hp:qe3 L (j+1)=decide (qn x.text=4∨qn x.text=3):=by simp only[qe3,hx]
  rw[hp]
  apply qe []
  repeat' (first|apply Qa|(intro h;try exact cDd)|(refine Qb (j) ⟨Om,_,hget,?_⟩)|exact cSd|apply qc []|refine exr ?_|refine qf ?_)
  all_goals (simp[*];done)
theorem qtq{L:List LnV}{k:Nat}{x:LnV}(h:L[k]?=some x):(L.drop k).map qbw=(x.text,x.ended)::(L.drop (k+1)).map qbw:=by
 obtain⟨hlt,he⟩:=Qg.1 h
 rw[Qe hlt,he]
 rfl
def qe6(L:List LnV)(i:Nat)(x:LnV):List qd:=x.text::j8 ((L.drop (i+1)).map qbw)
theorem qxt:∀(r:List (qd×Bool)),(j8 r).length<=r.length
 | []=>by simp[j8]
 |(t,e)::r=>by
  have:=qxt r
  rw[j8]
  split <;>simp <;>omega
theorem qxu:∀{r:List (qd×Bool)}{n:Nat},(∀p∈r,p.1.length<=n)->∀s∈j8 r,s.length<=n
 | [],_,_,s,hs=>by simp[j8]at hs
 |(t,e)::r,n,h,s,hs=>by
  rw[j8]at hs
  split at hs
  .rcases Qd.1 hs with rfl|hs
   .exact h (s,e) Sx
   .exact qxu (λp hp=>h p (by simp[hp])) s hs
  .simp at hs
structure LnsB (L:List LnV):Prop where
 len:L.length<100000
 val:∀x∈L,x.text.length<100000
theorem LnsB.said{L:List LnV}(h:LnsB L){i:Nat}{x:LnV}(hx:L[i]?=some x):LsB (qe6 L i x):=by
 have h1:=qxt ((L.drop (i+1)).map qbw)
 have h2:=h.len
 have h3:=h.val x (Qk hx)
 refine⟨?_,λs hs=>?_⟩
 .unfold qe6
  simp at h1⊢
  omega
 .rcases Qd.1 hs with rfl|hs
  .omega
  .have:=qxu (n:=100000) (λp hp=>by
    obtain⟨y,hy,rfl⟩:=Qn.1 hp
    have:=h.val y (List.mem_of_mem_drop hy)
    simp only[qbw]
    omega) s hs
   omega
theorem qn1(L:List LnV)(i:Nat)(x:LnV)(st:List AObj)(hL:LnsB L)(hx:L[i]?=some x):ql E 94 [lnsA L,qd9 L,Iv i] st λr st'=>r=Ss (qe6 L i x)∧st'=st:=by
 refine q5 [.a (lnsA L),.a (qd9 L),.i i] (qmw _) Tryz.func94 rfl rfl (λ_=>rfl) rfl λS0=>?_
 have hLl:=hL.len
 have hil:=lt_of_getElem? hx
 have hget:=qi9 hx
 have hml:(L.map lnA).length=L.length:=Sx
 apply qe [14]
 repeat' (first|apply Qa|(intro h;try exact cDd)|(refine Qb (i) ⟨Om,_,hget,?_⟩)|exact cSd|apply qc [14]|refine exr ?_|refine qf ?_)
 refine zl (X:=Nat×List qd) (λ(k,acc)=>⟨[(0,.a (lnsA L)),(1,.a (qd9 L)),(7,.tp 0),(8,.i k)],[(0,some (.tip 1 9 (acc.map λx=>Sv x)))],1⟩) (λ(k,acc)=>i+1<=k∧k<=L.length∧acc++j8 ((L.drop k).map qbw)=qe6 L i x∧acc.length<=k) (λ(k,_)=>L.length-k) (i+1,[x.text]) ⟨Om,Om,rfl,Sx⟩ ?_ ?_
 .skip
  repeat' (first|apply Qa|(intro h;try exact cDd)|exact cSd|apply qc []|refine exr ?_|refine qf ?_)
  all_goals (simp;done)
 .rintro⟨k,acc⟩ ⟨hk1,hk2,hacc,hal⟩
  have hmc:(acc.map λx=>Sv x).length=acc.length:=Sx
  by_cases hk:k<L.length
  .obtain⟨y,hy⟩:∃y,L[k]?=some y:=⟨_,Qc hk⟩
   have hgy:=qi9 hy
   have hky:=qh8 hy
   rw[qtq hy]at hacc
   by_cases h3:qn y.text=3
   .rw[qe2 h3]at hacc
    apply qe []
    repeat' (first|apply Qa|(intro h;try exact cDd)|(refine Qb (k) ⟨Om,_,hgy,?_⟩)|(refine Qb (k) ⟨Om,_,hky,?_⟩)|(refine Qb (k+1,acc++[y.text]) ⟨⟨Om,Om,by simpa using hacc,So⟩,by simp only;omega,?_⟩)|exact cSd|apply qc []|refine exr ?_|refine qf ?_)
    all_goals (simp;done)
   .rw[qj2 h3,Qj]at hacc
    rw[<-hacc]
    apply qe []
    repeat' (first|apply Qa|(intro h;try exact cDd)|(refine Qb (k) ⟨Om,_,hky,?_⟩)|exact cSd|apply qc []|refine exr ?_|refine qf ?_)
  .rw[Qf Om,Zv,j8,Qj]at hacc
   rw[<-hacc]
   apply qe []
   repeat' (first|apply Qa|(intro h;try exact cDd)|exact cSd|apply qc []|refine exr ?_|refine qf ?_)
theorem qyr(L:List LnV)(i:Nat)(x:LnV)(n:Nat)(rec:Int)(st:List AObj)(hL:LnsB L)(hx:L[i]?=some x):ql E 93 [lnsA L,qd9 L,Iv i,Iv n,Iv rec] st λr st'=>r=Iv (jj (qe3 L i) x.text x.ended ((L.drop (i+1)).map qbw) n rec)∧st'=st:=by
 refine q5 [.a (lnsA L),.a (qd9 L),.i i,.i n,.i rec] (qt _) Tryz.func93 rfl rfl (λ_=>rfl) rfl λS0=>?_
 have hLl:=hL.len
 have hil:=lt_of_getElem? hx
 have hgy:=qi9 hx
 have hky:=qh8 hx
 have hbe:=λst=>qva L i st Om Om
 have hsa:=λst=>qn1 L i x st hL hx
 have hun:=λst=>ql7 (qe6 L i x) st (hL.said hx)
 unfold qba at hun
 unfold jj
 have hsd:x.text::j8 ((L.drop (i+1)).map qbw)=qe6 L i x:=rfl
 rw[hsd]
 generalize qe3 L i=pv at *
 generalize qe6 L i x=sl at *
 generalize(z7 sl).2=u at *
 obtain⟨xn,xa,xt,xe⟩:=x
 dsimp only at *
 apply qe []
 repeat' (first|apply Qa|(intro h;try exact cDd)|(refine Qb (i) ⟨Om,_,hky,?_⟩)|(refine Qb (i) ⟨Om,_,hgy,?_⟩)|exact⟨Tryz.call134⟩|refine cpe hbe ?_|exact⟨Tryz.call94⟩|refine cpe hsa ?_|exact⟨Tryz.call78⟩|refine cpe hun ?_|exact cSd|apply qc []|refine exr ?_|refine qf ?_)
 all_goals clear hbe hsa hun hgy hky
 all_goals (simp_all <;>omega)
@[reducible] def qas (es : List Int) : AV := .sl 1 (es.map fun x => Iv x) none
theorem yf{a b c:AV}(h1:Pure a)(h2:Pure b)(h3:Pure c):Pure (.tu [a,b,c]):=qdt λz hz=>by
 simp only[Qd,Qm,or_false]at hz
 rcases hz with rfl|rfl|rfl
 .exact h1
 .exact h2
 .exact h3
def qak(text:qd):AV:=if 60000<text.length then .tu [jm [],Iv (-9),Iv 1]else match(jq text).1 with
 |some e=>.tu [jm [],Iv e.1,Iv e.2]
 |none=>.tu [jm (jq text).2,Iv (-9),Iv 0]
theorem qst(text:qd):Pure (qak text):=by
 unfold qak
 split
 .exact yf (x3 _) (qt _) (qt _)
 .split
  .exact yf (x3 _) (qt _) (qt _)
  .exact yf (x3 _) (qt _) (qt _)
theorem q4f{L:List LnV}{k:Nat}{x:LnV}(h:L[k]?=some x):qe3 L (k+1)=decide (qn x.text=4∨qn x.text=3):=by simp only[qe3,h]
set_option maxHeartbeats 2000000 in
theorem ql6(text:qd)(st:List AObj)(hl:text.length<1000000):ql E 54 [Sv text] st λr st'=>r=qak text∧st'=st:=by
 refine q5 [.s text] (qst text) Tryz.func54 rfl rfl (λ_=>rfl) rfl λS0=>?_
 by_cases hbig:60000<text.length
 .have e:qak text=.tu [jm [],Iv (-9),Iv 1]:=if_pos hbig
  rw[e]
  apply qe []
  repeat' (first|apply Qa|(intro h;try exact cDd)|exact cSd|apply qc []|refine exr ?_|refine qf ?_)
 have hRA:qak text=match(jq text).1 with
  |some e=>.tu [jm [],Iv e.1,Iv e.2]
  |none=>.tu [jm (jq text).2,Iv (-9),Iv 0]:=if_neg hbig
 rw[hRA]
 clear hRA
 obtain⟨L,hL⟩:∃L,L=lns text:=⟨_,rfl⟩
 have hLl:L.length<=text.length:=by rw[hL];exact qh9 _ text 0 0 (Qi _)
 have hLB:LnsB L:=⟨Om,λx hx=>by have:=q6r _ text 0 0 (Qi _) x (by rw[hL]at hx;exact hx);omega⟩
 have hrun:refL 0 ((L.drop 0).map qbw) (qe3 L 0) ⟨2,[],[]⟩ 0 []=jq text:=by
  rw[List.drop_zero,hL,q6s]
  exact qbn text
 have hml:(L.map lnA).length=L.length:=Sx
 have hspl:∀st,ql E 76 [Sv text] st λr st'=>r=lnsA L∧st'=st:=λst=>by rw[hL];exact q4n text st Om
 clear hL
 generalize jq text=PF at hrun
 apply qe []
 repeat' (first|apply Qa|(intro h;try exact cDd)|exact⟨Tryz.call76⟩|refine cpe hspl ?_|exact cSd|apply qc []|refine exr ?_|refine qf ?_)
 refine zl (X:=Nat) (λk=>⟨[(5,.a (lnsA L)),(6,.tp 0),(7,.i k)],[(0,some (.tip 1 3 ((L.take k).map λx=>Iv (qn x.text))))],1⟩) (λk=>k<=L.length) (λk=>L.length-k) 0 Om ?_ ?_
 .skip
  repeat' (first|apply Qa|(intro h;try exact cDd)|exact cSd|apply qc []|refine exr ?_|refine qf ?_)
 .intro k hk
  by_cases hkl:k<L.length
  .obtain⟨x,hx⟩:∃x,L[k]?=some x:=⟨_,Qc hkl⟩
   have hgx:=qi9 hx
   have hxl:=hLB.val x (Qk hx)
   have hkd:=λst=>qie x.text st Om
   apply qe []
   repeat' (first|apply Qa|(intro h;try exact cDd)|(refine Qb _ ⟨rfl,_,hgx,?_⟩)|exact⟨Tryz.call92⟩|refine cpe hkd ?_|(refine Qb (k+1) ⟨Om,Om,?_⟩)|exact cSd|apply qc []|refine exr ?_|refine qf ?_)
   rw[List.take_add_one,hx]
   simp
  .have e:L.take k=L:=Ze Om
   apply qe []
   repeat' (first|apply Qa|(intro h;try exact cDd)|exact cSd|apply qc []|refine exr ?_|refine qf ?_)
   refine zl (X:=Nat×qx×Int×List qx) (λ(k,⟨nk,nr,nf⟩,rec,out)=>⟨[(5,.a (lnsA L)),(6,.a (qd9 L)),(8,.tp 0),(9,.bx 1 0),(10,.i rec),(11,.i k)],
     [(0,some (.tip 3 107 (out.map jh))),(1,some (.cells 107 [.i nk,.s nr,.tp 2])),(2,some (.tip 2 98 (nf.map fldA)))],3⟩)
    (λ(k,now,rec,out)=>k<=L.length∧refL k ((L.drop k).map qbw) (qe3 L k) now rec out=PF∧0<=rec∧rec<=k∧out.length<=2*k∧now.fields.length<=k∧now.raw.length<=200000*k) (λx=>L.length-x.1) (0,⟨2,[],[]⟩,0,[])
    ⟨Om,hrun,Om,Om,Sx,Sx,Sx⟩ ?_ ?_
   .skip
    repeat' (first|apply Qa|(intro h;try exact cDd)|(refine qf ?_;rw[e])|exact cSd|apply qc []|refine exr ?_|refine qf ?_)
   .rintro⟨j,⟨nk,nr,nf⟩,rec,out⟩ ⟨hj,hR,hr0,hr1,hol,hfl,hrl⟩
    simp only at hfl hrl
    by_cases hjl:j<L.length
    .obtain⟨x,hx⟩:∃x,L[j]?=some x:=⟨_,Qc hjl⟩
     have hgx:=qi9 hx
     have hkx:=qh8 hx
     have hxl:=hLB.val x (Qk hx)
     have hwr:∀st,ql E 93 [lnsA L,qd9 L,Iv j,Iv ((nf.map fldA).length:Nat),Iv rec] st λr st'=>r=Iv (jj (qe3 L j) x.text x.ended ((L.drop (j+1)).map qbw) nf.length rec)∧st'=st:=λst=>by rw[List.length_map];exact qyr L j x nf.length rec st hLB hx
     have hsa:=λst=>qn1 L j x st hLB hx
     have hun:=λst=>ql7 (qe6 L j x) st (hLB.said hx)
     unfold qba at hun
     have hpv:=q4f hx
     have hsd:x.text::j8 ((L.drop (j+1)).map qbw)=qe6 L j x:=rfl
     rw[qtq hx,refL,hsd]at hR
     simp only at hR
     by_cases h1:qn x.text=1
     .apply qe []
      repeat' (first|apply Qa|(intro h;try exact cDd)|(refine Qb _ ⟨rfl,_,hgx,?_⟩)|(refine Qb _ ⟨rfl,_,hkx,?_⟩)|exact⟨Tryz.call93⟩|refine cpe hwr ?_|exact⟨Tryz.call94⟩|refine cpe hsa ?_|exact⟨Tryz.call78⟩|refine cpe hun ?_|(rw[if_pos (by assumption)]at hR;rw[<-hR];exact qm1 _)|(refine Qb (j+1,⟨2,[],[]⟩,rec,outR ⟨nk,nr,nf⟩ out++[⟨1,x.text++[10],[]⟩]) ⟨?_,by simp only;omega,?_⟩)|exact cSd|apply qc []|refine exr ?_|refine qf ?_)
      all_goals first|grind [outR]|(simp[outR,jh, *]at hR⊢;done)|(simp[outR,jh, *]at hR⊢;omega)
     .by_cases h4:qn x.text=4
      .apply qe []
       repeat' (first|apply Qa|(intro h;try exact cDd)|(refine Qb _ ⟨rfl,_,hgx,?_⟩)|(refine Qb _ ⟨rfl,_,hkx,?_⟩)|exact⟨Tryz.call93⟩|refine cpe hwr ?_|exact⟨Tryz.call94⟩|refine cpe hsa ?_|exact⟨Tryz.call78⟩|refine cpe hun ?_|(rw[if_pos (by assumption)]at hR;rw[<-hR];exact qm1 _)|(refine Qb (j+1,⟨3,nr++x.text++[10],nf++[(z7 (qe6 L j x)).1]⟩,if nk=2 then rec+1 else rec,out) ⟨?_,by simp only;omega,?_⟩)|exact cSd|apply qc []|refine exr ?_|refine qf ?_)
       all_goals first|grind [outR]|(simp[outR,jh, *]at hR⊢;done)|(simp[outR,jh, *]at hR⊢;omega)
      .apply qe []
       repeat' (first|apply Qa|(intro h;try exact cDd)|(refine Qb _ ⟨rfl,_,hgx,?_⟩)|(refine Qb _ ⟨rfl,_,hkx,?_⟩)|exact⟨Tryz.call93⟩|refine cpe hwr ?_|exact⟨Tryz.call94⟩|refine cpe hsa ?_|exact⟨Tryz.call78⟩|refine cpe hun ?_|(rw[if_pos (by assumption)]at hR;rw[<-hR];exact qm1 _)|(refine Qb (j+1,⟨nk,nr++x.text++[10],nf⟩,rec,out) ⟨?_,by simp only;omega,?_⟩)|exact cSd|apply qc []|refine exr ?_|refine qf ?_)
       all_goals first|grind [outR]|(simp[outR,jh, *]at hR⊢;done)|(simp[outR,jh, *]at hR⊢;omega)
    .have e:(L.drop j).map qbw=[]:=by rw[Qf Om];rfl
     rw[e,refL]at hR
     rw[<-hR]
     apply qe []
     repeat' (first|apply Qa|(intro h;try exact cDd)|exact cSd|apply qc []|refine exr ?_|refine qf ?_)
     all_goals first|grind [outR]|(simp[outR,jh, *]at hR⊢;done)|(simp[outR,jh, *]at hR⊢;omega)
theorem yj(es:List Int):Pure (qas es):=y7 λx hx=>by
 obtain⟨b,_,rfl⟩:=Qn.1 hx
 intro y hy
 simp only[AV.cells,Qd,Qm,or_false]at hy
 subst hy
 exact qt _
theorem q0z(text:qd)(st:List AObj)(hl:60000<text.length)(h2:text.length<1000000):ql E 49 [Sv text] st λr st'=>r=.tu [jm [],errA (.num 1)]∧st'=st:=by
 refine q5 [.s text] (xw (x3 _) (v6 _)) Tryz.func49 rfl rfl (λ_=>rfl) rfl λS0=>?_
 apply qe []
 repeat' (first|apply Qa|(intro h;try exact cDd)|exact cSd|apply qc []|refine exr ?_|refine qf ?_)
def itsE(text:qd):List qx:=if 60000<text.length then []else(jq text).2
theorem q70(text:qd)(st:List AObj)(hl:text.length<1000000):ql E 49 [Sv text] st λr st'=>r=.tu [jm (itsE text),errA (zn text)]∧st'=st:=by
 unfold zn itsE
 by_cases hb:60000<text.length
 .rw[if_pos hb,if_pos hb]
  exact q0z text st hb hl
 .rw[if_neg hb,if_neg hb]
  have:=zaz text st Om
  unfold qec at this
  rcases hp:(jq text).1 with _|⟨x,y⟩
  .rw[hp]at this
   exact this
  .rw[hp]at this
   exact this
theorem qyq(text:qd):∃its,qak text=.tu [jm its,Iv (zn text).pos,Iv (zn text).code]:=by
 unfold qak zn
 split
 .exact⟨[],rfl⟩
 .rcases(jq text).1 with _|⟨a,n⟩
  .exact⟨_,rfl⟩
  .exact⟨[],rfl⟩
theorem qkf:∀(r:List (qd×Bool))(i:Nat)(prev:Bool)(now:qx)(rec:Int)(out:List qx)(e:Int×Int),(refL i r prev now rec out).1=some e->e.2≠0
 | [],i,prev,now,rec,out,e,h=>by simp[refL]at h
 |(t,b)::r,i,prev,now,rec,out,e,h=>by
  rw[refL]at h
  split at h
  .rename_i hw
   simp only[Zo]at h
   subst h
   exact hw
  .split at h
   .exact qkf r _ _ _ _ _ e h
   .split at h
    .exact qkf r _ _ _ _ _ e h
    .exact qkf r _ _ _ _ _ e h
theorem qrd{text:qd}{n:Int}(h:zn text=.num n):n=1:=by
 unfold zn at h
 split at h
 .simpa using h.symm
 .split at h<;>simp at h
theorem quc{text:qd}{a n:Int}(h:zn text=.at' a n):n≠0:=by
 unfold zn at h
 split at h
 .simp at h
 .split at h
  .simp at h
  .rename_i a' n' hp
   simp only[ErrV.at'.injEq]at h
   rw[<-h.2]
   have:=qbn text
   exact qkf _ _ _ _ _ _ (a',n') (by rw[this];exact hp)
theorem q7o(text:qd)(hl:text.length<1000000):∃its p n,(∀st,ql E 54 [Sv text] st λr st'=>r=.tu [jm its,Iv p,Iv n]∧st'=st)∧p=(zn text).pos∧n=(zn text).code∧(n=0↔zn text=.no):=by
 obtain⟨its,hits⟩:=qyq text
 refine⟨its,_,_,λst=>by rw[<-hits];exact ql6 text st hl,rfl,rfl,?_⟩
 cases hpe:zn text with
 |no=>simp[ErrV.code]
 |num n=>have:=qrd hpe;simp[ErrV.code];omega
 |at' a n=>have:=quc hpe;simp[ErrV.code];omega
theorem zcj(x:List qq):∃p n,(eErr x).pos=p∧(eErr x).code=n∧(n=0↔eErr x=.no):=⟨_,_,rfl,rfl,qtr x⟩
def qf3:List Fld->Int->Int->Bool
 | [],_,_=>false
 |f::r,i,n=>if 60<i∨6000<n+(min (f.1.length:Int) 10000+min (f.2.length:Int) 10000)then true else qf3 r (i+1) (n+(min (f.1.length:Int) 10000+min (f.2.length:Int) 10000))
def qb5:List qq->Int->Bool
 | [],_=>false
 |x::r,i=>if 50<i then true else if qf3 x.fields 0 0=true then true else qb5 r (i+1)
theorem qq3:∀(fs:List Fld)(i n:Int),0<=n->n<=6000->0<=i->qf3 fs i n=false->fs.length<=(61-i).toNat∧∀f∈fs,f.1.length<=6000∧f.2.length<=6000
 | [],i,n,_,_,_,_=>by simp
 |f::r,i,n,h0,h1,h2,h=>by
  rw[qf3]at h
  split at h
  .simp at h
  .obtain⟨g1,g2⟩:=qq3 r _ _ Om Om Om h
   simp only[Qo]
   refine⟨Om,λg hg=>?_⟩
   rcases Qd.1 hg with rfl|hg
   .omega
   .exact g2 g hg
theorem qnp:∀(b:List qq)(i:Int),0<=i->qb5 b i=false->b.length<=(51-i).toNat∧∀x∈b,zbc x.fields
 | [],_,_,_=>by simp
 |x::r,i,h0,h=>by
  rw[qb5]at h
  split at h
  .simp at h
  .split at h
   .simp at h
   .rename_i hm
    obtain⟨g1,g2⟩:=qnp r _ Om h
    simp only[Qo]
    refine⟨Om,λy hy=>?_⟩
    rcases Qd.1 hy with rfl|hy
    .obtain⟨k1,k2⟩:=qq3 y.fields 0 0 Om Om Om (by simpa using hm)
     exact⟨Om,λf hf=>by have:=k2 f hf;omega⟩
    .exact g2 y hy
theorem qxi{b:List qq}(h:qb5 b 0=false):q48 b:=by
 obtain⟨h1,h2⟩:=qnp b 0 Om h
 exact⟨Om,h2⟩
theorem zdl(fs:List Fld)(st:List AObj)(hf:fs.length<9223372036854775808):ql E 23 [q6 fs] st λr st'=>r=Bv (qf3 fs 0 0)∧st'=st:=by
 refine q5 [.a (q6 fs)] (qt _) Tryz.func23 rfl rfl (λ_=>rfl) rfl λS0=>?_
 have hm:(fs.map fldA).length=fs.length:=Sx
 apply qe []
 repeat' (first|apply Qa|(intro h;try exact cDd)|exact cSd|apply qc []|refine exr ?_|refine qf ?_)
 refine zl (X:=Nat×Int) (λ(k,n)=>⟨[(3,.i n),(6,.a (q6 fs)),(7,.i fs.length),(8,.i k)],[],0⟩) (λ(k,n)=>k<=fs.length∧k<=61∧0<=n∧n<=6000∧qf3 (fs.drop k) k n=qf3 fs 0 0) (λx=>fs.length-x.1) (0,0) ⟨Om,Om,Om,Om,rfl⟩ ?_ ?_
 .skip
  repeat' (first|apply Qa|(intro h;try exact cDd)|exact cSd|apply qc []|refine exr ?_|refine qf ?_)
  all_goals first|(simp;done)
 .rintro⟨k,n⟩ ⟨hk,hk2,h0,h1,h⟩
  by_cases hc:k<fs.length
  .obtain⟨f,hx⟩:∃f,fs[k]?=some f:=⟨_,Qc hc⟩
   have hg:(fs.map fldA)[k]?=some (fldA f):=by simp[hx]
   have hd:fs.drop k=f::fs.drop (k+1):=by
    obtain⟨hlt,e⟩:=Qg.1 hx
    rw[Qe hlt,e]
   rw[hd,qf3]at h
   apply qe []
   repeat' (first|apply Qa|(intro h;try exact cDd)|(refine Qb (k) ⟨Om,_,hg,?_⟩)|(refine Qb (k+1,n+(min (f.1.length:Int) 10000+min (f.2.length:Int) 10000)) ⟨⟨Om,Om,Om,Om,?_⟩,by simp only;omega,?_⟩)|exact cSd|apply qc []|refine exr ?_|refine qf ?_)
   all_goals first|grind|(simp;done)
  .have hd:fs.drop k=[]:=Qf Om
   rw[hd,qf3]at h
   apply qe []
   repeat' (first|apply Qa|(intro h;try exact cDd)|exact cSd|apply qc []|refine exr ?_|refine qf ?_)
   all_goals first|grind|(simp[*];done)
theorem q9m(b:List qq)(st:List AObj)(hb:b.length<9223372036854775808)(hf:∀x∈b,x.fields.length<9223372036854775808):ql E 7 [ji b] st λr st'=>r=Bv (qb5 b 0)∧st'=st:=by
 refine q5 [.a (ji b)] (qt _) Tryz.func7 rfl rfl (λ_=>rfl) rfl λS0=>?_
 have hm:(b.map j6).length=b.length:=Sx
 apply qe []
 repeat' (first|apply Qa|(intro h;try exact cDd)|exact cSd|apply qc []|refine exr ?_|refine qf ?_)
 refine zl (X:=Nat) (λk=>⟨[(5,.a (ji b)),(6,.i b.length),(7,.i k)],[],0⟩) (λk=>k<=b.length∧k<=51∧qb5 (b.drop k) k=qb5 b 0) (λx=>b.length-x) 0 ⟨Om,Om,rfl⟩ ?_ ?_
 .skip
  repeat' (first|apply Qa|(intro h;try exact cDd)|exact cSd|apply qc []|refine exr ?_|refine qf ?_)
  all_goals first|(simp;done)
 .rintro k ⟨hk,hk2,h⟩
  by_cases hc:k<b.length
  .obtain⟨x,hx⟩:∃x,b[k]?=some x:=⟨_,Qc hc⟩
   have hg:(b.map j6)[k]?=some (j6 x):=by simp[hx]
   have hd:b.drop k=x::b.drop (k+1):=by
    obtain⟨hlt,e⟩:=Qg.1 hx
    rw[Qe hlt,e]
   rw[hd,qb5]at h
   have hmu:=λst=>zdl x.fields st (hf x (Qk hx))
   apply qe []
   repeat' (first|apply Qa|(intro h;try exact cDd)|exact⟨Tryz.call23⟩|refine cpe hmu ?_|(refine Qb (k) ⟨Om,_,hg,?_⟩)|(refine Qb (k+1) ⟨⟨Om,Om,?_⟩,Om,?_⟩)|exact cSd|apply qc []|refine exr ?_|refine qf ?_)
   all_goals first|grind|(simp;done)
  .have hd:b.drop k=[]:=Qf Om
   rw[hd,qb5]at h
   apply qe []
   repeat' (first|apply Qa|(intro h;try exact cDd)|exact cSd|apply qc []|refine exr ?_|refine qf ?_)
   all_goals first|grind|(simp[*];done)
end Go.Proofs.YtapblfabkbdgcaaGreatDoor
namespace Go.Pl
open Go Go.Proofs
structure EntV where
 x:qx
 id:Int
structure qo where
 ents:List EntV
 next:Int
 many:Int
def vi(l:qo)(x:qx):qo:=if x.kind=3 then⟨l.ents++[⟨x,l.next⟩],l.next+1,l.many+1⟩else⟨l.ents++[⟨x,0⟩],l.next,l.many⟩
def ofF(its:List qx):qo:=its.foldl vi ⟨[],1,0⟩
end Go.Pl
namespace Go.Proofs.YtapblfabkbdgcaaGreatDoor
open Go Go.Av Go.RowKit Go.Proofs Go.Pl
@[reducible] def entA (e : EntV) : AV := .ag [Iv e.x.kind, Sv e.x.raw, q6 e.x.fields, Iv e.id]
@[reducible] def vc (l : qo) : AV := .pp [.sl 4 (l.ents.map entA) none, Iv l.next, Iv l.many]
def qg6(e:ErrV)(l:qo):AV:=match e with
 |.no=>.tu [vc l,errA .no]
 |e=>.tu [.v (.pointer none),errA e]
theorem qqf(e:EntV):qmh (entA e):=λy hy=>by
 simp only[AV.cells,Qd,Qm,or_false]at hy
 rcases hy with rfl|rfl|rfl|rfl
 .exact qt _
 .exact qt _
 .exact qa8 _
 .exact qt _
theorem qq1(l:qo):Pure (vc l):=qss λx hx=>by
 simp only[Qd,Qm,or_false]at hx
 rcases hx with rfl|rfl|rfl
 .exact y7 λx hx=>by
   obtain⟨f,_,rfl⟩:=Qn.1 hx
   exact qqf f
 .exact qt _
 .exact qt _
theorem qnv(e:ErrV)(l:qo):Pure (qg6 e l):=by
 cases e with
 |no=>exact xw (qq1 l) (v6 _)
 |num n=>exact xw (qt _) (v6 _)
 |at' a n=>exact xw (qt _) (v6 _)
theorem qkh:∀(n:Nat)(rest:qd)(k:Nat)(p:PSt),rest.length<=n->PB (4*k) p->k+rest.length<=60000->(runL k (zy rest) p).2.items.length<=300000:=by
 have nil:∀(k:Nat)(p:PSt),PB (4*k) p->k<=60000->(runL k (zy []) p).2.items.length<=300000:=λk p hB hk=>by
  have e:jd p 0 [] true 1=endP p:=rfl
  have h:=qhl (no:=0) (text:=[]) (ended:=true) (kind:=1) hB Om Sx
  rw[e]at h
  have e2:runL k (zy []) p=endP p:=by rw[vm];rfl
  rw[e2]
  have:=h.items
  omega
 intro n
 induction n with
 |zero=>
  intro rest k p hr hB hk
  obtain rfl:rest=[]:=List.eq_nil_of_length_eq_zero Om
  exact nil k p hB (by simpa using hk)
 |succ n ih=>
  intro rest k p hr hB hk
  by_cases hne:rest=[]
  .subst hne
   exact nil k p hB (by simpa using hk)
  .have hu:=yq 10 rest
   have hpl:=ym 10 rest
   have hr0:0<rest.length:=Qz.2 hne
   rw[wz hne]
   simp only[runL]
   have hB2:=qo9 (no:=k) (text:=upto 10 rest) (ended:=decide (10∈rest)) hB Om Om
   split
   .have:=hB.items
    simp only
    omega
   .exact ih (past 10 rest) (k+1) _ Om hB2 Om
theorem qoq(text:qd):(itsE text).length<=300000:=by
 unfold itsE
 split
 .simp
 .have h:=qkh text.length text 0 p0 (Qi _) qvs Om
  unfold jq
  split
  .simp
  .exact h
theorem qor(text:qd)(st:List AObj)(hl:text.length<1000000):ql E 25 [Sv text] st λr st'=>r=qg6 (zn text) (ofF (itsE text))∧st'=st:=by
 refine qhd [.s text] (qnv _ _) Tryz.func25 rfl rfl (λ_=>rfl) rfl λS0=>?_
 have hp:=λst=>q70 text st hl
 have hil:=qoq text
 generalize itsE text=its at hp hil
 cases he:zn text with
 |num n=>
  rw[he]at hp
  apply qe [19]
  repeat' (first|apply Qa|(intro h;try exact cDd)|exact⟨Tryz.call49⟩|refine cpe hp ?_|exact cSd|apply qc [19]|refine exr ?_|refine qf ?_)
 |at' a n=>
  rw[he]at hp
  apply qe [19]
  repeat' (first|apply Qa|(intro h;try exact cDd)|exact⟨Tryz.call49⟩|refine cpe hp ?_|exact cSd|apply qc [19]|refine exr ?_|refine qf ?_)
 |no=>
  rw[he]at hp
  apply qe [19]
  repeat' (first|apply Qa|(intro h;try exact cDd)|exact⟨Tryz.call49⟩|refine cpe hp ?_|exact cSd|apply qc [19]|refine exr ?_|refine qf ?_)
  refine zl (X:=Nat×qo) (λ(k,l)=>⟨[(6,.bx 0 0),(20,.a (jm its)),(21,.i its.length),(22,.i k)],[(0,some (.cells 105 [.tp 1,.i l.next,.i l.many])),(1,some (.tip 4 109 (l.ents.map entA)))],2⟩)
   (λ(k,l)=>k<=its.length∧l.ents.length=k∧(1<=l.next∧l.next<=k+1∧0<=l.many∧l.many<=k)∧(its.drop k).foldl vi l=ofF its) (λ(k,l)=>its.length-k) (0,⟨[],1,0⟩) ⟨Om,rfl,⟨by decide,by decide,by decide,by decide⟩,rfl⟩ ?_ ?_
  .skip
   repeat' (first|apply Qa|(intro h;try exact cDd)|exact cSd|apply qc []|refine exr ?_|refine qf ?_)
   all_goals (simp;done)
  .rintro⟨k,l⟩ ⟨hk,hlk,hnx,hrun⟩
   by_cases hkn:k<its.length
   .have hx:its[k]?=some its[k]:=Qc hkn
    have hxm:(its.map jh)[k]?=some (jh its[k]):=by rw[Zp,hx];rfl
    rw[Qe hkn,List.foldl_cons]at hrun
    have hml:(l.ents.map entA).length=l.ents.length:=Sx
    generalize its[k]=x at hx hxm hrun
    by_cases hk3:x.kind=3
    .have e:vi l x=⟨l.ents++[⟨x,l.next⟩],l.next+1,l.many+1⟩:=if_pos hk3
     rw[e]at hrun
     apply qe []
     repeat' (first|apply Qa|(intro h;try exact cDd)|(refine Qb (k) ⟨Om,_,hxm,?_⟩)|(refine Qb (k+1,⟨l.ents++[⟨x,l.next⟩],l.next+1,l.many+1⟩) ⟨⟨Om,by simp[hlk],by simp only;omega,hrun⟩,by simp only;omega,?_⟩)|exact cSd|apply qc []|refine exr ?_|refine qf ?_)
     all_goals (simp;done)
    .have e:vi l x=⟨l.ents++[⟨x,0⟩],l.next,l.many⟩:=if_neg hk3
     rw[e]at hrun
     apply qe []
     repeat' (first|apply Qa|(intro h;try exact cDd)|(refine Qb (k) ⟨Om,_,hxm,?_⟩)|(refine Qb (k+1,⟨l.ents++[⟨x,0⟩],l.next,l.many⟩) ⟨⟨Om,by simp[hlk],by simp only;omega,hrun⟩,by simp only;omega,?_⟩)|exact cSd|apply qc []|refine exr ?_|refine qf ?_)
     all_goals (simp;done)
   .have hkn:k=its.length:=by omega
    subst hkn
    rw[Zr]at hrun
    have e:ofF its=l:=hrun.symm
    rw[e]
    apply qe []
    repeat' (first|apply Qa|(intro h;try exact cDd)|exact cSd|apply qc []|refine exr ?_|refine qf ?_)
end Go.Proofs.YtapblfabkbdgcaaGreatDoor
namespace Go.Av
open Go Go.RowKit
theorem qij{E:Env}{rd:Option Nat}{N:Nat}{ops:Array Oper}{K:AS->Prop}{s:AS}{rest:List Oper}{d:Option Tmp}{T:TypeId}{p:String}{af:Array Edge}{x:Operand}{t t' te:TypeId}{sz:Nat}{xs:List AV}{tip:Option Nat}(hx:qg N s x=.sl sz xs tip)(hu:E.P.underlying t=some (.slice te))
  (h1:xs=[]->AOps E rd N ops rest K (s.put d (Bv true))) (h2:AOps E rd N ops rest K (s.put d (Bv false))):AOps E rd N ops (⟨d,.binOp .eql t x (.const (.slice none 0 0)) t',T,p,af,none⟩::rest) K s:=by
 refine qw rfl (qu nofun λB0 w0 G a w _ hI=>?_)
 have he:=hI.eval_of hx
 have key:∃q n c,a.eval x=.slice q n c∧(q.isNone=true->xs=[]):=by
  generalize a.eval x=u at he
  cases he with
  |sl0=>exact⟨_,_,_,rfl,λ_=>rfl⟩
  |sl=>exact⟨_,_,_,rfl,λh=>by simp at h⟩
 obtain⟨q,n,c,hv,hq0⟩:=key
 have hc:a.eval (.const (.slice none 0 0))=.slice none 0 0:=rfl
 have hq:=Lib.run_eql_slice_nil (P:=E.P) w t te q n c 0 0 hu
 refine⟨_,w,G,.v (.bool q.isNone),s.st,?_,.refl G,hI.agree,.v _,?_⟩
 .generalize a.eval=ρ at hv hc
  simp[execOp,hv,hc,eqGuard_at_slice,hq]
 .cases hb:q.isNone with
  |true=>exact h1 (hq0 hb)
  |false=>exact h2
theorem qbe.len0{c:AV}(h:qbe c):∀(G:Gh)(v:Value),Rel G c v->∃b n cp,v=.slice b n cp∧n<=cp:=λG v hv=>by
 obtain⟨base,rfl⟩:=h.val G v hv
 exact⟨_,_,_,rfl,Qi _⟩
end Go.Av
namespace Go.Proofs.YtapblfabkbdgcaaGreatDoor
open Go Go.Av Go.RowKit Go.Proofs Go.Pl
theorem qa5(fs:List Fld)(st:List AObj)(hl:fs.length<1000000):ql E 91 [q6 fs] st λr st'=>r=q6 fs∧st'=st:=by
 refine zr (qa8 _) (qy Tryz.func91 rfl (Qh rfl) ?_)
 have hml:(fs.map fldA).length=fs.length:=Sx
 rw[Qj]
 repeat' (first|(apply qdd (st:=st);(iterate 6 exact rfl))|(apply qij;exact rfl;exact rfl;intro h0)|apply qp|apply qj|apply qi|apply qm|apply qk|(apply qh;exact rfl;apply cd_t;exact cRa)|(apply qh;exact rfl;apply cd_f;exact cRa)|apply za|apply zg|(apply qv8 (b:=st.length) (xs:=[]) (ys:=fs.map fldA) (bytes:=32);(iterate 5 exact rfl);exact⟨⟨_,_,rfl,rfl,rfl,rfl,rfl⟩⟩;(focus (repeat' (first|assumption|exact za8 _ _ _ _|exact zej _ _ _ _ _ _ _|apply za9|apply q8c|(refine yv (T:=_) (ver:=_) (cs:=_) ?_)|exact wu|exact yc rfl|apply kp|apply vt|omega|apply qdf)));(exact qgj);(first|exact rfl|exact qd0 λ_=>rfl);((simp[maxLen];omega));((simp;omega));intro c' S' t1 g1 g2 g3 g4))
 .exact qs rfl (qab (zj rfl) (λG v h=>by
   rw[q6,h0]
   exact qal h)) ⟨rfl,_,(Qj st).symm⟩
 .exact qs rfl (qab (zj rfl) (qys g1)) ⟨rfl,qsi λj hj=>(g2.same j Om (Nat.lt_of_lt_of_le hj qgj)).trans (Ql hj)⟩
theorem q3b(es:List EntV)(st:List AObj)(hl:es.length<1000000):ql E 127 [.sl 4 (es.map entA) none] st λr st'=>OwnR 4 109 (es.map entA) st (.v undef) r st':=by
 refine qy Tryz.func127 rfl (Qh rfl) ?_
 have hml:(es.map entA).length=es.length:=Sx
 rw[Qj]
 by_cases he:es=[]
 .subst he
  repeat' (first|(apply qdd (st:=st);(iterate 6 exact rfl))|(apply qij;exact rfl;exact rfl;intro h0)|(apply qk1 (c:=.os st.length 0 0 0 0);exact rfl;exact(qlu _ _ _).len0;exactλ_ _ h=>h;exact rfl;exact rfl;exact⟨⟨_,_,rfl,rfl,rfl,rfl,rfl⟩⟩)|apply qp|apply qj|apply qi|apply qm|apply qk|(apply qh;exact rfl;apply cd_t;exact cRa)|(apply qh;exact rfl;apply cd_f;exact cRa)|apply za|apply zg)
  .exact qs rfl (zj rfl) ⟨.inl ⟨rfl,qox none⟩,Qi _,λ_ _ _=>rfl,λo ho=>by
   have ho:(none:Option Nat)=some o:=ho
   simp at ho⟩
  .exact qs rfl (zj rfl) ⟨.inl ⟨rfl,qlu _ _ _⟩,qgj,λj hj _=>Ql hj,λo ho=>by
   have ho:(none:Option Nat)=some o:=ho
   simp at ho⟩
 .have hne:es.map entA≠[]:=by simpa using he
  repeat' (first|(apply qdd (st:=st);(iterate 6 exact rfl))|(apply qij;exact rfl;exact rfl;intro h0)|(refine qa2 (ys:=es.map entA) (bytes:=56) (qlu _ _ _).val (λ_ _ h=>h) rfl rfl ⟨⟨_,_,rfl,rfl,rfl,rfl,rfl⟩⟩ (qd0 λ_=>rfl) hne (by simp[maxLen];omega) So λcap pad q1 q2 q3 q4=>?_)|apply qp|apply qj|apply qi|apply qm|apply qk|(apply qh;exact rfl;apply cd_t;exact cRa)|(apply qh;exact rfl;apply cd_f;exact cRa)|apply za|apply zg)
  .exact absurd h0 hne
  .refine qs rfl (zj rfl) ⟨.inr ⟨_,0,cap,pad,rfl,wu,q1,q2,q3,q4⟩,Zu qgj qgj,λj hj _=>?_,λo ho=>?_⟩
   .show((st++[_])++[_])[j]?=_
    rw[Ql So,Ql hj]
   .have ho':some (st++[AObj.cells 0 109 []]).length=some o:=ho
    simp only[Zo]at ho'
    left
    rw[<-ho']
    simp
end Go.Proofs.YtapblfabkbdgcaaGreatDoor
namespace Go.Pl
open Go Go.Proofs
def wv(id:Int):Nat->List EntV->Int
 |_,[]=> -1
 |k,e::r=>if e.id=id then(k:Int)else wv id (k+1) r
def atF(l:qo)(id:Int):Int:=if id<1 then -1 else wv id 0 l.ents
theorem qqr(id:Int):∀(es:List EntV)(k:Nat),wv id k es= -1∨∃i e,wv id k es=((k+i:Nat):Int)∧es[i]?=some e∧e.id=id
 | [],k=>.inl rfl
 |e::r,k=>by
  unfold wv
  by_cases h:e.id=id
  .rw[if_pos h]
   exact .inr ⟨0,e,Sx,rfl,h⟩
  .rw[if_neg h]
   rcases qqr id r (k+1)with g|⟨i,e',g1,g2,g3⟩
   .exact .inl g
   .exact .inr ⟨i+1,e',by rw[g1];congr 1;omega,by simpa using g2,g3⟩
theorem qd4(l:qo)(id:Int):atF l id= -1∨∃(i:Nat)(e:EntV),atF l id=(i:Int)∧l.ents[i]?=some e∧e.id=id∧1<=id:=by
 unfold atF
 by_cases h:id<1
 .exact .inl (if_pos h)
 .rw[if_neg h]
  rcases qqr id l.ents 0 with g|⟨i,e,g1,g2,g3⟩
  .exact .inl g
  .exact .inr ⟨i,e,by rw[g1];congr 1;omega,g2,g3,Om⟩
end Go.Pl
namespace Go.Proofs.YtapblfabkbdgcaaGreatDoor
open Go Go.Av Go.RowKit Go.Proofs Go.Pl
theorem zgf(e:EntV)(id:Int)(st:List AObj):ql E 196 [entA e,.pp [Iv id]] st λr st'=>r=Bv (decide (e.id=id))∧st'=st:=by
 refine q5 [.a (entA e),.a (.pp [Iv id])] (qt _) Tryz.func196 rfl rfl (λ_=>rfl) rfl λS0=>?_
 apply qe []
 repeat' (first|apply Qa|(intro h;try exact cDd)|exact cSd|apply qc []|refine exr ?_|refine qf ?_)
@[reducible] def atFn (id : Int) : SV := .fn (.func 196) [] [.a (.pp [Iv id])]
theorem zdc(l:qo)(st:List AObj):ql E 116 [vc l] st λr st'=>r=Iv l.next∧st'=st:=by
 refine q5 [.a (vc l)] (qt _) Tryz.func116 rfl rfl (λ_=>rfl) rfl λS0=>?_
 apply qe []
 repeat' (first|apply Qa|(intro h;try exact cDd)|exact cSd|apply qc []|refine exr ?_|refine qf ?_)
@[reducible] def lstH (a : Nat) (l : qo) : List (Nat × Option SR) := [(0, some (.cells 105 [.tp a, .i l.next, .i l.many])), (a, some (.own 4 109 (l.ents.map entA)))]
theorem q9o(es:List EntV)(id:Int)(hl:es.length<1000000):j9 E 195 [.tp 0,atFn id] 1 (hpF [(0,some (.own 4 109 (es.map entA)))]) ⟨.i (wv id 0 es),jt [(0,some (.own 4 109 (es.map entA)))],[(0,some (.own 4 109 (es.map entA)))]++ku [(0,some (.own 4 109 (es.map entA)))],1⟩:=by
 refine v8 [.tp 0,atFn id] [(0,some (.own 4 109 (es.map entA)))] 1 (.i (wv id 0 es)) [(0,some (.own 4 109 (es.map entA)))] 1 Tryz.func195 rfl rfl rfl rfl λS F ρ=>?_
 have hml:(es.map entA).length=es.length:=Sx
 apply qe []
 repeat' (first|apply Qa|(intro h;try exact cDd)|exact cSd|apply qc []|refine exr ?_|refine qf ?_)
 refine zl (X:=Nat) (λk=>⟨[(0,.tp 0),(1,atFn id),(7,.i es.length),(8,.i k)],[(0,some (.own 4 109 (es.map entA)))],1⟩) (λk=>k<=es.length∧wv id k (es.drop k)=wv id 0 es) (λk=>es.length-k) 0 ⟨Om,Sx⟩ ?_ ?_
 .skip
  repeat' (first|apply Qa|(intro h;try exact cDd)|exact cSd|apply qc []|refine exr ?_|refine qf ?_)
  all_goals (simp;done)
 .rintro k ⟨hk,hrun⟩
  by_cases hkn:k<es.length
  .have hx:es[k]?=some es[k]:=Qc hkn
   have hxm:(es.map entA)[k]?=some (entA es[k]):=by rw[Zp,hx];rfl
   rw[Qe hkn,wv]at hrun
   generalize es[k]=e at hx hxm hrun
   have h1:=λst=>zgf e id st
   by_cases hid:e.id=id
   .rw[if_pos hid]at hrun
    rw[decide_eq_true hid]at h1
    rw[<-hrun]
    apply qe []
    repeat' (first|apply Qa|(intro h;try exact cDd)|(refine qdg (i:=k) rfl rfl rfl rfl rfl rfl Om ?_)|(refine qhc (i:=k) (j:=0) rfl rfl rfl rfl hxm rfl rfl ?_)|exact⟨Tryz.call196⟩|refine cpe h1 ?_|exact cSd|apply qc []|refine exr ?_|refine qf ?_)
   .rw[if_neg hid]at hrun
    rw[decide_eq_false hid]at h1
    apply qe []
    repeat' (first|apply Qa|(intro h;try exact cDd)|(refine qdg (i:=k) rfl rfl rfl rfl rfl rfl Om ?_)|(refine qhc (i:=k) (j:=0) rfl rfl rfl rfl hxm rfl rfl ?_)|exact⟨Tryz.call196⟩|refine cpe h1 ?_|(refine Qb (k+1) ⟨⟨Om,hrun⟩,Om,?_⟩)|exact cSd|apply qc []|refine exr ?_|refine qf ?_)
  .have hkn:k=es.length:=by omega
   subst hkn
   rw[Zr,wv]at hrun
   rw[<-hrun]
   apply qe []
   repeat' (first|apply Qa|(intro h;try exact cDd)|exact cSd|apply qc []|refine exr ?_|refine qf ?_)
theorem qr9(l:qo)(id:Int)(hl:l.ents.length<1000000):j9 E 168 [.bx 0 0,.i id] 2 (hpF (lstH 1 l)) ⟨.i (atF l id),jt (lstH 1 l),lstH 1 l++ku (lstH 1 l),2⟩:=by
 refine v8 [.bx 0 0,.i id] (lstH 1 l) 2 (.i (atF l id)) (lstH 1 l) 2 Tryz.func168 rfl rfl rfl rfl λS F ρ=>?_
 unfold atF
 have h1:=q9o l.ents id hl
 by_cases h:id<1
 .rw[if_pos h]
  apply qe []
  repeat' (first|apply Qa|(intro h;try exact cDd)|exact cSd|apply qc []|refine exr ?_|refine qf ?_)
 .rw[if_neg h]
  apply qe []
  repeat' (first|apply Qa|(intro h;try exact cDd)|exact⟨Tryz.call195⟩|(refine jf h1 ?_)|exact cSd|apply qc []|refine exr ?_|refine qf ?_)
end Go.Proofs.YtapblfabkbdgcaaGreatDoor
