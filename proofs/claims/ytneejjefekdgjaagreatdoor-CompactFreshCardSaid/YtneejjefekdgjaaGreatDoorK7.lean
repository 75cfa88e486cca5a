/- Contracts and plain facts that the closing text leans on (part 7). No condition of their own beyond those that each states. -/
import Derived.Test.YtneejjefekdgjaaGreatDoorK6
import Derived.LaidEql
import Derived.Stop.Asserts
import Derived.RowKitTokens
import Derived.Lib.IfaceEq
import Derived.Laws.StructEq
set_option maxRecDepth 100000
set_option linter.unusedVariables false
set_option linter.unusedSimpArgs false
namespace Go.Pl
open Go Go.Proofs
def p0:PSt:=⟨[],0,false,[],[],[],0⟩
def runL:Nat→List (qa×Bool)→PSt→Option (Int×Int)×PSt
 | _,[],p=>endP p
 |k,(t,e)::r,p=>match (wz p k t e).1 with
  |some x=>(some x,p)
  |none=>runL (k+1) r (wz p k t e).2
def ja (text:qa):Option (Int×Int)×List ze:=match (runL 0 (zn text) p0).1 with
 |some e=>(some e,[])
 |none=>(none,(runL 0 (zn text) p0).2.items)
end Go.Pl
namespace Go.Proofs.YtneejjefekdgjaaGreatDoor
open Go Go.Av Go.RowKit Go.Proofs Go.Pl
theorem zaq (x:Option (Int×Int)):Pure (errP x):=by
 rcases x with _ | ⟨a,n⟩
 ·exact qq _
 ·exact qln a n
theorem q78 (f:Fld):qmj (fldA f):=fun x hx=>by
 simp only [AV.cells,List.mem_cons,List.not_mem_nil,or_false] at hx;rcases hx with rfl|rfl <;> exact qq _
theorem qb2 (fs:List Fld):Pure (jr fs):=qbq fun x hx=>by
 obtain⟨f,_,rfl⟩:=List.mem_map.1 hx;exact q78 f
theorem qdl (x:ze):qmj (jh x):=fun y hy=>by
 simp only [AV.cells,List.mem_cons,List.not_mem_nil,or_false] at hy;rcases hy with rfl|rfl|rfl
 ·exact qq _
 ·exact qq _
 ·exact qb2 _
theorem qak (xs:List ze):Pure (j5 xs):=qbq fun x hx=>by
 obtain⟨f,_,rfl⟩:=List.mem_map.1 hx;exact qdl f
theorem jg {x y:AV} (hx:Pure x) (hy:Pure y):Pure (.tu [x,y]):=qdo fun z hz=>by
 simp only [List.mem_cons,List.not_mem_nil,or_false] at hz;rcases hz with rfl|rfl
 ·exact hx
 ·exact hy
def qd9 (text:qa):AV:=.tu [j5 (ja text).2,errP (ja text).1]
theorem q40 (text:qa):Pure (qd9 text):=jg (qak _) (zaq _)
theorem qrf {S:List AObj} {o k:Nat} {x:AObj} (h:k≠o):(S.set o x)[k]? = S[k]?:=List.getElem?_set_ne (Ne.symm h)
theorem q8r:PB 0 p0:=⟨by omega,by simp [p0],by simp [p0],by simp [p0],by simp [p0],by simp [p0],by simp [p0],by simp [p0],by simp [p0]⟩
theorem qsz (text:qa) (st:List AObj) (hl:text.length≤60000):qo E 23 [Sv text] st fun r st'=>r=qd9 text∧st'=st:=by
 refine zg [.s text] (q40 text) Tryz.func23 rfl rfl (fun _=>rfl) rfl fun S0=>?_;apply qd [13];repeat' (first|apply And.intro|(intro h;try exact cDd)|exact⟨Tryz.call67⟩|(refine Exists.intro _ ⟨qnr _,?_⟩)|exact cSd|apply qb [13]|refine exr ?_|refine qe ?_)
 refine qhd (X:=PSt×Option (Int×Int)) text 4 5 [0,1,2,3,4] (fun (p,e)=>⟨[(2,.bx 0 0),(3,.bx 1 0),(4,.bx 2 0),(15,.fn (.func 121) [] [.bx 4 0])],
   [(0,some (.cells 47 [.a zp])),(1,some (.cells 24 [.a (errP e)])),(2,some (.cells 135 [.bx 3 0])),(3,some (.cells 140 [.tp 5,.i p.frm,.b p.full,.tp 6,.tp 7,.tp 8,.i p.records])),(4,some (.cells 9 [.s text])),
    (5,some (.tip 1 9 (p.lines.map fun x=>Sv x))),(6,some (.tip 3 52 (p.items.map jh))),(7,some (.tip 1 9 (p.block.map fun x=>Sv x))),(8,some (.tip 2 111 (p.fields.map fldA)))],9⟩) _
  (fun k rest (p,e)=>e=none∧PB (4 * k) p∧k+rest.length≤text.length∧runL 0 (zn text) p0=runL k (zn rest) p)
  (fun c (p,e)=>∃ a m,c = .ret∧e=some (a,m)∧(runL 0 (zn text) p0).1=some (a,m)) (p0,none) ⟨rfl,q8r,by omega,rfl⟩ ?_ id (by omega) (fun _=>rfl) rfl (fun _=>rfl) (fun _=>rfl) rfl ?_ ?_ ?_
 ·skip
  repeat' (first|apply And.intro|(intro h;try exact cDd)|exact cSd|apply qb []|refine exr ?_|refine qe ?_)
 ·rintro k rest ⟨p,e⟩ ⟨rfl,hB,hkl,a4⟩ a6 b0
  have dx:=wq a6;have hu:=kz 10 rest;have bd:=va 10 rest;have sc:0<rest.length:=List.length_pos_iff.2 a6;rw [dx] at a4;simp only [runL] at a4;unfold qm8;generalize p4:decide (10∈rest)=en at a4;generalize upto 10 rest=up at hu a4 ⊢;have dn:=qs2 (no:=k) (text:=up) (ended:=en) hB (by omega) (by omega)
  cases hah:(wz p k up en).1 with
  |some e=>
   obtain⟨a,m⟩:=e;rw [hah] at a4;simp only at a4;have d2:=zfc (4 * k) p k ((text.length:Int) - rest.length) up en hB (by omega) (by omega) a m hah;refine RA.mk fun S F ρ rd=>?_;apply qd [];repeat' (first|apply And.intro|(intro h;try exact cDd)|(refine RB.mk fun S rd=>?_;apply qd [])|exact⟨Tryz.call68⟩|(refine j6 d2 ?_)|(refine Exists.intro ((ju p k up en (qv up)).2,some (a,m)) ⟨⟨a,m,rfl,rfl,by rw [a4]⟩,?_⟩)|exact cSd|apply qb []|refine exr ?_|refine qe ?_)
   all_goals (rw [← p4];rfl)
  |none=>
   rw [hah] at a4;simp only at a4;have d2:=zfb (4 * k) p k ((text.length:Int) - rest.length) up en hB (by omega) (by omega) hah;refine RA.mk fun S F ρ rd=>?_;apply qd [];repeat' (first|apply And.intro|(intro h;try exact cDd)|(refine RB.mk fun S rd=>?_;apply qd [])|exact⟨Tryz.call68⟩|(refine j6 d2 ?_)|(refine Exists.intro ((wz p k up en).2,none) ⟨⟨rfl,dn,by omega,a4⟩,?_⟩)|exact cSd|apply qb []|refine exr ?_|refine qe ?_)
   all_goals (rw [← p4];rfl)
 ·rintro k ⟨p,e⟩ ⟨rfl,hB,hkl,a4⟩
  have rj:runL k (zn []) p=endP p:=by rw [vi];rfl
  rw [rj] at a4;have bj:=q6s (4 * k) p hB (by omega);generalize endP p=fq at a4 bj;obtain⟨fe,q⟩:=fq
  cases fe with
  |some e=>
   have hpf:qd9 text = .tu [j5 [],errP (some e)]:=by unfold qd9 ja;rw [a4]
   rw [hpf];obtain⟨a,m⟩:=e
   repeat' (first|apply And.intro|(intro h;try exact cDd)|exact⟨Tryz.call69⟩|(refine j6 bj ?_)|exact cSd|apply qb []|refine exr ?_|refine qe ?_)
  |none=>
   have hpf:qd9 text = .tu [j5 q.items,errP none]:=by unfold qd9 ja;rw [a4]
   rw [hpf];dsimp only at bj;repeat' (first|apply And.intro|(intro h;try exact cDd)|exact⟨Tryz.call69⟩|(refine j6 bj ?_)|exact cSd|apply qb []|refine exr ?_|refine qe ?_)
 ·rintro c ⟨p,e⟩ ⟨a,m,rfl,rfl,rj⟩
  have hpf:qd9 text = .tu [j5 [],errP (some (a,m))]:=by unfold qd9 ja;rw [rj]
  rw [hpf];repeat' (first|apply And.intro|(intro h;try exact cDd)|exact cSd|apply qb []|refine exr ?_|refine qe ?_)
end Go.Proofs.YtneejjefekdgjaaGreatDoor
namespace Go.Proofs.YtneejjefekdgjaaGreatDoor
open Go Go.RowKit Go.Extern.Stop Go.Stop Go.Extern Go.Proofs
theorem asT.valueOf27 (t:Addr) (w:World):(ReflectliteValue.unpack (.iface 305 (.pointer (some t)))).run Tryz.prog w
  = .ok (.agg #[.pointer (some ⟨9,305,none⟩),.pointer (some ⟨w.heap.size,0,none⟩),.int .u64 150]) (w.alloc (.cells #[.pointer (some t)] 305)):=by kernel_rfl
theorem asT.type27 (a : Addr) (w : World) : (ReflectliteValue.methodAny (ReflectliteValue.valueError "reflectlite.Value.Type" 0) (fun t _ _ _ => ReflectliteType.toType t) #[.agg #[.pointer (some ⟨9, 305, none⟩), .pointer (some a), .int .u64 150]]).run Tryz.prog w
  = .ok (.iface 381 (.agg #[.pointer (some ⟨9,305,none⟩)])) w:=by kernel_rfl
theorem asT.methodKind (h : Value) (w : World) : (Go.method 536 381 (.agg #[h]) "Kind").run Tryz.prog w = .ok (354, h) w := by kernel_rfl
theorem asT.kind27 (w:World):((ReflectliteType.abiMethod fun t=>(fun a:Nat=>Value.int IntKind.u8 (a:Int)) <$> Rtype.kind t) #[.pointer (some ⟨9,305,none⟩)]).run Tryz.prog w = .ok (.int .u8 22) w:=by kernel_rfl
theorem asT.kind25 (w:World):((ReflectliteType.abiMethod fun t=>(fun a:Nat=>Value.int IntKind.u8 (a:Int)) <$> Rtype.kind t) #[.pointer (some ⟨9,121,none⟩)]).run Tryz.prog w = .ok (.int .u8 22) w:=by kernel_rfl
theorem rlm (z:Sem Value) (f:TypeId→Addr→Nat→Nat→Sem Value) (v:Value) :
  ReflectliteValue.method z f #[v]=(do match ← ReflectliteValue.parts v with|none=>z|some (t,a,fl)=>f t a fl (fl % 32)):=rfl
theorem asT.parts27 (a:Addr) (w:World):(ReflectliteValue.parts (.agg #[.pointer (some ⟨9,305,none⟩),.pointer (some a),.int .u64 150])).run Tryz.prog w = .ok (some (305,a,150)) w:=by kernel_rfl
theorem asT.isNil27 (a p:Addr) (W:World) (ha:W.cell? a=some (.pointer (some p))) :
  (ReflectliteValue.method (ReflectliteValue.valueError "reflectlite.Value.IsNil" 0) ReflectliteValue.isNil #[.agg #[.pointer (some ⟨9, 305, none⟩), .pointer (some a), .int .u64 150]]).run Tryz.prog W = .ok (.bool false) W := by
 rw [rlm];simp only [Sem.run_bind,asT.parts27,Result.andThen];simp [ReflectliteValue.isNil,loadVar,isAgg,underlying,Tryz.underlying305,ha,Result.andThen]
theorem asT.methodElem (h : Value) (w : World) : (Go.method 536 381 (.agg #[h]) "Elem").run Tryz.prog w = .ok (372, .agg #[h]) w := by kernel_rfl
theorem asT.methodImplements (h : Value) (w : World) : (Go.method 536 381 (.agg #[h]) "Implements").run Tryz.prog w = .ok (373, .agg #[h]) w := by kernel_rfl
theorem asT.methodAssignableTo (h : Value) (w : World) : (Go.method 536 381 (.agg #[h]) "AssignableTo").run Tryz.prog w = .ok (370, .agg #[h]) w := by kernel_rfl
theorem asT.elem27 (w:World):(ReflectliteType.method ReflectliteType.elem #[.agg #[.pointer (some ⟨9,305,none⟩)]]).run Tryz.prog w = .ok (.iface 381 (.agg #[.pointer (some ⟨9,121,none⟩)])) w:=by kernel_rfl
theorem asT.implements25 (w : World) : (ReflectliteType.relation "Implements" ReflectliteType.implements_ #[.agg #[.pointer (some ⟨9, 121, none⟩)], .iface 381 (.agg #[.pointer (some ⟨9, 24, none⟩)])]).run Tryz.prog w = .ok (.bool true) w := by kernel_rfl
theorem asT.typeOf25 (v:Value) (w:World):(ReflectliteType.typeOf #[.iface 121 v]).run Tryz.prog w = .ok (.iface 381 (.agg #[.pointer (some ⟨9,121,none⟩)])) w:=by kernel_rfl
theorem asT.assignable25 (w : World) : (ReflectliteType.relation "AssignableTo" ReflectliteType.assignableTo #[.agg #[.pointer (some ⟨9, 121, none⟩)], .iface 381 (.agg #[.pointer (some ⟨9, 121, none⟩)])]).run Tryz.prog w = .ok (.bool true) w := by kernel_rfl
theorem asT.valueOf25 (e:Addr) (w:World):(ReflectliteValue.unpack (.iface 121 (.pointer (some e)))).run Tryz.prog w
  = .ok (.agg #[.pointer (some ⟨9,121,none⟩),.pointer (some ⟨w.heap.size,0,none⟩),.int .u64 150]) (w.alloc (.cells #[.pointer (some e)] 121)):=by kernel_rfl
theorem asT.elemOf27 (w:World):(Rtype.elem? 305).run Tryz.prog w = .ok (some 121) w:=by kernel_rfl
theorem asT.mk25 (p:Addr) (w:World):(ReflectliteValue.mk 121 p ReflectliteValue.flagAddr).run Tryz.prog w = .ok (.agg #[.pointer (some ⟨9,121,none⟩),.pointer (some p),.int .u64 406]) w:=by kernel_rfl
theorem asT.elemV27 (a p:Addr) (W:World) (ha:W.cell? a=some (.pointer (some p))) :
  (ReflectliteValue.method (ReflectliteValue.valueError "reflectlite.Value.Elem" 0) ReflectliteValue.elem #[.agg #[.pointer (some ⟨9, 305, none⟩), .pointer (some a), .int .u64 150]]).run Tryz.prog W
   = .ok (.agg #[.pointer (some ⟨9,121,none⟩),.pointer (some p),.int .u64 406]) W:=by
 rw [rlm];simp only [Sem.run_bind,asT.parts27,Result.andThen];simp [ReflectliteValue.elem,loadVar,isAgg,underlying,Tryz.underlying305,ha,Result.andThen,asT.elemOf27,asT.mk25]
theorem rls (v x:Value):ReflectliteValue.set #[v,x]=(do
  let (some (dst,a,fl),some (src,b,_)):=(← ReflectliteValue.parts v,← ReflectliteValue.parts x)
   | unsupported (.noEntry "extern/(internal/reflectlite.Value).Set.zeroValue")
  if fl / ReflectliteValue.flagAddr % 2 == 0 then unsupported (.noEntry "extern/(internal/reflectlite.Value).Set.unaddressable")
  let val ← loadVar src b
  if ← Rtype.directlyAssignable dst src then storeVar dst a val
  else if ← Rtype.implements dst src then
   if (← Rtype.kind src) == 20 then
    match val with
    | .nilIface => unsupported (.noEntry "extern/reflectlite: a nil value of one interface type handed on as a value of another")
    | _=>storeVar dst a val
   else storeVar dst a (.iface src val)
  else panicString ("reflectlite.Set: value of type " ++ (← Rtype.spelt src) ++ " is not assignable to type " ++ (← Rtype.spelt dst))
  pure (.tuple #[])):=rfl
theorem asT.parts25a (a:Addr) (w:World):(ReflectliteValue.parts (.agg #[.pointer (some ⟨9,121,none⟩),.pointer (some a),.int .u64 406])).run Tryz.prog w = .ok (some (121,a,406)) w:=by kernel_rfl
theorem asT.parts25 (a:Addr) (w:World):(ReflectliteValue.parts (.agg #[.pointer (some ⟨9,121,none⟩),.pointer (some a),.int .u64 150])).run Tryz.prog w = .ok (some (121,a,150)) w:=by kernel_rfl
theorem asT.direct25 (w:World):(Rtype.directlyAssignable 121 121).run Tryz.prog w = .ok true w:=by kernel_rfl
theorem asT.set25 (ta b e:Addr) (old:Value) (W:World) (hb:W.cell? b=some (.pointer (some e))) (ht:W.cell? ta=some old) (hf:W.frozen? ta=false) :
  (ReflectliteValue.set #[.agg #[.pointer (some ⟨9,121,none⟩),.pointer (some ta),.int .u64 406],.agg #[.pointer (some ⟨9,121,none⟩),.pointer (some b),.int .u64 150]]).run Tryz.prog W
   = .ok (.tuple #[]) (W.setCell ta (.pointer (some e))):=by
 rw [rls];simp only [Sem.run_bind,asT.parts25a,asT.parts25,Result.andThen];simp [ReflectliteValue.flagAddr,loadVar,isAgg,underlying,Tryz.underlying121,hb,Result.andThen,asT.direct25,storeVar,Value.cells,storeCells,Addr.add];rw [run_store Tryz.prog W ta _ _ (by rfl)];simp [ht,hf]
set_option maxHeartbeats 4000000 in
theorem zi9 (e t:Addr) (old:Value) (w:World) (hg:w.cell? ⟨3,0,none⟩=some (.iface 381 (.agg #[.pointer (some ⟨9,24,none⟩)]))) (ht0:w.cell? t=some old) (hf0:w.frozen? t=false) :
  Calls Tryz.prog 232 #[.iface 121 (.pointer (some e)),.iface 305 (.pointer (some t))] w fun ev w'=>ev = .returned (.bool true)∧w'=((((w.alloc (.cells #[.pointer (some t)] 305)).alloc (.cells #[.pointer (some ⟨9,305,none⟩),.pointer (some ⟨w.heap.size,0,none⟩),.int .u64 150] 347)).alloc (.cells #[.pointer (some ⟨9,305,none⟩),.pointer (some ⟨w.heap.size,0,none⟩),.int .u64 150] 347)).alloc (.cells #[.pointer (some e)] 121)).setCell t (.pointer (some e)):=by
 have h6:=@run_callFunc_extern Tryz.prog 289 _ (fun args=>ReflectliteValue.unpack (args.getD 0 (.tuple #[]))) Tryz.func289 (by kernel_rfl) (by kernel_rfl) (by kernel_rfl) (by kernel_rfl)
 have h7 := @run_callFunc_extern Tryz.prog 290 _ (ReflectliteValue.methodAny (ReflectliteValue.valueError "reflectlite.Value.Type" 0) (fun t _ _ _ => ReflectliteType.toType t)) Tryz.func290 (by kernel_rfl) (by kernel_rfl) (by kernel_rfl) (by kernel_rfl)
 have h8 := @run_callFunc_extern Tryz.prog 291 _ (ReflectliteValue.method (ReflectliteValue.valueError "reflectlite.Value.IsNil" 0) ReflectliteValue.isNil) Tryz.func291 (by kernel_rfl) (by kernel_rfl) (by kernel_rfl) (by kernel_rfl)
 have h27:=@run_callFunc_extern Tryz.prog 354 _ (ReflectliteType.abiMethod fun t=>do pure (.int .u8 (← Rtype.kind t))) Tryz.func354 (by kernel_rfl) (by kernel_rfl) (by kernel_rfl) (by kernel_rfl);have h37:=@run_callFunc_extern Tryz.prog 372 _ (ReflectliteType.method ReflectliteType.elem) Tryz.func372 (by kernel_rfl) (by kernel_rfl) (by kernel_rfl) (by kernel_rfl)
 have h38 := @run_callFunc_extern Tryz.prog 373 _ (ReflectliteType.relation "Implements" ReflectliteType.implements_) Tryz.func373 (by kernel_rfl) (by kernel_rfl) (by kernel_rfl) (by kernel_rfl)
 have b9:=@run_callFunc_extern Tryz.prog 318 _ ReflectliteType.typeOf Tryz.func318 (by kernel_rfl) (by kernel_rfl) (by kernel_rfl) (by kernel_rfl)
 have h35 := @run_callFunc_extern Tryz.prog 370 _ (ReflectliteType.relation "AssignableTo" ReflectliteType.assignableTo) Tryz.func370 (by kernel_rfl) (by kernel_rfl) (by kernel_rfl) (by kernel_rfl)
 have h11 := @run_callFunc_extern Tryz.prog 319 _ (ReflectliteValue.method (ReflectliteValue.valueError "reflectlite.Value.Elem" 0) ReflectliteValue.elem) Tryz.func319 (by kernel_rfl) (by kernel_rfl) (by kernel_rfl) (by kernel_rfl)
 have h12:=@run_callFunc_extern Tryz.prog 320 _ ReflectliteValue.set Tryz.func320 (by kernel_rfl) (by kernel_rfl) (by kernel_rfl) (by kernel_rfl);have tO:=asT.typeOf25;have mA:=asT.methodAssignableTo;have a25:=asT.assignable25;have v25:=asT.valueOf25;have f6:=asT.valueOf27;have f7:=asT.type27;have mK:=asT.methodKind;have mE:=asT.methodElem;have mI:=asT.methodImplements;have k27:=asT.kind27;have k25:=asT.kind25;have e27:=asT.elem27;have i25:=asT.implements25;have n8:=asT.isNil27 ⟨w.heap.size,0,none⟩ t ((w.alloc (.cells #[.pointer (some t)] 305)).alloc (.cells #[.pointer (some ⟨9,305,none⟩),.pointer (some ⟨w.heap.size,0,none⟩),.int .u64 150] 347)) (by simp)
 have b4:3<w.heap.size:=by
  rcases Nat.lt_or_ge 3 w.heap.size with h|h
  ·exact h
  ·simp [World.cell?,Array.getElem?_eq_none h] at hg
 have hg2:((w.alloc (.cells #[.pointer (some t)] 305)).alloc (.cells #[.pointer (some ⟨9,305,none⟩),.pointer (some ⟨w.heap.size,0,none⟩),.int .u64 150] 347)).cell? ⟨3,0,none⟩=some (.iface 381 (.agg #[.pointer (some ⟨9,24,none⟩)])):=by
  rw [World.cell?_alloc_lt _ _ ⟨3,0,none⟩ (by first|(simp;done)|(simp;omega)),World.cell?_alloc_lt _ _ ⟨3,0,none⟩ b4];exact hg
 have mz:t.block<w.heap.size:=by
  rcases Nat.lt_or_ge t.block w.heap.size with h|h
  ·exact h
  ·simp [World.cell?,Array.getElem?_eq_none h] at ht0
 have el:=asT.elemV27 ⟨w.heap.size,0,none⟩ t (((w.alloc (.cells #[.pointer (some t)] 305)).alloc (.cells #[.pointer (some ⟨9,305,none⟩),.pointer (some ⟨w.heap.size,0,none⟩),.int .u64 150] 347)).alloc (.cells #[.pointer (some ⟨9,305,none⟩),.pointer (some ⟨w.heap.size,0,none⟩),.int .u64 150] 347)) (by rw [World.cell?_alloc_lt _ _ ⟨w.heap.size,0,none⟩ (by first|(simp;done)|(simp;omega))];simp)
 have st:=asT.set25 t ⟨w.heap.size+1+1+1,0,none⟩ e old ((((w.alloc (.cells #[.pointer (some t)] 305)).alloc (.cells #[.pointer (some ⟨9,305,none⟩),.pointer (some ⟨w.heap.size,0,none⟩),.int .u64 150] 347)).alloc (.cells #[.pointer (some ⟨9,305,none⟩),.pointer (some ⟨w.heap.size,0,none⟩),.int .u64 150] 347)).alloc (.cells #[.pointer (some e)] 121))
  (by rw [World.cell?_alloc_at _ _ _ _ (by simp)];rfl)
  (by rw [World.cell?_alloc_lt _ _ t (by first|(simp;done)|(simp;omega)),World.cell?_alloc_lt _ _ t (by first|(simp;done)|(simp;omega)),World.cell?_alloc_lt _ _ t (by first|(simp;done)|(simp;omega)),World.cell?_alloc_lt _ _ t mz];exact ht0)
  (by rw [World.frozen?_alloc_old _ _ t (by first|(simp;done)|(simp;omega)),World.frozen?_alloc_old _ _ t (by first|(simp;done)|(simp;omega)),World.frozen?_alloc_old _ _ t (by first|(simp;done)|(simp;omega)),World.frozen?_alloc_old _ _ t (Nat.ne_of_lt mz)];exact hf0)
 go_enter Tryz.func232,Tryz.ntmps232
 go_wp2
 refine wp_loop_rounds 1 ?_;rw [rounds_succ]
 go_wp2
 go_ret
 exact⟨rfl,rfl⟩
theorem asT.typeOf31 (v:Value) (w:World):(ReflectliteType.typeOf #[.iface 62 v]).run Tryz.prog w = .ok (.iface 381 (.agg #[.pointer (some ⟨9,62,none⟩)])) w:=by kernel_rfl
theorem asT.assignable31 (w : World) : (ReflectliteType.relation "AssignableTo" ReflectliteType.assignableTo #[.agg #[.pointer (some ⟨9, 62, none⟩)], .iface 381 (.agg #[.pointer (some ⟨9, 121, none⟩)])]).run Tryz.prog w = .ok (.bool false) w := by kernel_rfl
theorem asT.no230 (v:Value) (xT:TypeId) (w:World):(Instr.typeAssert (.iface 62 v) xT 386 true).run Tryz.prog w = .ok (.tuple #[.nilIface,.bool false]) w:=run_typeAssert_lacksB Tryz.underlying386 (by kernel_rfl) (by kernel_rfl) v xT w
theorem asT.no233 (v:Value) (xT:TypeId) (w:World):(Instr.typeAssert (.iface 62 v) xT 389 true).run Tryz.prog w = .ok (.tuple #[.nilIface,.bool false]) w:=run_typeAssert_lacksB Tryz.underlying389 (by kernel_rfl) (by kernel_rfl) v xT w
theorem asT.no234 (v:Value) (xT:TypeId) (w:World):(Instr.typeAssert (.iface 62 v) xT 390 true).run Tryz.prog w = .ok (.tuple #[.nilIface,.bool false]) w:=run_typeAssert_lacksB Tryz.underlying390 (by kernel_rfl) (by kernel_rfl) v xT w
set_option maxHeartbeats 4000000 in
theorem zgv (n:Int) (t:Addr) (old:Value) (w:World) (hg:w.cell? ⟨3,0,none⟩=some (.iface 381 (.agg #[.pointer (some ⟨9,24,none⟩)]))) (ht0:w.cell? t=some old) :
  Calls Tryz.prog 232 #[.iface 62 (.int .i64 n),.iface 305 (.pointer (some t))] w fun ev w'=>ev = .returned (.bool false)∧Below w.heap.size w w':=by
 have h6:=@run_callFunc_extern Tryz.prog 289 _ (fun args=>ReflectliteValue.unpack (args.getD 0 (.tuple #[]))) Tryz.func289 (by kernel_rfl) (by kernel_rfl) (by kernel_rfl) (by kernel_rfl)
 have h7 := @run_callFunc_extern Tryz.prog 290 _ (ReflectliteValue.methodAny (ReflectliteValue.valueError "reflectlite.Value.Type" 0) (fun t _ _ _ => ReflectliteType.toType t)) Tryz.func290 (by kernel_rfl) (by kernel_rfl) (by kernel_rfl) (by kernel_rfl)
 have h8 := @run_callFunc_extern Tryz.prog 291 _ (ReflectliteValue.method (ReflectliteValue.valueError "reflectlite.Value.IsNil" 0) ReflectliteValue.isNil) Tryz.func291 (by kernel_rfl) (by kernel_rfl) (by kernel_rfl) (by kernel_rfl)
 have h27:=@run_callFunc_extern Tryz.prog 354 _ (ReflectliteType.abiMethod fun t=>do pure (.int .u8 (← Rtype.kind t))) Tryz.func354 (by kernel_rfl) (by kernel_rfl) (by kernel_rfl) (by kernel_rfl);have h37:=@run_callFunc_extern Tryz.prog 372 _ (ReflectliteType.method ReflectliteType.elem) Tryz.func372 (by kernel_rfl) (by kernel_rfl) (by kernel_rfl) (by kernel_rfl)
 have h38 := @run_callFunc_extern Tryz.prog 373 _ (ReflectliteType.relation "Implements" ReflectliteType.implements_) Tryz.func373 (by kernel_rfl) (by kernel_rfl) (by kernel_rfl) (by kernel_rfl)
 have b9:=@run_callFunc_extern Tryz.prog 318 _ ReflectliteType.typeOf Tryz.func318 (by kernel_rfl) (by kernel_rfl) (by kernel_rfl) (by kernel_rfl)
 have h35 := @run_callFunc_extern Tryz.prog 370 _ (ReflectliteType.relation "AssignableTo" ReflectliteType.assignableTo) Tryz.func370 (by kernel_rfl) (by kernel_rfl) (by kernel_rfl) (by kernel_rfl)
 have h11 := @run_callFunc_extern Tryz.prog 319 _ (ReflectliteValue.method (ReflectliteValue.valueError "reflectlite.Value.Elem" 0) ReflectliteValue.elem) Tryz.func319 (by kernel_rfl) (by kernel_rfl) (by kernel_rfl) (by kernel_rfl)
 have h12:=@run_callFunc_extern Tryz.prog 320 _ ReflectliteValue.set Tryz.func320 (by kernel_rfl) (by kernel_rfl) (by kernel_rfl) (by kernel_rfl);have tO:=asT.typeOf31;have mA:=asT.methodAssignableTo;have a25:=asT.assignable31;have f6:=asT.valueOf27;have f7:=asT.type27;have mK:=asT.methodKind;have mE:=asT.methodElem;have mI:=asT.methodImplements;have k27:=asT.kind27;have k25:=asT.kind25;have e27:=asT.elem27;have i25:=asT.implements25;have n8:=asT.isNil27 ⟨w.heap.size,0,none⟩ t ((w.alloc (.cells #[.pointer (some t)] 305)).alloc (.cells #[.pointer (some ⟨9,305,none⟩),.pointer (some ⟨w.heap.size,0,none⟩),.int .u64 150] 347)) (by simp)
 have b4:3<w.heap.size:=by
  rcases Nat.lt_or_ge 3 w.heap.size with h|h
  ·exact h
  ·simp [World.cell?,Array.getElem?_eq_none h] at hg
 have hg2:((w.alloc (.cells #[.pointer (some t)] 305)).alloc (.cells #[.pointer (some ⟨9,305,none⟩),.pointer (some ⟨w.heap.size,0,none⟩),.int .u64 150] 347)).cell? ⟨3,0,none⟩=some (.iface 381 (.agg #[.pointer (some ⟨9,24,none⟩)])):=by
  rw [World.cell?_alloc_lt _ _ ⟨3,0,none⟩ (by first|(simp;done)|(simp;omega)),World.cell?_alloc_lt _ _ ⟨3,0,none⟩ b4];exact hg
 have mz:t.block<w.heap.size:=by
  rcases Nat.lt_or_ge t.block w.heap.size with h|h
  ·exact h
  ·simp [World.cell?,Array.getElem?_eq_none h] at ht0
 have n1:=asT.no230;have n2:=asT.no233;have n3:=asT.no234
 go_enter Tryz.func232,Tryz.ntmps232
 go_wp2
 refine wp_loop_rounds 1 ?_;rw [rounds_succ]
 go_wp2
 go_ret
 exact⟨rfl,(((Below.refl _ _).alloc (Nat.le_refl _) _).alloc (by simp) _).alloc (by first|(simp;done)|(simp;omega)) _⟩
end Go.Proofs.YtneejjefekdgjaaGreatDoor
namespace Go.Proofs.YtneejjefekdgjaaGreatDoor
open Go Go.Av Go.RowKit Go.Proofs Go.Pl
theorem q5k {w:World} {b:Nat} {T:TypeId} {fz:Nat×Nat} {c:Array Value} (v:Value) (hc:w.heap[b]? = some (.cells c T fz)) (h1:c.size=1):w.setCell ⟨b,0,none⟩ v=w.setRow b #[v]:=by
 unfold World.setCell World.setRow;congr 1;apply Array.ext_getElem?;intro i;rw [Array.getElem?_modify,Array.getElem?_modify];by_cases hi:b=i
 ·subst hi
  rw [if_pos rfl,if_pos rfl,hc]
  have:c.setIfInBounds 0 v = #[v]:=by
   apply Array.ext
   ·simp [h1]
   ·intro i h2 h3
    have:i=0:=by simp at h3;omega
    subst this;simp
  simp [this]
 ·rw [if_neg hi,if_neg hi]
theorem zgu (a n:Int) (o:Nat) (st:List AObj) (ho:st[o]? = some (.cells 0 121 [.v (.pointer none)])):qo E 232 [qh7 a n,.ifc 305 (.bx o 0 0)] st fun r st'=>r=Bv true∧st'=st.set o (.cells 0 121 [.pp [Iv a,.ifc 62 (Iv n)]]):=by
 refine⟨fun B0 w0 G vals w hL hA hR=>?_⟩
 obtain⟨v1,v2,rfl⟩:∃ x y,vals = #[x,y]:=by
  have:=hR.1
  match vals,this with
  | ⟨[x,y]⟩,_=>exact⟨x,y,rfl⟩
 have h1:=hR.2 0 _ v1 rfl rfl;have h2:=hR.2 1 _ v2 rfl rfl;unfold qh7 at h1
 cases h1 with
 |ifc _ _ y1 h1=>
  cases h2 with
  |ifc _ _ y2 h2=>
   have hpp:=h1
   cases h1 with
   |pp _ b off pub hp a7 hr=>
    cases h2 with
    |bx _ _ _ b2 hn hv hb=>
     obtain⟨_,g1,g2,g3,c,g4,g5,g6⟩:=hA.ob o _ ho;have hb:=hb g1;subst hb;have hc1:c.size=1:=by simpa using g5.symm
     have hl:=(hL w hA.below).ert;have p9:w.cell? ⟨(G.ob o).blk,0,none⟩=some c[0]:=by simp [World.cell?,g4,hc1]
     have hfz:w.frozen? ⟨(G.ob o).blk,0,none⟩=false:=by simp [World.frozen?,g4]
     have b4:(G.ob o).blk<w.heap.size:=(Array.getElem?_eq_some_iff.1 g4).1;refine (zi9 ⟨b,off,none⟩ ⟨(G.ob o).blk,0,none⟩ c[0] w hl p9 hfz).mono ?_;rintro e w' ⟨rfl,rfl⟩
     have i5:Below w.heap.size w ((((w.alloc (.cells #[.pointer (some ⟨(G.ob o).blk,0,none⟩)] 305)).alloc (.cells #[.pointer (some ⟨9,305,none⟩),.pointer (some ⟨w.heap.size,0,none⟩),.int .u64 150] 347)).alloc (.cells #[.pointer (some ⟨9,305,none⟩),.pointer (some ⟨w.heap.size,0,none⟩),.int .u64 150] 347)).alloc (.cells #[.pointer (some ⟨b,off,none⟩)] 121)):=
      ((((Below.refl _ _).alloc (Nat.le_refl _) _).alloc (by simp) _).alloc (by first|(simp;done)|(simp;omega)) _).alloc (by first|(simp;done)|(simp;omega)) _
     have bw:=hA.fresh i5;obtain⟨_,k1,k2,k3,c',k4,k5,k6⟩:=bw.ob o _ ho;have hc1':c'.size=1:=by simpa using k5.symm
     refine⟨.bool true,G,Bv true,_,rfl,.refl G,?_,.v _,rfl,rfl⟩;rw [q5k _ k4 hc1']
     exact bw.setRow ho (by simp) fun i x y hx hy=>by
      match i with
      | 0=>simp at hx hy;subst hx;subst hy;exact hpp
      |i+1=>simp at hx
theorem zdl (n:Int) (o:Nat) (st:List AObj) (ho:st[o]? = some (.cells 0 121 [.v (.pointer none)])):qo E 232 [.ifc 62 (Iv n),.ifc 305 (.bx o 0 0)] st fun r st'=>r=Bv false∧st'=st:=by
 refine⟨fun B0 w0 G vals w hL hA hR=>?_⟩
 obtain⟨v1,v2,rfl⟩:∃ x y,vals = #[x,y]:=by
  have:=hR.1
  match vals,this with
  | ⟨[x,y]⟩,_=>exact⟨x,y,rfl⟩
 have h1:=hR.2 0 _ v1 rfl rfl;have h2:=hR.2 1 _ v2 rfl rfl
 cases h1 with
 |ifc _ _ y1 h1=>
  cases h2 with
  |ifc _ _ y2 h2=>
   cases h1 with
   |v=>
    cases h2 with
    |bx _ _ _ b2 hn hv hb=>
     obtain⟨_,g1,g2,g3,c,g4,g5,g6⟩:=hA.ob o _ ho;have hb:=hb g1;subst hb;have hc1:c.size=1:=by simpa using g5.symm
     have hl:=(hL w hA.below).ert;have p9:w.cell? ⟨(G.ob o).blk,0,none⟩=some c[0]:=by simp [World.cell?,g4,hc1]
     refine (zgv n ⟨(G.ob o).blk,0,none⟩ c[0] w hl p9).mono ?_;rintro e w' ⟨rfl,hb⟩;exact⟨_,G,Bv false,st,rfl,.refl G,hA.fresh hb,.v _,rfl,rfl⟩
end Go.Proofs.YtneejjefekdgjaaGreatDoor
namespace Go.Proofs.YtneejjefekdgjaaGreatDoor
open Go Go.Av Go.RowKit Go.Extern.Stop Go.Stop Go.Extern Go.Proofs
theorem isT.has (v:Value) (xT:TypeId) (w:World):(Instr.typeAssert (.iface 121 v) xT 389 true).run Tryz.prog w = .ok (.tuple #[.iface 121 v,.bool true]) w:=run_typeAssert_hasB Tryz.underlying389 (by kernel_rfl) v xT w
theorem isT.typeOf (v:Value) (w:World):(ReflectliteType.typeOf #[.iface 62 v]).run Tryz.prog w = .ok (.iface 381 (.agg #[.pointer (some ⟨9,62,none⟩)])) w:=by kernel_rfl
theorem isT.cmp (w : World) : (ReflectliteType.method (fun t => do Rtype.noPackHeld "Comparable" t; (fun a => Value.bool a.comparable) <$> typeInfo t) #[.agg #[.pointer (some ⟨9, 62, none⟩)]]).run Tryz.prog w = .ok (.bool true) w := by kernel_rfl
end Go.Proofs.YtneejjefekdgjaaGreatDoor
namespace Go.Pl
open Go Go.Proofs
inductive ErrV where
 |no
 |num (n:Int)
 |at' (a n:Int)
 deriving DecidableEq
def ErrV.code:ErrV→Int
 | .no=>0
 | .num n=>n
 | .at' _ n=>n
def ErrV.pos:ErrV→Int
 | .no=> -9
 | .num _=> -9
 | .at' a _=>a
def x6:Nat→List Fld→ErrV
 | _,[]=>.no
 |k,f::r=>if vd f=0 then x6 (k+1) r else .at' k (vd f)
def jx (fs:List Fld):ErrV:=if fs=[] then .num 2 else if 40<fs.length then .num 11 else x6 0 fs
theorem qot:∀ (k:Nat) (r:List Fld),(x6 k r).code=0↔x6 k r = .no
 |k,[]=>by simp [x6,ErrV.code]
 |k,f::r=>by
  unfold x6;split
  ·exact qot _ r
  ·rename_i h
   simp [ErrV.code,h]
theorem qjt (fs:List Fld):(jx fs).code=0↔jx fs = .no:=by
 unfold jx;split
 ·simp [ErrV.code]
 ·split
  ·simp [ErrV.code]
  ·exact qot _ _
end Go.Pl
namespace Go.Proofs.YtneejjefekdgjaaGreatDoor
open Go Go.Av Go.RowKit Go.Proofs Go.Pl
theorem qwo {st st':List AObj} (h:∀ k,k<st.length→st'[k]? = st[k]?):∃ ext,st'=st++ext:=by
 refine qmw ?_ h;rcases Nat.eq_zero_or_pos st.length with h0|h0
 ·omega
 ·have h1:=h (st.length - 1) (by omega)
  have h2:st[st.length - 1]? = some (st[st.length - 1]'(by omega)):=List.getElem?_eq_getElem (by omega);have:=lt_of_getElem? (h1.trans h2);omega
def gErr (x:qr):ErrV:=if x.kind=2 then (if x.fields=[] then .no else .num 2) else if x.kind=1∨x.kind=3 then jx x.fields else .num 2
def qa0:Nat→List qr→ErrV
 | _,[]=>.no
 |k,x::r=>if (gErr x).code=0 then qa0 (k+1) r else .at' k (gErr x).code
def eErr (b:List qr):ErrV:=if b.length<1∨40<b.length then .num 1 else qa0 0 b
theorem qo5 (x:qr):(gErr x).code=0↔gErr x = .no:=by
 unfold gErr;split
 ·split <;> simp [ErrV.code]
 ·split
  ·exact qjt _
  ·simp [ErrV.code]
theorem qt3:∀ (k:Nat) (r:List qr),(qa0 k r).code=0↔qa0 k r = .no
 |k,[]=>by simp [qa0,ErrV.code]
 |k,f::r=>by
  unfold qa0;split
  ·exact qt3 _ r
  ·rename_i h
   simp [ErrV.code] at h ⊢;exact h
theorem qdz (b:List qr):(eErr b).code=0↔eErr b = .no:=by
 unfold eErr;split
 ·simp [ErrV.code]
 ·exact qt3 _ _
def errA:ErrV→AV
 | .no=>.v .nilIface
 | .num n=>.ifc 62 (Iv n)
 | .at' a n=>.ifc 121 (.pp [Iv a,.ifc 62 (Iv n)])
theorem km (e:ErrV):Pure (errA e):=by
 cases e with
 |no=>exact qq _
 |num n=>exact qci (qq _)
 |at' a n=>exact qln a n
def KeyB (fs:List Fld):Prop:=∀ f∈fs,f.1.length<4294967281
theorem q1r {fs:List Fld} {i:Nat} {x:Fld} (h:fs[i]? = some x):(fs.map fldA)[i]? = some (fldA x):=by simp [h]
theorem qx7 {b:List qr} {i:Nat} {x:qr} (h:b[i]? = some x):(b.map ji)[i]? = some (ji x):=by simp [h]
theorem qxq {fs:List Fld} (h:¬ 0<fs.length):jx fs = .num 2:=if_pos (List.length_eq_zero_iff.1 (by omega))
theorem qts {fs:List Fld} (h:40<fs.length):jx fs = .num 11:=(if_neg fun h0=>by simp [h0] at h).trans (if_pos h)
theorem qxr {fs:List Fld} (h0:0<fs.length) (h:¬ 40<fs.length):jx fs=x6 0 fs:=(if_neg (List.length_pos_iff.1 h0)).trans (if_neg h)
theorem qnj (fs:List Fld) (st:List AObj) (e:ErrV) (h:jx fs=e) (hK:KeyB fs) (hl:fs.length<9223372036854775808):qo E 228 [jr fs] st fun r st'=>r=errA e∧st'=st:=by
 subst h;refine zg [.a (jr fs)] (km _) Tryz.func228 rfl rfl (fun _=>rfl) rfl fun S0=>?_;have e8:(fs.map fldA).length=fs.length:=by simp
 apply qd [];repeat' (first|apply And.intro|(intro h;try exact cDd)|exact cSd|apply qb []|refine exr ?_|refine qe ?_)
 ·rw [qxq (by omega)];rfl
 ·rw [qts (by omega)];rfl
 rw [qxr (by omega) (by omega)];refine zw (X:=Nat) (fun k=>⟨[(16,.a (jr fs)),(17,.i (fs.map fldA).length),(18,.i k)],[],0⟩) (fun k=>k≤fs.length∧x6 k (fs.drop k)=x6 0 fs) (fun k=>fs.length - k) 0 ⟨by omega,rfl⟩ ?_ ?_
 ·skip
  repeat' (first|apply And.intro|(intro h;try exact cDd)|exact cSd|apply qb []|refine exr ?_|refine qe ?_)
 ·rintro k ⟨hk,hc⟩
  by_cases b4:k<fs.length
  ·obtain⟨y,hy⟩:∃ y,fs[k]? = some y:=⟨_,List.getElem?_eq_getElem b4⟩
   have b5:=q1r hy;have ld:=hK y (List.mem_of_getElem? hy);obtain⟨_,hye⟩:=List.getElem?_eq_some_iff.1 hy;rw [List.drop_eq_getElem_cons b4,hye,x6] at hc;rw [← hc];by_cases ha:vd y=0
   ·have hc4:=fun st=>qjz y st ld ha
    apply qd [4];repeat' (first|apply And.intro|(intro h;try exact cDd)|(refine Exists.intro (k) ⟨by omega,_,b5,?_⟩)|exact⟨Tryz.call273⟩|refine cpe hc4 ?_|(refine Exists.intro (k+1) ⟨⟨by omega,by simp_all⟩,by omega,?_⟩)|exact cSd|apply qb [4]|refine exr ?_|refine qe ?_)
   ·have hc4:=fun st=>qj0 y st ld ha
    rw [if_neg ha];apply qd [4];repeat' (first|apply And.intro|(intro h;try exact cDd)|(refine Exists.intro (k) ⟨by omega,_,b5,?_⟩)|exact⟨Tryz.call273⟩|refine cpe hc4 ?_|exact cSd|apply qb [4]|refine exr ?_|refine qe ?_)
  ·rw [List.drop_eq_nil_of_le (by omega),x6] at hc
   rw [← hc];apply qd [];repeat' (first|apply And.intro|(intro h;try exact cDd)|exact cSd|apply qb []|refine exr ?_|refine qe ?_)
theorem zhi (x:qr) (st:List AObj) (e:ErrV) (h:gErr x=e) (hK:KeyB x.fields) (hl:x.fields.length<9223372036854775808):qo E 152 [ji x] st fun r st'=>r=errA e∧st'=st:=by
 subst h;refine zg [.a (ji x)] (km _) Tryz.func152 rfl rfl (fun _=>rfl) rfl fun S0=>?_;have e8:(x.fields.map fldA).length=x.fields.length:=by simp
 have p7:x.fields=[]↔x.fields.length=0:=by simp
 have hc6:=fun st=>qnj x.fields st _ rfl hK hl;unfold gErr;simp only [p7];generalize jx x.fields=e at *
 cases e
 all_goals apply qd [1]
 repeat' (first|apply And.intro|(intro h;try exact cDd)|exact⟨Tryz.call228⟩|refine cpe hc6 ?_|exact cSd|apply qb [1]|refine exr ?_|refine qe ?_)
 all_goals clear hc6
 all_goals grind [errA]
theorem zd9 (n:Int) (st:List AObj):qo E 157 [.ifc 62 (Iv n)] st fun r st'=>r = .ifc 62 (Iv n)∧st'=st:=by
 refine qx (qci (qq _)) (qp Tryz.func157 rfl (Nat.le_of_ble_eq_true rfl) ?_);repeat' (first|apply qn|apply qf|apply qh|apply qj|apply qg|(apply qc;exact rfl;apply cd_f;exact cRa)|(apply vh;exact rfl;exact rfl)|(apply jw;exact rfl;exact rfl)|apply qw|apply qt|(apply qk;exact Tryz.call232;exact zdl _ (st.length+0) _ (jy rfl)))
 exact qm rfl (q5 rfl) ⟨rfl,_,rfl⟩
theorem zd8 (a n:Int) (st:List AObj):qo E 157 [qh7 a n] st fun r st'=>r = .ifc 62 (Iv n)∧st'=st:=by
 refine qx (qci (qq _)) (qp Tryz.func157 rfl (Nat.le_of_ble_eq_true rfl) ?_);repeat' (first|apply qn|apply qf|apply qh|apply qj|apply qg|(apply qc;exact rfl;apply cd_t;exact cRa)|(apply vh;exact rfl;exact rfl)|(apply jw;exact rfl;exact rfl)|(apply xy;(iterate 4 exact rfl))|(apply jn;(iterate 3 exact rfl))|(apply wm;exact rfl;exact rfl)|apply qt|(apply qk;exact Tryz.call232;exact zgu a n (st.length+0) _ (jy rfl))|(apply vc;exact rfl;(focus first|assumption|(repeat' (first|assumption|exact x7|exact jy rfl|apply kq|apply vg|omega|apply qcf)));exact rfl;exact rfl))
 exact qm rfl (q5 rfl) ⟨rfl,qwo fun j hj=>(qrf (by omega)).trans (List.getElem?_append_left hj)⟩
theorem qsc (k:Int) (e:ErrV) (st:List AObj) (he:e.code≠0):qo E 95 [Iv k,errA e] st fun r st'=>r=errA (.at' k e.code)∧st'=st:=by
 refine qx (km _) (qp Tryz.func95 rfl (Nat.le_of_ble_eq_true rfl) ?_)
 cases e with
 |no=>exact absurd rfl he
 |num n=>
  repeat' (first|(apply qoh;(iterate 3 exact rfl))|apply qn|apply qf|apply qh|apply qj|apply qg|(apply vh;exact rfl;exact rfl)|(apply xw;(iterate 3 exact rfl))|apply qt|(apply qk;exact Tryz.call157;exact zd9 _ _))
  exact qm rfl (q5 rfl) ⟨rfl,_,rfl⟩
 |at' a n=>
  repeat' (first|(apply qoh;(iterate 3 exact rfl))|apply qn|apply qf|apply qh|apply qj|apply qg|(apply vh;exact rfl;exact rfl)|(apply xw;(iterate 3 exact rfl))|apply qt|(apply qk;exact Tryz.call157;exact zd8 a n _))
  exact qm rfl (q5 rfl) ⟨rfl,_,rfl⟩
structure EdB (x:qr):Prop where
 keys:KeyB x.fields
 len:x.fields.length<9223372036854775808
 id1 : -9223372036854775808≤x.id
 id2:x.id≤9223372036854775807
@[reducible] def jo (b : List qr) : AV := .sl 3 (b.map ji) none
theorem qmt (b:List qr) (st:List AObj) (e:ErrV) (h:eErr b=e) (hB:∀ x∈b,EdB x) (hl:b.length<9223372036854775808):qo E 92 [jo b] st fun r st'=>r=errA e∧st'=st:=by
 subst h;refine zg [.a (jo b)] (km _) Tryz.func92 rfl rfl (fun _=>rfl) rfl fun S0=>?_;have e8:(b.map ji).length=b.length:=by simp
 have h1:b.length<1∨40<b.length→eErr b = .num 1:=fun h=>if_pos h;have hr:¬ (b.length<1∨40<b.length)→eErr b=qa0 0 b:=fun h=>if_neg h;apply qd [];repeat' (first|apply And.intro|(intro h;try exact cDd)|exact cSd|apply qb []|refine exr ?_|refine qe ?_)
 ·rw [h1 (by omega)];rfl
 ·rw [h1 (by omega)];rfl
 rw [hr (by omega)];refine zw (X:=Nat) (fun k=>⟨[(15,.a (jo b)),(16,.i (b.map ji).length),(17,.i k)],[],0⟩) (fun k=>k≤b.length∧qa0 k (b.drop k)=qa0 0 b) (fun k=>b.length - k) 0 ⟨by omega,rfl⟩ ?_ ?_
 ·skip
  repeat' (first|apply And.intro|(intro h;try exact cDd)|exact cSd|apply qb []|refine exr ?_|refine qe ?_)
 ·rintro k ⟨hk,hc⟩
  by_cases b4:k<b.length
  ·obtain⟨y,hy⟩:∃ y,b[k]? = some y:=⟨_,List.getElem?_eq_getElem b4⟩
   have b5:=qx7 hy;have ld:=hB y (List.mem_of_getElem? hy);obtain⟨_,hye⟩:=List.getElem?_eq_some_iff.1 hy;rw [List.drop_eq_getElem_cons b4,hye,qa0] at hc;have hc9:=fun st=>zhi y st _ rfl ld.keys ld.len;have hcf:=fun st=>qsc k (gErr y) st;rw [← hc]
   cases hg:gErr y
   all_goals rw [hg] at hc hc9 hcf
   ·apply qd [4]
    repeat' (first|apply And.intro|(intro h;try exact cDd)|(refine Exists.intro (k) ⟨by omega,_,b5,?_⟩)|exact⟨Tryz.call152⟩|refine cpe hc9 ?_|(refine Exists.intro (k+1) ⟨⟨by omega,(if_pos rfl).symm⟩,by omega,?_⟩)|exact cSd|apply qb [4]|refine exr ?_|refine qe ?_)
   all_goals have hgc:=fun h=>qo5 y |>.1 h
   all_goals rw [hg] at hgc
   all_goals rw [if_neg fun h=>nomatch hgc h]
   ·have hcg:=fun st=>hcf st fun h=>nomatch hgc h
    apply qd [4];repeat' (first|apply And.intro|(intro h;try exact cDd)|(refine Exists.intro (k) ⟨by omega,_,b5,?_⟩)|exact⟨Tryz.call152⟩|refine cpe hc9 ?_|exact⟨Tryz.call95⟩|refine cpe hcg ?_|exact cSd|apply qb [4]|refine exr ?_|refine qe ?_)
   ·have hcg:=fun st=>hcf st fun h=>nomatch hgc h
    apply qd [4];repeat' (first|apply And.intro|(intro h;try exact cDd)|(refine Exists.intro (k) ⟨by omega,_,b5,?_⟩)|exact⟨Tryz.call152⟩|refine cpe hc9 ?_|exact⟨Tryz.call95⟩|refine cpe hcg ?_|exact cSd|apply qb [4]|refine exr ?_|refine qe ?_)
  ·rw [List.drop_eq_nil_of_le (by omega),qa0] at hc
   rw [← hc];apply qd [];repeat' (first|apply And.intro|(intro h;try exact cDd)|exact cSd|apply qb []|refine exr ?_|refine qe ?_)
theorem q6u (a b:Int):Pure (.tu [Iv a,Iv b]):=jg (qq _) (qq _)
theorem qkb (fs:List Fld) (st:List AObj) (hK:KeyB fs) (hl:fs.length<9223372036854775808):qo E 233 [jr fs] st fun r st'=>r = .tu [Iv (jx fs).pos,Iv (jx fs).code]∧st'=st:=by
 refine zg [.a (jr fs)] (q6u _ _) Tryz.func233 rfl rfl (fun _=>rfl) rfl fun S0=>?_;have e8:(fs.map fldA).length=fs.length:=by simp
 apply qd [];repeat' (first|apply And.intro|(intro h;try exact cDd)|exact cSd|apply qb []|refine exr ?_|refine qe ?_)
 ·rw [qxq (by omega)];rfl
 ·rw [qts (by omega)];rfl
 rw [qxr (by omega) (by omega)];refine zw (X:=Nat) (fun k=>⟨[(0,.a (jr fs)),(4,.i k)],[],0⟩) (fun k=>k≤fs.length∧x6 k (fs.drop k)=x6 0 fs) (fun k=>fs.length - k) 0 ⟨by omega,rfl⟩ ?_ ?_
 ·skip
  repeat' (first|apply And.intro|(intro h;try exact cDd)|exact cSd|apply qb []|refine exr ?_|refine qe ?_)
 ·rintro k ⟨hk,hc⟩
  by_cases b4:k<fs.length
  ·obtain⟨y,hy⟩:∃ y,fs[k]? = some y:=⟨_,List.getElem?_eq_getElem b4⟩
   have b5:=q1r hy;have ld:=hK y (List.mem_of_getElem? hy);obtain⟨_,hye⟩:=List.getElem?_eq_some_iff.1 hy;rw [List.drop_eq_getElem_cons b4,hye,x6] at hc;have hc4:=fun st=>q29 y st ld;rw [← hc];apply qd [];repeat' (first|apply And.intro|(intro h;try exact cDd)|(refine Exists.intro (k) ⟨by omega,_,b5,?_⟩)|exact⟨Tryz.call293⟩|refine cpe hc4 ?_|(refine Exists.intro (k+1) ⟨⟨by omega,by simp_all⟩,by omega,?_⟩)|exact cSd|apply qb []|refine exr ?_|refine qe ?_)
   all_goals (rw [if_neg (by assumption)];rfl)
  ·rw [List.drop_eq_nil_of_le (by omega),x6] at hc
   rw [← hc];apply qd [];repeat' (first|apply And.intro|(intro h;try exact cDd)|exact cSd|apply qb []|refine exr ?_|refine qe ?_)
theorem q49 (x:qr) (st:List AObj) (hK:EdB x):qo E 158 [ji x] st fun r st'=>r=Iv (gErr x).code∧st'=st:=by
 refine zg [.a (ji x)] (qq _) Tryz.func158 rfl rfl (fun _=>rfl) rfl fun S0=>?_;have e8:(x.fields.map fldA).length=x.fields.length:=by simp
 have p7:x.fields=[]↔x.fields.length=0:=by simp
 have hc6:=fun st=>qkb x.fields st hK.keys hK.len
 have hg:(gErr x).code=if x.kind=2 then (if x.fields.length=0 then 0 else 2) else if x.kind=1∨x.kind=3 then (jx x.fields).code else 2:=by
  unfold gErr;simp only [apply_ite ErrV.code,p7];rfl
 rw [hg];generalize (jx x.fields).code=c at *;apply qd [1];repeat' (first|apply And.intro|(intro h;try exact cDd)|exact⟨Tryz.call233⟩|refine cpe hc6 ?_|exact cSd|apply qb [1]|refine exr ?_|refine qe ?_)
 all_goals clear hc6
 all_goals refine congrArg Iv ?_
 all_goals omega
theorem qpt (b:List qr) (st:List AObj) (hB:∀ x∈b,EdB x) (hl:b.length<9223372036854775808):qo E 96 [jo b] st fun r st'=>r = .tu [Iv (eErr b).pos,Iv (eErr b).code]∧st'=st:=by
 refine zg [.a (jo b)] (q6u _ _) Tryz.func96 rfl rfl (fun _=>rfl) rfl fun S0=>?_;have e8:(b.map ji).length=b.length:=by simp
 have h1:b.length<1∨40<b.length→eErr b = .num 1:=fun h=>if_pos h;have hr:¬ (b.length<1∨40<b.length)→eErr b=qa0 0 b:=fun h=>if_neg h;apply qd [];repeat' (first|apply And.intro|(intro h;try exact cDd)|exact cSd|apply qb []|refine exr ?_|refine qe ?_)
 ·rw [h1 (by omega)];rfl
 ·rw [h1 (by omega)];rfl
 rw [hr (by omega)];refine zw (X:=Nat) (fun k=>⟨[(0,.a (jo b)),(4,.i k)],[],0⟩) (fun k=>k≤b.length∧qa0 k (b.drop k)=qa0 0 b) (fun k=>b.length - k) 0 ⟨by omega,rfl⟩ ?_ ?_
 ·skip
  repeat' (first|apply And.intro|(intro h;try exact cDd)|exact cSd|apply qb []|refine exr ?_|refine qe ?_)
 ·rintro k ⟨hk,hc⟩
  by_cases b4:k<b.length
  ·obtain⟨y,hy⟩:∃ y,b[k]? = some y:=⟨_,List.getElem?_eq_getElem b4⟩
   have b5:=qx7 hy;have ld:=hB y (List.mem_of_getElem? hy);obtain⟨_,hye⟩:=List.getElem?_eq_some_iff.1 hy;rw [List.drop_eq_getElem_cons b4,hye,qa0] at hc;have hc9:=fun st=>q49 y st ld;rw [← hc];apply qd [];repeat' (first|apply And.intro|(intro h;try exact cDd)|(refine Exists.intro (k) ⟨by omega,_,b5,?_⟩)|exact⟨Tryz.call158⟩|refine cpe hc9 ?_|(refine Exists.intro (k+1) ⟨⟨by omega,by simp_all⟩,by omega,?_⟩)|exact cSd|apply qb []|refine exr ?_|refine qe ?_)
   all_goals (rw [if_neg (by assumption)];rfl)
  ·rw [List.drop_eq_nil_of_le (by omega),qa0] at hc
   rw [← hc];apply qd [];repeat' (first|apply And.intro|(intro h;try exact cDd)|exact cSd|apply qb []|refine exr ?_|refine qe ?_)
def okE:ErrV→Prop
 | .no=>True
 | .num n=>n≠0
 | .at' _ n=>n≠0
theorem za9 (e:ErrV) (st:List AObj) (he:okE e):qo E 16 [errA e] st fun r st'=>r=Iv e.code∧st'=st:=by
 refine qx (qq _) (qp Tryz.func16 rfl (Nat.le_of_ble_eq_true rfl) ?_)
 cases e with
 |no=>
  repeat' (first|apply qn|apply qy|apply qf|apply qh|apply qj|apply qg)
  refine jv (fun (k:Unit) s=>StA [(0,.v .nilIface),(7,Iv 0)] (st++[]) [] s) (fun k=>0) () (zz ⟨rfl,rfl,trivial⟩) ?_;rintro k _ ⟨t,rfl⟩;repeat' (first|apply qn|apply qy|apply qf|apply qh|apply qj|apply qg|(apply qs;(iterate 3 exact rfl))|(apply qc;exact rfl;apply vf;exact cAo)|(apply qc;exact rfl;apply cd_t;exact cRa)|(apply qde;exact rfl;exact rfl)|apply qw|apply qt)
  exact qm rfl (q5 rfl) ⟨rfl,_,rfl⟩
 |num n=>
  have hk:n≠0:=he;repeat' (first|apply qn|apply qy|apply qf|apply qh|apply qj|apply qg)
  refine jv (fun (k:Unit) s=>StA [(0,errA (.num n)),(7,Iv 0)] (st++[]) [] s) (fun k=>0) () (zz ⟨rfl,rfl,trivial⟩) ?_;rintro k _ ⟨t,rfl⟩;repeat' (first|apply qn|apply qy|apply qf|apply qh|apply qj|apply qg|(apply zf;exact rfl;exact rfl)|(apply qs;(iterate 3 exact rfl))|(apply qu;(iterate 4 exact rfl))|(apply yu;exact cRa)|(apply qi;exact rfl;apply pk_t;exact cRa)|(apply qc;exact rfl;apply vf;exact cAo)|(apply qc;exact rfl;apply cd_f;exact cRa)|(apply qaw;exact rfl;exact rfl)|apply qw|apply qt|(apply qed;(iterate 3 exact rfl)))
  exact qm rfl (q5 rfl) ⟨rfl,_,rfl⟩
 |at' a n=>
  have hk:n≠0:=he;repeat' (first|apply qn|apply qy|apply qf|apply qh|apply qj|apply qg)
  refine jv (fun (j:Nat) s=>(j=0∧StA [(0,errA (.at' a n)),(7,Iv 0)] (st++[]) [] s)∨(j=1∧StA [(0,errA (.num n)),(7,Iv 1)] (st++[]) [] s)) (fun j=>1 - j) 0 (.inl ⟨rfl,zz ⟨rfl,rfl,trivial⟩⟩) ?_;rintro j _ (⟨rfl,t,rfl⟩ | ⟨rfl,t,rfl⟩)
  ·skip
   repeat' (first|apply qn|apply qy|apply qf|apply qh|apply qj|apply qg|(apply zf;exact rfl;exact rfl)|(apply qs;(iterate 3 exact rfl))|(apply z7;exact rfl)|(apply qu;(iterate 4 exact rfl))|(apply y5;exact cRa)|(apply qd3;exact cRa)|(apply w9;exact cRa)|(apply qi;exact rfl;apply qer;exact cRa)|(apply qi;exact rfl;apply pk_f;exact cRa)|(apply qc;exact rfl;apply vf;exact cAo)|(apply qc;exact rfl;apply cd_f;exact cRa)|(apply zl;exact rfl;exact rfl;exact q6 (by omega) (by omega))|(apply qaw;exact rfl;exact rfl)|(apply xy;(iterate 4 exact rfl))|(apply jn;(iterate 3 exact rfl))|(apply wm;exact rfl;exact rfl)|(apply qax;(iterate 3 exact rfl))|apply qw|(apply qkm;(iterate 5 exact rfl))|(apply qed;(iterate 3 exact rfl)))
   exact⟨1,.inr ⟨rfl,zz ⟨rfl,rfl,trivial⟩⟩,by omega⟩
  ·skip
   repeat' (first|apply qn|apply qy|apply qf|apply qh|apply qj|apply qg|(apply zf;exact rfl;exact rfl)|(apply qs;(iterate 3 exact rfl))|(apply qu;(iterate 4 exact rfl))|(apply yu;exact cRa)|(apply qi;exact rfl;apply pk_t;exact cRa)|(apply qc;exact rfl;apply vf;exact cAo)|(apply qc;exact rfl;apply cd_f;exact cRa)|(apply qaw;exact rfl;exact rfl)|apply qw|apply qt|(apply qed;(iterate 3 exact rfl)))
   exact qm rfl (q5 rfl) ⟨rfl,_,rfl⟩
theorem zgb (e:ErrV) (st:List AObj):qo E 17 [errA e] st fun r st'=>r=Iv e.pos∧st'=st:=by
 refine qx (qq _) (qp Tryz.func17 rfl (Nat.le_of_ble_eq_true rfl) ?_)
 cases e with
 |no=>
  repeat' (first|apply qn|apply qf|apply qh|apply qj|apply qg|(apply zf;exact rfl;exact rfl)|(apply qu;(iterate 4 exact rfl))|(apply w9;exact cRa)|(apply qi;exact rfl;apply pk_f;exact cRa)|(apply qc;exact rfl;apply cd_f;exact cRa)|apply qw|apply qt|(apply qv3;(iterate 4 exact rfl)))
  exact qm rfl (q5 rfl) ⟨rfl,_,rfl⟩
 |num n=>
  repeat' (first|apply qn|apply qf|apply qh|apply qj|apply qg|(apply zf;exact rfl;exact rfl)|(apply qu;(iterate 4 exact rfl))|(apply w9;exact cRa)|(apply qi;exact rfl;apply pk_f;exact cRa)|(apply qc;exact rfl;apply cd_f;exact cRa)|apply qw|apply qt|(apply qkm;(iterate 5 exact rfl)))
  exact qm rfl (q5 rfl) ⟨rfl,_,rfl⟩
 |at' a n=>
  repeat' (first|apply qn|apply qf|apply qh|apply qj|apply qg|(apply zf;exact rfl;exact rfl)|(apply qu;(iterate 4 exact rfl))|(apply yu;exact cRa)|(apply qi;exact rfl;apply pk_t;exact cRa)|(apply qc;exact rfl;apply qi0;exact cRa)|(apply xy;(iterate 4 exact rfl))|(apply jn;(iterate 3 exact rfl))|(apply wm;exact rfl;exact rfl)|(apply qfc;(iterate 3 exact rfl))|apply qt|(apply qed;(iterate 3 exact rfl)))
  exact qm rfl (q5 rfl) ⟨rfl,_,rfl⟩
def kc (x:qr):qa:=kg x++[10]++qah [32,32] (zu x.fields)
def encF (b:List qr):qa:=b.flatMap kc
theorem q1h (a b:List qr):encF (a++b)=encF a++encF b:=by simp [encF]
theorem q1i (x:qr):encF [x]=kc x:=by simp [encF]
theorem qtu:∀ (k:Nat) (r:List Fld),x6 k r = .no↔∀ f∈r,ka f
 |k,[]=>by simp [x6]
 |k,f::r=>by
  unfold x6;split
  ·rename_i h
   rw [qtu (k+1) r];have:=(qdj f).1 h;simp [this]
  ·rename_i h
   have h2:¬ ka f:=fun g=>h ((qdj f).2 g);simp [h2]
theorem qei {fs:List Fld} (h:jx fs = .no):fs≠[]∧fs.length≤40∧∀ f∈fs,ka f:=by
 unfold jx at h;split at h
 ·exact absurd h (by simp)
 ·split at h
  ·exact absurd h (by simp)
  ·exact⟨by assumption,by omega,(qtu _ _).1 h⟩
theorem qjk {x:qr} (h:gErr x = .no):x.fields.length≤40∧∀ f∈x.fields,ka f:=by
 unfold gErr at h;split at h
 ·split at h
  ·rename_i h0;rw [h0];simp
  ·exact absurd h (by simp)
 ·split at h
  ·exact (qei h).2
  ·exact absurd h (by simp)
theorem q1f:∀ (k:Nat) (b:List qr),qa0 k b = .no↔∀ x∈b,gErr x = .no
 |k,[]=>by simp [qa0]
 |k,x::b=>by
  unfold qa0;split
  ·rename_i h
   rw [q1f (k+1) b];have:=(qo5 x).1 h;simp [this]
  ·rename_i h
   have h2:¬ gErr x = .no:=fun g=>h ((qo5 x).2 g);simp [h2]
theorem qdk {b:List qr} (h:eErr b = .no):1≤b.length∧b.length≤40∧∀ x∈b,gErr x = .no:=by
 unfold eErr at h;split at h
 ·exact absurd h (by simp)
 ·exact⟨by omega,by omega,(q1f _ _).1 h⟩
theorem qug {fs:List Fld} (hl:fs.length≤40) (h:∀ f∈fs,ka f):qzx fs:=⟨by omega,fun f hf=>by
 have:=h f hf;have h1:=this.1.2.1;have h2:=this.2
 omega⟩
theorem que (xs:List FldV) (st:List AObj) (hl:xs.length≤40) (h:∀ f∈xs,ka f):qo E 167 [jr xs] st fun r st'=>r = .tu [Sv (zu xs),.v .nilIface]∧st'=st:=by
 have:=zjn xs st (qug hl h);unfold quc at this;have h0:=(qoz xs).2 h;rw [if_pos h0,h0] at this;exact this
theorem qlo (l:qa):(qah [32,32] l).length≤3 * l.length:=by
 unfold qah;obtain⟨h1,h2⟩:=qf2 _ l (Nat.le_refl _);have:=qm3 [32,32] (zn l);simp only [List.length_cons,List.length_nil] at this;omega
theorem qpc (x:qr) (h1 : -9223372036854775808≤x.id) (h2:x.id≤9223372036854775807):(kg x).length≤100:=by
 have hn:=Lib.itoa_length_le x.id h1 h2;unfold kg yw;split
 ·split
  ·simp;omega
  ·split
   ·simp;omega
   ·split <;> simp <;> omega
 ·simp
theorem q73 {x:qr} (hB:EdB x) (h:gErr x = .no):(kc x).length≤700000:=by
 obtain⟨hl,hg⟩:=qjk h;have h1:=qfz x.fields hg;have h2:=qlo (zu x.fields);have h3:=qpc x hB.id1 hB.id2;unfold kc;simp only [List.length_append,List.length_cons,List.length_nil];omega
theorem qmv:∀ (b:List qr),(∀ x∈b,EdB x)→(∀ x∈b,gErr x = .no)→(encF b).length≤700000 * b.length
 | [],_,_=>by simp [encF]
 |x::r,hB,h=>by
  have ih:=qmv r (fun y hy=>hB y (by simp [hy])) (fun y hy=>h y (by simp [hy]));have h1:=q73 (hB x (by simp)) (h x (by simp));have e:encF (x::r)=kc x++encF r:=by simp [encF]
  rw [e,List.length_append,List.length_cons];omega
set_option maxHeartbeats 2000000 in
theorem qya (b:List qr) (st:List AObj) (hB:∀ x∈b,EdB x) (he:eErr b = .no):qo E 103 [jo b] st fun r st'=>r = .tu [Sv (encF b),.v .nilIface]∧st'=st:=by
 refine qx (jg (qq _) (qq _)) (qp Tryz.func103 rfl (Nat.le_of_ble_eq_true rfl) ?_);have e8:(b.map ji).length=b.length:=by simp
 obtain⟨i5,hb40,hg⟩:=qdk he;have gb:=qmv b hB hg;repeat' (first|(apply qhk;exact rfl)|apply qn|apply qy|apply qf|apply qh|apply qj|apply qg|(apply qc;exact rfl;apply cd_f;exact cRa)|(apply jm;(iterate 4 exact rfl))|(apply vw;exact rfl;exact rfl)|apply qw|(apply qk;exact Tryz.call92;exact qmt _ _ _ he hB (by omega)))
 refine qbv b (fun pre s=>∃ q,(q = .v (.pointer none)∨q = .bx (st.length+0) 0 0)∧StE [(5,.bx (st.length+0) 0 0),(15,jo b),(16,Iv b.length),(17,Iv pre.length)] st [bldO 0 q (encF pre) (st.length+1),.tip (encF pre).length 1 5] s) ⟨_,.inl rfl,qez ⟨rfl,rfl,congrArg (fun n:Nat=>Iv (n:Int)) e8,rfl,trivial⟩ rfl⟩ ?_ ?_
 ·rintro _ ⟨q,hq,t,ext,rfl⟩
  repeat' (first|apply qn|apply qf|apply qh|apply qg|(apply qs;(iterate 3 exact rfl))|(apply qc;exact rfl;apply vr;exact cAo)|apply jd|apply qt|(refine qk Tryz.call171 (qhn st _ _ _ _ 0 1 0 _ _ rfl rfl rfl) ?_))
  exact qm rfl (ki rfl) ⟨rfl,qa9 _ _ _ _⟩
 ·rintro pre x rest _ hr ⟨q,hq,t,ext,rfl⟩
  have a7:b.length=pre.length+(rest.length+1):=by rw [hr];simp
  have b5:(b.map ji)[pre.length]? = some (ji x):=by rw [hr];simp
  have rp:=hB x (by rw [hr];simp);have hxg:=hg x (by rw [hr];simp);obtain⟨d8,hfg⟩:=qjk hxg;have bd:=qmv pre (fun y hy=>hB y (by rw [hr];simp [hy])) (fun y hy=>hg y (by rw [hr];simp [hy]));have dj:=qpc x rp.id1 rp.id2;have hfo:=qfz x.fields hfg;have pd:=qlo (zu x.fields);repeat' (first|apply qn|apply qy|apply qf|apply qh|apply qj|apply qg|(apply zf;exact rfl;exact rfl)|(apply qs;(iterate 3 exact rfl))|(apply qc;exact rfl;apply vf;exact cAo)|(apply qc;exact rfl;apply cd_f;exact cRa)|(apply jp;exact rfl;exact rfl;exact cOs)|(apply vw;exact rfl;exact rfl)|(apply jw;exact rfl;exact rfl)|(apply zj;(iterate 3 exact rfl))|(apply jn;(iterate 3 exact rfl))|(apply jl;(iterate 5 exact rfl))|(apply z4;(iterate 11 exact rfl))|(apply v6;(iterate 9 exact rfl))|apply qw|(apply qk;exact Tryz.call167;exact que _ _ d8 hfg)|(apply qk;exact Tryz.call169;exact zjx _ _ rp.id1 rp.id2)|(apply qk;exact Tryz.call170;exact zek _ _ _ (by omega) (by decide))|(apply kp (n:=pre.length);(iterate 5 exact rfl);exact b5))
  refine qk Tryz.call168 (qiw st _ _ _ _ 0 1 0 _ _ _ rfl rfl ?_ ?_ rfl) ?_;(exact hq);(simp only [List.length_append,List.length_cons,List.length_nil];omega);repeat' (first|apply qf|apply qh|apply qj|(apply zl;exact rfl;exact rfl;exact q6 (by omega) (by omega)))
  refine⟨_,.inr rfl,qbh ⟨rfl,rfl,rfl,?_,trivial⟩ ?_⟩
  ·rw [qdc pre x];rfl
  ·have e:encF (pre++[x])=encF pre++((kg x++[10])++qah [32,32] (zu x.fields)):=by rw [q1h,q1i];rfl
   rw [e];rfl
theorem qky (b:List qr) (st:List AObj) (e:ErrV) (hB:∀ x∈b,EdB x) (hl:b.length<9223372036854775808) (he:eErr b=e) (h0:e.code≠0):qo E 103 [jo b] st fun r st'=>r = .tu [Sv [],errA e]∧st'=st:=by
 refine qx (jg (qq _) (km _)) (qp Tryz.func103 rfl (Nat.le_of_ble_eq_true rfl) ?_)
 cases e with
 |no=>exact absurd rfl h0
 |num n=>
  repeat' (first|apply qn|apply qf|apply qh|apply qj|apply qg|(apply qc;exact rfl;apply cd_t;exact cRa)|(apply w6;exact rfl;exact rfl)|apply qt|(apply qk;exact Tryz.call92;exact qmt _ _ _ he hB hl))
  exact qm rfl (ki rfl) ⟨rfl,_,rfl⟩
 |at' a n=>
  repeat' (first|apply qn|apply qf|apply qh|apply qj|apply qg|(apply qc;exact rfl;apply cd_t;exact cRa)|(apply w6;exact rfl;exact rfl)|apply qt|(apply qk;exact Tryz.call92;exact qmt _ _ _ he hB hl))
  exact qm rfl (ki rfl) ⟨rfl,_,rfl⟩
end Go.Proofs.YtneejjefekdgjaaGreatDoor
namespace Go.Av
open Go Go.RowKit
theorem qs5 {b:Nat} {st l:List AObj} {sz:Nat} {T:TypeId} {xs:List AV} {c:AV} (h:TipO b st sz T xs c):TipO b (st++l) sz T xs c:=by
 rcases h with h|h
 ·exact .inl (qkg h)
 ·exact .inr h
theorem q63 {b:Nat} {st st':List AObj} {sz:Nat} {T:TypeId} {xs:List AV} {c:AV} (hs:∀ (t m sz:Nat) (T:TypeId),st[t]? = some (AObj.tip m sz T)→st'[t]? = st[t]?) (h:TipO b st sz T xs c):TipO b st' sz T xs c:=by
 rcases h with (h | ⟨t,h1,h2,h3⟩)|h
 ·exact .inl (.inl h)
 ·exact .inl (.inr ⟨t,h1,(hs t _ _ _ h2).trans h2,h3⟩)
 ·exact .inr h
end Go.Av
namespace Go.Proofs.YtneejjefekdgjaaGreatDoor
open Go Go.Av Go.RowKit Go.Proofs Go.Pl
theorem qg9 {st l:List AObj}:st.length≤(st++l).length:=by simp
theorem qza {b o:Nat} {st:List AObj} {sz:Nat} {T:TypeId} {xs:List AV} {c:AV} {x:AObj} (h:TipO b st sz T xs c) (hn:qj5 st[o]?):TipO b (st.set o x) sz T xs c:=
 q63 (fun t m sz T ht=>List.getElem?_set_ne (fun e=>by subst e;exact hn _ _ _ ht)) h
structure OutI (st:List AObj) (S:List AObj):Prop where
 low:∀ j,j<st.length→S[j]? = st[j]?
 len:st.length≤S.length
theorem OutI.pre {st S l:List AObj} (h:OutI st S):OutI st (S++l):=⟨fun j hj=>(List.getElem?_append_left (by have:=h.len;omega)).trans (h.low j hj),by have:=h.len;simp;omega⟩
theorem OutI.set {st S:List AObj} {o:Nat} {x:AObj} (h:OutI st S) (ho:st.length≤o):OutI st (S.set o x):=⟨fun j hj=>(qrf (by omega)).trans (h.low j hj),by have:=h.len;simp;omega⟩
theorem OutI.fr {st S S':List AObj} {t:Nat} (h:OutI st S) (hf:Fr S S' t) (ht:st.length≤t):OutI st S':=⟨fun j hj=>(hf.same j (by omega) (by have:=h.len;omega)).trans (h.low j hj),Nat.le_trans h.len hf.len⟩
theorem OutI.ext {st S:List AObj} (h:OutI st S):∃ ext,S=st++ext:=qwo h.low
theorem qc3 {E:Env} {rd:Option Nat} {N:Nat} {ops:Array Oper} {K:AS→Prop} {s:AS} {rest:List Oper} {d:Option Tmp} {T:TypeId} {p:String} {af:Array Edge} {t e:TypeId} {len sz:Nat} {agg:Bool} {parts:Array (Nat×Operand)} {zs cs:List AV} {st:List AObj} (b7:s.st=st) (hu:E.P.underlying t=some (.slice e)) (ht:tyOf E.P e=some (sz,agg)) (hz:qg0 E.P e len=some zs)
  (hf:qc7 (fun i=>some (i * sz,sz)) zs (wd N s parts)=some cs) (d9:Nat.ble (len * sz) 16777216=true)
  (h:AOps E rd N ops rest K (AS.put ⟨s.t,st++[.cells 0 e cs],s.df⟩ d (.os st.length 0 0 len len))):AOps E rd N ops (⟨d,.buildSlice t len parts,T,p,af,none⟩::rest) K s:=
 qbe (loc:=[]) (by rw [b7];simp) hu ht hz hf d9 h
theorem qhp (x:qr):qmj (ji x):=fun y hy=>by
 simp only [AV.cells,List.mem_cons,List.not_mem_nil,or_false] at hy;rcases hy with rfl|rfl|rfl
 ·exact qq _
 ·exact qq _
 ·exact qb2 _
theorem qe5 (b:List qr):Pure (jo b):=qbq fun x hx=>by
 obtain⟨f,_,rfl⟩:=List.mem_map.1 hx;exact qhp f
theorem zet {α β : Type} (g : α→β) (l:List α) (a : α):(l++[a]).map g=l.map g++[g a]:=by simp
def tryB (k:Int) (l:qa):Option Int:=if yw k <+: l then (match Lib.atoiAll (l.drop (yw k).length) with
 | .ok n=>some n
 | _=>none) else none
def begE (l:qa):Option (Int×Int):=match tryB 1 l with
 |some n=>some (1,n)
 |none=>match tryB 2 l with
  |some n=>some (2,n)
  |none=>match tryB 3 l with
   |some n=>some (3,n)
   |none=>none
def begA:Option (Int×Int)→AV
 |some (k,n)=>.tu [ji ⟨k,n,[]⟩,Bv true]
 |none=>.tu [ji ⟨0,0,[]⟩,Bv false]
theorem q90 (x:Option (Int×Int)):Pure (begA x):=by
 rcases x with _ | ⟨k,n⟩
 ·exact jg (yg (qhp _)) (qq _)
 ·exact jg (yg (qhp _)) (qq _)
theorem qzc (k n:Int):Weak (.ag [Iv k,Iv n,zp]) (ji ⟨k,n,[]⟩):=
 zi3 rfl fun i x y hx hy=>by
  match i with
  | 0=>simp at hx hy;subst hx;subst hy;exact qcb _
  | 1=>simp at hx hy;subst hx;subst hy;exact qcb _
  | 2=>simp at hx hy;subst hx;subst hy;exact qgy 2
  |i+3=>simp at hx
theorem q70 (l m:qa) (st:List AObj) (h:m <+: l):qo E 260 [Sv l,Sv m] st fun r st'=>r = .tu [Sv (l.drop m.length),Bv true]∧st'=st:=by
 have:=qe4 l m st;rw [qdg h,(ye l m).2 h] at this;exact this
theorem q71 (l m d:qa) (st:List AObj) (h:m <+: l) (hd:l.drop m.length=d):qo E 260 [Sv l,Sv m] st fun r st'=>r = .tu [Sv d,Bv true]∧st'=st:=by
 subst hd;exact q70 l m st h
theorem q7z (l m:qa) (st:List AObj) (h:¬ m <+: l):qo E 260 [Sv l,Sv m] st fun r st'=>r = .tu [Sv l,Bv false]∧st'=st:=by
 have:=qe4 l m st
 have hf:Lib.hasPrefix l m=false:=by
  cases hb:Lib.hasPrefix l m with
  |false=>rfl
  |true=>exact absurd ((ye l m).1 hb) h
 have ht:Lib.trimPrefix l m=l:=by
  unfold Lib.trimPrefix;rw [if_neg (by simp [hf])]
 rw [ht,hf] at this;exact this
theorem zgx {l:qa} {k:Nat} {n:Int} (h1:1≤k) (h3:k≤3) (h:∀ j:Nat,1≤j→j<k→tryB j l=none) (hk:tryB k l=some n):begE l=some ((k:Int),n):=by
 have:k=1∨k=2∨k=3:=by omega
 rcases this with rfl|rfl|rfl
 ·have p1:tryB 1 l=some n:=hk
  simp [begE,p1]
 ·have e1:tryB 1 l=none:=h 1 (by omega) (by omega)
  have p1:tryB 2 l=some n:=hk;simp [begE,e1,p1]
 ·have e1:tryB 1 l=none:=h 1 (by omega) (by omega)
  have e2:tryB 2 l=none:=h 2 (by omega) (by omega);have p1:tryB 3 l=some n:=hk;simp [begE,e1,e2,p1]
theorem q92 {l:qa} (h:∀ j:Nat,1≤j→j<4→tryB j l=none):begE l=none:=by
 have e1:tryB 1 l=none:=h 1 (by omega) (by omega);have e2:tryB 2 l=none:=h 2 (by omega) (by omega);have e3:tryB 3 l=none:=h 3 (by omega) (by omega);simp [begE,e1,e2,e3]
theorem zc8 {k:Nat} (h1:1≤k) (h3:k≤3):qcd (k:Int)≠[]∧([32]++qcd (k:Int))++[32]=yw (k:Int)∧(qcd (k:Int)).length≤10:=by
 have:k=1∨k=2∨k=3:=by omega
 rcases this with rfl|rfl|rfl <;> decide
set_option maxHeartbeats 2000000 in
theorem zgz (l:qa) (st:List AObj) (hl:l.length<1000000):qo E 207 [Sv l] st fun r st'=>r=begA (begE l)∧st'=st:=by
 refine qx (q90 _) (qp Tryz.func207 rfl (Nat.le_of_ble_eq_true rfl) ?_);repeat' (first|apply qn|apply qy|apply qf|apply qh|apply qg|(apply jw;exact rfl;exact rfl))
 refine jv (fun (k:Nat) s=>1≤k∧k≤4∧(∀ j:Nat,1≤j→j<k→tryB j l=none)∧StE [(0,Sv l),(2,.bx (st.length+0) 0 0),(4,Iv k)] st [.cells 0 113 [Iv 0,Iv 0,zp]] s) (fun k=>4 - k) 1 ⟨by omega,by omega,fun j h1 h2=>by omega,qez ⟨rfl,rfl,rfl,trivial⟩ rfl⟩ ?_;rintro k _ ⟨p1,hk4,bv,t,ext,rfl⟩;by_cases h4:k=4
 ·subst h4
  have hw:qcd ((4:Nat):Int)=[]:=by decide
  rw [q92 bv];repeat' (first|apply qn|apply qf|apply qh|apply qj|apply qg|(apply jk;(iterate 3 exact rfl))|(apply qc;exact rfl;apply cd_f;exact cRa)|(apply qeh;(iterate 11 exact rfl))|(apply xw;(iterate 3 exact rfl))|apply jd|apply qt|(apply qk;exact Tryz.call239;exact qvz _ _))
  refine qm rfl (xu (qq3 rfl rfl rfl rfl rfl rfl) (qfs (qzc 0 0) (qcb _))) ⟨rfl,qa9 _ _ _ _⟩
 ·obtain⟨hw,hm,hwl⟩:=zc8 p1 (by omega)
  by_cases hp:yw (k:Int) <+: l
  ·have mv:([32]++qcd (k:Int))++[32] <+: l:=by rw [hm];exact hp
   obtain⟨d,hd0⟩:∃ d,d=l.drop (yw (k:Int)).length:=⟨_,rfl⟩;have hd:l.drop ((([32]:qa)++qcd (k:Int))++[32]).length=d:=by rw [hm,hd0]
   have hdl:d.length<1000000:=by rw [hd0,List.length_drop];omega
   repeat' (first|apply qn|apply qy|apply qf|apply qh|apply qj|apply qg|(apply zf;exact rfl;exact rfl)|(apply jk;(iterate 3 exact rfl))|(apply qc;exact rfl;apply vf;exact cAo)|(apply jp;exact rfl;exact rfl;exact cOs)|apply qw|(apply qk;exact Tryz.call239;exact qvz _ _)|(apply qk;exact Tryz.call260;exact q71 _ _ _ _ mv hd))
   refine qft Tryz.call73 ((qon d _ (by omega)).mono ?_);rintro _ _ ⟨rfl,n,x,rfl,hx⟩;rw [hd0] at hx;rcases x with _ | ⟨t',y⟩
   ·simp only at hx
    have nc:tryB (k:Int) l=some n:=by unfold tryB;rw [if_pos hp,hx]
    rw [zgx p1 (by omega) bv nc];repeat' (first|apply qn|apply qf|apply qh|apply qj|apply qg|(apply zf;exact rfl;exact rfl)|(apply qu;(iterate 4 exact rfl))|(apply yu;exact cRa)|(apply qi;exact rfl;apply pk_t;exact cRa)|(apply qc;exact rfl;apply cd_t;exact cRa)|(apply qde;exact rfl;exact rfl)|(apply qeh;(iterate 11 exact rfl))|(apply xw;(iterate 3 exact rfl))|apply qt)
    refine qm rfl (xu (qq3 rfl rfl rfl rfl rfl rfl) (qfs (qzc k n) (qcb _))) ⟨rfl,qa9 _ _ _ _⟩
   ·simp only at hx
    have nc:tryB (k:Int) l=none:=by
     unfold tryB;rw [if_pos hp];split
     ·rename_i v hv;exact absurd hv (hx v)
     ·rfl
    repeat' (first|apply qn|apply qf|apply qh|apply qj|apply qg|(apply zf;exact rfl;exact rfl)|(apply qu;(iterate 4 exact rfl))|(apply yu;exact cRa)|(apply qi;exact rfl;apply pk_t;exact cRa)|(apply qc;exact rfl;apply cd_f;exact cRa)|(apply zl;exact rfl;exact rfl;exact q6 (by omega) (by omega))|(apply qaw;exact rfl;exact rfl)|apply qw)
    refine⟨k+1,⟨by omega,by omega,fun j h1 h2=>?_,qbh ⟨rfl,rfl,rfl,trivial⟩ rfl⟩,by omega⟩;by_cases hjk:j=k
    ·subst hjk;exact nc
    ·exact bv j h1 (by omega)
  ·have mv:¬ ([32]++qcd (k:Int))++[32] <+: l:=by rw [hm];exact hp
   have nc:tryB (k:Int) l=none:=by unfold tryB;rw [if_neg hp]
   repeat' (first|apply qn|apply qy|apply qf|apply qh|apply qj|apply qg|(apply zf;exact rfl;exact rfl)|(apply jk;(iterate 3 exact rfl))|(apply qc;exact rfl;apply vf;exact cAo)|(apply jp;exact rfl;exact rfl;exact cOs)|apply qw|(apply qk;exact Tryz.call239;exact qvz _ _)|(apply qk;exact Tryz.call260;exact q7z _ _ _ mv))
   refine qft Tryz.call73 ((qon l _ (by omega)).mono ?_);rintro _ _ ⟨rfl,n,x,rfl,hx⟩;rcases x with _ | ⟨t',y⟩
   all_goals
    repeat' (first|apply qn|apply qf|apply qh|apply qj|apply qg|(apply zf;exact rfl;exact rfl)|(apply qu;(iterate 4 exact rfl))|(apply w9;exact cRa)|(apply qi;exact rfl;apply pk_f;exact cRa)|(apply qc;exact rfl;apply cd_f;exact cRa)|(apply zl;exact rfl;exact rfl;exact q6 (by omega) (by omega))|apply qw)
    refine⟨k+1,⟨by omega,by omega,fun j h1 h2=>?_,qbh ⟨rfl,rfl,rfl,trivial⟩ rfl⟩,by omega⟩;by_cases hjk:j=k
    ·subst hjk;exact nc
    ·exact bv j h1 (by omega)
def recsF (its:List ze):List (List Fld):=(its.filter fun x=>decide (x.kind=3)).map ze.fields
@[reducible] def zgj (ls : List (List Fld)) : AV := .sl 1 (ls.map jr) none
theorem q88 (ls:List (List Fld)):Pure (zgj ls):=qbq fun x hx=>by
 obtain⟨f,_,rfl⟩:=List.mem_map.1 hx;intro y hy;simp only [AV.cells,List.mem_cons,List.not_mem_nil,or_false] at hy;subst hy;exact qb2 _
theorem q46 (l:List ze) (x:ze) (h:x.kind=3):recsF (l++[x])=recsF l++[x.fields]:=by simp [recsF,h]
theorem q47 (l:List ze) (x:ze) (h:¬ x.kind=3):recsF (l++[x])=recsF l:=by simp [recsF,h]
theorem zi0 {b t1:Nat} {st st':List AObj} {sz:Nat} {T:TypeId} {xs:List AV} {c c0:AV} {sz0:Nat} {xs0:List AV} (hf:Fr st st' t1) (o9:c0 = .sl sz0 xs0 (some t1)∨st.length≤t1) (h0:∀ t,c0≠.sl sz0 xs0 (some t)) (h:TipO b st sz T xs c):TipO b st' sz T xs c:=
 q63 (fun t m sz T ht=>hf.same t (fun e=>by
  subst e;rcases o9 with o9|o9
  ·exact h0 _ o9
  ·have:=lt_of_getElem? ht;omega) (lt_of_getElem? ht)) h
theorem zf6 {b t1:Nat} {st st':List AObj} {sz:Nat} {T:TypeId} {xs:List AV} {c:AV} {sz0:Nat} {xs0:List AV} {o v f l k:Nat} (hf:Fr st st' t1) (o9:AV.os o v f l k = .sl sz0 xs0 (some t1)∨st.length≤t1) (h:TipO b st sz T xs c):TipO b st' sz T xs c:=
 zi0 hf o9 (by simp) h
set_option maxHeartbeats 2000000 in
theorem zco (its:List ze) (st:List AObj) (hl:its.length<1000000) (hf:∀ x∈its,x.fields.length<1000000):qo E 24 [j5 its] st fun r st'=>r=zgj (recsF its)∧st'=st:=by
 refine qx (q88 _) (qp Tryz.func24 rfl (Nat.le_of_ble_eq_true rfl) ?_);have e8:(its.map jh).length=its.length:=by simp
 rw [List.append_nil];repeat' (first|apply qn|apply qy|apply qf|apply qh|apply qj|apply qg|(apply jm;(iterate 4 exact rfl)))
 refine qbv its (fun pre s=>∃ c S,OutI st S∧TipO st.length S 1 50 ((recsF pre).map jr) c∧StA [(3,c),(6,j5 its),(7,Iv its.length),(8,Iv pre.length)] S [] s) ⟨_,st,⟨fun _ _=>rfl,Nat.le_refl _⟩,q3y ..,zz ⟨rfl,rfl,congrArg (fun n:Nat=>Iv (n:Int)) e8,rfl,trivial⟩⟩ ?_ ?_
 ·rintro _ ⟨c,S,hO,hT,t,rfl⟩
  repeat' (first|apply qn|apply qf|apply qh|apply qj|apply qg|(apply qs;(iterate 3 exact rfl))|(apply qc;exact rfl;apply vr;exact cAo)|apply jd|apply qt)
  exact qm rfl (xu (q5 rfl) (qnp hT)) ⟨rfl,hO.ext⟩
 ·rintro pre x rest _ hr ⟨c,S,hO,hT,t,rfl⟩
  have a7:its.length=pre.length+(rest.length+1):=by rw [hr];simp
  have b5:(its.map jh)[pre.length]? = some (jh x):=by rw [hr];simp
  have hxf:=hf x (by rw [hr];simp);have bd:(recsF pre).length≤pre.length:=by unfold recsF;rw [List.length_map];exact List.length_filter_le _ _
  have hSl:=hO.len;have hO1:OutI st ((S++[AObj.cells 0 52 [Iv 0,Sv [],zp]]).set S.length (.cells 0 52 (jh x).cells)):=hO.pre.set hSl;have hT1:TipO st.length ((S++[AObj.cells 0 52 [Iv 0,Sv [],zp]]).set S.length (.cells 0 52 (jh x).cells)) 1 50 ((recsF pre).map jr) c:=qza (qs5 hT) (qas x7);have bg:((S++[AObj.cells 0 52 [Iv 0,Sv [],zp]]).set S.length (.cells 0 52 (jh x).cells))[S.length]? = some (.cells 0 52 (jh x).cells):=kq x7;by_cases h3:x.kind=3
  ·skip
   repeat' (first|(apply qc3 (st:=(S++[AObj.cells 0 52 [Iv 0,Sv [],zp]]).set S.length (.cells 0 52 (jh x).cells));(iterate 6 exact rfl))|(apply q9s 19 rfl (qnp g1);apply v6;(iterate 9 exact rfl))|apply qn|apply qy|apply qf|apply qh|apply qj|apply qg|(apply qs;(iterate 3 exact rfl))|(apply qc;exact rfl;apply vf;exact cAo)|(apply zl;exact rfl;exact rfl;exact q6 (by omega) (by omega))|(apply zj;(iterate 3 exact rfl))|(apply jn;(iterate 3 exact rfl))|apply qw|(apply vc;exact rfl;exact bg;exact rfl;exact rfl)|(apply vc;exact rfl;exact qcf bg;exact rfl;exact rfl)|(apply qli (st:=S);exact rfl;exact rfl)|(apply y4;exact rfl;exact rfl;(focus first|assumption|(repeat' (first|assumption|exact x7|exact jy rfl|apply kq|apply vg|omega|apply qcf)));(iterate 6 exact rfl))|(apply kp (n:=pre.length);(iterate 5 exact rfl);exact b5)|(apply qjq (b:=st.length) (xs:=[]) (ys:=x.fields.map fldA) (bytes:=32);(iterate 5 exact rfl);exact⟨⟨_,_,rfl,rfl,rfl,rfl,rfl⟩⟩;exact q64 _ _ _ _ _ _ _;(exact Nat.le_trans hO1.len qg9);(first|exact rfl|exact qc2 fun _=>rfl);((simp [maxLen];omega));((simp;omega));intro c1 S1 t1 g1 g2 g3 g4)|(apply qjq (b:=st.length) (xs:=(recsF pre).map jr) (ys:=[jr x.fields]) (bytes:=24);(iterate 5 exact rfl);exact⟨⟨_,_,rfl,rfl,rfl,rfl,rfl⟩⟩;exact zf6 g2 g4 (qs5 hT1);(exact (hO1.pre.fr g2 g3).len);(first|exact rfl|exact qc2 fun _=>rfl);((simp [maxLen];omega));((simp;omega));intro c2 S2 t2 k1 k2 k3 k4))
   exact⟨c2,S2,(hO1.pre.fr g2 g3).fr k2 k3,by rw [q46 _ _ h3,zet];exact k1,zz ⟨rfl,rfl,rfl,qg8 pre x,trivial⟩⟩
  ·skip
   repeat' (first|apply qn|apply qy|apply qf|apply qh|apply qj|(apply qs;(iterate 3 exact rfl))|(apply qc;exact rfl;apply vf;exact cAo)|(apply qc;exact rfl;apply vr;exact cAo)|(apply zl;exact rfl;exact rfl;exact q6 (by omega) (by omega))|(apply zj;(iterate 3 exact rfl))|(apply jn;(iterate 3 exact rfl))|apply qw|(apply vc;exact rfl;exact bg;exact rfl;exact rfl)|(apply qli (st:=S);exact rfl;exact rfl)|(apply y4;exact rfl;exact rfl;(focus first|assumption|(repeat' (first|assumption|exact x7|exact jy rfl|apply kq|apply vg|omega|apply qcf)));(iterate 6 exact rfl))|(apply kp (n:=pre.length);(iterate 5 exact rfl);exact b5))
   exact⟨c,_,hO1,by rw [q47 _ _ h3];exact hT1,zz ⟨rfl,rfl,rfl,qg8 pre x,trivial⟩⟩
end Go.Proofs.YtneejjefekdgjaaGreatDoor
namespace Go.Pl
open Go Go.Proofs Go.Proofs.YtneejjefekdgjaaGreatDoor
def GF (fs:List Fld):Prop:=fs.length≤40∧∀ f∈fs,ka f
structure PI (p:PSt):Prop where
 items:∀ x∈p.items,GF x.fields∧(x.kind=3↔x.fields≠[])
 fields:GF p.fields
 full:p.lines≠[]→p.full=false→p.fields.length<40
theorem qh2 {ls:List qa} (h:(zr ls).2=0):ka (zr ls).1:=by
 unfold zr at h ⊢;split at h
 ·split at h
  ·simp at h
  ·rename_i h1 h2
   rw [if_pos h1,if_neg h2];exact⟨(qk6.1 h1.2.1).2.2,Nat.le_of_not_lt h2⟩
 ·simp at h
theorem pi0:PI p0:=⟨by simp [p0],⟨by simp [p0],by simp [p0]⟩,by simp [p0]⟩
theorem PI.flush {p:PSt} (h:PI p):PI (jz p).2:=by
 unfold jz;split
 ·exact h
 ·rename_i hl
  split
  ·exact h
  ·rename_i hu
   split
   ·exact h
   ·rename_i hf
    have b4:=h.full hl (by simpa using hf);refine⟨h.items,⟨by simp;omega,fun f hm=>?_⟩,by simp⟩;rcases List.mem_append.1 hm with hm|hm
    ·exact h.fields.2 f hm
    ·simp at hm;subst hm;exact qh2 (by simpa using hu)
theorem PI.close {p:PSt} (h:PI p):PI (yl p):=by
 unfold yl;split
 ·exact⟨h.items,⟨by simp,by simp⟩,fun h1 h2=>by simp⟩
 ·refine⟨fun x hx=>?_,⟨by simp,by simp⟩,fun h1 h2=>by simp⟩
  rcases List.mem_append.1 hx with hx|hx
  ·exact h.items x hx
  ·simp at hx
   subst hx;refine⟨h.fields,?_⟩;simp only;split
   ·rename_i h0;simp [h0]
   ·rename_i h0;simp [h0]
theorem PI.end' {p:PSt} (h:PI p):PI (endP p).2:=by
 unfold endP;split
 ·exact h
 ·exact h.flush.close
theorem PI.lines' {p:PSt} (h:PI p) (hl:p.lines≠[]) (text:qa):PI { p with lines:=p.lines++[text] }:=⟨h.items,h.fields,fun _ hf=>h.full hl hf⟩
theorem PI.begin' {p:PSt} (h:PI p) (no:Int) (text:qa):PI (kv p no text):=by
 refine⟨h.items,h.fields,fun _ hf=>?_⟩;have:=h.fields.1;simp only [kv,decide_eq_false_iff_not,not_or] at hf ⊢;omega
theorem PI.ahead {p:PSt} (h:PI p) (no:Int) (text:qa) (ended:Bool) (kind:Int):PI (ju p no text ended kind).2:=by
 unfold ju;split
 ·split
  ·exact h
  ·rename_i hl
   split
   ·exact h.lines' hl text
   ·exact (h.lines' hl text).flush
 ·split
  ·exact h.end'
  ·exact h.flush
theorem PI.take {p:PSt} (h:PI p) (no:Int) (text:qa) (ended:Bool):PI (wz p no text ended).2:=by
 have ha:=h.ahead no text ended (qv text);unfold wz;split
 ·exact h
 ·split
  ·exact h
  ·split
   ·refine⟨fun x hx=>?_,ha.fields,ha.full⟩
    rcases List.mem_append.1 hx with hx|hx
    ·exact ha.items x hx
    ·simp at hx;subst hx;exact⟨⟨by simp,by simp⟩,by simp⟩
   ·split
    ·have hb:=ha.begin' no text
     exact⟨hb.items,hb.fields,hb.full⟩
    ·exact⟨ha.items,ha.fields,ha.full⟩
theorem PI.run:∀ (ls:List (qa×Bool)) (k:Nat) (p:PSt),PI p→PI (runL k ls p).2
 | [],k,p,h=>h.end'
 |(t,e)::r,k,p,h=>by
  unfold runL;split
  ·exact h
  ·exact PI.run r (k+1) _ (h.take k t e)
theorem qro (text:qa):∀ x∈(ja text).2,GF x.fields∧(x.kind=3↔x.fields≠[]):=by
 unfold ja;split
 ·simp
 ·exact (PI.run _ 0 _ pi0).items
theorem q07 (p:PSt):(yl p).items.length≤p.items.length+1:=by
 unfold yl;split <;> simp
theorem qjy (p:PSt):(jz p).2.items=p.items:=by
 unfold jz;split
 ·rfl
 ·split
  ·rfl
  ·split <;> rfl
theorem qt5 (p:PSt):(endP p).2.items.length≤p.items.length+1:=by
 unfold endP;split
 ·simp
 ·have:=q07 (jz p).2
  rw [qjy] at this;exact this
theorem q0f (p:PSt) (no:Int) (text:qa) (ended:Bool) (kind:Int):(ju p no text ended kind).2.items.length≤p.items.length+1:=by
 unfold ju;split
 ·split
  ·simp
  ·split
   ·simp
   ·rw [qjy];simp
 ·split
  ·exact qt5 p
  ·rw [qjy];simp
theorem q5q (p:PSt) (no:Int) (text:qa) (ended:Bool):(wz p no text ended).2.items.length≤p.items.length+2:=by
 have ha:=q0f p no text ended (qv text);unfold wz;split
 ·simp
 ·split
  ·simp
  ·split
   ·simp;omega
   ·split
    ·simp [kv];omega
    ·simp;omega
theorem qjd:∀ (ls:List (qa×Bool)) (k:Nat) (p:PSt),(runL k ls p).2.items.length≤p.items.length+2 * ls.length+1
 | [],k,p=>by have:=qt5 p;simp [runL];omega
 |(t,e)::r,k,p=>by
  unfold runL;split
  ·simp;omega
  ·have h1:=qjd r (k+1) (wz p k t e).2
   have h2:=q5q p k t e;simp only [List.length_cons];omega
theorem zbs (text:qa):(ja text).2.length≤2 * text.length+1:=by
 unfold ja;split
 ·simp
 ·have h1:=qjd (zn text) 0 p0
  have h2:=(qf2 _ text (Nat.le_refl _)).2;have h3:p0.items.length=0:=rfl;simp only;omega
theorem q72 (by' l:qa):(vp by' l).1.length≤l.length:=by
 unfold vp;split
 ·have h:=(qf2 _ l (Nat.le_refl _)).1
  have key:∀ (ls:List (qa×Bool)),(ls.flatMap fun x=>x.1.drop by'.length++xp x.2).length≤lsum ls:=by
   intro ls
   induction ls with
   |nil=>simp [lsum]
   |cons x r ih=>
    simp only [lsum,List.flatMap_cons,List.length_append,List.map_cons,List.sum_cons,List.length_drop] at ih ⊢;omega
  have:=key (zn l);simp only;omega
 ·simp
end Go.Pl
namespace Go.Proofs.YtneejjefekdgjaaGreatDoor
open Go Go.Av Go.RowKit Go.Proofs Go.Pl
theorem qnq (text:qa) (st:List AObj) (hl:text.length≤60000) (h:(ja text).1=none):qo E 23 [Sv text] st fun r st'=>r = .tu [j5 (ja text).2,.v .nilIface]∧st'=st:=by
 have:=qsz text st hl;unfold qd9 at this;rw [h] at this;exact this
theorem q5n (text:qa) (st:List AObj) (a n:Int) (hl:text.length≤60000) (h:(ja text).1=some (a,n)):qo E 23 [Sv text] st fun r st'=>r = .tu [j5 (ja text).2,.ifc 121 (.pp [Iv a,.ifc 62 (Iv n)])]∧st'=st:=by
 have:=qsz text st hl;unfold qd9 at this;rw [h] at this;exact this
def qd1 (text:qa):List Fld×Bool:=
 if (vp [32,32] text).2=false∨(ja (vp [32,32] text).1).1≠none then ([],false)
 else match recsF (ja (vp [32,32] text).1).2 with
  | []=>([],decide ((vp [32,32] text).1=[]))
  |f::_=>(f,decide ((ja (vp [32,32] text).1).2.length=1))
theorem zkx {a b:List Fld} {c d:Bool} (h1:a=b) (h2:c=d):AV.tu [jr a,Bv c]=AV.tu [jr b,Bv d]:=by rw [h1,h2]
theorem q8y {its:List ze} (h:∀ x∈its,GF x.fields∧(x.kind=3↔x.fields≠[])):∀ fs∈recsF its,GF fs∧fs≠[]:=fun fs hfs=>by
 obtain⟨x,hx,rfl⟩:=List.mem_map.1 hfs;obtain⟨rn,hx2⟩:=List.mem_filter.1 hx;have:=h x rn;exact⟨this.1,this.2.1 (by simpa using hx2)⟩
set_option maxHeartbeats 2000000 in
theorem zeb (text:qa) (st:List AObj) (hl:text.length≤60000):qo E 208 [Sv text] st fun r st'=>r = .tu [jr (qd1 text).1,Bv (qd1 text).2]∧st'=st:=by
 refine qx (jg (qb2 _) (qq _)) (qp Tryz.func208 rfl (Nat.le_of_ble_eq_true rfl) ?_);have hdl:=q72 [32,32] text;have bd:=zbs (vp [32,32] text).1;have hit:=qro (vp [32,32] text).1;unfold qd1;obtain⟨d,hd⟩:∃ d,d=vp [32,32] text:=⟨_,rfl⟩;have nz:∀ st,qo E 264 [Sv text,Sv [32,32]] st fun r st'=>r = .tu [Sv d.1,Bv d.2]∧st'=st:=fun st=>by rw [hd];exact q1b text [32,32] st (by omega)
 rw [← hd] at hdl bd hit ⊢;obtain⟨b,ok⟩:=d;simp only at hdl bd hit nz ⊢
 cases hp:(ja b).1 with
 |some e=>
  obtain⟨a,n⟩:=e;rw [if_pos (.inr (by simp))]
  cases ok
  all_goals
   repeat' (first|apply qn|apply qf|apply qh|apply qj|apply qg|(apply zf;exact rfl;exact rfl)|(apply z7;exact rfl)|(apply qu;(iterate 4 exact rfl))|(apply y5;exact cRa)|(apply qa1;exact cRa)|(apply qi;exact rfl;apply qhu;exact cRa)|(apply qi;exact rfl;apply qer;exact cRa)|(apply qc;exact rfl;apply cd_t;exact cRa)|(apply w6;exact rfl;exact rfl)|apply qt|(apply qk;exact Tryz.call264;exact nz _)|(apply qk;exact Tryz.call23;exact q5n _ _ _ _ (by omega) hp))
   exact qm rfl (xu (ki rfl) (qfs (qgy 2) (qcb (Bv false)))) ⟨rfl,_,rfl⟩
 |none=>
  cases ok
  ·rw [if_pos (.inl rfl)]
   repeat' (first|apply qn|apply qf|apply qh|apply qj|apply qg|(apply zf;exact rfl;exact rfl)|(apply z7;exact rfl)|(apply qu;(iterate 4 exact rfl))|(apply qa1;exact cRa)|(apply qi;exact rfl;apply qhu;exact cRa)|(apply qc;exact rfl;apply cd_t;exact cRa)|apply qt|(apply qk;exact Tryz.call264;exact nz _)|(apply qk;exact Tryz.call23;exact qnq _ _ (by omega) hp))
   exact qm rfl (xu (ki rfl) (qfs (qgy 2) (qcb (Bv false)))) ⟨rfl,_,rfl⟩
  ·rw [if_neg (by simp)]
   have hsc:=fun st=>zco (ja b).2 st (by omega) (fun x hx=>by have:=(hit x hx).1.1;omega);have e8:((ja b).2.map jh).length=(ja b).2.length:=by simp
   cases hr:recsF (ja b).2 with
   |nil=>
    rw [hr] at hsc;repeat' (first|apply qn|apply qf|apply qh|apply qj|apply qg|(apply zf;exact rfl;exact rfl)|(apply qs;(iterate 3 exact rfl))|(apply jk;(iterate 3 exact rfl))|(apply z7;exact rfl)|(apply qu;(iterate 4 exact rfl))|(apply y5;exact cRa)|(apply qi;exact rfl;apply qer;exact cRa)|(apply qc;exact rfl;apply cd_t;exact cRa)|(apply qc;exact rfl;apply cd_f;exact cRa)|(apply jm;(iterate 4 exact rfl))|(apply vw;exact rfl;exact rfl)|apply qw|apply qt|(apply qk;exact Tryz.call264;exact nz _)|(apply qk;exact Tryz.call23;exact qnq _ _ (by omega) hp)|(apply qk;exact Tryz.call24;exact hsc _))
    exact qm rfl (xu (ki rfl) (qfs (qgy 2) (qcb (Bv (decide (b=[])))))) ⟨rfl,_,rfl⟩
   |cons f r=>
    rw [hr] at hsc;have t7:((f::r).map jr).length=r.length+1:=by simp
    repeat' (first|apply qn|apply qf|apply qh|apply qj|apply qg|(apply zf;exact rfl;exact rfl)|(apply qs;(iterate 3 exact rfl))|(apply z7;exact rfl)|(apply qu;(iterate 4 exact rfl))|(apply y5;exact cRa)|(apply qi;exact rfl;apply qer;exact cRa)|(apply qc;exact rfl;apply vr;exact cAo)|(apply qc;exact rfl;apply cd_f;exact cRa)|(apply jm;(iterate 4 exact rfl))|(apply vw;exact rfl;exact rfl)|(apply jn;(iterate 3 exact rfl))|apply qw|apply qt|(apply qk;exact Tryz.call264;exact nz _)|(apply qk;exact Tryz.call23;exact qnq _ _ (by omega) hp)|(apply qk;exact Tryz.call24;exact hsc _)|(apply kp (n:=0);(iterate 6 exact rfl)))
    refine qm rfl (ki rfl) ⟨zkx rfl (decide_eq_decide.2 ?_),_,rfl⟩;rw [e8];omega
def ym (text:qa):List LnV→Nat→List qa
 | [],frm=>[text.drop frm]
 |l::r,frm=>if frm<l.at'∧¬ [32,32] <+: l.text then (text.take l.at').drop frm::ym text r l.at' else ym text r frm
def qe8 (text:qa):List qa:=ym text (lns text) 0
theorem zay (l m:qa) (st:List AObj) (h:m <+: l):qo E 164 [Sv l,Sv m] st fun r st'=>r=Bv true∧st'=st:=by
 have:=qe7 l m st;rw [(ye l m).2 h] at this;exact this
theorem zax (l m:qa) (st:List AObj) (h:¬ m <+: l):qo E 164 [Sv l,Sv m] st fun r st'=>r=Bv false∧st'=st:=by
 have:=qe7 l m st
 have hf:Lib.hasPrefix l m=false:=by
  cases hb:Lib.hasPrefix l m with
  |false=>rfl
  |true=>exact absurd ((ye l m).1 hb) h
 rw [hf] at this;exact this
theorem zid (text:qa) (st:List AObj) (hl:text.length<1000000):qo E 206 [Sv text] st fun r st'=>r=Ss (qe8 text)∧st'=st:=by
 refine zg [.s text] (qma _) Tryz.func206 rfl rfl (fun _=>rfl) rfl fun S0=>?_;apply qd [];repeat' (first|apply And.intro|(intro h;try exact cDd)|exact⟨Tryz.call67⟩|(refine Exists.intro _ ⟨qnr _,?_⟩)|exact cSd|apply qb []|refine exr ?_|refine qe ?_)
 refine qhd (X:=List qa×Nat) text 2 3 [0,1,2] (fun (out,frm)=>⟨[(1,.a (.pp [Sv text])),(3,.bx 0 0),(4,.bx 1 0),(7,.fn (.func 121) [] [.bx 2 0])],
   [(0,some (.cells 136 [.tp 3])),(1,some (.cells 3 [.i frm])),(2,some (.cells 9 [.s text])),(3,some (.tip 1 9 (out.map fun x=>Sv x)))],4⟩) _
  (fun k rest (out,frm)=>∃ a,a+rest.length=text.length∧frm≤a∧out.length≤k∧k≤a∧out++ym text (vk k a rest) frm=qe8 text) (fun _ _=>False) ([],0) ⟨0,by simp,by omega,by simp,by omega,rfl⟩ ?_ id (by omega) (fun _=>rfl) rfl (fun _=>rfl) (fun _=>rfl) rfl ?_ ?_ (fun _ _ h=>h.elim)
 ·skip
  repeat' (first|apply And.intro|(intro h;try exact cDd)|exact cSd|apply qb []|refine exr ?_|refine qe ?_)
 ·rintro k rest ⟨out,frm⟩ ⟨a,ha,hfa,hok,rf,a4⟩ a6 b0
  have dx:=qay (k:=k) (a:=a) a6;have hul:=kz 10 rest;have sc:0<rest.length:=List.length_pos_iff.2 a6;have bd:=va 10 rest
  have s4:a+(upto 10 rest).length+1+(past 10 rest).length=text.length∨past 10 rest=[]:=by
   by_cases b9:10∈rest
   ·have:=qe0 b9
    exact .inl (by omega)
   ·right
    unfold past;rw [xg b9];simp
  have hpast:∀ f,ym text (vk (k+1) (a+(upto 10 rest).length+1) (past 10 rest)) f=ym text (vk (k+1) (text.length - (past 10 rest).length) (past 10 rest)) f:=fun f=>by
   rcases s4 with h|h
   ·have:a+(upto 10 rest).length+1=text.length - (past 10 rest).length:=by omega
    rw [this]
   ·rw [h,qau,qau]
  have e:(text.length:Int) - rest.length=(a:Int):=by omega
  rw [dx,ym] at a4;unfold qm8;rw [e];by_cases hp:[32,32] <+: upto 10 rest
  ·have hhp:=fun st=>zay (upto 10 rest) [32,32] st hp
   rw [if_neg (fun h=>h.2 hp),hpast] at a4;refine RA.mk fun S F ρ rd=>?_;apply qd [];repeat' (first|apply And.intro|(intro h;try exact cDd)|(refine RB.mk fun S rd=>?_;apply qd [])|exact⟨Tryz.call164⟩|refine cpe hhp ?_|(refine Exists.intro (out,frm) ⟨⟨text.length - (past 10 rest).length,by omega,by omega,by omega,by omega,a4⟩,?_⟩)|exact cSd|apply qb []|refine exr ?_|refine qe ?_)
  ·have hhp:=fun st=>zax (upto 10 rest) [32,32] st hp
   by_cases hfr:frm<a
   ·rw [if_pos ⟨hfr,hp⟩,hpast] at a4
    refine RA.mk fun S F ρ rd=>?_;apply qd [];repeat' (first|apply And.intro|(intro h;try exact cDd)|(refine RB.mk fun S rd=>?_;apply qd [25])|exact⟨Tryz.call164⟩|refine cpe hhp ?_|(refine Exists.intro (out++[(text.take a).drop frm],a) ⟨⟨text.length - (past 10 rest).length,by omega,by omega,by simp;omega,by omega,by rw [← a4];simp⟩,?_⟩)|exact cSd|apply qb [25]|refine exr ?_|refine qe ?_)
    all_goals first|(simp [SV.evs];omega)|(simp [SV.evs,SV.ev];done)
   ·rw [if_neg (fun h=>hfr h.1),hpast] at a4
    refine RA.mk fun S F ρ rd=>?_;apply qd [];repeat' (first|apply And.intro|(intro h;try exact cDd)|(refine RB.mk fun S rd=>?_;apply qd [])|exact⟨Tryz.call164⟩|refine cpe hhp ?_|(refine Exists.intro (out,frm) ⟨⟨text.length - (past 10 rest).length,by omega,by omega,by omega,by omega,a4⟩,?_⟩)|exact cSd|apply qb []|refine exr ?_|refine qe ?_)
 ·rintro k ⟨out,frm⟩ ⟨a,ha,hfa,hok,rf,a4⟩
  rw [qau,ym] at a4;repeat' (first|apply And.intro|(intro h;try exact cDd)|exact cSd|apply qb []|refine exr ?_|refine qe ?_)
  rw [← a4];simp
def decP:List qa→List qr→Option (List qr)
 | [],acc=>some acc
 |p::r,acc=>match begE (upto 10 p) with
  |none=>none
  |some (k,n)=>if (qd1 (past 10 p)).2=true∧acc.length≠40 then decP r (acc++[⟨k,n,(qd1 (past 10 p)).1⟩]) else none
def decF (text:qa):Option (List qr):=if 50000<text.length then none else match decP (qe8 text) [] with
 |none=>none
 |some b=>if eErr b = .no∧encF b=text then some b else none
def decA:Option (List qr)→AV
 |none=>.tu [jo [],.ifc 62 (Iv 2)]
 |some b=>.tu [jo b,.v .nilIface]
theorem zaf (x:Option (List qr)):Pure (decA x):=by
 rcases x with _|b
 ·exact jg (qe5 _) (qci (qq _))
 ·exact jg (qe5 _) (qq _)
theorem qlb (text:qa):∀ (ls:List LnV) (f:Nat),(∀ p∈ym text ls f,p.length≤text.length)∧(ym text ls f).length≤ls.length+1
 | [],f=>by simp [ym]
 |l::r,f=>by
  unfold ym;split
  ·obtain⟨h1,h2⟩:=qlb text r l.at'
   refine⟨fun p hp=>?_,by simp;omega⟩;rcases List.mem_cons.1 hp with rfl|hp
   ·simp;omega
   ·exact h1 p hp
  ·obtain⟨h1,h2⟩:=qlb text r f
   exact⟨h1,by simp;omega⟩
theorem qwe {l:qa} {k n:Int} (h:begE l=some (k,n)) : -9223372036854775808≤n∧n≤9223372036854775807:=by
 have key:∀ {j:Int} {n:Int},tryB j l=some n→-9223372036854775808≤n∧n≤9223372036854775807:=fun {j n} h=>by
  unfold tryB at h;split at h
  ·split at h
   ·rename_i v hv
    cases h
    exact Lib.atoiAll_bounds hv
   ·simp at h
  ·simp at h
 unfold begE at h;split at h
 ·rename_i v hv;simp at h;rw [← h.2];exact key hv
 ·split at h
  ·rename_i v hv;simp at h;rw [← h.2];exact key hv
  ·split at h
   ·rename_i v hv;simp at h;rw [← h.2];exact key hv
   ·simp at h
theorem qrc (text:qa):GF (qd1 text).1:=by
 unfold qd1;split
 ·exact⟨by simp,by simp⟩
 ·split
  ·exact⟨by simp,by simp⟩
  ·rename_i f r hr
   exact (q8y (qro _) f (by rw [hr];simp)).1
theorem zal {k n:Int} {fs:List Fld} (h1 : -9223372036854775808≤n) (h2:n≤9223372036854775807) (hg:GF fs):EdB ⟨k,n,fs⟩:=
 ⟨fun f hf=>by have:=(hg.2 f hf).1.2.1;omega,by have:=hg.1;simp only;omega,h1,h2⟩
set_option maxHeartbeats 4000000 in
theorem zd1 (text:qa) (st:List AObj) (hl:text.length<1000000):qo E 120 [Sv text] st fun r st'=>r=decA (decF text)∧st'=st:=by
 refine zg [.s text] (zaf _) Tryz.func120 rfl rfl (fun _=>rfl) rfl fun S0=>?_;by_cases l8:50000<text.length
 ·have hd:decF text=none:=if_pos l8
  rw [hd];apply qd [];repeat' (first|apply And.intro|(intro h;try exact cDd)|exact cSd|apply qb []|refine exr ?_|refine qe ?_)
 have d7:decF text=match decP (qe8 text) [] with
  |none=>none
  |some b=>if eErr b = .no∧encF b=text then some b else none:=if_neg l8
 have bd:=(qlb text (lns text) 0).1;have hpn:=(qlb text (lns text) 0).2;have lg:=qcz _ text 0 0 (Nat.le_refl _);have bj:ym text (lns text) 0=qe8 text:=rfl;have b0:(lns text).length≤text.length:=lg;rw [bj] at bd hpn;have e8:((qe8 text).map fun x=>Sv x).length=(qe8 text).length:=by simp
 have hpc:=fun st=>zid text st hl;generalize qe8 text=L at d7 bd hpn e8 hpc;apply qd [];repeat' (first|apply And.intro|(intro h;try exact cDd)|exact⟨Tryz.call206⟩|refine cpe hpc ?_|exact cSd|apply qb []|refine exr ?_|refine qe ?_)
 refine zw (X:=Nat×List qr) (fun (k,acc)=>⟨[(0,.s text),(4,.tp 0),(21,.a (Ss L)),(22,.i L.length),(23,.i k)],[(0,some (.tip 3 113 (acc.map ji)))],1⟩)
  (fun (k,acc)=>k≤L.length∧acc.length≤k∧(∀ x∈acc,EdB x)∧decP (L.drop k) acc=decP L []) (fun x=>L.length - x.1) (0,[]) ⟨by omega,by simp,by simp,rfl⟩ ?_ ?_
 ·skip
  repeat' (first|apply And.intro|(intro h;try exact cDd)|exact cSd|apply qb []|refine exr ?_|refine qe ?_)
  all_goals first|(simp;done)
 ·rintro⟨j,acc⟩ ⟨hj,sm,hB,a4⟩
  have hma:(acc.map ji).length=acc.length:=by simp
  by_cases hc:j<L.length
  ·obtain⟨p,hx⟩:∃ p,L[j]? = some p:=⟨_,List.getElem?_eq_getElem hc⟩
   have hg:(L.map fun x=>Sv x)[j]? = some (Sv p):=by simp [hx]
   have hd:L.drop j=p::L.drop (j+1):=by
    obtain⟨b4,e⟩:=List.getElem?_eq_some_iff.1 hx;rw [List.drop_eq_getElem_cons b4,e]
   have hpp:=bd p (List.mem_of_getElem? hx);have hul:=kz 10 p;have hpal:=va 10 p;have hcu:=fun st=>qju p 10 st (by omega);have hbc:=fun st=>zgz (upto 10 p) st (by omega);have rb:=qrc (past 10 p);have p5:=fun st=>zeb (past 10 p) st (by omega);rw [hd,decP] at a4
   cases dw:begE (upto 10 p) with
   |none=>
    rw [dw] at a4 hbc;simp only at a4;rw [← a4] at d7;simp only at d7;rw [d7];apply qd []
    repeat' (first|apply And.intro|(intro h;try exact cDd)|(refine Exists.intro (j) ⟨by omega,_,hg,?_⟩)|exact⟨Tryz.call72⟩|refine cpe hcu ?_|exact⟨Tryz.call207⟩|refine cpe hbc ?_|exact⟨Tryz.call208⟩|refine cpe p5 ?_|exact cSd|apply qb []|refine exr ?_|refine qe ?_)
   |some kn=>
    obtain⟨kd,n⟩:=kn;have o9:=qwe dw;rw [dw] at a4 hbc;simp only at a4;obtain⟨fs,hfs⟩:∃ x,x=(qd1 (past 10 p)).1:=⟨_,rfl⟩;rw [← hfs] at a4 p5 rb
    cases hok:(qd1 (past 10 p)).2 with
    |false=>
     rw [hok] at a4 p5;rw [if_neg (by simp)] at a4;rw [← a4] at d7;simp only at d7;rw [d7];apply qd []
     repeat' (first|apply And.intro|(intro h;try exact cDd)|(refine Exists.intro (j) ⟨by omega,_,hg,?_⟩)|exact⟨Tryz.call72⟩|refine cpe hcu ?_|exact⟨Tryz.call207⟩|refine cpe hbc ?_|exact⟨Tryz.call208⟩|refine cpe p5 ?_|exact cSd|apply qb []|refine exr ?_|refine qe ?_)
    |true=>
     rw [hok] at a4 p5;by_cases sg:acc.length=40
     ·rw [if_neg (by simp [sg])] at a4
      rw [← a4] at d7;simp only at d7;rw [d7];apply qd [];repeat' (first|apply And.intro|(intro h;try exact cDd)|(refine Exists.intro (j) ⟨by omega,_,hg,?_⟩)|exact⟨Tryz.call72⟩|refine cpe hcu ?_|exact⟨Tryz.call207⟩|refine cpe hbc ?_|exact⟨Tryz.call208⟩|refine cpe p5 ?_|exact cSd|apply qb []|refine exr ?_|refine qe ?_)
     ·rw [if_pos ⟨rfl,sg⟩] at a4
      have dn:∀ x∈acc++[⟨kd,n,fs⟩],EdB x:=fun x hx=>by
       rcases List.mem_append.1 hx with hx|hx
       ·exact hB x hx
       ·obtain rfl:=List.mem_singleton.1 hx
        exact zal o9.1 o9.2 rb
      apply qd [];repeat' (first|apply And.intro|(intro h;try exact cDd)|(refine Exists.intro (j) ⟨by omega,_,hg,?_⟩)|exact⟨Tryz.call72⟩|refine cpe hcu ?_|exact⟨Tryz.call207⟩|refine cpe hbc ?_|exact⟨Tryz.call208⟩|refine cpe p5 ?_|(refine Exists.intro (j+1,acc++[⟨kd,n,fs⟩]) ⟨⟨by omega,by simp;omega,dn,a4⟩,by simp only;omega,?_⟩)|exact cSd|apply qb []|refine exr ?_|refine qe ?_)
      all_goals (simp;done)
  ·have hd:L.drop j=[]:=List.drop_eq_nil_of_le (by omega)
   rw [hd,decP] at a4;rw [← a4] at d7;simp only at d7
   cases he:eErr acc with
   |no=>
    have p4:=fun st=>qya acc st hB he;by_cases ht:encF acc=text
    ·rw [if_pos ⟨he,ht⟩] at d7
     rw [d7];rw [ht] at p4;apply qd [];repeat' (first|apply And.intro|(intro h;try exact cDd)|exact⟨Tryz.call103⟩|refine cpe p4 ?_|exact cSd|apply qb []|refine exr ?_|refine qe ?_)
    ·rw [if_neg fun h=>ht h.2] at d7
     rw [d7];apply qd [];repeat' (first|apply And.intro|(intro h;try exact cDd)|exact⟨Tryz.call103⟩|refine cpe p4 ?_|exact cSd|apply qb []|refine exr ?_|refine qe ?_)
     all_goals exact absurd ht (by assumption)
   |num n=>
    have p4:=fun st=>qky acc st (.num n) hB (by omega) he fun h=>by
     have:=(qdz acc).1 (by rw [he];exact h);rw [he] at this;simp at this
    rw [if_neg fun h=>by rw [he] at h;simp at h] at d7;rw [d7];apply qd []
    repeat' (first|apply And.intro|(intro h;try exact cDd)|exact⟨Tryz.call103⟩|refine cpe p4 ?_|exact cSd|apply qb []|refine exr ?_|refine qe ?_)
   |at' a n=>
    have p4:=fun st=>qky acc st (.at' a n) hB (by omega) he fun h=>by
     have:=(qdz acc).1 (by rw [he];exact h);rw [he] at this;simp at this
    rw [if_neg fun h=>by rw [he] at h;simp at h] at d7;rw [d7];apply qd [];repeat' (first|apply And.intro|(intro h;try exact cDd)|exact⟨Tryz.call103⟩|refine cpe p4 ?_|exact cSd|apply qb []|refine exr ?_|refine qe ?_)
theorem qwn:qzw E:=fun _ _ _ h hb hB _ h2=>h _ (hb.trans (h2.mono hB))
theorem qa8 {α : Type} [DecidableEq α] {a b:List α} {k:Nat} {d : α} (hl:a.length=b.length) (hk:k<a.length) (h:a.take k=b.take k) (h2:a.getD k d=b.getD k d):a.take (k+1)=b.take (k+1):=by
 rw [List.take_succ_eq_append_getElem hk,List.take_succ_eq_append_getElem (by omega),h];congr 2
 simpa [List.getD,hk,show k<b.length by omega] using h2
end Go.Proofs.YtneejjefekdgjaaGreatDoor
namespace Go.Pl
open Go Go.Proofs Go.Proofs.YtneejjefekdgjaaGreatDoor
theorem xx (s:qa) (r:List qa):zi (s::r)=s++10::zi r:=by simp [zi]
theorem qcq:∀ (ls:List qa),(∀ s∈ls,10∉s)→zn (zi ls)=ls.map fun s=>(s,true)
 | [],_=>by simp [zi,vi]
 |s::r,h=>by
  have hs:=h s (by simp);rw [xx,wq (by simp),vv _ hs,xv _ hs,qcq r fun x hx=>h x (by simp [hx])];simp
theorem q4y {f:Fld} (h:ka f):∀ s∈zm f,10∉s:=fun s hs=>by
 unfold zm at hs;rcases List.mem_cons.1 hs with rfl|hs
 ·have h1:=qeq f.2 _ (qsi f.2)
  have h2:=h.1.2.2.2.2.2;unfold kf;split <;> simp_all
 ·obtain⟨x,hx,rfl⟩:=List.mem_map.1 hs
  have h1:=qeq f.2 x (List.mem_of_mem_tail hx);have:=qvt h1;simp [this]
theorem qpe {f:Fld} (h:ka f):∃ hd mr,zm f=hd::mr∧qv hd=4∧∀ s∈mr,qv s=3:=by
 refine⟨_,_,rfl,qyh h.1 (qeq f.2 _ (qsi f.2)),fun s hs=>?_⟩;obtain⟨x,hx,rfl⟩:=List.mem_map.1 hs;exact qyi x (qeq f.2 x (List.mem_of_mem_tail hx))
theorem zcv {p:PSt} {k:Int} {t:qa} (ht:qv t=3) (hl:p.lines≠[]):wz p k t true=(none,{ p with lines:=p.lines++[t],block:=p.block++[t] }):=by
 have ha:ju p k t true (qv t)=(none,{ p with lines:=p.lines++[t] }):=by
  unfold ju;rw [if_pos ht,if_neg hl,if_pos rfl]
 unfold wz;rw [ha,ht];simp
theorem qy8 {p q:PSt} {k:Int} {t:qa} (ht:qv t=4) (hf:jz p=(none,q)):wz p k t true=(none,{ kv q k t with block:=q.block++[t] }):=by
 have ha:ju p k t true (qv t)=(none,q):=by
  unfold ju;rw [if_neg (by omega),if_neg (by omega)];exact hf
 unfold wz;rw [ha,ht];simp
theorem qsx:∀ (m:List qa) (k:Nat) (p:PSt) (ls:List (qa×Bool)),(∀ s∈m,qv s=3)→p.lines≠[] →
  runL k (m.map (fun s=>(s,true))++ls) p=runL (k+m.length) ls { p with lines:=p.lines++m,block:=p.block++m }
 | [],k,p,ls,_,_=>by simp
 |s::m,k,p,ls,h,hl=>by
  have hs:=h s (by simp);rw [List.map_cons,List.cons_append,runL,zcv hs hl];simp only;rw [qsx m (k+1) _ ls (fun x hx=>h x (by simp [hx])) (by simp)];simp only [List.append_assoc,List.cons_append,List.nil_append,List.length_cons];congr 1;omega
theorem qub {g:Fld} (hg:ka g) (frm:Int) (its:List ze) (blk:List qa) (done:List Fld) (rc:Int):jz ⟨zm g,frm,false,its,blk,done,rc⟩=(none,⟨[],frm,false,its,blk,done++[g],rc⟩):=by
 have hu:=qn6 hg;unfold jz;rw [if_neg (by simp [zm]),hu];simp
theorem q3l:∀ (r:List Fld) (done:List Fld) (g:Fld) (k:Nat) (frm:Int) (blk:List qa),ka g→(∀ f∈r,ka f)→done.length+1+r.length≤40→blk≠[] →
  (runL k ((r.flatMap zm).map fun s=>(s,true)) ⟨zm g,frm,false,[],blk,done,0⟩).1=none∧(runL k ((r.flatMap zm).map fun s=>(s,true)) ⟨zm g,frm,false,[],blk,done,0⟩).2.items=[⟨3,zi (blk++r.flatMap zm),done++g::r⟩]
 | [],done,g,k,frm,blk,hg,_,_,hb=>by
  have he:endP ⟨zm g,frm,false,[],blk,done,0⟩=(none,yl ⟨[],frm,false,[],blk,done++[g],0⟩):=by
   unfold endP;rw [qub hg]
  simp only [List.flatMap_nil,List.map_nil,runL,he,List.append_nil];refine⟨trivial,?_⟩;unfold yl;rw [if_neg hb]
  simp
 |f::r,done,g,k,frm,blk,hg,hr,hl,hb=>by
  have hf:=hr f (by simp);obtain⟨hd,mr,hlf,hk4,br⟩:=qpe hf;simp only [List.length_cons] at hl
  have a4:runL k (((f::r).flatMap zm).map fun s=>(s,true)) ⟨zm g,frm,false,[],blk,done,0⟩=runL (k+1+mr.length) ((r.flatMap zm).map fun s=>(s,true)) ⟨zm f,k,false,[],blk++zm f,done++[g],0⟩:=by
   rw [List.flatMap_cons,List.map_append,hlf,List.map_cons,List.cons_append,runL,qy8 hk4 (qub hg frm [] blk done 0)];simp only;rw [qsx mr (k+1) _ _ br (by simp [kv])]
   have hfu:decide ((done++[g]).length=40∨((done++[g]).length=0∧(0:Int)=400))=false:=by
    simp;omega
   simp only [kv,hfu,List.append_assoc,List.cons_append,List.nil_append]
  rw [a4];have ih:=q3l r (done++[g]) f (k+1+mr.length) k (blk++zm f) hf (fun x hx=>hr x (by simp [hx])) (by simp;omega) (by simp [hb]);rw [ih.1,ih.2];simp [List.flatMap_cons]
theorem qi4 (fs:List Fld):zu fs=zi (fs.flatMap zm):=by
 induction fs with
 |nil=>rfl
 |cons f r ih=>
  rw [List.flatMap_cons,y7,← ih];simp [zu]
theorem qk0 {fs:List Fld} (h:∀ f∈fs,ka f):∀ s∈fs.flatMap zm,10∉s:=fun s hs=>by
 obtain⟨f,hf,hs⟩:=List.mem_flatMap.1 hs;exact q4y (h f hf) s hs
theorem qu2 {fs:List Fld} (hg:GF fs) (a6:fs≠[]):ja (zu fs)=(none,[⟨3,zu fs,fs⟩]):=by
 have hl:=qcq _ (qk0 hg.2);rw [← qi4] at hl
 cases fs with
 |nil=>exact absurd rfl a6
 |cons f r=>
  have hf:=hg.2 f (by simp);obtain⟨hd,mr,hlf,hk4,br⟩:=qpe hf;have a7:=hg.1;simp only [List.length_cons] at a7
  have a4:runL 0 (((f::r).flatMap zm).map fun s=>(s,true)) p0=runL (0+1+mr.length) ((r.flatMap zm).map fun s=>(s,true)) ⟨zm f,(0:Nat),false,[],zm f,[],0⟩:=by
   have d8:jz p0=(none,p0):=rfl;rw [List.flatMap_cons,List.map_append,hlf,List.map_cons,List.cons_append,runL,qy8 hk4 d8];simp only;rw [qsx mr (0+1) _ _ br (by simp [kv])];simp [kv,p0]
  have ih:=q3l r [] f (0+1+mr.length) (0:Nat) (zm f) hf (fun x hx=>hg.2 x (by simp [hx])) (by simp;omega) (by simp [zm]);unfold ja;rw [hl,a4,ih.1];simp only;rw [ih.2];rw [qi4,List.flatMap_cons,List.nil_append]
theorem zbt:ja []=(none,[]):=by
 unfold ja;rw [vi];rfl
theorem qri {ls:List qa} (h:∀ s∈ls,10∉s):qah [32,32] (zi ls)=zi (ls.map fun s=>[32,32]++s):=by
 unfold qah indF;rw [qcq ls h];simp only [zi,List.flatMap_map,xp,if_pos]
theorem q10 {ls:List qa} (h:∀ s∈ls,10∉s):∀ s∈ls.map (fun s=>[32,32]++s),10∉s:=fun s hs=>by
 obtain⟨x,hx,rfl⟩:=List.mem_map.1 hs;have:=h x hx;simp [this]
theorem qzl {ls:List qa} (h:∀ s∈ls,10∉s):vp [32,32] (qah [32,32] (zi ls))=(zi ls,true):=by
 rw [qri h];unfold vp;rw [qcq _ (q10 h),if_pos]
 ·simp [zi,List.flatMap_map,xp]
 ·intro x hx
  obtain⟨s,hs,rfl⟩:=List.mem_map.1 hx;obtain⟨y,_,rfl⟩:=List.mem_map.1 hs;exact List.prefix_append _ _
theorem qzn {fs:List Fld} (hl:fs.length≤40) (hg:∀ f∈fs,ka f):qd1 (qah [32,32] (zu fs))=(fs,true):=by
 have hd:vp [32,32] (qah [32,32] (zu fs))=(zu fs,true):=by
  rw [qi4];exact qzl (qk0 hg)
 unfold qd1;rw [hd];simp only;by_cases h0:fs=[]
 ·subst h0
  have hp:ja (zu [])=(none,[]):=zbt;rw [hp];simp [recsF,zu]
 ·rw [qu2 ⟨hl,hg⟩ h0]
  simp [recsF]
theorem quh {j k:Int} {s:qa} (hj:j=1∨j=2∨j=3) (hk:k=1∨k=2∨k=3) (a6:j≠k):¬ yw j <+: yw k++s:=by
 rintro⟨t,ht⟩;have h2:=congrArg (List.take 2) ht;rcases hj with rfl|rfl|rfl <;> rcases hk with rfl|rfl|rfl <;> first|exact absurd rfl a6|(revert h2;simp [yw])
theorem q91 {x:qr} (hk:x.kind=1∨x.kind=2∨x.kind=3) (h1 : -9223372036854775808≤x.id) (h2:x.id≤9223372036854775807):begE (kg x)=some (x.kind,x.id):=by
 have hl:kg x=yw x.kind++Lib.itoa x.id:=by
  unfold kg;rw [if_pos (by omega)]
 have e7:tryB x.kind (kg x)=some x.id:=by
  unfold tryB;rw [hl,if_pos (List.prefix_append _ _),List.drop_left,qmp h1 h2]
 have f0:∀ j:Int,(j=1∨j=2∨j=3)→j≠x.kind→tryB j (kg x)=none:=fun j hj a6=>by
  unfold tryB;rw [hl,if_neg (quh hj hk a6)]
 unfold begE;rcases hk with h|h|h
 ·rw [h] at e7 f0 ⊢
  rw [e7]
 ·rw [h] at e7 f0 ⊢
  rw [f0 1 (by simp) (by decide),e7]
 ·rw [h] at e7 f0 ⊢
  rw [f0 1 (by simp) (by decide),f0 2 (by simp) (by decide),e7]
def qbl (x:qr):List qa:=(x.fields.flatMap zm).map fun s=>[32,32]++s
theorem qlp (v:Int):∀ c∈Lib.itoa v,c≠10∧c≠32:=fun c hc=>by
 by_cases hv:v<0
 ·rw [qfp hv] at hc
  rcases List.mem_cons.1 hc with rfl|hc
  ·decide
  ·have:=xi _ _ (Nat.le_refl _) c hc
   constructor <;> rintro rfl <;> simp at this
 ·rw [qfq (by omega)] at hc
  have:=xi _ _ (Nat.le_refl _) c hc;constructor <;> rintro rfl <;> simp at this
theorem qcy (x:qr):10∉kg x:=by
 unfold kg;split
 ·rename_i hk
  have h1:=qlp x.id;intro hc;rcases List.mem_append.1 hc with hc|hc
  ·have:x.kind=1∨x.kind=2∨x.kind=3:=by omega
   rcases this with h|h|h <;> rw [h] at hc <;> revert hc <;> decide
  ·exact (h1 10 hc).1 rfl
 ·simp
theorem qlr {x:qr} (hk:x.kind=1∨x.kind=2∨x.kind=3):¬ [32,32] <+: kg x:=by
 unfold kg;rw [if_pos (by omega)];rintro⟨t,ht⟩;have h2:=congrArg (List.take 2) ht;rcases hk with h|h|h <;> rw [h] at h2 <;> revert h2 <;> simp [yw]
theorem qhq {x:qr} (hg:∀ f∈x.fields,ka f):kc x=zi (kg x::qbl x):=by
 unfold kc qbl;rw [xx,qi4,qri (qk0 hg)];simp
theorem qxp {x:qr} (hg:∀ f∈x.fields,ka f):∀ s∈qbl x,10∉s:=q10 (qk0 hg)
theorem qep (text:qa):∀ (m:List qa) (k a f:Nat) (R:qa),(∀ s∈m,10∉s∧[32,32] <+: s)→∃ k',ym text (vk k a (zi m++R)) f=ym text (vk k' (a+(zi m).length) R) f
 | [],k,a,f,R,_=>⟨k,by simp [zi]⟩
 |s::m,k,a,f,R,h=>by
  obtain⟨b9,hp⟩:=h s (by simp);have e:zi (s::m)++R=s++10::(zi m++R):=by rw [xx];simp
  obtain⟨k',ih⟩:=qep text m (k+1) (a+s.length+1) f R fun x hx=>h x (by simp [hx]);refine⟨k',?_⟩;rw [e,qay (by simp),vv _ b9,xv _ b9,ym,if_neg (fun h=>h.2 hp),ih,xx];congr 2;simp;omega
theorem qor {x:qr} (hg:∀ f∈x.fields,ka f):∀ s∈qbl x,10∉s∧[32,32] <+: s:=fun s hs=>⟨qxp hg s hs,by
 obtain⟨y,_,rfl⟩:=List.mem_map.1 hs
 exact List.prefix_append _ _⟩
structure EncG (x:qr):Prop where
 kind:x.kind=1∨x.kind=2∨x.kind=3
 len:x.fields.length≤40
 good:∀ f∈x.fields,ka f
 id1 : -9223372036854775808≤x.id
 id2:x.id≤9223372036854775807
theorem qu3:∀ (r:List qr) (D:qa) (x:qr) (k:Nat),EncG x→(∀ y∈r,EncG y) →
  ym (D++(kc x++encF r)) (vk k (D.length+((kg x).length+1)) (zi (qbl x)++encF r)) D.length=kc x::r.map kc
 | [],D,x,k,hx,_=>by
  obtain⟨k',h⟩:=qep (D++(kc x++encF [])) (qbl x) k (D.length+((kg x).length+1)) D.length (encF []) (qor hx.good);rw [h];have e:encF []=[]:=rfl;rw [e,qau,ym]
  simp
 |y::r,D,x,k,hx,hr=>by
  have hy:=hr y (by simp);obtain⟨k',h⟩:=qep (D++(kc x++encF (y::r))) (qbl x) k (D.length+((kg x).length+1)) D.length (encF (y::r)) (qor hx.good);rw [h]
  have e:encF (y::r)=kg y++10::(zi (qbl y)++encF r):=by
   have:encF (y::r)=kc y++encF r:=by simp [encF]
   rw [this,qhq hy.good,xx];simp
  have hlx:(kc x).length=(kg x).length+1+(zi (qbl x)).length:=by
   rw [qhq hx.good,xx];simp;omega
  have e2:encF (y::r)=kc y++encF r:=by simp [encF]
  have p7:D.length+((kg x).length+1)+(zi (qbl x)).length=(D++kc x).length:=by
   rw [List.length_append,hlx];omega
  rw [p7]
  have hc:vk k' (D++kc x).length (encF (y::r))=⟨k',(D++kc x).length,kg y,true⟩::vk (k'+1) ((D++kc x).length+(kg y).length+1) (zi (qbl y)++encF r):=by
   rw [e,qay (by simp),vv _ (qcy y),xv _ (qcy y)];simp
  have b4:D.length<(D++kc x).length:=by rw [List.length_append,hlx];omega
  rw [hc,ym,if_pos ⟨b4,qlr hy.kind⟩];have ih:=qu3 r (D++kc x) y (k'+1) hy fun z hz=>hr z (by simp [hz]);have et:D++(kc x++encF (y::r))=(D++kc x)++(kc y++encF r):=by rw [e2];simp
  rw [et]
  have ed:((D++kc x++(kc y++encF r)).take (D++kc x).length).drop D.length=kc x:=by
   rw [List.take_left,List.drop_left]
  rw [ed,List.map_cons];simp only;rw [show (D++kc x).length+(kg y).length+1=(D++kc x).length+((kg y).length+1) by omega,ih]
theorem zbu {x:qr} {r:List qr} (hx:EncG x) (hr:∀ y∈r,EncG y):qe8 (encF (x::r))=(x::r).map kc:=by
 have e2:encF (x::r)=kc x++encF r:=by simp [encF]
 have e:encF (x::r)=kg x++10::(zi (qbl x)++encF r):=by
  rw [e2,qhq hx.good,xx];simp
 have h:=qu3 r [] x 1 hx hr;simp only [List.nil_append,List.length_nil,Nat.zero_add] at h
 have hc:lns (encF (x::r))=⟨0,0,kg x,true⟩::vk 1 ((kg x).length+1) (zi (qbl x)++encF r):=by
  unfold lns;rw [e,qay (by simp),vv _ (qcy x),xv _ (qcy x)];simp
 unfold qe8;rw [hc,ym,if_neg (by simp),e2,h];rfl
theorem q09:∀ (r acc:List qr),(∀ y∈r,EncG y)→acc.length+r.length≤40→decP (r.map kc) acc=some (acc++r)
 | [],acc,_,_=>by simp [decP]
 |x::r,acc,h,hl=>by
  have hx:=h x (by simp);simp only [List.length_cons] at hl
  have hu:upto 10 (kc x)=kg x:=by
   unfold kc;rw [List.append_assoc];exact vv _ (qcy x)
  have hp:past 10 (kc x)=qah [32,32] (zu x.fields):=by
   unfold kc;rw [List.append_assoc];exact xv _ (qcy x)
  have d8:=qzn hx.len hx.good;rw [List.map_cons,decP,hu,q91 hx.kind hx.id1 hx.id2];simp only [hp,d8];rw [if_pos ⟨trivial,by omega⟩];have ih:=q09 r (acc++[⟨x.kind,x.id,x.fields⟩]) (fun y hy=>h y (by simp [hy])) (by simp;omega);rw [ih];simp
theorem qwk {x:qr} (h:gErr x = .no) (hB:EdB x):EncG x:=by
 obtain⟨h1,h2⟩:=qjk h;refine⟨?_,h1,h2,hB.id1,hB.id2⟩;unfold gErr at h;split at h
 ·exact .inr (.inl (by assumption))
 ·split at h
  ·rename_i hk;omega
  ·simp at h
theorem zhb {b:List qr} (he:eErr b = .no) (hB:∀ x∈b,EdB x) (hl:(encF b).length≤50000):decF (encF b)=some b:=by
 obtain⟨h1,sg,hg⟩:=qdk he;have hG:∀ y∈b,EncG y:=fun y hy=>qwk (hg y hy) (hB y hy);unfold decF;rw [if_neg (by omega)]
 cases b with
 |nil=>simp at h1
 |cons x r=>
  rw [zbu (hG x (by simp)) (fun y hy=>hG y (by simp [hy])),q09 (x::r) [] hG (by simp at sg ⊢;omega)];simp only [List.nil_append];rw [if_pos ⟨he,trivial⟩]
theorem q1a {text:qa} {b:List qr} (h:decF text=some b):eErr b = .no∧encF b=text∧text.length≤50000:=by
 unfold decF at h;split at h
 ·simp at h
 ·split at h
  ·simp at h
  ·split at h
   ·rename_i hc
    cases h
    exact⟨hc.1,hc.2,by omega⟩
   ·simp at h
def SpL (L:List qa):Prop:=L≠[]∧∀ s∈L,10∉s∧[32] <+: s
def encL (b:List qr):List qa:=b.flatMap fun x=>kg x::qbl x
theorem qx9 {b:List qr} (hg:∀ x∈b,EncG x):encF b=zi (encL b):=by
 induction b with
 |nil=>rfl
 |cons x r ih=>
  have e:encL (x::r)=(kg x::qbl x)++encL r:=by simp [encL]
  have e2:encF (x::r)=kc x++encF r:=by simp [encF]
  rw [e,y7,e2,qhq (hg x (by simp)).good,ih fun y hy=>hg y (by simp [hy])]
theorem zhz {x:qr} (hk:x.kind=1∨x.kind=2∨x.kind=3):[32] <+: kg x:=by
 unfold kg;rw [if_pos (by omega)];rcases hk with h|h|h <;> rw [h] <;> exact⟨_,rfl⟩
theorem zhj {b:List qr} (a6:b≠[]) (hg:∀ x∈b,EncG x):SpL (encL b):=by
 refine⟨?_,fun s hs=>?_⟩
 ·cases b with
  |nil=>exact absurd rfl a6
  |cons x r=>simp [encL]
 ·obtain⟨x,hx,hs⟩:=List.mem_flatMap.1 hs
  have hG:=hg x hx;rcases List.mem_cons.1 hs with rfl|hs
  ·exact⟨qcy x,zhz hG.kind⟩
  ·obtain⟨h1,t,ht⟩:=qor hG.good s hs
   exact⟨h1,[32]++t,by rw [← ht];rfl⟩
theorem zix {L:List qa} (h:SpL L):sp true (zi L)=true:=by
 rw [← qm9 _ (zi L) (Nat.le_refl _),qcq L fun s hs=>(h.2 s hs).1];intro x hx;obtain⟨s,hs,rfl⟩:=List.mem_map.1 hx;exact (h.2 s hs).2
theorem zcy {L:List qa} (h:SpL L):(zi L)[0]? = some 32:=by
 obtain⟨a6,hs⟩:=h
 cases L with
 |nil=>exact absurd rfl a6
 |cons s r=>
  obtain⟨t,ht⟩:=(hs s (by simp)).2;rw [xx,← ht];rfl
theorem qy9:∀ (L:List qa),L≠[]→(zi L).getLast? = some 10
 | [],h=>absurd rfl h
 | [s],_=>by rw [xx];simp [zi]
 |s::t::r,_=>by
  have ih:=qy9 (t::r) (by simp);have a6:zi (t::r)≠[]:=fun e=>by rw [e] at ih;simp at ih
  rw [xx,List.getLast?_append,List.getLast?_cons,ih];simp
theorem zao {b:List qr} (he:eErr b = .no) (hB:∀ x∈b,EdB x) (hl:(encF b).length≤50000):yv (encF b):=by
 obtain⟨h1,sg,hg⟩:=qdk he;have hG:∀ y∈b,EncG y:=fun y hy=>qwk (hg y hy) (hB y hy);have a6:b≠[]:=fun e=>by subst e;simp at h1
 have hS:=zhj a6 hG;have ht:=qx9 hG;have hh:=zcy hS;have g8:=qy9 _ hS.1;rw [← ht] at hh g8;have g9:=zix hS;rw [← ht] at g9;refine⟨?_,hl,g8,by rw [qdy];exact g9⟩;rcases hc:encF b with _ | ⟨c,_ | ⟨d,r⟩⟩
 ·rw [hc] at hh;simp at hh
 ·rw [hc] at hh g8
  simp at hh g8;rw [hh] at g8;simp at g8
 ·simp
end Go.Pl
namespace Go.Proofs.YtneejjefekdgjaaGreatDoor
open Go Go.Av Go.RowKit Go.Proofs Go.Pl
theorem zam {xs:List qr} {k:Nat} (hk:k<xs.length):(xs.map ji)[k]? = some (ji (xs.getD k ⟨0,0,[]⟩)):=by
 simp [List.getD,hk]
theorem zj8 {x:qr}:∀ y∈[ji x],Pure y:=by
 intro y hy;simp only [List.mem_cons,List.not_mem_nil,or_false] at hy;subst hy;exact yg (qhp x)
theorem ql6 {l:qa} {i:Nat} {c:UInt8} (h:l[i]? = some c):l.getD i 0=c:=by simp [List.getD,h]
theorem zig {a b:qa}:∀ x∈[Sv a,Sv b],Pure x:=by
 intro x hx;simp only [List.mem_cons,List.not_mem_nil,or_false] at hx;rcases hx with rfl|rfl <;> exact qq _
theorem zif {a:List Fld}:∀ x∈[jr a],Pure x:=by
 intro x hx;simp only [List.mem_cons,List.not_mem_nil,or_false] at hx;subst hx;exact qb2 _
theorem zan {b:List qr} {k:Nat} (hk:k<b.length):encF (b.take (k+1))=((encF (b.take k)++kg (b.getD k ⟨0,0,[]⟩))++[10])++qah [32,32] (zu (b.getD k ⟨0,0,[]⟩).fields):=by
 rw [List.take_succ_eq_append_getElem hk,q1h,q1i];have e:b.getD k ⟨0,0,[]⟩=b[k]:=by simp [List.getD,hk]
 rw [e];unfold kc;simp [List.append_assoc]
set_option maxHeartbeats 2000000 in
theorem qzs (b:List qr) (st:List AObj) (hB:∀ x∈b,EdB x) (he:eErr b = .no):qo E 106 [jo b] st fun r st'=>r=Sv (encF b)∧st'=st:=by
 refine qx (qq _) (qp Tryz.func106 rfl (Nat.le_of_ble_eq_true rfl) ?_);have e8:(b.map ji).length=b.length:=by simp
 obtain⟨i5,hb40,hg⟩:=qdk he;repeat' (first|apply qn|apply qy|apply qf|apply qh|apply qg)
 refine jv (fun (k:Nat) s=>k≤b.length∧StE [(0,jo b),(3,Sv (encF (b.take k))),(4,Iv k)] st [] s) (fun k=>b.length - k) 0 ⟨by omega,qez ⟨rfl,rfl,rfl,trivial⟩ rfl⟩ ?_;rintro k _ ⟨hk,t,ext,rfl⟩;by_cases hc:k<b.length
 ·have hm:b.getD k ⟨0,0,[]⟩∈b:=by simp [List.getD,hc]
  have rp:=hB _ hm;have hxg:=hg _ hm;have r7:=zan hc;have bd:=qmv (b.take k) (fun y hy=>hB y (List.mem_of_mem_take hy)) (fun y hy=>hg y (List.mem_of_mem_take hy));have b5:(b.map ji)[k]? = some (ji (b.getD k ⟨0,0,[]⟩)):=zam hc;generalize b.getD k ⟨0,0,[]⟩=x at hm rp hxg r7 b5;obtain⟨d8,hfg⟩:=qjk hxg;have dj:=qpc x rp.id1 rp.id2;have hfo:=qfz x.fields hfg;have pd:=qlo (zu x.fields);have d2:(b.take k).length≤40:=by rw [List.length_take];omega
  repeat' (first|apply qn|apply qy|apply qf|apply qh|apply qj|apply qg|(apply qs;(iterate 3 exact rfl))|(apply qc;exact rfl;apply vf;exact cAo)|(apply jm;(iterate 4 exact rfl))|(apply zl;exact rfl;exact rfl;exact q6 (by omega) (by omega))|(apply qjr;exact rfl;kernel_rfl)|apply qh5|(apply qh4;exact rfl;exact rfl;exact cOs)|(apply qiu;(iterate 3 exact rfl))|(apply qgl;(iterate 4 exact rfl))|apply qfx|apply qh3|apply qw|(apply qol (n:=k);(iterate 5 exact rfl);exact b5)|(refine qr3 (args:=[ji x]) qwn Tryz.call181 rfl zj8 (qkf _) (fun _=>.v _) (qy2 x _ rp.id1 rp.id2) ?_)|(refine qr3 (args:=[jr x.fields]) qwn Tryz.call183 rfl zif (qkf _) (fun _=>.v _) (qve x.fields _ (qug d8 hfg)) ?_)|(refine qr3 (args:=[Sv (zu x.fields),Sv [32,32]]) qwn Tryz.call182 rfl zig (qkf _) (fun _=>.v _) (q5a (zu x.fields) [32,32] _ (by omega) (by decide)) ?_))
  exact⟨k+1,⟨by omega,qbh ⟨rfl,congrArg Sv r7.symm,rfl,trivial⟩ rfl⟩,by omega⟩
 ·have e:k=b.length:=by omega
  subst e;rw [List.take_length];repeat' (first|apply qn|apply qf|apply qh|apply qj|apply qg|(apply qs;(iterate 3 exact rfl))|(apply qc;exact rfl;apply vr;exact cAo)|(apply jm;(iterate 4 exact rfl))|apply jd|apply qt)
  exact qm rfl (q5 rfl) ⟨rfl,qa9 _ _ _ _⟩
theorem zah:∀ (ps:List qa) (acc b:List qr),(∀ x∈acc,EdB x)→decP ps acc=some b→∀ x∈b,EdB x
 | [],acc,b,h,e=>by
  rw [decP] at e
  cases e
  exact h
 |p::r,acc,b,h,e=>by
  rw [decP] at e;split at e
  ·simp at e
  ·rename_i k n hb
   split at e
   ·refine zah r _ b (fun x hx=>?_) e
    rcases List.mem_append.1 hx with hx|hx
    ·exact h x hx
    ·obtain rfl:=List.mem_singleton.1 hx
     exact zal (qwe hb).1 (qwe hb).2 (qrc _)
   ·simp at e
theorem zag {text:qa} {b:List qr} (h:decF text=some b):∀ x∈b,EdB x:=by
 unfold decF at h;split at h
 ·simp at h
 ·split at h
  ·simp at h
  ·rename_i c hc
   split at h
   ·cases h
    exact zah _ _ _ (by simp) hc
   ·simp at h
end Go.Proofs.YtneejjefekdgjaaGreatDoor
namespace Go.Pl
open Go Go.Proofs Go.Proofs.YtneejjefekdgjaaGreatDoor
def addF (out:List qr) (f:Fld):List qr:=match out.getLast? with
 |none=>out
 |some x=>out.dropLast++[⟨x.kind,x.id,x.fields++[f]⟩]
def qaa (out:List qr) (a8:List qa):Option (List qr):=
 if a8=[] then some out else if (zr a8).2=0 then some (addF out (zr a8).1) else none
def tryR (l:qa) (e:Option (Int×Int)) (k:Int):Option (Int×Int):=
 if yw k <+: l then match numZ (l.drop (yw k).length) with
  |some n=>some (k,n)
  |none=>e
 else e
def begR (l:qa):Option (Int×Int):=tryR l (tryR l (tryR l none 1) 2) 3
def ku:List qa→List qr→List qa→Option (List qr)
 | [],out,a8=>qaa out a8
 |l::r,out,a8=>
  match (if a8≠[]∧¬ [32,32,32] <+: l then (qaa out a8).map fun o=>(o,([]:List qa)) else some (out,a8)) with
  |none=>none
  |some (o,h)=>
   if [32,32] <+: l then if o=[] then none else ku r o (h++[l.drop 2])
   else match begR l with
    |none=>none
    |some (k,n)=>if 40≤o.length then none else ku r (o++[⟨k,n,[]⟩]) h
theorem q9o (b:List qr) (k n:Int) (gs:List Fld) (f:Fld):addF (b++[⟨k,n,gs⟩]) f=b++[⟨k,n,gs++[f]⟩]:=by
 unfold addF;simp
def qs9 (a8:List qa) (pe:List Fld):Prop:=(a8=[]∧pe=[])∨∃ g,ka g∧a8=zm g∧pe=[g]
theorem qmz {b:List qr} {k n:Int} {gs pe:List Fld} {a8:List qa} (h:qs9 a8 pe):qaa (b++[⟨k,n,gs⟩]) a8=some (b++[⟨k,n,gs++pe⟩]):=by
 unfold qaa;rcases h with⟨rfl,rfl⟩ | ⟨g,hg,rfl,rfl⟩
 ·simp
 ·have hu:=qn6 hg
  rw [if_neg (by simp [zm]),hu,if_pos rfl,q9o]
theorem ind3 {s:qa} (h:[32] <+: s):[32,32,32] <+: [32,32]++s:=by
 obtain⟨t,rfl⟩:=h;exact⟨t,rfl⟩
theorem zej {s:qa} (h:¬ [32] <+: s):¬ [32,32,32] <+: [32,32]++s:=fun ⟨t,ht⟩=>h ⟨t,by simpa using ht⟩
theorem zcq {s:qa} {r:List qa} {out:List qr} {a8:List qa} (hs:[32] <+: s) (a6:out≠[]):ku (([32,32]++s)::r) out a8=ku r out (a8++[s]):=by
 rw [ku,if_neg (fun h=>h.2 (ind3 hs))];simp only;rw [if_pos (List.prefix_append _ _),if_neg a6];rfl
theorem qy5:∀ (m:List qa) {r:List qa} {out:List qr} {a8:List qa},(∀ s∈m,[32] <+: s)→out≠[]→ku (m.map (fun s=>[32,32]++s)++r) out a8=ku r out (a8++m)
 | [],r,out,a8,_,_=>by simp
 |s::m,r,out,a8,h,a6=>by
  rw [List.map_cons,List.cons_append,zcq (h s (by simp)) a6,qy5 m (fun x hx=>h x (by simp [hx])) a6];simp
theorem zcp {s:qa} {r:List qa} {b:List qr} {k n:Int} {gs pe:List Fld} {a8:List qa} (hs:¬ [32] <+: s) (hh:qs9 a8 pe):ku (([32,32]++s)::r) (b++[⟨k,n,gs⟩]) a8=ku r (b++[⟨k,n,gs++pe⟩]) [s]:=by
 rw [ku];have hi:=zej hs
 have e:(if a8≠[]∧¬ [32,32,32] <+: [32,32]++s then (qaa (b++[⟨k,n,gs⟩]) a8).map fun o=>(o,([]:List qa)) else some (b++[⟨k,n,gs⟩],a8))=some (b++[⟨k,n,gs++pe⟩],[]):=by
  by_cases h0:a8=[]
  ·rcases hh with⟨_,rfl⟩ | ⟨g,_,h1,_⟩
   ·rw [if_neg (fun h=>h.1 h0),h0];simp
   ·rw [h0] at h1;simp [zm] at h1
  ·rw [if_pos ⟨h0,hi⟩,qmz hh];rfl
 rw [e];simp only;rw [if_pos (List.prefix_append _ _),if_neg (by simp)];rfl
theorem q18 {f:Fld} (h:ka f):∃ hd mr,zm f=hd::mr∧¬ [32] <+: hd∧∀ s∈mr,[32] <+: s:=by
 refine⟨_,_,rfl,?_,fun s hs=>?_⟩
 ·obtain⟨h1,_,h3,_⟩:=h.1
  rintro⟨t,ht⟩;apply h3
  cases hk:f.1 with
  |nil=>exact absurd hk h1
  |cons c l=>
   unfold kf at ht;rw [hk] at ht;have:=(List.cons.inj ht).1;rw [← this];simp [qe3,wp]
 ·obtain⟨x,_,rfl⟩:=List.mem_map.1 hs
  exact List.prefix_append _ _
def q0b (R:List qa):Prop:=∀ l r,R=l::r→¬ [32,32] <+: l
theorem zio {R:List qa} {b:List qr} {k n:Int} {gs pe:List Fld} {a8:List qa} (hR:q0b R) (hh:qs9 a8 pe):ku R (b++[⟨k,n,gs⟩]) a8=ku R (b++[⟨k,n,gs++pe⟩]) []:=by
 cases R with
 |nil=>
  rw [ku,ku,qmz hh]
  simp [qaa]
 |cons l r=>
  have h2:=hR l r rfl;have h3:¬ [32,32,32] <+: l:=fun ⟨t,ht⟩=>h2 ⟨[32]++t,by rw [← ht];rfl⟩
  have e:(if a8≠[]∧¬ [32,32,32] <+: l then (qaa (b++[⟨k,n,gs⟩]) a8).map fun o=>(o,([]:List qa)) else some (b++[⟨k,n,gs⟩],a8))=some (b++[⟨k,n,gs++pe⟩],[]):=by
   by_cases h0:a8=[]
   ·rcases hh with⟨_,rfl⟩ | ⟨g,_,h1,_⟩
    ·rw [if_neg (fun h=>h.1 h0),h0];simp
    ·rw [h0] at h1;simp [zm] at h1
   ·rw [if_pos ⟨h0,h3⟩,qmz hh];rfl
  rw [ku,e,ku,if_neg (fun h=>h.1 rfl)]
theorem qy4:∀ (fs:List Fld) {R:List qa} {b:List qr} {k n:Int} {gs pe:List Fld} {a8:List qa},q0b R→(∀ f∈fs,ka f)→qs9 a8 pe →
  ku ((fs.flatMap zm).map (fun s=>[32,32]++s)++R) (b++[⟨k,n,gs⟩]) a8=ku R (b++[⟨k,n,gs++pe++fs⟩]) []
 | [],R,b,k,n,gs,pe,a8,hR,_,hh=>by
  rw [List.flatMap_nil,List.map_nil,List.nil_append,zio hR hh,List.append_nil]
 |f::fs,R,b,k,n,gs,pe,a8,hR,hf,hh=>by
  have rb:=hf f (by simp);obtain⟨hd,mr,hl,h1,h2⟩:=q18 rb;rw [List.flatMap_cons,List.map_append,hl,List.map_cons,List.append_assoc,List.cons_append,zcp h1 hh,qy5 mr h2 (by simp)];have e:[hd]++mr=zm f:=by rw [hl];rfl
  rw [e,qy4 fs hR (fun x hx=>hf x (by simp [hx])) (.inr ⟨f,rb,rfl,rfl⟩)];simp
theorem q97 {x:qr} (hx:EncG x):begR (kg x)=some (x.kind,x.id):=by
 have hl:kg x=yw x.kind++Lib.itoa x.id:=by
  unfold kg;rw [if_pos (by have:=hx.kind;omega)]
 have e7:∀ e,tryR (kg x) e x.kind=some (x.kind,x.id):=fun e=>by
  unfold tryR;rw [hl,if_pos (List.prefix_append _ _),List.drop_left,qf5 hx.id1 hx.id2]
 have f0:∀ (j:Int) e,(j=1∨j=2∨j=3)→j≠x.kind→tryR (kg x) e j=e:=fun j e hj a6=>by
  unfold tryR;rw [hl,if_neg (quh hj hx.kind a6)]
 unfold begR;rcases hx.kind with h|h|h
 ·rw [h] at e7 f0 ⊢
  rw [e7,f0 2 _ (by simp) (by decide),f0 3 _ (by simp) (by decide)]
 ·rw [h] at e7 f0 ⊢
  rw [e7,f0 3 _ (by simp) (by decide)]
 ·rw [h] at e7 f0 ⊢
  rw [e7]
theorem qy1:∀ (r b:List qr),(∀ x∈r,EncG x)→b.length+r.length≤40→ku (encL r) b []=some (b++r)
 | [],b,_,_=>by
  simp [encL,ku,qaa]
 |x::r,b,h,hl=>by
  have hx:=h x (by simp);simp only [List.length_cons] at hl;have e:encL (x::r)=kg x::(qbl x++encL r):=by simp [encL]
  have hR:q0b (encL r):=fun l t et=>by
   cases r with
   |nil=>simp [encL] at et
   |cons y r=>
    have e:encL (y::r)=kg y::(qbl y++encL r):=by simp [encL]
    rw [e] at et;rw [← (List.cons.inj et).1];exact qlr (h y (by simp)).kind
  rw [e,ku,if_neg (fun h=>h.1 rfl)];simp only;rw [if_neg (qlr hx.kind),q97 hx];simp only;rw [if_neg (by omega)];unfold qbl;rw [qy4 x.fields hR hx.good (.inl ⟨rfl,rfl⟩),qy1 r _ (fun y hy=>h y (by simp [hy])) (by simp;omega)];simp
def OutG (out:List qr) (m:Nat):Prop:=∀ x∈out,(∀ f∈x.fields,ka f)∧x.fields.length≤m∧-9223372036854775808≤x.id∧x.id≤9223372036854775807
theorem OutG.mono {out:List qr} {m m':Nat} (h:OutG out m) (hm:m≤m'):OutG out m':=fun x hx=>⟨(h x hx).1,by have:=(h x hx).2.1;omega,(h x hx).2.2⟩
theorem q0d {out:List qr} {f:Fld} {m:Nat} (h:OutG out m) (hf:ka f):OutG (addF out f) (m+1):=by
 unfold addF
 cases hl:out.getLast? with
 |none=>exact h.mono (by omega)
 |some y=>
  have hy:=h y (List.mem_of_getLast? hl);intro x hx;rcases List.mem_append.1 hx with hx|hx
  ·exact h.mono (by omega) x ((List.dropLast_sublist out).subset hx)
  ·obtain rfl:=List.mem_singleton.1 hx
   refine⟨fun g hg=>?_,by simp;exact hy.2.1,hy.2.2⟩;rcases List.mem_append.1 hg with hg|hg
   ·exact hy.1 g hg
   ·obtain rfl:=List.mem_singleton.1 hg
    exact hf
theorem q1s {out o:List qr} {a8:List qa} {m:Nat} (h:OutG out m) (e:qaa out a8=some o):OutG o (m+1):=by
 unfold qaa at e;split at e
 ·cases e;exact h.mono (by omega)
 ·split at e
  ·rename_i hu
   cases e
   exact q0d h (qh2 hu)
  ·simp at e
theorem q3z {l:qa} {e:Option (Int×Int)} {j k n:Int} (he:∀ k n,e=some (k,n)→-9223372036854775808≤n∧n≤9223372036854775807) (h:tryR l e j=some (k,n)) : -9223372036854775808≤n∧n≤9223372036854775807:=by
 unfold tryR at h;split at h
 ·split at h
  ·rename_i v hv
   cases h
   exact (qla hv).2
  ·exact he _ _ h
 ·exact he _ _ h
theorem q96 {l:qa} {k n:Int} (h:begR l=some (k,n)) : -9223372036854775808≤n∧n≤9223372036854775807:=
 q3z (fun _ _ h=>q3z (fun _ _ h=>q3z (fun _ _ h=>by simp at h) h) h) h
theorem qwv:∀ (L:List qa) {out b:List qr} {a8:List qa} {m:Nat},OutG out m→ku L out a8=some b→OutG b (m+L.length+1)
 | [],out,b,a8,m,h,e=>by
  rw [ku] at e
  exact (q1s h e).mono (by simp)
 |l::r,out,b,a8,m,h,e=>by
  rw [ku] at e;split at e
  ·simp at e
  ·rename_i o hd he
   have ho:OutG o (m+1):=by
    split at he
    ·obtain⟨o',h1,h2⟩:=Option.map_eq_some_iff.1 he
     cases h2
     exact q1s h h1
    ·cases he;exact h.mono (by omega)
   split at e
   ·split at e
    ·simp at e
    ·exact (qwv r ho e).mono (by simp;omega)
   ·split at e
    ·simp at e
    ·rename_i k n hb
     split at e
     ·simp at e
     ·refine (qwv r (m:=m+1) (fun x hx=>?_) e).mono (by simp;omega)
      rcases List.mem_append.1 hx with hx|hx
      ·exact ho x hx
      ·obtain rfl:=List.mem_singleton.1 hx
       exact⟨by simp,by simp,q96 hb⟩
theorem zbm {b:List qr} {m:Nat} (h:OutG b m) (hm:m<9223372036854775808):∀ x∈b,EdB x:=fun x hx=>by
 obtain⟨h1,h2,h3,h4⟩:=h x hx;exact⟨fun f hf=>by have:=(h1 f hf).1.2.1;omega,by omega,h3,h4⟩
def qcu (text:qa):Option (List qr):=if 50000<text.length then none else match ku ((lns text).map fun x=>x.text) [] [] with
 |none=>none
 |some b=>if eErr b = .no∧encF b=text then some b else none
theorem zes (l:qa):(lns l).map (fun x=>x.text)=(zn l).map Prod.fst:=by
 rw [← qpg,List.map_map];rfl
theorem zb2 (text:qa):qcu text=decF text:=by
 by_cases l8:50000<text.length
 ·unfold qcu decF
  rw [if_pos l8,if_pos l8]
 have hn:=qcz _ text 0 0 (Nat.le_refl _)
 cases hd:decF text with
 |some b=>
  obtain⟨he,ht,_⟩:=q1a hd;obtain⟨h1,sg,hg⟩:=qdk he;have hB:=zag hd;have hG:∀ y∈b,EncG y:=fun y hy=>qwk (hg y hy) (hB y hy)
  have hl:(lns text).map (fun x=>x.text)=encL b:=by
   rw [zes,← ht,qx9 hG,qcq,List.map_map]
   ·simp [Function.comp_def]
   ·intro s hs
    obtain⟨x,hx,hs⟩:=List.mem_flatMap.1 hs;rcases List.mem_cons.1 hs with rfl|hs
    ·exact qcy x
    ·exact qxp (hG x hx).good s hs
  unfold qcu;rw [if_neg l8,hl,qy1 b [] hG (by simp;omega)];simp only [List.nil_append]
  rw [if_pos ⟨he,ht⟩]
 |none=>
  unfold qcu;rw [if_neg l8]
  cases hr:ku ((lns text).map fun x=>x.text) [] [] with
  |none=>rfl
  |some b=>
   simp only;split
   ·rename_i hc
    have hB:=zbm (qwv _ (m:=0) (by intro x hx;simp at hx) hr) (by
     have:(lns text).length≤text.length:=hn;simp
     omega)
    have:=zhb hc.1 hB (by rw [hc.2];omega);rw [hc.2,hd] at this;simp at this
   ·rfl
end Go.Pl
namespace Go.Proofs.YtneejjefekdgjaaGreatDoor
open Go Go.Av Go.RowKit Go.Proofs Go.Pl
def qct:Option (List qr)→AV
 |none=>.tu [jo [],Bv false]
 |some b=>.tu [jo b,Bv true]
end Go.Proofs.YtneejjefekdgjaaGreatDoor
namespace Go.Pl
open Go Go.Proofs
def kw:List (qa×Bool)→List qa
 | []=>[]
 |(t,_)::r=>if qv t=3 then t::kw r else []
def kh (prev:Bool) (t:qa) (e:Bool) (r:List (qa×Bool)) (fields:Nat) (records:Int):Int:=
 if qv t=5∨(qv t=3∧prev=false)∨e=false then 2
 else if qv t≠4 then 0
 else if (zr (t::kw r)).2≠0 then (zr (t::kw r)).2
 else if 40≤fields∨(fields=0∧400≤records) then 11 else 0
theorem qra {α : Type} {l:List α} {x : α} (h:l.getLast? = some x):l.dropLast++[x]=l:=by
 have a6:l≠[]:=fun e=>by subst e;simp at h
 rw [List.getLast?_eq_some_getLast a6] at h;obtain rfl:=Option.some.inj h;exact List.dropLast_concat_getLast a6
def outR (now:ze) (out:List ze):List ze:=if now.raw=[] then out else out++[now]
def refL:Nat→List (qa×Bool)→Bool→ze→Int→List ze→Option (Int×Int)×List ze
 | _,[],_,now,_,out=>(none,outR now out)
 |i,(t,e)::r,prev,now,rec,out=>
  if kh prev t e r now.fields.length rec≠0 then (some ((i:Int),kh prev t e r now.fields.length rec),[])
  else if qv t=1 then refL (i+1) r false ⟨2,[],[]⟩ rec (outR now out++[⟨1,t++[10],[]⟩])
  else if qv t=4 then refL (i+1) r true ⟨3,now.raw++t++[10],now.fields++[(zr (t::kw r)).1]⟩ (if now.kind=2 then rec+1 else rec) out
  else refL (i+1) r (decide (qv t=3)) ⟨now.kind,now.raw++t++[10],now.fields⟩ rec out
def qzy:List (qa×Bool)→Prop
 | []=>True
 |(_,e)::r=>(e=false→r=[])∧qzy r
theorem qrl:∀ (n:Nat) (l:qa),l.length≤n→qzy (zn l)
 | 0,l,h=>by
  have:l=[]:=List.length_eq_zero_iff.1 (by omega);subst this;rw [vi]
  trivial
 |n+1,l,h=>by
  by_cases hl:l=[]
  ·subst hl
   rw [vi];trivial
  ·rw [wq hl]
   refine⟨fun he=>?_,qrl n _ (by have:=xq (c:=10) hl;omega)⟩;have b9:10∉l:=by simpa using he
   have:past 10 l=[]:=by
    unfold past;rw [xg b9];exact List.drop_eq_nil_of_le (by omega)
   rw [this,vi]
def qe6 (ls:List qa) (full:Bool):Int:=if (zr ls).2≠0 then (zr ls).2 else if full=true then 11 else 0
theorem qi3 {p:PSt} (h:p.lines≠[]) (hc:qe6 p.lines p.full≠0):(jz p).1=some (p.frm,qe6 p.lines p.full):=by
 unfold qe6 at *;unfold jz;rw [if_neg h];by_cases h1:(zr p.lines).2≠0
 ·rw [if_pos h1,if_pos h1]
 ·rw [if_neg h1] at hc ⊢
  rw [if_neg h1];by_cases h2:p.full=true
  ·rw [if_pos h2,if_pos h2]
  ·rw [if_neg h2] at hc
   exact absurd rfl hc
theorem qyc {p:PSt} (h:p.lines=[]∨qe6 p.lines p.full=0):jz p=(none,{ p with lines:=[],fields:=p.fields++(if p.lines=[] then [] else [(zr p.lines).1]) }):=by
 unfold jz;by_cases h0:p.lines=[]
 ·rw [if_pos h0,if_pos h0]
  obtain⟨a,b,c,d,e,f,g⟩:=p;simp only at h0;subst h0;simp
 ·rw [if_neg h0,if_neg h0]
  have h:=h.resolve_left h0;unfold qe6 at h;by_cases h1:(zr p.lines).2≠0
  ·rw [if_pos h1] at h
   exact absurd h h1
  ·rw [if_neg h1] at h ⊢
   by_cases h2:p.full=true
   ·rw [if_pos h2] at h
    simp at h
   ·rw [if_neg h2]
theorem qs3 {p:PSt} {no:Int} {t:qa} {e:Bool} {x:Int×Int} (h:(ju p no t e (qv t)).1=some x):(wz p no t e).1=some x:=by
 unfold wz;rw [h]
theorem qs4 {p q:PSt} {no:Int} {t:qa} {e:Bool} (h:ju p no t e (qv t)=(none,q)) (hc:qv t=5∨e=false):(wz p no t e).1=some (no,2):=by
 unfold wz;rw [h];simp only;rw [if_pos hc]
theorem qmg {p q:PSt} {no:Int} {t:qa} (h:ju p no t true (qv t)=(none,q)) (hc:qv t≠5):wz p no t true =
  if qv t=1 then (none,{ q with items:=q.items++[⟨1,t++[10],[]⟩] }) else if qv t=4 then (none,{ kv q no t with block:=q.block++[t] }) else (none,{ q with block:=q.block++[t] }):=by
 unfold wz;rw [h];simp only;rw [if_neg (by simp [hc])]
theorem qf9 {k:Nat} {t:qa} {e:Bool} {r:List (qa×Bool)} {p:PSt} {x:Int×Int} (h:(wz p k t e).1=some x):(runL k ((t,e)::r) p).1=some x:=by
 rw [runL,h]
theorem qif {k:Nat} {t:qa} {e:Bool} {r:List (qa×Bool)} {p q:PSt} (h:wz p k t e=(none,q)):runL k ((t,e)::r) p=runL (k+1) r q:=by
 rw [runL,h]
theorem qtd {p:PSt} {no:Int} {t:qa} (hk:qv t=3) (hl:p.lines≠[]):ju p no t true (qv t)=(none,{ p with lines:=p.lines++[t] }):=by
 unfold ju;rw [if_pos hk,if_neg hl,if_pos rfl]
theorem qtc {p:PSt} {no:Int} {t:qa} (hk:qv t=3) (hl:p.lines≠[]):ju p no t false (qv t)=jz { p with lines:=p.lines++[t] }:=by
 unfold ju;rw [if_pos hk,if_neg hl,if_neg (by simp)]
theorem qhj {p:PSt} {no:Int} {t:qa} {e:Bool} (hk:qv t≠3) (h1:qv t≠1):ju p no t e (qv t)=jz p:=by
 unfold ju;rw [if_neg hk,if_neg h1]
theorem qlh {p:PSt} {no:Int} {t:qa} {e:Bool} (h1:qv t=1):ju p no t e (qv t)=endP p:=by
 unfold ju;rw [if_neg (by omega),if_pos h1]
theorem qnd {t:qa} {e:Bool} {r:List (qa×Bool)} (h:qv t≠3):kw ((t,e)::r)=[]:=by
 rw [kw,if_neg h]
theorem qht {t:qa} {e:Bool} {r:List (qa×Bool)} (h:qv t=3):kw ((t,e)::r)=t::kw r:=by
 rw [kw,if_pos h]
theorem q1j {p:PSt} {x:Int×Int} (h:(jz p).1=some x):(endP p).1=some x:=by
 unfold endP;rw [h]
theorem qwl {p q:PSt} (h:jz p=(none,q)):endP p=(none,yl q):=by
 unfold endP;rw [h]
theorem q2z:∀ (r:List (qa×Bool)) (p:PSt) (k:Nat) (c:Int),qzy r→p.lines≠[]→qe6 (p.lines++kw r) p.full=c→c≠0→(runL k r p).1=some (p.frm,c)
 | [],p,k,c,_,hl,hc,h0=>by
  rw [kw,List.append_nil] at hc;rw [runL];subst hc
  exact q1j (qi3 hl h0)
 |(t,e)::r,p,k,c,hE,hl,hc,h0=>by
  by_cases h3:qv t=3
  ·rw [qht h3] at hc
   cases e with
   |true=>
    have ht:=qmg (qtd (no:=k) h3 hl) (by omega);rw [if_neg (by omega),if_neg (by omega)] at ht;rw [qif ht]
    exact q2z r _ (k+1) c hE.2 (by simp) (by simpa using hc) h0
   |false=>
    have hr:=hE.1 rfl;subst hr;refine qf9 (qs3 ?_);rw [qtc h3 hl];have mb:qe6 (p.lines++[t]) p.full=c:=hc;have:=qi3 (p:={ p with lines:=p.lines++[t] }) (by simp) (by simp only;rw [mb];exact h0);simp only at this;rw [this,mb]
  ·rw [qnd h3,List.append_nil] at hc
   subst hc;refine qf9 (qs3 ?_);by_cases h1:qv t=1
   ·rw [qlh h1]
    exact q1j (qi3 hl h0)
   ·rw [qhj h3 h1]
    exact qi3 hl h0
structure Sim (r:List (qa×Bool)) (p:PSt) (prev:Bool) (now:ze) (rec:Int) (out:List ze):Prop where
 hprev:prev=decide (p.lines≠[])
 hok:p.lines=[]∨qe6 (p.lines++kw r) p.full=0
 hraw:now.raw=zi p.block
 hfields:now.fields=p.fields++(if p.lines=[] then [] else [(zr (p.lines++kw r)).1])
 hkind:now.kind=if now.fields=[] then 2 else 3
 hrec:rec=p.records+if now.fields=[] then 0 else 1
 hout:out=p.items
 hempty:p.block=[]→p.lines=[]∧p.fields=[]
 b1:now.fields.length≤40
 b2:rec≤400
theorem zcw (b:List qa):zi b=[]↔b=[]:=by
 cases b with
 |nil=>simp [zi]
 |cons x r=>simp [zi]
theorem qnw (b:List qa) (t:qa):zi (b++[t])=zi b++t++[10]:=by simp [zi]
theorem Sim.flush {r:List (qa×Bool)} {p:PSt} {prev:Bool} {now:ze} {rec:Int} {out:List ze} (h:Sim r p prev now rec out) (hm:kw r=[]):jz p=(none,{ p with lines:=[],fields:=now.fields }):=by
 have h1:=h.hok;have h2:=h.hfields;rw [hm,List.append_nil] at h1 h2;rw [qyc h1,h2]
theorem Sim.close {r:List (qa×Bool)} {p:PSt} {prev:Bool} {now:ze} {rec:Int} {out:List ze} (h:Sim r p prev now rec out) (hm:kw r=[]):yl { p with lines:=[],fields:=now.fields }={ p with lines:=[],fields:=[],block:=[],items:=outR now out,records:=rec }:=by
 have hk:=h.hkind;have hr:=h.hrec;have hw:=h.hraw;have ho:=h.hout;unfold yl outR;simp only;by_cases hb:p.block=[]
 ·obtain⟨e1,e2⟩:=h.hempty hb
  have hf:now.fields=[]:=by rw [h.hfields,e1,e2];simp
  rw [if_pos hb,if_pos (by rw [hw,hb];rfl),ho,hr,hf];simp
 ·have a6:¬ now.raw=[]:=by rw [hw,zcw];exact hb
  rw [if_neg hb,if_neg a6,ho,hr,← hw];obtain⟨nk,nr,nf⟩:=now;simp only at hk a6 ⊢;by_cases hf:nf=[]
  ·rw [if_pos hf] at hk
   simp [hf,hk,a6]
  ·rw [if_neg hf] at hk
   simp [hf,hk,a6]
theorem qmd:∀ (r:List (qa×Bool)) (k:Nat) (p:PSt) (prev:Bool) (now:ze) (rec:Int) (out:List ze),qzy r→Sim r p prev now rec out →
  refL k r prev now rec out=match (runL k r p).1 with
   |some e=>(some e,[])
   |none=>(none,(runL k r p).2.items)
 | [],k,p,prev,now,rec,out,_,h=>by
  rw [runL,qwl (h.flush rfl),h.close rfl,refL]
 |(t,e)::r,k,p,prev,now,rec,out,hE,h=>by
  rw [refL];by_cases h3:qv t=3
  ·by_cases hl:p.lines=[]
   ·have hp:prev=false:=by rw [h.hprev];simp [hl]
    have hw:kh prev t e r now.fields.length rec=2:=by
     unfold kh;rw [if_pos (.inr (.inl ⟨h3,hp⟩))]
    rw [hw,if_pos (by decide),qf9 (x:=((k:Int),2)) (qs3 (by unfold ju;rw [if_pos h3,if_pos hl]))]
   ·cases e with
    |true=>
     have hp:prev=true:=by rw [h.hprev];simp [hl]
     have hw:kh prev t true r now.fields.length rec=0:=by
      unfold kh;rw [if_neg (by simp [hp];omega),if_pos (by omega)]
     have ht:=qmg (qtd (no:=k) h3 hl) (by omega);rw [if_neg (by omega),if_neg (by omega)] at ht;rw [hw,if_neg (by simp),if_neg (by omega),if_neg (by omega),qif ht];have hm:=qht (e:=true) (r:=r) h3;have hok:=h.hok.resolve_left hl;have hfs:=h.hfields;rw [if_neg hl,hm] at hfs;rw [hm] at hok
     refine qmd r (k+1) _ _ _ _ _ hE.2 ⟨by simp [h3],.inr (by simpa using hok),by rw [qnw,← h.hraw],by simp [hfs],h.hkind,h.hrec,h.hout,by simp,h.b1,h.b2⟩
    |false=>
     have hr:=hE.1 rfl;subst hr
     have hw:kh prev t false [] now.fields.length rec=2:=by
      unfold kh;rw [if_pos (.inr (.inr rfl))]
     have hok:=h.hok.resolve_left hl;rw [qht h3] at hok;have hf:=qyc (p:={ p with lines:=p.lines++[t] }) (.inr hok);rw [hw,if_pos (by decide),qf9 (x:=((k:Int),2)) (qs4 ((qtc h3 hl).trans hf) (.inr rfl))]
  ·have hm:=qnd (e:=e) (r:=r) h3
   have hf:=h.flush hm;have hc:=h.close hm;by_cases s7:qv t=5∨e=false
   ·have hw:kh prev t e r now.fields.length rec=2:=by
     unfold kh;rw [if_pos (by rcases s7 with h|h;exact .inl h;exact .inr (.inr h))]
    rw [hw,if_pos (by decide)];by_cases h1:qv t=1
    ·rw [qf9 (x:=((k:Int),2)) (qs4 ((qlh h1).trans (qwl hf)) s7)]
    ·rw [qf9 (x:=((k:Int),2)) (qs4 ((qhj h3 h1).trans hf) s7)]
   ·have he:e=true:=by
     cases e with
     |true=>rfl
     |false=>exact absurd (.inr rfl) s7
    have h5:qv t≠5:=fun h=>s7 (.inl h);subst he;by_cases h1:qv t=1
    ·have hw:kh prev t true r now.fields.length rec=0:=by
      unfold kh;rw [if_neg (by simp [h3,h5]),if_pos (by omega)]
     have ht:=qmg ((qlh (no:=k) h1).trans (qwl hf)) h5;rw [if_pos h1,hc] at ht;rw [hw,if_neg (by simp),if_pos h1,qif ht];exact qmd r (k+1) _ _ _ _ _ hE.2 ⟨by simp,.inl rfl,rfl,by simp,by simp,by simp,rfl,by simp,by simp,h.b2⟩
    ·by_cases h4:qv t=4
     ·have ht:=qmg ((qhj (no:=k) h3 h1).trans hf) h5
      rw [if_neg h1,if_pos h4] at ht;rw [qif ht];have i5:=h.b1;have i6:=h.b2;have hrec:=h.hrec
      have hfull:(40≤now.fields.length∨(now.fields.length=0∧400≤rec))↔(now.fields.length=40∨(now.fields.length=0∧p.records=400)):=by
       by_cases hz:now.fields=[]
       ·rw [if_pos hz] at hrec
        simp only [hz,List.length_nil];constructor
        ·rintro (h'|h')
         ·exact absurd h' (by decide)
         ·exact .inr ⟨trivial,by omega⟩
        ·rintro (h'|h')
         ·exact absurd h' (by decide)
         ·exact .inr ⟨trivial,by omega⟩
       ·have:now.fields.length≠0:=fun h=>hz (List.length_eq_zero_iff.1 h)
        constructor
        ·rintro (h'|h')
         ·exact .inl (by omega)
         ·exact absurd h'.1 this
        ·rintro (h'|h')
         ·exact .inl (by omega)
         ·exact absurd h'.1 this
      have hw:kh prev t true r now.fields.length rec=qe6 (t::kw r) (decide (now.fields.length=40∨(now.fields.length=0∧p.records=400))):=by
       unfold kh qe6;rw [if_neg (by simp [h3,h5]),if_neg (by omega)];by_cases hu:(zr (t::kw r)).2≠0
       ·rw [if_pos hu,if_pos hu]
       ·rw [if_neg hu,if_neg hu]
        by_cases hx:40≤now.fields.length∨(now.fields.length=0∧400≤rec)
        ·rw [if_pos hx,if_pos (decide_eq_true (hfull.1 hx))]
        ·rw [if_neg hx,if_neg (by simpa using fun h=>hx (hfull.2 h))]
      by_cases hw0:kh prev t true r now.fields.length rec=0
      ·rw [if_neg (by simp [hw0]),if_neg h1,if_pos h4]
       have hx:¬ (40≤now.fields.length∨(now.fields.length=0∧400≤rec)):=fun hx=>by
        unfold kh at hw0;rw [if_neg (by simp [h3,h5]),if_neg (by omega)] at hw0;by_cases hu:(zr (t::kw r)).2≠0
        ·rw [if_pos hu] at hw0;exact hu hw0
        ·rw [if_neg hu,if_pos hx] at hw0;simp at hw0
       rw [hw] at hw0;refine qmd r (k+1) _ _ _ _ _ hE.2 ⟨by simp [kv],.inr hw0,by simp only [kv];rw [qnw,← h.hraw],by simp [kv],by simp,?_,h.hout,by simp [kv],by simp;omega,?_⟩
       ·have gn:=h.hkind
        simp only [kv];by_cases hz:now.fields=[]
        ·rw [if_pos hz] at hrec gn
         rw [gn];simp;omega
        ·rw [if_neg hz] at hrec gn
         rw [gn];simp;omega
       ·rw [h.hkind]
        by_cases hz:now.fields=[]
        ·have:now.fields.length=0:=by rw [hz];rfl
         rw [if_pos hz,if_pos rfl];omega
        ·rw [if_neg hz,if_neg (by decide)]
         exact i6
      ·rw [if_pos hw0]
       have:=q2z r { kv { p with lines:=[],fields:=now.fields } k t with block:=p.block++[t] } (k+1) (kh prev t true r now.fields.length rec) hE.2 (by simp [kv]) hw.symm hw0;simp only [kv] at this ⊢;rw [this]
     ·have hw:kh prev t true r now.fields.length rec=0:=by
       unfold kh;rw [if_neg (by simp [h3,h5]),if_pos h4]
      have ht:=qmg ((qhj (no:=k) h3 h1).trans hf) h5;rw [if_neg h1,if_neg h4] at ht;rw [hw,if_neg (by simp),if_neg h1,if_neg h4,qif ht];exact qmd r (k+1) _ _ _ _ _ hE.2 ⟨by simp [h3],.inl rfl,by rw [qnw,← h.hraw],by simp,h.hkind,h.hrec,h.hout,by simp,h.b1,h.b2⟩
theorem qdp (text:qa):refL 0 (zn text) false ⟨2,[],[]⟩ 0 []=ja text:=by
 unfold ja;exact qmd (zn text) 0 p0 false ⟨2,[],[]⟩ 0 [] (qrl _ text (Nat.le_refl _)) ⟨by simp [p0],.inl rfl,rfl,by simp [p0],by simp,by simp [p0],rfl,by simp [p0],by simp,by omega⟩
end Go.Pl
namespace Go.Pl
open Go Go.Proofs Go.Proofs.YtneejjefekdgjaaGreatDoor
theorem qva {l b:qa} {n:Int} (h:zh l=(1,b,n)):yv b∧∃ m,l=recF b++m∧n=(recF b).length:=by
 unfold zh at h;split at h
 ·rename_i b9
  split at h
  ·rename_i ho
   generalize hr:past 10 l=r at *;have hl:=wg b9;rw [hr] at hl;generalize hu:upto 10 l=u at *
   have rz:u=wh (jc u).1 (jc u).2.1∧2≤(jc u).1∧(jc u).1≤50000:=by
    simp only [jc,decide_eq_true_eq] at ho ⊢;obtain⟨o1,o2,o3,o4,o5⟩:=ho;refine⟨?_,o3,qan _⟩;obtain⟨t,rfl⟩:=o1;rw [qjf] at *;have:=qch rfl (Nat.le_trans (by decide) o3);unfold wh;rw [← this,← wg o2]
   generalize (jc u).1=n at *;generalize (jc u).2.1=fig at *;obtain⟨rfl,h2,hn⟩:=rz;split at h
   ·unfold x8 at h
    split at h <;> simp at h
   ·rename_i dq
    split at h
    ·rename_i hg
     have a7:(r.take n).length=n:=by simp;omega
     unfold xm at h;rw [a7] at h;split at h
     ·simp at h
     ·split at h
      ·rename_i hc
       obtain⟨⟨m,hm⟩,hs⟩:=hc;simp only [Prod.mk.injEq,true_and] at h;obtain⟨rfl,rfl⟩:=h;refine⟨hg,m,?_,?_⟩
       ·rw [qqp,a7,← hs,hl]
        unfold recL
        conv=>lhs;rw [← List.take_append_drop n r,← hm]
        simp
       ·rw [q45 _ hg,a7]
      ·simp at h
    ·simp at h
  ·simp at h
 ·split at h <;> simp at h
theorem qwr (s sub:qa) (i:Nat):Lib.occAt s sub i=true↔sub <+: s.drop i:=by
 unfold Lib.occAt;rw [List.isPrefixOf_iff_prefix]
theorem zjh {a:qa} (r:qa) (h:10∉a):Lib.cut (a++10::10::r) [10,10]=(a,r,true):=by
 have hi:Lib.index (a++10::10::r) [10,10]=(a.length:Int):=by
  refine Lib.index_first (by simp) ?_ fun j hj=>?_
  ·rw [qwr,List.drop_left]
   exact⟨r,rfl⟩
  ·cases hb:Lib.occAt (a++10::10::r) [10,10] j with
   |false=>rfl
   |true=>
    obtain⟨t,ht⟩:=(qwr _ _ _).1 hb;rw [List.drop_append_of_le_length (by omega)] at ht
    have:a.drop j≠[]:=by
     intro e;have:=congrArg List.length e;simp at this;omega
    obtain⟨c,q,hq⟩:=List.exists_cons_of_ne_nil this;rw [hq] at ht;have b9:c=10:=by simpa using (List.cons.inj ht).1.symm
    exact absurd (List.mem_of_mem_drop (by rw [hq,b9];simp:(10:UInt8)∈a.drop j)) h
 unfold Lib.cut;rw [hi,if_pos (by omega)];simp only [Int.toNat_natCast,List.take_left',List.length_cons,List.length_nil];rw [show a.length+(0+1+1)=(a++[10,10]).length by simp,show a++10::10::r=(a++[10,10])++r by simp,List.drop_left]
theorem zd0 {l m:qa} (h:(Lib.cut l m).2.2=true):l=(Lib.cut l m).1++m++(Lib.cut l m).2.1:=by
 rcases Lib.index_spec l m with⟨h1,_⟩ | ⟨i,h1,h2,h3,_⟩
 ·unfold Lib.cut at h
  rw [h1,if_neg (by omega)] at h;simp at h
 ·unfold Lib.cut
  rw [h1,if_pos (by omega)];simp only [Int.toNat_natCast];obtain⟨t,ht⟩:=(qwr _ _ _).1 h3;have e:l.drop (i+m.length)=t:=by rw [← List.drop_drop,← ht,List.drop_left]
  rw [e,List.append_assoc,ht,List.take_append_drop]
def genL:qa:=[35,37,103,101,110,32]
def wi (n:Int):qa:=genL++Lib.itoa n++[10,10]
def ke (n:Int):Prop:=1≤n∧n≤2147483648
instance (n:Int):Decidable (ke n):=inferInstanceAs (Decidable (_∧_))
def wl (text:qa):Int×qa:=
 if genL <+: text then
  match numZ (upto 10 (text.drop 6)) with
  |some n=>if ke n∧[10,10] <+: text.drop (6+(upto 10 (text.drop 6)).length) then (n,text.drop (8+(upto 10 (text.drop 6)).length)) else (0,text)
  |none=>(0,text)
 else (0,text)
theorem qm6 (v:Int):(10:UInt8)∉Lib.itoa v:=by
 intro h;by_cases hv:v<0
 ·rw [qfp hv] at h
  rcases List.mem_cons.1 h with h|h
  ·simp at h
  ·have:=xi _ _ (Nat.le_refl _) _ h
   simp at this
 ·rw [qfq (by omega)] at h
  have:=xi _ _ (Nat.le_refl _) _ h;simp at this
theorem qm7 (n:Int) (r:qa):wi n++r=genL++(Lib.itoa n++10::10::r):=by simp [wi]
theorem qnu {n:Int} (h:ke n) (r:qa):wl (wi n++r)=(n,r):=by
 unfold wl;have hd:(genL++(Lib.itoa n++10::10::r)).drop 6=Lib.itoa n++10::10::r:=by rw [show (6:Nat)=genL.length by rfl,List.drop_left]
 rw [qm7,if_pos (List.prefix_append _ _),hd,vv _ (qm6 n),qf5 (by have:=h.1;omega) (by have:=h.2;omega)];have e1:(genL++(Lib.itoa n++10::10::r)).drop (6+(Lib.itoa n).length)=10::10::r:=by rw [← List.drop_drop,hd,List.drop_left]
 have e2:(genL++(Lib.itoa n++10::10::r)).drop (8+(Lib.itoa n).length)=r:=by
  rw [show 8+(Lib.itoa n).length=(6+(Lib.itoa n).length)+2 by omega,← List.drop_drop,e1];rfl
 simp only;rw [e1,e2,if_pos ⟨h,r,rfl⟩]
theorem qp3 {text:qa} (h:∀ n r,ke n→text≠wi n++r):wl text=(0,text):=by
 unfold wl;split
 ·rename_i hp
  obtain⟨t,rfl⟩:=hp;have hd:(genL++t).drop 6=t:=by rw [show (6:Nat)=genL.length by rfl,List.drop_left]
  rw [hd];split
  ·rename_i n hn
   split
   ·rename_i hc
    obtain⟨hg,r,hr⟩:=hc;rw [← List.drop_drop,hd] at hr;obtain⟨he,_⟩:=qla hn;refine absurd ?_ (h n r hg);rw [qm7,← he];congr 1
    conv=>lhs;rw [← List.take_append_drop (upto 10 t).length t,qgd,← hr]
    rfl
   ·rfl
  ·rfl
 ·rfl
theorem qry (text:qa):(∃ n r,ke n∧text=wi n++r∧wl text=(n,r))∨((∀ n r,ke n→text≠wi n++r)∧wl text=(0,text)):=by
 by_cases h:∃ n r,ke n∧text=wi n++r
 ·obtain⟨n,r,hg,rfl⟩:=h
  exact .inl ⟨n,r,hg,rfl,qnu hg r⟩
 ·have h':∀ n r,ke n→text≠wi n++r:=fun n r hg e=>h ⟨n,r,hg,e⟩
  exact .inr ⟨h',qp3 h'⟩
def vl (n:Int):qa:=if ke n then wi n else []
theorem qfa (text:qa):text=vl (wl text).1++(wl text).2∧((wl text).1=0∨ke (wl text).1):=by
 rcases qry text with⟨n,r,hg,he,ht⟩ | ⟨_,ht⟩
 ·rw [ht]
  simp only;unfold vl;rw [if_pos hg];exact⟨he,.inr hg⟩
 ·rw [ht]
  exact⟨rfl,.inl rfl⟩
theorem qpd {n:Int} (h:ke n):(wi n).length≤28:=by
 have:=qid (v:=n) (by have:=h.1;omega) (by have:=h.2;omega);simp [wi,genL];omega
def begF (l:qa):Bool:=decide (l.head? = some 37∧qv l=5)
def je (n:Nat) (l:qa):Nat:=if h:l=[] then n else if begF (upto 10 l)=true then n - l.length else je n (past 10 l)
 termination_by l.length
 decreasing_by exact xq h
theorem qiy (n:Nat):je n []=n:=by rw [je,dif_pos rfl]
theorem qmr {n:Nat} {l:qa} (h:l≠[]) (hb:begF (upto 10 l)=true):je n l=n - l.length:=by rw [je,dif_neg h,if_pos hb]
theorem qoq {n:Nat} {l:qa} (h:l≠[]) (hb:¬ begF (upto 10 l)=true):je n l=je n (past 10 l):=by
 conv=>lhs;rw [je]
 rw [dif_neg h,if_neg hb]
theorem qop:∀ (k n:Nat) (l:qa),l.length≤k→l.length≤n→n - l.length≤je n l∧je n l≤n
 | 0,n,l,h,hn=>by
  have:l=[]:=List.length_eq_zero_iff.1 (by omega);subst this;rw [qiy]
  simp
 |k+1,n,l,h,hn=>by
  by_cases hl:l=[]
  ·subst hl;rw [qiy];simp
  ·by_cases hb:begF (upto 10 l)=true
   ·rw [qmr hl hb]
    omega
   ·have:=xq (c:=10) hl
    rw [qoq hl hb];have:=qop k n (past 10 l) (by omega) (by omega);omega
theorem qja:∀ (r:List (qa×Bool)) (k:Nat) (prev:Bool) (now:ze) (rec:Int) (out:List ze),(refL k r prev now rec out).1=none→∀ x∈r,qv x.1≠5∧x.2=true
 | [],_,_,_,_,_,_=>by simp
 |(t,e)::r,k,prev,now,rec,out,h=>by
  rw [refL] at h;split at h
  ·simp at h
  ·rename_i hw
   have hx:qv t≠5∧e=true:=by
    unfold kh at hw;split at hw
    ·simp at hw
    ·rename_i hc
     exact⟨fun h5=>hc (.inl h5),by cases e with|true=>rfl|false=>exact absurd (.inr (.inr rfl)) hc⟩
   have hr:∀ x∈r,qv x.1≠5∧x.2=true:=by
    split at h
    ·exact qja r _ _ _ _ _ h
    ·split at h
     ·exact qja r _ _ _ _ _ h
     ·exact qja r _ _ _ _ _ h
   intro x c9;rcases List.mem_cons.1 c9 with rfl|c9
   ·exact hx
   ·exact hr x c9
theorem q42 {text:qa} (h:(ja text).1=none):∀ x∈zn text,begF x.1=false∧x.2=true:=fun x hx=>by
 rw [← qdp] at h;obtain⟨h1,h2⟩:=qja _ _ _ _ _ _ h x hx;exact⟨by simp [begF,h1],h2⟩
theorem qkr {n:Nat} {fig l:qa} (hf:w7 fig) (h:l <+: wh n fig) (a6:l≠[]):begF l=true:=by
 have b9:10∉l:=qjm h (qb3 n hf)
 have h58:(58:UInt8)∉l:=qjm h fun h'=>by
  unfold wh at h';rcases List.mem_append.1 h' with h'|h'
  ·revert h';decide
  ·rcases List.mem_append.1 h' with h'|h'
   ·exact qeo n (by decide) h'
   ·rcases List.mem_cons.1 h' with h'|h'
    ·simp at h'
    ·exact qo8 hf (by decide) h'
 obtain⟨c,q,rfl⟩:=List.exists_cons_of_ne_nil a6
 have hc:c=37:=by
  obtain⟨t,ht⟩:=h;unfold wh zb at ht;exact (List.cons.inj ht).1
 subst hc
 have hk:=qrk b9 (fun hb=>by
  have:=hb 37 (by simp);revert this
  decide)
 simp only [begF,List.head?_cons,true_and,decide_eq_true_eq];rw [hk.2];rw [if_neg (by simp),if_neg (by simp [wp]),if_neg (fun h=>h58 h.1)]
theorem q98 {n:Nat} {fig body l:qa} (hf:w7 fig) (h:l <+: recL n fig body) (a6:l≠[]):begF (upto 10 l)=true:=by
 rcases qf6 (show l <+: wh n fig++10::(body++yz n) from h) with h | ⟨r,rfl,hr⟩
 ·rw [xg (qjm h (qb3 n hf))]
  exact qkr hf h a6
 ·cases r with
  |nil=>
   rw [List.append_nil,xg (qb3 n hf)]
   exact qkr hf (List.prefix_refl _) (by simp [wh,zb])
  |cons c r=>
   have:c=10:=by obtain⟨t,ht⟩:=hr;exact (List.cons.inj ht).1
   subst this;rw [vv _ (qb3 n hf)];exact qkr hf (List.prefix_refl _) (by simp [wh,zb])
theorem zgy {b:qa} (x:qa) (hg:yv b):begF (upto 10 (recF b++x))=true:=by
 rw [qqp];have hx:w7 (sumF b):=q4s (addP 0 b);unfold recL;rw [List.append_assoc,List.cons_append,vv _ (qb3 _ hx)];exact qkr hx (List.prefix_refl _) (by simp [wh,zb])
end Go.Pl
