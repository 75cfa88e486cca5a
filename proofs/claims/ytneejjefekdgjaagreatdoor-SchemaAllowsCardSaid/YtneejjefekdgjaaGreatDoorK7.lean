/- Contracts and plain facts that the closing text leans on (part 7). No condition of their own beyond those that each states. -/
import Derived.Test.YtneejjefekdgjaaGreatDoorK6
import Derived.Lib.IfaceEq
import Derived.Laws.StructEq
import Derived.Lib.SliceRun
set_option maxRecDepth 100000
set_option linter.unusedVariables false
set_option linter.unusedSimpArgs false
namespace Go.Proofs.YtneejjefekdgjaaGreatDoor
open Go Go.RowKit Go.Extern.Stop Go.Stop Go.Extern Go.Proofs
theorem asT.typeOf31 (v:Value) (w:World):(ReflectliteType.typeOf #[.iface 62 v]).run Tryz.prog w = .ok (.iface 381 (.agg #[.pointer (some ⟨9,62,none⟩)])) w:=by kernel_rfl
theorem asT.assignable31 (w : World) : (ReflectliteType.relation "AssignableTo" ReflectliteType.assignableTo #[.agg #[.pointer (some ⟨9, 62, none⟩)], .iface 381 (.agg #[.pointer (some ⟨9, 121, none⟩)])]).run Tryz.prog w = .ok (.bool false) w := by kernel_rfl
theorem asT.no230 (v:Value) (xT:TypeId) (w:World):(Instr.typeAssert (.iface 62 v) xT 386 true).run Tryz.prog w = .ok (.tuple #[.nilIface,.bool false]) w:=run_typeAssert_lacksB Tryz.underlying386 (by kernel_rfl) (by kernel_rfl) v xT w
theorem asT.no233 (v:Value) (xT:TypeId) (w:World):(Instr.typeAssert (.iface 62 v) xT 389 true).run Tryz.prog w = .ok (.tuple #[.nilIface,.bool false]) w:=run_typeAssert_lacksB Tryz.underlying389 (by kernel_rfl) (by kernel_rfl) v xT w
theorem asT.no234 (v:Value) (xT:TypeId) (w:World):(Instr.typeAssert (.iface 62 v) xT 390 true).run Tryz.prog w = .ok (.tuple #[.nilIface,.bool false]) w:=run_typeAssert_lacksB Tryz.underlying390 (by kernel_rfl) (by kernel_rfl) v xT w
set_option maxHeartbeats 4000000 in
theorem q9e (n:Int) (t:Addr) (old:Value) (w:World) (hg:w.cell? ⟨3,0,none⟩=some (.iface 381 (.agg #[.pointer (some ⟨9,24,none⟩)]))) (ht0:w.cell? t=some old) :
  Calls Tryz.prog 232 #[.iface 62 (.int .i64 n),.iface 305 (.pointer (some t))] w fun ev w'=>ev = .returned (.bool false)∧Below w.heap.size w w':=by
 have h6:=@run_callFunc_extern Tryz.prog 289 _ (fun args=>ReflectliteValue.unpack (args.getD 0 (.tuple #[]))) Tryz.func289 (by kernel_rfl) (by kernel_rfl) (by kernel_rfl) (by kernel_rfl)
 have h7 := @run_callFunc_extern Tryz.prog 290 _ (ReflectliteValue.methodAny (ReflectliteValue.valueError "reflectlite.Value.Type" 0) (fun t _ _ _ => ReflectliteType.toType t)) Tryz.func290 (by kernel_rfl) (by kernel_rfl) (by kernel_rfl) (by kernel_rfl)
 have h8 := @run_callFunc_extern Tryz.prog 291 _ (ReflectliteValue.method (ReflectliteValue.valueError "reflectlite.Value.IsNil" 0) ReflectliteValue.isNil) Tryz.func291 (by kernel_rfl) (by kernel_rfl) (by kernel_rfl) (by kernel_rfl)
 have h27:=@run_callFunc_extern Tryz.prog 354 _ (ReflectliteType.abiMethod fun t=>do pure (.int .u8 (← Rtype.kind t))) Tryz.func354 (by kernel_rfl) (by kernel_rfl) (by kernel_rfl) (by kernel_rfl)
 have h37:=@run_callFunc_extern Tryz.prog 372 _ (ReflectliteType.method ReflectliteType.elem) Tryz.func372 (by kernel_rfl) (by kernel_rfl) (by kernel_rfl) (by kernel_rfl)
 have h38 := @run_callFunc_extern Tryz.prog 373 _ (ReflectliteType.relation "Implements" ReflectliteType.implements_) Tryz.func373 (by kernel_rfl) (by kernel_rfl) (by kernel_rfl) (by kernel_rfl)
 have h10:=@run_callFunc_extern Tryz.prog 318 _ ReflectliteType.typeOf Tryz.func318 (by kernel_rfl) (by kernel_rfl) (by kernel_rfl) (by kernel_rfl)
 have h35 := @run_callFunc_extern Tryz.prog 370 _ (ReflectliteType.relation "AssignableTo" ReflectliteType.assignableTo) Tryz.func370 (by kernel_rfl) (by kernel_rfl) (by kernel_rfl) (by kernel_rfl)
 have h11 := @run_callFunc_extern Tryz.prog 319 _ (ReflectliteValue.method (ReflectliteValue.valueError "reflectlite.Value.Elem" 0) ReflectliteValue.elem) Tryz.func319 (by kernel_rfl) (by kernel_rfl) (by kernel_rfl) (by kernel_rfl)
 have h12:=@run_callFunc_extern Tryz.prog 320 _ ReflectliteValue.set Tryz.func320 (by kernel_rfl) (by kernel_rfl) (by kernel_rfl) (by kernel_rfl)
 have tO:=asT.typeOf31
 have mA:=asT.methodAssignableTo
 have a25:=asT.assignable31
 have f6:=asT.valueOf27
 have f7:=asT.type27
 have mK:=asT.methodKind
 have mE:=asT.methodElem
 have mI:=asT.methodImplements
 have k27:=asT.kind27
 have k25:=asT.kind25
 have e27:=asT.elem27
 have i25:=asT.implements25
 have n8:=asT.isNil27 ⟨w.heap.size,0,none⟩ t ((w.alloc (.cells #[.pointer (some t)] 305)).alloc (.cells #[.pointer (some ⟨9,305,none⟩),.pointer (some ⟨w.heap.size,0,none⟩),.int .u64 150] 347)) (by simp)
 have hlt:3<w.heap.size:=by
  rcases Nat.lt_or_ge 3 w.heap.size with h|h
  ·exact h
  ·simp [World.cell?,Array.getElem?_eq_none h] at hg
 have hg2:((w.alloc (.cells #[.pointer (some t)] 305)).alloc (.cells #[.pointer (some ⟨9,305,none⟩),.pointer (some ⟨w.heap.size,0,none⟩),.int .u64 150] 347)).cell? ⟨3,0,none⟩=some (.iface 381 (.agg #[.pointer (some ⟨9,24,none⟩)])):=by
  rw [World.cell?_alloc_lt _ _ ⟨3,0,none⟩ (by first|(simp;done)|(simp;omega)),World.cell?_alloc_lt _ _ ⟨3,0,none⟩ hlt];exact hg
 have htl:t.block<w.heap.size:=by
  rcases Nat.lt_or_ge t.block w.heap.size with h|h
  ·exact h
  ·simp [World.cell?,Array.getElem?_eq_none h] at ht0
 have n1:=asT.no230
 have n2:=asT.no233
 have n3:=asT.no234
 go_enter Tryz.func232,Tryz.ntmps232
 go_wp2
 refine wp_loop_rounds 1 ?_
 rw [rounds_succ]
 go_wp2
 go_ret
 exact⟨rfl,(((Below.refl _ _).alloc (Nat.le_refl _) _).alloc (by simp) _).alloc (by first|(simp;done)|(simp;omega)) _⟩
end Go.Proofs.YtneejjefekdgjaaGreatDoor
namespace Go.Proofs.YtneejjefekdgjaaGreatDoor
open Go Go.Av Go.RowKit Go.Proofs Go.Pl
theorem qzi {w:World} {b:Nat} {T:TypeId} {fz:Nat×Nat} {c:Array Value} (v:Value) (hc:w.heap[b]? = some (.cells c T fz)) (h1:c.size=1):w.setCell ⟨b,0,none⟩ v=w.setRow b #[v]:=by
 unfold World.setCell World.setRow
 congr 1
 apply Array.ext_getElem?
 intro i
 rw [Array.getElem?_modify,Array.getElem?_modify]
 by_cases hi:b=i
 ·subst hi
  rw [if_pos rfl,if_pos rfl,hc]
  have:c.setIfInBounds 0 v = #[v]:=by
   apply Array.ext
   ·simp [h1]
   ·intro i h2 h3
    have:i=0:=by simp at h3;omega
    subst this
    simp
  simp [this]
 ·rw [if_neg hi,if_neg hi]
theorem q9d (a n:Int) (o:Nat) (st:List AObj) (ho:st[o]? = some (.cells 0 121 [.v (.pointer none)])):qp E 232 [qgh a n,.ifc 305 (.bx o 0 0)] st fun r st'=>r=Bv true∧st'=st.set o (.cells 0 121 [.pp [Iv a,.ifc 62 (Iv n)]]):=by
 refine⟨fun B0 w0 G vals w hL hA hR=>?_⟩
 obtain⟨v1,v2,rfl⟩:∃ x y,vals = #[x,y]:=by
  have:=hR.1
  match vals,this with
  | ⟨[x,y]⟩,_=>exact⟨x,y,rfl⟩
 have h1:=hR.2 0 _ v1 rfl rfl
 have h2:=hR.2 1 _ v2 rfl rfl
 unfold qgh at h1
 cases h1 with
 |ifc _ _ y1 h1=>
  cases h2 with
  |ifc _ _ y2 h2=>
   have hpp:=h1
   cases h1 with
   |pp _ b off pub hp hlen hr=>
    cases h2 with
    |bx _ _ _ b2 hn hv hb=>
     obtain⟨_,g1,g2,g3,c,g4,g5,g6⟩:=hA.ob o _ ho
     have hb:=hb g1
     subst hb
     have hc1:c.size=1:=by simpa using g5.symm
     have hl:=(hL w hA.below).ert
     have hcell:w.cell? ⟨(G.ob o).blk,0,none⟩=some c[0]:=by simp [World.cell?,g4,hc1]
     have hfz:w.frozen? ⟨(G.ob o).blk,0,none⟩=false:=by simp [World.frozen?,g4]
     have hlt:(G.ob o).blk<w.heap.size:=(Array.getElem?_eq_some_iff.1 g4).1
     refine (zbm ⟨b,off,none⟩ ⟨(G.ob o).blk,0,none⟩ c[0] w hl hcell hfz).mono ?_
     rintro e w' ⟨rfl,rfl⟩
     have hb1:Below w.heap.size w ((((w.alloc (.cells #[.pointer (some ⟨(G.ob o).blk,0,none⟩)] 305)).alloc (.cells #[.pointer (some ⟨9,305,none⟩),.pointer (some ⟨w.heap.size,0,none⟩),.int .u64 150] 347)).alloc (.cells #[.pointer (some ⟨9,305,none⟩),.pointer (some ⟨w.heap.size,0,none⟩),.int .u64 150] 347)).alloc (.cells #[.pointer (some ⟨b,off,none⟩)] 121)):=
      ((((Below.refl _ _).alloc (Nat.le_refl _) _).alloc (by simp) _).alloc (by first|(simp;done)|(simp;omega)) _).alloc (by first|(simp;done)|(simp;omega)) _
     have hA1:=hA.fresh hb1
     obtain⟨_,k1,k2,k3,c',k4,k5,k6⟩:=hA1.ob o _ ho
     have hc1':c'.size=1:=by simpa using k5.symm
     refine⟨.bool true,G,Bv true,_,rfl,.refl G,?_,.v _,rfl,rfl⟩
     rw [qzi _ k4 hc1']
     exact hA1.setRow ho (by simp) fun i x y hx hy=>by
      match i with
      | 0=>simp at hx hy;subst hx;subst hy;exact hpp
      |i+1=>simp at hx
theorem q6i (n:Int) (o:Nat) (st:List AObj) (ho:st[o]? = some (.cells 0 121 [.v (.pointer none)])):qp E 232 [.ifc 62 (Iv n),.ifc 305 (.bx o 0 0)] st fun r st'=>r=Bv false∧st'=st:=by
 refine⟨fun B0 w0 G vals w hL hA hR=>?_⟩
 obtain⟨v1,v2,rfl⟩:∃ x y,vals = #[x,y]:=by
  have:=hR.1
  match vals,this with
  | ⟨[x,y]⟩,_=>exact⟨x,y,rfl⟩
 have h1:=hR.2 0 _ v1 rfl rfl
 have h2:=hR.2 1 _ v2 rfl rfl
 cases h1 with
 |ifc _ _ y1 h1=>
  cases h2 with
  |ifc _ _ y2 h2=>
   cases h1 with
   |v=>
    cases h2 with
    |bx _ _ _ b2 hn hv hb=>
     obtain⟨_,g1,g2,g3,c,g4,g5,g6⟩:=hA.ob o _ ho
     have hb:=hb g1
     subst hb
     have hc1:c.size=1:=by simpa using g5.symm
     have hl:=(hL w hA.below).ert
     have hcell:w.cell? ⟨(G.ob o).blk,0,none⟩=some c[0]:=by simp [World.cell?,g4,hc1]
     refine (q9e n ⟨(G.ob o).blk,0,none⟩ c[0] w hl hcell).mono ?_
     rintro e w' ⟨rfl,hb⟩
     exact⟨_,G,Bv false,st,rfl,.refl G,hA.fresh hb,.v _,rfl,rfl⟩
end Go.Proofs.YtneejjefekdgjaaGreatDoor
namespace Go.Proofs.YtneejjefekdgjaaGreatDoor
open Go Go.Av Go.RowKit Go.Extern.Stop Go.Stop Go.Extern Go.Proofs
theorem isT.has (v:Value) (xT:TypeId) (w:World):(Instr.typeAssert (.iface 121 v) xT 389 true).run Tryz.prog w = .ok (.tuple #[.iface 121 v,.bool true]) w:=run_typeAssert_hasB Tryz.underlying389 (by kernel_rfl) v xT w
theorem isT.typeOf (v:Value) (w:World):(ReflectliteType.typeOf #[.iface 62 v]).run Tryz.prog w = .ok (.iface 381 (.agg #[.pointer (some ⟨9,62,none⟩)])) w:=by kernel_rfl
theorem isT.cmp (w : World) : (ReflectliteType.method (fun t => do Rtype.noPackHeld "Comparable" t; (fun a => Value.bool a.comparable) <$> typeInfo t) #[.agg #[.pointer (some ⟨9, 62, none⟩)]]).run Tryz.prog w = .ok (.bool true) w := by kernel_rfl
end Go.Proofs.YtneejjefekdgjaaGreatDoor
namespace Go.Pl
open Go Go.Proofs
inductive ErrV where
 |no
 |num (n:Int)
 |at' (a n:Int)
 deriving DecidableEq
def ErrV.code:ErrV→Int
 | .no=>0
 | .num n=>n
 | .at' _ n=>n
def ErrV.pos:ErrV→Int
 | .no=> -9
 | .num _=> -9
 | .at' a _=>a
def qaf:Nat→List Fld→ErrV
 | _,[]=>.no
 |k,f::r=>if ww f=0 then qaf (k+1) r else .at' k (ww f)
def ku (fs:List Fld):ErrV:=if fs=[] then .num 2 else if 40<fs.length then .num 11 else qaf 0 fs
theorem qld:∀ (k:Nat) (r:List Fld),(qaf k r).code=0↔qaf k r = .no
 |k,[]=>by simp [qaf,ErrV.code]
 |k,f::r=>by
  unfold qaf
  split
  ·exact qld _ r
  ·rename_i h
   simp [ErrV.code,h]
theorem qhm (fs:List Fld):(ku fs).code=0↔ku fs = .no:=by
 unfold ku
 split
 ·simp [ErrV.code]
 ·split
  ·simp [ErrV.code]
  ·exact qld _ _
end Go.Pl
namespace Go.Proofs.YtneejjefekdgjaaGreatDoor
open Go Go.Av Go.RowKit Go.Proofs Go.Pl
theorem qrl {st st':List AObj} (h:∀ k,k<st.length→st'[k]? = st[k]?):∃ ext,st'=st++ext:=by
 refine qjx ?_ h
 rcases Nat.eq_zero_or_pos st.length with h0|h0
 ·omega
 ·have h1:=h (st.length - 1) (by omega)
  have h2:st[st.length - 1]? = some (st[st.length - 1]'(by omega)):=List.getElem?_eq_getElem (by omega)
  have:=lt_of_getElem? (h1.trans h2)
  omega
def gErr (x:zh):ErrV:=if x.kind=2 then (if x.fields=[] then .no else .num 2) else if x.kind=1∨x.kind=3 then ku x.fields else .num 2
def qbk:Nat→List zh→ErrV
 | _,[]=>.no
 |k,x::r=>if (gErr x).code=0 then qbk (k+1) r else .at' k (gErr x).code
def eErr (b:List zh):ErrV:=if b.length<1∨40<b.length then .num 1 else qbk 0 b
theorem qlm (x:zh):(gErr x).code=0↔gErr x = .no:=by
 unfold gErr
 split
 ·split <;> simp [ErrV.code]
 ·split
  ·exact qhm _
  ·simp [ErrV.code]
theorem qps:∀ (k:Nat) (r:List zh),(qbk k r).code=0↔qbk k r = .no
 |k,[]=>by simp [qbk,ErrV.code]
 |k,f::r=>by
  unfold qbk
  split
  ·exact qps _ r
  ·rename_i h
   simp [ErrV.code] at h ⊢
   exact h
theorem qsy (b:List zh):(eErr b).code=0↔eErr b = .no:=by
 unfold eErr
 split
 ·simp [ErrV.code]
 ·exact qps _ _
def errA:ErrV→AV
 | .no=>.v .nilIface
 | .num n=>.ifc 62 (Iv n)
 | .at' a n=>.ifc 121 (.pp [Iv a,.ifc 62 (Iv n)])
theorem qab (e:ErrV):Pure (errA e):=by
 cases e with
 |no=>exact qy _
 |num n=>exact qf2 (qy _)
 |at' a n=>exact qi1 a n
def KeyB (fs:List Fld):Prop:=∀ f∈fs,f.1.length<4294967281
theorem qv8 {fs:List Fld} {i:Nat} {x:Fld} (h:fs[i]? = some x):(fs.map fldA)[i]? = some (fldA x):=by simp [h]
theorem qsz {b:List zh} {i:Nat} {x:zh} (h:b[i]? = some x):(b.map qaw)[i]? = some (qaw x):=by simp [h]
theorem qsp {fs:List Fld} (h:¬ 0<fs.length):ku fs = .num 2:=if_pos (List.length_eq_zero_iff.1 (by omega))
theorem qpm {fs:List Fld} (h:40<fs.length):ku fs = .num 11:=(if_neg fun h0=>by simp [h0] at h).trans (if_pos h)
theorem qsq {fs:List Fld} (h0:0<fs.length) (h:¬ 40<fs.length):ku fs=qaf 0 fs:=(if_neg (List.length_pos_iff.1 h0)).trans (if_neg h)
theorem qkf (fs:List Fld) (st:List AObj) (e:ErrV) (h:ku fs=e) (hK:KeyB fs) (hl:fs.length<9223372036854775808):qp E 228 [kc fs] st fun r st'=>r=errA e∧st'=st:=by
 subst h
 refine z0 [.a (kc fs)] (qab _) Tryz.func228 rfl rfl (fun _=>rfl) rfl fun S0=>?_
 have hml:(fs.map fldA).length=fs.length:=by simp
 apply qg []
 repeat' (first|apply And.intro|(intro h;try exact cDd)|exact cSd|apply qd []|refine exr ?_|refine qh ?_)
 ·rw [qsp (by omega)];rfl
 ·rw [qpm (by omega)];rfl
 rw [qsq (by omega) (by omega)]
 refine zw (X:=Nat) (fun k=>⟨[(16,.a (kc fs)),(17,.i (fs.map fldA).length),(18,.i k)],[],0⟩) (fun k=>k≤fs.length∧qaf k (fs.drop k)=qaf 0 fs) (fun k=>fs.length - k) 0 ⟨by omega,rfl⟩ ?_ ?_
 ·skip
  repeat' (first|apply And.intro|(intro h;try exact cDd)|exact cSd|apply qd []|refine exr ?_|refine qh ?_)
 ·rintro k ⟨hk,hc⟩
  by_cases hlt:k<fs.length
  ·obtain⟨y,hy⟩:∃ y,fs[k]? = some y:=⟨_,List.getElem?_eq_getElem hlt⟩
   have hget:=qv8 hy
   have hky:=hK y (List.mem_of_getElem? hy)
   obtain⟨_,hye⟩:=List.getElem?_eq_some_iff.1 hy
   rw [List.drop_eq_getElem_cons hlt,hye,qaf] at hc
   rw [← hc]
   by_cases ha:ww y=0
   ·have hc4:=fun st=>qhs y st hky ha
    apply qg [4]
    repeat' (first|apply And.intro|(intro h;try exact cDd)|(refine Exists.intro (k) ⟨by omega,_,hget,?_⟩)|exact⟨Tryz.call273⟩|refine cpe hc4 ?_|(refine Exists.intro (k+1) ⟨⟨by omega,by simp_all⟩,by omega,?_⟩)|exact cSd|apply qd [4]|refine exr ?_|refine qh ?_)
   ·have hc4:=fun st=>qht y st hky ha
    rw [if_neg ha]
    apply qg [4]
    repeat' (first|apply And.intro|(intro h;try exact cDd)|(refine Exists.intro (k) ⟨by omega,_,hget,?_⟩)|exact⟨Tryz.call273⟩|refine cpe hc4 ?_|exact cSd|apply qd [4]|refine exr ?_|refine qh ?_)
  ·rw [List.drop_eq_nil_of_le (by omega),qaf] at hc
   rw [← hc]
   apply qg []
   repeat' (first|apply And.intro|(intro h;try exact cDd)|exact cSd|apply qd []|refine exr ?_|refine qh ?_)
theorem q9r (x:zh) (st:List AObj) (e:ErrV) (h:gErr x=e) (hK:KeyB x.fields) (hl:x.fields.length<9223372036854775808):qp E 152 [qaw x] st fun r st'=>r=errA e∧st'=st:=by
 subst h
 refine z0 [.a (qaw x)] (qab _) Tryz.func152 rfl rfl (fun _=>rfl) rfl fun S0=>?_
 have hml:(x.fields.map fldA).length=x.fields.length:=by simp
 have hpos:x.fields=[]↔x.fields.length=0:=by simp
 have hc6:=fun st=>qkf x.fields st _ rfl hK hl
 unfold gErr
 simp only [hpos]
 generalize ku x.fields=e at *
 cases e
 all_goals apply qg [1]
 repeat' (first|apply And.intro|(intro h;try exact cDd)|exact⟨Tryz.call228⟩|refine cpe hc6 ?_|exact cSd|apply qd [1]|refine exr ?_|refine qh ?_)
 all_goals clear hc6
 all_goals grind [errA]
theorem q60 (n:Int) (st:List AObj):qp E 157 [.ifc 62 (Iv n)] st fun r st'=>r = .ifc 62 (Iv n)∧st'=st:=by
 refine zi (qf2 (qy _)) (qt Tryz.func157 rfl (Nat.le_of_ble_eq_true rfl) ?_)
 repeat' (first|apply qr|apply ql|apply qk|apply qo|apply qm|(apply qc;exact rfl;apply cd_f;exact cRa)|(apply q9;exact rfl;exact rfl)|(apply jj;exact rfl;exact rfl)|apply q8|apply zb|(apply qx;exact Tryz.call232;exact q6i _ (st.length+0) _ (qbe rfl)))
 exact qq rfl (zf rfl) ⟨rfl,_,rfl⟩
theorem q6z (a n:Int) (st:List AObj):qp E 157 [qgh a n] st fun r st'=>r = .ifc 62 (Iv n)∧st'=st:=by
 refine zi (qf2 (qy _)) (qt Tryz.func157 rfl (Nat.le_of_ble_eq_true rfl) ?_)
 repeat' (first|apply qr|apply ql|apply qk|apply qo|apply qm|(apply qc;exact rfl;apply cd_t;exact cRa)|(apply q9;exact rfl;exact rfl)|(apply jj;exact rfl;exact rfl)|(apply zg;(iterate 4 exact rfl))|(apply zk;(iterate 3 exact rfl))|(apply zo;exact rfl;exact rfl)|apply zb|(apply qx;exact Tryz.call232;exact q9d a n (st.length+0) _ (qbe rfl))|(apply ya;exact rfl;(focus first|assumption|(repeat' (first|assumption|exact qbd|exact qbe rfl|apply xg|apply yq|omega|apply qex)));exact rfl;exact rfl))
 exact qq rfl (zf rfl) ⟨rfl,qrl fun j hj=>(qni (by omega)).trans (List.getElem?_append_left hj)⟩
theorem qn6 (k:Int) (e:ErrV) (st:List AObj) (he:e.code≠0):qp E 95 [Iv k,errA e] st fun r st'=>r=errA (.at' k e.code)∧st'=st:=by
 refine zi (qab _) (qt Tryz.func95 rfl (Nat.le_of_ble_eq_true rfl) ?_)
 cases e with
 |no=>exact absurd rfl he
 |num n=>
  repeat' (first|(apply qk9;(iterate 3 exact rfl))|apply qr|apply ql|apply qk|apply qo|apply qm|(apply q9;exact rfl;exact rfl)|(apply ju;(iterate 3 exact rfl))|apply zb|(apply qx;exact Tryz.call157;exact q60 _ _))
  exact qq rfl (zf rfl) ⟨rfl,_,rfl⟩
 |at' a n=>
  repeat' (first|(apply qk9;(iterate 3 exact rfl))|apply qr|apply ql|apply qk|apply qo|apply qm|(apply q9;exact rfl;exact rfl)|(apply ju;(iterate 3 exact rfl))|apply zb|(apply qx;exact Tryz.call157;exact q6z a n _))
  exact qq rfl (zf rfl) ⟨rfl,_,rfl⟩
structure EdB (x:zh):Prop where
 keys:KeyB x.fields
 len:x.fields.length<9223372036854775808
 id1 : -9223372036854775808≤x.id
 id2:x.id≤9223372036854775807
@[reducible] def ye (b : List zh) : AV := .sl 3 (b.map qaw) none
theorem q61 (b:List zh) (st:List AObj) (e:ErrV) (h:eErr b=e) (hB:∀ x∈b,EdB x) (hl:b.length<9223372036854775808):qp E 92 [ye b] st fun r st'=>r=errA e∧st'=st:=by
 subst h
 refine z0 [.a (ye b)] (qab _) Tryz.func92 rfl rfl (fun _=>rfl) rfl fun S0=>?_
 have hml:(b.map qaw).length=b.length:=by simp
 have h1:b.length<1∨40<b.length→eErr b = .num 1:=fun h=>if_pos h
 have hr:¬ (b.length<1∨40<b.length)→eErr b=qbk 0 b:=fun h=>if_neg h
 apply qg []
 repeat' (first|apply And.intro|(intro h;try exact cDd)|exact cSd|apply qd []|refine exr ?_|refine qh ?_)
 ·rw [h1 (by omega)];rfl
 ·rw [h1 (by omega)];rfl
 rw [hr (by omega)]
 refine zw (X:=Nat) (fun k=>⟨[(15,.a (ye b)),(16,.i (b.map qaw).length),(17,.i k)],[],0⟩) (fun k=>k≤b.length∧qbk k (b.drop k)=qbk 0 b) (fun k=>b.length - k) 0 ⟨by omega,rfl⟩ ?_ ?_
 ·skip
  repeat' (first|apply And.intro|(intro h;try exact cDd)|exact cSd|apply qd []|refine exr ?_|refine qh ?_)
 ·rintro k ⟨hk,hc⟩
  by_cases hlt:k<b.length
  ·obtain⟨y,hy⟩:∃ y,b[k]? = some y:=⟨_,List.getElem?_eq_getElem hlt⟩
   have hget:=qsz hy
   have hky:=hB y (List.mem_of_getElem? hy)
   obtain⟨_,hye⟩:=List.getElem?_eq_some_iff.1 hy
   rw [List.drop_eq_getElem_cons hlt,hye,qbk] at hc
   have hc9:=fun st=>q9r y st _ rfl hky.keys hky.len
   have hcf:=fun st=>qn6 k (gErr y) st
   rw [← hc]
   cases hg:gErr y
   all_goals rw [hg] at hc hc9 hcf
   ·apply qg [4]
    repeat' (first|apply And.intro|(intro h;try exact cDd)|(refine Exists.intro (k) ⟨by omega,_,hget,?_⟩)|exact⟨Tryz.call152⟩|refine cpe hc9 ?_|(refine Exists.intro (k+1) ⟨⟨by omega,(if_pos rfl).symm⟩,by omega,?_⟩)|exact cSd|apply qd [4]|refine exr ?_|refine qh ?_)
   all_goals have hgc:=fun h=>qlm y |>.1 h
   all_goals rw [hg] at hgc
   all_goals rw [if_neg fun h=>nomatch hgc h]
   ·have hcg:=fun st=>hcf st fun h=>nomatch hgc h
    apply qg [4]
    repeat' (first|apply And.intro|(intro h;try exact cDd)|(refine Exists.intro (k) ⟨by omega,_,hget,?_⟩)|exact⟨Tryz.call152⟩|refine cpe hc9 ?_|exact⟨Tryz.call95⟩|refine cpe hcg ?_|exact cSd|apply qd [4]|refine exr ?_|refine qh ?_)
   ·have hcg:=fun st=>hcf st fun h=>nomatch hgc h
    apply qg [4]
    repeat' (first|apply And.intro|(intro h;try exact cDd)|(refine Exists.intro (k) ⟨by omega,_,hget,?_⟩)|exact⟨Tryz.call152⟩|refine cpe hc9 ?_|exact⟨Tryz.call95⟩|refine cpe hcg ?_|exact cSd|apply qd [4]|refine exr ?_|refine qh ?_)
  ·rw [List.drop_eq_nil_of_le (by omega),qbk] at hc
   rw [← hc]
   apply qg []
   repeat' (first|apply And.intro|(intro h;try exact cDd)|exact cSd|apply qd []|refine exr ?_|refine qh ?_)
theorem q0c (a b:Int):Pure (.tu [Iv a,Iv b]):=qcg (qy _) (qy _)
theorem qh3 (fs:List Fld) (st:List AObj) (hK:KeyB fs) (hl:fs.length<9223372036854775808):qp E 233 [kc fs] st fun r st'=>r = .tu [Iv (ku fs).pos,Iv (ku fs).code]∧st'=st:=by
 refine z0 [.a (kc fs)] (q0c _ _) Tryz.func233 rfl rfl (fun _=>rfl) rfl fun S0=>?_
 have hml:(fs.map fldA).length=fs.length:=by simp
 apply qg []
 repeat' (first|apply And.intro|(intro h;try exact cDd)|exact cSd|apply qd []|refine exr ?_|refine qh ?_)
 ·rw [qsp (by omega)];rfl
 ·rw [qpm (by omega)];rfl
 rw [qsq (by omega) (by omega)]
 refine zw (X:=Nat) (fun k=>⟨[(0,.a (kc fs)),(4,.i k)],[],0⟩) (fun k=>k≤fs.length∧qaf k (fs.drop k)=qaf 0 fs) (fun k=>fs.length - k) 0 ⟨by omega,rfl⟩ ?_ ?_
 ·skip
  repeat' (first|apply And.intro|(intro h;try exact cDd)|exact cSd|apply qd []|refine exr ?_|refine qh ?_)
 ·rintro k ⟨hk,hc⟩
  by_cases hlt:k<fs.length
  ·obtain⟨y,hy⟩:∃ y,fs[k]? = some y:=⟨_,List.getElem?_eq_getElem hlt⟩
   have hget:=qv8 hy
   have hky:=hK y (List.mem_of_getElem? hy)
   obtain⟨_,hye⟩:=List.getElem?_eq_some_iff.1 hy
   rw [List.drop_eq_getElem_cons hlt,hye,qaf] at hc
   have hc4:=fun st=>qxk y st hky
   rw [← hc]
   apply qg []
   repeat' (first|apply And.intro|(intro h;try exact cDd)|(refine Exists.intro (k) ⟨by omega,_,hget,?_⟩)|exact⟨Tryz.call293⟩|refine cpe hc4 ?_|(refine Exists.intro (k+1) ⟨⟨by omega,by simp_all⟩,by omega,?_⟩)|exact cSd|apply qd []|refine exr ?_|refine qh ?_)
   all_goals (rw [if_neg (by assumption)];rfl)
  ·rw [List.drop_eq_nil_of_le (by omega),qaf] at hc
   rw [← hc]
   apply qg []
   repeat' (first|apply And.intro|(intro h;try exact cDd)|exact cSd|apply qd []|refine exr ?_|refine qh ?_)
theorem qze (x:zh) (st:List AObj) (hK:EdB x):qp E 158 [qaw x] st fun r st'=>r=Iv (gErr x).code∧st'=st:=by
 refine z0 [.a (qaw x)] (qy _) Tryz.func158 rfl rfl (fun _=>rfl) rfl fun S0=>?_
 have hml:(x.fields.map fldA).length=x.fields.length:=by simp
 have hpos:x.fields=[]↔x.fields.length=0:=by simp
 have hc6:=fun st=>qh3 x.fields st hK.keys hK.len
 have hg:(gErr x).code=if x.kind=2 then (if x.fields.length=0 then 0 else 2) else if x.kind=1∨x.kind=3 then (ku x.fields).code else 2:=by
  unfold gErr
  simp only [apply_ite ErrV.code,hpos]
  rfl
 rw [hg]
 generalize (ku x.fields).code=c at *
 apply qg [1]
 repeat' (first|apply And.intro|(intro h;try exact cDd)|exact⟨Tryz.call233⟩|refine cpe hc6 ?_|exact cSd|apply qd [1]|refine exr ?_|refine qh ?_)
 all_goals clear hc6
 all_goals refine congrArg Iv ?_
 all_goals omega
theorem qxl (b:List zh) (st:List AObj) (hB:∀ x∈b,EdB x) (hl:b.length<9223372036854775808):qp E 96 [ye b] st fun r st'=>r = .tu [Iv (eErr b).pos,Iv (eErr b).code]∧st'=st:=by
 refine z0 [.a (ye b)] (q0c _ _) Tryz.func96 rfl rfl (fun _=>rfl) rfl fun S0=>?_
 have hml:(b.map qaw).length=b.length:=by simp
 have h1:b.length<1∨40<b.length→eErr b = .num 1:=fun h=>if_pos h
 have hr:¬ (b.length<1∨40<b.length)→eErr b=qbk 0 b:=fun h=>if_neg h
 apply qg []
 repeat' (first|apply And.intro|(intro h;try exact cDd)|exact cSd|apply qd []|refine exr ?_|refine qh ?_)
 ·rw [h1 (by omega)];rfl
 ·rw [h1 (by omega)];rfl
 rw [hr (by omega)]
 refine zw (X:=Nat) (fun k=>⟨[(0,.a (ye b)),(4,.i k)],[],0⟩) (fun k=>k≤b.length∧qbk k (b.drop k)=qbk 0 b) (fun k=>b.length - k) 0 ⟨by omega,rfl⟩ ?_ ?_
 ·skip
  repeat' (first|apply And.intro|(intro h;try exact cDd)|exact cSd|apply qd []|refine exr ?_|refine qh ?_)
 ·rintro k ⟨hk,hc⟩
  by_cases hlt:k<b.length
  ·obtain⟨y,hy⟩:∃ y,b[k]? = some y:=⟨_,List.getElem?_eq_getElem hlt⟩
   have hget:=qsz hy
   have hky:=hB y (List.mem_of_getElem? hy)
   obtain⟨_,hye⟩:=List.getElem?_eq_some_iff.1 hy
   rw [List.drop_eq_getElem_cons hlt,hye,qbk] at hc
   have hc9:=fun st=>qze y st hky
   rw [← hc]
   apply qg []
   repeat' (first|apply And.intro|(intro h;try exact cDd)|(refine Exists.intro (k) ⟨by omega,_,hget,?_⟩)|exact⟨Tryz.call158⟩|refine cpe hc9 ?_|(refine Exists.intro (k+1) ⟨⟨by omega,by simp_all⟩,by omega,?_⟩)|exact cSd|apply qd []|refine exr ?_|refine qh ?_)
   all_goals (rw [if_neg (by assumption)];rfl)
  ·rw [List.drop_eq_nil_of_le (by omega),qbk] at hc
   rw [← hc]
   apply qg []
   repeat' (first|apply And.intro|(intro h;try exact cDd)|exact cSd|apply qd []|refine exr ?_|refine qh ?_)
def okE:ErrV→Prop
 | .no=>True
 | .num n=>n≠0
 | .at' _ n=>n≠0
theorem q4r (e:ErrV) (st:List AObj) (he:okE e):qp E 16 [errA e] st fun r st'=>r=Iv e.code∧st'=st:=by
 refine zi (qy _) (qt Tryz.func16 rfl (Nat.le_of_ble_eq_true rfl) ?_)
 cases e with
 |no=>
  repeat' (first|apply qr|apply ze|apply ql|apply qk|apply qo|apply qm)
  refine yl (fun (k:Unit) s=>StA [(0,.v .nilIface),(7,Iv 0)] (st++[]) [] s) (fun k=>0) () (v6 ⟨rfl,rfl,trivial⟩) ?_
  rintro k _ ⟨t,rfl⟩
  repeat' (first|apply qr|apply ze|apply ql|apply qk|apply qo|apply qm|(apply qw;(iterate 3 exact rfl))|(apply qc;exact rfl;apply wa;exact cAo)|(apply qc;exact rfl;apply cd_t;exact cRa)|(apply jh;exact rfl;exact rfl)|apply q8|apply zb)
  exact qq rfl (zf rfl) ⟨rfl,_,rfl⟩
 |num n=>
  have hk:n≠0:=he
  repeat' (first|apply qr|apply ze|apply ql|apply qk|apply qo|apply qm)
  refine yl (fun (k:Unit) s=>StA [(0,errA (.num n)),(7,Iv 0)] (st++[]) [] s) (fun k=>0) () (v6 ⟨rfl,rfl,trivial⟩) ?_
  rintro k _ ⟨t,rfl⟩
  repeat' (first|apply qr|apply ze|apply ql|apply qk|apply qo|apply qm|(apply zj;exact rfl;exact rfl)|(apply qw;(iterate 3 exact rfl))|(apply qv;(iterate 4 exact rfl))|(apply vr;exact cRa)|(apply qf;exact rfl;apply pk_t;exact cRa)|(apply qc;exact rfl;apply wa;exact cAo)|(apply qc;exact rfl;apply cd_f;exact cRa)|(apply z7;exact rfl;exact rfl)|apply q8|apply zb|(apply qdy;(iterate 3 exact rfl)))
  exact qq rfl (zf rfl) ⟨rfl,_,rfl⟩
 |at' a n=>
  have hk:n≠0:=he
  repeat' (first|apply qr|apply ze|apply ql|apply qk|apply qo|apply qm)
  refine yl (fun (j:Nat) s=>(j=0∧StA [(0,errA (.at' a n)),(7,Iv 0)] (st++[]) [] s)∨(j=1∧StA [(0,errA (.num n)),(7,Iv 1)] (st++[]) [] s)) (fun j=>1 - j) 0 (.inl ⟨rfl,v6 ⟨rfl,rfl,trivial⟩⟩) ?_
  rintro j _ (⟨rfl,t,rfl⟩ | ⟨rfl,t,rfl⟩)
  ·skip
   repeat' (first|apply qr|apply ze|apply ql|apply qk|apply qo|apply qm|(apply zj;exact rfl;exact rfl)|(apply qw;(iterate 3 exact rfl))|(apply jv;exact rfl)|(apply qv;(iterate 4 exact rfl))|(apply vv;exact cRa)|(apply wv;exact cRa)|(apply ke;exact cRa)|(apply qf;exact rfl;apply qad;exact cRa)|(apply qf;exact rfl;apply pk_f;exact cRa)|(apply qc;exact rfl;apply wa;exact cAo)|(apply qc;exact rfl;apply cd_f;exact cRa)|(apply zp;exact rfl;exact rfl;exact qn (by omega) (by omega))|(apply z7;exact rfl;exact rfl)|(apply zg;(iterate 4 exact rfl))|(apply zk;(iterate 3 exact rfl))|(apply zo;exact rfl;exact rfl)|(apply z4;(iterate 3 exact rfl))|apply q8|(apply qia;(iterate 5 exact rfl))|(apply qdy;(iterate 3 exact rfl)))
   exact⟨1,.inr ⟨rfl,v6 ⟨rfl,rfl,trivial⟩⟩,by omega⟩
  ·skip
   repeat' (first|apply qr|apply ze|apply ql|apply qk|apply qo|apply qm|(apply zj;exact rfl;exact rfl)|(apply qw;(iterate 3 exact rfl))|(apply qv;(iterate 4 exact rfl))|(apply vr;exact cRa)|(apply qf;exact rfl;apply pk_t;exact cRa)|(apply qc;exact rfl;apply wa;exact cAo)|(apply qc;exact rfl;apply cd_f;exact cRa)|(apply z7;exact rfl;exact rfl)|apply q8|apply zb|(apply qdy;(iterate 3 exact rfl)))
   exact qq rfl (zf rfl) ⟨rfl,_,rfl⟩
theorem zdc (e:ErrV) (w:Int) (st:List AObj) (he:okE e):qp E 28 [errA e,Iv w] st fun r st'=>r=Bv (decide (e.code=w))∧st'=st:=by
 refine zi (qy _) (qt Tryz.func28 rfl (Nat.le_of_ble_eq_true rfl) ?_)
 repeat' (first|apply qr|apply ql|apply qk|apply qo|apply qm|(apply qw;(iterate 3 exact rfl))|apply zb|(apply qx;exact Tryz.call16;exact q4r _ _ he))
 exact qq rfl (zf rfl) ⟨rfl,_,rfl⟩
theorem zc8 (e:ErrV) (st:List AObj):qp E 17 [errA e] st fun r st'=>r=Iv e.pos∧st'=st:=by
 refine zi (qy _) (qt Tryz.func17 rfl (Nat.le_of_ble_eq_true rfl) ?_)
 cases e with
 |no=>
  repeat' (first|apply qr|apply ql|apply qk|apply qo|apply qm|(apply zj;exact rfl;exact rfl)|(apply qv;(iterate 4 exact rfl))|(apply ke;exact cRa)|(apply qf;exact rfl;apply pk_f;exact cRa)|(apply qc;exact rfl;apply cd_f;exact cRa)|apply q8|apply zb|(apply qrd;(iterate 4 exact rfl)))
  exact qq rfl (zf rfl) ⟨rfl,_,rfl⟩
 |num n=>
  repeat' (first|apply qr|apply ql|apply qk|apply qo|apply qm|(apply zj;exact rfl;exact rfl)|(apply qv;(iterate 4 exact rfl))|(apply ke;exact cRa)|(apply qf;exact rfl;apply pk_f;exact cRa)|(apply qc;exact rfl;apply cd_f;exact cRa)|apply q8|apply zb|(apply qia;(iterate 5 exact rfl)))
  exact qq rfl (zf rfl) ⟨rfl,_,rfl⟩
 |at' a n=>
  repeat' (first|apply qr|apply ql|apply qk|apply qo|apply qm|(apply zj;exact rfl;exact rfl)|(apply qv;(iterate 4 exact rfl))|(apply vr;exact cRa)|(apply qf;exact rfl;apply pk_t;exact cRa)|(apply qc;exact rfl;apply yz;exact cRa)|(apply zg;(iterate 4 exact rfl))|(apply zk;(iterate 3 exact rfl))|(apply zo;exact rfl;exact rfl)|(apply ji;(iterate 3 exact rfl))|apply zb|(apply qdy;(iterate 3 exact rfl)))
  exact qq rfl (zf rfl) ⟨rfl,_,rfl⟩
def qpu (x:zh):qe:=qip x++[10]++qro [32,32] (jy x.fields)
def encF (b:List zh):qe:=b.flatMap qpu
theorem qpo:∀ (k:Nat) (r:List Fld),qaf k r = .no↔∀ f∈r,wt f
 |k,[]=>by simp [qaf]
 |k,f::r=>by
  unfold qaf
  split
  ·rename_i h
   rw [qpo (k+1) r]
   have:=(qc7 f).1 h
   simp [this]
  ·rename_i h
   have h2:¬ wt f:=fun g=>h ((qc7 f).2 g)
   simp [h2]
theorem qfl {fs:List Fld} (h:ku fs = .no):fs≠[]∧fs.length≤40∧∀ f∈fs,wt f:=by
 unfold ku at h
 split at h
 ·exact absurd h (by simp)
 ·split at h
  ·exact absurd h (by simp)
  ·exact⟨by assumption,by omega,(qpo _ _).1 h⟩
theorem qrm {x:zh} (h:gErr x = .no):x.fields.length≤40∧∀ f∈x.fields,wt f:=by
 unfold gErr at h
 split at h
 ·split at h
  ·rename_i h0;rw [h0];simp
  ·exact absurd h (by simp)
 ·split at h
  ·exact (qfl h).2
  ·exact absurd h (by simp)
theorem qvx:∀ (k:Nat) (b:List zh),qbk k b = .no↔∀ x∈b,gErr x = .no
 |k,[]=>by simp [qbk]
 |k,x::b=>by
  unfold qbk
  split
  ·rename_i h
   rw [qvx (k+1) b]
   have:=(qlm x).1 h
   simp [this]
  ·rename_i h
   have h2:¬ gErr x = .no:=fun g=>h ((qlm x).2 g)
   simp [h2]
theorem qmm {b:List zh} (h:eErr b = .no):1≤b.length∧b.length≤40∧∀ x∈b,gErr x = .no:=by
 unfold eErr at h
 split at h
 ·exact absurd h (by simp)
 ·exact⟨by omega,by omega,(qvx _ _).1 h⟩
theorem qwf {fs:List Fld} (hl:fs.length≤40) (h:∀ f∈fs,wt f):quf fs:=⟨by omega,fun f hf=>by
 have:=h f hf
 have h1:=this.1.2.1
 have h2:=this.2
 omega⟩
theorem q1n (xs:List FldV) (st:List AObj) (hl:xs.length≤40) (h:∀ f∈xs,wt f):qp E 167 [kc xs] st fun r st'=>r = .tu [Sv (jy xs),.v .nilIface]∧st'=st:=by
 have:=zb5 xs st (qwf hl h)
 unfold qp1 at this
 have h0:=(qli xs).2 h
 rw [if_pos h0,h0] at this
 exact this
end Go.Proofs.YtneejjefekdgjaaGreatDoor
namespace Go.Av
open Go Go.RowKit
theorem q8s {b:Nat} {st l:List AObj} {sz:Nat} {T:TypeId} {xs:List AV} {c:AV} (h:TipO b st sz T xs c):TipO b (st++l) sz T xs c:=by
 rcases h with h|h
 ·exact .inl (qh7 h)
 ·exact .inr h
theorem zbc {b:Nat} {st st':List AObj} {sz:Nat} {T:TypeId} {xs:List AV} {c:AV} (hs:∀ (t m sz:Nat) (T:TypeId),st[t]? = some (AObj.tip m sz T)→st'[t]? = st[t]?) (h:TipO b st sz T xs c):TipO b st' sz T xs c:=by
 rcases h with (h | ⟨t,h1,h2,h3⟩)|h
 ·exact .inl (.inl h)
 ·exact .inl (.inr ⟨t,h1,(hs t _ _ _ h2).trans h2,h3⟩)
 ·exact .inr h
end Go.Av
namespace Go.Proofs.YtneejjefekdgjaaGreatDoor
open Go Go.Av Go.RowKit Go.Proofs Go.Pl
theorem qhf {st l:List AObj}:st.length≤(st++l).length:=by simp
theorem q5y {b o:Nat} {st:List AObj} {sz:Nat} {T:TypeId} {xs:List AV} {c:AV} {x:AObj} (h:TipO b st sz T xs c) (hn:qhz st[o]?):TipO b (st.set o x) sz T xs c:=
 zbc (fun t m sz T ht=>List.getElem?_set_ne (fun e=>by subst e;exact hn _ _ _ ht)) h
structure OutI (st:List AObj) (S:List AObj):Prop where
 low:∀ j,j<st.length→S[j]? = st[j]?
 len:st.length≤S.length
theorem OutI.pre {st S l:List AObj} (h:OutI st S):OutI st (S++l):=⟨fun j hj=>(List.getElem?_append_left (by have:=h.len;omega)).trans (h.low j hj),by have:=h.len;simp;omega⟩
theorem OutI.set {st S:List AObj} {o:Nat} {x:AObj} (h:OutI st S) (ho:st.length≤o):OutI st (S.set o x):=⟨fun j hj=>(qni (by omega)).trans (h.low j hj),by have:=h.len;simp;omega⟩
theorem OutI.fr {st S S':List AObj} {t:Nat} (h:OutI st S) (hf:Fr S S' t) (ht:st.length≤t):OutI st S':=⟨fun j hj=>(hf.same j (by omega) (by have:=h.len;omega)).trans (h.low j hj),Nat.le_trans h.len hf.len⟩
theorem OutI.ext {st S:List AObj} (h:OutI st S):∃ ext,S=st++ext:=qrl h.low
theorem qev {E:Env} {rd:Option Nat} {N:Nat} {ops:Array Oper} {K:AS→Prop} {s:AS} {rest:List Oper} {d:Option Tmp} {T:TypeId} {p:String} {af:Array Edge} {t e:TypeId} {len sz:Nat} {agg:Bool} {parts:Array (Nat×Operand)} {zs cs:List AV} {st:List AObj} (hst:s.st=st) (hu:E.P.underlying t=some (.slice e)) (ht:tyOf E.P e=some (sz,agg)) (hz:qfv E.P e len=some zs)
  (hf:qcy (fun i=>some (i * sz,sz)) zs (x6 N s parts)=some cs) (hsz:Nat.ble (len * sz) 16777216=true)
  (h:AOps E rd N ops rest K (AS.put ⟨s.t,st++[.cells 0 e cs],s.df⟩ d (.os st.length 0 0 len len))):AOps E rd N ops (⟨d,.buildSlice t len parts,T,p,af,none⟩::rest) K s:=
 qbt (loc:=[]) (by rw [hst];simp) hu ht hz hf hsz h
def tryB (k:Int) (l:qe):Option Int:=if qwg k <+: l then (match Lib.atoiAll (l.drop (qwg k).length) with
 | .ok n=>some n
 | _=>none) else none
def begE (l:qe):Option (Int×Int):=match tryB 1 l with
 |some n=>some (1,n)
 |none=>match tryB 2 l with
  |some n=>some (2,n)
  |none=>match tryB 3 l with
   |some n=>some (3,n)
   |none=>none
def qur (its:List zq):List (List Fld):=(its.filter fun x=>decide (x.kind=3)).map zq.fields
end Go.Proofs.YtneejjefekdgjaaGreatDoor
namespace Go.Pl
open Go Go.Proofs Go.Proofs.YtneejjefekdgjaaGreatDoor
def GF (fs:List Fld):Prop:=fs.length≤40∧∀ f∈fs,wt f
structure PI (p:PSt):Prop where
 items:∀ x∈p.items,GF x.fields∧(x.kind=3↔x.fields≠[])
 fields:GF p.fields
 full:p.lines≠[]→p.full=false→p.fields.length<40
theorem qzp {ls:List qe} (h:(jp ls).2=0):wt (jp ls).1:=by
 unfold jp at h ⊢
 split at h
 ·split at h
  ·simp at h
  ·rename_i h1 h2
   rw [if_pos h1,if_neg h2]
   exact⟨(qin.1 h1.2.1).2.2,Nat.le_of_not_lt h2⟩
 ·simp at h
theorem PI.flush {p:PSt} (h:PI p):PI (kw p).2:=by
 unfold kw
 split
 ·exact h
 ·rename_i hl
  split
  ·exact h
  ·rename_i hu
   split
   ·exact h
   ·rename_i hf
    have hlt:=h.full hl (by simpa using hf)
    refine⟨h.items,⟨by simp;omega,fun f hm=>?_⟩,by simp⟩
    rcases List.mem_append.1 hm with hm|hm
    ·exact h.fields.2 f hm
    ·simp at hm;subst hm;exact qzp (by simpa using hu)
theorem PI.close {p:PSt} (h:PI p):PI (qaq p):=by
 unfold qaq
 split
 ·exact⟨h.items,⟨by simp,by simp⟩,fun h1 h2=>by simp⟩
 ·refine⟨fun x hx=>?_,⟨by simp,by simp⟩,fun h1 h2=>by simp⟩
  rcases List.mem_append.1 hx with hx|hx
  ·exact h.items x hx
  ·simp at hx
   subst hx
   refine⟨h.fields,?_⟩
   simp only
   split
   ·rename_i h0;simp [h0]
   ·rename_i h0;simp [h0]
theorem PI.end' {p:PSt} (h:PI p):PI (endP p).2:=by
 unfold endP
 split
 ·exact h
 ·exact h.flush.close
theorem PI.lines' {p:PSt} (h:PI p) (hl:p.lines≠[]) (text:qe):PI { p with lines:=p.lines++[text] }:=⟨h.items,h.fields,fun _ hf=>h.full hl hf⟩
theorem PI.begin' {p:PSt} (h:PI p) (no:Int) (text:qe):PI (wr p no text):=by
 refine⟨h.items,h.fields,fun _ hf=>?_⟩
 have:=h.fields.1
 simp only [wr,decide_eq_false_iff_not,not_or] at hf ⊢
 omega
theorem PI.ahead {p:PSt} (h:PI p) (no:Int) (text:qe) (ended:Bool) (kind:Int):PI (ki p no text ended kind).2:=by
 unfold ki
 split
 ·split
  ·exact h
  ·rename_i hl
   split
   ·exact h.lines' hl text
   ·exact (h.lines' hl text).flush
 ·split
  ·exact h.end'
  ·exact h.flush
theorem PI.take {p:PSt} (h:PI p) (no:Int) (text:qe) (ended:Bool):PI (yr p no text ended).2:=by
 have ha:=h.ahead no text ended (qs text)
 unfold yr
 split
 ·exact h
 ·split
  ·exact h
  ·split
   ·refine⟨fun x hx=>?_,ha.fields,ha.full⟩
    rcases List.mem_append.1 hx with hx|hx
    ·exact ha.items x hx
    ·simp at hx;subst hx;exact⟨⟨by simp,by simp⟩,by simp⟩
   ·split
    ·have hb:=ha.begin' no text
     exact⟨hb.items,hb.fields,hb.full⟩
    ·exact⟨ha.items,ha.fields,ha.full⟩
theorem PI.run:∀ (ls:List (qe×Bool)) (k:Nat) (p:PSt),PI p→PI (runL k ls p).2
 | [],k,p,h=>h.end'
 |(t,e)::r,k,p,h=>by
  unfold runL
  split
  ·exact h
  ·exact PI.run r (k+1) _ (h.take k t e)
theorem qvt (p:PSt):(qaq p).items.length≤p.items.length+1:=by
 unfold qaq
 split <;> simp
theorem qhr (p:PSt):(kw p).2.items=p.items:=by
 unfold kw
 split
 ·rfl
 ·split
  ·rfl
  ·split <;> rfl
theorem qpv (p:PSt):(endP p).2.items.length≤p.items.length+1:=by
 unfold endP
 split
 ·simp
 ·have:=qvt (kw p).2
  rw [qhr] at this
  exact this
theorem quz (p:PSt) (no:Int) (text:qe) (ended:Bool) (kind:Int):(ki p no text ended kind).2.items.length≤p.items.length+1:=by
 unfold ki
 split
 ·split
  ·simp
  ·split
   ·simp
   ·rw [qhr];simp
 ·split
  ·exact qpv p
  ·rw [qhr];simp
theorem qzn (p:PSt) (no:Int) (text:qe) (ended:Bool):(yr p no text ended).2.items.length≤p.items.length+2:=by
 have ha:=quz p no text ended (qs text)
 unfold yr
 split
 ·simp
 ·split
  ·simp
  ·split
   ·simp;omega
   ·split
    ·simp [wr];omega
    ·simp;omega
theorem qkn:∀ (ls:List (qe×Bool)) (k:Nat) (p:PSt),(runL k ls p).2.items.length≤p.items.length+2 * ls.length+1
 | [],k,p=>by have:=qpv p;simp [runL];omega
 |(t,e)::r,k,p=>by
  unfold runL
  split
  ·simp;omega
  ·have h1:=qkn r (k+1) (yr p k t e).2
   have h2:=qzn p k t e
   simp only [List.length_cons]
   omega
end Go.Pl
namespace Go.Proofs.YtneejjefekdgjaaGreatDoor
open Go Go.Av Go.RowKit Go.Proofs Go.Pl
def q37 (text:qe):List Fld×Bool:=
 if (qcw [32,32] text).2=false∨(wx (qcw [32,32] text).1).1≠none then ([],false)
 else match qur (wx (qcw [32,32] text).1).2 with
  | []=>([],decide ((qcw [32,32] text).1=[]))
  |f::_=>(f,decide ((wx (qcw [32,32] text).1).2.length=1))
def qjl (text:qe):List LnV→Nat→List qe
 | [],frm=>[text.drop frm]
 |l::r,frm=>if frm<l.at'∧¬ [32,32] <+: l.text then (text.take l.at').drop frm::qjl text r l.at' else qjl text r frm
def zcu (text:qe):List qe:=qjl text (lns text) 0
def decP:List qe→List zh→Option (List zh)
 | [],acc=>some acc
 |p::r,acc=>match begE (upto 10 p) with
  |none=>none
  |some (k,n)=>if (q37 (past 10 p)).2=true∧acc.length≠40 then decP r (acc++[⟨k,n,(q37 (past 10 p)).1⟩]) else none
def decF (text:qe):Option (List zh):=if 50000<text.length then none else match decP (zcu text) [] with
 |none=>none
 |some b=>if eErr b = .no∧encF b=text then some b else none
theorem qgo {α : Type} [DecidableEq α] {a b:List α} {k:Nat} {d : α} (hl:a.length=b.length) (hk:k<a.length) (h:a.take k=b.take k) (h2:a.getD k d=b.getD k d):a.take (k+1)=b.take (k+1):=by
 rw [List.take_succ_eq_append_getElem hk,List.take_succ_eq_append_getElem (by omega),h]
 congr 2
 simpa [List.getD,hk,show k<b.length by omega] using h2
end Go.Proofs.YtneejjefekdgjaaGreatDoor
namespace Go.Pl
open Go Go.Proofs Go.Proofs.YtneejjefekdgjaaGreatDoor
theorem qc2 (s:qe) (r:List qe):zv (s::r)=s++10::zv r:=by simp [zv]
theorem qfp:∀ (ls:List qe),(∀ s∈ls,10∉s)→vm (zv ls)=ls.map fun s=>(s,true)
 | [],_=>by simp [zv,qai]
 |s::r,h=>by
  have hs:=h s (by simp)
  rw [qc2,qbb (by simp),qa9 _ hs,qbx _ hs,qfp r fun x hx=>h x (by simp [hx])]
  simp
theorem qy6 {f:Fld} (h:wt f):∀ s∈zy f,10∉s:=fun s hs=>by
 unfold zy at hs
 rcases List.mem_cons.1 hs with rfl|hs
 ·have h1:=qd8 f.2 _ (qoc f.2)
  have h2:=h.1.2.2.2.2.2
  unfold v8
  split <;> simp_all
 ·obtain⟨x,hx,rfl⟩:=List.mem_map.1 hs
  have h1:=qd8 f.2 x (List.mem_of_mem_tail hx)
  have:=qq3 h1
  simp [this]
theorem qlt {f:Fld} (h:wt f):∃ hd mr,zy f=hd::mr∧qs hd=4∧∀ s∈mr,qs s=3:=by
 refine⟨_,_,rfl,qs9 h.1 (qd8 f.2 _ (qoc f.2)),fun s hs=>?_⟩
 obtain⟨x,hx,rfl⟩:=List.mem_map.1 hs
 exact qta x (qd8 f.2 x (List.mem_of_mem_tail hx))
theorem q5u {p:PSt} {k:Int} {t:qe} (ht:qs t=3) (hl:p.lines≠[]):yr p k t true=(none,{ p with lines:=p.lines++[t],block:=p.block++[t] }):=by
 have ha:ki p k t true (qs t)=(none,{ p with lines:=p.lines++[t] }):=by
  unfold ki
  rw [if_pos ht,if_neg hl,if_pos rfl]
 unfold yr
 rw [ha,ht]
 simp
theorem qts {p q:PSt} {k:Int} {t:qe} (ht:qs t=4) (hf:kw p=(none,q)):yr p k t true=(none,{ wr q k t with block:=q.block++[t] }):=by
 have ha:ki p k t true (qs t)=(none,q):=by
  unfold ki
  rw [if_neg (by omega),if_neg (by omega)]
  exact hf
 unfold yr
 rw [ha,ht]
 simp
theorem qos:∀ (m:List qe) (k:Nat) (p:PSt) (ls:List (qe×Bool)),(∀ s∈m,qs s=3)→p.lines≠[] →
  runL k (m.map (fun s=>(s,true))++ls) p=runL (k+m.length) ls { p with lines:=p.lines++m,block:=p.block++m }
 | [],k,p,ls,_,_=>by simp
 |s::m,k,p,ls,h,hl=>by
  have hs:=h s (by simp)
  rw [List.map_cons,List.cons_append,runL,q5u hs hl]
  simp only
  rw [qos m (k+1) _ ls (fun x hx=>h x (by simp [hx])) (by simp)]
  simp only [List.append_assoc,List.cons_append,List.nil_append,List.length_cons]
  congr 1
  omega
theorem qp0 {g:Fld} (hg:wt g) (frm:Int) (its:List zq) (blk:List qe) (done:List Fld) (rc:Int):kw ⟨zy g,frm,false,its,blk,done,rc⟩=(none,⟨[],frm,false,its,blk,done++[g],rc⟩):=by
 have hu:=qt8 hg
 unfold kw
 rw [if_neg (by simp [zy]),hu]
 simp
theorem qxv:∀ (r:List Fld) (done:List Fld) (g:Fld) (k:Nat) (frm:Int) (blk:List qe),wt g→(∀ f∈r,wt f)→done.length+1+r.length≤40→blk≠[] →
  (runL k ((r.flatMap zy).map fun s=>(s,true)) ⟨zy g,frm,false,[],blk,done,0⟩).1=none∧(runL k ((r.flatMap zy).map fun s=>(s,true)) ⟨zy g,frm,false,[],blk,done,0⟩).2.items=[⟨3,zv (blk++r.flatMap zy),done++g::r⟩]
 | [],done,g,k,frm,blk,hg,_,_,hb=>by
  have he:endP ⟨zy g,frm,false,[],blk,done,0⟩=(none,qaq ⟨[],frm,false,[],blk,done++[g],0⟩):=by
   unfold endP
   rw [qp0 hg]
  simp only [List.flatMap_nil,List.map_nil,runL,he,List.append_nil]
  refine⟨trivial,?_⟩
  unfold qaq
  rw [if_neg hb]
  simp
 |f::r,done,g,k,frm,blk,hg,hr,hl,hb=>by
  have hf:=hr f (by simp)
  obtain⟨hd,mr,hlf,hk4,hk3⟩:=qlt hf
  simp only [List.length_cons] at hl
  have hrun:runL k (((f::r).flatMap zy).map fun s=>(s,true)) ⟨zy g,frm,false,[],blk,done,0⟩=runL (k+1+mr.length) ((r.flatMap zy).map fun s=>(s,true)) ⟨zy f,k,false,[],blk++zy f,done++[g],0⟩:=by
   rw [List.flatMap_cons,List.map_append,hlf,List.map_cons,List.cons_append,runL,qts hk4 (qp0 hg frm [] blk done 0)]
   simp only
   rw [qos mr (k+1) _ _ hk3 (by simp [wr])]
   have hfu:decide ((done++[g]).length=40∨((done++[g]).length=0∧(0:Int)=400))=false:=by
    simp
    omega
   simp only [wr,hfu,List.append_assoc,List.cons_append,List.nil_append]
  rw [hrun]
  have ih:=qxv r (done++[g]) f (k+1+mr.length) k (blk++zy f) hf (fun x hx=>hr x (by simp [hx])) (by simp;omega) (by simp [hb])
  rw [ih.1,ih.2]
  simp [List.flatMap_cons]
theorem qj4 (fs:List Fld):jy fs=zv (fs.flatMap zy):=by
 induction fs with
 |nil=>rfl
 |cons f r ih=>
  rw [List.flatMap_cons,qa3,← ih]
  simp [jy]
theorem qlk {fs:List Fld} (h:∀ f∈fs,wt f):∀ s∈fs.flatMap zy,10∉s:=fun s hs=>by
 obtain⟨f,hf,hs⟩:=List.mem_flatMap.1 hs
 exact qy6 (h f hf) s hs
theorem q14 {fs:List Fld} (hg:GF fs) (hne:fs≠[]):wx (jy fs)=(none,[⟨3,jy fs,fs⟩]):=by
 have hl:=qfp _ (qlk hg.2)
 rw [← qj4] at hl
 cases fs with
 |nil=>exact absurd rfl hne
 |cons f r=>
  have hf:=hg.2 f (by simp)
  obtain⟨hd,mr,hlf,hk4,hk3⟩:=qlt hf
  have hlen:=hg.1
  simp only [List.length_cons] at hlen
  have hrun:runL 0 (((f::r).flatMap zy).map fun s=>(s,true)) p0=runL (0+1+mr.length) ((r.flatMap zy).map fun s=>(s,true)) ⟨zy f,(0:Nat),false,[],zy f,[],0⟩:=by
   have hfl:kw p0=(none,p0):=rfl
   rw [List.flatMap_cons,List.map_append,hlf,List.map_cons,List.cons_append,runL,qts hk4 hfl]
   simp only
   rw [qos mr (0+1) _ _ hk3 (by simp [wr])]
   simp [wr,p0]
  have ih:=qxv r [] f (0+1+mr.length) (0:Nat) (zy f) hf (fun x hx=>hg.2 x (by simp [hx])) (by simp;omega) (by simp [zy])
  unfold wx
  rw [hl,hrun,ih.1]
  simp only
  rw [ih.2]
  rw [qj4,List.flatMap_cons,List.nil_append]
theorem qy0 {ls:List qe} (h:∀ s∈ls,10∉s):qro [32,32] (zv ls)=zv (ls.map fun s=>[32,32]++s):=by
 unfold qro indF
 rw [qfp ls h]
 simp only [zv,List.flatMap_map,qrr,if_pos]
theorem q7a {ls:List qe} (h:∀ s∈ls,10∉s):∀ s∈ls.map (fun s=>[32,32]++s),10∉s:=fun s hs=>by
 obtain⟨x,hx,rfl⟩:=List.mem_map.1 hs
 have:=h x hx
 simp [this]
def qmk (x:zh):List qe:=(x.fields.flatMap zy).map fun s=>[32,32]++s
theorem qi2 (v:Int):∀ c∈Lib.itoa v,c≠10∧c≠32:=fun c hc=>by
 by_cases hv:v<0
 ·rw [qey hv] at hc
  rcases List.mem_cons.1 hc with rfl|hc
  ·decide
  ·have:=yy _ _ (Nat.le_refl _) c hc
   constructor <;> rintro rfl <;> simp at this
 ·rw [qf1 (by omega)] at hc
  have:=yy _ _ (Nat.le_refl _) c hc
  constructor <;> rintro rfl <;> simp at this
theorem q4j (x:zh):10∉qip x:=by
 unfold qip
 split
 ·rename_i hk
  have h1:=qi2 x.id
  intro hc
  rcases List.mem_append.1 hc with hc|hc
  ·have:x.kind=1∨x.kind=2∨x.kind=3:=by omega
   rcases this with h|h|h <;> rw [h] at hc <;> revert hc <;> decide
  ·exact (h1 10 hc).1 rfl
 ·simp
theorem qyv {x:zh} (hg:∀ f∈x.fields,wt f):qpu x=zv (qip x::qmk x):=by
 unfold qpu qmk
 rw [qc2,qj4,qy0 (qlk hg)]
 simp
theorem q3r {x:zh} (hg:∀ f∈x.fields,wt f):∀ s∈qmk x,10∉s:=q7a (qlk hg)
theorem qg7 (text:qe):∀ (m:List qe) (k a f:Nat) (R:qe),(∀ s∈m,10∉s∧[32,32] <+: s)→∃ k',qjl text (y6 k a (zv m++R)) f=qjl text (y6 k' (a+(zv m).length) R) f
 | [],k,a,f,R,_=>⟨k,by simp [zv]⟩
 |s::m,k,a,f,R,h=>by
  obtain⟨h10,hp⟩:=h s (by simp)
  have e:zv (s::m)++R=s++10::(zv m++R):=by rw [qc2];simp
  obtain⟨k',ih⟩:=qg7 text m (k+1) (a+s.length+1) f R fun x hx=>h x (by simp [hx])
  refine⟨k',?_⟩
  rw [e,qdq (by simp),qa9 _ h10,qbx _ h10,qjl,if_neg (fun h=>h.2 hp),ih,qc2]
  congr 2
  simp
  omega
theorem q3q {x:zh} (hg:∀ f∈x.fields,wt f):∀ s∈qmk x,10∉s∧[32,32] <+: s:=fun s hs=>⟨q3r hg s hs,by
 obtain⟨y,_,rfl⟩:=List.mem_map.1 hs
 exact List.prefix_append _ _⟩
structure EncG (x:zh):Prop where
 kind:x.kind=1∨x.kind=2∨x.kind=3
 len:x.fields.length≤40
 good:∀ f∈x.fields,wt f
 id1 : -9223372036854775808≤x.id
 id2:x.id≤9223372036854775807
theorem q9t {x:zh} (h:gErr x = .no) (hB:EdB x):EncG x:=by
 obtain⟨h1,h2⟩:=qrm h
 refine⟨?_,h1,h2,hB.id1,hB.id2⟩
 unfold gErr at h
 split at h
 ·exact .inr (.inl (by assumption))
 ·split at h
  ·rename_i hk;omega
  ·simp at h
def SpL (L:List qe):Prop:=L≠[]∧∀ s∈L,10∉s∧[32] <+: s
def encL (b:List zh):List qe:=b.flatMap fun x=>qip x::qmk x
theorem q3x {b:List zh} (hg:∀ x∈b,EncG x):encF b=zv (encL b):=by
 induction b with
 |nil=>rfl
 |cons x r ih=>
  have e:encL (x::r)=(qip x::qmk x)++encL r:=by simp [encL]
  have e2:encF (x::r)=qpu x++encF r:=by simp [encF]
  rw [e,qa3,e2,qyv (hg x (by simp)).good,ih fun y hy=>hg y (by simp [hy])]
theorem zac {x:zh} (hk:x.kind=1∨x.kind=2∨x.kind=3):[32] <+: qip x:=by
 unfold qip
 rw [if_pos (by omega)]
 rcases hk with h|h|h <;> rw [h] <;> exact⟨_,rfl⟩
theorem q9u {b:List zh} (hne:b≠[]) (hg:∀ x∈b,EncG x):SpL (encL b):=by
 refine⟨?_,fun s hs=>?_⟩
 ·cases b with
  |nil=>exact absurd rfl hne
  |cons x r=>simp [encL]
 ·obtain⟨x,hx,hs⟩:=List.mem_flatMap.1 hs
  have hG:=hg x hx
  rcases List.mem_cons.1 hs with rfl|hs
  ·exact⟨q4j x,zac hG.kind⟩
  ·obtain⟨h1,t,ht⟩:=q3q hG.good s hs
   exact⟨h1,[32]++t,by rw [← ht];rfl⟩
theorem za8 {L:List qe} (h:SpL L):sp true (zv L)=true:=by
 rw [← qj7 _ (zv L) (Nat.le_refl _),qfp L fun s hs=>(h.2 s hs).1]
 intro x hx
 obtain⟨s,hs,rfl⟩:=List.mem_map.1 hx
 exact (h.2 s hs).2
theorem q5w {L:List qe} (h:SpL L):(zv L)[0]? = some 32:=by
 obtain⟨hne,hs⟩:=h
 cases L with
 |nil=>exact absurd rfl hne
 |cons s r=>
  obtain⟨t,ht⟩:=(hs s (by simp)).2
  rw [qc2,← ht]
  rfl
theorem qtt:∀ (L:List qe),L≠[]→(zv L).getLast? = some 10
 | [],h=>absurd rfl h
 | [s],_=>by rw [qc2];simp [zv]
 |s::t::r,_=>by
  have ih:=qtt (t::r) (by simp)
  have hne:zv (t::r)≠[]:=fun e=>by rw [e] at ih;simp at ih
  rw [qc2,List.getLast?_append,List.getLast?_cons,ih]
  simp
theorem q3y {b:List zh} (he:eErr b = .no) (hB:∀ x∈b,EdB x) (hl:(encF b).length≤50000):qf7 (encF b):=by
 obtain⟨h1,h40,hg⟩:=qmm he
 have hG:∀ y∈b,EncG y:=fun y hy=>q9t (hg y hy) (hB y hy)
 have hne:b≠[]:=fun e=>by subst e;simp at h1
 have hS:=q9u hne hG
 have ht:=q3x hG
 have hh:=q5w hS
 have hlast:=qtt _ hS.1
 rw [← ht] at hh hlast
 have hsp:=za8 hS
 rw [← ht] at hsp
 refine⟨?_,hl,hlast,by rw [qig];exact hsp⟩
 rcases hc:encF b with _ | ⟨c,_ | ⟨d,r⟩⟩
 ·rw [hc] at hh;simp at hh
 ·rw [hc] at hh hlast
  simp at hh hlast
  rw [hh] at hlast
  simp at hlast
 ·simp
end Go.Pl
namespace Go.Proofs.YtneejjefekdgjaaGreatDoor
open Go Go.Av Go.RowKit Go.Proofs Go.Pl
def q2z (b:List zh):Prop:=b.length≤51∧∀ x∈b,qgs x.fields
def ArgE (b:List zh):Prop:=b.length<9223372036854775808∧∀ x∈b,x.fields.length<9223372036854775808∧-9223372036854775808≤x.id∧x.id≤9223372036854775807
theorem zab {b:List zh} (hA:ArgE b) (h:q2z b):∀ x∈b,EdB x:=fun x hx=>⟨fun f hf=>((h.2 x hx).val f hf).1,(hA.2 x hx).1,(hA.2 x hx).2.1,(hA.2 x hx).2.2⟩
theorem qjg {l:qe} {i:Nat} {c:UInt8} (h:l[i]? = some c):l.getD i 0=c:=by simp [List.getD,h]
def ArgX (x:zh):Prop:=x.fields.length<9223372036854775808∧-9223372036854775808≤x.id∧x.id≤9223372036854775807
theorem q7p:Opn Tryz.prog 113 fun a=>∃ x:zh,a=qaw x∧ArgX x:=by
 intro H enc W fuel cs x h
 obtain⟨a,⟨vs,rfl,hl,hv⟩,hr⟩:=qkc (As:=[(some (.int .i64),IsI .i64),(some (.int .i64),IsI .i64),(some (.slice 111),fun a=>∃ xs:List FldV,a=kc xs∧xs.length≤maxLen)]) (by kernel_rfl) (by kernel_rfl) (by kernel_rfl) (by kernel_rfl)
  (List.forall_mem_cons.2 ⟨⟨fun _ h=>qqm h,qqk _⟩,List.forall_mem_cons.2 ⟨⟨fun _ h=>qqm h,qqk _⟩,List.forall_mem_cons.2 ⟨⟨fun _ h=>q7q h,q7o⟩,nofun⟩⟩⟩) H enc W fuel cs x h
 match vs,hl with
 | [v0,v1,v2],_=>
  obtain⟨n0,rfl,w0⟩:=hv 0 _ _ rfl rfl
  obtain⟨n1,rfl,w1⟩:=hv 1 _ _ rfl rfl
  obtain⟨xs,rfl,m⟩:=hv 2 _ _ rfl rfl
  exact⟨_,⟨⟨n0,n1,xs⟩,rfl,q4o m,lit_i64 w1⟩,hr⟩
theorem qu1 {α : Type} {g : α→AV} {P : α→Prop}:∀ {xs:List AV},(∀ x∈xs,∃ a,x=g a∧P a)→∃ ys:List α,xs=ys.map g∧∀ a∈ys,P a
 | [],_=>⟨[],rfl,by simp⟩
 |x::r,h=>by
  obtain⟨ys,hys,has⟩:=qu1 (xs:=r) fun y hy=>h y (List.mem_cons_of_mem _ hy)
  obtain⟨a,rfl,ha⟩:=h x (by simp)
  subst hys
  refine⟨a::ys,rfl,fun b hb=>?_⟩
  rcases List.mem_cons.1 hb with rfl|hb
  ·exact ha
  ·exact has b hb
theorem q42 {t:TypeId} (hu:Tryz.prog.underlying t=some (.slice 113)):Opn Tryz.prog t fun a=>∃ xs:List zh,a=ye xs∧ArgE xs:=by
 intro H enc W fuel cs x h
 obtain⟨a,⟨xs,rfl,hl,hx⟩,hr⟩:=qw7 (sz:=3) hu (by kernel_rfl) (by decide) q7p H enc W fuel cs x h
 obtain⟨rs,rfl,hrs⟩:=qu1 hx
 exact⟨_,⟨rs,rfl,q4o (by simpa using hl),hrs⟩,hr⟩
theorem q4y:One fun a=>∃ xs:List zh,a=ye xs∧ArgE xs:=by rintro _ ⟨xs,rfl,_⟩;rfl
end Go.Proofs.YtneejjefekdgjaaGreatDoor
namespace Go.Pl
open Go Go.Proofs Go.Proofs.YtneejjefekdgjaaGreatDoor
def OutG (out:List zh) (m:Nat):Prop:=∀ x∈out,(∀ f∈x.fields,wt f)∧x.fields.length≤m∧-9223372036854775808≤x.id∧x.id≤9223372036854775807
theorem OutG.mono {out:List zh} {m m':Nat} (h:OutG out m) (hm:m≤m'):OutG out m':=fun x hx=>⟨(h x hx).1,by have:=(h x hx).2.1;omega,(h x hx).2.2⟩
end Go.Pl
namespace Go.Pl
open Go Go.Proofs
def wm:List (qe×Bool)→List qe
 | []=>[]
 |(t,_)::r=>if qs t=3 then t::wm r else []
def wp (prev:Bool) (t:qe) (e:Bool) (r:List (qe×Bool)) (fields:Nat) (records:Int):Int:=
 if qs t=5∨(qs t=3∧prev=false)∨e=false then 2
 else if qs t≠4 then 0
 else if (jp (t::wm r)).2≠0 then (jp (t::wm r)).2
 else if 40≤fields∨(fields=0∧400≤records) then 11 else 0
theorem qyu {α : Type} {l:List α} {x : α} (h:l.getLast? = some x):l.dropLast++[x]=l:=by
 have hne:l≠[]:=fun e=>by subst e;simp at h
 rw [List.getLast?_eq_some_getLast hne] at h
 obtain rfl:=Option.some.inj h
 exact List.dropLast_concat_getLast hne
def outR (now:zq) (out:List zq):List zq:=if now.raw=[] then out else out++[now]
def refL:Nat→List (qe×Bool)→Bool→zq→Int→List zq→Option (Int×Int)×List zq
 | _,[],_,now,_,out=>(none,outR now out)
 |i,(t,e)::r,prev,now,rec,out=>
  if wp prev t e r now.fields.length rec≠0 then (some ((i:Int),wp prev t e r now.fields.length rec),[])
  else if qs t=1 then refL (i+1) r false ⟨2,[],[]⟩ rec (outR now out++[⟨1,t++[10],[]⟩])
  else if qs t=4 then refL (i+1) r true ⟨3,now.raw++t++[10],now.fields++[(jp (t::wm r)).1]⟩ (if now.kind=2 then rec+1 else rec) out
  else refL (i+1) r (decide (qs t=3)) ⟨now.kind,now.raw++t++[10],now.fields⟩ rec out
def qug:List (qe×Bool)→Prop
 | []=>True
 |(_,e)::r=>(e=false→r=[])∧qug r
theorem qnl:∀ (n:Nat) (l:qe),l.length≤n→qug (vm l)
 | 0,l,h=>by
  have:l=[]:=List.length_eq_zero_iff.1 (by omega)
  subst this
  rw [qai]
  trivial
 |n+1,l,h=>by
  by_cases hl:l=[]
  ·subst hl
   rw [qai]
   trivial
  ·rw [qbb hl]
   refine⟨fun he=>?_,qnl n _ (by have:=qat (c:=10) hl;omega)⟩
   have h10:10∉l:=by simpa using he
   have:past 10 l=[]:=by
    unfold past
    rw [qe1 h10]
    exact List.drop_eq_nil_of_le (by omega)
   rw [this,qai]
def qeh (ls:List qe) (full:Bool):Int:=if (jp ls).2≠0 then (jp ls).2 else if full=true then 11 else 0
theorem qg0 {p:PSt} (h:p.lines≠[]) (hc:qeh p.lines p.full≠0):(kw p).1=some (p.frm,qeh p.lines p.full):=by
 unfold qeh at *
 unfold kw
 rw [if_neg h]
 by_cases h1:(jp p.lines).2≠0
 ·rw [if_pos h1,if_pos h1]
 ·rw [if_neg h1] at hc ⊢
  rw [if_neg h1]
  by_cases h2:p.full=true
  ·rw [if_pos h2,if_pos h2]
  ·rw [if_neg h2] at hc
   exact absurd rfl hc
theorem qs2 {p:PSt} (h:p.lines=[]∨qeh p.lines p.full=0):kw p=(none,{ p with lines:=[],fields:=p.fields++(if p.lines=[] then [] else [(jp p.lines).1]) }):=by
 unfold kw
 by_cases h0:p.lines=[]
 ·rw [if_pos h0,if_pos h0]
  obtain⟨a,b,c,d,e,f,g⟩:=p
  simp only at h0
  subst h0
  simp
 ·rw [if_neg h0,if_neg h0]
  have h:=h.resolve_left h0
  unfold qeh at h
  by_cases h1:(jp p.lines).2≠0
  ·rw [if_pos h1] at h
   exact absurd h h1
  ·rw [if_neg h1] at h ⊢
   by_cases h2:p.full=true
   ·rw [if_pos h2] at h
    simp at h
   ·rw [if_neg h2]
theorem qox {p:PSt} {no:Int} {t:qe} {e:Bool} {x:Int×Int} (h:(ki p no t e (qs t)).1=some x):(yr p no t e).1=some x:=by
 unfold yr
 rw [h]
theorem qoy {p q:PSt} {no:Int} {t:qe} {e:Bool} (h:ki p no t e (qs t)=(none,q)) (hc:qs t=5∨e=false):(yr p no t e).1=some (no,2):=by
 unfold yr
 rw [h]
 simp only
 rw [if_pos hc]
theorem qjp {p q:PSt} {no:Int} {t:qe} (h:ki p no t true (qs t)=(none,q)) (hc:qs t≠5):yr p no t true =
  if qs t=1 then (none,{ q with items:=q.items++[⟨1,t++[10],[]⟩] }) else if qs t=4 then (none,{ wr q no t with block:=q.block++[t] }) else (none,{ q with block:=q.block++[t] }):=by
 unfold yr
 rw [h]
 simp only
 rw [if_neg (by simp [hc])]
theorem qfb {k:Nat} {t:qe} {e:Bool} {r:List (qe×Bool)} {p:PSt} {x:Int×Int} (h:(yr p k t e).1=some x):(runL k ((t,e)::r) p).1=some x:=by
 rw [runL,h]
theorem qgm {k:Nat} {t:qe} {e:Bool} {r:List (qe×Bool)} {p q:PSt} (h:yr p k t e=(none,q)):runL k ((t,e)::r) p=runL (k+1) r q:=by
 rw [runL,h]
theorem qo8 {p:PSt} {no:Int} {t:qe} (hk:qs t=3) (hl:p.lines≠[]):ki p no t true (qs t)=(none,{ p with lines:=p.lines++[t] }):=by
 unfold ki
 rw [if_pos hk,if_neg hl,if_pos rfl]
theorem qo7 {p:PSt} {no:Int} {t:qe} (hk:qs t=3) (hl:p.lines≠[]):ki p no t false (qs t)=kw { p with lines:=p.lines++[t] }:=by
 unfold ki
 rw [if_pos hk,if_neg hl,if_neg (by simp)]
theorem qf5 {p:PSt} {no:Int} {t:qe} {e:Bool} (hk:qs t≠3) (h1:qs t≠1):ki p no t e (qs t)=kw p:=by
 unfold ki
 rw [if_neg hk,if_neg h1]
theorem qiy {p:PSt} {no:Int} {t:qe} {e:Bool} (h1:qs t=1):ki p no t e (qs t)=endP p:=by
 unfold ki
 rw [if_neg (by omega),if_pos h1]
theorem qka {t:qe} {e:Bool} {r:List (qe×Bool)} (h:qs t≠3):wm ((t,e)::r)=[]:=by
 rw [wm,if_neg h]
theorem qf9 {t:qe} {e:Bool} {r:List (qe×Bool)} (h:qs t=3):wm ((t,e)::r)=t::wm r:=by
 rw [wm,if_pos h]
theorem qvy {p:PSt} {x:Int×Int} (h:(kw p).1=some x):(endP p).1=some x:=by
 unfold endP
 rw [h]
theorem qrj {p q:PSt} (h:kw p=(none,q)):endP p=(none,qaq q):=by
 unfold endP
 rw [h]
theorem qxf:∀ (r:List (qe×Bool)) (p:PSt) (k:Nat) (c:Int),qug r→p.lines≠[]→qeh (p.lines++wm r) p.full=c→c≠0→(runL k r p).1=some (p.frm,c)
 | [],p,k,c,_,hl,hc,h0=>by
  rw [wm,List.append_nil] at hc
  rw [runL]
  subst hc
  exact qvy (qg0 hl h0)
 |(t,e)::r,p,k,c,hE,hl,hc,h0=>by
  by_cases h3:qs t=3
  ·rw [qf9 h3] at hc
   cases e with
   |true=>
    have ht:=qjp (qo8 (no:=k) h3 hl) (by omega)
    rw [if_neg (by omega),if_neg (by omega)] at ht
    rw [qgm ht]
    exact qxf r _ (k+1) c hE.2 (by simp) (by simpa using hc) h0
   |false=>
    have hr:=hE.1 rfl
    subst hr
    refine qfb (qox ?_)
    rw [qo7 h3 hl]
    have hc':qeh (p.lines++[t]) p.full=c:=hc
    have:=qg0 (p:={ p with lines:=p.lines++[t] }) (by simp) (by simp only;rw [hc'];exact h0)
    simp only at this
    rw [this,hc']
  ·rw [qka h3,List.append_nil] at hc
   subst hc
   refine qfb (qox ?_)
   by_cases h1:qs t=1
   ·rw [qiy h1]
    exact qvy (qg0 hl h0)
   ·rw [qf5 h3 h1]
    exact qg0 hl h0
structure Sim (r:List (qe×Bool)) (p:PSt) (prev:Bool) (now:zq) (rec:Int) (out:List zq):Prop where
 hprev:prev=decide (p.lines≠[])
 hok:p.lines=[]∨qeh (p.lines++wm r) p.full=0
 hraw:now.raw=zv p.block
 hfields:now.fields=p.fields++(if p.lines=[] then [] else [(jp (p.lines++wm r)).1])
 hkind:now.kind=if now.fields=[] then 2 else 3
 hrec:rec=p.records+if now.fields=[] then 0 else 1
 hout:out=p.items
 hempty:p.block=[]→p.lines=[]∧p.fields=[]
 b1:now.fields.length≤40
 b2:rec≤400
theorem q5v (b:List qe):zv b=[]↔b=[]:=by
 cases b with
 |nil=>simp [zv]
 |cons x r=>simp [zv]
theorem qku (b:List qe) (t:qe):zv (b++[t])=zv b++t++[10]:=by simp [zv]
theorem Sim.flush {r:List (qe×Bool)} {p:PSt} {prev:Bool} {now:zq} {rec:Int} {out:List zq} (h:Sim r p prev now rec out) (hm:wm r=[]):kw p=(none,{ p with lines:=[],fields:=now.fields }):=by
 have h1:=h.hok
 have h2:=h.hfields
 rw [hm,List.append_nil] at h1 h2
 rw [qs2 h1,h2]
theorem Sim.close {r:List (qe×Bool)} {p:PSt} {prev:Bool} {now:zq} {rec:Int} {out:List zq} (h:Sim r p prev now rec out) (hm:wm r=[]):qaq { p with lines:=[],fields:=now.fields }={ p with lines:=[],fields:=[],block:=[],items:=outR now out,records:=rec }:=by
 have hk:=h.hkind
 have hr:=h.hrec
 have hw:=h.hraw
 have ho:=h.hout
 unfold qaq outR
 simp only
 by_cases hb:p.block=[]
 ·obtain⟨e1,e2⟩:=h.hempty hb
  have hf:now.fields=[]:=by rw [h.hfields,e1,e2];simp
  rw [if_pos hb,if_pos (by rw [hw,hb];rfl),ho,hr,hf]
  simp
 ·have hne:¬ now.raw=[]:=by rw [hw,q5v];exact hb
  rw [if_neg hb,if_neg hne,ho,hr,← hw]
  obtain⟨nk,nr,nf⟩:=now
  simp only at hk hne ⊢
  by_cases hf:nf=[]
  ·rw [if_pos hf] at hk
   simp [hf,hk,hne]
  ·rw [if_neg hf] at hk
   simp [hf,hk,hne]
theorem qjm:∀ (r:List (qe×Bool)) (k:Nat) (p:PSt) (prev:Bool) (now:zq) (rec:Int) (out:List zq),qug r→Sim r p prev now rec out →
  refL k r prev now rec out=match (runL k r p).1 with
   |some e=>(some e,[])
   |none=>(none,(runL k r p).2.items)
 | [],k,p,prev,now,rec,out,_,h=>by
  rw [runL,qrj (h.flush rfl),h.close rfl,refL]
 |(t,e)::r,k,p,prev,now,rec,out,hE,h=>by
  rw [refL]
  by_cases h3:qs t=3
  ·by_cases hl:p.lines=[]
   ·have hp:prev=false:=by rw [h.hprev];simp [hl]
    have hw:wp prev t e r now.fields.length rec=2:=by
     unfold wp
     rw [if_pos (.inr (.inl ⟨h3,hp⟩))]
    rw [hw,if_pos (by decide),qfb (x:=((k:Int),2)) (qox (by unfold ki;rw [if_pos h3,if_pos hl]))]
   ·cases e with
    |true=>
     have hp:prev=true:=by rw [h.hprev];simp [hl]
     have hw:wp prev t true r now.fields.length rec=0:=by
      unfold wp
      rw [if_neg (by simp [hp];omega),if_pos (by omega)]
     have ht:=qjp (qo8 (no:=k) h3 hl) (by omega)
     rw [if_neg (by omega),if_neg (by omega)] at ht
     rw [hw,if_neg (by simp),if_neg (by omega),if_neg (by omega),qgm ht]
     have hm:=qf9 (e:=true) (r:=r) h3
     have hok:=h.hok.resolve_left hl
     have hfs:=h.hfields
     rw [if_neg hl,hm] at hfs
     rw [hm] at hok
     refine qjm r (k+1) _ _ _ _ _ hE.2 ⟨by simp [h3],.inr (by simpa using hok),by rw [qku,← h.hraw],by simp [hfs],h.hkind,h.hrec,h.hout,by simp,h.b1,h.b2⟩
    |false=>
     have hr:=hE.1 rfl
     subst hr
     have hw:wp prev t false [] now.fields.length rec=2:=by
      unfold wp
      rw [if_pos (.inr (.inr rfl))]
     have hok:=h.hok.resolve_left hl
     rw [qf9 h3] at hok
     have hf:=qs2 (p:={ p with lines:=p.lines++[t] }) (.inr hok)
     rw [hw,if_pos (by decide),qfb (x:=((k:Int),2)) (qoy ((qo7 h3 hl).trans hf) (.inr rfl))]
  ·have hm:=qka (e:=e) (r:=r) h3
   have hf:=h.flush hm
   have hc:=h.close hm
   by_cases hbad:qs t=5∨e=false
   ·have hw:wp prev t e r now.fields.length rec=2:=by
     unfold wp
     rw [if_pos (by rcases hbad with h|h;exact .inl h;exact .inr (.inr h))]
    rw [hw,if_pos (by decide)]
    by_cases h1:qs t=1
    ·rw [qfb (x:=((k:Int),2)) (qoy ((qiy h1).trans (qrj hf)) hbad)]
    ·rw [qfb (x:=((k:Int),2)) (qoy ((qf5 h3 h1).trans hf) hbad)]
   ·have he:e=true:=by
     cases e with
     |true=>rfl
     |false=>exact absurd (.inr rfl) hbad
    have h5:qs t≠5:=fun h=>hbad (.inl h)
    subst he
    by_cases h1:qs t=1
    ·have hw:wp prev t true r now.fields.length rec=0:=by
      unfold wp
      rw [if_neg (by simp [h3,h5]),if_pos (by omega)]
     have ht:=qjp ((qiy (no:=k) h1).trans (qrj hf)) h5
     rw [if_pos h1,hc] at ht
     rw [hw,if_neg (by simp),if_pos h1,qgm ht]
     exact qjm r (k+1) _ _ _ _ _ hE.2 ⟨by simp,.inl rfl,rfl,by simp,by simp,by simp,rfl,by simp,by simp,h.b2⟩
    ·by_cases h4:qs t=4
     ·have ht:=qjp ((qf5 (no:=k) h3 h1).trans hf) h5
      rw [if_neg h1,if_pos h4] at ht
      rw [qgm ht]
      have hb1:=h.b1
      have hb2:=h.b2
      have hrec:=h.hrec
      have hfull:(40≤now.fields.length∨(now.fields.length=0∧400≤rec))↔(now.fields.length=40∨(now.fields.length=0∧p.records=400)):=by
       by_cases hz:now.fields=[]
       ·rw [if_pos hz] at hrec
        simp only [hz,List.length_nil]
        constructor
        ·rintro (h'|h')
         ·exact absurd h' (by decide)
         ·exact .inr ⟨trivial,by omega⟩
        ·rintro (h'|h')
         ·exact absurd h' (by decide)
         ·exact .inr ⟨trivial,by omega⟩
       ·have:now.fields.length≠0:=fun h=>hz (List.length_eq_zero_iff.1 h)
        constructor
        ·rintro (h'|h')
         ·exact .inl (by omega)
         ·exact absurd h'.1 this
        ·rintro (h'|h')
         ·exact .inl (by omega)
         ·exact absurd h'.1 this
      have hw:wp prev t true r now.fields.length rec=qeh (t::wm r) (decide (now.fields.length=40∨(now.fields.length=0∧p.records=400))):=by
       unfold wp qeh
       rw [if_neg (by simp [h3,h5]),if_neg (by omega)]
       by_cases hu:(jp (t::wm r)).2≠0
       ·rw [if_pos hu,if_pos hu]
       ·rw [if_neg hu,if_neg hu]
        by_cases hx:40≤now.fields.length∨(now.fields.length=0∧400≤rec)
        ·rw [if_pos hx,if_pos (decide_eq_true (hfull.1 hx))]
        ·rw [if_neg hx,if_neg (by simpa using fun h=>hx (hfull.2 h))]
      by_cases hw0:wp prev t true r now.fields.length rec=0
      ·rw [if_neg (by simp [hw0]),if_neg h1,if_pos h4]
       have hx:¬ (40≤now.fields.length∨(now.fields.length=0∧400≤rec)):=fun hx=>by
        unfold wp at hw0
        rw [if_neg (by simp [h3,h5]),if_neg (by omega)] at hw0
        by_cases hu:(jp (t::wm r)).2≠0
        ·rw [if_pos hu] at hw0;exact hu hw0
        ·rw [if_neg hu,if_pos hx] at hw0;simp at hw0
       rw [hw] at hw0
       refine qjm r (k+1) _ _ _ _ _ hE.2 ⟨by simp [wr],.inr hw0,by simp only [wr];rw [qku,← h.hraw],by simp [wr],by simp,?_,h.hout,by simp [wr],by simp;omega,?_⟩
       ·have hkd:=h.hkind
        simp only [wr]
        by_cases hz:now.fields=[]
        ·rw [if_pos hz] at hrec hkd
         rw [hkd]
         simp
         omega
        ·rw [if_neg hz] at hrec hkd
         rw [hkd]
         simp
         omega
       ·rw [h.hkind]
        by_cases hz:now.fields=[]
        ·have:now.fields.length=0:=by rw [hz];rfl
         rw [if_pos hz,if_pos rfl]
         omega
        ·rw [if_neg hz,if_neg (by decide)]
         exact hb2
      ·rw [if_pos hw0]
       have:=qxf r { wr { p with lines:=[],fields:=now.fields } k t with block:=p.block++[t] } (k+1) (wp prev t true r now.fields.length rec) hE.2 (by simp [wr]) hw.symm hw0
       simp only [wr] at this ⊢
       rw [this]
     ·have hw:wp prev t true r now.fields.length rec=0:=by
       unfold wp
       rw [if_neg (by simp [h3,h5]),if_pos h4]
      have ht:=qjp ((qf5 (no:=k) h3 h1).trans hf) h5
      rw [if_neg h1,if_neg h4] at ht
      rw [hw,if_neg (by simp),if_neg h1,if_neg h4,qgm ht]
      exact qjm r (k+1) _ _ _ _ _ hE.2 ⟨by simp [h3],.inl rfl,by rw [qku,← h.hraw],by simp,h.hkind,h.hrec,h.hout,by simp,h.b1,h.b2⟩
theorem qel (text:qe):refL 0 (vm text) false ⟨2,[],[]⟩ 0 []=wx text:=by
 unfold wx
 exact qjm (vm text) 0 p0 false ⟨2,[],[]⟩ 0 [] (qnl _ text (Nat.le_refl _)) ⟨by simp [p0],.inl rfl,rfl,by simp [p0],by simp,by simp [p0],rfl,by simp [p0],by simp,by omega⟩
end Go.Pl
namespace Go.Pl
open Go Go.Proofs Go.Proofs.YtneejjefekdgjaaGreatDoor
def genL:qe:=[35,37,103,101,110,32]
def qdf (n:Int):qe:=genL++Lib.itoa n++[10,10]
def qfm (n:Int):Prop:=1≤n∧n≤2147483648
instance (n:Int):Decidable (qfm n):=inferInstanceAs (Decidable (_∧_))
def qcj (text:qe):Int×qe:=
 if genL <+: text then
  match numZ (upto 10 (text.drop 6)) with
  |some n=>if qfm n∧[10,10] <+: text.drop (6+(upto 10 (text.drop 6)).length) then (n,text.drop (8+(upto 10 (text.drop 6)).length)) else (0,text)
  |none=>(0,text)
 else (0,text)
theorem qp8 (v:Int):(10:UInt8)∉Lib.itoa v:=by
 intro h
 by_cases hv:v<0
 ·rw [qey hv] at h
  rcases List.mem_cons.1 h with h|h
  ·simp at h
  ·have:=yy _ _ (Nat.le_refl _) _ h
   simp at this
 ·rw [qf1 (by omega)] at h
  have:=yy _ _ (Nat.le_refl _) _ h
  simp at this
theorem qwp (n:Int) (r:qe):qdf n++r=genL++(Lib.itoa n++10::10::r):=by simp [qdf]
theorem qks {n:Int} (h:qfm n) (r:qe):qcj (qdf n++r)=(n,r):=by
 unfold qcj
 have hd:(genL++(Lib.itoa n++10::10::r)).drop 6=Lib.itoa n++10::10::r:=by rw [show (6:Nat)=genL.length by rfl,List.drop_left]
 rw [qwp,if_pos (List.prefix_append _ _),hd,qa9 _ (qp8 n),qtd (by have:=h.1;omega) (by have:=h.2;omega)]
 have e1:(genL++(Lib.itoa n++10::10::r)).drop (6+(Lib.itoa n).length)=10::10::r:=by rw [← List.drop_drop,hd,List.drop_left]
 have e2:(genL++(Lib.itoa n++10::10::r)).drop (8+(Lib.itoa n).length)=r:=by
  rw [show 8+(Lib.itoa n).length=(6+(Lib.itoa n).length)+2 by omega,← List.drop_drop,e1]
  rfl
 simp only
 rw [e1,e2,if_pos ⟨h,r,rfl⟩]
theorem qtr {text:qe} (h:∀ n r,qfm n→text≠qdf n++r):qcj text=(0,text):=by
 unfold qcj
 split
 ·rename_i hp
  obtain⟨t,rfl⟩:=hp
  have hd:(genL++t).drop 6=t:=by rw [show (6:Nat)=genL.length by rfl,List.drop_left]
  rw [hd]
  split
  ·rename_i n hn
   split
   ·rename_i hc
    obtain⟨hg,r,hr⟩:=hc
    rw [← List.drop_drop,hd] at hr
    obtain⟨he,_⟩:=qte hn
    refine absurd ?_ (h n r hg)
    rw [qwp,← he]
    congr 1
    conv=>lhs;rw [← List.take_append_drop (upto 10 t).length t,qiv,← hr]
    rfl
   ·rfl
  ·rfl
 ·rfl
theorem qzl (text:qe):(∃ n r,qfm n∧text=qdf n++r∧qcj text=(n,r))∨((∀ n r,qfm n→text≠qdf n++r)∧qcj text=(0,text)):=by
 by_cases h:∃ n r,qfm n∧text=qdf n++r
 ·obtain⟨n,r,hg,rfl⟩:=h
  exact .inl ⟨n,r,hg,rfl,qks hg r⟩
 ·have h':∀ n r,qfm n→text≠qdf n++r:=fun n r hg e=>h ⟨n,r,hg,e⟩
  exact .inr ⟨h',qtr h'⟩
def qcz (n:Int):qe:=if qfm n then qdf n else []
theorem qzm (text:qe):text=qcz (qcj text).1++(qcj text).2∧((qcj text).1=0∨qfm (qcj text).1):=by
 rcases qzl text with⟨n,r,hg,he,ht⟩ | ⟨_,ht⟩
 ·rw [ht]
  simp only
  unfold qcz
  rw [if_pos hg]
  exact⟨he,.inr hg⟩
 ·rw [ht]
  exact⟨rfl,.inl rfl⟩
def begF (l:qe):Bool:=decide (l.head? = some 37∧qs l=5)
def q3p (n:Nat) (l:qe):Nat:=if h:l=[] then n else if begF (upto 10 l)=true then n - l.length else q3p n (past 10 l)
 termination_by l.length
 decreasing_by exact qat h
theorem qg8:∀ (r:List (qe×Bool)) (k:Nat) (prev:Bool) (now:zq) (rec:Int) (out:List zq),(refL k r prev now rec out).1=none→∀ x∈r,qs x.1≠5∧x.2=true
 | [],_,_,_,_,_,_=>by simp
 |(t,e)::r,k,prev,now,rec,out,h=>by
  rw [refL] at h
  split at h
  ·simp at h
  ·rename_i hw
   have hx:qs t≠5∧e=true:=by
    unfold wp at hw
    split at hw
    ·simp at hw
    ·rename_i hc
     exact⟨fun h5=>hc (.inl h5),by cases e with|true=>rfl|false=>exact absurd (.inr (.inr rfl)) hc⟩
   have hr:∀ x∈r,qs x.1≠5∧x.2=true:=by
    split at h
    ·exact qg8 r _ _ _ _ _ h
    ·split at h
     ·exact qg8 r _ _ _ _ _ h
     ·exact qg8 r _ _ _ _ _ h
   intro x hx'
   rcases List.mem_cons.1 hx' with rfl|hx'
   ·exact hx
   ·exact hr x hx'
theorem qzb {text:qe} (h:(wx text).1=none):∀ x∈vm text,begF x.1=false∧x.2=true:=fun x hx=>by
 rw [← qel] at h
 obtain⟨h1,h2⟩:=qg8 _ _ _ _ _ _ h x hx
 exact⟨by simp [begF,h1],h2⟩
theorem qie {n:Nat} {fig l:qe} (hf:qco fig) (h:l <+: qbf n fig) (hne:l≠[]):begF l=true:=by
 have h10:10∉l:=qry h (qfn n hf)
 have h58:(58:UInt8)∉l:=qry h fun h'=>by
  unfold qbf at h'
  rcases List.mem_append.1 h' with h'|h'
  ·revert h';decide
  ·rcases List.mem_append.1 h' with h'|h'
   ·exact qqi n (by decide) h'
   ·rcases List.mem_cons.1 h' with h'|h'
    ·simp at h'
    ·exact qlo hf (by decide) h'
 obtain⟨c,q,rfl⟩:=List.exists_cons_of_ne_nil hne
 have hc:c=37:=by
  obtain⟨t,ht⟩:=h
  unfold qbf y4 at ht
  exact (List.cons.inj ht).1
 subst hc
 have hk:=qnk h10 (fun hb=>by
  have:=hb 37 (by simp)
  revert this
  decide)
 simp only [begF,List.head?_cons,true_and,decide_eq_true_eq]
 rw [hk.2]
 rw [if_neg (by simp),if_neg (by simp [yo]),if_neg (fun h=>h58 h.1)]
theorem q3o {n:Nat} {fig body l:qe} (hf:qco fig) (h:l <+: recL n fig body) (hne:l≠[]):begF (upto 10 l)=true:=by
 rcases qtm (show l <+: qbf n fig++10::(body++qhb n) from h) with h | ⟨r,rfl,hr⟩
 ·rw [qe1 (qry h (qfn n hf))]
  exact qie hf h hne
 ·cases r with
  |nil=>
   rw [List.append_nil,qe1 (qfn n hf)]
   exact qie hf (List.prefix_refl _) (by simp [qbf,y4])
  |cons c r=>
   have:c=10:=by obtain⟨t,ht⟩:=hr;exact (List.cons.inj ht).1
   subst this
   rw [qa9 _ (qfn n hf)]
   exact qie hf (List.prefix_refl _) (by simp [qbf,y4])
theorem q9f {b:qe} (x:qe) (hg:qf7 b):begF (upto 10 (recF b++x))=true:=by
 rw [zav]
 have hx:qco (sumF b):=qyz (addP 0 b)
 unfold recL
 rw [List.append_assoc,List.cons_append,qa9 _ (qfn _ hx)]
 exact qie hx (List.prefix_refl _) (by simp [qbf,y4])
theorem q4l:∀ (n:Nat) (l:qe) (k a:Nat),l.length≤n→∀ x∈y6 k a l,x.text.length≤l.length
 |n,l,k,a,hn,x,hx=>by
  by_cases h:l=[]
  ·subst h;rw [qd4] at hx;simp at hx
  ·have hlt:=qat (c:=10) h
   cases n with
   |zero=>omega
   |succ n=>
    rw [qdq h] at hx
    rcases List.mem_cons.1 hx with rfl|hx
    ·exact qct 10 l
    ·have:=q4l n (past 10 l) (k+1) (a+(upto 10 l).length+1) (by omega) x hx
     omega
structure qfe where
 gen:Int
 base:qe
 batches:List (List zh)
 ends : List Int
 tail:qe
def q05:qfe:=⟨0,[],[],[],[]⟩
def wc (text:qe):ErrV:=if 60000<text.length then .num 1 else match (wx text).1 with
 |none=>.no
 |some (a,n)=>.at' a n
def qur:Nat→qe→Int→List (List zh)→List Int→Bool×List (List zh)×List Int×qe
 | 0,l,_,bs,es=>(false,bs,es,l)
 |f+1,l,a,bs,es=>
  if (qcb l).1=2 then (false,bs,es,l)
  else if (qcb l).1=1 then match decF (qcb l).2.1 with
   |some b=>qur f (l.drop (qcb l).2.2.toNat) (a+(qcb l).2.2) (bs++[b]) (es++[a+(qcb l).2.2])
   |none=>(true,bs,es,l)
  else (true,bs,es,l)
def qqy (text:qe):qe:=(qcj text).2
def atH (text:qe):Nat:=q3p (qqy text).length (qqy text)
def q8x (text:qe):qe:=(qqy text).take (atH text)
def qqt (text:qe):Bool×List (List zh)×List Int×qe:=qur (text.length+1) ((qqy text).drop (atH text)) (((text.length - (qqy text).length+atH text:Nat)):Int) [] []
def q8y (text:qe):ErrV×qfe:=
 if 120000<text.length then (.num 1,q05)
 else match wc (q8x text) with
  | .no=>if (qqt text).1=true then (.at' (qqt text).2.1.length 10,q05) else (.no,⟨(qcj text).1,q8x text,(qqt text).2.1,(qqt text).2.2.1,(qqt text).2.2.2⟩)
  |e=>(e,q05)
structure qmi (b:List zh):Prop where
 ok:eErr b = .no
 B:∀ x∈b,EdB x
 len:(encF b).length≤50000
theorem qmi.good {b:List zh} (h:qmi b):qf7 (encF b):=q3y h.ok h.B h.len
def recE (b:List zh):qe:=recF (encF b)
def qb0 (bs:List (List zh)):qe:=bs.flatMap recE
def qer (a:Int):List (List zh)→List Int
 | []=>[]
 |b::r=>(a+(recE b).length)::qer (a+(recE b).length) r
theorem qki (b:List zh) (r:List (List zh)):qb0 (b::r)=recE b++qb0 r:=rfl
theorem q19 (r:List (List zh)) (b:List zh):qb0 (r++[b])=qb0 r++recE b:=by simp [qb0]
theorem qpx:∀ (r:List (List zh)) (a:Int) (b:List zh),qer a (r++[b])=qer a r++[a+(qb0 r).length+(recE b).length]
 | [],a,b=>by simp [qer,qb0]
 |x::r,a,b=>by
  rw [List.cons_append,qer,qer,qpx r,qki]
  simp
  omega
theorem qpw:∀ (r:List (List zh)) (a:Int),r≠[]→(qer a r).getLast? = some (a+(qb0 r).length)
 | [],_,h=>absurd rfl h
 | [x],a,_=>by simp [qer,qb0]
 |x::y::r,a,_=>by
  have:=qpw (y::r) (a+(recE x).length) (by simp)
  rw [qer,List.getLast?_cons]
  rw [this,qki x]
  simp
  omega
structure qdb (text:qe) (b:qfe):Prop where
 txt:text=qcz b.gen++(b.base++(qb0 b.batches++b.tail))
 gen:qcj text=(b.gen,b.base++(qb0 b.batches++b.tail))
 parse:wc b.base = .no
 good:∀ x∈b.batches,qmi x
 tail:(qcb b.tail).1=2
 ends : b.ends = qer ((qcz b.gen).length + b.base.length) b.batches
 len:text.length≤120000
def BegP (x:qe):Prop:=x=[]∨begF (upto 10 x)=true
theorem q3n {t:qe} (h:(qcb t).1=2):BegP t:=by
 by_cases h0:t=[]
 ·exact .inl h0
 ·obtain⟨n,fig,body,R,hp,_⟩:=zap h
  obtain⟨_,_,_,_,_,hx⟩:=R
  exact .inr (q3o hx hp h0)
theorem q3m {bs:List (List zh)} {t:qe} (hg:∀ b∈bs,qmi b) (h:(qcb t).1=2):BegP (qb0 bs++t):=by
 cases bs with
 |nil=>exact q3n h
 |cons b r=>
  refine .inr ?_
  rw [qki,List.append_assoc]
  exact q9f _ (hg b (by simp)).good
theorem q3l {x:qe} (h:BegP x):x=[]∨x.head? = some 37:=by
 rcases h with h|h
 ·exact .inl h
 ·simp only [begF,decide_eq_true_eq] at h
  cases x with
  |nil=>exact .inl rfl
  |cons c r=>
   refine .inr ?_
   have h1:=h.1
   unfold upto at h1
   by_cases hc:c=10
   ·subst hc;simp at h1
   ·simpa [hc] using h1
theorem qxd {l:qe} (h:wc l = .no):(∀ p∈vm l,begF p.1=false∧p.2=true)∧l.length≤60000:=by
 unfold wc at h
 split at h
 ·simp at h
 ·split at h
  ·rename_i hp
   exact⟨qzb hp,by omega⟩
  ·simp at h
def qdw (b:qfe):qe:=qcz b.gen++(b.base++qb0 b.batches)
def qmd (b:qfe):Int:=match b.ends.getLast? with
 |some e=>e
 |none=>((qcz b.gen).length+b.base.length:Nat)
theorem qdb.split {text:qe} {b:qfe} (h:qdb text b):text=qdw b++b.tail:=by
 have:=h.txt
 unfold qdw
 simpa using this
theorem qdb.whole {text:qe} {b:qfe} (h:qdb text b):qmd b=((qdw b).length:Int):=by
 unfold qmd
 rw [h.ends]
 by_cases h0:b.batches=[]
 ·rw [h0]
  simp [qer,qdw,h0,qb0]
 ·rw [qpw _ _ h0]
  simp [qdw]
  omega
theorem qdb.take {text:qe} {b:qfe} (h:qdb text b):text.take (qmd b).toNat=qdw b:=by
 rw [h.whole,Int.toNat_natCast]
 conv=>lhs;rw [h.split]
 rw [List.take_left]
theorem q1o {l:qe} (h:l≠[]) (hp:∀ p∈vm l,p.2=true):l.getLast? = some 10:=by
 have:∀ (k:Nat) (l:qe),l.length≤k→l≠[]→(∀ p∈vm l,p.2=true)→l.getLast? = some 10:=by
  intro k
  induction k with
  |zero=>intro l hl h0;exact absurd (List.length_eq_zero_iff.1 (by omega)) h0
  |succ k ih=>
   intro l hl h0 hp
   rw [qbb h0] at hp
   have h10:10∈l:=by simpa using hp _ (List.mem_cons_self ..)
   have e:=qbr h10
   by_cases hq:past 10 l=[]
   ·rw [hq] at e
    rw [e]
    simp
   ·have:=ih (past 10 l) (by have:=qat (c:=10) h0;omega) hq fun p hp'=>hp p (by simp [hp'])
    rw [e]
    rw [List.getLast?_append,List.getLast?_cons,this]
    simp
 exact this _ l (Nat.le_refl _) h hp
theorem q9z {l x:qe} {n:Int} (h:∀ p∈vm l,p.2=true) (hx:x=[]∨x.head? = some 37) (hp:qdf n <+: l++x):qdf n <+: l:=by
 rcases qtm hp with h1 | ⟨r,h1,hr⟩
 ·exact h1
 ·by_cases hr0:r=[]
  ·rw [h1,hr0,List.append_nil]
   exact List.prefix_refl _
  ·exfalso
   obtain⟨c,q,rfl⟩:=List.exists_cons_of_ne_nil hr0
   have hc:c=37:=by
    obtain⟨t,ht⟩:=hr
    rcases hx with rfl|hx
    ·simp at ht
    ·rw [← ht] at hx
     simpa using hx
   subst hc
   by_cases hl:l=[]
   ·rw [hl] at h1
    simp [qdf,genL] at h1
   ·have hlast:=q1o hl h
    obtain⟨q0,hq0⟩:∃ q0,l=q0++[10]:=by
     have:=qyu hlast
     exact⟨_,this.symm⟩
    have e:genL++Lib.itoa n++10::[10]=q0++10::(37::q):=by
     have:=h1
     unfold qdf at this
     rw [hq0] at this
     simpa using this
    have hu10:10∉genL++Lib.itoa n:=by
     intro h
     rcases List.mem_append.1 h with h|h
     ·revert h;decide
     ·exact qp8 n h
    have hA:=qa9 (c:=10) [10] hu10
    have hB:=qbx (c:=10) [10] hu10
    rw [e] at hA hB
    by_cases hq10:10∈q0
    ·have e2:=qbr hq10
     have e3:q0++10::(37::q)=upto 10 q0++10::(past 10 q0++10::(37::q)):=by
      conv=>lhs;rw [e2]
      simp
     rw [e3,qbx _ (qca 10 q0)] at hB
     have:=congrArg List.length hB
     simp at this
     omega
    ·rw [qbx _ hq10] at hB
     simp at hB
theorem q2n {l x y:qe} (h:∀ p∈vm l,p.2=true) (hx:qcj (l++x)=(0,l++x)) (hy:y=[]∨y.head? = some 37):qcj (l++y)=(0,l++y):=by
 refine qtr fun n r hg e=>?_
 obtain⟨t,ht⟩:=q9z (n:=n) h hy ⟨r,e.symm⟩
 have:qcj (l++x)=(n,t++x):=by rw [← ht,List.append_assoc,qks hg]
 rw [hx] at this
 have h0:(0:Int)=n:=(Prod.mk.inj this).1
 have:=hg.1
 omega
theorem qdb.gen0 {text:qe} {b:qfe} (h:qdb text b):b.gen=0∨qfm b.gen:=by
 have:=(qzm text).2
 rw [h.gen] at this
 exact this
theorem qdb.other {text:qe} {b:qfe} (h:qdb text b) {bs:List (List zh)} {t:qe} (hg:∀ x∈bs,qmi x) (ht:(qcb t).1=2) (hlen:(qcz b.gen++(b.base++(qb0 bs++t))).length≤120000) :
  qdb (qcz b.gen++(b.base++(qb0 bs++t))) ⟨b.gen,b.base,bs,qer ((qcz b.gen).length+b.base.length) bs,t⟩:=by
 refine⟨rfl,?_,h.parse,hg,ht,rfl,hlen⟩
 rcases h.gen0 with h0|h0
 ·have hgen:=h.gen
  have htext:=h.txt
  have e:qcz b.gen=[]:=by unfold qcz;rw [if_neg (by rw [h0];decide)]
  rw [e,List.nil_append] at htext ⊢
  rw [h0,htext] at hgen
  simp only
  rw [h0]
  exact q2n (fun p hp=>((qxd h.parse).1 p hp).2) hgen (q3l (q3m hg ht))
 ·have e:qcz b.gen=qdf b.gen:=by unfold qcz;rw [if_pos h0]
  simp only
  rw [e,qks h0]
theorem q74:qcb []=(2,[],0):=by
 unfold qcb qh1
 rw [if_neg (by simp),if_pos]
 rw [if_neg (by decide)]
 decide
theorem qdb.more {text:qe} {b:qfe} (h:qdb text b) {x:List zh} (hx:qmi x) (hl:(qdw b++recE x).length≤120000):qdb (qdw b++recE x) { b with batches:=b.batches++[x],ends:=b.ends++[qmd b+(recE x).length],tail:=[] }:=by
 have e:qcz b.gen++(b.base++(qb0 (b.batches++[x])++[]))=qdw b++recE x:=by simp [qdw,q19]
 have:=h.other (bs:=b.batches++[x]) (t:=[]) (fun y hy=>by
  rcases List.mem_append.1 hy with hy|hy
  ·exact h.good y hy
  ·obtain rfl:=List.mem_singleton.1 hy
   exact hx) (by rw [q74]) (by rw [e];exact hl)
 rw [e,qpx,← h.ends] at this
 have hw:((qcz b.gen).length+b.base.length+(qb0 b.batches).length+(recE x).length:Int)=qmd b+(recE x).length:=by
  rw [h.whole]
  simp [qdw]
  omega
 rw [hw] at this
 exact this
end Go.Pl
namespace Go.Proofs.YtneejjefekdgjaaGreatDoor
open Go Go.Av Go.RowKit Go.Proofs Go.Pl
@[reducible] def qfo (L : List LnV) : AV := .sl 1 (L.map fun x => Iv (qs x.text)) none
def qga (L:List LnV):Nat→Bool
 | 0=>false
 |j+1=>match L[j]? with
  |some x=>decide (qs x.text=4∨qs x.text=3)
  |none=>false
theorem qio {L:List LnV} {i:Nat} {x:LnV} (h:L[i]? = some x):(L.map fun x=>Iv (qs x.text))[i]? = some (Iv (qs x.text)):=by simp [h]
theorem qjj {L:List LnV} {i:Nat} {x:LnV} (h:L[i]? = some x):(L.map lnA)[i]? = some (lnA x):=by simp [h]
theorem qub (L:List LnV) (i:Nat) (st:List AObj) (hi:i≤L.length) (hL:L.length<1000000):qp E 222 [qfo L,Iv i] st fun r st'=>r=Bv (qga L i)∧st'=st:=by
 refine z0 [.a (qfo L),.i i] (qy _) Tryz.func222 rfl rfl (fun _=>rfl) rfl fun S0=>?_
 cases i with
 |zero=>
  apply qg []
  repeat' (first|apply And.intro|(intro h;try exact cDd)|exact cSd|apply qd []|refine exr ?_|refine qh ?_)
 |succ j=>
  obtain⟨x,hx⟩:∃ x,L[j]? = some x:=⟨_,List.getElem?_eq_getElem (by omega)⟩
  have hget:=qio hx
  have hp:qga L (j+1)=decide (qs x.text=4∨qs x.text=3):=by simp only [qga,hx]
  rw [hp]
  apply qg []
  repeat' (first|apply And.intro|(intro h;try exact cDd)|(refine Exists.intro (j) ⟨by omega,_,hget,?_⟩)|exact cSd|apply qd []|refine exr ?_|refine qh ?_)
  all_goals (simp [*];done)
theorem qsx {L:List LnV} {k:Nat} {x:LnV} (h:L[k]? = some x):(L.drop k).map qdh=(x.text,x.ended)::(L.drop (k+1)).map qdh:=by
 obtain⟨hlt,he⟩:=List.getElem?_eq_some_iff.1 h
 rw [List.drop_eq_getElem_cons hlt,he]
 rfl
def qgc (L:List LnV) (i:Nat) (x:LnV):List qe:=x.text::wm ((L.drop (i+1)).map qdh)
theorem qws:∀ (r:List (qe×Bool)),(wm r).length≤r.length
 | []=>by simp [wm]
 |(t,e)::r=>by
  have:=qws r
  rw [wm]
  split <;> simp <;> omega
theorem qwt:∀ {r:List (qe×Bool)} {n:Nat},(∀ p∈r,p.1.length≤n)→∀ s∈wm r,s.length≤n
 | [],_,_,s,hs=>by simp [wm] at hs
 |(t,e)::r,n,h,s,hs=>by
  rw [wm] at hs
  split at hs
  ·rcases List.mem_cons.1 hs with rfl|hs
   ·exact h (s,e) (by simp)
   ·exact qwt (fun p hp=>h p (by simp [hp])) s hs
  ·simp at hs
structure LnsB (L:List LnV):Prop where
 len:L.length<100000
 val:∀ x∈L,x.text.length<100000
theorem LnsB.said {L:List LnV} (h:LnsB L) {i:Nat} {x:LnV} (hx:L[i]? = some x):LsB (qgc L i x):=by
 have h1:=qws ((L.drop (i+1)).map qdh)
 have h2:=h.len
 have h3:=h.val x (List.mem_of_getElem? hx)
 refine⟨?_,fun s hs=>?_⟩
 ·unfold qgc
  simp at h1 ⊢
  omega
 ·rcases List.mem_cons.1 hs with rfl|hs
  ·omega
  ·have:=qwt (n:=100000) (fun p hp=>by
    obtain⟨y,hy,rfl⟩:=List.mem_map.1 hp
    have:=h.val y (List.mem_of_mem_drop hy)
    simp only [qdh]
    omega) s hs
   omega
theorem qnr (L:List LnV) (i:Nat) (x:LnV) (st:List AObj) (hL:LnsB L) (hx:L[i]? = some x):qp E 141 [lnsA L,qfo L,Iv i] st fun r st'=>r=Ss (qgc L i x)∧st'=st:=by
 refine z0 [.a (lnsA L),.a (qfo L),.i i] (qmv _) Tryz.func141 rfl rfl (fun _=>rfl) rfl fun S0=>?_
 have hLl:=hL.len
 have hil:=lt_of_getElem? hx
 have hget:=qjj hx
 have hml:(L.map lnA).length=L.length:=by simp
 apply qg [14]
 repeat' (first|apply And.intro|(intro h;try exact cDd)|(refine Exists.intro (i) ⟨by omega,_,hget,?_⟩)|exact cSd|apply qd [14]|refine exr ?_|refine qh ?_)
 refine zw (X:=Nat×List qe) (fun (k,acc)=>⟨[(0,.a (lnsA L)),(1,.a (qfo L)),(7,.tp 0),(8,.i k)],[(0,some (.tip 1 9 (acc.map fun x=>Sv x)))],1⟩) (fun (k,acc)=>i+1≤k∧k≤L.length∧acc++wm ((L.drop k).map qdh)=qgc L i x∧acc.length≤k) (fun (k,_)=>L.length - k) (i+1,[x.text]) ⟨by omega,by omega,rfl,by simp⟩ ?_ ?_
 ·skip
  repeat' (first|apply And.intro|(intro h;try exact cDd)|exact cSd|apply qd []|refine exr ?_|refine qh ?_)
  all_goals (simp;done)
 ·rintro⟨k,acc⟩ ⟨hk1,hk2,hacc,hal⟩
  have hmc:(acc.map fun x=>Sv x).length=acc.length:=by simp
  by_cases hk:k<L.length
  ·obtain⟨y,hy⟩:∃ y,L[k]? = some y:=⟨_,List.getElem?_eq_getElem hk⟩
   have hgy:=qjj hy
   have hky:=qio hy
   rw [qsx hy] at hacc
   by_cases h3:qs y.text=3
   ·rw [qf9 h3] at hacc
    apply qg []
    repeat' (first|apply And.intro|(intro h;try exact cDd)|(refine Exists.intro (k) ⟨by omega,_,hgy,?_⟩)|(refine Exists.intro (k) ⟨by omega,_,hky,?_⟩)|(refine Exists.intro (k+1,acc++[y.text]) ⟨⟨by omega,by omega,by simpa using hacc,by simp;omega⟩,by simp only;omega,?_⟩)|exact cSd|apply qd []|refine exr ?_|refine qh ?_)
    all_goals (simp;done)
   ·rw [qka h3,List.append_nil] at hacc
    rw [← hacc]
    apply qg []
    repeat' (first|apply And.intro|(intro h;try exact cDd)|(refine Exists.intro (k) ⟨by omega,_,hky,?_⟩)|exact cSd|apply qd []|refine exr ?_|refine qh ?_)
  ·rw [List.drop_eq_nil_of_le (by omega),List.map_nil,wm,List.append_nil] at hacc
   rw [← hacc]
   apply qg []
   repeat' (first|apply And.intro|(intro h;try exact cDd)|exact cSd|apply qd []|refine exr ?_|refine qh ?_)
theorem qxr (L:List LnV) (i:Nat) (x:LnV) (n:Nat) (rec:Int) (st:List AObj) (hL:LnsB L) (hx:L[i]? = some x):qp E 139 [lnsA L,qfo L,Iv i,Iv n,Iv rec] st fun r st'=>r=Iv (wp (qga L i) x.text x.ended ((L.drop (i+1)).map qdh) n rec)∧st'=st:=by
 refine z0 [.a (lnsA L),.a (qfo L),.i i,.i n,.i rec] (qy _) Tryz.func139 rfl rfl (fun _=>rfl) rfl fun S0=>?_
 have hLl:=hL.len
 have hil:=lt_of_getElem? hx
 have hgy:=qjj hx
 have hky:=qio hx
 have hbe:=fun st=>qub L i st (by omega) (by omega)
 have hsa:=fun st=>qnr L i x st hL hx
 have hun:=fun st=>ql8 (qgc L i x) st (hL.said hx)
 unfold qc0 at hun
 unfold wp
 have hsd:x.text::wm ((L.drop (i+1)).map qdh)=qgc L i x:=rfl
 rw [hsd]
 generalize qga L i=pv at *
 generalize qgc L i x=sl at *
 generalize (jp sl).2=u at *
 obtain⟨xn,xa,xt,xe⟩:=x
 dsimp only at *
 apply qg []
 repeat' (first|apply And.intro|(intro h;try exact cDd)|(refine Exists.intro (i) ⟨by omega,_,hky,?_⟩)|(refine Exists.intro (i) ⟨by omega,_,hgy,?_⟩)|exact⟨Tryz.call222⟩|refine cpe hbe ?_|exact⟨Tryz.call141⟩|refine cpe hsa ?_|exact⟨Tryz.call140⟩|refine cpe hun ?_|exact cSd|apply qd []|refine exr ?_|refine qh ?_)
 all_goals clear hbe hsa hun hgy hky
 all_goals (simp_all <;> omega)
@[reducible] def qg1 (es : List Int) : AV := .sl 1 (es.map fun x => Iv x) none
theorem qdt {a b c:AV} (h1:Pure a) (h2:Pure b) (h3:Pure c):Pure (.tu [a,b,c]):=qd9 fun z hz=>by
 simp only [List.mem_cons,List.not_mem_nil,or_false] at hz
 rcases hz with rfl|rfl|rfl
 ·exact h1
 ·exact h2
 ·exact h3
def qcc (text:qe):AV:=if 60000<text.length then .tu [x5 [],Iv (-9),Iv 1] else match (wx text).1 with
 |some e=>.tu [x5 [],Iv e.1,Iv e.2]
 |none=>.tu [x5 (wx text).2,Iv (-9),Iv 0]
theorem qr0 (text:qe):Pure (qcc text):=by
 unfold qcc
 split
 ·exact qdt (qce _) (qy _) (qy _)
 ·split
  ·exact qdt (qce _) (qy _) (qy _)
  ·exact qdt (qce _) (qy _) (qy _)
theorem q17 {L:List LnV} {k:Nat} {x:LnV} (h:L[k]? = some x):qga L (k+1)=decide (qs x.text=4∨qs x.text=3):=by simp only [qga,h]
set_option maxHeartbeats 2000000 in
theorem ql7 (text:qe) (st:List AObj) (hl:text.length<1000000):qp E 78 [Sv text] st fun r st'=>r=qcc text∧st'=st:=by
 refine z0 [.s text] (qr0 text) Tryz.func78 rfl rfl (fun _=>rfl) rfl fun S0=>?_
 by_cases hbig:60000<text.length
 ·have e:qcc text = .tu [x5 [],Iv (-9),Iv 1]:=if_pos hbig
  rw [e]
  apply qg []
  repeat' (first|apply And.intro|(intro h;try exact cDd)|exact cSd|apply qd []|refine exr ?_|refine qh ?_)
 have hRA:qcc text=match (wx text).1 with
  |some e=>.tu [x5 [],Iv e.1,Iv e.2]
  |none=>.tu [x5 (wx text).2,Iv (-9),Iv 0]:=if_neg hbig
 rw [hRA]
 clear hRA
 obtain⟨L,hL⟩:∃ L,L=lns text:=⟨_,rfl⟩
 have hLl:L.length≤text.length:=by rw [hL];exact qiq _ text 0 0 (Nat.le_refl _)
 have hLB:LnsB L:=⟨by omega,fun x hx=>by have:=q4l _ text 0 0 (Nat.le_refl _) x (by rw [hL] at hx;exact hx);omega⟩
 have hrun:refL 0 ((L.drop 0).map qdh) (qga L 0) ⟨2,[],[]⟩ 0 []=wx text:=by
  rw [List.drop_zero,hL,q4m]
  exact qel text
 have hml:(L.map lnA).length=L.length:=by simp
 have hspl:∀ st,qp E 137 [Sv text] st fun r st'=>r=lnsA L∧st'=st:=fun st=>by rw [hL];exact q2h text st (by omega)
 clear hL
 generalize wx text=PF at hrun
 apply qg []
 repeat' (first|apply And.intro|(intro h;try exact cDd)|exact⟨Tryz.call137⟩|refine cpe hspl ?_|exact cSd|apply qd []|refine exr ?_|refine qh ?_)
 refine zw (X:=Nat) (fun k=>⟨[(5,.a (lnsA L)),(6,.tp 0),(7,.i k)],[(0,some (.tip 1 3 ((L.take k).map fun x=>Iv (qs x.text))))],1⟩) (fun k=>k≤L.length) (fun k=>L.length - k) 0 (by omega) ?_ ?_
 ·skip
  repeat' (first|apply And.intro|(intro h;try exact cDd)|exact cSd|apply qd []|refine exr ?_|refine qh ?_)
 ·intro k hk
  by_cases hkl:k<L.length
  ·obtain⟨x,hx⟩:∃ x,L[k]? = some x:=⟨_,List.getElem?_eq_getElem hkl⟩
   have hgx:=qjj hx
   have hxl:=hLB.val x (List.mem_of_getElem? hx)
   have hkd:=fun st=>qis x.text st (by omega)
   apply qg []
   repeat' (first|apply And.intro|(intro h;try exact cDd)|(refine Exists.intro _ ⟨rfl,_,hgx,?_⟩)|exact⟨Tryz.call138⟩|refine cpe hkd ?_|(refine Exists.intro (k+1) ⟨by omega,by omega,?_⟩)|exact cSd|apply qd []|refine exr ?_|refine qh ?_)
   rw [List.take_add_one,hx]
   simp
  ·have e:L.take k=L:=List.take_of_length_le (by omega)
   apply qg []
   repeat' (first|apply And.intro|(intro h;try exact cDd)|exact cSd|apply qd []|refine exr ?_|refine qh ?_)
   refine zw (X:=Nat×zq×Int×List zq) (fun (k,⟨nk,nr,nf⟩,rec,out)=>⟨[(5,.a (lnsA L)),(6,.a (qfo L)),(8,.tp 0),(9,.bx 1 0),(10,.i rec),(11,.i k)],
     [(0,some (.tip 3 52 (out.map xf))),(1,some (.cells 52 [.i nk,.s nr,.tp 2])),(2,some (.tip 2 111 (nf.map fldA)))],3⟩)
    (fun (k,now,rec,out)=>k≤L.length∧refL k ((L.drop k).map qdh) (qga L k) now rec out=PF∧0≤rec∧rec≤k∧out.length≤2 * k∧now.fields.length≤k∧now.raw.length≤200000 * k) (fun x=>L.length - x.1) (0,⟨2,[],[]⟩,0,[])
    ⟨by omega,hrun,by omega,by omega,by simp,by simp,by simp⟩ ?_ ?_
   ·skip
    repeat' (first|apply And.intro|(intro h;try exact cDd)|(refine qh ?_;rw [e])|exact cSd|apply qd []|refine exr ?_|refine qh ?_)
   ·rintro⟨j,⟨nk,nr,nf⟩,rec,out⟩ ⟨hj,hR,hr0,hr1,hol,hfl,hrl⟩
    simp only at hfl hrl
    by_cases hjl:j<L.length
    ·obtain⟨x,hx⟩:∃ x,L[j]? = some x:=⟨_,List.getElem?_eq_getElem hjl⟩
     have hgx:=qjj hx
     have hkx:=qio hx
     have hxl:=hLB.val x (List.mem_of_getElem? hx)
     have hwr:∀ st,qp E 139 [lnsA L,qfo L,Iv j,Iv ((nf.map fldA).length:Nat),Iv rec] st fun r st'=>r=Iv (wp (qga L j) x.text x.ended ((L.drop (j+1)).map qdh) nf.length rec)∧st'=st:=fun st=>by rw [List.length_map];exact qxr L j x nf.length rec st hLB hx
     have hsa:=fun st=>qnr L j x st hLB hx
     have hun:=fun st=>ql8 (qgc L j x) st (hLB.said hx)
     unfold qc0 at hun
     have hpv:=q17 hx
     have hsd:x.text::wm ((L.drop (j+1)).map qdh)=qgc L j x:=rfl
     rw [qsx hx,refL,hsd] at hR
     simp only at hR
     by_cases h1:qs x.text=1
     ·apply qg []
      repeat' (first|apply And.intro|(intro h;try exact cDd)|(refine Exists.intro _ ⟨rfl,_,hgx,?_⟩)|(refine Exists.intro _ ⟨rfl,_,hkx,?_⟩)|exact⟨Tryz.call139⟩|refine cpe hwr ?_|exact⟨Tryz.call141⟩|refine cpe hsa ?_|exact⟨Tryz.call140⟩|refine cpe hun ?_|(rw [if_pos (by assumption)] at hR;rw [← hR];exact qmz _)|(refine Exists.intro (j+1,⟨2,[],[]⟩,rec,outR ⟨nk,nr,nf⟩ out++[⟨1,x.text++[10],[]⟩]) ⟨?_,by simp only;omega,?_⟩)|exact cSd|apply qd []|refine exr ?_|refine qh ?_)
      all_goals first|grind [outR]|(simp [outR,xf, *] at hR ⊢;done)|(simp [outR,xf, *] at hR ⊢;omega)
     ·by_cases h4:qs x.text=4
      ·apply qg []
       repeat' (first|apply And.intro|(intro h;try exact cDd)|(refine Exists.intro _ ⟨rfl,_,hgx,?_⟩)|(refine Exists.intro _ ⟨rfl,_,hkx,?_⟩)|exact⟨Tryz.call139⟩|refine cpe hwr ?_|exact⟨Tryz.call141⟩|refine cpe hsa ?_|exact⟨Tryz.call140⟩|refine cpe hun ?_|(rw [if_pos (by assumption)] at hR;rw [← hR];exact qmz _)|(refine Exists.intro (j+1,⟨3,nr++x.text++[10],nf++[(jp (qgc L j x)).1]⟩,if nk=2 then rec+1 else rec,out) ⟨?_,by simp only;omega,?_⟩)|exact cSd|apply qd []|refine exr ?_|refine qh ?_)
       all_goals first|grind [outR]|(simp [outR,xf, *] at hR ⊢;done)|(simp [outR,xf, *] at hR ⊢;omega)
      ·apply qg []
       repeat' (first|apply And.intro|(intro h;try exact cDd)|(refine Exists.intro _ ⟨rfl,_,hgx,?_⟩)|(refine Exists.intro _ ⟨rfl,_,hkx,?_⟩)|exact⟨Tryz.call139⟩|refine cpe hwr ?_|exact⟨Tryz.call141⟩|refine cpe hsa ?_|exact⟨Tryz.call140⟩|refine cpe hun ?_|(rw [if_pos (by assumption)] at hR;rw [← hR];exact qmz _)|(refine Exists.intro (j+1,⟨nk,nr++x.text++[10],nf⟩,rec,out) ⟨?_,by simp only;omega,?_⟩)|exact cSd|apply qd []|refine exr ?_|refine qh ?_)
       all_goals first|grind [outR]|(simp [outR,xf, *] at hR ⊢;done)|(simp [outR,xf, *] at hR ⊢;omega)
    ·have e:(L.drop j).map qdh=[]:=by rw [List.drop_eq_nil_of_le (by omega)];rfl
     rw [e,refL] at hR
     rw [← hR]
     apply qg []
     repeat' (first|apply And.intro|(intro h;try exact cDd)|exact cSd|apply qd []|refine exr ?_|refine qh ?_)
     all_goals first|grind [outR]|(simp [outR,xf, *] at hR ⊢;done)|(simp [outR,xf, *] at hR ⊢;omega)
theorem qd3 (es:List Int):Pure (qg1 es):=qc9 fun x hx=>by
 obtain⟨b,_,rfl⟩:=List.mem_map.1 hx
 intro y hy
 simp only [AV.cells,List.mem_cons,List.not_mem_nil,or_false] at hy
 subst hy
 exact qy _
theorem qzj (text:qe) (st:List AObj) (hl:60000<text.length) (h2:text.length<1000000):qp E 23 [Sv text] st fun r st'=>r = .tu [x5 [],errA (.num 1)]∧st'=st:=by
 refine z0 [.s text] (qcg (qce _) (qab _)) Tryz.func23 rfl rfl (fun _=>rfl) rfl fun S0=>?_
 apply qg []
 repeat' (first|apply And.intro|(intro h;try exact cDd)|exact cSd|apply qd []|refine exr ?_|refine qh ?_)
def itsE (text:qe):List zq:=if 60000<text.length then [] else (wx text).2
theorem q5o (text:qe) (st:List AObj) (hl:text.length<1000000):qp E 23 [Sv text] st fun r st'=>r = .tu [x5 (itsE text),errA (wc text)]∧st'=st:=by
 unfold wc itsE
 by_cases hb:60000<text.length
 ·rw [if_pos hb,if_pos hb]
  exact qzj text st hb hl
 ·rw [if_neg hb,if_neg hb]
  have:=q8k text st (by omega)
  unfold qfr at this
  rcases hp:(wx text).1 with _ | ⟨x,y⟩
  ·rw [hp] at this
   exact this
  ·rw [hp] at this
   exact this
theorem qxq (text:qe):∃ its,qcc text = .tu [x5 its,Iv (wc text).pos,Iv (wc text).code]:=by
 unfold qcc wc
 split
 ·exact⟨[],rfl⟩
 ·rcases (wx text).1 with _ | ⟨a,n⟩
  ·exact⟨_,rfl⟩
  ·exact⟨[],rfl⟩
theorem qkk:∀ (r:List (qe×Bool)) (i:Nat) (prev:Bool) (now:zq) (rec:Int) (out:List zq) (e:Int×Int),(refL i r prev now rec out).1=some e→e.2≠0
 | [],i,prev,now,rec,out,e,h=>by simp [refL] at h
 |(t,b)::r,i,prev,now,rec,out,e,h=>by
  rw [refL] at h
  split at h
  ·rename_i hw
   simp only [Option.some.injEq] at h
   subst h
   exact hw
  ·split at h
   ·exact qkk r _ _ _ _ _ e h
   ·split at h
    ·exact qkk r _ _ _ _ _ e h
    ·exact qkk r _ _ _ _ _ e h
theorem qqo {text:qe} {n:Int} (h:wc text = .num n):n=1:=by
 unfold wc at h
 split at h
 ·simpa using h.symm
 ·split at h <;> simp at h
theorem qth {text:qe} {a n:Int} (h:wc text = .at' a n):n≠0:=by
 unfold wc at h
 split at h
 ·simp at h
 ·split at h
  ·simp at h
  ·rename_i a' n' hp
   simp only [ErrV.at'.injEq] at h
   rw [← h.2]
   have:=qel text
   exact qkk _ _ _ _ _ _ (a',n') (by rw [this];exact hp)
theorem q5f (text:qe) (hl:text.length<1000000):∃ its p n,(∀ st,qp E 78 [Sv text] st fun r st'=>r = .tu [x5 its,Iv p,Iv n]∧st'=st)∧p=(wc text).pos∧n=(wc text).code∧(n=0↔wc text = .no):=by
 obtain⟨its,hits⟩:=qxq text
 refine⟨its,_,_,fun st=>by rw [← hits];exact ql7 text st hl,rfl,rfl,?_⟩
 cases hpe:wc text with
 |no=>simp [ErrV.code]
 |num n=>have:=qqo hpe;simp [ErrV.code];omega
 |at' a n=>have:=qth hpe;simp [ErrV.code];omega
theorem q9q (x:List zh):∃ p n,(eErr x).pos=p∧(eErr x).code=n∧(n=0↔eErr x = .no):=⟨_,_,rfl,rfl,qsy x⟩
def qg4:List Fld→Int→Int→Bool
 | [],_,_=>false
 |f::r,i,n=>if 60<i∨6000<n+(min (f.1.length:Int) 10000+min (f.2.length:Int) 10000) then true else qg4 r (i+1) (n+(min (f.1.length:Int) 10000+min (f.2.length:Int) 10000))
def qej:List zh→Int→Bool
 | [],_=>false
 |x::r,i=>if 50<i then true else if qg4 x.fields 0 0=true then true else qej r (i+1)
theorem qqe:∀ (fs:List Fld) (i n:Int),0≤n→n≤6000→0≤i→qg4 fs i n=false→fs.length≤(61 - i).toNat∧∀ f∈fs,f.1.length≤6000∧f.2.length≤6000
 | [],i,n,_,_,_,_=>by simp
 |f::r,i,n,h0,h1,h2,h=>by
  rw [qg4] at h
  split at h
  ·simp at h
  ·obtain⟨g1,g2⟩:=qqe r _ _ (by omega) (by omega) (by omega) h
   simp only [List.length_cons]
   refine⟨by omega,fun g hg=>?_⟩
   rcases List.mem_cons.1 hg with rfl|hg
   ·omega
   ·exact g2 g hg
theorem qnj:∀ (b:List zh) (i:Int),0≤i→qej b i=false→b.length≤(51 - i).toNat∧∀ x∈b,qgs x.fields
 | [],_,_,_=>by simp
 |x::r,i,h0,h=>by
  rw [qej] at h
  split at h
  ·simp at h
  ·split at h
   ·simp at h
   ·rename_i hm
    obtain⟨g1,g2⟩:=qnj r _ (by omega) h
    simp only [List.length_cons]
    refine⟨by omega,fun y hy=>?_⟩
    rcases List.mem_cons.1 hy with rfl|hy
    ·obtain⟨k1,k2⟩:=qqe y.fields 0 0 (by omega) (by omega) (by omega) (by simpa using hm)
     exact⟨by omega,fun f hf=>by have:=k2 f hf;omega⟩
    ·exact g2 y hy
theorem qwh {b:List zh} (h:qej b 0=false):q2z b:=by
 obtain⟨h1,h2⟩:=qnj b 0 (by omega) h
 exact⟨by omega,h2⟩
theorem zan (fs:List Fld) (st:List AObj) (hf:fs.length<9223372036854775808):qp E 87 [kc fs] st fun r st'=>r=Bv (qg4 fs 0 0)∧st'=st:=by
 refine z0 [.a (kc fs)] (qy _) Tryz.func87 rfl rfl (fun _=>rfl) rfl fun S0=>?_
 have hm:(fs.map fldA).length=fs.length:=by simp
 apply qg []
 repeat' (first|apply And.intro|(intro h;try exact cDd)|exact cSd|apply qd []|refine exr ?_|refine qh ?_)
 refine zw (X:=Nat×Int) (fun (k,n)=>⟨[(3,.i n),(6,.a (kc fs)),(7,.i fs.length),(8,.i k)],[],0⟩) (fun (k,n)=>k≤fs.length∧k≤61∧0≤n∧n≤6000∧qg4 (fs.drop k) k n=qg4 fs 0 0) (fun x=>fs.length - x.1) (0,0) ⟨by omega,by omega,by omega,by omega,rfl⟩ ?_ ?_
 ·skip
  repeat' (first|apply And.intro|(intro h;try exact cDd)|exact cSd|apply qd []|refine exr ?_|refine qh ?_)
  all_goals first|(simp;done)
 ·rintro⟨k,n⟩ ⟨hk,hk2,h0,h1,h⟩
  by_cases hc:k<fs.length
  ·obtain⟨f,hx⟩:∃ f,fs[k]? = some f:=⟨_,List.getElem?_eq_getElem hc⟩
   have hg:(fs.map fldA)[k]? = some (fldA f):=by simp [hx]
   have hd:fs.drop k=f::fs.drop (k+1):=by
    obtain⟨hlt,e⟩:=List.getElem?_eq_some_iff.1 hx
    rw [List.drop_eq_getElem_cons hlt,e]
   rw [hd,qg4] at h
   apply qg []
   repeat' (first|apply And.intro|(intro h;try exact cDd)|(refine Exists.intro (k) ⟨by omega,_,hg,?_⟩)|(refine Exists.intro (k+1,n+(min (f.1.length:Int) 10000+min (f.2.length:Int) 10000)) ⟨⟨by omega,by omega,by omega,by omega,?_⟩,by simp only;omega,?_⟩)|exact cSd|apply qd []|refine exr ?_|refine qh ?_)
   all_goals first|grind|(simp;done)
  ·have hd:fs.drop k=[]:=List.drop_eq_nil_of_le (by omega)
   rw [hd,qg4] at h
   apply qg []
   repeat' (first|apply And.intro|(intro h;try exact cDd)|exact cSd|apply qd []|refine exr ?_|refine qh ?_)
   all_goals first|grind|(simp [*];done)
theorem q68 (b:List zh) (st:List AObj) (hb:b.length<9223372036854775808) (hf:∀ x∈b,x.fields.length<9223372036854775808):qp E 42 [ye b] st fun r st'=>r=Bv (qej b 0)∧st'=st:=by
 refine z0 [.a (ye b)] (qy _) Tryz.func42 rfl rfl (fun _=>rfl) rfl fun S0=>?_
 have hm:(b.map qaw).length=b.length:=by simp
 apply qg []
 repeat' (first|apply And.intro|(intro h;try exact cDd)|exact cSd|apply qd []|refine exr ?_|refine qh ?_)
 refine zw (X:=Nat) (fun k=>⟨[(5,.a (ye b)),(6,.i b.length),(7,.i k)],[],0⟩) (fun k=>k≤b.length∧k≤51∧qej (b.drop k) k=qej b 0) (fun x=>b.length - x) 0 ⟨by omega,by omega,rfl⟩ ?_ ?_
 ·skip
  repeat' (first|apply And.intro|(intro h;try exact cDd)|exact cSd|apply qd []|refine exr ?_|refine qh ?_)
  all_goals first|(simp;done)
 ·rintro k ⟨hk,hk2,h⟩
  by_cases hc:k<b.length
  ·obtain⟨x,hx⟩:∃ x,b[k]? = some x:=⟨_,List.getElem?_eq_getElem hc⟩
   have hg:(b.map qaw)[k]? = some (qaw x):=by simp [hx]
   have hd:b.drop k=x::b.drop (k+1):=by
    obtain⟨hlt,e⟩:=List.getElem?_eq_some_iff.1 hx
    rw [List.drop_eq_getElem_cons hlt,e]
   rw [hd,qej] at h
   have hmu:=fun st=>zan x.fields st (hf x (List.mem_of_getElem? hx))
   apply qg []
   repeat' (first|apply And.intro|(intro h;try exact cDd)|exact⟨Tryz.call87⟩|refine cpe hmu ?_|(refine Exists.intro (k) ⟨by omega,_,hg,?_⟩)|(refine Exists.intro (k+1) ⟨⟨by omega,by omega,?_⟩,by omega,?_⟩)|exact cSd|apply qd []|refine exr ?_|refine qh ?_)
   all_goals first|grind|(simp;done)
  ·have hd:b.drop k=[]:=List.drop_eq_nil_of_le (by omega)
   rw [hd,qej] at h
   apply qg []
   repeat' (first|apply And.intro|(intro h;try exact cDd)|exact cSd|apply qd []|refine exr ?_|refine qh ?_)
   all_goals first|grind|(simp [*];done)
end Go.Proofs.YtneejjefekdgjaaGreatDoor
namespace Go.Pl
open Go Go.Proofs
structure EntV where
 x:zq
 id:Int
structure za where
 ents:List EntV
 next:Int
 many:Int
def qas (l:za) (x:zq):za:=if x.kind=3 then⟨l.ents++[⟨x,l.next⟩],l.next+1,l.many+1⟩ else⟨l.ents++[⟨x,0⟩],l.next,l.many⟩
def ofF (its:List zq):za:=its.foldl qas ⟨[],1,0⟩
end Go.Pl
namespace Go.Proofs.YtneejjefekdgjaaGreatDoor
open Go Go.Av Go.RowKit Go.Proofs Go.Pl
@[reducible] def entA (e : EntV) : AV := .ag [Iv e.x.kind, Sv e.x.raw, kc e.x.fields, Iv e.id]
@[reducible] def y3 (l : za) : AV := .pp [.sl 4 (l.ents.map entA) none, Iv l.next, Iv l.many]
def q4k (e:ErrV) (l:za):AV:=match e with
 | .no=>.tu [y3 l,errA .no]
 |e=>.tu [.v (.pointer none),errA e]
theorem qpy (e:EntV):qmj (entA e):=fun y hy=>by
 simp only [AV.cells,List.mem_cons,List.not_mem_nil,or_false] at hy
 rcases hy with rfl|rfl|rfl|rfl
 ·exact qy _
 ·exact qy _
 ·exact qgz _
 ·exact qy _
theorem qqd (l:za):Pure (y3 l):=q0d fun x hx=>by
 simp only [List.mem_cons,List.not_mem_nil,or_false] at hx
 rcases hx with rfl|rfl|rfl
 ·exact qc9 fun x hx=>by
   obtain⟨f,_,rfl⟩:=List.mem_map.1 hx
   exact qpy f
 ·exact qy _
 ·exact qy _
theorem qy7 (e:ErrV) (l:za):Pure (q4k e l):=by
 cases e with
 |no=>exact qcg (qqd l) (qab _)
 |num n=>exact qcg (qy _) (qab _)
 |at' a n=>exact qcg (qy _) (qab _)
theorem qkn:∀ (n:Nat) (rest:qe) (k:Nat) (p:PSt),rest.length≤n→PB (4 * k) p→k+rest.length≤60000→(runL k (vm rest) p).2.items.length≤300000:=by
 have nil:∀ (k:Nat) (p:PSt),PB (4 * k) p→k≤60000→(runL k (vm []) p).2.items.length≤300000:=fun k p hB hk=>by
  have e:ki p 0 [] true 1=endP p:=rfl
  have h:=qh9 (no:=0) (text:=[]) (ended:=true) (kind:=1) hB (by omega) (by simp)
  rw [e] at h
  have e2:runL k (vm []) p=endP p:=by rw [qai];rfl
  rw [e2]
  have:=h.items
  omega
 intro n
 induction n with
 |zero=>
  intro rest k p hr hB hk
  obtain rfl:rest=[]:=List.eq_nil_of_length_eq_zero (by omega)
  exact nil k p hB (by simpa using hk)
 |succ n ih=>
  intro rest k p hr hB hk
  by_cases hne:rest=[]
  ·subst hne
   exact nil k p hB (by simpa using hk)
  ·have hu:=qct 10 rest
   have hpl:=qcf 10 rest
   have hr0:0<rest.length:=List.length_pos_iff.2 hne
   rw [qbb hne]
   simp only [runL]
   have hB2:=qow (no:=k) (text:=upto 10 rest) (ended:=decide (10∈rest)) hB (by omega) (by omega)
   split
   ·have:=hB.items
    simp only
    omega
   ·exact ih (past 10 rest) (k+1) _ (by omega) hB2 (by omega)
theorem qog (text:qe):(itsE text).length≤300000:=by
 unfold itsE
 split
 ·simp
 ·have h:=qkn text.length text 0 p0 (Nat.le_refl _) q13 (by omega)
  unfold wx
  split
  ·simp
  ·exact h
theorem q7f (text:qe) (st:List AObj) (hl:text.length<1000000):qp E 35 [Sv text] st fun r st'=>r=q4k (wc text) (ofF (itsE text))∧st'=st:=by
 refine qxi [.s text] (qy7 _ _) Tryz.func35 rfl rfl (fun _=>rfl) rfl fun S0=>?_
 have hp:=fun st=>q5o text st hl
 have hil:=qog text
 generalize itsE text=its at hp hil
 cases he:wc text with
 |num n=>
  rw [he] at hp
  apply qg [19]
  repeat' (first|apply And.intro|(intro h;try exact cDd)|exact⟨Tryz.call23⟩|refine cpe hp ?_|exact cSd|apply qd [19]|refine exr ?_|refine qh ?_)
 |at' a n=>
  rw [he] at hp
  apply qg [19]
  repeat' (first|apply And.intro|(intro h;try exact cDd)|exact⟨Tryz.call23⟩|refine cpe hp ?_|exact cSd|apply qd [19]|refine exr ?_|refine qh ?_)
 |no=>
  rw [he] at hp
  apply qg [19]
  repeat' (first|apply And.intro|(intro h;try exact cDd)|exact⟨Tryz.call23⟩|refine cpe hp ?_|exact cSd|apply qd [19]|refine exr ?_|refine qh ?_)
  refine zw (X:=Nat×za) (fun (k,l)=>⟨[(6,.bx 0 0),(20,.a (x5 its)),(21,.i its.length),(22,.i k)],[(0,some (.cells 156 [.tp 1,.i l.next,.i l.many])),(1,some (.tip 4 152 (l.ents.map entA)))],2⟩)
   (fun (k,l)=>k≤its.length∧l.ents.length=k∧(1≤l.next∧l.next≤k+1∧0≤l.many∧l.many≤k)∧(its.drop k).foldl qas l=ofF its) (fun (k,l)=>its.length - k) (0,⟨[],1,0⟩) ⟨by omega,rfl,⟨by decide,by decide,by decide,by decide⟩,rfl⟩ ?_ ?_
  ·skip
   repeat' (first|apply And.intro|(intro h;try exact cDd)|exact cSd|apply qd []|refine exr ?_|refine qh ?_)
   all_goals (simp;done)
  ·rintro⟨k,l⟩ ⟨hk,hlk,hnx,hrun⟩
   by_cases hkn:k<its.length
   ·have hx:its[k]? = some its[k]:=List.getElem?_eq_getElem hkn
    have hxm:(its.map xf)[k]? = some (xf its[k]):=by rw [List.getElem?_map,hx];rfl
    rw [List.drop_eq_getElem_cons hkn,List.foldl_cons] at hrun
    have hml:(l.ents.map entA).length=l.ents.length:=by simp
    generalize its[k]=x at hx hxm hrun
    by_cases hk3:x.kind=3
    ·have e:qas l x=⟨l.ents++[⟨x,l.next⟩],l.next+1,l.many+1⟩:=if_pos hk3
     rw [e] at hrun
     apply qg []
     repeat' (first|apply And.intro|(intro h;try exact cDd)|(refine Exists.intro (k) ⟨by omega,_,hxm,?_⟩)|(refine Exists.intro (k+1,⟨l.ents++[⟨x,l.next⟩],l.next+1,l.many+1⟩) ⟨⟨by omega,by simp [hlk],by simp only;omega,hrun⟩,by simp only;omega,?_⟩)|exact cSd|apply qd []|refine exr ?_|refine qh ?_)
     all_goals (simp;done)
    ·have e:qas l x=⟨l.ents++[⟨x,0⟩],l.next,l.many⟩:=if_neg hk3
     rw [e] at hrun
     apply qg []
     repeat' (first|apply And.intro|(intro h;try exact cDd)|(refine Exists.intro (k) ⟨by omega,_,hxm,?_⟩)|(refine Exists.intro (k+1,⟨l.ents++[⟨x,0⟩],l.next,l.many⟩) ⟨⟨by omega,by simp [hlk],by simp only;omega,hrun⟩,by simp only;omega,?_⟩)|exact cSd|apply qd []|refine exr ?_|refine qh ?_)
     all_goals (simp;done)
   ·have hkn:k=its.length:=by omega
    subst hkn
    rw [List.drop_length] at hrun
    have e:ofF its=l:=hrun.symm
    rw [e]
    apply qg []
    repeat' (first|apply And.intro|(intro h;try exact cDd)|exact cSd|apply qd []|refine exr ?_|refine qh ?_)
end Go.Proofs.YtneejjefekdgjaaGreatDoor
namespace Go.Av
open Go Go.RowKit
theorem qiz {E:Env} {rd:Option Nat} {N:Nat} {ops:Array Oper} {K:AS→Prop} {s:AS} {rest:List Oper} {d:Option Tmp} {T:TypeId} {p:String} {af:Array Edge} {x:Operand} {t t' te:TypeId} {sz:Nat} {xs:List AV} {tip:Option Nat} (hx:qj N s x = .sl sz xs tip) (hu:E.P.underlying t=some (.slice te))
  (h1:xs=[]→AOps E rd N ops rest K (s.put d (Bv true))) (h2:AOps E rd N ops rest K (s.put d (Bv false))):AOps E rd N ops (⟨d,.binOp .eql t x (.const (.slice none 0 0)) t',T,p,af,none⟩::rest) K s:=by
 refine q7 rfl (qz nofun fun B0 w0 G a w _ hI=>?_)
 have he:=hI.eval_of hx
 have key:∃ q n c,a.eval x = .slice q n c∧(q.isNone=true→xs=[]):=by
  generalize a.eval x=u at he
  cases he with
  |sl0=>exact⟨_,_,_,rfl,fun _=>rfl⟩
  |sl=>exact⟨_,_,_,rfl,fun h=>by simp at h⟩
 obtain⟨q,n,c,hv,hq0⟩:=key
 have hc:a.eval (.const (.slice none 0 0)) = .slice none 0 0:=rfl
 have hq:=Lib.run_eql_slice_nil (P:=E.P) w t te q n c 0 0 hu
 refine⟨_,w,G,.v (.bool q.isNone),s.st,?_,.refl G,hI.agree,.v _,?_⟩
 ·generalize a.eval = ρ at hv hc
  simp [execOp,hv,hc,eqGuard_at_slice,hq]
 ·cases hb:q.isNone with
  |true=>exact h1 (hq0 hb)
  |false=>exact h2
theorem qc3.len0 {c:AV} (h:qc3 c):∀ (G:Gh) (v:Value),Rel G c v→∃ b n cp,v = .slice b n cp∧n≤cp:=fun G v hv=>by
 obtain⟨base,rfl⟩:=h.val G v hv
 exact⟨_,_,_,rfl,Nat.le_refl _⟩
end Go.Av
namespace Go.Proofs.YtneejjefekdgjaaGreatDoor
open Go Go.Av Go.RowKit Go.Proofs Go.Pl
theorem qgx (fs:List Fld) (st:List AObj) (hl:fs.length<1000000):qp E 71 [kc fs] st fun r st'=>r=kc fs∧st'=st:=by
 refine zi (qgz _) (qt Tryz.func71 rfl (Nat.le_of_ble_eq_true rfl) ?_)
 have hml:(fs.map fldA).length=fs.length:=by simp
 rw [List.append_nil]
 repeat' (first|(apply qev (st:=st);(iterate 6 exact rfl))|(apply qiz;exact rfl;exact rfl;intro h0)|apply qr|apply ql|apply qk|apply qo|apply qm|(apply qc;exact rfl;apply cd_t;exact cRa)|(apply qc;exact rfl;apply cd_f;exact cRa)|apply q8|apply zb|(apply qu6 (b:=st.length) (xs:=[]) (ys:=fs.map fldA) (bytes:=32);(iterate 5 exact rfl);exact⟨⟨_,_,rfl,rfl,rfl,rfl,rfl⟩⟩;(focus (repeat' (first|assumption|exact q8r _ _ _ _|exact zbd _ _ _ _ _ _ _|apply q8s|apply q5y|(refine qbw (T:=_) (ver:=_) (cs:=_) ?_)|exact qbd|exact qbe rfl|apply xg|apply yq|omega|apply qex)));(exact qhf);(first|exact rfl|exact qff fun _=>rfl);((simp [maxLen];omega));((simp;omega));intro c' S' t1 g1 g2 g3 g4))
 ·exact qq rfl (qbn (zf rfl) (fun G v h=>by
   rw [kc,h0]
   exact qbq h)) ⟨rfl,_,(List.append_nil st).symm⟩
 ·exact qq rfl (qbn (zf rfl) (qxs g1)) ⟨rfl,qrl fun j hj=>(g2.same j (by omega) (Nat.lt_of_lt_of_le hj qhf)).trans (List.getElem?_append_left hj)⟩
theorem q08 (es:List EntV) (st:List AObj) (hl:es.length<1000000):qp E 153 [.sl 4 (es.map entA) none] st fun r st'=>OwnR 4 152 (es.map entA) st (.v undef) r st':=by
 refine qt Tryz.func153 rfl (Nat.le_of_ble_eq_true rfl) ?_
 have hml:(es.map entA).length=es.length:=by simp
 rw [List.append_nil]
 by_cases he:es=[]
 ·subst he
  repeat' (first|(apply qev (st:=st);(iterate 6 exact rfl))|(apply qiz;exact rfl;exact rfl;intro h0)|(apply qu5 (c:=.os st.length 0 0 0 0);exact rfl;exact (qlw _ _ _).len0;exact fun _ _ h=>h;exact rfl;exact rfl;exact⟨⟨_,_,rfl,rfl,rfl,rfl,rfl⟩⟩)|apply qr|apply ql|apply qk|apply qo|apply qm|(apply qc;exact rfl;apply cd_t;exact cRa)|(apply qc;exact rfl;apply cd_f;exact cRa)|apply q8|apply zb)
  ·exact qq rfl (zf rfl) ⟨.inl ⟨rfl,qok none⟩,Nat.le_refl _,fun _ _ _=>rfl,fun o ho=>by
   have ho:(none:Option Nat)=some o:=ho
   simp at ho⟩
  ·exact qq rfl (zf rfl) ⟨.inl ⟨rfl,qlw _ _ _⟩,qhf,fun j hj _=>List.getElem?_append_left hj,fun o ho=>by
   have ho:(none:Option Nat)=some o:=ho
   simp at ho⟩
 ·have hne:es.map entA≠[]:=by simpa using he
  repeat' (first|(apply qev (st:=st);(iterate 6 exact rfl))|(apply qiz;exact rfl;exact rfl;intro h0)|(refine qhl (ys:=es.map entA) (bytes:=56) (qlw _ _ _).val (fun _ _ h=>h) rfl rfl ⟨⟨_,_,rfl,rfl,rfl,rfl,rfl⟩⟩ (qff fun _=>rfl) hne (by simp [maxLen];omega) (by simp;omega) fun cap pad q1 q2 q3 q4=>?_)|apply qr|apply ql|apply qk|apply qo|apply qm|(apply qc;exact rfl;apply cd_t;exact cRa)|(apply qc;exact rfl;apply cd_f;exact cRa)|apply q8|apply zb)
  ·exact absurd h0 hne
  ·refine qq rfl (zf rfl) ⟨.inr ⟨_,0,cap,pad,rfl,qbd,q1,q2,q3,q4⟩,Nat.le_trans qhf qhf,fun j hj _=>?_,fun o ho=>?_⟩
   ·show ((st++[_])++[_])[j]? = _
    rw [List.getElem?_append_left (by simp;omega),List.getElem?_append_left hj]
   ·have ho':some (st++[AObj.cells 0 152 []]).length=some o:=ho
    simp only [Option.some.injEq] at ho'
    left
    rw [← ho']
    simp
end Go.Proofs.YtneejjefekdgjaaGreatDoor
namespace Go.Pl
open Go Go.Proofs
def qa8 (id:Int):Nat→List EntV→Int
 | _,[]=> -1
 |k,e::r=>if e.id=id then (k:Int) else qa8 id (k+1) r
def atF (l:za) (id:Int):Int:=if id<1 then -1 else qa8 id 0 l.ents
theorem qp3 (id:Int):∀ (es:List EntV) (k:Nat),qa8 id k es = -1∨∃ i e,qa8 id k es=((k+i:Nat):Int)∧es[i]? = some e∧e.id=id
 | [],k=>.inl rfl
 |e::r,k=>by
  unfold qa8
  by_cases h:e.id=id
  ·rw [if_pos h]
   exact .inr ⟨0,e,by simp,rfl,h⟩
  ·rw [if_neg h]
   rcases qp3 id r (k+1) with g | ⟨i,e',g1,g2,g3⟩
   ·exact .inl g
   ·exact .inr ⟨i+1,e',by rw [g1];congr 1;omega,by simpa using g2,g3⟩
theorem qfj (l:za) (id:Int):atF l id = -1∨∃ (i:Nat) (e:EntV),atF l id=(i:Int)∧l.ents[i]? = some e∧e.id=id∧1≤id:=by
 unfold atF
 by_cases h:id<1
 ·exact .inl (if_pos h)
 ·rw [if_neg h]
  rcases qp3 id l.ents 0 with g | ⟨i,e,g1,g2,g3⟩
  ·exact .inl g
  ·exact .inr ⟨i,e,by rw [g1];congr 1;omega,g2,g3,by omega⟩
end Go.Pl
namespace Go.Proofs.YtneejjefekdgjaaGreatDoor
open Go Go.Av Go.RowKit Go.Proofs Go.Pl
theorem zc7 (e:EntV) (id:Int) (st:List AObj):qp E 136 [entA e,.pp [Iv id]] st fun r st'=>r=Bv (decide (e.id=id))∧st'=st:=by
 refine z0 [.a (entA e),.a (.pp [Iv id])] (qy _) Tryz.func136 rfl rfl (fun _=>rfl) rfl fun S0=>?_
 apply qg []
 repeat' (first|apply And.intro|(intro h;try exact cDd)|exact cSd|apply qd []|refine exr ?_|refine qh ?_)
@[reducible] def atFn (id : Int) : SV := .fn (.func 136) [] [.a (.pp [Iv id])]
@[reducible] def lstH (a : Nat) (l : za) : List (Nat × Option SR) := [(0, some (.cells 156 [.tp a, .i l.next, .i l.many])), (a, some (.own 4 152 (l.ents.map entA)))]
theorem q69 (es:List EntV) (id:Int) (hl:es.length<1000000):x4 E 135 [.tp 0,atFn id] 1 (hpF [(0,some (.own 4 152 (es.map entA)))]) ⟨.i (qa8 id 0 es),x2 [(0,some (.own 4 152 (es.map entA)))],[(0,some (.own 4 152 (es.map entA)))]++ym [(0,some (.own 4 152 (es.map entA)))],1⟩:=by
 refine qap [.tp 0,atFn id] [(0,some (.own 4 152 (es.map entA)))] 1 (.i (qa8 id 0 es)) [(0,some (.own 4 152 (es.map entA)))] 1 Tryz.func135 rfl rfl rfl rfl fun S F ρ=>?_
 have hml:(es.map entA).length=es.length:=by simp
 apply qg []
 repeat' (first|apply And.intro|(intro h;try exact cDd)|exact cSd|apply qd []|refine exr ?_|refine qh ?_)
 refine zw (X:=Nat) (fun k=>⟨[(0,.tp 0),(1,atFn id),(7,.i es.length),(8,.i k)],[(0,some (.own 4 152 (es.map entA)))],1⟩) (fun k=>k≤es.length∧qa8 id k (es.drop k)=qa8 id 0 es) (fun k=>es.length - k) 0 ⟨by omega,by simp⟩ ?_ ?_
 ·skip
  repeat' (first|apply And.intro|(intro h;try exact cDd)|exact cSd|apply qd []|refine exr ?_|refine qh ?_)
  all_goals (simp;done)
 ·rintro k ⟨hk,hrun⟩
  by_cases hkn:k<es.length
  ·have hx:es[k]? = some es[k]:=List.getElem?_eq_getElem hkn
   have hxm:(es.map entA)[k]? = some (entA es[k]):=by rw [List.getElem?_map,hx];rfl
   rw [List.drop_eq_getElem_cons hkn,qa8] at hrun
   generalize es[k]=e at hx hxm hrun
   have h1:=fun st=>zc7 e id st
   by_cases hid:e.id=id
   ·rw [if_pos hid] at hrun
    rw [decide_eq_true hid] at h1
    rw [← hrun]
    apply qg []
    repeat' (first|apply And.intro|(intro h;try exact cDd)|(refine qom (i:=k) rfl rfl rfl rfl rfl rfl (by omega) ?_)|(refine qxc (i:=k) (j:=0) rfl rfl rfl rfl hxm rfl rfl ?_)|exact⟨Tryz.call136⟩|refine cpe h1 ?_|exact cSd|apply qd []|refine exr ?_|refine qh ?_)
   ·rw [if_neg hid] at hrun
    rw [decide_eq_false hid] at h1
    apply qg []
    repeat' (first|apply And.intro|(intro h;try exact cDd)|(refine qom (i:=k) rfl rfl rfl rfl rfl rfl (by omega) ?_)|(refine qxc (i:=k) (j:=0) rfl rfl rfl rfl hxm rfl rfl ?_)|exact⟨Tryz.call136⟩|refine cpe h1 ?_|(refine Exists.intro (k+1) ⟨⟨by omega,hrun⟩,by omega,?_⟩)|exact cSd|apply qd []|refine exr ?_|refine qh ?_)
  ·have hkn:k=es.length:=by omega
   subst hkn
   rw [List.drop_length,qa8] at hrun
   rw [← hrun]
   apply qg []
   repeat' (first|apply And.intro|(intro h;try exact cDd)|exact cSd|apply qd []|refine exr ?_|refine qh ?_)
theorem qrg (l:za) (id:Int) (hl:l.ents.length<1000000):x4 E 77 [.bx 0 0,.i id] 2 (hpF (lstH 1 l)) ⟨.i (atF l id),x2 (lstH 1 l),lstH 1 l++ym (lstH 1 l),2⟩:=by
 refine qap [.bx 0 0,.i id] (lstH 1 l) 2 (.i (atF l id)) (lstH 1 l) 2 Tryz.func77 rfl rfl rfl rfl fun S F ρ=>?_
 unfold atF
 have h1:=q69 l.ents id hl
 by_cases h:id<1
 ·rw [if_pos h]
  apply qg []
  repeat' (first|apply And.intro|(intro h;try exact cDd)|exact cSd|apply qd []|refine exr ?_|refine qh ?_)
 ·rw [if_neg h]
  apply qg []
  repeat' (first|apply And.intro|(intro h;try exact cDd)|exact⟨Tryz.call135⟩|(refine kl h1 ?_)|exact cSd|apply qd []|refine exr ?_|refine qh ?_)
end Go.Proofs.YtneejjefekdgjaaGreatDoor
namespace Go.Pl
open Go Go.Proofs
def qr9 (fs:List Fld):qe:=if ku fs = .no then jy fs else []
def qbi (fs:List Fld):zq:=if ku fs = .no then⟨3,jy fs,fs⟩ else⟨0,[],[]⟩
def qam (its:List zq):qe:=its.flatMap fun x=>x.raw
theorem qe9 (a b:List zq):qam (a++b)=qam a++qam b:=by simp [qam]
theorem qfa (x:zq):qam [x]=x.raw:=by simp [qam]
def qba (prev:Bool):List zq→List zq
 | []=>[]
 |x::r=>(if prev=true∧x.kind≠1 then [⟨1,[10],[]⟩,x] else [x])++qba (decide (x.kind≠1)) r
def qgf (its:List zq):List zq:=qba false its
def km (l:za):List zq:=l.ents.map fun e=>e.x
def qut (l:za):qe:=qam (qgf (km l))
end Go.Pl
namespace Go.Proofs.YtneejjefekdgjaaGreatDoor
open Go Go.Av Go.RowKit Go.Proofs Go.Pl
theorem q5a (fs:List Fld) (st:List AObj) (hK:KeyB fs) (hl:fs.length<9223372036854775808):qp E 286 [kc fs] st fun r st'=>r = .tu [Sv (qr9 fs),errA (ku fs)]∧st'=st:=by
 refine z0 [.a (kc fs)] (qcg (qy _) (qab _)) Tryz.func286 rfl rfl (fun _=>rfl) rfl fun S0=>?_
 unfold qr9
 cases he:ku fs with
 |no=>
  rw [if_pos rfl]
  have h1:=fun st=>qkf fs st _ he hK hl
  obtain⟨_,h3,h4⟩:=qfl he
  have h2:=fun st=>q1n fs st h3 h4
  apply qg []
  repeat' (first|apply And.intro|(intro h;try exact cDd)|exact⟨Tryz.call228⟩|refine cpe h1 ?_|exact⟨Tryz.call167⟩|refine cpe h2 ?_|exact cSd|apply qd []|refine exr ?_|refine qh ?_)
 |num n=>
  rw [if_neg (by simp)]
  have h1:=fun st=>qkf fs st _ he hK hl
  apply qg []
  repeat' (first|apply And.intro|(intro h;try exact cDd)|exact⟨Tryz.call228⟩|refine cpe h1 ?_|exact cSd|apply qd []|refine exr ?_|refine qh ?_)
 |at' a n=>
  rw [if_neg (by simp)]
  have h1:=fun st=>qkf fs st _ he hK hl
  apply qg []
  repeat' (first|apply And.intro|(intro h;try exact cDd)|exact⟨Tryz.call228⟩|refine cpe h1 ?_|exact cSd|apply qd []|refine exr ?_|refine qh ?_)
theorem q0b (fs:List Fld) (st:List AObj) (hK:KeyB fs) (hl:fs.length<1000000):qp E 229 [kc fs] st fun r st'=>r = .tu [xf (qbi fs),errA (ku fs)]∧st'=st:=by
 refine z0 [.a (kc fs)] (qcg (qet (qf8 _)) (qab _)) Tryz.func229 rfl rfl (fun _=>rfl) rfl fun S0=>?_
 have h1:=fun st=>q5a fs st hK (by omega)
 have h2:=fun st=>qgx fs st hl
 unfold qr9 at h1
 unfold qbi
 cases he:ku fs with
 |no=>
  rw [he,if_pos rfl] at h1
  rw [if_pos rfl]
  apply qg []
  repeat' (first|apply And.intro|(intro h;try exact cDd)|exact⟨Tryz.call286⟩|refine cpe h1 ?_|exact⟨Tryz.call71⟩|refine cpe h2 ?_|exact cSd|apply qd []|refine exr ?_|refine qh ?_)
 |num n=>
  rw [he,if_neg (by simp)] at h1
  rw [if_neg (by simp)]
  apply qg []
  repeat' (first|apply And.intro|(intro h;try exact cDd)|exact⟨Tryz.call286⟩|refine cpe h1 ?_|exact cSd|apply qd []|refine exr ?_|refine qh ?_)
 |at' a n=>
  rw [he,if_neg (by simp)] at h1
  rw [if_neg (by simp)]
  apply qg []
  repeat' (first|apply And.intro|(intro h;try exact cDd)|exact⟨Tryz.call286⟩|refine cpe h1 ?_|exact cSd|apply qd []|refine exr ?_|refine qh ?_)
theorem q6u (x:zq) (st:List AObj) (hl:x.fields.length<1000000):qp E 227 [xf x] st fun r st'=>r=xf x∧st'=st:=by
 refine z0 [.a (xf x)] (qet (qf8 _)) Tryz.func227 rfl rfl (fun _=>rfl) rfl fun S0=>?_
 have h2:=fun st=>qgx x.fields st hl
 apply qg [1]
 repeat' (first|apply And.intro|(intro h;try exact cDd)|exact⟨Tryz.call71⟩|refine cpe h2 ?_|exact cSd|apply qd [1]|refine exr ?_|refine qh ?_)
structure ItsB (its:List zq):Prop where
 len:its.length≤1000000
 fld:∀ x∈its,x.fields.length<1000000
theorem qsi (prev:Bool):∀ its:List zq,(qba prev its).length≤2 * its.length
 | []=>by simp [qba]
 |x::r=>by
  have ih:=qsi (decide (x.kind≠1)) r
  unfold qba
  split <;> simp only [List.length_append,List.length_cons,List.length_nil] <;> omega
theorem q7u (its:List zq) (st:List AObj) (hB:ItsB its):qp E 151 [x5 its] st fun r st'=>r=x5 (qgf its)∧st'=st:=by
 refine z0 [.a (x5 its)] (qce _) Tryz.func151 rfl rfl (fun _=>rfl) rfl fun S0=>?_
 have hln:=hB.len
 apply qg []
 repeat' (first|apply And.intro|(intro h;try exact cDd)|exact cSd|apply qd []|refine exr ?_|refine qh ?_)
 refine zw (X:=Nat×List zq) (fun (k,out)=>⟨[(0,.a (x5 its)),(3,.tp 0),(6,.a (x5 its)),(7,.i its.length),(8,.i k)],[(0,some (.tip 3 52 (out.map xf)))],1⟩)
  (fun (k,out)=>k≤its.length∧out.length≤2 * k∧∃ prev,(prev=true↔∃ y,0<k∧its[k - 1]? = some y∧y.kind≠1)∧out++qba prev (its.drop k)=qgf its) (fun (k,out)=>its.length - k) (0,[]) ⟨by omega,by simp,false,by simp,rfl⟩ ?_ ?_
 ·skip
  repeat' (first|apply And.intro|(intro h;try exact cDd)|exact cSd|apply qd []|refine exr ?_|refine qh ?_)
  all_goals (simp;done)
 ·rintro⟨k,out⟩ ⟨hk,hol,prev,hpv,hrun⟩
  by_cases hkn:k<its.length
  ·have hx:its[k]? = some its[k]:=List.getElem?_eq_getElem hkn
   have hxm:(its.map xf)[k]? = some (xf its[k]):=by rw [List.getElem?_map,hx];rfl
   have hxf:=hB.fld its[k] (List.getElem_mem hkn)
   rw [List.drop_eq_getElem_cons hkn,qba] at hrun
   generalize its[k]=x at hx hxm hrun hxf
   have hcp:=fun st=>q6u x st hxf
   have hml:(out.map xf).length=out.length:=by simp
   have hnext:(decide (x.kind≠1)=true↔∃ y,0<k+1∧its[k+1 - 1]? = some y∧y.kind≠1):=by
    rw [decide_eq_true_iff,Nat.add_sub_cancel,hx]
    constructor
    ·intro h
     exact⟨x,by omega,rfl,h⟩
    ·rintro⟨y,_,h1,h2⟩
     simp only [Option.some.injEq] at h1
     rw [h1]
     exact h2
   by_cases hk0:k=0
   ·have hp:¬ (prev=true):=fun h=>by
     obtain⟨_,h,_⟩:=hpv.1 h
     omega
    rw [if_neg (fun h=>hp h.1)] at hrun
    apply qg []
    repeat' (first|apply And.intro|(intro h;try exact cDd)|(refine Exists.intro (k) ⟨by omega,_,hxm,?_⟩)|exact⟨Tryz.call227⟩|refine cpe hcp ?_|(refine Exists.intro (k+1,out++[x]) ⟨⟨by omega,by simp;omega,_,hnext,by rw [← hrun];simp⟩,by simp only;omega,?_⟩)|exact cSd|apply qd []|refine exr ?_|refine qh ?_)
    all_goals first|(simp [SV.evs,SV.ev];done)|(simp [SV.evs];omega)
   ·obtain⟨y,hy⟩:∃ y,its[k - 1]? = some y:=⟨_,List.getElem?_eq_getElem (by omega:k - 1<its.length)⟩
    have hym:(its.map xf)[k - 1]? = some (xf y):=by rw [List.getElem?_map,hy];rfl
    have hpy:(prev=true↔y.kind≠1):=by
     rw [hpv]
     constructor
     ·rintro⟨z,_,h1,h2⟩
      rw [hy] at h1
      simp only [Option.some.injEq] at h1
      rw [h1]
      exact h2
     ·exact fun h=>⟨y,by omega,hy,h⟩
    by_cases hb:x.kind≠1∧y.kind≠1
    ·rw [if_pos ⟨hpy.2 hb.2,hb.1⟩] at hrun
     obtain⟨hb1,hb2⟩:=hb
     apply qg []
     repeat' (first|apply And.intro|(intro h;try exact cDd)|(refine Exists.intro (k) ⟨by omega,_,hxm,?_⟩)|(refine Exists.intro (k - 1) ⟨by omega,_,hym,?_⟩)|exact⟨Tryz.call227⟩|refine cpe hcp ?_|(refine Exists.intro (k+1,out++[⟨1,[10],[]⟩,x]) ⟨⟨by omega,by simp;omega,_,hnext,by rw [← hrun];simp⟩,by simp only;omega,?_⟩)|exact cSd|apply qd []|refine exr ?_|refine qh ?_)
     all_goals first|(simp [SV.evs,SV.ev];done)|(simp [SV.evs];omega)
    ·rw [if_neg (fun h=>hb ⟨h.2,hpy.1 h.1⟩)] at hrun
     apply qg []
     repeat' (first|apply And.intro|(intro h;try exact cDd)|(refine Exists.intro (k) ⟨by omega,_,hxm,?_⟩)|(refine Exists.intro (k - 1) ⟨by omega,_,hym,?_⟩)|exact⟨Tryz.call227⟩|refine cpe hcp ?_|(refine Exists.intro (k+1,out++[x]) ⟨⟨by omega,by simp;omega,_,hnext,by rw [← hrun];simp⟩,by simp only;omega,?_⟩)|exact absurd ⟨by assumption,by assumption⟩ hb|exact cSd|apply qd []|refine exr ?_|refine qh ?_)
     all_goals first|(simp [SV.evs,SV.ev];done)|(simp [SV.evs];omega)
  ·have hkn:k=its.length:=by omega
   subst hkn
   rw [List.drop_length,qba,List.append_nil] at hrun
   rw [← hrun]
   apply qg []
   repeat' (first|apply And.intro|(intro h;try exact cDd)|exact cSd|apply qd []|refine exr ?_|refine qh ?_)
theorem za6 (its:List zq) (st:List AObj) (hl:its.length≤4000000) (hr:(qam its).length≤1000000000000):qp E 150 [x5 its] st fun r st'=>r=Sv (qam its)∧st'=st:=by
 refine zi (qy _) (qt Tryz.func150 rfl (Nat.le_of_ble_eq_true rfl) ?_)
 have hml:(its.map xf).length=its.length:=by simp
 repeat' (first|(apply qm6;exact rfl)|apply qr|apply ze|apply ql|apply qk|apply qo|apply qm|(apply zu;(iterate 4 exact rfl)))
 refine qe3 its (fun pre s=>∃ q,(q = .v (.pointer none)∨q = .bx (st.length+0) 0 0)∧StE [(3,.bx (st.length+0) 0 0),(6,x5 its),(7,Iv its.length),(8,Iv pre.length)] st [bldO 0 q (qam pre) (st.length+1),.tip (qam pre).length 1 5] s) ⟨_,.inl rfl,qhj ⟨rfl,rfl,congrArg (fun n:Nat=>Iv (n:Int)) hml,rfl,trivial⟩ rfl⟩ ?_ ?_
 ·rintro _ ⟨q,hq,t,ext,rfl⟩
  repeat' (first|apply qr|apply ql|apply qk|apply qm|(apply qw;(iterate 3 exact rfl))|(apply qc;exact rfl;apply wq;exact cAo)|apply jq|apply zb|(refine qx Tryz.call171 (qm9 st _ _ _ _ 0 1 0 _ _ rfl rfl rfl) ?_))
  exact qq rfl (zf rfl) ⟨rfl,qe5 _ _ _ _⟩
 ·rintro pre x rest _ hre ⟨q,hq,t,ext,rfl⟩
  have hlen:its.length=pre.length+(rest.length+1):=by rw [hre];simp
  have hget:(its.map xf)[pre.length]? = some (xf x):=by rw [hre];simp
  have hrl:(qam pre).length+x.raw.length≤1000000000000:=by
   have e:x::rest=[x]++rest:=rfl
   rw [hre,qe9,e,qe9,qfa] at hr
   simp only [List.length_append] at hr
   omega
  repeat' (first|apply qr|apply ze|apply ql|apply qk|(apply qw;(iterate 3 exact rfl))|(apply qc;exact rfl;apply wa;exact cAo)|(apply jj;exact rfl;exact rfl)|(apply q5;(iterate 3 exact rfl))|(apply zk;(iterate 3 exact rfl))|(apply zn;(iterate 5 exact rfl))|(apply zm;(iterate 11 exact rfl))|apply q8|(apply x9 (n:=pre.length);(iterate 5 exact rfl);exact hget))
  refine qx Tryz.call168 (qpj st _ _ _ _ 0 1 0 _ _ _ rfl rfl ?_ ?_ rfl) ?_;(exact hq);(omega)
  repeat' (first|apply ql|apply qk|apply qo|(apply zp;exact rfl;exact rfl;exact qn (by omega) (by omega)))
  refine⟨_,.inr rfl,qdv ⟨rfl,rfl,rfl,?_,trivial⟩ ?_⟩
  ·rw [qdu pre x];rfl
  ·rw [qe9,qfa];rfl
theorem q76 (its:List zq) (st:List AObj) (hB:ItsB its) (hr:(qam (qgf its)).length≤1000000000000):qp E 88 [x5 its] st fun r st'=>r=Sv (qam (qgf its))∧st'=st:=by
 refine z0 [.a (x5 its)] (qy _) Tryz.func88 rfl rfl (fun _=>rfl) rfl fun S0=>?_
 have h1:=fun st=>q7u its st hB
 have hal:=qsi false its
 have hln:=hB.len
 have h2:=fun st=>za6 (qgf its) st (by unfold qgf;omega) hr
 apply qg []
 repeat' (first|apply And.intro|(intro h;try exact cDd)|exact⟨Tryz.call151⟩|refine cpe h1 ?_|exact⟨Tryz.call150⟩|refine cpe h2 ?_|exact cSd|apply qd []|refine exr ?_|refine qh ?_)
theorem q7g (l:za) (st:List AObj) (hB:ItsB (km l)):qp E 89 [y3 l] st fun r st'=>r=x5 (km l)∧st'=st:=by
 refine z0 [.a (y3 l)] (qce _) Tryz.func89 rfl rfl (fun _=>rfl) rfl fun S0=>?_
 have hln:=hB.len
 have hil:(km l).length=l.ents.length:=by simp [km]
 apply qg []
 repeat' (first|apply And.intro|(intro h;try exact cDd)|exact cSd|apply qd []|refine exr ?_|refine qh ?_)
 refine zw (X:=Nat) (fun k=>⟨[(3,.tp 0),(12,.a (.sl 4 (l.ents.map entA) none)),(13,.i l.ents.length),(14,.i k)],[(0,some (.tip 3 52 (((km l).take k).map xf)))],1⟩)
  (fun k=>k≤l.ents.length) (fun k=>l.ents.length - k) 0 (by omega) ?_ ?_
 ·skip
  repeat' (first|apply And.intro|(intro h;try exact cDd)|exact cSd|apply qd []|refine exr ?_|refine qh ?_)
  all_goals (simp;done)
 ·rintro k hk
  by_cases hkn:k<l.ents.length
  ·have hx:l.ents[k]? = some l.ents[k]:=List.getElem?_eq_getElem hkn
   have hxm:(l.ents.map entA)[k]? = some (entA l.ents[k]):=by rw [List.getElem?_map,hx];rfl
   have hxi:(km l)[k]? = some l.ents[k].x:=by unfold km;rw [List.getElem?_map,hx];rfl
   have hxf:=hB.fld l.ents[k].x (List.mem_of_getElem? hxi)
   have htk:(km l).take (k+1)=(km l).take k++[l.ents[k].x]:=by rw [List.take_add_one,hxi];rfl
   have htl:(((km l).take k).map xf).length≤k:=by simp;omega
   generalize l.ents[k]=e at hx hxm hxi hxf htk
   have hcp:=fun st=>qgx e.x.fields st hxf
   apply qg []
   repeat' (first|apply And.intro|(intro h;try exact cDd)|(refine Exists.intro (k) ⟨by omega,_,hxm,?_⟩)|exact⟨Tryz.call71⟩|refine cpe hcp ?_|(refine Exists.intro (k+1) ⟨by omega,by omega,?_⟩)|exact cSd|apply qd []|refine exr ?_|refine qh ?_)
   all_goals first|(rw [htk];simp;done)|(simp [SV.evs];omega)
  ·have hkn:k=l.ents.length:=by omega
   subst hkn
   have e:(km l).take l.ents.length=km l:=List.take_of_length_le (by omega)
   rw [e]
   apply qg []
   repeat' (first|apply And.intro|(intro h;try exact cDd)|exact cSd|apply qd []|refine exr ?_|refine qh ?_)
theorem zah (l:za) (st:List AObj) (hB:ItsB (km l)) (hr:(qut l).length≤1000000000000):qp E 43 [y3 l] st fun r st'=>r=Sv (qut l)∧st'=st:=by
 refine z0 [.a (y3 l)] (qy _) Tryz.func43 rfl rfl (fun _=>rfl) rfl fun S0=>?_
 have h1:=fun st=>q7g l st hB
 have h2:=fun st=>q76 (km l) st hB hr
 apply qg []
 repeat' (first|apply And.intro|(intro h;try exact cDd)|exact⟨Tryz.call89⟩|refine cpe h1 ?_|exact⟨Tryz.call88⟩|refine cpe h2 ?_|exact cSd|apply qd []|refine exr ?_|refine qh ?_)
theorem qhn (es:List EntV):∀ x∈es.map entA,x.cells.length=4:=fun x hx=>by
 obtain⟨e,_,rfl⟩:=List.mem_map.1 hx
 rfl
theorem qdo (es:List EntV):(flat (es.map entA)).length=es.length * 4:=by
 rw [jn (qhn es),List.length_map]
theorem qgi (a b:List EntV):flat ((a++b).map entA)=flat (a.map entA)++flat (b.map entA):=by rw [List.map_append,qah]
theorem qee (A B xs:List AV) {off:Nat} (h:A.length=off):jz (A++B) off xs=A++xs++B.drop xs.length:=by
 unfold jz
 rw [← h,List.take_left,List.drop_append,List.drop_eq_nil_of_le (by omega)]
 simp
theorem qha {cs xs:List AV} {off:Nat} (h:off+xs.length≤cs.length):(jz cs off xs).length=cs.length:=by
 unfold jz
 simp
 omega
theorem zcz (es:List EntV) (i:Nat) (hi:i<es.length) (hl:es.length<1000000) (st:List AObj) (c:AV) (hc:OwnS st 4 152 (es.map entA) c):qp E 230 [c,Iv i,Iv ((i:Int)+1)] st fun r st'=>OwnR 4 152 ((es.take i++es.drop (i+1)).map entA) st c r st':=by
 have hml:(es.map entA).length=es.length:=by simp
 rcases hc with⟨h0,_⟩ | ⟨o,ver,cap,pad,rfl,e2,e3,e4,e5,e6⟩
 ·rw [h0] at hml
  simp at hml
  omega
 rw [hml] at e5 ⊢
 have hlt:=lt_of_getElem? e2
 have hfl:=qdo es
 have hsplit:flat (es.map entA)++pad=flat ((es.take i).map entA)++(flat ((es.drop i).map entA)++pad):=by
  rw [← List.append_assoc,← qgi,List.take_append_drop]
 have ht4:(flat ((es.take i).map entA)).length=i * 4:=by rw [qdo,List.length_take,Nat.min_eq_left (by omega)]
 have hd4:(flat ((es.drop (i+1)).map entA)).length=(es.length - (i+1)) * 4:=by rw [qdo,List.length_drop]
 obtain⟨B1,hB1⟩:∃ B1,(flat ((es.drop i).map entA)++pad).drop (flat ((es.drop (i+1)).map entA)).length=B1:=⟨_,rfl⟩
 have hsp:jz (flat (es.map entA)++pad) (i * 4) (flat ((es.drop (i+1)).map entA))=flat ((es.take i++es.drop (i+1)).map entA)++B1:=by
  rw [hsplit,qee _ _ _ ht4,qgi,hB1]
 have hsl:(flat ((es.take i++es.drop (i+1)).map entA)++B1).length=(cap+1) * 4:=by
  rw [← hsp,qha (by rw [e3,hd4];omega),e3]
 have hel:(es.take i++es.drop (i+1)).length=es.length - 1:=by simp;omega
 -- what is appended
 obtain⟨q,hq⟩:∃ q,(if cap+1=i+1 then 0 else 0+(i+1) * 4)=q:=⟨_,rfl⟩
 have hqz:((flat (es.map entA)++pad).drop q).take ((es.length - (i+1)) * 4)=flat ((es.drop (i+1)).map entA)∧q+(es.length - (i+1)) * 4≤(flat (es.map entA)++pad).length:=by
  rw [e3]
  by_cases hci:cap+1=i+1
  ·have:es.length - (i+1)=0:=by omega
   rw [if_pos hci] at hq
   rw [this,← hq,List.drop_eq_nil_of_le (by omega:es.length≤i+1)]
   exact⟨by simp [flat],by omega⟩
  ·rw [if_neg hci] at hq
   rw [← hq]
   refine⟨?_,by omega⟩
   have e:flat (es.map entA)++pad=flat ((es.take (i+1)).map entA)++(flat ((es.drop (i+1)).map entA)++pad):=by
    rw [← List.append_assoc,← qgi,List.take_append_drop]
   have e':(flat ((es.take (i+1)).map entA)).length=0+(i+1) * 4:=by rw [qdo,List.length_take,Nat.min_eq_left (by omega)];omega
   rw [e,← e',List.drop_left,← hd4,List.take_left]
 have hsrc:SrcA st 4 (.os o ver q (es.length - (i+1)) (cap+1 - (i+1))) (es.length - (i+1)) (es.length - (i+1)) (flat ((es.drop (i+1)).map entA)):=by
  have:=SrcA.os (st:=st) (sz:=4) o ver q (es.length - (i+1)) (cap+1 - (i+1)) (es.length - (i+1)) _ _ e2 hqz.2 (by rw [hqz.1];exact qff fun _=>rfl)
  rw [hqz.1] at this
  exact this
 refine qt Tryz.func230 rfl (Nat.le_of_ble_eq_true rfl) ?_
 rw [List.append_nil]
 repeat' (first|(refine js (sz:=4) (i:=i) (j:=i+1) (m:=es.length) rfl rfl rfl ?_ ?_ ?_ ?_ ?_ ?_ ?_;exact⟨_,rfl⟩;exact⟨_,rfl⟩;exact⟨_,rfl⟩;omega;omega;omega)|apply qr|apply ql|apply qk|apply qo|apply qm|(apply qw;(iterate 3 exact rfl))|(apply qc;exact rfl;apply wq;exact cAo)|(apply zu;(iterate 4 exact rfl))|apply q8)
 refine qrh (fun s=>StA [(0,.os o ver 0 (i+(es.length - (i+1))) (cap+1)),(7,Iv es.length)] (st.set o (.cells ver 152 (flat ((es.take i++es.drop (i+1)).map entA)++B1))) [] s) ?_ ?_
 ·refine qid rfl rfl ?_
  (apply qaz 0;exact rfl;kernel_rfl;kernel_rfl;kernel_rfl;exact rfl;exact qbc)
  (apply qaz 1;exact rfl;kernel_rfl;kernel_rfl;kernel_rfl;exact rfl;exact qbc)
  (apply qaz 3;exact rfl;kernel_rfl;kernel_rfl;kernel_rfl;exact rfl;exact qbc)
  (apply qaz 4;exact rfl;kernel_rfl;kernel_rfl;kernel_rfl;exact rfl;exact qbc)
  refine yx [2,5] (by kernel_rfl) rfl ⟨⟨_,rfl,?_⟩,⟨_,rfl,?_⟩,trivial⟩
  ·(refine js (sz:=4) (i:=0) (j:=i) (m:=cap+1) rfl rfl rfl ?_ ?_ ?_ ?_ ?_ ?_ ?_;exact rfl;exact⟨_,rfl⟩;exact rfl;omega;omega;omega)
   apply qk
   refine yx [5] (by kernel_rfl) rfl ⟨⟨_,rfl,?_⟩,trivial⟩
   (refine js (sz:=4) (i:=i+1) (j:=es.length) (m:=cap+1) rfl rfl rfl ?_ ?_ ?_ ?_ ?_ ?_ ?_;exact⟨_,rfl⟩;exact⟨rfl,rfl⟩;exact rfl;omega;omega;omega;rw [hq])
   apply qk
   refine yx [6] (by kernel_rfl) rfl ⟨⟨_,rfl,?_⟩,trivial⟩
   (refine qky (bytes:=56) (o:=o) (ver:=ver) (n:=i) (cap:=cap+1) (m:=es.length - (i+1)) (cs:=flat (es.map entA)++pad) rfl rfl e2 hsrc rfl rfl ⟨⟨_,_,rfl,rfl,rfl,rfl,rfl⟩⟩ (by omega) e3 ?_;rw [hsp])
   apply qk
   (apply qaz 7;exact rfl;kernel_rfl;kernel_rfl;kernel_rfl;exact rfl;exact qsm)
   refine qc5 (by kernel_rfl) ?_
   exact v6 ⟨rfl,rfl,trivial⟩
  ·(refine js (sz:=4) (i:=i+1) (j:=es.length) (m:=cap+1) rfl rfl rfl ?_ ?_ ?_ ?_ ?_ ?_ ?_;exact⟨_,rfl⟩;exact⟨rfl,rfl⟩;exact rfl;omega;omega;omega;rw [hq])
   apply qk
   refine yx [2] (by kernel_rfl) rfl ⟨⟨_,rfl,?_⟩,trivial⟩
   (refine js (sz:=4) (i:=0) (j:=i) (m:=cap+1) rfl rfl rfl ?_ ?_ ?_ ?_ ?_ ?_ ?_;exact rfl;exact⟨_,rfl⟩;exact rfl;omega;omega;omega)
   apply qk
   refine yx [6] (by kernel_rfl) rfl ⟨⟨_,rfl,?_⟩,trivial⟩
   (refine qky (bytes:=56) (o:=o) (ver:=ver) (n:=i) (cap:=cap+1) (m:=es.length - (i+1)) (cs:=flat (es.map entA)++pad) rfl rfl e2 hsrc rfl rfl ⟨⟨_,_,rfl,rfl,rfl,rfl,rfl⟩⟩ (by omega) e3 ?_;rw [hsp])
   apply qk
   (apply qaz 7;exact rfl;kernel_rfl;kernel_rfl;kernel_rfl;exact rfl;exact qsm)
   refine qc5 (by kernel_rfl) ?_
   exact v6 ⟨rfl,rfl,trivial⟩
 ·rintro _ ⟨t,rfl⟩
  have hob:(st.set o (AObj.cells ver 152 (flat ((es.take i++es.drop (i+1)).map entA)++B1)))[o]? = some (.cells ver 152 (flat ((es.take i++es.drop (i+1)).map entA)++B1)):=xg e2
  have hqq:(if cap+1=i+(es.length - (i+1)) then 0 else 0+(i+(es.length - (i+1))) * 4)=(es.length - 1) * 4:=by
   rw [if_neg (by omega)]
   omega
  have hfe:(flat ((es.take i++es.drop (i+1)).map entA)).length=(es.length - 1) * 4:=by rw [qdo,hel]
  repeat' (first|(refine js (sz:=4) (i:=i+(es.length - (i+1))) (j:=es.length) (m:=cap+1) rfl rfl rfl ?_ ?_ ?_ ?_ ?_ ?_ ?_;exact⟨_,rfl⟩;exact⟨_,rfl⟩;exact rfl;omega;omega;omega;rw [hqq])|(refine qvb (sz:=4) (bytes:=56) rfl hob rfl ⟨⟨_,_,rfl,rfl,rfl,rfl,rfl⟩⟩ rfl (by rw [hsl];omega) fun zs hz=>?_)|apply qr|apply ql|apply qk|apply qo|apply qm|(apply zu;(iterate 4 exact rfl))|apply zb)
  refine qq rfl (zf rfl) ?_
  show OwnR 4 152 _ st _ (.os o ver 0 (i+(es.length - (i+1))) (cap+1)) ((st.set o _).set o (.cells ver 152 (jz (flat ((es.take i++es.drop (i+1)).map entA)++B1) ((es.length - 1) * 4) zs)))
  rw [List.set_set,qee _ _ _ hfe,List.append_assoc]
  have hB1l:(es.length - 1) * 4+B1.length=(cap+1) * 4:=by rw [← hfe,← List.length_append];exact hsl
  have hzl:zs.length=4:=by rw [hz];omega
  refine⟨.inr ⟨o,ver,cap,zs++B1.drop zs.length,?_,xg e2,?_,qhn _,?_,e6⟩,by simp,fun j hj hne=>List.getElem?_set_ne fun e=>hne (by rw [e];rfl),fun o' ho'=>.inr ho'⟩
  ·rw [List.length_map,hel]
   congr 1
   omega
  ·rw [List.length_append,List.length_append,List.length_drop,hfe,hzl]
   omega
  ·rw [List.length_map,hel]
   omega
end Go.Proofs.YtneejjefekdgjaaGreatDoor
