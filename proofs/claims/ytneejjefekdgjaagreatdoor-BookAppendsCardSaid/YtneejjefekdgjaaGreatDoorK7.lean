/- Contracts and plain facts that the closing text leans on (part 7). No condition of their own beyond those that each states. -/
import Derived.Test.YtneejjefekdgjaaGreatDoorK6
import Derived.Lib.IfaceEq
import Derived.Laws.StructEq
set_option maxRecDepth 100000
set_option linter.unusedVariables false
set_option linter.unusedSimpArgs false
namespace Go.Proofs.YtneejjefekdgjaaGreatDoor
open Go Go.RowKit Go.Extern.Stop Go.Stop Go.Extern Go.Proofs
theorem asT.typeOf31 (v:Value) (w:World):(ReflectliteType.typeOf #[.iface 62 v]).run Tryz.prog w = .ok (.iface 381 (.agg #[.pointer (some ⟨9,62,none⟩)])) w:=by kernel_rfl
theorem asT.assignable31 (w : World) : (ReflectliteType.relation "AssignableTo" ReflectliteType.assignableTo #[.agg #[.pointer (some ⟨9, 62, none⟩)], .iface 381 (.agg #[.pointer (some ⟨9, 121, none⟩)])]).run Tryz.prog w = .ok (.bool false) w := by kernel_rfl
theorem asT.no230 (v:Value) (xT:TypeId) (w:World):(Instr.typeAssert (.iface 62 v) xT 386 true).run Tryz.prog w = .ok (.tuple #[.nilIface,.bool false]) w:=run_typeAssert_lacksB Tryz.underlying386 (by kernel_rfl) (by kernel_rfl) v xT w
theorem asT.no233 (v:Value) (xT:TypeId) (w:World):(Instr.typeAssert (.iface 62 v) xT 389 true).run Tryz.prog w = .ok (.tuple #[.nilIface,.bool false]) w:=run_typeAssert_lacksB Tryz.underlying389 (by kernel_rfl) (by kernel_rfl) v xT w
theorem asT.no234 (v:Value) (xT:TypeId) (w:World):(Instr.typeAssert (.iface 62 v) xT 390 true).run Tryz.prog w = .ok (.tuple #[.nilIface,.bool false]) w:=run_typeAssert_lacksB Tryz.underlying390 (by kernel_rfl) (by kernel_rfl) v xT w
set_option maxHeartbeats 4000000 in
theorem zav (n:Int) (t:Addr) (old:Value) (w:World) (hg:w.cell? ⟨3,0,none⟩=some (.iface 381 (.agg #[.pointer (some ⟨9,24,none⟩)]))) (ht0:w.cell? t=some old) :
  Calls Tryz.prog 232 #[.iface 62 (.int .i64 n),.iface 305 (.pointer (some t))] w fun ev w'=>ev = .returned (.bool false)∧Below w.heap.size w w':=by
 have h6:=@run_callFunc_extern Tryz.prog 289 _ (fun args=>ReflectliteValue.unpack (args.getD 0 (.tuple #[]))) Tryz.func289 (by kernel_rfl) (by kernel_rfl) (by kernel_rfl) (by kernel_rfl)
 have h7 := @run_callFunc_extern Tryz.prog 290 _ (ReflectliteValue.methodAny (ReflectliteValue.valueError "reflectlite.Value.Type" 0) (fun t _ _ _ => ReflectliteType.toType t)) Tryz.func290 (by kernel_rfl) (by kernel_rfl) (by kernel_rfl) (by kernel_rfl)
 have h8 := @run_callFunc_extern Tryz.prog 291 _ (ReflectliteValue.method (ReflectliteValue.valueError "reflectlite.Value.IsNil" 0) ReflectliteValue.isNil) Tryz.func291 (by kernel_rfl) (by kernel_rfl) (by kernel_rfl) (by kernel_rfl)
 have h27:=@run_callFunc_extern Tryz.prog 354 _ (ReflectliteType.abiMethod fun t=>do pure (.int .u8 (← Rtype.kind t))) Tryz.func354 (by kernel_rfl) (by kernel_rfl) (by kernel_rfl) (by kernel_rfl)
 have h37:=@run_callFunc_extern Tryz.prog 372 _ (ReflectliteType.method ReflectliteType.elem) Tryz.func372 (by kernel_rfl) (by kernel_rfl) (by kernel_rfl) (by kernel_rfl)
 have h38 := @run_callFunc_extern Tryz.prog 373 _ (ReflectliteType.relation "Implements" ReflectliteType.implements_) Tryz.func373 (by kernel_rfl) (by kernel_rfl) (by kernel_rfl) (by kernel_rfl)
 have h10:=@run_callFunc_extern Tryz.prog 318 _ ReflectliteType.typeOf Tryz.func318 (by kernel_rfl) (by kernel_rfl) (by kernel_rfl) (by kernel_rfl)
 have h35 := @run_callFunc_extern Tryz.prog 370 _ (ReflectliteType.relation "AssignableTo" ReflectliteType.assignableTo) Tryz.func370 (by kernel_rfl) (by kernel_rfl) (by kernel_rfl) (by kernel_rfl)
 have h11 := @run_callFunc_extern Tryz.prog 319 _ (ReflectliteValue.method (ReflectliteValue.valueError "reflectlite.Value.Elem" 0) ReflectliteValue.elem) Tryz.func319 (by kernel_rfl) (by kernel_rfl) (by kernel_rfl) (by kernel_rfl)
 have h12:=@run_callFunc_extern Tryz.prog 320 _ ReflectliteValue.set Tryz.func320 (by kernel_rfl) (by kernel_rfl) (by kernel_rfl) (by kernel_rfl)
 have tO:=asT.typeOf31
 have mA:=asT.methodAssignableTo
 have a25:=asT.assignable31
 have f6:=asT.valueOf27
 have f7:=asT.type27
 have mK:=asT.methodKind
 have mE:=asT.methodElem
 have mI:=asT.methodImplements
 have k27:=asT.kind27
 have k25:=asT.kind25
 have e27:=asT.elem27
 have i25:=asT.implements25
 have n8:=asT.isNil27 ⟨w.heap.size,0,none⟩ t ((w.alloc (.cells #[.pointer (some t)] 305)).alloc (.cells #[.pointer (some ⟨9,305,none⟩),.pointer (some ⟨w.heap.size,0,none⟩),.int .u64 150] 347)) (by simp)
 have hlt:3<w.heap.size:=by
  rcases Nat.lt_or_ge 3 w.heap.size with h|h
  ·exact h
  ·simp [World.cell?,Array.getElem?_eq_none h] at hg
 have hg2:((w.alloc (.cells #[.pointer (some t)] 305)).alloc (.cells #[.pointer (some ⟨9,305,none⟩),.pointer (some ⟨w.heap.size,0,none⟩),.int .u64 150] 347)).cell? ⟨3,0,none⟩=some (.iface 381 (.agg #[.pointer (some ⟨9,24,none⟩)])):=by
  rw [World.cell?_alloc_lt _ _ ⟨3,0,none⟩ (by first|(simp;done)|(simp;omega)),World.cell?_alloc_lt _ _ ⟨3,0,none⟩ hlt];exact hg
 have htl:t.block<w.heap.size:=by
  rcases Nat.lt_or_ge t.block w.heap.size with h|h
  ·exact h
  ·simp [World.cell?,Array.getElem?_eq_none h] at ht0
 have n1:=asT.no230
 have n2:=asT.no233
 have n3:=asT.no234
 go_enter Tryz.func232,Tryz.ntmps232
 go_wp2
 refine wp_loop_rounds 1 ?_
 rw [rounds_succ]
 go_wp2
 go_ret
 exact⟨rfl,(((Below.refl _ _).alloc (Nat.le_refl _) _).alloc (by simp) _).alloc (by first|(simp;done)|(simp;omega)) _⟩
end Go.Proofs.YtneejjefekdgjaaGreatDoor
namespace Go.Proofs.YtneejjefekdgjaaGreatDoor
open Go Go.Av Go.RowKit Go.Proofs Go.Pl
theorem q0k {w:World} {b:Nat} {T:TypeId} {fz:Nat×Nat} {c:Array Value} (v:Value) (hc:w.heap[b]? = some (.cells c T fz)) (h1:c.size=1):w.setCell ⟨b,0,none⟩ v=w.setRow b #[v]:=by
 unfold World.setCell World.setRow
 congr 1
 apply Array.ext_getElem?
 intro i
 rw [Array.getElem?_modify,Array.getElem?_modify]
 by_cases hi:b=i
 ·subst hi
  rw [if_pos rfl,if_pos rfl,hc]
  have:c.setIfInBounds 0 v = #[v]:=by
   apply Array.ext
   ·simp [h1]
   ·intro i h2 h3
    have:i=0:=by simp at h3;omega
    subst this
    simp
  simp [this]
 ·rw [if_neg hi,if_neg hi]
theorem zau (a n:Int) (o:Nat) (st:List AObj) (ho:st[o]? = some (.cells 0 121 [.v (.pointer none)])):qn E 232 [qgn a n,.ifc 305 (.bx o 0 0)] st fun r st'=>r=Bv true∧st'=st.set o (.cells 0 121 [.pp [Iv a,.ifc 62 (Iv n)]]):=by
 refine⟨fun B0 w0 G vals w hL hA hR=>?_⟩
 obtain⟨v1,v2,rfl⟩:∃ x y,vals = #[x,y]:=by
  have:=hR.1
  match vals,this with
  | ⟨[x,y]⟩,_=>exact⟨x,y,rfl⟩
 have h1:=hR.2 0 _ v1 rfl rfl
 have h2:=hR.2 1 _ v2 rfl rfl
 unfold qgn at h1
 cases h1 with
 |ifc _ _ y1 h1=>
  cases h2 with
  |ifc _ _ y2 h2=>
   have hpp:=h1
   cases h1 with
   |pp _ b off pub hp hlen hr=>
    cases h2 with
    |bx _ _ _ b2 hn hv hb=>
     obtain⟨_,g1,g2,g3,c,g4,g5,g6⟩:=hA.ob o _ ho
     have hb:=hb g1
     subst hb
     have hc1:c.size=1:=by simpa using g5.symm
     have hl:=(hL w hA.below).ert
     have hcell:w.cell? ⟨(G.ob o).blk,0,none⟩=some c[0]:=by simp [World.cell?,g4,hc1]
     have hfz:w.frozen? ⟨(G.ob o).blk,0,none⟩=false:=by simp [World.frozen?,g4]
     have hlt:(G.ob o).blk<w.heap.size:=(Array.getElem?_eq_some_iff.1 g4).1
     refine (zcp ⟨b,off,none⟩ ⟨(G.ob o).blk,0,none⟩ c[0] w hl hcell hfz).mono ?_
     rintro e w' ⟨rfl,rfl⟩
     have hb1:Below w.heap.size w ((((w.alloc (.cells #[.pointer (some ⟨(G.ob o).blk,0,none⟩)] 305)).alloc (.cells #[.pointer (some ⟨9,305,none⟩),.pointer (some ⟨w.heap.size,0,none⟩),.int .u64 150] 347)).alloc (.cells #[.pointer (some ⟨9,305,none⟩),.pointer (some ⟨w.heap.size,0,none⟩),.int .u64 150] 347)).alloc (.cells #[.pointer (some ⟨b,off,none⟩)] 121)):=
      ((((Below.refl _ _).alloc (Nat.le_refl _) _).alloc (by simp) _).alloc (by first|(simp;done)|(simp;omega)) _).alloc (by first|(simp;done)|(simp;omega)) _
     have hA1:=hA.fresh hb1
     obtain⟨_,k1,k2,k3,c',k4,k5,k6⟩:=hA1.ob o _ ho
     have hc1':c'.size=1:=by simpa using k5.symm
     refine⟨.bool true,G,Bv true,_,rfl,.refl G,?_,.v _,rfl,rfl⟩
     rw [q0k _ k4 hc1']
     exact hA1.setRow ho (by simp) fun i x y hx hy=>by
      match i with
      | 0=>simp at hx hy;subst hx;subst hy;exact hpp
      |i+1=>simp at hx
theorem q71 (n:Int) (o:Nat) (st:List AObj) (ho:st[o]? = some (.cells 0 121 [.v (.pointer none)])):qn E 232 [.ifc 62 (Iv n),.ifc 305 (.bx o 0 0)] st fun r st'=>r=Bv false∧st'=st:=by
 refine⟨fun B0 w0 G vals w hL hA hR=>?_⟩
 obtain⟨v1,v2,rfl⟩:∃ x y,vals = #[x,y]:=by
  have:=hR.1
  match vals,this with
  | ⟨[x,y]⟩,_=>exact⟨x,y,rfl⟩
 have h1:=hR.2 0 _ v1 rfl rfl
 have h2:=hR.2 1 _ v2 rfl rfl
 cases h1 with
 |ifc _ _ y1 h1=>
  cases h2 with
  |ifc _ _ y2 h2=>
   cases h1 with
   |v=>
    cases h2 with
    |bx _ _ _ b2 hn hv hb=>
     obtain⟨_,g1,g2,g3,c,g4,g5,g6⟩:=hA.ob o _ ho
     have hb:=hb g1
     subst hb
     have hc1:c.size=1:=by simpa using g5.symm
     have hl:=(hL w hA.below).ert
     have hcell:w.cell? ⟨(G.ob o).blk,0,none⟩=some c[0]:=by simp [World.cell?,g4,hc1]
     refine (zav n ⟨(G.ob o).blk,0,none⟩ c[0] w hl hcell).mono ?_
     rintro e w' ⟨rfl,hb⟩
     exact⟨_,G,Bv false,st,rfl,.refl G,hA.fresh hb,.v _,rfl,rfl⟩
end Go.Proofs.YtneejjefekdgjaaGreatDoor
namespace Go.Proofs.YtneejjefekdgjaaGreatDoor
open Go Go.Av Go.RowKit Go.Extern.Stop Go.Stop Go.Extern Go.Proofs
theorem isT.has (v:Value) (xT:TypeId) (w:World):(Instr.typeAssert (.iface 121 v) xT 389 true).run Tryz.prog w = .ok (.tuple #[.iface 121 v,.bool true]) w:=run_typeAssert_hasB Tryz.underlying389 (by kernel_rfl) v xT w
theorem isT.typeOf (v:Value) (w:World):(ReflectliteType.typeOf #[.iface 62 v]).run Tryz.prog w = .ok (.iface 381 (.agg #[.pointer (some ⟨9,62,none⟩)])) w:=by kernel_rfl
theorem isT.cmp (w : World) : (ReflectliteType.method (fun t => do Rtype.noPackHeld "Comparable" t; (fun a => Value.bool a.comparable) <$> typeInfo t) #[.agg #[.pointer (some ⟨9, 62, none⟩)]]).run Tryz.prog w = .ok (.bool true) w := by kernel_rfl
end Go.Proofs.YtneejjefekdgjaaGreatDoor
namespace Go.Pl
open Go Go.Proofs
inductive ErrV where
 |no
 |num (n:Int)
 |at' (a n:Int)
 deriving DecidableEq
def ErrV.code:ErrV→Int
 | .no=>0
 | .num n=>n
 | .at' _ n=>n
def ErrV.pos:ErrV→Int
 | .no=> -9
 | .num _=> -9
 | .at' a _=>a
def xf:Nat→List Fld→ErrV
 | _,[]=>.no
 |k,f::r=>if ko f=0 then xf (k+1) r else .at' k (ko f)
def wr (fs:List Fld):ErrV:=if fs=[] then .num 2 else if 40<fs.length then .num 11 else xf 0 fs
theorem qmh:∀ (k:Nat) (r:List Fld),(xf k r).code=0↔xf k r = .no
 |k,[]=>by simp [xf,ErrV.code]
 |k,f::r=>by
  unfold xf
  split
  ·exact qmh _ r
  ·rename_i h
   simp [ErrV.code,h]
theorem qws (fs:List Fld):(wr fs).code=0↔wr fs = .no:=by
 unfold wr
 split
 ·simp [ErrV.code]
 ·split
  ·simp [ErrV.code]
  ·exact qmh _ _
end Go.Pl
namespace Go.Proofs.YtneejjefekdgjaaGreatDoor
open Go Go.Av Go.RowKit Go.Proofs Go.Pl
theorem qsn {st st':List AObj} (h:∀ k,k<st.length→st'[k]? = st[k]?):∃ ext,st'=st++ext:=by
 refine qqx ?_ h
 rcases Nat.eq_zero_or_pos st.length with h0|h0
 ·omega
 ·have h1:=h (st.length - 1) (by omega)
  have h2:st[st.length - 1]? = some (st[st.length - 1]'(by omega)):=List.getElem?_eq_getElem (by omega)
  have:=lt_of_getElem? (h1.trans h2)
  omega
def gErr (x:qr):ErrV:=if x.kind=2 then (if x.fields=[] then .no else .num 2) else if x.kind=1∨x.kind=3 then wr x.fields else .num 2
def qah:Nat→List qr→ErrV
 | _,[]=>.no
 |k,x::r=>if (gErr x).code=0 then qah (k+1) r else .at' k (gErr x).code
def eErr (b:List qr):ErrV:=if b.length<1∨40<b.length then .num 1 else qah 0 b
theorem qmo (x:qr):(gErr x).code=0↔gErr x = .no:=by
 unfold gErr
 split
 ·split <;> simp [ErrV.code]
 ·split
  ·exact qws _
  ·simp [ErrV.code]
theorem qqs:∀ (k:Nat) (r:List qr),(qah k r).code=0↔qah k r = .no
 |k,[]=>by simp [qah,ErrV.code]
 |k,f::r=>by
  unfold qah
  split
  ·exact qqs _ r
  ·rename_i h
   simp [ErrV.code] at h ⊢
   exact h
theorem qc1 (b:List qr):(eErr b).code=0↔eErr b = .no:=by
 unfold eErr
 split
 ·simp [ErrV.code]
 ·exact qqs _ _
def errA:ErrV→AV
 | .no=>.v .nilIface
 | .num n=>.ifc 62 (Iv n)
 | .at' a n=>.ifc 121 (.pp [Iv a,.ifc 62 (Iv n)])
theorem qb5 (e:ErrV):Pure (errA e):=by
 cases e with
 |no=>exact qx _
 |num n=>exact qch (qx _)
 |at' a n=>exact qjg a n
def KeyB (fs:List Fld):Prop:=∀ f∈fs,f.1.length<4294967281
theorem qxc {fs:List Fld} {i:Nat} {x:Fld} (h:fs[i]? = some x):(fs.map fldA)[i]? = some (fldA x):=by simp [h]
theorem qtv {b:List qr} {i:Nat} {x:qr} (h:b[i]? = some x):(b.map q8)[i]? = some (q8 x):=by simp [h]
theorem qtm {fs:List Fld} (h:¬ 0<fs.length):wr fs = .num 2:=if_pos (List.length_eq_zero_iff.1 (by omega))
theorem qqm {fs:List Fld} (h:40<fs.length):wr fs = .num 11:=(if_neg fun h0=>by simp [h0] at h).trans (if_pos h)
theorem qtn {fs:List Fld} (h0:0<fs.length) (h:¬ 40<fs.length):wr fs=xf 0 fs:=(if_neg (List.length_pos_iff.1 h0)).trans (if_neg h)
theorem q9i (fs:List Fld) (st:List AObj) (e:ErrV) (h:wr fs=e) (hK:KeyB fs) (hl:fs.length<9223372036854775808):qn E 228 [jj fs] st fun r st'=>r=errA e∧st'=st:=by
 subst h
 refine jo [.a (jj fs)] (qb5 _) Tryz.func228 rfl rfl (fun _=>rfl) rfl fun S0=>?_
 have hml:(fs.map fldA).length=fs.length:=by simp
 apply ql []
 repeat' (first|apply And.intro|(intro h;try exact cDd)|exact cSd|apply qg []|refine exr ?_|refine qp ?_)
 ·rw [qtm (by omega)];rfl
 ·rw [qqm (by omega)];rfl
 rw [qtn (by omega) (by omega)]
 refine vm (X:=Nat) (fun k=>⟨[(16,.a (jj fs)),(17,.i (fs.map fldA).length),(18,.i k)],[],0⟩) (fun k=>k≤fs.length∧xf k (fs.drop k)=xf 0 fs) (fun k=>fs.length - k) 0 ⟨by omega,rfl⟩ ?_ ?_
 ·skip
  repeat' (first|apply And.intro|(intro h;try exact cDd)|exact cSd|apply qg []|refine exr ?_|refine qp ?_)
 ·rintro k ⟨hk,hc⟩
  by_cases hlt:k<fs.length
  ·obtain⟨y,hy⟩:∃ y,fs[k]? = some y:=⟨_,List.getElem?_eq_getElem hlt⟩
   have hget:=qxc hy
   have hky:=hK y (List.mem_of_getElem? hy)
   obtain⟨_,hye⟩:=List.getElem?_eq_some_iff.1 hy
   rw [List.drop_eq_getElem_cons hlt,hye,xf] at hc
   rw [← hc]
   by_cases ha:ko y=0
   ·have hc4:=fun st=>qh0 y st hky ha
    apply ql [4]
    repeat' (first|apply And.intro|(intro h;try exact cDd)|(refine Exists.intro (k) ⟨by omega,_,hget,?_⟩)|exact⟨Tryz.call273⟩|refine cpe hc4 ?_|(refine Exists.intro (k+1) ⟨⟨by omega,by simp_all⟩,by omega,?_⟩)|exact cSd|apply qg [4]|refine exr ?_|refine qp ?_)
   ·have hc4:=fun st=>qh1 y st hky ha
    rw [if_neg ha]
    apply ql [4]
    repeat' (first|apply And.intro|(intro h;try exact cDd)|(refine Exists.intro (k) ⟨by omega,_,hget,?_⟩)|exact⟨Tryz.call273⟩|refine cpe hc4 ?_|exact cSd|apply qg [4]|refine exr ?_|refine qp ?_)
  ·rw [List.drop_eq_nil_of_le (by omega),xf] at hc
   rw [← hc]
   apply ql []
   repeat' (first|apply And.intro|(intro h;try exact cDd)|exact cSd|apply qg []|refine exr ?_|refine qp ?_)
theorem zbg (x:qr) (st:List AObj) (e:ErrV) (h:gErr x=e) (hK:KeyB x.fields) (hl:x.fields.length<9223372036854775808):qn E 152 [q8 x] st fun r st'=>r=errA e∧st'=st:=by
 subst h
 refine jo [.a (q8 x)] (qb5 _) Tryz.func152 rfl rfl (fun _=>rfl) rfl fun S0=>?_
 have hml:(x.fields.map fldA).length=x.fields.length:=by simp
 have hpos:x.fields=[]↔x.fields.length=0:=by simp
 have hc6:=fun st=>q9i x.fields st _ rfl hK hl
 unfold gErr
 simp only [hpos]
 generalize wr x.fields=e at *
 cases e
 all_goals apply ql [1]
 repeat' (first|apply And.intro|(intro h;try exact cDd)|exact⟨Tryz.call228⟩|refine cpe hc6 ?_|exact cSd|apply qg [1]|refine exr ?_|refine qp ?_)
 all_goals clear hc6
 all_goals grind [errA]
theorem q8l (n:Int) (st:List AObj):qn E 157 [.ifc 62 (Iv n)] st fun r st'=>r = .ifc 62 (Iv n)∧st'=st:=by
 refine qu (qch (qx _)) (qo Tryz.func157 rfl (Nat.le_of_ble_eq_true rfl) ?_)
 repeat' (first|apply qm|apply qd|apply qc|apply qi|apply qe|(apply qb;exact rfl;apply cd_f;exact cRa)|(apply vf;exact rfl;exact rfl)|(apply kc;exact rfl;exact rfl)|apply qw|apply qs|(apply qf;exact Tryz.call232;exact q71 _ (st.length+0) _ (zl rfl)))
 exact qk rfl (qz rfl) ⟨rfl,_,rfl⟩
theorem q8k (a n:Int) (st:List AObj):qn E 157 [qgn a n] st fun r st'=>r = .ifc 62 (Iv n)∧st'=st:=by
 refine qu (qch (qx _)) (qo Tryz.func157 rfl (Nat.le_of_ble_eq_true rfl) ?_)
 repeat' (first|apply qm|apply qd|apply qc|apply qi|apply qe|(apply qb;exact rfl;apply cd_t;exact cRa)|(apply vf;exact rfl;exact rfl)|(apply kc;exact rfl;exact rfl)|(apply qae;(iterate 4 exact rfl))|(apply zg;(iterate 3 exact rfl))|(apply w6;exact rfl;exact rfl)|apply qs|(apply qf;exact Tryz.call232;exact zau a n (st.length+0) _ (zl rfl))|(apply zh;exact rfl;(focus first|assumption|(repeat' (first|assumption|exact jb|exact zl rfl|apply zy|apply zi|omega|apply jf)));exact rfl;exact rfl))
 exact qk rfl (qz rfl) ⟨rfl,qsn fun j hj=>(qol (by omega)).trans (List.getElem?_append_left hj)⟩
theorem q8n (k:Int) (e:ErrV) (st:List AObj) (he:e.code≠0):qn E 95 [Iv k,errA e] st fun r st'=>r=errA (.at' k e.code)∧st'=st:=by
 refine qu (qb5 _) (qo Tryz.func95 rfl (Nat.le_of_ble_eq_true rfl) ?_)
 cases e with
 |no=>exact absurd rfl he
 |num n=>
  repeat' (first|(apply ql8;(iterate 3 exact rfl))|apply qm|apply qd|apply qc|apply qi|apply qe|(apply vf;exact rfl;exact rfl)|(apply xi;(iterate 3 exact rfl))|apply qs|(apply qf;exact Tryz.call157;exact q8l _ _))
  exact qk rfl (qz rfl) ⟨rfl,_,rfl⟩
 |at' a n=>
  repeat' (first|(apply ql8;(iterate 3 exact rfl))|apply qm|apply qd|apply qc|apply qi|apply qe|(apply vf;exact rfl;exact rfl)|(apply xi;(iterate 3 exact rfl))|apply qs|(apply qf;exact Tryz.call157;exact q8k a n _))
  exact qk rfl (qz rfl) ⟨rfl,_,rfl⟩
structure EdB (x:qr):Prop where
 keys:KeyB x.fields
 len:x.fields.length<9223372036854775808
 id1 : -9223372036854775808≤x.id
 id2:x.id≤9223372036854775807
@[reducible] def jm (b : List qr) : AV := .sl 3 (b.map q8) none
theorem qo8 (b:List qr) (st:List AObj) (e:ErrV) (h:eErr b=e) (hB:∀ x∈b,EdB x) (hl:b.length<9223372036854775808):qn E 92 [jm b] st fun r st'=>r=errA e∧st'=st:=by
 subst h
 refine jo [.a (jm b)] (qb5 _) Tryz.func92 rfl rfl (fun _=>rfl) rfl fun S0=>?_
 have hml:(b.map q8).length=b.length:=by simp
 have h1:b.length<1∨40<b.length→eErr b = .num 1:=fun h=>if_pos h
 have hr:¬ (b.length<1∨40<b.length)→eErr b=qah 0 b:=fun h=>if_neg h
 apply ql []
 repeat' (first|apply And.intro|(intro h;try exact cDd)|exact cSd|apply qg []|refine exr ?_|refine qp ?_)
 ·rw [h1 (by omega)];rfl
 ·rw [h1 (by omega)];rfl
 rw [hr (by omega)]
 refine vm (X:=Nat) (fun k=>⟨[(15,.a (jm b)),(16,.i (b.map q8).length),(17,.i k)],[],0⟩) (fun k=>k≤b.length∧qah k (b.drop k)=qah 0 b) (fun k=>b.length - k) 0 ⟨by omega,rfl⟩ ?_ ?_
 ·skip
  repeat' (first|apply And.intro|(intro h;try exact cDd)|exact cSd|apply qg []|refine exr ?_|refine qp ?_)
 ·rintro k ⟨hk,hc⟩
  by_cases hlt:k<b.length
  ·obtain⟨y,hy⟩:∃ y,b[k]? = some y:=⟨_,List.getElem?_eq_getElem hlt⟩
   have hget:=qtv hy
   have hky:=hB y (List.mem_of_getElem? hy)
   obtain⟨_,hye⟩:=List.getElem?_eq_some_iff.1 hy
   rw [List.drop_eq_getElem_cons hlt,hye,qah] at hc
   have hc9:=fun st=>zbg y st _ rfl hky.keys hky.len
   have hcf:=fun st=>q8n k (gErr y) st
   rw [← hc]
   cases hg:gErr y
   all_goals rw [hg] at hc hc9 hcf
   ·apply ql [4]
    repeat' (first|apply And.intro|(intro h;try exact cDd)|(refine Exists.intro (k) ⟨by omega,_,hget,?_⟩)|exact⟨Tryz.call152⟩|refine cpe hc9 ?_|(refine Exists.intro (k+1) ⟨⟨by omega,(if_pos rfl).symm⟩,by omega,?_⟩)|exact cSd|apply qg [4]|refine exr ?_|refine qp ?_)
   all_goals have hgc:=fun h=>qmo y |>.1 h
   all_goals rw [hg] at hgc
   all_goals rw [if_neg fun h=>nomatch hgc h]
   ·have hcg:=fun st=>hcf st fun h=>nomatch hgc h
    apply ql [4]
    repeat' (first|apply And.intro|(intro h;try exact cDd)|(refine Exists.intro (k) ⟨by omega,_,hget,?_⟩)|exact⟨Tryz.call152⟩|refine cpe hc9 ?_|exact⟨Tryz.call95⟩|refine cpe hcg ?_|exact cSd|apply qg [4]|refine exr ?_|refine qp ?_)
   ·have hcg:=fun st=>hcf st fun h=>nomatch hgc h
    apply ql [4]
    repeat' (first|apply And.intro|(intro h;try exact cDd)|(refine Exists.intro (k) ⟨by omega,_,hget,?_⟩)|exact⟨Tryz.call152⟩|refine cpe hc9 ?_|exact⟨Tryz.call95⟩|refine cpe hcg ?_|exact cSd|apply qg [4]|refine exr ?_|refine qp ?_)
  ·rw [List.drop_eq_nil_of_le (by omega),qah] at hc
   rw [← hc]
   apply ql []
   repeat' (first|apply And.intro|(intro h;try exact cDd)|exact cSd|apply qg []|refine exr ?_|refine qp ?_)
theorem q1t (a b:Int):Pure (.tu [Iv a,Iv b]):=wl (qx _) (qx _)
theorem qyp (fs:List Fld) (st:List AObj) (hK:KeyB fs) (hl:fs.length<9223372036854775808):qn E 233 [jj fs] st fun r st'=>r = .tu [Iv (wr fs).pos,Iv (wr fs).code]∧st'=st:=by
 refine jo [.a (jj fs)] (q1t _ _) Tryz.func233 rfl rfl (fun _=>rfl) rfl fun S0=>?_
 have hml:(fs.map fldA).length=fs.length:=by simp
 apply ql []
 repeat' (first|apply And.intro|(intro h;try exact cDd)|exact cSd|apply qg []|refine exr ?_|refine qp ?_)
 ·rw [qtm (by omega)];rfl
 ·rw [qqm (by omega)];rfl
 rw [qtn (by omega) (by omega)]
 refine vm (X:=Nat) (fun k=>⟨[(0,.a (jj fs)),(4,.i k)],[],0⟩) (fun k=>k≤fs.length∧xf k (fs.drop k)=xf 0 fs) (fun k=>fs.length - k) 0 ⟨by omega,rfl⟩ ?_ ?_
 ·skip
  repeat' (first|apply And.intro|(intro h;try exact cDd)|exact cSd|apply qg []|refine exr ?_|refine qp ?_)
 ·rintro k ⟨hk,hc⟩
  by_cases hlt:k<fs.length
  ·obtain⟨y,hy⟩:∃ y,fs[k]? = some y:=⟨_,List.getElem?_eq_getElem hlt⟩
   have hget:=qxc hy
   have hky:=hK y (List.mem_of_getElem? hy)
   obtain⟨_,hye⟩:=List.getElem?_eq_some_iff.1 hy
   rw [List.drop_eq_getElem_cons hlt,hye,xf] at hc
   have hc4:=fun st=>qyo y st hky
   rw [← hc]
   apply ql []
   repeat' (first|apply And.intro|(intro h;try exact cDd)|(refine Exists.intro (k) ⟨by omega,_,hget,?_⟩)|exact⟨Tryz.call293⟩|refine cpe hc4 ?_|(refine Exists.intro (k+1) ⟨⟨by omega,by simp_all⟩,by omega,?_⟩)|exact cSd|apply qg []|refine exr ?_|refine qp ?_)
   all_goals (rw [if_neg (by assumption)];rfl)
  ·rw [List.drop_eq_nil_of_le (by omega),xf] at hc
   rw [← hc]
   apply ql []
   repeat' (first|apply And.intro|(intro h;try exact cDd)|exact cSd|apply qg []|refine exr ?_|refine qp ?_)
theorem q0e (x:qr) (st:List AObj) (hK:EdB x):qn E 158 [q8 x] st fun r st'=>r=Iv (gErr x).code∧st'=st:=by
 refine jo [.a (q8 x)] (qx _) Tryz.func158 rfl rfl (fun _=>rfl) rfl fun S0=>?_
 have hml:(x.fields.map fldA).length=x.fields.length:=by simp
 have hpos:x.fields=[]↔x.fields.length=0:=by simp
 have hc6:=fun st=>qyp x.fields st hK.keys hK.len
 have hg:(gErr x).code=if x.kind=2 then (if x.fields.length=0 then 0 else 2) else if x.kind=1∨x.kind=3 then (wr x.fields).code else 2:=by
  unfold gErr
  simp only [apply_ite ErrV.code,hpos]
  rfl
 rw [hg]
 generalize (wr x.fields).code=c at *
 apply ql [1]
 repeat' (first|apply And.intro|(intro h;try exact cDd)|exact⟨Tryz.call233⟩|refine cpe hc6 ?_|exact cSd|apply qg [1]|refine exr ?_|refine qp ?_)
 all_goals clear hc6
 all_goals refine congrArg Iv ?_
 all_goals omega
theorem qm6 (b:List qr) (st:List AObj) (hB:∀ x∈b,EdB x) (hl:b.length<9223372036854775808):qn E 96 [jm b] st fun r st'=>r = .tu [Iv (eErr b).pos,Iv (eErr b).code]∧st'=st:=by
 refine jo [.a (jm b)] (q1t _ _) Tryz.func96 rfl rfl (fun _=>rfl) rfl fun S0=>?_
 have hml:(b.map q8).length=b.length:=by simp
 have h1:b.length<1∨40<b.length→eErr b = .num 1:=fun h=>if_pos h
 have hr:¬ (b.length<1∨40<b.length)→eErr b=qah 0 b:=fun h=>if_neg h
 apply ql []
 repeat' (first|apply And.intro|(intro h;try exact cDd)|exact cSd|apply qg []|refine exr ?_|refine qp ?_)
 ·rw [h1 (by omega)];rfl
 ·rw [h1 (by omega)];rfl
 rw [hr (by omega)]
 refine vm (X:=Nat) (fun k=>⟨[(0,.a (jm b)),(4,.i k)],[],0⟩) (fun k=>k≤b.length∧qah k (b.drop k)=qah 0 b) (fun k=>b.length - k) 0 ⟨by omega,rfl⟩ ?_ ?_
 ·skip
  repeat' (first|apply And.intro|(intro h;try exact cDd)|exact cSd|apply qg []|refine exr ?_|refine qp ?_)
 ·rintro k ⟨hk,hc⟩
  by_cases hlt:k<b.length
  ·obtain⟨y,hy⟩:∃ y,b[k]? = some y:=⟨_,List.getElem?_eq_getElem hlt⟩
   have hget:=qtv hy
   have hky:=hB y (List.mem_of_getElem? hy)
   obtain⟨_,hye⟩:=List.getElem?_eq_some_iff.1 hy
   rw [List.drop_eq_getElem_cons hlt,hye,qah] at hc
   have hc9:=fun st=>q0e y st hky
   rw [← hc]
   apply ql []
   repeat' (first|apply And.intro|(intro h;try exact cDd)|(refine Exists.intro (k) ⟨by omega,_,hget,?_⟩)|exact⟨Tryz.call158⟩|refine cpe hc9 ?_|(refine Exists.intro (k+1) ⟨⟨by omega,by simp_all⟩,by omega,?_⟩)|exact cSd|apply qg []|refine exr ?_|refine qp ?_)
   all_goals (rw [if_neg (by assumption)];rfl)
  ·rw [List.drop_eq_nil_of_le (by omega),qah] at hc
   rw [← hc]
   apply ql []
   repeat' (first|apply And.intro|(intro h;try exact cDd)|exact cSd|apply qg []|refine exr ?_|refine qp ?_)
def okE:ErrV→Prop
 | .no=>True
 | .num n=>n≠0
 | .at' _ n=>n≠0
theorem zdb (e:ErrV) (st:List AObj) (he:okE e):qn E 16 [errA e] st fun r st'=>r=Iv e.code∧st'=st:=by
 refine qu (qx _) (qo Tryz.func16 rfl (Nat.le_of_ble_eq_true rfl) ?_)
 cases e with
 |no=>
  repeat' (first|apply qm|apply qt|apply qd|apply qc|apply qi|apply qe)
  refine jh (fun (k:Unit) s=>StA [(0,.v .nilIface),(7,Iv 0)] (st++[]) [] s) (fun k=>0) () (zw ⟨rfl,rfl,trivial⟩) ?_
  rintro k _ ⟨t,rfl⟩
  repeat' (first|apply qm|apply qt|apply qd|apply qc|apply qi|apply qe|(apply qq;(iterate 3 exact rfl))|(apply qb;exact rfl;apply ki;exact cAo)|(apply qb;exact rfl;apply cd_t;exact cRa)|(apply qd7;exact rfl;exact rfl)|apply qw|apply qs)
  exact qk rfl (qz rfl) ⟨rfl,_,rfl⟩
 |num n=>
  have hk:n≠0:=he
  repeat' (first|apply qm|apply qt|apply qd|apply qc|apply qi|apply qe)
  refine jh (fun (k:Unit) s=>StA [(0,errA (.num n)),(7,Iv 0)] (st++[]) [] s) (fun k=>0) () (zw ⟨rfl,rfl,trivial⟩) ?_
  rintro k _ ⟨t,rfl⟩
  repeat' (first|apply qm|apply qt|apply qd|apply qc|apply qi|apply qe|(apply q9;exact rfl;exact rfl)|(apply qq;(iterate 3 exact rfl))|(apply qv;(iterate 4 exact rfl))|(apply yj;exact cRa)|(apply qh;exact rfl;apply pk_t;exact cRa)|(apply qb;exact rfl;apply ki;exact cAo)|(apply qb;exact rfl;apply cd_f;exact cRa)|(apply qa2;exact rfl;exact rfl)|apply qw|apply qs|(apply qde;(iterate 3 exact rfl)))
  exact qk rfl (qz rfl) ⟨rfl,_,rfl⟩
 |at' a n=>
  have hk:n≠0:=he
  repeat' (first|apply qm|apply qt|apply qd|apply qc|apply qi|apply qe)
  refine jh (fun (j:Nat) s=>(j=0∧StA [(0,errA (.at' a n)),(7,Iv 0)] (st++[]) [] s)∨(j=1∧StA [(0,errA (.num n)),(7,Iv 1)] (st++[]) [] s)) (fun j=>1 - j) 0 (.inl ⟨rfl,zw ⟨rfl,rfl,trivial⟩⟩) ?_
  rintro j _ (⟨rfl,t,rfl⟩ | ⟨rfl,t,rfl⟩)
  ·skip
   repeat' (first|apply qm|apply qt|apply qd|apply qc|apply qi|apply qe|(apply q9;exact rfl;exact rfl)|(apply qq;(iterate 3 exact rfl))|(apply jd;exact rfl)|(apply qv;(iterate 4 exact rfl))|(apply yw;exact cRa)|(apply qei;exact cRa)|(apply ww;exact cRa)|(apply qh;exact rfl;apply qec;exact cRa)|(apply qh;exact rfl;apply pk_f;exact cRa)|(apply qb;exact rfl;apply ki;exact cAo)|(apply qb;exact rfl;apply cd_f;exact cRa)|(apply zt;exact rfl;exact rfl;exact zb (by omega) (by omega))|(apply qa2;exact rfl;exact rfl)|(apply qae;(iterate 4 exact rfl))|(apply zg;(iterate 3 exact rfl))|(apply w6;exact rfl;exact rfl)|(apply qck;(iterate 3 exact rfl))|apply qw|(apply qih;(iterate 5 exact rfl))|(apply qde;(iterate 3 exact rfl)))
   exact⟨1,.inr ⟨rfl,zw ⟨rfl,rfl,trivial⟩⟩,by omega⟩
  ·skip
   repeat' (first|apply qm|apply qt|apply qd|apply qc|apply qi|apply qe|(apply q9;exact rfl;exact rfl)|(apply qq;(iterate 3 exact rfl))|(apply qv;(iterate 4 exact rfl))|(apply yj;exact cRa)|(apply qh;exact rfl;apply pk_t;exact cRa)|(apply qb;exact rfl;apply ki;exact cAo)|(apply qb;exact rfl;apply cd_f;exact cRa)|(apply qa2;exact rfl;exact rfl)|apply qw|apply qs|(apply qde;(iterate 3 exact rfl)))
   exact qk rfl (qz rfl) ⟨rfl,_,rfl⟩
theorem zdw (e:ErrV) (st:List AObj):qn E 17 [errA e] st fun r st'=>r=Iv e.pos∧st'=st:=by
 refine qu (qx _) (qo Tryz.func17 rfl (Nat.le_of_ble_eq_true rfl) ?_)
 cases e with
 |no=>
  repeat' (first|apply qm|apply qd|apply qc|apply qi|apply qe|(apply q9;exact rfl;exact rfl)|(apply qv;(iterate 4 exact rfl))|(apply ww;exact cRa)|(apply qh;exact rfl;apply pk_f;exact cRa)|(apply qb;exact rfl;apply cd_f;exact cRa)|apply qw|apply qs|(apply qr9;(iterate 4 exact rfl)))
  exact qk rfl (qz rfl) ⟨rfl,_,rfl⟩
 |num n=>
  repeat' (first|apply qm|apply qd|apply qc|apply qi|apply qe|(apply q9;exact rfl;exact rfl)|(apply qv;(iterate 4 exact rfl))|(apply ww;exact cRa)|(apply qh;exact rfl;apply pk_f;exact cRa)|(apply qb;exact rfl;apply cd_f;exact cRa)|apply qw|apply qs|(apply qih;(iterate 5 exact rfl)))
  exact qk rfl (qz rfl) ⟨rfl,_,rfl⟩
 |at' a n=>
  repeat' (first|apply qm|apply qd|apply qc|apply qi|apply qe|(apply q9;exact rfl;exact rfl)|(apply qv;(iterate 4 exact rfl))|(apply yj;exact cRa)|(apply qh;exact rfl;apply pk_t;exact cRa)|(apply qb;exact rfl;apply qkr;exact cRa)|(apply qae;(iterate 4 exact rfl))|(apply zg;(iterate 3 exact rfl))|(apply w6;exact rfl;exact rfl)|(apply qgu;(iterate 3 exact rfl))|apply qs|(apply qde;(iterate 3 exact rfl)))
  exact qk rfl (qz rfl) ⟨rfl,_,rfl⟩
def jx (x:qr):qa:=jz x++[10]++yn [32,32] (jt x.fields)
def encF (b:List qr):qa:=b.flatMap jx
theorem qw2 (a b:List qr):encF (a++b)=encF a++encF b:=by simp [encF]
theorem qw3 (x:qr):encF [x]=jx x:=by simp [encF]
theorem qqn:∀ (k:Nat) (r:List Fld),xf k r = .no↔∀ f∈r,ju f
 |k,[]=>by simp [xf]
 |k,f::r=>by
  unfold xf
  split
  ·rename_i h
   rw [qqn (k+1) r]
   have:=(qcn f).1 h
   simp [this]
  ·rename_i h
   have h2:¬ ju f:=fun g=>h ((qcn f).2 g)
   simp [h2]
theorem q2r {fs:List Fld} (h:wr fs = .no):fs≠[]∧fs.length≤40∧∀ f∈fs,ju f:=by
 unfold wr at h
 split at h
 ·exact absurd h (by simp)
 ·split at h
  ·exact absurd h (by simp)
  ·exact⟨by assumption,by omega,(qqn _ _).1 h⟩
theorem qnk {x:qr} (h:gErr x = .no):x.fields.length≤40∧∀ f∈x.fields,ju f:=by
 unfold gErr at h
 split at h
 ·split at h
  ·rename_i h0;rw [h0];simp
  ·exact absurd h (by simp)
 ·split at h
  ·exact (q2r h).2
  ·exact absurd h (by simp)
theorem qw0:∀ (k:Nat) (b:List qr),qah k b = .no↔∀ x∈b,gErr x = .no
 |k,[]=>by simp [qah]
 |k,x::b=>by
  unfold qah
  split
  ·rename_i h
   rw [qw0 (k+1) b]
   have:=(qmo x).1 h
   simp [this]
  ·rename_i h
   have h2:¬ gErr x = .no:=fun g=>h ((qmo x).2 g)
   simp [h2]
theorem qjz {b:List qr} (h:eErr b = .no):1≤b.length∧b.length≤40∧∀ x∈b,gErr x = .no:=by
 unfold eErr at h
 split at h
 ·exact absurd h (by simp)
 ·exact⟨by omega,by omega,(qw0 _ _).1 h⟩
theorem q5p {fs:List Fld} (hl:fs.length≤40) (h:∀ f∈fs,ju f):q18 fs:=⟨by omega,fun f hf=>by
 have:=h f hf
 have h1:=this.1.2.1
 have h2:=this.2
 omega⟩
theorem q3a (xs:List FldV) (st:List AObj) (hl:xs.length≤40) (h:∀ f∈xs,ju f):qn E 167 [jj xs] st fun r st'=>r = .tu [Sv (jt xs),.v .nilIface]∧st'=st:=by
 have:=zc0 xs st (q5p hl h)
 unfold qq0 at this
 have h0:=(qml xs).2 h
 rw [if_pos h0,h0] at this
 exact this
theorem qjh (l:qa):(yn [32,32] l).length≤3 * l.length:=by
 unfold yn
 obtain⟨h1,h2⟩:=qer _ l (Nat.le_refl _)
 have:=qkz [32,32] (zr l)
 simp only [List.length_cons,List.length_nil] at this
 omega
theorem qmu (x:qr) (h1 : -9223372036854775808≤x.id) (h2:x.id≤9223372036854775807):(jz x).length≤100:=by
 have hn:=Lib.itoa_length_le x.id h1 h2
 unfold jz x9
 split
 ·split
  ·simp;omega
  ·split
   ·simp;omega
   ·split <;> simp <;> omega
 ·simp
theorem q23 {x:qr} (hB:EdB x) (h:gErr x = .no):(jx x).length≤700000:=by
 obtain⟨hl,hg⟩:=qnk h
 have h1:=qgo x.fields hg
 have h2:=qjh (jt x.fields)
 have h3:=qmu x hB.id1 hB.id2
 unfold jx
 simp only [List.length_append,List.length_cons,List.length_nil]
 omega
theorem qkt:∀ (b:List qr),(∀ x∈b,EdB x)→(∀ x∈b,gErr x = .no)→(encF b).length≤700000 * b.length
 | [],_,_=>by simp [encF]
 |x::r,hB,h=>by
  have ih:=qkt r (fun y hy=>hB y (by simp [hy])) (fun y hy=>h y (by simp [hy]))
  have h1:=q23 (hB x (by simp)) (h x (by simp))
  have e:encF (x::r)=jx x++encF r:=by simp [encF]
  rw [e,List.length_append,List.length_cons]
  omega
set_option maxHeartbeats 2000000 in
theorem qty (b:List qr) (st:List AObj) (hB:∀ x∈b,EdB x) (he:eErr b = .no):qn E 103 [jm b] st fun r st'=>r = .tu [Sv (encF b),.v .nilIface]∧st'=st:=by
 refine qu (wl (qx _) (qx _)) (qo Tryz.func103 rfl (Nat.le_of_ble_eq_true rfl) ?_)
 have hml:(b.map q8).length=b.length:=by simp
 obtain⟨hb1,hb40,hg⟩:=qjz he
 have hel:=qkt b hB hg
 repeat' (first|(apply qjc;exact rfl)|apply qm|apply qt|apply qd|apply qc|apply qi|apply qe|(apply qb;exact rfl;apply cd_f;exact cRa)|(apply kl;(iterate 4 exact rfl))|(apply vt;exact rfl;exact rfl)|apply qw|(apply qf;exact Tryz.call92;exact qo8 _ _ _ he hB (by omega)))
 refine qa7 b (fun pre s=>∃ q,(q = .v (.pointer none)∨q = .bx (st.length+0) 0 0)∧StE [(5,.bx (st.length+0) 0 0),(15,jm b),(16,Iv b.length),(17,Iv pre.length)] st [bldO 0 q (encF pre) (st.length+1),.tip (encF pre).length 1 5] s) ⟨_,.inl rfl,qcs ⟨rfl,rfl,congrArg (fun n:Nat=>Iv (n:Int)) hml,rfl,trivial⟩ rfl⟩ ?_ ?_
 ·rintro _ ⟨q,hq,t,ext,rfl⟩
  repeat' (first|apply qm|apply qd|apply qc|apply qe|(apply qq;(iterate 3 exact rfl))|(apply qb;exact rfl;apply vw;exact cAo)|apply z7|apply qs|(refine qf Tryz.call171 (qje st _ _ _ _ 0 1 0 _ _ rfl rfl rfl) ?_))
  exact qk rfl (j5 rfl) ⟨rfl,xg _ _ _ _⟩
 ·rintro pre x rest _ hr ⟨q,hq,t,ext,rfl⟩
  have hlen:b.length=pre.length+(rest.length+1):=by rw [hr];simp
  have hget:(b.map q8)[pre.length]? = some (q8 x):=by rw [hr];simp
  have hxb:=hB x (by rw [hr];simp)
  have hxg:=hg x (by rw [hr];simp)
  obtain⟨hfl,hfg⟩:=qnk hxg
  have hpl:=qkt pre (fun y hy=>hB y (by rw [hr];simp [hy])) (fun y hy=>hg y (by rw [hr];simp [hy]))
  have hll:=qmu x hxb.id1 hxb.id2
  have hfo:=qgo x.fields hfg
  have hin:=qjh (jt x.fields)
  repeat' (first|apply qm|apply qt|apply qd|apply qc|apply qi|apply qe|(apply q9;exact rfl;exact rfl)|(apply qq;(iterate 3 exact rfl))|(apply qb;exact rfl;apply ki;exact cAo)|(apply qb;exact rfl;apply cd_f;exact cRa)|(apply jl;exact rfl;exact rfl;exact cOs)|(apply vt;exact rfl;exact rfl)|(apply kc;exact rfl;exact rfl)|(apply zm;(iterate 3 exact rfl))|(apply zg;(iterate 3 exact rfl))|(apply za;(iterate 5 exact rfl))|(apply jk;(iterate 11 exact rfl))|(apply zx;(iterate 9 exact rfl))|apply qw|(apply qf;exact Tryz.call167;exact q3a _ _ hfl hfg)|(apply qf;exact Tryz.call169;exact zc6 _ _ hxb.id1 hxb.id2)|(apply qf;exact Tryz.call170;exact q8w _ _ _ (by omega) (by decide))|(apply kr (n:=pre.length);(iterate 5 exact rfl);exact hget))
  refine qf Tryz.call168 (qkq st _ _ _ _ 0 1 0 _ _ _ rfl rfl ?_ ?_ rfl) ?_;(exact hq);(simp only [List.length_append,List.length_cons,List.length_nil];omega)
  repeat' (first|apply qd|apply qc|apply qi|(apply zt;exact rfl;exact rfl;exact zb (by omega) (by omega)))
  refine⟨_,.inr rfl,qaf ⟨rfl,rfl,rfl,?_,trivial⟩ ?_⟩
  ·rw [qdb pre x];rfl
  ·have e:encF (pre++[x])=encF pre++((jz x++[10])++yn [32,32] (jt x.fields)):=by rw [qw2,qw3];rfl
   rw [e];rfl
theorem qiu (b:List qr) (st:List AObj) (e:ErrV) (hB:∀ x∈b,EdB x) (hl:b.length<9223372036854775808) (he:eErr b=e) (h0:e.code≠0):qn E 103 [jm b] st fun r st'=>r = .tu [Sv [],errA e]∧st'=st:=by
 refine qu (wl (qx _) (qb5 _)) (qo Tryz.func103 rfl (Nat.le_of_ble_eq_true rfl) ?_)
 cases e with
 |no=>exact absurd rfl h0
 |num n=>
  repeat' (first|apply qm|apply qd|apply qc|apply qi|apply qe|(apply qb;exact rfl;apply cd_t;exact cRa)|(apply wz;exact rfl;exact rfl)|apply qs|(apply qf;exact Tryz.call92;exact qo8 _ _ _ he hB hl))
  exact qk rfl (j5 rfl) ⟨rfl,_,rfl⟩
 |at' a n=>
  repeat' (first|apply qm|apply qd|apply qc|apply qi|apply qe|(apply qb;exact rfl;apply cd_t;exact cRa)|(apply wz;exact rfl;exact rfl)|apply qs|(apply qf;exact Tryz.call92;exact qo8 _ _ _ he hB hl))
  exact qk rfl (j5 rfl) ⟨rfl,_,rfl⟩
end Go.Proofs.YtneejjefekdgjaaGreatDoor
namespace Go.Av
open Go Go.RowKit
theorem j8 {b:Nat} {st l:List AObj} {sz:Nat} {T:TypeId} {xs:List AV} {c:AV} (h:TipO b st sz T xs c):TipO b (st++l) sz T xs c:=by
 rcases h with h|h
 ·exact .inl (qid h)
 ·exact .inr h
theorem q10 {b:Nat} {st st':List AObj} {sz:Nat} {T:TypeId} {xs:List AV} {c:AV} (hs:∀ (t m sz:Nat) (T:TypeId),st[t]? = some (AObj.tip m sz T)→st'[t]? = st[t]?) (h:TipO b st sz T xs c):TipO b st' sz T xs c:=by
 rcases h with (h | ⟨t,h1,h2,h3⟩)|h
 ·exact .inl (.inl h)
 ·exact .inl (.inr ⟨t,h1,(hs t _ _ _ h2).trans h2,h3⟩)
 ·exact .inr h
end Go.Av
namespace Go.Proofs.YtneejjefekdgjaaGreatDoor
open Go Go.Av Go.RowKit Go.Proofs Go.Pl
theorem qso {st l:List AObj}:st.length≤(st++l).length:=by simp
theorem jv {b o:Nat} {st:List AObj} {sz:Nat} {T:TypeId} {xs:List AV} {c:AV} {x:AObj} (h:TipO b st sz T xs c) (hn:qh5 st[o]?):TipO b (st.set o x) sz T xs c:=
 q10 (fun t m sz T ht=>List.getElem?_set_ne (fun e=>by subst e;exact hn _ _ _ ht)) h
structure OutI (st:List AObj) (S:List AObj):Prop where
 low:∀ j,j<st.length→S[j]? = st[j]?
 len:st.length≤S.length
theorem OutI.pre {st S l:List AObj} (h:OutI st S):OutI st (S++l):=⟨fun j hj=>(List.getElem?_append_left (by have:=h.len;omega)).trans (h.low j hj),by have:=h.len;simp;omega⟩
theorem OutI.set {st S:List AObj} {o:Nat} {x:AObj} (h:OutI st S) (ho:st.length≤o):OutI st (S.set o x):=⟨fun j hj=>(qol (by omega)).trans (h.low j hj),by have:=h.len;simp;omega⟩
theorem OutI.fr {st S S':List AObj} {t:Nat} (h:OutI st S) (hf:Fr S S' t) (ht:st.length≤t):OutI st S':=⟨fun j hj=>(hf.same j (by omega) (by have:=h.len;omega)).trans (h.low j hj),Nat.le_trans h.len hf.len⟩
theorem OutI.ext {st S:List AObj} (h:OutI st S):∃ ext,S=st++ext:=qsn h.low
theorem qef {E:Env} {rd:Option Nat} {N:Nat} {ops:Array Oper} {K:AS→Prop} {s:AS} {rest:List Oper} {d:Option Tmp} {T:TypeId} {p:String} {af:Array Edge} {t e:TypeId} {len sz:Nat} {agg:Bool} {parts:Array (Nat×Operand)} {zs cs:List AV} {st:List AObj} (hst:s.st=st) (hu:E.P.underlying t=some (.slice e)) (ht:tyOf E.P e=some (sz,agg)) (hz:qfp E.P e len=some zs)
  (hf:qbr (fun i=>some (i * sz,sz)) zs (vb N s parts)=some cs) (hsz:Nat.ble (len * sz) 16777216=true)
  (h:AOps E rd N ops rest K (AS.put ⟨s.t,st++[.cells 0 e cs],s.df⟩ d (.os st.length 0 0 len len))):AOps E rd N ops (⟨d,.buildSlice t len parts,T,p,af,none⟩::rest) K s:=
 qas (loc:=[]) (by rw [hst];simp) hu ht hz hf hsz h
theorem kz (fs:List Fld) (st:List AObj) (hl:fs.length<1000000):qn E 102 [jj fs] st fun r st'=>r=jj fs∧st'=st:=by
 refine qu (qcd _) (qo Tryz.func102 rfl (Nat.le_of_ble_eq_true rfl) ?_)
 have hml:(fs.map fldA).length=fs.length:=by simp
 rw [List.append_nil]
 repeat' (first|(apply qef (st:=st);(iterate 6 exact rfl))|apply qm|apply qd|apply qc|apply qi|apply qe|apply qs|(apply z0 (b:=st.length) (xs:=[]) (ys:=fs.map fldA) (bytes:=32);(iterate 5 exact rfl);exact⟨⟨_,_,rfl,rfl,rfl,rfl,rfl⟩⟩;(focus (repeat' (first|assumption|exact kj _ _ _ _|exact vc _ _ _ _ _ _ _|apply j8|apply jv|(refine zq (T:=_) (ver:=_) (cs:=_) ?_)|exact jb|exact zl rfl|apply zy|apply zi|omega|apply jf)));(exact qso);(first|exact rfl|exact jc fun _=>rfl);((simp [maxLen];omega));((simp;omega));intro c' S' t1 g1 g2 g3 g4))
 refine qk rfl (xb (qz rfl) (qib g1)) ⟨rfl,qsn fun j hj=>(g2.same j (by omega) (Nat.lt_of_lt_of_le hj qso)).trans (List.getElem?_append_left hj)⟩
theorem qf8 (x:qr):qni (q8 x):=fun y hy=>by
 simp only [AV.cells,List.mem_cons,List.not_mem_nil,or_false] at hy
 rcases hy with rfl|rfl|rfl
 ·exact qx _
 ·exact qx _
 ·exact qcd _
theorem qco (b:List qr):Pure (jm b):=qew fun x hx=>by
 obtain⟨f,_,rfl⟩:=List.mem_map.1 hx
 exact qf8 f
theorem yp {α β : Type} (g : α→β) (l:List α) (a : α):(l++[a]).map g=l.map g++[g a]:=by simp
theorem zd0 (b:List qr) (st:List AObj) (hl:b.length<1000000) (hf:∀ x∈b,x.fields.length<1000000):qn E 52 [jm b] st fun r st'=>r=jm b∧st'=st:=by
 refine qu (qco _) (qo Tryz.func52 rfl (Nat.le_of_ble_eq_true rfl) ?_)
 have hml:(b.map q8).length=b.length:=by simp
 rw [List.append_nil]
 repeat' (first|(apply qef (st:=st);(iterate 6 exact rfl))|apply qm|apply qt|apply qd|apply qc|apply qi|apply qe|(apply kl;(iterate 4 exact rfl)))
 refine qa7 b (fun pre s=>∃ c S,OutI st S∧TipO st.length S 3 113 (pre.map q8) c∧StA [(3,c),(7,jm b),(8,Iv b.length),(9,Iv pre.length)] S [] s) ⟨_,_,(⟨fun j hj=>List.getElem?_append_left hj,by simp⟩:OutI st (st++[_])),vc ..,zw ⟨rfl,rfl,congrArg (fun n:Nat=>Iv (n:Int)) hml,rfl,trivial⟩⟩ ?_ ?_
 ·rintro _ ⟨c,S,hO,hT,t,rfl⟩
  repeat' (first|apply qm|apply qd|apply qc|apply qi|apply qe|(apply qq;(iterate 3 exact rfl))|(apply qb;exact rfl;apply vw;exact cAo)|apply z7|apply qs)
  exact qk rfl (xb (qz rfl) (qib hT)) ⟨rfl,hO.ext⟩
 ·rintro pre x rest _ hr ⟨c,S,hO,hT,t,rfl⟩
  have hlen:b.length=pre.length+(rest.length+1):=by rw [hr];simp
  have hget:(b.map q8)[pre.length]? = some (q8 x):=by rw [hr];simp
  have hxf:=hf x (by rw [hr];simp)
  have hSl:=hO.len
  have hO1:OutI st ((S++[AObj.cells 0 113 [Iv 0,Iv 0,zu]]).set S.length (.cells 0 113 (q8 x).cells)):=hO.pre.set hSl
  have hT1:TipO st.length ((S++[AObj.cells 0 113 [Iv 0,Iv 0,zu]]).set S.length (.cells 0 113 (q8 x).cells)) 3 113 (pre.map q8) c:=jv (j8 hT) (zq jb)
  repeat' (first|apply qm|apply qt|apply qd|apply qc|(apply qq;(iterate 3 exact rfl))|(apply qb;exact rfl;apply ki;exact cAo)|(apply zg;(iterate 3 exact rfl))|apply qw|(apply qf5 (st:=S);exact rfl;exact rfl)|(apply xj;exact rfl;exact rfl;(focus first|assumption|(repeat' (first|assumption|exact jb|exact zl rfl|apply zy|apply zi|omega|apply jf)));(iterate 6 exact rfl))|(apply kr (n:=pre.length);(iterate 5 exact rfl);exact hget))
  have hob:((S++[AObj.cells 0 113 [Iv 0,Iv 0,zu]]).set S.length (.cells 0 113 (q8 x).cells))[S.length]? = some (.cells 0 113 (q8 x).cells):=zy jb
  refine zaw (fun s=>∃ c S',OutI st S'∧TipO st.length S' 3 113 ((pre++[x]).map q8) c∧StA [(3,c),(7,jm b),(8,Iv b.length),(9,Iv pre.length)] S' [] s) ?_ ?_
  ·refine qti rfl rfl ?_
   (apply kp 0;exact rfl;kernel_rfl;kernel_rfl;kernel_rfl;exact rfl;exact zax)
   (apply kp 1;exact rfl;kernel_rfl;kernel_rfl;kernel_rfl;exact rfl;(first|(apply qe9;(iterate 3 exact rfl))|(apply qfa;(iterate 4 exact rfl))))
   (apply kp 3;exact rfl;kernel_rfl;kernel_rfl;kernel_rfl;exact rfl;(first|(apply qe9;(iterate 3 exact rfl))|(apply qfa;(iterate 4 exact rfl))))
   (apply kp 5;exact rfl;kernel_rfl;kernel_rfl;kernel_rfl;exact rfl;(first|(apply qe9;(iterate 3 exact rfl))|(apply qfa;(iterate 4 exact rfl))))
   refine ja [2,4,6] (by kernel_rfl) rfl ⟨⟨_,rfl,?_⟩,⟨_,rfl,?_⟩,⟨_,rfl,?_⟩,trivial⟩
   ·(first|(apply zh;exact rfl;exact hob;exact rfl;exact rfl)|(apply zz;(iterate 5 exact rfl))|(apply za;(iterate 5 exact rfl))|(apply zg;(iterate 3 exact rfl)))
    apply qc
    refine ja [4,6] (by kernel_rfl) rfl ⟨⟨_,rfl,?_⟩,⟨_,rfl,?_⟩,trivial⟩
    ·(first|(apply zh;exact rfl;exact hob;exact rfl;exact rfl)|(apply zz;(iterate 5 exact rfl))|(apply za;(iterate 5 exact rfl))|(apply zg;(iterate 3 exact rfl)))
     apply qc
     refine ja [6] (by kernel_rfl) rfl ⟨⟨_,rfl,?_⟩,trivial⟩
     (first|(apply zh;exact rfl;exact hob;exact rfl;exact rfl)|(apply zz;(iterate 5 exact rfl))|(apply za;(iterate 5 exact rfl))|(apply zg;(iterate 3 exact rfl)))
     apply qc
     refine ja [7] (by kernel_rfl) rfl ⟨⟨_,rfl,?_⟩,trivial⟩
     (first|(apply qf;exact Tryz.call102;exact kz _ _ hxf)|(apply z0 (b:=st.length) (xs:=pre.map q8) (ys:=[q8 x]) (bytes:=40);(iterate 5 exact rfl);exact⟨⟨_,_,rfl,rfl,rfl,rfl,rfl⟩⟩;(focus (repeat' (first|assumption|exact kj _ _ _ _|exact vc _ _ _ _ _ _ _|apply j8|apply jv|(refine zq (T:=_) (ver:=_) (cs:=_) ?_)|exact jb|exact zl rfl|apply zy|apply zi|omega|apply jf)));(exact hO1.len);(first|exact rfl|exact jc fun _=>rfl);((simp [maxLen];omega));((simp;omega));intro c' S' t1 g1 g2 g3 g4))
     apply qc
     (apply kp 8;exact rfl;kernel_rfl;kernel_rfl;kernel_rfl;exact rfl;(apply y8;(iterate 3 exact rfl)))
     refine ja [9] (by kernel_rfl) rfl ⟨⟨_,rfl,?_⟩,trivial⟩
     (apply zx;(iterate 9 exact rfl))
     apply qc
     refine ja [10] (by kernel_rfl) rfl ⟨⟨_,rfl,?_⟩,trivial⟩
     (first|(apply qf;exact Tryz.call102;exact kz _ _ hxf)|(apply z0 (b:=st.length) (xs:=pre.map q8) (ys:=[q8 x]) (bytes:=40);(iterate 5 exact rfl);exact⟨⟨_,_,rfl,rfl,rfl,rfl,rfl⟩⟩;(focus (repeat' (first|assumption|exact kj _ _ _ _|exact vc _ _ _ _ _ _ _|apply j8|apply jv|(refine zq (T:=_) (ver:=_) (cs:=_) ?_)|exact jb|exact zl rfl|apply zy|apply zi|omega|apply jf)));(exact hO1.len);(first|exact rfl|exact jc fun _=>rfl);((simp [maxLen];omega));((simp;omega));intro c' S' t1 g1 g2 g3 g4))
     apply qc
     (apply kp 11;exact rfl;kernel_rfl;kernel_rfl;kernel_rfl;exact rfl;exact yf)
     refine y3 (by kernel_rfl) ?_
     exact⟨c',S',hO1.fr g2 g3,by rw [yp];exact g1,zw ⟨rfl,rfl,rfl,rfl,trivial⟩⟩
    ·(first|(apply zh;exact rfl;exact hob;exact rfl;exact rfl)|(apply zz;(iterate 5 exact rfl))|(apply za;(iterate 5 exact rfl))|(apply zg;(iterate 3 exact rfl)))
     apply qc
     refine ja [4,7] (by kernel_rfl) rfl ⟨⟨_,rfl,?_⟩,⟨_,rfl,?_⟩,trivial⟩
     ·(first|(apply zh;exact rfl;exact hob;exact rfl;exact rfl)|(apply zz;(iterate 5 exact rfl))|(apply za;(iterate 5 exact rfl))|(apply zg;(iterate 3 exact rfl)))
      apply qc
      refine ja [7] (by kernel_rfl) rfl ⟨⟨_,rfl,?_⟩,trivial⟩
      (first|(apply qf;exact Tryz.call102;exact kz _ _ hxf)|(apply z0 (b:=st.length) (xs:=pre.map q8) (ys:=[q8 x]) (bytes:=40);(iterate 5 exact rfl);exact⟨⟨_,_,rfl,rfl,rfl,rfl,rfl⟩⟩;(focus (repeat' (first|assumption|exact kj _ _ _ _|exact vc _ _ _ _ _ _ _|apply j8|apply jv|(refine zq (T:=_) (ver:=_) (cs:=_) ?_)|exact jb|exact zl rfl|apply zy|apply zi|omega|apply jf)));(exact hO1.len);(first|exact rfl|exact jc fun _=>rfl);((simp [maxLen];omega));((simp;omega));intro c' S' t1 g1 g2 g3 g4))
      apply qc
      (apply kp 8;exact rfl;kernel_rfl;kernel_rfl;kernel_rfl;exact rfl;(apply y8;(iterate 3 exact rfl)))
      refine ja [9] (by kernel_rfl) rfl ⟨⟨_,rfl,?_⟩,trivial⟩
      (apply zx;(iterate 9 exact rfl))
      apply qc
      refine ja [10] (by kernel_rfl) rfl ⟨⟨_,rfl,?_⟩,trivial⟩
      (first|(apply qf;exact Tryz.call102;exact kz _ _ hxf)|(apply z0 (b:=st.length) (xs:=pre.map q8) (ys:=[q8 x]) (bytes:=40);(iterate 5 exact rfl);exact⟨⟨_,_,rfl,rfl,rfl,rfl,rfl⟩⟩;(focus (repeat' (first|assumption|exact kj _ _ _ _|exact vc _ _ _ _ _ _ _|apply j8|apply jv|(refine zq (T:=_) (ver:=_) (cs:=_) ?_)|exact jb|exact zl rfl|apply zy|apply zi|omega|apply jf)));(exact hO1.len);(first|exact rfl|exact jc fun _=>rfl);((simp [maxLen];omega));((simp;omega));intro c' S' t1 g1 g2 g3 g4))
      apply qc
      (apply kp 11;exact rfl;kernel_rfl;kernel_rfl;kernel_rfl;exact rfl;exact yf)
      refine y3 (by kernel_rfl) ?_
      exact⟨c',S',hO1.fr g2 g3,by rw [yp];exact g1,zw ⟨rfl,rfl,rfl,rfl,trivial⟩⟩
     ·(first|(apply qf;exact Tryz.call102;exact kz _ _ hxf)|(apply z0 (b:=st.length) (xs:=pre.map q8) (ys:=[q8 x]) (bytes:=40);(iterate 5 exact rfl);exact⟨⟨_,_,rfl,rfl,rfl,rfl,rfl⟩⟩;(focus (repeat' (first|assumption|exact kj _ _ _ _|exact vc _ _ _ _ _ _ _|apply j8|apply jv|(refine zq (T:=_) (ver:=_) (cs:=_) ?_)|exact jb|exact zl rfl|apply zy|apply zi|omega|apply jf)));(exact hO1.len);(first|exact rfl|exact jc fun _=>rfl);((simp [maxLen];omega));((simp;omega));intro c' S' t1 g1 g2 g3 g4))
      apply qc
      refine ja [4] (by kernel_rfl) rfl ⟨⟨_,rfl,?_⟩,trivial⟩
      (first|(apply zh;exact rfl;exact hob;exact rfl;exact rfl)|(apply zz;(iterate 5 exact rfl))|(apply za;(iterate 5 exact rfl))|(apply zg;(iterate 3 exact rfl)))
      apply qc
      (apply kp 8;exact rfl;kernel_rfl;kernel_rfl;kernel_rfl;exact rfl;(apply y8;(iterate 3 exact rfl)))
      refine ja [9] (by kernel_rfl) rfl ⟨⟨_,rfl,?_⟩,trivial⟩
      (apply zx;(iterate 9 exact rfl))
      apply qc
      refine ja [10] (by kernel_rfl) rfl ⟨⟨_,rfl,?_⟩,trivial⟩
      (first|(apply qf;exact Tryz.call102;exact kz _ _ hxf)|(apply z0 (b:=st.length) (xs:=pre.map q8) (ys:=[q8 x]) (bytes:=40);(iterate 5 exact rfl);exact⟨⟨_,_,rfl,rfl,rfl,rfl,rfl⟩⟩;(focus (repeat' (first|assumption|exact kj _ _ _ _|exact vc _ _ _ _ _ _ _|apply j8|apply jv|(refine zq (T:=_) (ver:=_) (cs:=_) ?_)|exact jb|exact zl rfl|apply zy|apply zi|omega|apply jf)));(exact hO1.len);(first|exact rfl|exact jc fun _=>rfl);((simp [maxLen];omega));((simp;omega));intro c' S' t1 g1 g2 g3 g4))
      apply qc
      (apply kp 11;exact rfl;kernel_rfl;kernel_rfl;kernel_rfl;exact rfl;exact yf)
      refine y3 (by kernel_rfl) ?_
      exact⟨c',S',hO1.fr g2 g3,by rw [yp];exact g1,zw ⟨rfl,rfl,rfl,rfl,trivial⟩⟩
   ·(first|(apply zh;exact rfl;exact hob;exact rfl;exact rfl)|(apply zz;(iterate 5 exact rfl))|(apply za;(iterate 5 exact rfl))|(apply zg;(iterate 3 exact rfl)))
    apply qc
    refine ja [2,6] (by kernel_rfl) rfl ⟨⟨_,rfl,?_⟩,⟨_,rfl,?_⟩,trivial⟩
    ·(first|(apply zh;exact rfl;exact hob;exact rfl;exact rfl)|(apply zz;(iterate 5 exact rfl))|(apply za;(iterate 5 exact rfl))|(apply zg;(iterate 3 exact rfl)))
     apply qc
     refine ja [6] (by kernel_rfl) rfl ⟨⟨_,rfl,?_⟩,trivial⟩
     (first|(apply zh;exact rfl;exact hob;exact rfl;exact rfl)|(apply zz;(iterate 5 exact rfl))|(apply za;(iterate 5 exact rfl))|(apply zg;(iterate 3 exact rfl)))
     apply qc
     refine ja [7] (by kernel_rfl) rfl ⟨⟨_,rfl,?_⟩,trivial⟩
     (first|(apply qf;exact Tryz.call102;exact kz _ _ hxf)|(apply z0 (b:=st.length) (xs:=pre.map q8) (ys:=[q8 x]) (bytes:=40);(iterate 5 exact rfl);exact⟨⟨_,_,rfl,rfl,rfl,rfl,rfl⟩⟩;(focus (repeat' (first|assumption|exact kj _ _ _ _|exact vc _ _ _ _ _ _ _|apply j8|apply jv|(refine zq (T:=_) (ver:=_) (cs:=_) ?_)|exact jb|exact zl rfl|apply zy|apply zi|omega|apply jf)));(exact hO1.len);(first|exact rfl|exact jc fun _=>rfl);((simp [maxLen];omega));((simp;omega));intro c' S' t1 g1 g2 g3 g4))
     apply qc
     (apply kp 8;exact rfl;kernel_rfl;kernel_rfl;kernel_rfl;exact rfl;(apply y8;(iterate 3 exact rfl)))
     refine ja [9] (by kernel_rfl) rfl ⟨⟨_,rfl,?_⟩,trivial⟩
     (apply zx;(iterate 9 exact rfl))
     apply qc
     refine ja [10] (by kernel_rfl) rfl ⟨⟨_,rfl,?_⟩,trivial⟩
     (first|(apply qf;exact Tryz.call102;exact kz _ _ hxf)|(apply z0 (b:=st.length) (xs:=pre.map q8) (ys:=[q8 x]) (bytes:=40);(iterate 5 exact rfl);exact⟨⟨_,_,rfl,rfl,rfl,rfl,rfl⟩⟩;(focus (repeat' (first|assumption|exact kj _ _ _ _|exact vc _ _ _ _ _ _ _|apply j8|apply jv|(refine zq (T:=_) (ver:=_) (cs:=_) ?_)|exact jb|exact zl rfl|apply zy|apply zi|omega|apply jf)));(exact hO1.len);(first|exact rfl|exact jc fun _=>rfl);((simp [maxLen];omega));((simp;omega));intro c' S' t1 g1 g2 g3 g4))
     apply qc
     (apply kp 11;exact rfl;kernel_rfl;kernel_rfl;kernel_rfl;exact rfl;exact yf)
     refine y3 (by kernel_rfl) ?_
     exact⟨c',S',hO1.fr g2 g3,by rw [yp];exact g1,zw ⟨rfl,rfl,rfl,rfl,trivial⟩⟩
    ·(first|(apply zh;exact rfl;exact hob;exact rfl;exact rfl)|(apply zz;(iterate 5 exact rfl))|(apply za;(iterate 5 exact rfl))|(apply zg;(iterate 3 exact rfl)))
     apply qc
     refine ja [2,7] (by kernel_rfl) rfl ⟨⟨_,rfl,?_⟩,⟨_,rfl,?_⟩,trivial⟩
     ·(first|(apply zh;exact rfl;exact hob;exact rfl;exact rfl)|(apply zz;(iterate 5 exact rfl))|(apply za;(iterate 5 exact rfl))|(apply zg;(iterate 3 exact rfl)))
      apply qc
      refine ja [7] (by kernel_rfl) rfl ⟨⟨_,rfl,?_⟩,trivial⟩
      (first|(apply qf;exact Tryz.call102;exact kz _ _ hxf)|(apply z0 (b:=st.length) (xs:=pre.map q8) (ys:=[q8 x]) (bytes:=40);(iterate 5 exact rfl);exact⟨⟨_,_,rfl,rfl,rfl,rfl,rfl⟩⟩;(focus (repeat' (first|assumption|exact kj _ _ _ _|exact vc _ _ _ _ _ _ _|apply j8|apply jv|(refine zq (T:=_) (ver:=_) (cs:=_) ?_)|exact jb|exact zl rfl|apply zy|apply zi|omega|apply jf)));(exact hO1.len);(first|exact rfl|exact jc fun _=>rfl);((simp [maxLen];omega));((simp;omega));intro c' S' t1 g1 g2 g3 g4))
      apply qc
      (apply kp 8;exact rfl;kernel_rfl;kernel_rfl;kernel_rfl;exact rfl;(apply y8;(iterate 3 exact rfl)))
      refine ja [9] (by kernel_rfl) rfl ⟨⟨_,rfl,?_⟩,trivial⟩
      (apply zx;(iterate 9 exact rfl))
      apply qc
      refine ja [10] (by kernel_rfl) rfl ⟨⟨_,rfl,?_⟩,trivial⟩
      (first|(apply qf;exact Tryz.call102;exact kz _ _ hxf)|(apply z0 (b:=st.length) (xs:=pre.map q8) (ys:=[q8 x]) (bytes:=40);(iterate 5 exact rfl);exact⟨⟨_,_,rfl,rfl,rfl,rfl,rfl⟩⟩;(focus (repeat' (first|assumption|exact kj _ _ _ _|exact vc _ _ _ _ _ _ _|apply j8|apply jv|(refine zq (T:=_) (ver:=_) (cs:=_) ?_)|exact jb|exact zl rfl|apply zy|apply zi|omega|apply jf)));(exact hO1.len);(first|exact rfl|exact jc fun _=>rfl);((simp [maxLen];omega));((simp;omega));intro c' S' t1 g1 g2 g3 g4))
      apply qc
      (apply kp 11;exact rfl;kernel_rfl;kernel_rfl;kernel_rfl;exact rfl;exact yf)
      refine y3 (by kernel_rfl) ?_
      exact⟨c',S',hO1.fr g2 g3,by rw [yp];exact g1,zw ⟨rfl,rfl,rfl,rfl,trivial⟩⟩
     ·(first|(apply qf;exact Tryz.call102;exact kz _ _ hxf)|(apply z0 (b:=st.length) (xs:=pre.map q8) (ys:=[q8 x]) (bytes:=40);(iterate 5 exact rfl);exact⟨⟨_,_,rfl,rfl,rfl,rfl,rfl⟩⟩;(focus (repeat' (first|assumption|exact kj _ _ _ _|exact vc _ _ _ _ _ _ _|apply j8|apply jv|(refine zq (T:=_) (ver:=_) (cs:=_) ?_)|exact jb|exact zl rfl|apply zy|apply zi|omega|apply jf)));(exact hO1.len);(first|exact rfl|exact jc fun _=>rfl);((simp [maxLen];omega));((simp;omega));intro c' S' t1 g1 g2 g3 g4))
      apply qc
      refine ja [2] (by kernel_rfl) rfl ⟨⟨_,rfl,?_⟩,trivial⟩
      (first|(apply zh;exact rfl;exact hob;exact rfl;exact rfl)|(apply zz;(iterate 5 exact rfl))|(apply za;(iterate 5 exact rfl))|(apply zg;(iterate 3 exact rfl)))
      apply qc
      (apply kp 8;exact rfl;kernel_rfl;kernel_rfl;kernel_rfl;exact rfl;(apply y8;(iterate 3 exact rfl)))
      refine ja [9] (by kernel_rfl) rfl ⟨⟨_,rfl,?_⟩,trivial⟩
      (apply zx;(iterate 9 exact rfl))
      apply qc
      refine ja [10] (by kernel_rfl) rfl ⟨⟨_,rfl,?_⟩,trivial⟩
      (first|(apply qf;exact Tryz.call102;exact kz _ _ hxf)|(apply z0 (b:=st.length) (xs:=pre.map q8) (ys:=[q8 x]) (bytes:=40);(iterate 5 exact rfl);exact⟨⟨_,_,rfl,rfl,rfl,rfl,rfl⟩⟩;(focus (repeat' (first|assumption|exact kj _ _ _ _|exact vc _ _ _ _ _ _ _|apply j8|apply jv|(refine zq (T:=_) (ver:=_) (cs:=_) ?_)|exact jb|exact zl rfl|apply zy|apply zi|omega|apply jf)));(exact hO1.len);(first|exact rfl|exact jc fun _=>rfl);((simp [maxLen];omega));((simp;omega));intro c' S' t1 g1 g2 g3 g4))
      apply qc
      (apply kp 11;exact rfl;kernel_rfl;kernel_rfl;kernel_rfl;exact rfl;exact yf)
      refine y3 (by kernel_rfl) ?_
      exact⟨c',S',hO1.fr g2 g3,by rw [yp];exact g1,zw ⟨rfl,rfl,rfl,rfl,trivial⟩⟩
   ·(first|(apply zh;exact rfl;exact hob;exact rfl;exact rfl)|(apply zz;(iterate 5 exact rfl))|(apply za;(iterate 5 exact rfl))|(apply zg;(iterate 3 exact rfl)))
    apply qc
    refine ja [2,4,7] (by kernel_rfl) rfl ⟨⟨_,rfl,?_⟩,⟨_,rfl,?_⟩,⟨_,rfl,?_⟩,trivial⟩
    ·(first|(apply zh;exact rfl;exact hob;exact rfl;exact rfl)|(apply zz;(iterate 5 exact rfl))|(apply za;(iterate 5 exact rfl))|(apply zg;(iterate 3 exact rfl)))
     apply qc
     refine ja [4,7] (by kernel_rfl) rfl ⟨⟨_,rfl,?_⟩,⟨_,rfl,?_⟩,trivial⟩
     ·(first|(apply zh;exact rfl;exact hob;exact rfl;exact rfl)|(apply zz;(iterate 5 exact rfl))|(apply za;(iterate 5 exact rfl))|(apply zg;(iterate 3 exact rfl)))
      apply qc
      refine ja [7] (by kernel_rfl) rfl ⟨⟨_,rfl,?_⟩,trivial⟩
      (first|(apply qf;exact Tryz.call102;exact kz _ _ hxf)|(apply z0 (b:=st.length) (xs:=pre.map q8) (ys:=[q8 x]) (bytes:=40);(iterate 5 exact rfl);exact⟨⟨_,_,rfl,rfl,rfl,rfl,rfl⟩⟩;(focus (repeat' (first|assumption|exact kj _ _ _ _|exact vc _ _ _ _ _ _ _|apply j8|apply jv|(refine zq (T:=_) (ver:=_) (cs:=_) ?_)|exact jb|exact zl rfl|apply zy|apply zi|omega|apply jf)));(exact hO1.len);(first|exact rfl|exact jc fun _=>rfl);((simp [maxLen];omega));((simp;omega));intro c' S' t1 g1 g2 g3 g4))
      apply qc
      (apply kp 8;exact rfl;kernel_rfl;kernel_rfl;kernel_rfl;exact rfl;(apply y8;(iterate 3 exact rfl)))
      refine ja [9] (by kernel_rfl) rfl ⟨⟨_,rfl,?_⟩,trivial⟩
      (apply zx;(iterate 9 exact rfl))
      apply qc
      refine ja [10] (by kernel_rfl) rfl ⟨⟨_,rfl,?_⟩,trivial⟩
      (first|(apply qf;exact Tryz.call102;exact kz _ _ hxf)|(apply z0 (b:=st.length) (xs:=pre.map q8) (ys:=[q8 x]) (bytes:=40);(iterate 5 exact rfl);exact⟨⟨_,_,rfl,rfl,rfl,rfl,rfl⟩⟩;(focus (repeat' (first|assumption|exact kj _ _ _ _|exact vc _ _ _ _ _ _ _|apply j8|apply jv|(refine zq (T:=_) (ver:=_) (cs:=_) ?_)|exact jb|exact zl rfl|apply zy|apply zi|omega|apply jf)));(exact hO1.len);(first|exact rfl|exact jc fun _=>rfl);((simp [maxLen];omega));((simp;omega));intro c' S' t1 g1 g2 g3 g4))
      apply qc
      (apply kp 11;exact rfl;kernel_rfl;kernel_rfl;kernel_rfl;exact rfl;exact yf)
      refine y3 (by kernel_rfl) ?_
      exact⟨c',S',hO1.fr g2 g3,by rw [yp];exact g1,zw ⟨rfl,rfl,rfl,rfl,trivial⟩⟩
     ·(first|(apply qf;exact Tryz.call102;exact kz _ _ hxf)|(apply z0 (b:=st.length) (xs:=pre.map q8) (ys:=[q8 x]) (bytes:=40);(iterate 5 exact rfl);exact⟨⟨_,_,rfl,rfl,rfl,rfl,rfl⟩⟩;(focus (repeat' (first|assumption|exact kj _ _ _ _|exact vc _ _ _ _ _ _ _|apply j8|apply jv|(refine zq (T:=_) (ver:=_) (cs:=_) ?_)|exact jb|exact zl rfl|apply zy|apply zi|omega|apply jf)));(exact hO1.len);(first|exact rfl|exact jc fun _=>rfl);((simp [maxLen];omega));((simp;omega));intro c' S' t1 g1 g2 g3 g4))
      apply qc
      refine ja [4] (by kernel_rfl) rfl ⟨⟨_,rfl,?_⟩,trivial⟩
      (first|(apply zh;exact rfl;exact hob;exact rfl;exact rfl)|(apply zz;(iterate 5 exact rfl))|(apply za;(iterate 5 exact rfl))|(apply zg;(iterate 3 exact rfl)))
      apply qc
      (apply kp 8;exact rfl;kernel_rfl;kernel_rfl;kernel_rfl;exact rfl;(apply y8;(iterate 3 exact rfl)))
      refine ja [9] (by kernel_rfl) rfl ⟨⟨_,rfl,?_⟩,trivial⟩
      (apply zx;(iterate 9 exact rfl))
      apply qc
      refine ja [10] (by kernel_rfl) rfl ⟨⟨_,rfl,?_⟩,trivial⟩
      (first|(apply qf;exact Tryz.call102;exact kz _ _ hxf)|(apply z0 (b:=st.length) (xs:=pre.map q8) (ys:=[q8 x]) (bytes:=40);(iterate 5 exact rfl);exact⟨⟨_,_,rfl,rfl,rfl,rfl,rfl⟩⟩;(focus (repeat' (first|assumption|exact kj _ _ _ _|exact vc _ _ _ _ _ _ _|apply j8|apply jv|(refine zq (T:=_) (ver:=_) (cs:=_) ?_)|exact jb|exact zl rfl|apply zy|apply zi|omega|apply jf)));(exact hO1.len);(first|exact rfl|exact jc fun _=>rfl);((simp [maxLen];omega));((simp;omega));intro c' S' t1 g1 g2 g3 g4))
      apply qc
      (apply kp 11;exact rfl;kernel_rfl;kernel_rfl;kernel_rfl;exact rfl;exact yf)
      refine y3 (by kernel_rfl) ?_
      exact⟨c',S',hO1.fr g2 g3,by rw [yp];exact g1,zw ⟨rfl,rfl,rfl,rfl,trivial⟩⟩
    ·(first|(apply zh;exact rfl;exact hob;exact rfl;exact rfl)|(apply zz;(iterate 5 exact rfl))|(apply za;(iterate 5 exact rfl))|(apply zg;(iterate 3 exact rfl)))
     apply qc
     refine ja [2,7] (by kernel_rfl) rfl ⟨⟨_,rfl,?_⟩,⟨_,rfl,?_⟩,trivial⟩
     ·(first|(apply zh;exact rfl;exact hob;exact rfl;exact rfl)|(apply zz;(iterate 5 exact rfl))|(apply za;(iterate 5 exact rfl))|(apply zg;(iterate 3 exact rfl)))
      apply qc
      refine ja [7] (by kernel_rfl) rfl ⟨⟨_,rfl,?_⟩,trivial⟩
      (first|(apply qf;exact Tryz.call102;exact kz _ _ hxf)|(apply z0 (b:=st.length) (xs:=pre.map q8) (ys:=[q8 x]) (bytes:=40);(iterate 5 exact rfl);exact⟨⟨_,_,rfl,rfl,rfl,rfl,rfl⟩⟩;(focus (repeat' (first|assumption|exact kj _ _ _ _|exact vc _ _ _ _ _ _ _|apply j8|apply jv|(refine zq (T:=_) (ver:=_) (cs:=_) ?_)|exact jb|exact zl rfl|apply zy|apply zi|omega|apply jf)));(exact hO1.len);(first|exact rfl|exact jc fun _=>rfl);((simp [maxLen];omega));((simp;omega));intro c' S' t1 g1 g2 g3 g4))
      apply qc
      (apply kp 8;exact rfl;kernel_rfl;kernel_rfl;kernel_rfl;exact rfl;(apply y8;(iterate 3 exact rfl)))
      refine ja [9] (by kernel_rfl) rfl ⟨⟨_,rfl,?_⟩,trivial⟩
      (apply zx;(iterate 9 exact rfl))
      apply qc
      refine ja [10] (by kernel_rfl) rfl ⟨⟨_,rfl,?_⟩,trivial⟩
      (first|(apply qf;exact Tryz.call102;exact kz _ _ hxf)|(apply z0 (b:=st.length) (xs:=pre.map q8) (ys:=[q8 x]) (bytes:=40);(iterate 5 exact rfl);exact⟨⟨_,_,rfl,rfl,rfl,rfl,rfl⟩⟩;(focus (repeat' (first|assumption|exact kj _ _ _ _|exact vc _ _ _ _ _ _ _|apply j8|apply jv|(refine zq (T:=_) (ver:=_) (cs:=_) ?_)|exact jb|exact zl rfl|apply zy|apply zi|omega|apply jf)));(exact hO1.len);(first|exact rfl|exact jc fun _=>rfl);((simp [maxLen];omega));((simp;omega));intro c' S' t1 g1 g2 g3 g4))
      apply qc
      (apply kp 11;exact rfl;kernel_rfl;kernel_rfl;kernel_rfl;exact rfl;exact yf)
      refine y3 (by kernel_rfl) ?_
      exact⟨c',S',hO1.fr g2 g3,by rw [yp];exact g1,zw ⟨rfl,rfl,rfl,rfl,trivial⟩⟩
     ·(first|(apply qf;exact Tryz.call102;exact kz _ _ hxf)|(apply z0 (b:=st.length) (xs:=pre.map q8) (ys:=[q8 x]) (bytes:=40);(iterate 5 exact rfl);exact⟨⟨_,_,rfl,rfl,rfl,rfl,rfl⟩⟩;(focus (repeat' (first|assumption|exact kj _ _ _ _|exact vc _ _ _ _ _ _ _|apply j8|apply jv|(refine zq (T:=_) (ver:=_) (cs:=_) ?_)|exact jb|exact zl rfl|apply zy|apply zi|omega|apply jf)));(exact hO1.len);(first|exact rfl|exact jc fun _=>rfl);((simp [maxLen];omega));((simp;omega));intro c' S' t1 g1 g2 g3 g4))
      apply qc
      refine ja [2] (by kernel_rfl) rfl ⟨⟨_,rfl,?_⟩,trivial⟩
      (first|(apply zh;exact rfl;exact hob;exact rfl;exact rfl)|(apply zz;(iterate 5 exact rfl))|(apply za;(iterate 5 exact rfl))|(apply zg;(iterate 3 exact rfl)))
      apply qc
      (apply kp 8;exact rfl;kernel_rfl;kernel_rfl;kernel_rfl;exact rfl;(apply y8;(iterate 3 exact rfl)))
      refine ja [9] (by kernel_rfl) rfl ⟨⟨_,rfl,?_⟩,trivial⟩
      (apply zx;(iterate 9 exact rfl))
      apply qc
      refine ja [10] (by kernel_rfl) rfl ⟨⟨_,rfl,?_⟩,trivial⟩
      (first|(apply qf;exact Tryz.call102;exact kz _ _ hxf)|(apply z0 (b:=st.length) (xs:=pre.map q8) (ys:=[q8 x]) (bytes:=40);(iterate 5 exact rfl);exact⟨⟨_,_,rfl,rfl,rfl,rfl,rfl⟩⟩;(focus (repeat' (first|assumption|exact kj _ _ _ _|exact vc _ _ _ _ _ _ _|apply j8|apply jv|(refine zq (T:=_) (ver:=_) (cs:=_) ?_)|exact jb|exact zl rfl|apply zy|apply zi|omega|apply jf)));(exact hO1.len);(first|exact rfl|exact jc fun _=>rfl);((simp [maxLen];omega));((simp;omega));intro c' S' t1 g1 g2 g3 g4))
      apply qc
      (apply kp 11;exact rfl;kernel_rfl;kernel_rfl;kernel_rfl;exact rfl;exact yf)
      refine y3 (by kernel_rfl) ?_
      exact⟨c',S',hO1.fr g2 g3,by rw [yp];exact g1,zw ⟨rfl,rfl,rfl,rfl,trivial⟩⟩
    ·(first|(apply qf;exact Tryz.call102;exact kz _ _ hxf)|(apply z0 (b:=st.length) (xs:=pre.map q8) (ys:=[q8 x]) (bytes:=40);(iterate 5 exact rfl);exact⟨⟨_,_,rfl,rfl,rfl,rfl,rfl⟩⟩;(focus (repeat' (first|assumption|exact kj _ _ _ _|exact vc _ _ _ _ _ _ _|apply j8|apply jv|(refine zq (T:=_) (ver:=_) (cs:=_) ?_)|exact jb|exact zl rfl|apply zy|apply zi|omega|apply jf)));(exact hO1.len);(first|exact rfl|exact jc fun _=>rfl);((simp [maxLen];omega));((simp;omega));intro c' S' t1 g1 g2 g3 g4))
     apply qc
     refine ja [2,4] (by kernel_rfl) rfl ⟨⟨_,rfl,?_⟩,⟨_,rfl,?_⟩,trivial⟩
     ·(first|(apply zh;exact rfl;exact hob;exact rfl;exact rfl)|(apply zz;(iterate 5 exact rfl))|(apply za;(iterate 5 exact rfl))|(apply zg;(iterate 3 exact rfl)))
      apply qc
      refine ja [4] (by kernel_rfl) rfl ⟨⟨_,rfl,?_⟩,trivial⟩
      (first|(apply zh;exact rfl;exact hob;exact rfl;exact rfl)|(apply zz;(iterate 5 exact rfl))|(apply za;(iterate 5 exact rfl))|(apply zg;(iterate 3 exact rfl)))
      apply qc
      (apply kp 8;exact rfl;kernel_rfl;kernel_rfl;kernel_rfl;exact rfl;(apply y8;(iterate 3 exact rfl)))
      refine ja [9] (by kernel_rfl) rfl ⟨⟨_,rfl,?_⟩,trivial⟩
      (apply zx;(iterate 9 exact rfl))
      apply qc
      refine ja [10] (by kernel_rfl) rfl ⟨⟨_,rfl,?_⟩,trivial⟩
      (first|(apply qf;exact Tryz.call102;exact kz _ _ hxf)|(apply z0 (b:=st.length) (xs:=pre.map q8) (ys:=[q8 x]) (bytes:=40);(iterate 5 exact rfl);exact⟨⟨_,_,rfl,rfl,rfl,rfl,rfl⟩⟩;(focus (repeat' (first|assumption|exact kj _ _ _ _|exact vc _ _ _ _ _ _ _|apply j8|apply jv|(refine zq (T:=_) (ver:=_) (cs:=_) ?_)|exact jb|exact zl rfl|apply zy|apply zi|omega|apply jf)));(exact hO1.len);(first|exact rfl|exact jc fun _=>rfl);((simp [maxLen];omega));((simp;omega));intro c' S' t1 g1 g2 g3 g4))
      apply qc
      (apply kp 11;exact rfl;kernel_rfl;kernel_rfl;kernel_rfl;exact rfl;exact yf)
      refine y3 (by kernel_rfl) ?_
      exact⟨c',S',hO1.fr g2 g3,by rw [yp];exact g1,zw ⟨rfl,rfl,rfl,rfl,trivial⟩⟩
     ·(first|(apply zh;exact rfl;exact hob;exact rfl;exact rfl)|(apply zz;(iterate 5 exact rfl))|(apply za;(iterate 5 exact rfl))|(apply zg;(iterate 3 exact rfl)))
      apply qc
      refine ja [2] (by kernel_rfl) rfl ⟨⟨_,rfl,?_⟩,trivial⟩
      (first|(apply zh;exact rfl;exact hob;exact rfl;exact rfl)|(apply zz;(iterate 5 exact rfl))|(apply za;(iterate 5 exact rfl))|(apply zg;(iterate 3 exact rfl)))
      apply qc
      (apply kp 8;exact rfl;kernel_rfl;kernel_rfl;kernel_rfl;exact rfl;(apply y8;(iterate 3 exact rfl)))
      refine ja [9] (by kernel_rfl) rfl ⟨⟨_,rfl,?_⟩,trivial⟩
      (apply zx;(iterate 9 exact rfl))
      apply qc
      refine ja [10] (by kernel_rfl) rfl ⟨⟨_,rfl,?_⟩,trivial⟩
      (first|(apply qf;exact Tryz.call102;exact kz _ _ hxf)|(apply z0 (b:=st.length) (xs:=pre.map q8) (ys:=[q8 x]) (bytes:=40);(iterate 5 exact rfl);exact⟨⟨_,_,rfl,rfl,rfl,rfl,rfl⟩⟩;(focus (repeat' (first|assumption|exact kj _ _ _ _|exact vc _ _ _ _ _ _ _|apply j8|apply jv|(refine zq (T:=_) (ver:=_) (cs:=_) ?_)|exact jb|exact zl rfl|apply zy|apply zi|omega|apply jf)));(exact hO1.len);(first|exact rfl|exact jc fun _=>rfl);((simp [maxLen];omega));((simp;omega));intro c' S' t1 g1 g2 g3 g4))
      apply qc
      (apply kp 11;exact rfl;kernel_rfl;kernel_rfl;kernel_rfl;exact rfl;exact yf)
      refine y3 (by kernel_rfl) ?_
      exact⟨c',S',hO1.fr g2 g3,by rw [yp];exact g1,zw ⟨rfl,rfl,rfl,rfl,trivial⟩⟩
  ·rintro _ ⟨c2,S2,hO2,hT2,t2,rfl⟩
   repeat' (first|apply qd|apply qc|apply qi|(apply zt;exact rfl;exact rfl;exact zb (by omega) (by omega)))
   exact⟨c2,S2,hO2,hT2,zw ⟨rfl,rfl,rfl,qeq pre x,trivial⟩⟩
def tryB (k:Int) (l:qa):Option Int:=if x9 k <+: l then (match Lib.atoiAll (l.drop (x9 k).length) with
 | .ok n=>some n
 | _=>none) else none
def begE (l:qa):Option (Int×Int):=match tryB 1 l with
 |some n=>some (1,n)
 |none=>match tryB 2 l with
  |some n=>some (2,n)
  |none=>match tryB 3 l with
   |some n=>some (3,n)
   |none=>none
def begA:Option (Int×Int)→AV
 |some (k,n)=>.tu [q8 ⟨k,n,[]⟩,Bv true]
 |none=>.tu [q8 ⟨0,0,[]⟩,Bv false]
theorem q4y (x:Option (Int×Int)):Pure (begA x):=by
 rcases x with _ | ⟨k,n⟩
 ·exact wl (qgz (qf8 _)) (qx _)
 ·exact wl (qgz (qf8 _)) (qx _)
theorem qux (k n:Int):Weak (.ag [Iv k,Iv n,zu]) (q8 ⟨k,n,[]⟩):=
 zcj rfl fun i x y hx hy=>by
  match i with
  | 0=>simp at hx hy;subst hx;subst hy;exact qbk _
  | 1=>simp at hx hy;subst hx;subst hy;exact qbk _
  | 2=>simp at hx hy;subst hx;subst hy;exact qfm 2
  |i+3=>simp at hx
theorem q2w (l m:qa) (st:List AObj) (h:m <+: l):qn E 260 [Sv l,Sv m] st fun r st'=>r = .tu [Sv (l.drop m.length),Bv true]∧st'=st:=by
 have:=qdz l m st
 rw [qcl h,(xo l m).2 h] at this
 exact this
theorem q2x (l m d:qa) (st:List AObj) (h:m <+: l) (hd:l.drop m.length=d):qn E 260 [Sv l,Sv m] st fun r st'=>r = .tu [Sv d,Bv true]∧st'=st:=by
 subst hd
 exact q2w l m st h
theorem q2v (l m:qa) (st:List AObj) (h:¬ m <+: l):qn E 260 [Sv l,Sv m] st fun r st'=>r = .tu [Sv l,Bv false]∧st'=st:=by
 have:=qdz l m st
 have hf:Lib.hasPrefix l m=false:=by
  cases hb:Lib.hasPrefix l m with
  |false=>rfl
  |true=>exact absurd ((xo l m).1 hb) h
 have ht:Lib.trimPrefix l m=l:=by
  unfold Lib.trimPrefix
  rw [if_neg (by simp [hf])]
 rw [ht,hf] at this
 exact this
theorem zaz {l:qa} {k:Nat} {n:Int} (h1:1≤k) (h3:k≤3) (h:∀ j:Nat,1≤j→j<k→tryB j l=none) (hk:tryB k l=some n):begE l=some ((k:Int),n):=by
 have:k=1∨k=2∨k=3:=by omega
 rcases this with rfl|rfl|rfl
 ·have hk1:tryB 1 l=some n:=hk
  simp [begE,hk1]
 ·have e1:tryB 1 l=none:=h 1 (by omega) (by omega)
  have hk1:tryB 2 l=some n:=hk
  simp [begE,e1,hk1]
 ·have e1:tryB 1 l=none:=h 1 (by omega) (by omega)
  have e2:tryB 2 l=none:=h 2 (by omega) (by omega)
  have hk1:tryB 3 l=some n:=hk
  simp [begE,e1,e2,hk1]
theorem q40 {l:qa} (h:∀ j:Nat,1≤j→j<4→tryB j l=none):begE l=none:=by
 have e1:tryB 1 l=none:=h 1 (by omega) (by omega)
 have e2:tryB 2 l=none:=h 2 (by omega) (by omega)
 have e3:tryB 3 l=none:=h 3 (by omega) (by omega)
 simp [begE,e1,e2,e3]
theorem q7p {k:Nat} (h1:1≤k) (h3:k≤3):qbl (k:Int)≠[]∧([32]++qbl (k:Int))++[32]=x9 (k:Int)∧(qbl (k:Int)).length≤10:=by
 have:k=1∨k=2∨k=3:=by omega
 rcases this with rfl|rfl|rfl <;> decide
set_option maxHeartbeats 2000000 in
theorem za1 (l:qa) (st:List AObj) (hl:l.length<1000000):qn E 207 [Sv l] st fun r st'=>r=begA (begE l)∧st'=st:=by
 refine qu (q4y _) (qo Tryz.func207 rfl (Nat.le_of_ble_eq_true rfl) ?_)
 repeat' (first|apply qm|apply qt|apply qd|apply qc|apply qe|(apply kc;exact rfl;exact rfl))
 refine jh (fun (k:Nat) s=>1≤k∧k≤4∧(∀ j:Nat,1≤j→j<k→tryB j l=none)∧StE [(0,Sv l),(2,.bx (st.length+0) 0 0),(4,Iv k)] st [.cells 0 113 [Iv 0,Iv 0,zu]] s) (fun k=>4 - k) 1 ⟨by omega,by omega,fun j h1 h2=>by omega,qcs ⟨rfl,rfl,rfl,trivial⟩ rfl⟩ ?_
 rintro k _ ⟨hk1,hk4,hno,t,ext,rfl⟩
 by_cases h4:k=4
 ·subst h4
  have hw:qbl ((4:Nat):Int)=[]:=by decide
  rw [q40 hno]
  repeat' (first|apply qm|apply qd|apply qc|apply qi|apply qe|(apply jg;(iterate 3 exact rfl))|(apply qb;exact rfl;apply cd_f;exact cRa)|(apply qfs;(iterate 11 exact rfl))|(apply xi;(iterate 3 exact rfl))|apply z7|apply qs|(apply qf;exact Tryz.call239;exact qr7 _ _))
  refine qk rfl (xb (qn8 rfl rfl rfl rfl rfl rfl) (qen (qux 0 0) (qbk _))) ⟨rfl,xg _ _ _ _⟩
 ·obtain⟨hw,hm,hwl⟩:=q7p hk1 (by omega)
  by_cases hp:x9 (k:Int) <+: l
  ·have hp':([32]++qbl (k:Int))++[32] <+: l:=by rw [hm];exact hp
   obtain⟨d,hd0⟩:∃ d,d=l.drop (x9 (k:Int)).length:=⟨_,rfl⟩
   have hd:l.drop ((([32]:qa)++qbl (k:Int))++[32]).length=d:=by rw [hm,hd0]
   have hdl:d.length<1000000:=by rw [hd0,List.length_drop];omega
   repeat' (first|apply qm|apply qt|apply qd|apply qc|apply qi|apply qe|(apply q9;exact rfl;exact rfl)|(apply jg;(iterate 3 exact rfl))|(apply qb;exact rfl;apply ki;exact cAo)|(apply jl;exact rfl;exact rfl;exact cOs)|apply qw|(apply qf;exact Tryz.call239;exact qr7 _ _)|(apply qf;exact Tryz.call260;exact q2x _ _ _ _ hp' hd))
   refine qeo Tryz.call73 ((qmc d _ (by omega)).mono ?_)
   rintro _ _ ⟨rfl,n,x,rfl,hx⟩
   rw [hd0] at hx
   rcases x with _ | ⟨t',y⟩
   ·simp only at hx
    have htr:tryB (k:Int) l=some n:=by unfold tryB;rw [if_pos hp,hx]
    rw [zaz hk1 (by omega) hno htr]
    repeat' (first|apply qm|apply qd|apply qc|apply qi|apply qe|(apply q9;exact rfl;exact rfl)|(apply qv;(iterate 4 exact rfl))|(apply yj;exact cRa)|(apply qh;exact rfl;apply pk_t;exact cRa)|(apply qb;exact rfl;apply cd_t;exact cRa)|(apply qd7;exact rfl;exact rfl)|(apply qfs;(iterate 11 exact rfl))|(apply xi;(iterate 3 exact rfl))|apply qs)
    refine qk rfl (xb (qn8 rfl rfl rfl rfl rfl rfl) (qen (qux k n) (qbk _))) ⟨rfl,xg _ _ _ _⟩
   ·simp only at hx
    have htr:tryB (k:Int) l=none:=by
     unfold tryB
     rw [if_pos hp]
     split
     ·rename_i v hv;exact absurd hv (hx v)
     ·rfl
    repeat' (first|apply qm|apply qd|apply qc|apply qi|apply qe|(apply q9;exact rfl;exact rfl)|(apply qv;(iterate 4 exact rfl))|(apply yj;exact cRa)|(apply qh;exact rfl;apply pk_t;exact cRa)|(apply qb;exact rfl;apply cd_f;exact cRa)|(apply zt;exact rfl;exact rfl;exact zb (by omega) (by omega))|(apply qa2;exact rfl;exact rfl)|apply qw)
    refine⟨k+1,⟨by omega,by omega,fun j h1 h2=>?_,qaf ⟨rfl,rfl,rfl,trivial⟩ rfl⟩,by omega⟩
    by_cases hjk:j=k
    ·subst hjk;exact htr
    ·exact hno j h1 (by omega)
  ·have hp':¬ ([32]++qbl (k:Int))++[32] <+: l:=by rw [hm];exact hp
   have htr:tryB (k:Int) l=none:=by unfold tryB;rw [if_neg hp]
   repeat' (first|apply qm|apply qt|apply qd|apply qc|apply qi|apply qe|(apply q9;exact rfl;exact rfl)|(apply jg;(iterate 3 exact rfl))|(apply qb;exact rfl;apply ki;exact cAo)|(apply jl;exact rfl;exact rfl;exact cOs)|apply qw|(apply qf;exact Tryz.call239;exact qr7 _ _)|(apply qf;exact Tryz.call260;exact q2v _ _ _ hp'))
   refine qeo Tryz.call73 ((qmc l _ (by omega)).mono ?_)
   rintro _ _ ⟨rfl,n,x,rfl,hx⟩
   rcases x with _ | ⟨t',y⟩
   all_goals
    repeat' (first|apply qm|apply qd|apply qc|apply qi|apply qe|(apply q9;exact rfl;exact rfl)|(apply qv;(iterate 4 exact rfl))|(apply ww;exact cRa)|(apply qh;exact rfl;apply pk_f;exact cRa)|(apply qb;exact rfl;apply cd_f;exact cRa)|(apply zt;exact rfl;exact rfl;exact zb (by omega) (by omega))|apply qw)
    refine⟨k+1,⟨by omega,by omega,fun j h1 h2=>?_,qaf ⟨rfl,rfl,rfl,trivial⟩ rfl⟩,by omega⟩
    by_cases hjk:j=k
    ·subst hjk;exact htr
    ·exact hno j h1 (by omega)
def recsF (its:List ka):List (List Fld):=(its.filter fun x=>decide (x.kind=3)).map ka.fields
@[reducible] def zaj (ls : List (List Fld)) : AV := .sl 1 (ls.map jj) none
theorem q32 (ls:List (List Fld)):Pure (zaj ls):=qew fun x hx=>by
 obtain⟨f,_,rfl⟩:=List.mem_map.1 hx
 intro y hy
 simp only [AV.cells,List.mem_cons,List.not_mem_nil,or_false] at hy
 subst hy
 exact qcd _
theorem q0b (l:List ka) (x:ka) (h:x.kind=3):recsF (l++[x])=recsF l++[x.fields]:=by simp [recsF,h]
theorem q0c (l:List ka) (x:ka) (h:¬ x.kind=3):recsF (l++[x])=recsF l:=by simp [recsF,h]
theorem zcg {b t1:Nat} {st st':List AObj} {sz:Nat} {T:TypeId} {xs:List AV} {c c0:AV} {sz0:Nat} {xs0:List AV} (hf:Fr st st' t1) (hid:c0 = .sl sz0 xs0 (some t1)∨st.length≤t1) (h0:∀ t,c0≠.sl sz0 xs0 (some t)) (h:TipO b st sz T xs c):TipO b st' sz T xs c:=
 q10 (fun t m sz T ht=>hf.same t (fun e=>by
  subst e
  rcases hid with hid|hid
  ·exact h0 _ hid
  ·have:=lt_of_getElem? ht;omega) (lt_of_getElem? ht)) h
theorem q95 {b t1:Nat} {st st':List AObj} {sz:Nat} {T:TypeId} {xs:List AV} {c:AV} {sz0:Nat} {xs0:List AV} {o v f l k:Nat} (hf:Fr st st' t1) (hid:AV.os o v f l k = .sl sz0 xs0 (some t1)∨st.length≤t1) (h:TipO b st sz T xs c):TipO b st' sz T xs c:=
 zcg hf hid (by simp) h
set_option maxHeartbeats 2000000 in
theorem q65 (its:List ka) (st:List AObj) (hl:its.length<1000000) (hf:∀ x∈its,x.fields.length<1000000):qn E 24 [ya its] st fun r st'=>r=zaj (recsF its)∧st'=st:=by
 refine qu (q32 _) (qo Tryz.func24 rfl (Nat.le_of_ble_eq_true rfl) ?_)
 have hml:(its.map x3).length=its.length:=by simp
 rw [List.append_nil]
 repeat' (first|apply qm|apply qt|apply qd|apply qc|apply qi|apply qe|(apply kl;(iterate 4 exact rfl)))
 refine qa7 its (fun pre s=>∃ c S,OutI st S∧TipO st.length S 1 50 ((recsF pre).map jj) c∧StA [(3,c),(6,ya its),(7,Iv its.length),(8,Iv pre.length)] S [] s) ⟨_,st,⟨fun _ _=>rfl,Nat.le_refl _⟩,kj ..,zw ⟨rfl,rfl,congrArg (fun n:Nat=>Iv (n:Int)) hml,rfl,trivial⟩⟩ ?_ ?_
 ·rintro _ ⟨c,S,hO,hT,t,rfl⟩
  repeat' (first|apply qm|apply qd|apply qc|apply qi|apply qe|(apply qq;(iterate 3 exact rfl))|(apply qb;exact rfl;apply vw;exact cAo)|apply z7|apply qs)
  exact qk rfl (xb (qz rfl) (qib hT)) ⟨rfl,hO.ext⟩
 ·rintro pre x rest _ hr ⟨c,S,hO,hT,t,rfl⟩
  have hlen:its.length=pre.length+(rest.length+1):=by rw [hr];simp
  have hget:(its.map x3)[pre.length]? = some (x3 x):=by rw [hr];simp
  have hxf:=hf x (by rw [hr];simp)
  have hpl:(recsF pre).length≤pre.length:=by unfold recsF;rw [List.length_map];exact List.length_filter_le _ _
  have hSl:=hO.len
  have hO1:OutI st ((S++[AObj.cells 0 52 [Iv 0,Sv [],zu]]).set S.length (.cells 0 52 (x3 x).cells)):=hO.pre.set hSl
  have hT1:TipO st.length ((S++[AObj.cells 0 52 [Iv 0,Sv [],zu]]).set S.length (.cells 0 52 (x3 x).cells)) 1 50 ((recsF pre).map jj) c:=jv (j8 hT) (zq jb)
  have hob:((S++[AObj.cells 0 52 [Iv 0,Sv [],zu]]).set S.length (.cells 0 52 (x3 x).cells))[S.length]? = some (.cells 0 52 (x3 x).cells):=zy jb
  by_cases h3:x.kind=3
  ·skip
   repeat' (first|(apply qef (st:=(S++[AObj.cells 0 52 [Iv 0,Sv [],zu]]).set S.length (.cells 0 52 (x3 x).cells));(iterate 6 exact rfl))|(apply q4n 19 rfl (qib g1);apply zx;(iterate 9 exact rfl))|apply qm|apply qt|apply qd|apply qc|apply qi|apply qe|(apply qq;(iterate 3 exact rfl))|(apply qb;exact rfl;apply ki;exact cAo)|(apply zt;exact rfl;exact rfl;exact zb (by omega) (by omega))|(apply zm;(iterate 3 exact rfl))|(apply zg;(iterate 3 exact rfl))|apply qw|(apply zh;exact rfl;exact hob;exact rfl;exact rfl)|(apply zh;exact rfl;exact jf hob;exact rfl;exact rfl)|(apply qf5 (st:=S);exact rfl;exact rfl)|(apply xj;exact rfl;exact rfl;(focus first|assumption|(repeat' (first|assumption|exact jb|exact zl rfl|apply zy|apply zi|omega|apply jf)));(iterate 6 exact rfl))|(apply kr (n:=pre.length);(iterate 5 exact rfl);exact hget)|(apply z0 (b:=st.length) (xs:=[]) (ys:=x.fields.map fldA) (bytes:=32);(iterate 5 exact rfl);exact⟨⟨_,_,rfl,rfl,rfl,rfl,rfl⟩⟩;exact vc _ _ _ _ _ _ _;(exact Nat.le_trans hO1.len qso);(first|exact rfl|exact jc fun _=>rfl);((simp [maxLen];omega));((simp;omega));intro c1 S1 t1 g1 g2 g3 g4)|(apply z0 (b:=st.length) (xs:=(recsF pre).map jj) (ys:=[jj x.fields]) (bytes:=24);(iterate 5 exact rfl);exact⟨⟨_,_,rfl,rfl,rfl,rfl,rfl⟩⟩;exact q95 g2 g4 (j8 hT1);(exact (hO1.pre.fr g2 g3).len);(first|exact rfl|exact jc fun _=>rfl);((simp [maxLen];omega));((simp;omega));intro c2 S2 t2 k1 k2 k3 k4))
   exact⟨c2,S2,(hO1.pre.fr g2 g3).fr k2 k3,by rw [q0b _ _ h3,yp];exact k1,zw ⟨rfl,rfl,rfl,qeq pre x,trivial⟩⟩
  ·skip
   repeat' (first|apply qm|apply qt|apply qd|apply qc|apply qi|(apply qq;(iterate 3 exact rfl))|(apply qb;exact rfl;apply ki;exact cAo)|(apply qb;exact rfl;apply vw;exact cAo)|(apply zt;exact rfl;exact rfl;exact zb (by omega) (by omega))|(apply zm;(iterate 3 exact rfl))|(apply zg;(iterate 3 exact rfl))|apply qw|(apply zh;exact rfl;exact hob;exact rfl;exact rfl)|(apply qf5 (st:=S);exact rfl;exact rfl)|(apply xj;exact rfl;exact rfl;(focus first|assumption|(repeat' (first|assumption|exact jb|exact zl rfl|apply zy|apply zi|omega|apply jf)));(iterate 6 exact rfl))|(apply kr (n:=pre.length);(iterate 5 exact rfl);exact hget))
   exact⟨c,_,hO1,by rw [q0c _ _ h3];exact hT1,zw ⟨rfl,rfl,rfl,qeq pre x,trivial⟩⟩
end Go.Proofs.YtneejjefekdgjaaGreatDoor
namespace Go.Pl
open Go Go.Proofs Go.Proofs.YtneejjefekdgjaaGreatDoor
def GF (fs:List Fld):Prop:=fs.length≤40∧∀ f∈fs,ju f
structure PI (p:PSt):Prop where
 items:∀ x∈p.items,GF x.fields∧(x.kind=3↔x.fields≠[])
 fields:GF p.fields
 full:p.lines≠[]→p.full=false→p.fields.length<40
theorem qgi {ls:List qa} (h:(zp ls).2=0):ju (zp ls).1:=by
 unfold zp at h ⊢
 split at h
 ·split at h
  ·simp at h
  ·rename_i h1 h2
   rw [if_pos h1,if_neg h2]
   exact⟨(qi4.1 h1.2.1).2.2,Nat.le_of_not_lt h2⟩
 ·simp at h
theorem pi0:PI p0:=⟨by simp [p0],⟨by simp [p0],by simp [p0]⟩,by simp [p0]⟩
theorem PI.flush {p:PSt} (h:PI p):PI (jr p).2:=by
 unfold jr
 split
 ·exact h
 ·rename_i hl
  split
  ·exact h
  ·rename_i hu
   split
   ·exact h
   ·rename_i hf
    have hlt:=h.full hl (by simpa using hf)
    refine⟨h.items,⟨by simp;omega,fun f hm=>?_⟩,by simp⟩
    rcases List.mem_append.1 hm with hm|hm
    ·exact h.fields.2 f hm
    ·simp at hm;subst hm;exact qgi (by simpa using hu)
theorem PI.close {p:PSt} (h:PI p):PI (yg p):=by
 unfold yg
 split
 ·exact⟨h.items,⟨by simp,by simp⟩,fun h1 h2=>by simp⟩
 ·refine⟨fun x hx=>?_,⟨by simp,by simp⟩,fun h1 h2=>by simp⟩
  rcases List.mem_append.1 hx with hx|hx
  ·exact h.items x hx
  ·simp at hx
   subst hx
   refine⟨h.fields,?_⟩
   simp only
   split
   ·rename_i h0;simp [h0]
   ·rename_i h0;simp [h0]
theorem PI.end' {p:PSt} (h:PI p):PI (endP p).2:=by
 unfold endP
 split
 ·exact h
 ·exact h.flush.close
theorem PI.lines' {p:PSt} (h:PI p) (hl:p.lines≠[]) (text:qa):PI { p with lines:=p.lines++[text] }:=⟨h.items,h.fields,fun _ hf=>h.full hl hf⟩
theorem PI.begin' {p:PSt} (h:PI p) (no:Int) (text:qa):PI (km p no text):=by
 refine⟨h.items,h.fields,fun _ hf=>?_⟩
 have:=h.fields.1
 simp only [km,decide_eq_false_iff_not,not_or] at hf ⊢
 omega
theorem PI.ahead {p:PSt} (h:PI p) (no:Int) (text:qa) (ended:Bool) (kind:Int):PI (jn p no text ended kind).2:=by
 unfold jn
 split
 ·split
  ·exact h
  ·rename_i hl
   split
   ·exact h.lines' hl text
   ·exact (h.lines' hl text).flush
 ·split
  ·exact h.end'
  ·exact h.flush
theorem PI.take {p:PSt} (h:PI p) (no:Int) (text:qa) (ended:Bool):PI (wq p no text ended).2:=by
 have ha:=h.ahead no text ended (qy text)
 unfold wq
 split
 ·exact h
 ·split
  ·exact h
  ·split
   ·refine⟨fun x hx=>?_,ha.fields,ha.full⟩
    rcases List.mem_append.1 hx with hx|hx
    ·exact ha.items x hx
    ·simp at hx;subst hx;exact⟨⟨by simp,by simp⟩,by simp⟩
   ·split
    ·have hb:=ha.begin' no text
     exact⟨hb.items,hb.fields,hb.full⟩
    ·exact⟨ha.items,ha.fields,ha.full⟩
theorem PI.run:∀ (ls:List (qa×Bool)) (k:Nat) (p:PSt),PI p→PI (runL k ls p).2
 | [],k,p,h=>h.end'
 |(t,e)::r,k,p,h=>by
  unfold runL
  split
  ·exact h
  ·exact PI.run r (k+1) _ (h.take k t e)
theorem qot (text:qa):∀ x∈(js text).2,GF x.fields∧(x.kind=3↔x.fields≠[]):=by
 unfold js
 split
 ·simp
 ·exact (PI.run _ 0 _ pi0).items
theorem qwv (p:PSt):(yg p).items.length≤p.items.length+1:=by
 unfold yg
 split <;> simp
theorem qhz (p:PSt):(jr p).2.items=p.items:=by
 unfold jr
 split
 ·rfl
 ·split
  ·rfl
  ·split <;> rfl
theorem qqu (p:PSt):(endP p).2.items.length≤p.items.length+1:=by
 unfold endP
 split
 ·simp
 ·have:=qwv (jr p).2
  rw [qhz] at this
  exact this
theorem qv0 (p:PSt) (no:Int) (text:qa) (ended:Bool) (kind:Int):(jn p no text ended kind).2.items.length≤p.items.length+1:=by
 unfold jn
 split
 ·split
  ·simp
  ·split
   ·simp
   ·rw [qhz];simp
 ·split
  ·exact qqu p
  ·rw [qhz];simp
theorem q0p (p:PSt) (no:Int) (text:qa) (ended:Bool):(wq p no text ended).2.items.length≤p.items.length+2:=by
 have ha:=qv0 p no text ended (qy text)
 unfold wq
 split
 ·simp
 ·split
  ·simp
  ·split
   ·simp;omega
   ·split
    ·simp [km];omega
    ·simp;omega
theorem qlk:∀ (ls:List (qa×Bool)) (k:Nat) (p:PSt),(runL k ls p).2.items.length≤p.items.length+2 * ls.length+1
 | [],k,p=>by have:=qqu p;simp [runL];omega
 |(t,e)::r,k,p=>by
  unfold runL
  split
  ·simp;omega
  ·have h1:=qlk r (k+1) (wq p k t e).2
   have h2:=q0p p k t e
   simp only [List.length_cons]
   omega
theorem q6g (text:qa):(js text).2.length≤2 * text.length+1:=by
 unfold js
 split
 ·simp
 ·have h1:=qlk (zr text) 0 p0
  have h2:=(qer _ text (Nat.le_refl _)).2
  have h3:p0.items.length=0:=rfl
  simp only
  omega
theorem q2y (by' l:qa):(va by' l).1.length≤l.length:=by
 unfold va
 split
 ·have h:=(qer _ l (Nat.le_refl _)).1
  have key:∀ (ls:List (qa×Bool)),(ls.flatMap fun x=>x.1.drop by'.length++wu x.2).length≤lsum ls:=by
   intro ls
   induction ls with
   |nil=>simp [lsum]
   |cons x r ih=>
    simp only [lsum,List.flatMap_cons,List.length_append,List.map_cons,List.sum_cons,List.length_drop] at ih ⊢
    omega
  have:=key (zr l)
  simp only
  omega
 ·simp
end Go.Pl
namespace Go.Proofs.YtneejjefekdgjaaGreatDoor
open Go Go.Av Go.RowKit Go.Proofs Go.Pl
theorem qll (text:qa) (st:List AObj) (hl:text.length≤60000) (h:(js text).1=none):qn E 23 [Sv text] st fun r st'=>r = .tu [ya (js text).2,.v .nilIface]∧st'=st:=by
 have:=qpu text st hl
 unfold qc7 at this
 rw [h] at this
 exact this
theorem q0m (text:qa) (st:List AObj) (a n:Int) (hl:text.length≤60000) (h:(js text).1=some (a,n)):qn E 23 [Sv text] st fun r st'=>r = .tu [ya (js text).2,.ifc 121 (.pp [Iv a,.ifc 62 (Iv n)])]∧st'=st:=by
 have:=qpu text st hl
 unfold qc7 at this
 rw [h] at this
 exact this
def qc2 (text:qa):List Fld×Bool:=
 if (va [32,32] text).2=false∨(js (va [32,32] text).1).1≠none then ([],false)
 else match recsF (js (va [32,32] text).1).2 with
  | []=>([],decide ((va [32,32] text).1=[]))
  |f::_=>(f,decide ((js (va [32,32] text).1).2.length=1))
theorem zeb {a b:List Fld} {c d:Bool} (h1:a=b) (h2:c=d):AV.tu [jj a,Bv c]=AV.tu [jj b,Bv d]:=by rw [h1,h2]
theorem q3u {its:List ka} (h:∀ x∈its,GF x.fields∧(x.kind=3↔x.fields≠[])):∀ fs∈recsF its,GF fs∧fs≠[]:=fun fs hfs=>by
 obtain⟨x,hx,rfl⟩:=List.mem_map.1 hfs
 obtain⟨hx1,hx2⟩:=List.mem_filter.1 hx
 have:=h x hx1
 exact⟨this.1,this.2.1 (by simpa using hx2)⟩
set_option maxHeartbeats 2000000 in
theorem q8p (text:qa) (st:List AObj) (hl:text.length≤60000):qn E 208 [Sv text] st fun r st'=>r = .tu [jj (qc2 text).1,Bv (qc2 text).2]∧st'=st:=by
 refine qu (wl (qcd _) (qx _)) (qo Tryz.func208 rfl (Nat.le_of_ble_eq_true rfl) ?_)
 have hdl:=q2y [32,32] text
 have hpl:=q6g (va [32,32] text).1
 have hit:=qot (va [32,32] text).1
 unfold qc2
 obtain⟨d,hd⟩:∃ d,d=va [32,32] text:=⟨_,rfl⟩
 have hdc:∀ st,qn E 264 [Sv text,Sv [32,32]] st fun r st'=>r = .tu [Sv d.1,Bv d.2]∧st'=st:=fun st=>by rw [hd];exact qwz text [32,32] st (by omega)
 rw [← hd] at hdl hpl hit ⊢
 obtain⟨b,ok⟩:=d
 simp only at hdl hpl hit hdc ⊢
 cases hp:(js b).1 with
 |some e=>
  obtain⟨a,n⟩:=e
  rw [if_pos (.inr (by simp))]
  cases ok
  all_goals
   repeat' (first|apply qm|apply qd|apply qc|apply qi|apply qe|(apply q9;exact rfl;exact rfl)|(apply jd;exact rfl)|(apply qv;(iterate 4 exact rfl))|(apply yw;exact cRa)|(apply qbe;exact cRa)|(apply qh;exact rfl;apply qhj;exact cRa)|(apply qh;exact rfl;apply qec;exact cRa)|(apply qb;exact rfl;apply cd_t;exact cRa)|(apply wz;exact rfl;exact rfl)|apply qs|(apply qf;exact Tryz.call264;exact hdc _)|(apply qf;exact Tryz.call23;exact q0m _ _ _ _ (by omega) hp))
   exact qk rfl (xb (j5 rfl) (qen (qfm 2) (qbk (Bv false)))) ⟨rfl,_,rfl⟩
 |none=>
  cases ok
  ·rw [if_pos (.inl rfl)]
   repeat' (first|apply qm|apply qd|apply qc|apply qi|apply qe|(apply q9;exact rfl;exact rfl)|(apply jd;exact rfl)|(apply qv;(iterate 4 exact rfl))|(apply qbe;exact cRa)|(apply qh;exact rfl;apply qhj;exact cRa)|(apply qb;exact rfl;apply cd_t;exact cRa)|apply qs|(apply qf;exact Tryz.call264;exact hdc _)|(apply qf;exact Tryz.call23;exact qll _ _ (by omega) hp))
   exact qk rfl (xb (j5 rfl) (qen (qfm 2) (qbk (Bv false)))) ⟨rfl,_,rfl⟩
  ·rw [if_neg (by simp)]
   have hsc:=fun st=>q65 (js b).2 st (by omega) (fun x hx=>by have:=(hit x hx).1.1;omega)
   have hml:((js b).2.map x3).length=(js b).2.length:=by simp
   cases hr:recsF (js b).2 with
   |nil=>
    rw [hr] at hsc
    repeat' (first|apply qm|apply qd|apply qc|apply qi|apply qe|(apply q9;exact rfl;exact rfl)|(apply qq;(iterate 3 exact rfl))|(apply jg;(iterate 3 exact rfl))|(apply jd;exact rfl)|(apply qv;(iterate 4 exact rfl))|(apply yw;exact cRa)|(apply qh;exact rfl;apply qec;exact cRa)|(apply qb;exact rfl;apply cd_t;exact cRa)|(apply qb;exact rfl;apply cd_f;exact cRa)|(apply kl;(iterate 4 exact rfl))|(apply vt;exact rfl;exact rfl)|apply qw|apply qs|(apply qf;exact Tryz.call264;exact hdc _)|(apply qf;exact Tryz.call23;exact qll _ _ (by omega) hp)|(apply qf;exact Tryz.call24;exact hsc _))
    exact qk rfl (xb (j5 rfl) (qen (qfm 2) (qbk (Bv (decide (b=[])))))) ⟨rfl,_,rfl⟩
   |cons f r=>
    rw [hr] at hsc
    have hrl:((f::r).map jj).length=r.length+1:=by simp
    repeat' (first|apply qm|apply qd|apply qc|apply qi|apply qe|(apply q9;exact rfl;exact rfl)|(apply qq;(iterate 3 exact rfl))|(apply jd;exact rfl)|(apply qv;(iterate 4 exact rfl))|(apply yw;exact cRa)|(apply qh;exact rfl;apply qec;exact cRa)|(apply qb;exact rfl;apply vw;exact cAo)|(apply qb;exact rfl;apply cd_f;exact cRa)|(apply kl;(iterate 4 exact rfl))|(apply vt;exact rfl;exact rfl)|(apply zg;(iterate 3 exact rfl))|apply qw|apply qs|(apply qf;exact Tryz.call264;exact hdc _)|(apply qf;exact Tryz.call23;exact qll _ _ (by omega) hp)|(apply qf;exact Tryz.call24;exact hsc _)|(apply kr (n:=0);(iterate 6 exact rfl)))
    refine qk rfl (j5 rfl) ⟨zeb rfl (decide_eq_decide.2 ?_),_,rfl⟩
    rw [hml]
    omega
def xw (text:qa):List LnV→Nat→List qa
 | [],frm=>[text.drop frm]
 |l::r,frm=>if frm<l.at'∧¬ [32,32] <+: l.text then (text.take l.at').drop frm::xw text r l.at' else xw text r frm
def qd5 (text:qa):List qa:=xw text (lns text) 0
theorem q5t (l m:qa) (st:List AObj) (h:m <+: l):qn E 164 [Sv l,Sv m] st fun r st'=>r=Bv true∧st'=st:=by
 have:=qd2 l m st
 rw [(xo l m).2 h] at this
 exact this
theorem q5s (l m:qa) (st:List AObj) (h:¬ m <+: l):qn E 164 [Sv l,Sv m] st fun r st'=>r=Bv false∧st'=st:=by
 have:=qd2 l m st
 have hf:Lib.hasPrefix l m=false:=by
  cases hb:Lib.hasPrefix l m with
  |false=>rfl
  |true=>exact absurd ((xo l m).1 hb) h
 rw [hf] at this
 exact this
theorem zb2 (text:qa) (st:List AObj) (hl:text.length<1000000):qn E 206 [Sv text] st fun r st'=>r=Ss (qd5 text)∧st'=st:=by
 refine jo [.s text] (qj8 _) Tryz.func206 rfl rfl (fun _=>rfl) rfl fun S0=>?_
 apply ql []
 repeat' (first|apply And.intro|(intro h;try exact cDd)|exact⟨Tryz.call67⟩|(refine Exists.intro _ ⟨qlm _,?_⟩)|exact cSd|apply qg []|refine exr ?_|refine qp ?_)
 refine qf0 (X:=List qa×Nat) text 2 3 [0,1,2] (fun (out,frm)=>⟨[(1,.a (.pp [Sv text])),(3,.bx 0 0),(4,.bx 1 0),(7,.fn (.func 121) [] [.bx 2 0])],
   [(0,some (.cells 136 [.tp 3])),(1,some (.cells 3 [.i frm])),(2,some (.cells 9 [.s text])),(3,some (.tip 1 9 (out.map fun x=>Sv x)))],4⟩) _
  (fun k rest (out,frm)=>∃ a,a+rest.length=text.length∧frm≤a∧out.length≤k∧k≤a∧out++xw text (ku k a rest) frm=qd5 text) (fun _ _=>False) ([],0) ⟨0,by simp,by omega,by simp,by omega,rfl⟩ ?_ id (by omega) (fun _=>rfl) rfl (fun _=>rfl) (fun _=>rfl) rfl ?_ ?_ (fun _ _ h=>h.elim)
 ·skip
  repeat' (first|apply And.intro|(intro h;try exact cDd)|exact cSd|apply qg []|refine exr ?_|refine qp ?_)
 ·rintro k rest ⟨out,frm⟩ ⟨a,ha,hfa,hok,hka,hrun⟩ hne hle
  have hcons:=y9 (k:=k) (a:=a) hne
  have hul:=kv 10 rest
  have hr0:0<rest.length:=List.length_pos_iff.2 hne
  have hpl:=kq 10 rest
  have hpa:a+(upto 10 rest).length+1+(past 10 rest).length=text.length∨past 10 rest=[]:=by
   by_cases h10:10∈rest
   ·have:=qdv h10
    exact .inl (by omega)
   ·right
    unfold past
    rw [wm h10]
    simp
  have hpast:∀ f,xw text (ku (k+1) (a+(upto 10 rest).length+1) (past 10 rest)) f=xw text (ku (k+1) (text.length - (past 10 rest).length) (past 10 rest)) f:=fun f=>by
   rcases hpa with h|h
   ·have:a+(upto 10 rest).length+1=text.length - (past 10 rest).length:=by omega
    rw [this]
   ·rw [h,y7,y7]
  have e:(text.length:Int) - rest.length=(a:Int):=by omega
  rw [hcons,xw] at hrun
  unfold qk4
  rw [e]
  by_cases hp:[32,32] <+: upto 10 rest
  ·have hhp:=fun st=>q5t (upto 10 rest) [32,32] st hp
   rw [if_neg (fun h=>h.2 hp),hpast] at hrun
   refine RA.mk fun S F ρ rd=>?_
   apply ql []
   repeat' (first|apply And.intro|(intro h;try exact cDd)|(refine RB.mk fun S rd=>?_;apply ql [])|exact⟨Tryz.call164⟩|refine cpe hhp ?_|(refine Exists.intro (out,frm) ⟨⟨text.length - (past 10 rest).length,by omega,by omega,by omega,by omega,hrun⟩,?_⟩)|exact cSd|apply qg []|refine exr ?_|refine qp ?_)
  ·have hhp:=fun st=>q5s (upto 10 rest) [32,32] st hp
   by_cases hfr:frm<a
   ·rw [if_pos ⟨hfr,hp⟩,hpast] at hrun
    refine RA.mk fun S F ρ rd=>?_
    apply ql []
    repeat' (first|apply And.intro|(intro h;try exact cDd)|(refine RB.mk fun S rd=>?_;apply ql [25])|exact⟨Tryz.call164⟩|refine cpe hhp ?_|(refine Exists.intro (out++[(text.take a).drop frm],a) ⟨⟨text.length - (past 10 rest).length,by omega,by omega,by simp;omega,by omega,by rw [← hrun];simp⟩,?_⟩)|exact cSd|apply qg [25]|refine exr ?_|refine qp ?_)
    all_goals first|(simp [SV.evs];omega)|(simp [SV.evs,SV.ev];done)
   ·rw [if_neg (fun h=>hfr h.1),hpast] at hrun
    refine RA.mk fun S F ρ rd=>?_
    apply ql []
    repeat' (first|apply And.intro|(intro h;try exact cDd)|(refine RB.mk fun S rd=>?_;apply ql [])|exact⟨Tryz.call164⟩|refine cpe hhp ?_|(refine Exists.intro (out,frm) ⟨⟨text.length - (past 10 rest).length,by omega,by omega,by omega,by omega,hrun⟩,?_⟩)|exact cSd|apply qg []|refine exr ?_|refine qp ?_)
 ·rintro k ⟨out,frm⟩ ⟨a,ha,hfa,hok,hka,hrun⟩
  rw [y7,xw] at hrun
  repeat' (first|apply And.intro|(intro h;try exact cDd)|exact cSd|apply qg []|refine exr ?_|refine qp ?_)
  rw [← hrun]
  simp
def decP:List qa→List qr→Option (List qr)
 | [],acc=>some acc
 |p::r,acc=>match begE (upto 10 p) with
  |none=>none
  |some (k,n)=>if (qc2 (past 10 p)).2=true∧acc.length≠40 then decP r (acc++[⟨k,n,(qc2 (past 10 p)).1⟩]) else none
def decF (text:qa):Option (List qr):=if 50000<text.length then none else match decP (qd5 text) [] with
 |none=>none
 |some b=>if eErr b = .no∧encF b=text then some b else none
def decA:Option (List qr)→AV
 |none=>.tu [jm [],.ifc 62 (Iv 2)]
 |some b=>.tu [jm b,.v .nilIface]
theorem q5a (x:Option (List qr)):Pure (decA x):=by
 rcases x with _|b
 ·exact wl (qco _) (qch (qx _))
 ·exact wl (qco _) (qx _)
theorem qi7 (text:qa):∀ (ls:List LnV) (f:Nat),(∀ p∈xw text ls f,p.length≤text.length)∧(xw text ls f).length≤ls.length+1
 | [],f=>by simp [xw]
 |l::r,f=>by
  unfold xw
  split
  ·obtain⟨h1,h2⟩:=qi7 text r l.at'
   refine⟨fun p hp=>?_,by simp;omega⟩
   rcases List.mem_cons.1 hp with rfl|hp
   ·simp;omega
   ·exact h1 p hp
  ·obtain⟨h1,h2⟩:=qi7 text r f
   exact⟨h1,by simp;omega⟩
theorem qsh {l:qa} {k n:Int} (h:begE l=some (k,n)) : -9223372036854775808≤n∧n≤9223372036854775807:=by
 have key:∀ {j:Int} {n:Int},tryB j l=some n→-9223372036854775808≤n∧n≤9223372036854775807:=fun {j n} h=>by
  unfold tryB at h
  split at h
  ·split at h
   ·rename_i v hv
    cases h
    exact Lib.atoiAll_bounds hv
   ·simp at h
  ·simp at h
 unfold begE at h
 split at h
 ·rename_i v hv;simp at h;rw [← h.2];exact key hv
 ·split at h
  ·rename_i v hv;simp at h;rw [← h.2];exact key hv
  ·split at h
   ·rename_i v hv;simp at h;rw [← h.2];exact key hv
   ·simp at h
theorem qoi (text:qa):GF (qc2 text).1:=by
 unfold qc2
 split
 ·exact⟨by simp,by simp⟩
 ·split
  ·exact⟨by simp,by simp⟩
  ·rename_i f r hr
   exact (q3u (qot _) f (by rw [hr];simp)).1
theorem q5h {k n:Int} {fs:List Fld} (h1 : -9223372036854775808≤n) (h2:n≤9223372036854775807) (hg:GF fs):EdB ⟨k,n,fs⟩:=
 ⟨fun f hf=>by have:=(hg.2 f hf).1.2.1;omega,by have:=hg.1;simp only;omega,h1,h2⟩
set_option maxHeartbeats 4000000 in
theorem q8e (text:qa) (st:List AObj) (hl:text.length<1000000):qn E 120 [Sv text] st fun r st'=>r=decA (decF text)∧st'=st:=by
 refine jo [.s text] (q5a _) Tryz.func120 rfl rfl (fun _=>rfl) rfl fun S0=>?_
 by_cases hbig:50000<text.length
 ·have hd:decF text=none:=if_pos hbig
  rw [hd]
  apply ql []
  repeat' (first|apply And.intro|(intro h;try exact cDd)|exact cSd|apply qg []|refine exr ?_|refine qp ?_)
 have hdf:decF text=match decP (qd5 text) [] with
  |none=>none
  |some b=>if eErr b = .no∧encF b=text then some b else none:=if_neg hbig
 have hpl:=(qi7 text (lns text) 0).1
 have hpn:=(qi7 text (lns text) 0).2
 have hln:=qb7 _ text 0 0 (Nat.le_refl _)
 have hpe:xw text (lns text) 0=qd5 text:=rfl
 have hle:(lns text).length≤text.length:=hln
 rw [hpe] at hpl hpn
 have hml:((qd5 text).map fun x=>Sv x).length=(qd5 text).length:=by simp
 have hpc:=fun st=>zb2 text st hl
 generalize qd5 text=L at hdf hpl hpn hml hpc
 apply ql []
 repeat' (first|apply And.intro|(intro h;try exact cDd)|exact⟨Tryz.call206⟩|refine cpe hpc ?_|exact cSd|apply qg []|refine exr ?_|refine qp ?_)
 refine vm (X:=Nat×List qr) (fun (k,acc)=>⟨[(0,.s text),(4,.tp 0),(21,.a (Ss L)),(22,.i L.length),(23,.i k)],[(0,some (.tip 3 113 (acc.map q8)))],1⟩)
  (fun (k,acc)=>k≤L.length∧acc.length≤k∧(∀ x∈acc,EdB x)∧decP (L.drop k) acc=decP L []) (fun x=>L.length - x.1) (0,[]) ⟨by omega,by simp,by simp,rfl⟩ ?_ ?_
 ·skip
  repeat' (first|apply And.intro|(intro h;try exact cDd)|exact cSd|apply qg []|refine exr ?_|refine qp ?_)
  all_goals first|(simp;done)
 ·rintro⟨j,acc⟩ ⟨hj,hal,hB,hrun⟩
  have hma:(acc.map q8).length=acc.length:=by simp
  by_cases hc:j<L.length
  ·obtain⟨p,hx⟩:∃ p,L[j]? = some p:=⟨_,List.getElem?_eq_getElem hc⟩
   have hg:(L.map fun x=>Sv x)[j]? = some (Sv p):=by simp [hx]
   have hd:L.drop j=p::L.drop (j+1):=by
    obtain⟨hlt,e⟩:=List.getElem?_eq_some_iff.1 hx
    rw [List.drop_eq_getElem_cons hlt,e]
   have hpp:=hpl p (List.mem_of_getElem? hx)
   have hul:=kv 10 p
   have hpal:=kq 10 p
   have hcu:=fun st=>qhw p 10 st (by omega)
   have hbc:=fun st=>za1 (upto 10 p) st (by omega)
   have hgf:=qoi (past 10 p)
   have hfc:=fun st=>q8p (past 10 p) st (by omega)
   rw [hd,decP] at hrun
   cases hbe:begE (upto 10 p) with
   |none=>
    rw [hbe] at hrun hbc
    simp only at hrun
    rw [← hrun] at hdf
    simp only at hdf
    rw [hdf]
    apply ql []
    repeat' (first|apply And.intro|(intro h;try exact cDd)|(refine Exists.intro (j) ⟨by omega,_,hg,?_⟩)|exact⟨Tryz.call72⟩|refine cpe hcu ?_|exact⟨Tryz.call207⟩|refine cpe hbc ?_|exact⟨Tryz.call208⟩|refine cpe hfc ?_|exact cSd|apply qg []|refine exr ?_|refine qp ?_)
   |some kn=>
    obtain⟨kd,n⟩:=kn
    have hid:=qsh hbe
    rw [hbe] at hrun hbc
    simp only at hrun
    obtain⟨fs,hfs⟩:∃ x,x=(qc2 (past 10 p)).1:=⟨_,rfl⟩
    rw [← hfs] at hrun hfc hgf
    cases hok:(qc2 (past 10 p)).2 with
    |false=>
     rw [hok] at hrun hfc
     rw [if_neg (by simp)] at hrun
     rw [← hrun] at hdf
     simp only at hdf
     rw [hdf]
     apply ql []
     repeat' (first|apply And.intro|(intro h;try exact cDd)|(refine Exists.intro (j) ⟨by omega,_,hg,?_⟩)|exact⟨Tryz.call72⟩|refine cpe hcu ?_|exact⟨Tryz.call207⟩|refine cpe hbc ?_|exact⟨Tryz.call208⟩|refine cpe hfc ?_|exact cSd|apply qg []|refine exr ?_|refine qp ?_)
    |true=>
     rw [hok] at hrun hfc
     by_cases h40:acc.length=40
     ·rw [if_neg (by simp [h40])] at hrun
      rw [← hrun] at hdf
      simp only at hdf
      rw [hdf]
      apply ql []
      repeat' (first|apply And.intro|(intro h;try exact cDd)|(refine Exists.intro (j) ⟨by omega,_,hg,?_⟩)|exact⟨Tryz.call72⟩|refine cpe hcu ?_|exact⟨Tryz.call207⟩|refine cpe hbc ?_|exact⟨Tryz.call208⟩|refine cpe hfc ?_|exact cSd|apply qg []|refine exr ?_|refine qp ?_)
     ·rw [if_pos ⟨rfl,h40⟩] at hrun
      have hB2:∀ x∈acc++[⟨kd,n,fs⟩],EdB x:=fun x hx=>by
       rcases List.mem_append.1 hx with hx|hx
       ·exact hB x hx
       ·obtain rfl:=List.mem_singleton.1 hx
        exact q5h hid.1 hid.2 hgf
      apply ql []
      repeat' (first|apply And.intro|(intro h;try exact cDd)|(refine Exists.intro (j) ⟨by omega,_,hg,?_⟩)|exact⟨Tryz.call72⟩|refine cpe hcu ?_|exact⟨Tryz.call207⟩|refine cpe hbc ?_|exact⟨Tryz.call208⟩|refine cpe hfc ?_|(refine Exists.intro (j+1,acc++[⟨kd,n,fs⟩]) ⟨⟨by omega,by simp;omega,hB2,hrun⟩,by simp only;omega,?_⟩)|exact cSd|apply qg []|refine exr ?_|refine qp ?_)
      all_goals (simp;done)
  ·have hd:L.drop j=[]:=List.drop_eq_nil_of_le (by omega)
   rw [hd,decP] at hrun
   rw [← hrun] at hdf
   simp only at hdf
   cases he:eErr acc with
   |no=>
    have hen:=fun st=>qty acc st hB he
    by_cases ht:encF acc=text
    ·rw [if_pos ⟨he,ht⟩] at hdf
     rw [hdf]
     rw [ht] at hen
     apply ql []
     repeat' (first|apply And.intro|(intro h;try exact cDd)|exact⟨Tryz.call103⟩|refine cpe hen ?_|exact cSd|apply qg []|refine exr ?_|refine qp ?_)
    ·rw [if_neg fun h=>ht h.2] at hdf
     rw [hdf]
     apply ql []
     repeat' (first|apply And.intro|(intro h;try exact cDd)|exact⟨Tryz.call103⟩|refine cpe hen ?_|exact cSd|apply qg []|refine exr ?_|refine qp ?_)
     all_goals exact absurd ht (by assumption)
   |num n=>
    have hen:=fun st=>qiu acc st (.num n) hB (by omega) he fun h=>by
     have:=(qc1 acc).1 (by rw [he];exact h)
     rw [he] at this
     simp at this
    rw [if_neg fun h=>by rw [he] at h;simp at h] at hdf
    rw [hdf]
    apply ql []
    repeat' (first|apply And.intro|(intro h;try exact cDd)|exact⟨Tryz.call103⟩|refine cpe hen ?_|exact cSd|apply qg []|refine exr ?_|refine qp ?_)
   |at' a n=>
    have hen:=fun st=>qiu acc st (.at' a n) hB (by omega) he fun h=>by
     have:=(qc1 acc).1 (by rw [he];exact h)
     rw [he] at this
     simp at this
    rw [if_neg fun h=>by rw [he] at h;simp at h] at hdf
    rw [hdf]
    apply ql []
    repeat' (first|apply And.intro|(intro h;try exact cDd)|exact⟨Tryz.call103⟩|refine cpe hen ?_|exact cSd|apply qg []|refine exr ?_|refine qp ?_)
theorem qj0:qvh E:=fun _ _ _ h hb hB _ h2=>h _ (hb.trans (h2.mono hB))
theorem zbj : (Tryz.prog.fieldsOf 111).toList = [⟨ "Key", 9, 0, false, "", "", 0⟩, ⟨ "Value", 9, 1, false, "", "", 16⟩] := by kernel_rfl
theorem zbi (a b c d:ByteArray) (w:World):(Op.equalIn 10000 111 (.agg #[.string a,.string b]) (.agg #[.string c,.string d])).run Tryz.prog w = .ok (a.toList == c.toList && b.toList == d.toList) w:=by
 rw [run_equalIn_agg w 9999 111 _ _ (by kernel_rfl) (by kernel_rfl),zbj]
 have p1:∀ (x y:ByteArray) w,(part 9 #[.string x,.string y] 0).run Tryz.prog w = .ok (.string x) w:=fun x y w=>by kernel_rfl
 have p2:∀ (x y:ByteArray) w,(part 9 #[.string x,.string y] 1).run Tryz.prog w = .ok (.string y) w:=fun x y w=>by kernel_rfl
 have hs:∀ (x y:ByteArray) w,(Op.equalIn 9999 9 (.string x) (.string y)).run Tryz.prog w = .ok (x.toList == y.toList) w:=fun x y w=>run_equalIn_string w 9998 9 x y (by kernel_rfl)
 simp only [Op.eqFields,Sem.run_bind,Sem.run_ite,p1,p2,hs,Result.andThen_ok,Sem.run_pure]
 cases hac:(a.toList == c.toList) <;> cases hbd:(b.toList == d.toList) <;> simp
theorem q1u {G:Gh} {f:Fld} {v:Value} (h:Rel G (fldA f) v):v = .agg #[.string ⟨f.1.toArray⟩,.string ⟨f.2.toArray⟩]:=by
 cases h with
 |ag _ vs hl h=>
  match vs,hl with
  | ⟨[x,y]⟩,_=>
   have h1:=h 0 _ x rfl rfl
   have h2:=h 1 _ y rfl rfl
   cases h1
   cases h2
   rfl
theorem zbx (f g:Fld) (w:World):(binOp .neq 111 (.agg #[.string ⟨f.1.toArray⟩,.string ⟨f.2.toArray⟩]) (.agg #[.string ⟨g.1.toArray⟩,.string ⟨g.2.toArray⟩])).run Tryz.prog w = .ok (.bool (decide (f≠g))) w:=by
 rw [run_neq_struct,zbi]
 simp only [Result.andThen_ok,ByteArray.toList_eq]
 obtain⟨a,b⟩:=f
 obtain⟨c,d⟩:=g
 congr 2
 by_cases h1:a=c <;> by_cases h2:b=d <;> simp [h1,h2]
section
variable {N : Nat} {ops : Array Oper} {K : AS → Prop} {s : AS} {rest : List Oper} {d : Option Tmp} {T : TypeId} {p : String} {af : Array Edge}
theorem q4p {x y:Operand} {t':TypeId} {f g:Fld} {b:Bool} (hx:qj N s x=fldA f) (hy:qj N s y=fldA g) (hb:decide (f≠g)=b)
  (h:AQ E N ops rest K (s.put d (Bv b))):AQ E N ops (⟨d,.binOp .neq 111 x y t',T,p,af,none⟩::rest) K s:=by
 subst hb
 refine qca rfl nofun fun B0 w0 G a w _ hI=>⟨.bool (decide (f≠g)),_,fun w' _=>?_,.v _,h⟩
 have h1:=q1u (hI.eval_of hx)
 have h2:=q1u (hI.eval_of hy)
 generalize a.eval = ρ at h1 h2
 have hg:(eqGuard .neq 111 x y (.agg #[.string ⟨f.1.toArray⟩,.string ⟨f.2.toArray⟩]) (.agg #[.string ⟨g.1.toArray⟩,.string ⟨g.2.toArray⟩])).run Tryz.prog w' = .ok () w':=run_eqGuard_agg w' _ _ _ _ _ _ (by kernel_rfl)
 simp [execOp,h1,h2,hg,zbx]
theorem qwh {x y:Operand} {t t':TypeId} {m n:Int} (hx:qj N s x=Iv m) (hy:qj N s y=Iv n) (hne:m≠n)
  (h:AQ E N ops rest K (s.put d (Bv true))):AQ E N ops (⟨d,.binOp .neq t x y t',T,p,af,none⟩::rest) K s:=
 q0u hx hy (by simp [cmpI,hne]) h
theorem qo1 {x y:Operand} {t t':TypeId} {m n:Int} (hx:qj N s x=Iv m) (hy:qj N s y=Iv n) (hne:m=n)
  (h:AQ E N ops rest K (s.put d (Bv false))):AQ E N ops (⟨d,.binOp .neq t x y t',T,p,af,none⟩::rest) K s:=
 q0u hx hy (by simp [cmpI,hne]) h
theorem q4q {x:Operand} {t:TypeId} {b:Bool} (hx:qj N s x=Bv b)
  (h:AQ E N ops rest K (s.put d (Bv (!b)))):AQ E N ops (⟨d,.unOp .not t x,T,p,af,none⟩::rest) K s:=
 yu _ rfl nofun (fun a w he=>by simp [execOp,he _ _ hx,Op.unary]) h
end
theorem q1s {a b:List Fld}:∀ x∈[jj a,jj b],Pure x:=by
 intro x hx
 simp only [List.mem_cons,List.not_mem_nil,or_false] at hx
 rcases hx with rfl|rfl <;> exact qcd _
theorem qam {α : Type} [DecidableEq α] {a b:List α} {k:Nat} {d : α} (hl:a.length=b.length) (hk:k<a.length) (h:a.take k=b.take k) (h2:a.getD k d=b.getD k d):a.take (k+1)=b.take (k+1):=by
 rw [List.take_succ_eq_append_getElem hk,List.take_succ_eq_append_getElem (by omega),h]
 congr 2
 simpa [List.getD,hk,show k<b.length by omega] using h2
theorem qtz (a b:List Fld) (st:List AObj) (ha:a.length<9223372036854775808):qn E 26 [jj a,jj b] st fun r st'=>r=Bv (decide (a=b))∧st'=st:=by
 refine qu (qx _) (qo Tryz.func26 rfl (Nat.le_of_ble_eq_true rfl) ?_)
 have hma:(a.map fldA).length=a.length:=by simp
 have hmb:(b.map fldA).length=b.length:=by simp
 by_cases hl:a.length=b.length
 ·skip
  repeat' (first|apply qm|apply qt|apply qd|apply qc|apply qi|apply qe|(apply qq;(iterate 3 exact rfl))|(apply qb;exact rfl;apply vw;exact cAo)|(apply kl;(iterate 4 exact rfl))|apply qw)
  refine jh (fun (k:Nat) s=>k≤a.length∧a.take k=b.take k∧StE [(0,jj a),(1,jj b),(12,Iv a.length),(13,Iv k)] st [] s) (fun k=>a.length - k) 0 ⟨by omega,by simp,qcs ⟨rfl,rfl,congrArg (fun n:Nat=>Iv (n:Int)) hma,rfl,trivial⟩ rfl⟩ ?_
  rintro k _ ⟨hk,ht,t,ext,rfl⟩
  by_cases hc:k<a.length
  ·by_cases he:a.getD k ([],[])=b.getD k ([],[])
   ·have hn:decide (a.getD k ([],[])≠b.getD k ([],[]))=false:=decide_eq_false fun h=>h he
    repeat' (first|apply qm|apply qt|apply qd|apply qc|apply qi|apply qe|(apply qq;(iterate 3 exact rfl))|(apply qb;exact rfl;apply ki;exact cAo)|(apply qb;exact rfl;apply cd_f;exact cRa)|(apply zt;exact rfl;exact rfl;exact zb (by omega) (by omega))|(apply qau;exact rfl;kernel_rfl)|apply qbv|(apply qag;(iterate 3 exact rfl))|apply qao|apply qw|(apply vg (n:=k);(iterate 5 exact rfl);exact qkv (xs:=a) (by omega))|(apply vg (n:=k);(iterate 5 exact rfl);exact qkv (xs:=b) (by omega))|(apply q4p;exact rfl;exact rfl;exact hn))
    exact⟨k+1,⟨by omega,qam hl hc ht he,qaf ⟨rfl,rfl,rfl,rfl,trivial⟩ rfl⟩,by omega⟩
   ·have hn:decide (a.getD k ([],[])≠b.getD k ([],[]))=true:=decide_eq_true he
    have hab:¬ a=b:=fun e=>he (by rw [e])
    repeat' (first|apply qm|apply qt|apply qd|apply qc|apply qi|apply qe|(apply qq;(iterate 3 exact rfl))|(apply qb;exact rfl;apply ki;exact cAo)|(apply qb;exact rfl;apply cd_t;exact cRa)|(apply qau;exact rfl;kernel_rfl)|apply qbv|(apply qag;(iterate 3 exact rfl))|apply qao|apply qw|apply qs|(apply vg (n:=k);(iterate 5 exact rfl);exact qkv (xs:=a) (by omega))|(apply vg (n:=k);(iterate 5 exact rfl);exact qkv (xs:=b) (by omega))|(apply q4p;exact rfl;exact rfl;exact hn))
    exact qk rfl (qz rfl) ⟨congrArg Bv (decide_eq_false hab).symm,xg _ _ _ _⟩
  ·have hab:a=b:=by
    have e:k=a.length:=by omega
    rw [e,List.take_length,List.take_of_length_le (by omega)] at ht
    exact ht
   repeat' (first|apply qm|apply qd|apply qc|apply qe|(apply qq;(iterate 3 exact rfl))|(apply qb;exact rfl;apply vw;exact cAo)|apply z7|apply qs)
   exact qk rfl (qz rfl) ⟨congrArg Bv (decide_eq_true hab).symm,xg _ _ _ _⟩
 ·have hab:¬ a=b:=fun e=>hl (by rw [e])
  repeat' (first|apply qm|apply qd|apply qc|apply qi|apply qe|(apply qq;(iterate 3 exact rfl))|(apply qb;exact rfl;apply ki;exact cAo)|(apply kl;(iterate 4 exact rfl))|apply qs)
  exact qk rfl (qz rfl) ⟨congrArg Bv (decide_eq_false hab).symm,_,rfl⟩
end Go.Proofs.YtneejjefekdgjaaGreatDoor
namespace Go.Pl
open Go Go.Proofs Go.Proofs.YtneejjefekdgjaaGreatDoor
theorem yt (s:qa) (r:List qa):zn (s::r)=s++10::zn r:=by simp [zn]
theorem qby:∀ (ls:List qa),(∀ s∈ls,10∉s)→zr (zn ls)=ls.map fun s=>(s,true)
 | [],_=>by simp [zn,wh]
 |s::r,h=>by
  have hs:=h s (by simp)
  rw [yt,wc (by simp),ve _ hs,wx _ hs,qby r fun x hx=>h x (by simp [hx])]
  simp
theorem qz5 {f:Fld} (h:ju f):∀ s∈zj f,10∉s:=fun s hs=>by
 unfold zj at hs
 rcases List.mem_cons.1 hs with rfl|hs
 ·have h1:=qdp f.2 _ (qpe f.2)
  have h2:=h.1.2.2.2.2.2
  unfold jy
  split <;> simp_all
 ·obtain⟨x,hx,rfl⟩:=List.mem_map.1 hs
  have h1:=qdp f.2 x (List.mem_of_mem_tail hx)
  have:=qr1 h1
  simp [this]
theorem qmv {f:Fld} (h:ju f):∃ hd mr,zj f=hd::mr∧qy hd=4∧∀ s∈mr,qy s=3:=by
 refine⟨_,_,rfl,qt7 h.1 (qdp f.2 _ (qpe f.2)),fun s hs=>?_⟩
 obtain⟨x,hx,rfl⟩:=List.mem_map.1 hs
 exact qt8 x (qdp f.2 x (List.mem_of_mem_tail hx))
theorem q7c {p:PSt} {k:Int} {t:qa} (ht:qy t=3) (hl:p.lines≠[]):wq p k t true=(none,{ p with lines:=p.lines++[t],block:=p.block++[t] }):=by
 have ha:jn p k t true (qy t)=(none,{ p with lines:=p.lines++[t] }):=by
  unfold jn
  rw [if_pos ht,if_neg hl,if_pos rfl]
 unfold wq
 rw [ha,ht]
 simp
theorem quu {p q:PSt} {k:Int} {t:qa} (ht:qy t=4) (hf:jr p=(none,q)):wq p k t true=(none,{ km q k t with block:=q.block++[t] }):=by
 have ha:jn p k t true (qy t)=(none,q):=by
  unfold jn
  rw [if_neg (by omega),if_neg (by omega)]
  exact hf
 unfold wq
 rw [ha,ht]
 simp
theorem qpt:∀ (m:List qa) (k:Nat) (p:PSt) (ls:List (qa×Bool)),(∀ s∈m,qy s=3)→p.lines≠[] →
  runL k (m.map (fun s=>(s,true))++ls) p=runL (k+m.length) ls { p with lines:=p.lines++m,block:=p.block++m }
 | [],k,p,ls,_,_=>by simp
 |s::m,k,p,ls,h,hl=>by
  have hs:=h s (by simp)
  rw [List.map_cons,List.cons_append,runL,q7c hs hl]
  simp only
  rw [qpt m (k+1) _ ls (fun x hx=>h x (by simp [hx])) (by simp)]
  simp only [List.append_assoc,List.cons_append,List.nil_append,List.length_cons]
  congr 1
  omega
theorem qqz {g:Fld} (hg:ju g) (frm:Int) (its:List ka) (blk:List qa) (done:List Fld) (rc:Int):jr ⟨zj g,frm,false,its,blk,done,rc⟩=(none,⟨[],frm,false,its,blk,done++[g],rc⟩):=by
 have hu:=ql0 hg
 unfold jr
 rw [if_neg (by simp [zj]),hu]
 simp
theorem qy3:∀ (r:List Fld) (done:List Fld) (g:Fld) (k:Nat) (frm:Int) (blk:List qa),ju g→(∀ f∈r,ju f)→done.length+1+r.length≤40→blk≠[] →
  (runL k ((r.flatMap zj).map fun s=>(s,true)) ⟨zj g,frm,false,[],blk,done,0⟩).1=none∧(runL k ((r.flatMap zj).map fun s=>(s,true)) ⟨zj g,frm,false,[],blk,done,0⟩).2.items=[⟨3,zn (blk++r.flatMap zj),done++g::r⟩]
 | [],done,g,k,frm,blk,hg,_,_,hb=>by
  have he:endP ⟨zj g,frm,false,[],blk,done,0⟩=(none,yg ⟨[],frm,false,[],blk,done++[g],0⟩):=by
   unfold endP
   rw [qqz hg]
  simp only [List.flatMap_nil,List.map_nil,runL,he,List.append_nil]
  refine⟨trivial,?_⟩
  unfold yg
  rw [if_neg hb]
  simp
 |f::r,done,g,k,frm,blk,hg,hr,hl,hb=>by
  have hf:=hr f (by simp)
  obtain⟨hd,mr,hlf,hk4,hk3⟩:=qmv hf
  simp only [List.length_cons] at hl
  have hrun:runL k (((f::r).flatMap zj).map fun s=>(s,true)) ⟨zj g,frm,false,[],blk,done,0⟩=runL (k+1+mr.length) ((r.flatMap zj).map fun s=>(s,true)) ⟨zj f,k,false,[],blk++zj f,done++[g],0⟩:=by
   rw [List.flatMap_cons,List.map_append,hlf,List.map_cons,List.cons_append,runL,quu hk4 (qqz hg frm [] blk done 0)]
   simp only
   rw [qpt mr (k+1) _ _ hk3 (by simp [km])]
   have hfu:decide ((done++[g]).length=40∨((done++[g]).length=0∧(0:Int)=400))=false:=by
    simp
    omega
   simp only [km,hfu,List.append_assoc,List.cons_append,List.nil_append]
  rw [hrun]
  have ih:=qy3 r (done++[g]) f (k+1+mr.length) k (blk++zj f) hf (fun x hx=>hr x (by simp [hx])) (by simp;omega) (by simp [hb])
  rw [ih.1,ih.2]
  simp [List.flatMap_cons]
theorem qhb (fs:List Fld):jt fs=zn (fs.flatMap zj):=by
 induction fs with
 |nil=>rfl
 |cons f r ih=>
  rw [List.flatMap_cons,qan,← ih]
  simp [jt]
theorem qiw {fs:List Fld} (h:∀ f∈fs,ju f):∀ s∈fs.flatMap zj,10∉s:=fun s hs=>by
 obtain⟨f,hf,hs⟩:=List.mem_flatMap.1 hs
 exact qz5 (h f hf) s hs
theorem q3q {fs:List Fld} (hg:GF fs) (hne:fs≠[]):js (jt fs)=(none,[⟨3,jt fs,fs⟩]):=by
 have hl:=qby _ (qiw hg.2)
 rw [← qhb] at hl
 cases fs with
 |nil=>exact absurd rfl hne
 |cons f r=>
  have hf:=hg.2 f (by simp)
  obtain⟨hd,mr,hlf,hk4,hk3⟩:=qmv hf
  have hlen:=hg.1
  simp only [List.length_cons] at hlen
  have hrun:runL 0 (((f::r).flatMap zj).map fun s=>(s,true)) p0=runL (0+1+mr.length) ((r.flatMap zj).map fun s=>(s,true)) ⟨zj f,(0:Nat),false,[],zj f,[],0⟩:=by
   have hfl:jr p0=(none,p0):=rfl
   rw [List.flatMap_cons,List.map_append,hlf,List.map_cons,List.cons_append,runL,quu hk4 hfl]
   simp only
   rw [qpt mr (0+1) _ _ hk3 (by simp [km])]
   simp [km,p0]
  have ih:=qy3 r [] f (0+1+mr.length) (0:Nat) (zj f) hf (fun x hx=>hg.2 x (by simp [hx])) (by simp;omega) (by simp [zj])
  unfold js
  rw [hl,hrun,ih.1]
  simp only
  rw [ih.2]
  rw [qhb,List.flatMap_cons,List.nil_append]
theorem q6h:js []=(none,[]):=by
 unfold js
 rw [wh]
 rfl
theorem qop {ls:List qa} (h:∀ s∈ls,10∉s):yn [32,32] (zn ls)=zn (ls.map fun s=>[32,32]++s):=by
 unfold yn indF
 rw [qby ls h]
 simp only [zn,List.flatMap_map,wu,if_pos]
theorem qxl {ls:List qa} (h:∀ s∈ls,10∉s):∀ s∈ls.map (fun s=>[32,32]++s),10∉s:=fun s hs=>by
 obtain⟨x,hx,rfl⟩:=List.mem_map.1 hs
 have:=h x hx
 simp [this]
theorem qu8 {ls:List qa} (h:∀ s∈ls,10∉s):va [32,32] (yn [32,32] (zn ls))=(zn ls,true):=by
 rw [qop h]
 unfold va
 rw [qby _ (qxl h),if_pos]
 ·simp [zn,List.flatMap_map,wu]
 ·intro x hx
  obtain⟨s,hs,rfl⟩:=List.mem_map.1 hx
  obtain⟨y,_,rfl⟩:=List.mem_map.1 hs
  exact List.prefix_append _ _
theorem qva {fs:List Fld} (hl:fs.length≤40) (hg:∀ f∈fs,ju f):qc2 (yn [32,32] (jt fs))=(fs,true):=by
 have hd:va [32,32] (yn [32,32] (jt fs))=(jt fs,true):=by
  rw [qhb]
  exact qu8 (qiw hg)
 unfold qc2
 rw [hd]
 simp only
 by_cases h0:fs=[]
 ·subst h0
  have hp:js (jt [])=(none,[]):=q6h
  rw [hp]
  simp [recsF,jt]
 ·rw [q3q ⟨hl,hg⟩ h0]
  simp [recsF]
theorem qq4 {j k:Int} {s:qa} (hj:j=1∨j=2∨j=3) (hk:k=1∨k=2∨k=3) (hne:j≠k):¬ x9 j <+: x9 k++s:=by
 rintro⟨t,ht⟩
 have h2:=congrArg (List.take 2) ht
 rcases hj with rfl|rfl|rfl <;> rcases hk with rfl|rfl|rfl <;> first|exact absurd rfl hne|(revert h2;simp [x9])
theorem q4z {x:qr} (hk:x.kind=1∨x.kind=2∨x.kind=3) (h1 : -9223372036854775808≤x.id) (h2:x.id≤9223372036854775807):begE (jz x)=some (x.kind,x.id):=by
 have hl:jz x=x9 x.kind++Lib.itoa x.id:=by
  unfold jz
  rw [if_pos (by omega)]
 have hself:tryB x.kind (jz x)=some x.id:=by
  unfold tryB
  rw [hl,if_pos (List.prefix_append _ _),List.drop_left,qko h1 h2]
 have hoth:∀ j:Int,(j=1∨j=2∨j=3)→j≠x.kind→tryB j (jz x)=none:=fun j hj hne=>by
  unfold tryB
  rw [hl,if_neg (qq4 hj hk hne)]
 unfold begE
 rcases hk with h|h|h
 ·rw [h] at hself hoth ⊢
  rw [hself]
 ·rw [h] at hself hoth ⊢
  rw [hoth 1 (by simp) (by decide),hself]
 ·rw [h] at hself hoth ⊢
  rw [hoth 1 (by simp) (by decide),hoth 2 (by simp) (by decide),hself]
def qa0 (x:qr):List qa:=(x.fields.flatMap zj).map fun s=>[32,32]++s
theorem qji (v:Int):∀ c∈Lib.itoa v,c≠10∧c≠32:=fun c hc=>by
 by_cases hv:v<0
 ·rw [qek hv] at hc
  rcases List.mem_cons.1 hc with rfl|hc
  ·decide
  ·have:=wn _ _ (Nat.le_refl _) c hc
   constructor <;> rintro rfl <;> simp at this
 ·rw [qel (by omega)] at hc
  have:=wn _ _ (Nat.le_refl _) c hc
  constructor <;> rintro rfl <;> simp at this
theorem qb6 (x:qr):10∉jz x:=by
 unfold jz
 split
 ·rename_i hk
  have h1:=qji x.id
  intro hc
  rcases List.mem_append.1 hc with hc|hc
  ·have:x.kind=1∨x.kind=2∨x.kind=3:=by omega
   rcases this with h|h|h <;> rw [h] at hc <;> revert hc <;> decide
  ·exact (h1 10 hc).1 rfl
 ·simp
theorem qjk {x:qr} (hk:x.kind=1∨x.kind=2∨x.kind=3):¬ [32,32] <+: jz x:=by
 unfold jz
 rw [if_pos (by omega)]
 rintro⟨t,ht⟩
 have h2:=congrArg (List.take 2) ht
 rcases hk with h|h|h <;> rw [h] at h2 <;> revert h2 <;> simp [x9]
theorem qf9 {x:qr} (hg:∀ f∈x.fields,ju f):jx x=zn (jz x::qa0 x):=by
 unfold jx qa0
 rw [yt,qhb,qop (qiw hg)]
 simp
theorem qtl {x:qr} (hg:∀ f∈x.fields,ju f):∀ s∈qa0 x,10∉s:=qxl (qiw hg)
theorem qdo (text:qa):∀ (m:List qa) (k a f:Nat) (R:qa),(∀ s∈m,10∉s∧[32,32] <+: s)→∃ k',xw text (ku k a (zn m++R)) f=xw text (ku k' (a+(zn m).length) R) f
 | [],k,a,f,R,_=>⟨k,by simp [zn]⟩
 |s::m,k,a,f,R,h=>by
  obtain⟨h10,hp⟩:=h s (by simp)
  have e:zn (s::m)++R=s++10::(zn m++R):=by rw [yt];simp
  obtain⟨k',ih⟩:=qdo text m (k+1) (a+s.length+1) f R fun x hx=>h x (by simp [hx])
  refine⟨k',?_⟩
  rw [e,y9 (by simp),ve _ h10,wx _ h10,xw,if_neg (fun h=>h.2 hp),ih,yt]
  congr 2
  simp
  omega
theorem qmf {x:qr} (hg:∀ f∈x.fields,ju f):∀ s∈qa0 x,10∉s∧[32,32] <+: s:=fun s hs=>⟨qtl hg s hs,by
 obtain⟨y,_,rfl⟩:=List.mem_map.1 hs
 exact List.prefix_append _ _⟩
structure EncG (x:qr):Prop where
 kind:x.kind=1∨x.kind=2∨x.kind=3
 len:x.fields.length≤40
 good:∀ f∈x.fields,ju f
 id1 : -9223372036854775808≤x.id
 id2:x.id≤9223372036854775807
theorem qrk:∀ (r:List qr) (D:qa) (x:qr) (k:Nat),EncG x→(∀ y∈r,EncG y) →
  xw (D++(jx x++encF r)) (ku k (D.length+((jz x).length+1)) (zn (qa0 x)++encF r)) D.length=jx x::r.map jx
 | [],D,x,k,hx,_=>by
  obtain⟨k',h⟩:=qdo (D++(jx x++encF [])) (qa0 x) k (D.length+((jz x).length+1)) D.length (encF []) (qmf hx.good)
  rw [h]
  have e:encF []=[]:=rfl
  rw [e,y7,xw]
  simp
 |y::r,D,x,k,hx,hr=>by
  have hy:=hr y (by simp)
  obtain⟨k',h⟩:=qdo (D++(jx x++encF (y::r))) (qa0 x) k (D.length+((jz x).length+1)) D.length (encF (y::r)) (qmf hx.good)
  rw [h]
  have e:encF (y::r)=jz y++10::(zn (qa0 y)++encF r):=by
   have:encF (y::r)=jx y++encF r:=by simp [encF]
   rw [this,qf9 hy.good,yt]
   simp
  have hlx:(jx x).length=(jz x).length+1+(zn (qa0 x)).length:=by
   rw [qf9 hx.good,yt]
   simp
   omega
  have e2:encF (y::r)=jx y++encF r:=by simp [encF]
  have hpos:D.length+((jz x).length+1)+(zn (qa0 x)).length=(D++jx x).length:=by
   rw [List.length_append,hlx]
   omega
  rw [hpos]
  have hc:ku k' (D++jx x).length (encF (y::r))=⟨k',(D++jx x).length,jz y,true⟩::ku (k'+1) ((D++jx x).length+(jz y).length+1) (zn (qa0 y)++encF r):=by
   rw [e,y9 (by simp),ve _ (qb6 y),wx _ (qb6 y)]
   simp
  have hlt:D.length<(D++jx x).length:=by rw [List.length_append,hlx];omega
  rw [hc,xw,if_pos ⟨hlt,qjk hy.kind⟩]
  have ih:=qrk r (D++jx x) y (k'+1) hy fun z hz=>hr z (by simp [hz])
  have et:D++(jx x++encF (y::r))=(D++jx x)++(jx y++encF r):=by rw [e2];simp
  rw [et]
  have ed:((D++jx x++(jx y++encF r)).take (D++jx x).length).drop D.length=jx x:=by
   rw [List.take_left,List.drop_left]
  rw [ed,List.map_cons]
  simp only
  rw [show (D++jx x).length+(jz y).length+1=(D++jx x).length+((jz y).length+1) by omega,ih]
theorem q6i {x:qr} {r:List qr} (hx:EncG x) (hr:∀ y∈r,EncG y):qd5 (encF (x::r))=(x::r).map jx:=by
 have e2:encF (x::r)=jx x++encF r:=by simp [encF]
 have e:encF (x::r)=jz x++10::(zn (qa0 x)++encF r):=by
  rw [e2,qf9 hx.good,yt]
  simp
 have h:=qrk r [] x 1 hx hr
 simp only [List.nil_append,List.length_nil,Nat.zero_add] at h
 have hc:lns (encF (x::r))=⟨0,0,jz x,true⟩::ku 1 ((jz x).length+1) (zn (qa0 x)++encF r):=by
  unfold lns
  rw [e,y9 (by simp),ve _ (qb6 x),wx _ (qb6 x)]
  simp
 unfold qd5
 rw [hc,xw,if_neg (by simp),e2,h]
 rfl
theorem qwx:∀ (r acc:List qr),(∀ y∈r,EncG y)→acc.length+r.length≤40→decP (r.map jx) acc=some (acc++r)
 | [],acc,_,_=>by simp [decP]
 |x::r,acc,h,hl=>by
  have hx:=h x (by simp)
  simp only [List.length_cons] at hl
  have hu:upto 10 (jx x)=jz x:=by
   unfold jx
   rw [List.append_assoc]
   exact ve _ (qb6 x)
  have hp:past 10 (jx x)=yn [32,32] (jt x.fields):=by
   unfold jx
   rw [List.append_assoc]
   exact wx _ (qb6 x)
  have hfl:=qva hx.len hx.good
  rw [List.map_cons,decP,hu,q4z hx.kind hx.id1 hx.id2]
  simp only [hp,hfl]
  rw [if_pos ⟨trivial,by omega⟩]
  have ih:=qwx r (acc++[⟨x.kind,x.id,x.fields⟩]) (fun y hy=>h y (by simp [hy])) (by simp;omega)
  rw [ih]
  simp
theorem qsl {x:qr} (h:gErr x = .no) (hB:EdB x):EncG x:=by
 obtain⟨h1,h2⟩:=qnk h
 refine⟨?_,h1,h2,hB.id1,hB.id2⟩
 unfold gErr at h
 split at h
 ·exact .inr (.inl (by assumption))
 ·split at h
  ·rename_i hk;omega
  ·simp at h
theorem q04 {b:List qr} (he:eErr b = .no) (hB:∀ x∈b,EdB x) (hl:(encF b).length≤50000):decF (encF b)=some b:=by
 obtain⟨h1,h40,hg⟩:=qjz he
 have hG:∀ y∈b,EncG y:=fun y hy=>qsl (hg y hy) (hB y hy)
 unfold decF
 rw [if_neg (by omega)]
 cases b with
 |nil=>simp at h1
 |cons x r=>
  rw [q6i (hG x (by simp)) (fun y hy=>hG y (by simp [hy])),qwx (x::r) [] hG (by simp at h40 ⊢;omega)]
  simp only [List.nil_append]
  rw [if_pos ⟨he,trivial⟩]
theorem qwy {text:qa} {b:List qr} (h:decF text=some b):eErr b = .no∧encF b=text∧text.length≤50000:=by
 unfold decF at h
 split at h
 ·simp at h
 ·split at h
  ·simp at h
  ·split at h
   ·rename_i hc
    cases h
    exact⟨hc.1,hc.2,by omega⟩
   ·simp at h
def SpL (L:List qa):Prop:=L≠[]∧∀ s∈L,10∉s∧[32] <+: s
def encL (b:List qr):List qa:=b.flatMap fun x=>jz x::qa0 x
theorem qtx {b:List qr} (hg:∀ x∈b,EncG x):encF b=zn (encL b):=by
 induction b with
 |nil=>rfl
 |cons x r ih=>
  have e:encL (x::r)=(jz x::qa0 x)++encL r:=by simp [encL]
  have e2:encF (x::r)=jx x++encF r:=by simp [encF]
  rw [e,qan,e2,qf9 (hg x (by simp)).good,ih fun y hy=>hg y (by simp [hy])]
theorem zbq {x:qr} (hk:x.kind=1∨x.kind=2∨x.kind=3):[32] <+: jz x:=by
 unfold jz
 rw [if_pos (by omega)]
 rcases hk with h|h|h <;> rw [h] <;> exact⟨_,rfl⟩
theorem zbh {b:List qr} (hne:b≠[]) (hg:∀ x∈b,EncG x):SpL (encL b):=by
 refine⟨?_,fun s hs=>?_⟩
 ·cases b with
  |nil=>exact absurd rfl hne
  |cons x r=>simp [encL]
 ·obtain⟨x,hx,hs⟩:=List.mem_flatMap.1 hs
  have hG:=hg x hx
  rcases List.mem_cons.1 hs with rfl|hs
  ·exact⟨qb6 x,zbq hG.kind⟩
  ·obtain⟨h1,t,ht⟩:=qmf hG.good s hs
   exact⟨h1,[32]++t,by rw [← ht];rfl⟩
theorem zcd {L:List qa} (h:SpL L):sp true (zn L)=true:=by
 rw [← qk5 _ (zn L) (Nat.le_refl _),qby L fun s hs=>(h.2 s hs).1]
 intro x hx
 obtain⟨s,hs,rfl⟩:=List.mem_map.1 hx
 exact (h.2 s hs).2
theorem q7e {L:List qa} (h:SpL L):(zn L)[0]? = some 32:=by
 obtain⟨hne,hs⟩:=h
 cases L with
 |nil=>exact absurd rfl hne
 |cons s r=>
  obtain⟨t,ht⟩:=(hs s (by simp)).2
  rw [yt,← ht]
  rfl
theorem quv:∀ (L:List qa),L≠[]→(zn L).getLast? = some 10
 | [],h=>absurd rfl h
 | [s],_=>by rw [yt];simp [zn]
 |s::t::r,_=>by
  have ih:=quv (t::r) (by simp)
  have hne:zn (t::r)≠[]:=fun e=>by rw [e] at ih;simp at ih
  rw [yt,List.getLast?_append,List.getLast?_cons,ih]
  simp
theorem q5j {b:List qr} (he:eErr b = .no) (hB:∀ x∈b,EdB x) (hl:(encF b).length≤50000):xm (encF b):=by
 obtain⟨h1,h40,hg⟩:=qjz he
 have hG:∀ y∈b,EncG y:=fun y hy=>qsl (hg y hy) (hB y hy)
 have hne:b≠[]:=fun e=>by subst e;simp at h1
 have hS:=zbh hne hG
 have ht:=qtx hG
 have hh:=q7e hS
 have hlast:=quv _ hS.1
 rw [← ht] at hh hlast
 have hsp:=zcd hS
 rw [← ht] at hsp
 refine⟨?_,hl,hlast,by rw [qc0];exact hsp⟩
 rcases hc:encF b with _ | ⟨c,_ | ⟨d,r⟩⟩
 ·rw [hc] at hh;simp at hh
 ·rw [hc] at hh hlast
  simp at hh hlast
  rw [hh] at hlast
  simp at hlast
 ·simp
end Go.Pl
namespace Go.Proofs.YtneejjefekdgjaaGreatDoor
open Go Go.Av Go.RowKit Go.Proofs Go.Pl
theorem qbb {xs:List qr} {k:Nat} (hk:k<xs.length):(xs.map q8)[k]? = some (q8 (xs.getD k ⟨0,0,[]⟩)):=by
 simp [List.getD,hk]
def q4f (b:List qr):Prop:=b.length≤51∧∀ x∈b,q98 x.fields
def ArgE (b:List qr):Prop:=b.length<9223372036854775808∧∀ x∈b,x.fields.length<9223372036854775808∧-9223372036854775808≤x.id∧x.id≤9223372036854775807
theorem zbp {b:List qr} (hA:ArgE b) (h:q4f b):∀ x∈b,EdB x:=fun x hx=>⟨fun f hf=>((h.2 x hx).val f hf).1,(hA.2 x hx).1,(hA.2 x hx).2.1,(hA.2 x hx).2.2⟩
theorem zdf {x:qr}:∀ y∈[q8 x],Pure y:=by
 intro y hy
 simp only [List.mem_cons,List.not_mem_nil,or_false] at hy
 subst hy
 exact qgz (qf8 x)
theorem qj3 {l:qa} {i:Nat} {c:UInt8} (h:l[i]? = some c):l.getD i 0=c:=by simp [List.getD,h]
def ArgX (x:qr):Prop:=x.fields.length<9223372036854775808∧-9223372036854775808≤x.id∧x.id≤9223372036854775807
theorem q89:Opn Tryz.prog 113 fun a=>∃ x:qr,a=q8 x∧ArgX x:=by
 intro H enc W fuel cs x h
 obtain⟨a,⟨vs,rfl,hl,hv⟩,hr⟩:=qrj (As:=[(some (.int .i64),IsI .i64),(some (.int .i64),IsI .i64),(some (.slice 111),fun a=>∃ xs:List FldV,a=jj xs∧xs.length≤maxLen)]) (by kernel_rfl) (by kernel_rfl) (by kernel_rfl) (by kernel_rfl)
  (List.forall_mem_cons.2 ⟨⟨fun _ h=>zah h,zaf _⟩,List.forall_mem_cons.2 ⟨⟨fun _ h=>zah h,zaf _⟩,List.forall_mem_cons.2 ⟨⟨fun _ h=>q9a h,q87⟩,nofun⟩⟩⟩) H enc W fuel cs x h
 match vs,hl with
 | [v0,v1,v2],_=>
  obtain⟨n0,rfl,w0⟩:=hv 0 _ _ rfl rfl
  obtain⟨n1,rfl,w1⟩:=hv 1 _ _ rfl rfl
  obtain⟨xs,rfl,m⟩:=hv 2 _ _ rfl rfl
  exact⟨_,⟨⟨n0,n1,xs⟩,rfl,q51 m,lit_i64 w1⟩,hr⟩
theorem qv2 {α : Type} {g : α→AV} {P : α→Prop}:∀ {xs:List AV},(∀ x∈xs,∃ a,x=g a∧P a)→∃ ys:List α,xs=ys.map g∧∀ a∈ys,P a
 | [],_=>⟨[],rfl,by simp⟩
 |x::r,h=>by
  obtain⟨ys,hys,has⟩:=qv2 (xs:=r) fun y hy=>h y (List.mem_cons_of_mem _ hy)
  obtain⟨a,rfl,ha⟩:=h x (by simp)
  subst hys
  refine⟨a::ys,rfl,fun b hb=>?_⟩
  rcases List.mem_cons.1 hb with rfl|hb
  ·exact ha
  ·exact has b hb
theorem q6b {t:TypeId} (hu:Tryz.prog.underlying t=some (.slice 113)):Opn Tryz.prog t fun a=>∃ xs:List qr,a=jm xs∧ArgE xs:=by
 intro H enc W fuel cs x h
 obtain⟨a,⟨xs,rfl,hl,hx⟩,hr⟩:=q6c (sz:=3) hu (by kernel_rfl) (by decide) q89 H enc W fuel cs x h
 obtain⟨rs,rfl,hrs⟩:=qv2 hx
 exact⟨_,⟨rs,rfl,q51 (by simpa using hl),hrs⟩,hr⟩
theorem q57:One fun a=>∃ xs:List qr,a=jm xs∧ArgE xs:=by rintro _ ⟨xs,rfl,_⟩;rfl
noncomputable def q33 (a b:List qr):Bool:=@decide (a=b) (Classical.propDecidable _)
theorem q1x {a b:List qr} (h:a=b):q33 a b=true:=@decide_eq_true _ (Classical.propDecidable _) h
theorem qnt {a b:List qr} (h:¬ a=b):q33 a b=false:=@decide_eq_false _ (Classical.propDecidable _) h
theorem zbf {x y:qr} (h1:x.kind=y.kind) (h2:x.id=y.id) (h3:x.fields=y.fields):x=y:=by
 cases x
 cases y
 simp_all
theorem q39 {a b:List qr} {k:Nat} {d:qr} (hl:a.length=b.length) (hk:k<a.length) (h:a.take k=b.take k) (h2:a.getD k d=b.getD k d):a.take (k+1)=b.take (k+1):=by
 rw [List.take_succ_eq_append_getElem hk,List.take_succ_eq_append_getElem (by omega),h]
 congr 2
 simpa [List.getD,hk,show k<b.length by omega] using h2
set_option maxHeartbeats 4000000 in
theorem q8m (a b:List qr) (st:List AObj) (ha:a.length<9223372036854775808) (hf:∀ x∈a,x.fields.length<9223372036854775808):qn E 55 [jm a,jm b] st fun r st'=>r=Bv (q33 a b)∧st'=st:=by
 refine qu (qx _) (qo Tryz.func55 rfl (Nat.le_of_ble_eq_true rfl) ?_)
 have hma:(a.map q8).length=a.length:=by simp
 have hmb:(b.map q8).length=b.length:=by simp
 by_cases hl:a.length=b.length
 ·skip
  repeat' (first|apply qm|apply qt|apply qd|apply qc|apply qi|apply qe|(apply qq;(iterate 3 exact rfl))|(apply qb;exact rfl;apply vw;exact cAo)|(apply kl;(iterate 4 exact rfl))|apply qw)
  refine jh (fun (k:Nat) s=>k≤a.length∧a.take k=b.take k∧StE [(0,jm a),(1,jm b),(12,Iv a.length),(13,Iv k)] st [] s) (fun k=>a.length - k) 0 ⟨by omega,by simp,qcs ⟨rfl,rfl,congrArg (fun n:Nat=>Iv (n:Int)) hma,rfl,trivial⟩ rfl⟩ ?_
  rintro k _ ⟨hk,ht,t,ext,rfl⟩
  by_cases hc:k<a.length
  ·have hfl:=hf (a.getD k ⟨0,0,[]⟩) (by simp [List.getD,hc])
   have hne:a.getD k ⟨0,0,[]⟩≠b.getD k ⟨0,0,[]⟩→¬ a=b:=fun h e=>h (by rw [e])
   by_cases h1:(a.getD k ⟨0,0,[]⟩).kind=(b.getD k ⟨0,0,[]⟩).kind
   ·by_cases h2:(a.getD k ⟨0,0,[]⟩).id=(b.getD k ⟨0,0,[]⟩).id
    ·by_cases h3:(a.getD k ⟨0,0,[]⟩).fields=(b.getD k ⟨0,0,[]⟩).fields
     ·skip
      have hF:∀ st,qn E 26 [jj (a.getD k ⟨0,0,[]⟩).fields,jj (b.getD k ⟨0,0,[]⟩).fields] st fun r st'=>r=Bv true∧st'=st:=fun st=>by
       have:=qtz (a.getD k ⟨0,0,[]⟩).fields (b.getD k ⟨0,0,[]⟩).fields st hfl
       rw [decide_eq_true h3] at this
       exact this
      repeat' (first|apply qm|apply qt|apply qd|apply qc|apply qi|apply qe|(apply qq;(iterate 3 exact rfl))|(apply qb;exact rfl;apply ki;exact cAo)|(apply qb;exact rfl;apply qiq;exact cRa)|(apply zt;exact rfl;exact rfl;exact zb (by omega) (by omega))|(apply qau;exact rfl;kernel_rfl)|apply qbv|(apply qag;(iterate 3 exact rfl))|(apply y0;(iterate 4 exact rfl))|apply qao|apply qw|(apply vg (n:=k);(iterate 5 exact rfl);exact qbb (xs:=a) (by omega))|(apply vg (n:=k);(iterate 5 exact rfl);exact qbb (xs:=b) (by omega))|(apply qo1;exact rfl;exact rfl;(first|exact h1|exact h2))|(apply qhv;(iterate 5 exact rfl))|(apply qma;exact rfl;exact rfl)|(refine qhu (args:=[jj _,jj _]) qj0 Tryz.call26 rfl q1s (qfl _) (fun _=>.v _) (hF _) ?_)|(apply q4q;exact rfl))
      exact⟨k+1,⟨by omega,q39 hl hc ht (zbf h1 h2 h3),qaf ⟨rfl,rfl,rfl,rfl,trivial⟩ rfl⟩,by omega⟩
     ·skip
      have hF:∀ st,qn E 26 [jj (a.getD k ⟨0,0,[]⟩).fields,jj (b.getD k ⟨0,0,[]⟩).fields] st fun r st'=>r=Bv false∧st'=st:=fun st=>by
       have:=qtz (a.getD k ⟨0,0,[]⟩).fields (b.getD k ⟨0,0,[]⟩).fields st hfl
       rw [decide_eq_false h3] at this
       exact this
      repeat' (first|apply qm|apply qt|apply qd|apply qc|apply qi|apply qe|(apply qq;(iterate 3 exact rfl))|(apply qb;exact rfl;apply ki;exact cAo)|(apply qb;exact rfl;apply qkr;exact cRa)|(apply qau;exact rfl;kernel_rfl)|apply qbv|(apply qag;(iterate 3 exact rfl))|(apply y0;(iterate 4 exact rfl))|apply qao|apply qw|apply qs|(apply vg (n:=k);(iterate 5 exact rfl);exact qbb (xs:=a) (by omega))|(apply vg (n:=k);(iterate 5 exact rfl);exact qbb (xs:=b) (by omega))|(apply qo1;exact rfl;exact rfl;(first|exact h1|exact h2))|(apply qhv;(iterate 5 exact rfl))|(apply qma;exact rfl;exact rfl)|(refine qhu (args:=[jj _,jj _]) qj0 Tryz.call26 rfl q1s (qfl _) (fun _=>.v _) (hF _) ?_)|(apply q4q;exact rfl))
      exact qk rfl (qz rfl) ⟨congrArg Bv (qnt (hne fun e=>h3 (by rw [e]))).symm,xg _ _ _ _⟩
    ·skip
     repeat' (first|apply qm|apply qt|apply qd|apply qc|apply qi|apply qe|(apply qq;(iterate 3 exact rfl))|(apply qb;exact rfl;apply ki;exact cAo)|(apply qb;exact rfl;apply cd_t;exact cRa)|(apply qau;exact rfl;kernel_rfl)|apply qbv|(apply qag;(iterate 3 exact rfl))|(apply y0;(iterate 4 exact rfl))|apply qao|apply qw|apply qs|(apply vg (n:=k);(iterate 5 exact rfl);exact qbb (xs:=a) (by omega))|(apply vg (n:=k);(iterate 5 exact rfl);exact qbb (xs:=b) (by omega))|(apply qo1;exact rfl;exact rfl;exact h1)|(apply qwh;exact rfl;exact rfl;exact h2)|(apply qhv;(iterate 5 exact rfl))|(apply qlv;(iterate 5 exact rfl))|(apply qtg;exact rfl;exact rfl)|(apply qma;exact rfl;exact rfl))
     exact qk rfl (qz rfl) ⟨congrArg Bv (qnt (hne fun e=>h2 (by rw [e]))).symm,xg _ _ _ _⟩
   ·skip
    repeat' (first|apply qm|apply qt|apply qd|apply qc|apply qi|apply qe|(apply qq;(iterate 3 exact rfl))|(apply qb;exact rfl;apply ki;exact cAo)|(apply qb;exact rfl;apply cd_t;exact cRa)|(apply qau;exact rfl;kernel_rfl)|apply qbv|(apply qag;(iterate 3 exact rfl))|(apply y0;(iterate 4 exact rfl))|apply qao|apply qw|apply qs|(apply vg (n:=k);(iterate 5 exact rfl);exact qbb (xs:=a) (by omega))|(apply vg (n:=k);(iterate 5 exact rfl);exact qbb (xs:=b) (by omega))|(apply qwh;exact rfl;exact rfl;exact h1)|(apply qlv;(iterate 5 exact rfl))|(apply qtg;exact rfl;exact rfl))
    exact qk rfl (qz rfl) ⟨congrArg Bv (qnt (hne fun e=>h1 (by rw [e]))).symm,xg _ _ _ _⟩
  ·have hab:a=b:=by
    have e:k=a.length:=by omega
    rw [e,List.take_length,List.take_of_length_le (by omega)] at ht
    exact ht
   repeat' (first|apply qm|apply qd|apply qc|apply qe|(apply qq;(iterate 3 exact rfl))|(apply qb;exact rfl;apply vw;exact cAo)|apply z7|apply qs)
   exact qk rfl (qz rfl) ⟨congrArg Bv (q1x hab).symm,xg _ _ _ _⟩
 ·have hab:¬ a=b:=fun e=>hl (by rw [e])
  repeat' (first|apply qm|apply qd|apply qc|apply qi|apply qe|(apply qq;(iterate 3 exact rfl))|(apply qb;exact rfl;apply ki;exact cAo)|(apply kl;(iterate 4 exact rfl))|apply qs)
  exact qk rfl (qz rfl) ⟨congrArg Bv (qnt hab).symm,_,rfl⟩
end Go.Proofs.YtneejjefekdgjaaGreatDoor
