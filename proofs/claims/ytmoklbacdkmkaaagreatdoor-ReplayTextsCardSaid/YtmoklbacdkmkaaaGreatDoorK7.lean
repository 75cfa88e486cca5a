/- Contracts and plain facts that the closing text leans on (part 7). No condition of their own beyond those that each states. -/
import Derived.Test.YtmoklbacdkmkaaaGreatDoorK6
import Derived.Lib.IfaceEq
import Derived.Laws.StructEq
set_option maxRecDepth 100000
set_option linter.unusedVariables false
set_option linter.unusedSimpArgs false
namespace Go.Proofs.YtmoklbacdkmkaaaGreatDoor
open Go Go.RowKit Go.Extern.Stop Go.Stop Go.Extern Go.Proofs
theorem asT.typeOf31 (v:Value) (w:World):(ReflectliteType.typeOf #[.iface 76 v]).run Tryz.prog w = .ok (.iface 277 (.agg #[.pointer (some ⟨9,76,none⟩)])) w:=by kernel_rfl
theorem asT.assignable31 (w : World) : (ReflectliteType.relation "AssignableTo" ReflectliteType.assignableTo #[.agg #[.pointer (some ⟨9, 76, none⟩)], .iface 277 (.agg #[.pointer (some ⟨9, 101, none⟩)])]).run Tryz.prog w = .ok (.bool false) w := by kernel_rfl
theorem asT.no230 (v:Value) (xT:TypeId) (w:World):(Instr.typeAssert (.iface 76 v) xT 288 true).run Tryz.prog w = .ok (.tuple #[.nilIface,.bool false]) w:=run_typeAssert_lacksB Tryz.underlying288 (by kernel_rfl) (by kernel_rfl) v xT w
theorem asT.no233 (v:Value) (xT:TypeId) (w:World):(Instr.typeAssert (.iface 76 v) xT 282 true).run Tryz.prog w = .ok (.tuple #[.nilIface,.bool false]) w:=run_typeAssert_lacksB Tryz.underlying282 (by kernel_rfl) (by kernel_rfl) v xT w
theorem asT.no234 (v:Value) (xT:TypeId) (w:World):(Instr.typeAssert (.iface 76 v) xT 283 true).run Tryz.prog w = .ok (.tuple #[.nilIface,.bool false]) w:=run_typeAssert_lacksB Tryz.underlying283 (by kernel_rfl) (by kernel_rfl) v xT w
set_option maxHeartbeats 4000000 in
theorem zd2 (n:Int) (t:Addr) (old:Value) (w:World) (hg:w.cell? ⟨0,0,none⟩=some (.iface 277 (.agg #[.pointer (some ⟨9,29,none⟩)]))) (ht0:w.cell? t=some old) :
  Calls Tryz.prog 85 #[.iface 76 (.int .i64 n),.iface 165 (.pointer (some t))] w fun ev w'=>ev = .returned (.bool false)∧Below w.heap.size w w':=by
 have h6:=@run_callFunc_extern Tryz.prog 150 _ (fun args=>ReflectliteValue.unpack (args.getD 0 (.tuple #[]))) Tryz.func150 (by kernel_rfl) (by kernel_rfl) (by kernel_rfl) (by kernel_rfl)
 have h7 := @run_callFunc_extern Tryz.prog 151 _ (ReflectliteValue.methodAny (ReflectliteValue.valueError "reflectlite.Value.Type" 0) (fun t _ _ _ => ReflectliteType.toType t)) Tryz.func151 (by kernel_rfl) (by kernel_rfl) (by kernel_rfl) (by kernel_rfl)
 have h8 := @run_callFunc_extern Tryz.prog 152 _ (ReflectliteValue.method (ReflectliteValue.valueError "reflectlite.Value.IsNil" 0) ReflectliteValue.isNil) Tryz.func152 (by kernel_rfl) (by kernel_rfl) (by kernel_rfl) (by kernel_rfl)
 have h27:=@run_callFunc_extern Tryz.prog 307 _ (ReflectliteType.abiMethod fun t=>do pure (.int .u8 (← Rtype.kind t))) Tryz.func307 (by kernel_rfl) (by kernel_rfl) (by kernel_rfl) (by kernel_rfl)
 have h37:=@run_callFunc_extern Tryz.prog 321 _ (ReflectliteType.method ReflectliteType.elem) Tryz.func321 (by kernel_rfl) (by kernel_rfl) (by kernel_rfl) (by kernel_rfl)
 have h38 := @run_callFunc_extern Tryz.prog 322 _ (ReflectliteType.relation "Implements" ReflectliteType.implements_) Tryz.func322 (by kernel_rfl) (by kernel_rfl) (by kernel_rfl) (by kernel_rfl)
 have h10:=@run_callFunc_extern Tryz.prog 148 _ ReflectliteType.typeOf Tryz.func148 (by kernel_rfl) (by kernel_rfl) (by kernel_rfl) (by kernel_rfl)
 have h35 := @run_callFunc_extern Tryz.prog 319 _ (ReflectliteType.relation "AssignableTo" ReflectliteType.assignableTo) Tryz.func319 (by kernel_rfl) (by kernel_rfl) (by kernel_rfl) (by kernel_rfl)
 have h11 := @run_callFunc_extern Tryz.prog 199 _ (ReflectliteValue.method (ReflectliteValue.valueError "reflectlite.Value.Elem" 0) ReflectliteValue.elem) Tryz.func199 (by kernel_rfl) (by kernel_rfl) (by kernel_rfl) (by kernel_rfl)
 have h12:=@run_callFunc_extern Tryz.prog 200 _ ReflectliteValue.set Tryz.func200 (by kernel_rfl) (by kernel_rfl) (by kernel_rfl) (by kernel_rfl)
 have tO:=asT.typeOf31
 have mA:=asT.methodAssignableTo
 have a25:=asT.assignable31
 have f6:=asT.valueOf27
 have f7:=asT.type27
 have mK:=asT.methodKind
 have mE:=asT.methodElem
 have mI:=asT.methodImplements
 have k27:=asT.kind27
 have k25:=asT.kind25
 have e27:=asT.elem27
 have i25:=asT.implements25
 have n8:=asT.isNil27 ⟨w.heap.size,0,none⟩ t ((w.alloc (.cells #[.pointer (some t)] 165)).alloc (.cells #[.pointer (some ⟨9,165,none⟩),.pointer (some ⟨w.heap.size,0,none⟩),.int .u64 150] 233)) (by simp)
 have hlt:0<w.heap.size:=by
  rcases Nat.lt_or_ge 0 w.heap.size with h|h
  ·exact h
  ·simp [World.cell?,Array.getElem?_eq_none h] at hg
 have hg2:((w.alloc (.cells #[.pointer (some t)] 165)).alloc (.cells #[.pointer (some ⟨9,165,none⟩),.pointer (some ⟨w.heap.size,0,none⟩),.int .u64 150] 233)).cell? ⟨0,0,none⟩=some (.iface 277 (.agg #[.pointer (some ⟨9,29,none⟩)])):=by
  rw [World.cell?_alloc_lt _ _ ⟨0,0,none⟩ (by first|(simp;done)|(simp;omega)),World.cell?_alloc_lt _ _ ⟨0,0,none⟩ hlt];exact hg
 have htl:t.block<w.heap.size:=by
  rcases Nat.lt_or_ge t.block w.heap.size with h|h
  ·exact h
  ·simp [World.cell?,Array.getElem?_eq_none h] at ht0
 have n1:=asT.no230
 have n2:=asT.no233
 have n3:=asT.no234
 go_enter Tryz.func85,Tryz.ntmps85
 go_wp2
 refine wp_loop_rounds 1 ?_
 rw [rounds_succ]
 go_wp2
 go_ret
 exact⟨rfl,(((Below.refl _ _).alloc (Nat.le_refl _) _).alloc (by simp) _).alloc (by first|(simp;done)|(simp;omega)) _⟩
end Go.Proofs.YtmoklbacdkmkaaaGreatDoor
namespace Go.Proofs.YtmoklbacdkmkaaaGreatDoor
open Go Go.Av Go.RowKit Go.Proofs Go.Pl
theorem q26 {w:World} {b:Nat} {T:TypeId} {fz:Nat×Nat} {c:Array Value} (v:Value) (hc:w.heap[b]? = some (.cells c T fz)) (h1:c.size=1):w.setCell ⟨b,0,none⟩ v=w.setRow b #[v]:=by
 unfold World.setCell World.setRow
 congr 1
 apply Array.ext_getElem?
 intro i
 rw [Array.getElem?_modify,Array.getElem?_modify]
 by_cases hi:b=i
 ·subst hi
  rw [if_pos rfl,if_pos rfl,hc]
  have:c.setIfInBounds 0 v = #[v]:=by
   apply Array.ext
   ·simp [h1]
   ·intro i h2 h3
    have:i=0:=by simp at h3;omega
    subst this
    simp
  simp [this]
 ·rw [if_neg hi,if_neg hi]
theorem zd1 (a n:Int) (o:Nat) (st:List AObj) (ho:st[o]? = some (.cells 0 101 [.v (.pointer none)])):qo E 85 [qg7 a n,.ifc 165 (.bx o 0 0)] st fun r st'=>r=Bv true∧st'=st.set o (.cells 0 101 [.pp [Iv a,.ifc 76 (Iv n)]]):=by
 refine⟨fun B0 w0 G vals w hL hA hR=>?_⟩
 obtain⟨v1,v2,rfl⟩:∃ x y,vals = #[x,y]:=by
  have:=hR.1
  match vals,this with
  | ⟨[x,y]⟩,_=>exact⟨x,y,rfl⟩
 have h1:=hR.2 0 _ v1 rfl rfl
 have h2:=hR.2 1 _ v2 rfl rfl
 unfold qg7 at h1
 cases h1 with
 |ifc _ _ y1 h1=>
  cases h2 with
  |ifc _ _ y2 h2=>
   have hpp:=h1
   cases h1 with
   |pp _ b off pub hp hlen hr=>
    cases h2 with
    |bx _ _ _ b2 hn hv hb=>
     obtain⟨_,g1,g2,g3,c,g4,g5,g6⟩:=hA.ob o _ ho
     have hb:=hb g1
     subst hb
     have hc1:c.size=1:=by simpa using g5.symm
     have hl:=(hL w hA.below).ert
     have hcell:w.cell? ⟨(G.ob o).blk,0,none⟩=some c[0]:=by simp [World.cell?,g4,hc1]
     have hfz:w.frozen? ⟨(G.ob o).blk,0,none⟩=false:=by simp [World.frozen?,g4]
     have hlt:(G.ob o).blk<w.heap.size:=(Array.getElem?_eq_some_iff.1 g4).1
     refine (zf6 ⟨b,off,none⟩ ⟨(G.ob o).blk,0,none⟩ c[0] w hl hcell hfz).mono ?_
     rintro e w' ⟨rfl,rfl⟩
     have hb1:Below w.heap.size w ((((w.alloc (.cells #[.pointer (some ⟨(G.ob o).blk,0,none⟩)] 165)).alloc (.cells #[.pointer (some ⟨9,165,none⟩),.pointer (some ⟨w.heap.size,0,none⟩),.int .u64 150] 233)).alloc (.cells #[.pointer (some ⟨9,165,none⟩),.pointer (some ⟨w.heap.size,0,none⟩),.int .u64 150] 233)).alloc (.cells #[.pointer (some ⟨b,off,none⟩)] 101)):=
      ((((Below.refl _ _).alloc (Nat.le_refl _) _).alloc (by simp) _).alloc (by first|(simp;done)|(simp;omega)) _).alloc (by first|(simp;done)|(simp;omega)) _
     have hA1:=hA.fresh hb1
     obtain⟨_,k1,k2,k3,c',k4,k5,k6⟩:=hA1.ob o _ ho
     have hc1':c'.size=1:=by simpa using k5.symm
     refine⟨.bool true,G,Bv true,_,rfl,.refl G,?_,.v _,rfl,rfl⟩
     rw [q26 _ k4 hc1']
     exact hA1.setRow ho (by simp) fun i x y hx hy=>by
      match i with
      | 0=>simp at hx hy;subst hx;subst hy;exact hpp
      |i+1=>simp at hx
theorem zaz (n:Int) (o:Nat) (st:List AObj) (ho:st[o]? = some (.cells 0 101 [.v (.pointer none)])):qo E 85 [.ifc 76 (Iv n),.ifc 165 (.bx o 0 0)] st fun r st'=>r=Bv false∧st'=st:=by
 refine⟨fun B0 w0 G vals w hL hA hR=>?_⟩
 obtain⟨v1,v2,rfl⟩:∃ x y,vals = #[x,y]:=by
  have:=hR.1
  match vals,this with
  | ⟨[x,y]⟩,_=>exact⟨x,y,rfl⟩
 have h1:=hR.2 0 _ v1 rfl rfl
 have h2:=hR.2 1 _ v2 rfl rfl
 cases h1 with
 |ifc _ _ y1 h1=>
  cases h2 with
  |ifc _ _ y2 h2=>
   cases h1 with
   |v=>
    cases h2 with
    |bx _ _ _ b2 hn hv hb=>
     obtain⟨_,g1,g2,g3,c,g4,g5,g6⟩:=hA.ob o _ ho
     have hb:=hb g1
     subst hb
     have hc1:c.size=1:=by simpa using g5.symm
     have hl:=(hL w hA.below).ert
     have hcell:w.cell? ⟨(G.ob o).blk,0,none⟩=some c[0]:=by simp [World.cell?,g4,hc1]
     refine (zd2 n ⟨(G.ob o).blk,0,none⟩ c[0] w hl hcell).mono ?_
     rintro e w' ⟨rfl,hb⟩
     exact⟨_,G,Bv false,st,rfl,.refl G,hA.fresh hb,.v _,rfl,rfl⟩
end Go.Proofs.YtmoklbacdkmkaaaGreatDoor
namespace Go.Proofs.YtmoklbacdkmkaaaGreatDoor
open Go Go.Av Go.RowKit Go.Extern.Stop Go.Stop Go.Extern Go.Proofs
theorem isT.has (v:Value) (xT:TypeId) (w:World):(Instr.typeAssert (.iface 101 v) xT 282 true).run Tryz.prog w = .ok (.tuple #[.iface 101 v,.bool true]) w:=run_typeAssert_hasB Tryz.underlying282 (by kernel_rfl) v xT w
theorem isT.typeOf (v:Value) (w:World):(ReflectliteType.typeOf #[.iface 76 v]).run Tryz.prog w = .ok (.iface 277 (.agg #[.pointer (some ⟨9,76,none⟩)])) w:=by kernel_rfl
theorem isT.cmp (w : World) : (ReflectliteType.method (fun t => do Rtype.noPackHeld "Comparable" t; (fun a => Value.bool a.comparable) <$> typeInfo t) #[.agg #[.pointer (some ⟨9, 76, none⟩)]]).run Tryz.prog w = .ok (.bool true) w := by kernel_rfl
end Go.Proofs.YtmoklbacdkmkaaaGreatDoor
namespace Go.Pl
open Go Go.Proofs
inductive ErrV where
 |no
 |num (n:Int)
 |at' (a n:Int)
 deriving DecidableEq
def ErrV.code:ErrV→Int
 | .no=>0
 | .num n=>n
 | .at' _ n=>n
def ErrV.pos:ErrV→Int
 | .no=> -9
 | .num _=> -9
 | .at' a _=>a
def xo:Nat→List Fld→ErrV
 | _,[]=>.no
 |k,f::r=>if kw f=0 then xo (k+1) r else .at' k (kw f)
def jx (fs:List Fld):ErrV:=if fs=[] then .num 2 else if 40<fs.length then .num 11 else xo 0 fs
theorem qns:∀ (k:Nat) (r:List Fld),(xo k r).code=0↔xo k r = .no
 |k,[]=>by simp [xo,ErrV.code]
 |k,f::r=>by
  unfold xo
  split
  ·exact qns _ r
  ·rename_i h
   simp [ErrV.code,h]
theorem qiq (fs:List Fld):(jx fs).code=0↔jx fs = .no:=by
 unfold jx
 split
 ·simp [ErrV.code]
 ·split
  ·simp [ErrV.code]
  ·exact qns _ _
end Go.Pl
namespace Go.Proofs.YtmoklbacdkmkaaaGreatDoor
open Go Go.Av Go.RowKit Go.Proofs Go.Pl
theorem qup {st st':List AObj} (h:∀ k,k<st.length→st'[k]? = st[k]?):∃ ext,st'=st++ext:=by
 refine qly ?_ h
 rcases Nat.eq_zero_or_pos st.length with h0|h0
 ·omega
 ·have h1:=h (st.length - 1) (by omega)
  have h2:st[st.length - 1]? = some (st[st.length - 1]'(by omega)):=List.getElem?_eq_getElem (by omega)
  have:=lt_of_getElem? (h1.trans h2)
  omega
def gErr (x:qs):ErrV:=if x.kind=2 then (if x.fields=[] then .no else .num 2) else if x.kind=1∨x.kind=3 then jx x.fields else .num 2
def qan:Nat→List qs→ErrV
 | _,[]=>.no
 |k,x::r=>if (gErr x).code=0 then qan (k+1) r else .at' k (gErr x).code
def eErr (b:List qs):ErrV:=if b.length<1∨40<b.length then .num 1 else qan 0 b
theorem qn2 (x:qs):(gErr x).code=0↔gErr x = .no:=by
 unfold gErr
 split
 ·split <;> simp [ErrV.code]
 ·split
  ·exact qiq _
  ·simp [ErrV.code]
theorem qse:∀ (k:Nat) (r:List qs),(qan k r).code=0↔qan k r = .no
 |k,[]=>by simp [qan,ErrV.code]
 |k,f::r=>by
  unfold qan
  split
  ·exact qse _ r
  ·rename_i h
   simp [ErrV.code] at h ⊢
   exact h
theorem qdb (b:List qs):(eErr b).code=0↔eErr b = .no:=by
 unfold eErr
 split
 ·simp [ErrV.code]
 ·exact qse _ _
def errA:ErrV→AV
 | .no=>.v .nilIface
 | .num n=>.ifc 76 (Iv n)
 | .at' a n=>.ifc 101 (.pp [Iv a,.ifc 76 (Iv n)])
theorem vn (e:ErrV):Pure (errA e):=by
 cases e with
 |no=>exact qr _
 |num n=>exact qcs (qr _)
 |at' a n=>exact qkl a n
def KeyB (fs:List Fld):Prop:=∀ f∈fs,f.1.length<4294967281
theorem qzj {fs:List Fld} {i:Nat} {x:Fld} (h:fs[i]? = some x):(fs.map fldA)[i]? = some (fldA x):=by simp [h]
theorem qv5 {b:List qs} {i:Nat} {x:qs} (h:b[i]? = some x):(b.map jb)[i]? = some (jb x):=by simp [h]
theorem qvt {fs:List Fld} (h:¬ 0<fs.length):jx fs = .num 2:=if_pos (List.length_eq_zero_iff.1 (by omega))
theorem qr5 {fs:List Fld} (h:40<fs.length):jx fs = .num 11:=(if_neg fun h0=>by simp [h0] at h).trans (if_pos h)
theorem qvu {fs:List Fld} (h0:0<fs.length) (h:¬ 40<fs.length):jx fs=xo 0 fs:=(if_neg (List.length_pos_iff.1 h0)).trans (if_neg h)
theorem qmk (fs:List Fld) (st:List AObj) (e:ErrV) (h:jx fs=e) (hK:KeyB fs) (hl:fs.length<9223372036854775808):qo E 185 [jq fs] st fun r st'=>r=errA e∧st'=st:=by
 subst h
 refine zm [.a (jq fs)] (vn _) Tryz.func185 rfl rfl (fun _=>rfl) rfl fun S0=>?_
 have hml:(fs.map fldA).length=fs.length:=by simp
 apply qd []
 repeat' (first|apply And.intro|(intro h;try exact cDd)|exact cSd|apply qb []|refine exr ?_|refine qh ?_)
 ·rw [qvt (by omega)];rfl
 ·rw [qr5 (by omega)];rfl
 rw [qvu (by omega) (by omega)]
 refine ji (X:=Nat) (fun k=>⟨[(16,.a (jq fs)),(17,.i (fs.map fldA).length),(18,.i k)],[],0⟩) (fun k=>k≤fs.length∧xo k (fs.drop k)=xo 0 fs) (fun k=>fs.length - k) 0 ⟨by omega,rfl⟩ ?_ ?_
 ·skip
  repeat' (first|apply And.intro|(intro h;try exact cDd)|exact cSd|apply qb []|refine exr ?_|refine qh ?_)
 ·rintro k ⟨hk,hc⟩
  by_cases hlt:k<fs.length
  ·obtain⟨y,hy⟩:∃ y,fs[k]? = some y:=⟨_,List.getElem?_eq_getElem hlt⟩
   have hget:=qzj hy
   have hky:=hK y (List.mem_of_getElem? hy)
   obtain⟨_,hye⟩:=List.getElem?_eq_some_iff.1 hy
   rw [List.drop_eq_getElem_cons hlt,hye,xo] at hc
   rw [← hc]
   by_cases ha:kw y=0
   ·have hc4:=fun st=>qiv y st hky ha
    apply qd [4]
    repeat' (first|apply And.intro|(intro h;try exact cDd)|(refine Exists.intro (k) ⟨by omega,_,hget,?_⟩)|exact⟨Tryz.call226⟩|refine cpe hc4 ?_|(refine Exists.intro (k+1) ⟨⟨by omega,by simp_all⟩,by omega,?_⟩)|exact cSd|apply qb [4]|refine exr ?_|refine qh ?_)
   ·have hc4:=fun st=>qiw y st hky ha
    rw [if_neg ha]
    apply qd [4]
    repeat' (first|apply And.intro|(intro h;try exact cDd)|(refine Exists.intro (k) ⟨by omega,_,hget,?_⟩)|exact⟨Tryz.call226⟩|refine cpe hc4 ?_|exact cSd|apply qb [4]|refine exr ?_|refine qh ?_)
  ·rw [List.drop_eq_nil_of_le (by omega),xo] at hc
   rw [← hc]
   apply qd []
   repeat' (first|apply And.intro|(intro h;try exact cDd)|exact cSd|apply qb []|refine exr ?_|refine qh ?_)
theorem zen (x:qs) (st:List AObj) (e:ErrV) (h:gErr x=e) (hK:KeyB x.fields) (hl:x.fields.length<9223372036854775808):qo E 129 [jb x] st fun r st'=>r=errA e∧st'=st:=by
 subst h
 refine zm [.a (jb x)] (vn _) Tryz.func129 rfl rfl (fun _=>rfl) rfl fun S0=>?_
 have hml:(x.fields.map fldA).length=x.fields.length:=by simp
 have hpos:x.fields=[]↔x.fields.length=0:=by simp
 have hc6:=fun st=>qmk x.fields st _ rfl hK hl
 unfold gErr
 simp only [hpos]
 generalize jx x.fields=e at *
 cases e
 all_goals apply qd [1]
 repeat' (first|apply And.intro|(intro h;try exact cDd)|exact⟨Tryz.call185⟩|refine cpe hc6 ?_|exact cSd|apply qb [1]|refine exr ?_|refine qh ?_)
 all_goals clear hc6
 all_goals grind [errA]
theorem zbn (n:Int) (st:List AObj):qo E 134 [.ifc 76 (Iv n)] st fun r st'=>r = .ifc 76 (Iv n)∧st'=st:=by
 refine qv (qcs (qr _)) (qp Tryz.func134 rfl (Nat.le_of_ble_eq_true rfl) ?_)
 repeat' (first|apply qm|apply qe|apply qg|apply qj|apply qf|(apply qc;exact rfl;apply cd_f;exact cRa)|(apply ka;exact rfl;exact rfl)|(apply jg;exact rfl;exact rfl)|apply qu|apply qt|(apply qi;exact Tryz.call85;exact zaz _ (st.length+0) _ (jl rfl)))
 exact qn rfl (q6 rfl) ⟨rfl,_,rfl⟩
theorem zbm (a n:Int) (st:List AObj):qo E 134 [qg7 a n] st fun r st'=>r = .ifc 76 (Iv n)∧st'=st:=by
 refine qv (qcs (qr _)) (qp Tryz.func134 rfl (Nat.le_of_ble_eq_true rfl) ?_)
 repeat' (first|apply qm|apply qe|apply qg|apply qj|apply qf|(apply qc;exact rfl;apply cd_t;exact cRa)|(apply ka;exact rfl;exact rfl)|(apply jg;exact rfl;exact rfl)|(apply qb3;(iterate 4 exact rfl))|(apply zx;(iterate 3 exact rfl))|(apply xw;exact rfl;exact rfl)|apply qt|(apply qi;exact Tryz.call85;exact zd1 a n (st.length+0) _ (jl rfl))|(apply kv;exact rfl;(focus first|assumption|(repeat' (first|assumption|exact xp|exact jl rfl|apply kh|apply va|omega|apply qb0)));exact rfl;exact rfl))
 exact qn rfl (q6 rfl) ⟨rfl,qup fun j hj=>(qp0 (by omega)).trans (List.getElem?_append_left hj)⟩
theorem qqp (k:Int) (e:ErrV) (st:List AObj) (he:e.code≠0):qo E 74 [Iv k,errA e] st fun r st'=>r=errA (.at' k e.code)∧st'=st:=by
 refine qv (vn _) (qp Tryz.func74 rfl (Nat.le_of_ble_eq_true rfl) ?_)
 cases e with
 |no=>exact absurd rfl he
 |num n=>
  repeat' (first|(apply qng;(iterate 3 exact rfl))|apply qm|apply qe|apply qg|apply qj|apply qf|(apply ka;exact rfl;exact rfl)|(apply vm;(iterate 3 exact rfl))|apply qt|(apply qi;exact Tryz.call134;exact zbn _ _))
  exact qn rfl (q6 rfl) ⟨rfl,_,rfl⟩
 |at' a n=>
  repeat' (first|(apply qng;(iterate 3 exact rfl))|apply qm|apply qe|apply qg|apply qj|apply qf|(apply ka;exact rfl;exact rfl)|(apply vm;(iterate 3 exact rfl))|apply qt|(apply qi;exact Tryz.call134;exact zbm a n _))
  exact qn rfl (q6 rfl) ⟨rfl,_,rfl⟩
structure EdB (x:qs):Prop where
 keys:KeyB x.fields
 len:x.fields.length<9223372036854775808
 id1 : -9223372036854775808≤x.id
 id2:x.id≤9223372036854775807
@[reducible] def jf (b : List qs) : AV := .sl 3 (b.map jb) none
theorem qlv (b:List qs) (st:List AObj) (e:ErrV) (h:eErr b=e) (hB:∀ x∈b,EdB x) (hl:b.length<9223372036854775808):qo E 71 [jf b] st fun r st'=>r=errA e∧st'=st:=by
 subst h
 refine zm [.a (jf b)] (vn _) Tryz.func71 rfl rfl (fun _=>rfl) rfl fun S0=>?_
 have hml:(b.map jb).length=b.length:=by simp
 have h1:b.length<1∨40<b.length→eErr b = .num 1:=fun h=>if_pos h
 have hr:¬ (b.length<1∨40<b.length)→eErr b=qan 0 b:=fun h=>if_neg h
 apply qd []
 repeat' (first|apply And.intro|(intro h;try exact cDd)|exact cSd|apply qb []|refine exr ?_|refine qh ?_)
 ·rw [h1 (by omega)];rfl
 ·rw [h1 (by omega)];rfl
 rw [hr (by omega)]
 refine ji (X:=Nat) (fun k=>⟨[(15,.a (jf b)),(16,.i (b.map jb).length),(17,.i k)],[],0⟩) (fun k=>k≤b.length∧qan k (b.drop k)=qan 0 b) (fun k=>b.length - k) 0 ⟨by omega,rfl⟩ ?_ ?_
 ·skip
  repeat' (first|apply And.intro|(intro h;try exact cDd)|exact cSd|apply qb []|refine exr ?_|refine qh ?_)
 ·rintro k ⟨hk,hc⟩
  by_cases hlt:k<b.length
  ·obtain⟨y,hy⟩:∃ y,b[k]? = some y:=⟨_,List.getElem?_eq_getElem hlt⟩
   have hget:=qv5 hy
   have hky:=hB y (List.mem_of_getElem? hy)
   obtain⟨_,hye⟩:=List.getElem?_eq_some_iff.1 hy
   rw [List.drop_eq_getElem_cons hlt,hye,qan] at hc
   have hc9:=fun st=>zen y st _ rfl hky.keys hky.len
   have hcf:=fun st=>qqp k (gErr y) st
   rw [← hc]
   cases hg:gErr y
   all_goals rw [hg] at hc hc9 hcf
   ·apply qd [4]
    repeat' (first|apply And.intro|(intro h;try exact cDd)|(refine Exists.intro (k) ⟨by omega,_,hget,?_⟩)|exact⟨Tryz.call129⟩|refine cpe hc9 ?_|(refine Exists.intro (k+1) ⟨⟨by omega,(if_pos rfl).symm⟩,by omega,?_⟩)|exact cSd|apply qb [4]|refine exr ?_|refine qh ?_)
   all_goals have hgc:=fun h=>qn2 y |>.1 h
   all_goals rw [hg] at hgc
   all_goals rw [if_neg fun h=>nomatch hgc h]
   ·have hcg:=fun st=>hcf st fun h=>nomatch hgc h
    apply qd [4]
    repeat' (first|apply And.intro|(intro h;try exact cDd)|(refine Exists.intro (k) ⟨by omega,_,hget,?_⟩)|exact⟨Tryz.call129⟩|refine cpe hc9 ?_|exact⟨Tryz.call74⟩|refine cpe hcg ?_|exact cSd|apply qb [4]|refine exr ?_|refine qh ?_)
   ·have hcg:=fun st=>hcf st fun h=>nomatch hgc h
    apply qd [4]
    repeat' (first|apply And.intro|(intro h;try exact cDd)|(refine Exists.intro (k) ⟨by omega,_,hget,?_⟩)|exact⟨Tryz.call129⟩|refine cpe hc9 ?_|exact⟨Tryz.call74⟩|refine cpe hcg ?_|exact cSd|apply qb [4]|refine exr ?_|refine qh ?_)
  ·rw [List.drop_eq_nil_of_le (by omega),qan] at hc
   rw [← hc]
   apply qd []
   repeat' (first|apply And.intro|(intro h;try exact cDd)|exact cSd|apply qb []|refine exr ?_|refine qh ?_)
theorem q4a (a b:Int):Pure (.tu [Iv a,Iv b]):=kf (qr _) (qr _)
theorem qi6 (fs:List Fld) (st:List AObj) (hK:KeyB fs) (hl:fs.length<9223372036854775808):qo E 224 [jq fs] st fun r st'=>r = .tu [Iv (jx fs).pos,Iv (jx fs).code]∧st'=st:=by
 refine zm [.a (jq fs)] (q4a _ _) Tryz.func224 rfl rfl (fun _=>rfl) rfl fun S0=>?_
 have hml:(fs.map fldA).length=fs.length:=by simp
 apply qd []
 repeat' (first|apply And.intro|(intro h;try exact cDd)|exact cSd|apply qb []|refine exr ?_|refine qh ?_)
 ·rw [qvt (by omega)];rfl
 ·rw [qr5 (by omega)];rfl
 rw [qvu (by omega) (by omega)]
 refine ji (X:=Nat) (fun k=>⟨[(0,.a (jq fs)),(4,.i k)],[],0⟩) (fun k=>k≤fs.length∧xo k (fs.drop k)=xo 0 fs) (fun k=>fs.length - k) 0 ⟨by omega,rfl⟩ ?_ ?_
 ·skip
  repeat' (first|apply And.intro|(intro h;try exact cDd)|exact cSd|apply qb []|refine exr ?_|refine qh ?_)
 ·rintro k ⟨hk,hc⟩
  by_cases hlt:k<fs.length
  ·obtain⟨y,hy⟩:∃ y,fs[k]? = some y:=⟨_,List.getElem?_eq_getElem hlt⟩
   have hget:=qzj hy
   have hky:=hK y (List.mem_of_getElem? hy)
   obtain⟨_,hye⟩:=List.getElem?_eq_some_iff.1 hy
   rw [List.drop_eq_getElem_cons hlt,hye,xo] at hc
   have hc4:=fun st=>q0z y st hky
   rw [← hc]
   apply qd []
   repeat' (first|apply And.intro|(intro h;try exact cDd)|(refine Exists.intro (k) ⟨by omega,_,hget,?_⟩)|exact⟨Tryz.call259⟩|refine cpe hc4 ?_|(refine Exists.intro (k+1) ⟨⟨by omega,by simp_all⟩,by omega,?_⟩)|exact cSd|apply qb []|refine exr ?_|refine qh ?_)
   all_goals (rw [if_neg (by assumption)];rfl)
  ·rw [List.drop_eq_nil_of_le (by omega),xo] at hc
   rw [← hc]
   apply qd []
   repeat' (first|apply And.intro|(intro h;try exact cDd)|exact cSd|apply qb []|refine exr ?_|refine qh ?_)
theorem q2y (x:qs) (st:List AObj) (hK:EdB x):qo E 182 [jb x] st fun r st'=>r=Iv (gErr x).code∧st'=st:=by
 refine zm [.a (jb x)] (qr _) Tryz.func182 rfl rfl (fun _=>rfl) rfl fun S0=>?_
 have hml:(x.fields.map fldA).length=x.fields.length:=by simp
 have hpos:x.fields=[]↔x.fields.length=0:=by simp
 have hc6:=fun st=>qi6 x.fields st hK.keys hK.len
 have hg:(gErr x).code=if x.kind=2 then (if x.fields.length=0 then 0 else 2) else if x.kind=1∨x.kind=3 then (jx x.fields).code else 2:=by
  unfold gErr
  simp only [apply_ite ErrV.code,hpos]
  rfl
 rw [hg]
 generalize (jx x.fields).code=c at *
 apply qd [1]
 repeat' (first|apply And.intro|(intro h;try exact cDd)|exact⟨Tryz.call224⟩|refine cpe hc6 ?_|exact cSd|apply qb [1]|refine exr ?_|refine qh ?_)
 all_goals clear hc6
 all_goals refine congrArg Iv ?_
 all_goals omega
theorem qon (b:List qs) (st:List AObj) (hB:∀ x∈b,EdB x) (hl:b.length<9223372036854775808):qo E 124 [jf b] st fun r st'=>r = .tu [Iv (eErr b).pos,Iv (eErr b).code]∧st'=st:=by
 refine zm [.a (jf b)] (q4a _ _) Tryz.func124 rfl rfl (fun _=>rfl) rfl fun S0=>?_
 have hml:(b.map jb).length=b.length:=by simp
 have h1:b.length<1∨40<b.length→eErr b = .num 1:=fun h=>if_pos h
 have hr:¬ (b.length<1∨40<b.length)→eErr b=qan 0 b:=fun h=>if_neg h
 apply qd []
 repeat' (first|apply And.intro|(intro h;try exact cDd)|exact cSd|apply qb []|refine exr ?_|refine qh ?_)
 ·rw [h1 (by omega)];rfl
 ·rw [h1 (by omega)];rfl
 rw [hr (by omega)]
 refine ji (X:=Nat) (fun k=>⟨[(0,.a (jf b)),(4,.i k)],[],0⟩) (fun k=>k≤b.length∧qan k (b.drop k)=qan 0 b) (fun k=>b.length - k) 0 ⟨by omega,rfl⟩ ?_ ?_
 ·skip
  repeat' (first|apply And.intro|(intro h;try exact cDd)|exact cSd|apply qb []|refine exr ?_|refine qh ?_)
 ·rintro k ⟨hk,hc⟩
  by_cases hlt:k<b.length
  ·obtain⟨y,hy⟩:∃ y,b[k]? = some y:=⟨_,List.getElem?_eq_getElem hlt⟩
   have hget:=qv5 hy
   have hky:=hB y (List.mem_of_getElem? hy)
   obtain⟨_,hye⟩:=List.getElem?_eq_some_iff.1 hy
   rw [List.drop_eq_getElem_cons hlt,hye,qan] at hc
   have hc9:=fun st=>q2y y st hky
   rw [← hc]
   apply qd []
   repeat' (first|apply And.intro|(intro h;try exact cDd)|(refine Exists.intro (k) ⟨by omega,_,hget,?_⟩)|exact⟨Tryz.call182⟩|refine cpe hc9 ?_|(refine Exists.intro (k+1) ⟨⟨by omega,by simp_all⟩,by omega,?_⟩)|exact cSd|apply qb []|refine exr ?_|refine qh ?_)
   all_goals (rw [if_neg (by assumption)];rfl)
  ·rw [List.drop_eq_nil_of_le (by omega),qan] at hc
   rw [← hc]
   apply qd []
   repeat' (first|apply And.intro|(intro h;try exact cDd)|exact cSd|apply qb []|refine exr ?_|refine qh ?_)
def j8 (x:qs):qa:=j9 x++[10]++y3 [32,32] (zo x.fields)
def encF (b:List qs):qa:=b.flatMap j8
theorem qy9 (a b:List qs):encF (a++b)=encF a++encF b:=by simp [encF]
theorem qza (x:qs):encF [x]=j8 x:=by simp [encF]
theorem qr7:∀ (k:Nat) (r:List Fld),xo k r = .no↔∀ f∈r,jz f
 |k,[]=>by simp [xo]
 |k,f::r=>by
  unfold xo
  split
  ·rename_i h
   rw [qr7 (k+1) r]
   have:=(qcz f).1 h
   simp [this]
  ·rename_i h
   have h2:¬ jz f:=fun g=>h ((qcz f).2 g)
   simp [h2]
theorem qft {fs:List Fld} (h:jx fs = .no):fs≠[]∧fs.length≤40∧∀ f∈fs,jz f:=by
 unfold jx at h
 split at h
 ·exact absurd h (by simp)
 ·split at h
  ·exact absurd h (by simp)
  ·exact⟨by assumption,by omega,(qr7 _ _).1 h⟩
theorem qih {x:qs} (h:gErr x = .no):x.fields.length≤40∧∀ f∈x.fields,jz f:=by
 unfold gErr at h
 split at h
 ·split at h
  ·rename_i h0;rw [h0];simp
  ·exact absurd h (by simp)
 ·split at h
  ·exact (qft h).2
  ·exact absurd h (by simp)
theorem qy7:∀ (k:Nat) (b:List qs),qan k b = .no↔∀ x∈b,gErr x = .no
 |k,[]=>by simp [qan]
 |k,x::b=>by
  unfold qan
  split
  ·rename_i h
   rw [qy7 (k+1) b]
   have:=(qn2 x).1 h
   simp [this]
  ·rename_i h
   have h2:¬ gErr x = .no:=fun g=>h ((qn2 x).2 g)
   simp [h2]
theorem qc0 {b:List qs} (h:eErr b = .no):1≤b.length∧b.length≤40∧∀ x∈b,gErr x = .no:=by
 unfold eErr at h
 split at h
 ·exact absurd h (by simp)
 ·exact⟨by omega,by omega,(qy7 _ _).1 h⟩
theorem qss {fs:List Fld} (hl:fs.length≤40) (h:∀ f∈fs,jz f):qxt fs:=⟨by omega,fun f hf=>by
 have:=h f hf
 have h1:=this.1.2.1
 have h2:=this.2
 omega⟩
theorem qsp (xs:List FldV) (st:List AObj) (hl:xs.length≤40) (h:∀ f∈xs,jz f):qo E 135 [jq xs] st fun r st'=>r = .tu [Sv (zo xs),.v .nilIface]∧st'=st:=by
 have:=zgk xs st (qss hl h)
 unfold qsn at this
 have h0:=(qnx xs).2 h
 rw [if_pos h0,h0] at this
 exact this
theorem qkm (l:qa):(y3 [32,32] l).length≤3 * l.length:=by
 unfold y3
 obtain⟨h1,h2⟩:=qe9 _ l (Nat.le_refl _)
 have:=ql5 [32,32] (zq l)
 simp only [List.length_cons,List.length_nil] at this
 omega
theorem qn8 (x:qs) (h1 : -9223372036854775808≤x.id) (h2:x.id≤9223372036854775807):(j9 x).length≤100:=by
 have hn:=Lib.itoa_length_le x.id h1 h2
 unfold j9 yj
 split
 ·split
  ·simp;omega
  ·split
   ·simp;omega
   ·split <;> simp <;> omega
 ·simp
theorem q5n {x:qs} (hB:EdB x) (h:gErr x = .no):(j8 x).length≤700000:=by
 obtain⟨hl,hg⟩:=qih h
 have h1:=qe6 x.fields hg
 have h2:=qkm (zo x.fields)
 have h3:=qn8 x hB.id1 hB.id2
 unfold j8
 simp only [List.length_append,List.length_cons,List.length_nil]
 omega
theorem qlx:∀ (b:List qs),(∀ x∈b,EdB x)→(∀ x∈b,gErr x = .no)→(encF b).length≤700000 * b.length
 | [],_,_=>by simp [encF]
 |x::r,hB,h=>by
  have ih:=qlx r (fun y hy=>hB y (by simp [hy])) (fun y hy=>h y (by simp [hy]))
  have h1:=q5n (hB x (by simp)) (h x (by simp))
  have e:encF (x::r)=j8 x++encF r:=by simp [encF]
  rw [e,List.length_append,List.length_cons]
  omega
set_option maxHeartbeats 2000000 in
theorem qv7 (b:List qs) (st:List AObj) (hB:∀ x∈b,EdB x) (he:eErr b = .no):qo E 75 [jf b] st fun r st'=>r = .tu [Sv (encF b),.v .nilIface]∧st'=st:=by
 refine qv (kf (qr _) (qr _)) (qp Tryz.func75 rfl (Nat.le_of_ble_eq_true rfl) ?_)
 have hml:(b.map jb).length=b.length:=by simp
 obtain⟨hb1,hb40,hg⟩:=qc0 he
 have hel:=qlx b hB hg
 repeat' (first|(apply qkf;exact rfl)|apply qm|apply qx|apply qe|apply qg|apply qj|apply qf|(apply qc;exact rfl;apply cd_f;exact cRa)|(apply zy;(iterate 4 exact rfl))|(apply vl;exact rfl;exact rfl)|apply qu|(apply qi;exact Tryz.call71;exact qlv _ _ _ he hB (by omega)))
 refine yp b (fun pre s=>∃ q,(q = .v (.pointer none)∨q = .bx (st.length+0) 0 0)∧StE [(5,.bx (st.length+0) 0 0),(15,jf b),(16,Iv b.length),(17,Iv pre.length)] st [bldO 0 q (encF pre) (st.length+1),.tip (encF pre).length 1 5] s) ⟨_,.inl rfl,qce ⟨rfl,rfl,congrArg (fun n:Nat=>Iv (n:Int)) hml,rfl,trivial⟩ rfl⟩ ?_ ?_
 ·rintro _ ⟨q,hq,t,ext,rfl⟩
  repeat' (first|apply qm|apply qe|apply qg|apply qf|(apply qq;(iterate 3 exact rfl))|(apply qc;exact rfl;apply ku;exact cAo)|apply zz|apply qt|(refine qi Tryz.call139 (qkj st _ _ _ _ 0 1 0 _ _ rfl rfl rfl) ?_))
  exact qn rfl (kc rfl) ⟨rfl,ya _ _ _ _⟩
 ·rintro pre x rest _ hr ⟨q,hq,t,ext,rfl⟩
  have hlen:b.length=pre.length+(rest.length+1):=by rw [hr];simp
  have hget:(b.map jb)[pre.length]? = some (jb x):=by rw [hr];simp
  have hxb:=hB x (by rw [hr];simp)
  have hxg:=hg x (by rw [hr];simp)
  obtain⟨hfl,hfg⟩:=qih hxg
  have hpl:=qlx pre (fun y hy=>hB y (by rw [hr];simp [hy])) (fun y hy=>hg y (by rw [hr];simp [hy]))
  have hll:=qn8 x hxb.id1 hxb.id2
  have hfo:=qe6 x.fields hfg
  have hin:=qkm (zo x.fields)
  repeat' (first|apply qm|apply qx|apply qe|apply qg|apply qj|apply qf|(apply zf;exact rfl;exact rfl)|(apply qq;(iterate 3 exact rfl))|(apply qc;exact rfl;apply kz;exact cAo)|(apply qc;exact rfl;apply cd_f;exact cRa)|(apply z7;exact rfl;exact rfl;exact cOs)|(apply vl;exact rfl;exact rfl)|(apply jg;exact rfl;exact rfl)|(apply zg;(iterate 3 exact rfl))|(apply zx;(iterate 3 exact rfl))|(apply jd;(iterate 5 exact rfl))|(apply zu;(iterate 11 exact rfl))|(apply kl;(iterate 9 exact rfl))|apply qu|(apply qi;exact Tryz.call135;exact qsp _ _ hfl hfg)|(apply qi;exact Tryz.call137;exact zgs _ _ hxb.id1 hxb.id2)|(apply qi;exact Tryz.call138;exact zbw _ _ _ (by omega) (by decide))|(apply zw (n:=pre.length);(iterate 5 exact rfl);exact hget))
  refine qi Tryz.call136 (qlt st _ _ _ _ 0 1 0 _ _ _ rfl rfl ?_ ?_ rfl) ?_;(exact hq);(simp only [List.length_append,List.length_cons,List.length_nil];omega)
  repeat' (first|apply qe|apply qg|apply qj|(apply zh;exact rfl;exact rfl;exact qz (by omega) (by omega)))
  refine⟨_,.inr rfl,xv ⟨rfl,rfl,rfl,?_,trivial⟩ ?_⟩
  ·rw [y5 pre x];rfl
  ·have e:encF (pre++[x])=encF pre++((j9 x++[10])++y3 [32,32] (zo x.fields)):=by rw [qy9,qza];rfl
   rw [e];rfl
theorem qjw (b:List qs) (st:List AObj) (e:ErrV) (hB:∀ x∈b,EdB x) (hl:b.length<9223372036854775808) (he:eErr b=e) (h0:e.code≠0):qo E 75 [jf b] st fun r st'=>r = .tu [Sv [],errA e]∧st'=st:=by
 refine qv (kf (qr _) (vn _)) (qp Tryz.func75 rfl (Nat.le_of_ble_eq_true rfl) ?_)
 cases e with
 |no=>exact absurd rfl h0
 |num n=>
  repeat' (first|apply qm|apply qe|apply qg|apply qj|apply qf|(apply qc;exact rfl;apply cd_t;exact cRa)|(apply wn;exact rfl;exact rfl)|apply qt|(apply qi;exact Tryz.call71;exact qlv _ _ _ he hB hl))
  exact qn rfl (kc rfl) ⟨rfl,_,rfl⟩
 |at' a n=>
  repeat' (first|apply qm|apply qe|apply qg|apply qj|apply qf|(apply qc;exact rfl;apply cd_t;exact cRa)|(apply wn;exact rfl;exact rfl)|apply qt|(apply qi;exact Tryz.call71;exact qlv _ _ _ he hB hl))
  exact qn rfl (kc rfl) ⟨rfl,_,rfl⟩
end Go.Proofs.YtmoklbacdkmkaaaGreatDoor
namespace Go.Av
open Go Go.RowKit
theorem qri {b:Nat} {st l:List AObj} {sz:Nat} {T:TypeId} {xs:List AV} {c:AV} (h:TipO b st sz T xs c):TipO b (st++l) sz T xs c:=by
 rcases h with h|h
 ·exact .inl (qjd h)
 ·exact .inr h
theorem q4h {b:Nat} {st st':List AObj} {sz:Nat} {T:TypeId} {xs:List AV} {c:AV} (hs:∀ (t m sz:Nat) (T:TypeId),st[t]? = some (AObj.tip m sz T)→st'[t]? = st[t]?) (h:TipO b st sz T xs c):TipO b st' sz T xs c:=by
 rcases h with (h | ⟨t,h1,h2,h3⟩)|h
 ·exact .inl (.inl h)
 ·exact .inl (.inr ⟨t,h1,(hs t _ _ _ h2).trans h2,h3⟩)
 ·exact .inr h
end Go.Av
namespace Go.Proofs.YtmoklbacdkmkaaaGreatDoor
open Go Go.Av Go.RowKit Go.Proofs Go.Pl
theorem qgh {st l:List AObj}:st.length≤(st++l).length:=by simp
theorem qw7 {b o:Nat} {st:List AObj} {sz:Nat} {T:TypeId} {xs:List AV} {c:AV} {x:AObj} (h:TipO b st sz T xs c) (hn:qi0 st[o]?):TipO b (st.set o x) sz T xs c:=
 q4h (fun t m sz T ht=>List.getElem?_set_ne (fun e=>by subst e;exact hn _ _ _ ht)) h
structure OutI (st:List AObj) (S:List AObj):Prop where
 low:∀ j,j<st.length→S[j]? = st[j]?
 len:st.length≤S.length
theorem OutI.pre {st S l:List AObj} (h:OutI st S):OutI st (S++l):=⟨fun j hj=>(List.getElem?_append_left (by have:=h.len;omega)).trans (h.low j hj),by have:=h.len;simp;omega⟩
theorem OutI.set {st S:List AObj} {o:Nat} {x:AObj} (h:OutI st S) (ho:st.length≤o):OutI st (S.set o x):=⟨fun j hj=>(qp0 (by omega)).trans (h.low j hj),by have:=h.len;simp;omega⟩
theorem OutI.fr {st S S':List AObj} {t:Nat} (h:OutI st S) (hf:Fr S S' t) (ht:st.length≤t):OutI st S':=⟨fun j hj=>(hf.same j (by omega) (by have:=h.len;omega)).trans (h.low j hj),Nat.le_trans h.len hf.len⟩
theorem OutI.ext {st S:List AObj} (h:OutI st S):∃ ext,S=st++ext:=qup h.low
theorem qck {E:Env} {rd:Option Nat} {N:Nat} {ops:Array Oper} {K:AS→Prop} {s:AS} {rest:List Oper} {d:Option Tmp} {T:TypeId} {p:String} {af:Array Edge} {t e:TypeId} {len sz:Nat} {agg:Bool} {parts:Array (Nat×Operand)} {zs cs:List AV} {st:List AObj} (hst:s.st=st) (hu:E.P.underlying t=some (.slice e)) (ht:tyOf E.P e=some (sz,agg)) (hz:qf6 E.P e len=some zs)
  (hf:qco (fun i=>some (i * sz,sz)) zs (v6 N s parts)=some cs) (hsz:Nat.ble (len * sz) 16777216=true)
  (h:AOps E rd N ops rest K (AS.put ⟨s.t,st++[.cells 0 e cs],s.df⟩ d (.os st.length 0 0 len len))):AOps E rd N ops (⟨d,.buildSlice t len parts,T,p,af,none⟩::rest) K s:=
 x4 (loc:=[]) (by rw [hst];simp) hu ht hz hf hsz h
theorem qgt (x:qs):qlj (jb x):=fun y hy=>by
 simp only [AV.cells,List.mem_cons,List.not_mem_nil,or_false] at hy
 rcases hy with rfl|rfl|rfl
 ·exact qr _
 ·exact qr _
 ·exact qbk _
theorem qef (b:List qs):Pure (jf b):=qa9 fun x hx=>by
 obtain⟨f,_,rfl⟩:=List.mem_map.1 hx
 exact qgt f
theorem zb6 {α β : Type} (g : α→β) (l:List α) (a : α):(l++[a]).map g=l.map g++[g a]:=by simp
def tryB (k:Int) (l:qa):Option Int:=if yj k <+: l then (match Lib.atoiAll (l.drop (yj k).length) with
 | .ok n=>some n
 | _=>none) else none
def begE (l:qa):Option (Int×Int):=match tryB 1 l with
 |some n=>some (1,n)
 |none=>match tryB 2 l with
  |some n=>some (2,n)
  |none=>match tryB 3 l with
   |some n=>some (3,n)
   |none=>none
def begA:Option (Int×Int)→AV
 |some (k,n)=>.tu [jb ⟨k,n,[]⟩,Bv true]
 |none=>.tu [jb ⟨0,0,[]⟩,Bv false]
theorem q7j (x:Option (Int×Int)):Pure (begA x):=by
 rcases x with _ | ⟨k,n⟩
 ·exact kf (qa8 (qgt _)) (qr _)
 ·exact kf (qa8 (qgt _)) (qr _)
theorem qw9 (k n:Int):Weak (.ag [Iv k,Iv n,zk]) (jb ⟨k,n,[]⟩):=
 zf0 rfl fun i x y hx hy=>by
  match i with
  | 0=>simp at hx hy;subst hx;subst hy;exact qbv _
  | 1=>simp at hx hy;subst hx;subst hy;exact qbv _
  | 2=>simp at hx hy;subst hx;subst hy;exact qf4 2
  |i+3=>simp at hx
theorem q5g (l m:qa) (st:List AObj) (h:m <+: l):qo E 217 [Sv l,Sv m] st fun r st'=>r = .tu [Sv (l.drop m.length),Bv true]∧st'=st:=by
 have:=qee l m st
 rw [qcw h,(x2 l m).2 h] at this
 exact this
theorem q5h (l m d:qa) (st:List AObj) (h:m <+: l) (hd:l.drop m.length=d):qo E 217 [Sv l,Sv m] st fun r st'=>r = .tu [Sv d,Bv true]∧st'=st:=by
 subst hd
 exact q5g l m st h
theorem q5f (l m:qa) (st:List AObj) (h:¬ m <+: l):qo E 217 [Sv l,Sv m] st fun r st'=>r = .tu [Sv l,Bv false]∧st'=st:=by
 have:=qee l m st
 have hf:Lib.hasPrefix l m=false:=by
  cases hb:Lib.hasPrefix l m with
  |false=>rfl
  |true=>exact absurd ((x2 l m).1 hb) h
 have ht:Lib.trimPrefix l m=l:=by
  unfold Lib.trimPrefix
  rw [if_neg (by simp [hf])]
 rw [ht,hf] at this
 exact this
theorem zd4 {l:qa} {k:Nat} {n:Int} (h1:1≤k) (h3:k≤3) (h:∀ j:Nat,1≤j→j<k→tryB j l=none) (hk:tryB k l=some n):begE l=some ((k:Int),n):=by
 have:k=1∨k=2∨k=3:=by omega
 rcases this with rfl|rfl|rfl
 ·have hk1:tryB 1 l=some n:=hk
  simp [begE,hk1]
 ·have e1:tryB 1 l=none:=h 1 (by omega) (by omega)
  have hk1:tryB 2 l=some n:=hk
  simp [begE,e1,hk1]
 ·have e1:tryB 1 l=none:=h 1 (by omega) (by omega)
  have e2:tryB 2 l=none:=h 2 (by omega) (by omega)
  have hk1:tryB 3 l=some n:=hk
  simp [begE,e1,e2,hk1]
theorem q7l {l:qa} (h:∀ j:Nat,1≤j→j<4→tryB j l=none):begE l=none:=by
 have e1:tryB 1 l=none:=h 1 (by omega) (by omega)
 have e2:tryB 2 l=none:=h 2 (by omega) (by omega)
 have e3:tryB 3 l=none:=h 3 (by omega) (by omega)
 simp [begE,e1,e2,e3]
theorem zao {k:Nat} (h1:1≤k) (h3:k≤3):qbx (k:Int)≠[]∧([32]++qbx (k:Int))++[32]=yj (k:Int)∧(qbx (k:Int)).length≤10:=by
 have:k=1∨k=2∨k=3:=by omega
 rcases this with rfl|rfl|rfl <;> decide
set_option maxHeartbeats 2000000 in
theorem zd6 (l:qa) (st:List AObj) (hl:l.length<1000000):qo E 176 [Sv l] st fun r st'=>r=begA (begE l)∧st'=st:=by
 refine qv (q7j _) (qp Tryz.func176 rfl (Nat.le_of_ble_eq_true rfl) ?_)
 repeat' (first|apply qm|apply qx|apply qe|apply qg|apply qf|(apply jg;exact rfl;exact rfl))
 refine j5 (fun (k:Nat) s=>1≤k∧k≤4∧(∀ j:Nat,1≤j→j<k→tryB j l=none)∧StE [(0,Sv l),(2,.bx (st.length+0) 0 0),(4,Iv k)] st [.cells 0 97 [Iv 0,Iv 0,zk]] s) (fun k=>4 - k) 1 ⟨by omega,by omega,fun j h1 h2=>by omega,qce ⟨rfl,rfl,rfl,trivial⟩ rfl⟩ ?_
 rintro k _ ⟨hk1,hk4,hno,t,ext,rfl⟩
 by_cases h4:k=4
 ·subst h4
  have hw:qbx ((4:Nat):Int)=[]:=by decide
  rw [q7l hno]
  repeat' (first|apply qm|apply qe|apply qg|apply qj|apply qf|(apply jh;(iterate 3 exact rfl))|(apply qc;exact rfl;apply cd_f;exact cRa)|(apply qat;(iterate 11 exact rfl))|(apply vm;(iterate 3 exact rfl))|apply zz|apply qt|(apply qi;exact Tryz.call191;exact qt2 _ _))
  refine qn rfl (wr (qea rfl rfl rfl rfl rfl rfl) (qe0 (qw9 0 0) (qbv _))) ⟨rfl,ya _ _ _ _⟩
 ·obtain⟨hw,hm,hwl⟩:=zao hk1 (by omega)
  by_cases hp:yj (k:Int) <+: l
  ·have hp':([32]++qbx (k:Int))++[32] <+: l:=by rw [hm];exact hp
   obtain⟨d,hd0⟩:∃ d,d=l.drop (yj (k:Int)).length:=⟨_,rfl⟩
   have hd:l.drop ((([32]:qa)++qbx (k:Int))++[32]).length=d:=by rw [hm,hd0]
   have hdl:d.length<1000000:=by rw [hd0,List.length_drop];omega
   repeat' (first|apply qm|apply qx|apply qe|apply qg|apply qj|apply qf|(apply zf;exact rfl;exact rfl)|(apply jh;(iterate 3 exact rfl))|(apply qc;exact rfl;apply kz;exact cAo)|(apply z7;exact rfl;exact rfl;exact cOs)|apply qu|(apply qi;exact Tryz.call191;exact qt2 _ _)|(apply qi;exact Tryz.call217;exact q5h _ _ _ _ hp' hd))
   refine qe2 Tryz.call97 ((qnk d _ (by omega)).mono ?_)
   rintro _ _ ⟨rfl,n,x,rfl,hx⟩
   rw [hd0] at hx
   rcases x with _ | ⟨t',y⟩
   ·simp only at hx
    have htr:tryB (k:Int) l=some n:=by unfold tryB;rw [if_pos hp,hx]
    rw [zd4 hk1 (by omega) hno htr]
    repeat' (first|apply qm|apply qe|apply qg|apply qj|apply qf|(apply zf;exact rfl;exact rfl)|(apply qw;(iterate 4 exact rfl))|(apply qbz;exact cRa)|(apply qk;exact rfl;apply pk_t;exact cRa)|(apply qc;exact rfl;apply cd_t;exact cRa)|(apply qhe;exact rfl;exact rfl)|(apply qat;(iterate 11 exact rfl))|(apply vm;(iterate 3 exact rfl))|apply qt)
    refine qn rfl (wr (qea rfl rfl rfl rfl rfl rfl) (qe0 (qw9 k n) (qbv _))) ⟨rfl,ya _ _ _ _⟩
   ·simp only at hx
    have htr:tryB (k:Int) l=none:=by
     unfold tryB
     rw [if_pos hp]
     split
     ·rename_i v hv;exact absurd hv (hx v)
     ·rfl
    repeat' (first|apply qm|apply qe|apply qg|apply qj|apply qf|(apply zf;exact rfl;exact rfl)|(apply qw;(iterate 4 exact rfl))|(apply qbz;exact cRa)|(apply qk;exact rfl;apply pk_t;exact cRa)|(apply qc;exact rfl;apply cd_f;exact cRa)|(apply zh;exact rfl;exact rfl;exact qz (by omega) (by omega))|(apply qhc;exact rfl;exact rfl)|apply qu)
    refine⟨k+1,⟨by omega,by omega,fun j h1 h2=>?_,xv ⟨rfl,rfl,rfl,trivial⟩ rfl⟩,by omega⟩
    by_cases hjk:j=k
    ·subst hjk;exact htr
    ·exact hno j h1 (by omega)
  ·have hp':¬ ([32]++qbx (k:Int))++[32] <+: l:=by rw [hm];exact hp
   have htr:tryB (k:Int) l=none:=by unfold tryB;rw [if_neg hp]
   repeat' (first|apply qm|apply qx|apply qe|apply qg|apply qj|apply qf|(apply zf;exact rfl;exact rfl)|(apply jh;(iterate 3 exact rfl))|(apply qc;exact rfl;apply kz;exact cAo)|(apply z7;exact rfl;exact rfl;exact cOs)|apply qu|(apply qi;exact Tryz.call191;exact qt2 _ _)|(apply qi;exact Tryz.call217;exact q5f _ _ _ hp'))
   refine qe2 Tryz.call97 ((qnk l _ (by omega)).mono ?_)
   rintro _ _ ⟨rfl,n,x,rfl,hx⟩
   rcases x with _ | ⟨t',y⟩
   all_goals
    repeat' (first|apply qm|apply qe|apply qg|apply qj|apply qf|(apply zf;exact rfl;exact rfl)|(apply qw;(iterate 4 exact rfl))|(apply yq;exact cRa)|(apply qk;exact rfl;apply pk_f;exact cRa)|(apply qc;exact rfl;apply cd_f;exact cRa)|(apply zh;exact rfl;exact rfl;exact qz (by omega) (by omega))|apply qu)
    refine⟨k+1,⟨by omega,by omega,fun j h1 h2=>?_,xv ⟨rfl,rfl,rfl,trivial⟩ rfl⟩,by omega⟩
    by_cases hjk:j=k
    ·subst hjk;exact htr
    ·exact hno j h1 (by omega)
def recsF (its:List jj):List (List Fld):=(its.filter fun x=>decide (x.kind=3)).map jj.fields
@[reducible] def zdp (ls : List (List Fld)) : AV := .sl 1 (ls.map jq) none
theorem q6q (ls:List (List Fld)):Pure (zdp ls):=qa9 fun x hx=>by
 obtain⟨f,_,rfl⟩:=List.mem_map.1 hx
 intro y hy
 simp only [AV.cells,List.mem_cons,List.not_mem_nil,or_false] at hy
 subst hy
 exact qbk _
theorem q2t (l:List jj) (x:jj) (h:x.kind=3):recsF (l++[x])=recsF l++[x.fields]:=by simp [recsF,h]
theorem q2u (l:List jj) (x:jj) (h:¬ x.kind=3):recsF (l++[x])=recsF l:=by simp [recsF,h]
theorem zfx {b t1:Nat} {st st':List AObj} {sz:Nat} {T:TypeId} {xs:List AV} {c c0:AV} {sz0:Nat} {xs0:List AV} (hf:Fr st st' t1) (hid:c0 = .sl sz0 xs0 (some t1)∨st.length≤t1) (h0:∀ t,c0≠.sl sz0 xs0 (some t)) (h:TipO b st sz T xs c):TipO b st' sz T xs c:=
 q4h (fun t m sz T ht=>hf.same t (fun e=>by
  subst e
  rcases hid with hid|hid
  ·exact h0 _ hid
  ·have:=lt_of_getElem? ht;omega) (lt_of_getElem? ht)) h
theorem zdc {b t1:Nat} {st st':List AObj} {sz:Nat} {T:TypeId} {xs:List AV} {c:AV} {sz0:Nat} {xs0:List AV} {o v f l k:Nat} (hf:Fr st st' t1) (hid:AV.os o v f l k = .sl sz0 xs0 (some t1)∨st.length≤t1) (h:TipO b st sz T xs c):TipO b st' sz T xs c:=
 zfx hf hid (by simp) h
set_option maxHeartbeats 2000000 in
theorem q92 (its:List jj) (st:List AObj) (hl:its.length<1000000) (hf:∀ x∈its,x.fields.length<1000000):qo E 222 [xi its] st fun r st'=>r=zdp (recsF its)∧st'=st:=by
 refine qv (q6q _) (qp Tryz.func222 rfl (Nat.le_of_ble_eq_true rfl) ?_)
 have hml:(its.map wg).length=its.length:=by simp
 rw [List.append_nil]
 repeat' (first|apply qm|apply qx|apply qe|apply qg|apply qj|apply qf|(apply zy;(iterate 4 exact rfl)))
 refine yp its (fun pre s=>∃ c S,OutI st S∧TipO st.length S 1 95 ((recsF pre).map jq) c∧StA [(3,c),(6,xi its),(7,Iv its.length),(8,Iv pre.length)] S [] s) ⟨_,st,⟨fun _ _=>rfl,Nat.le_refl _⟩,q1p ..,ja ⟨rfl,rfl,congrArg (fun n:Nat=>Iv (n:Int)) hml,rfl,trivial⟩⟩ ?_ ?_
 ·rintro _ ⟨c,S,hO,hT,t,rfl⟩
  repeat' (first|apply qm|apply qe|apply qg|apply qj|apply qf|(apply qq;(iterate 3 exact rfl))|(apply qc;exact rfl;apply ku;exact cAo)|apply zz|apply qt)
  exact qn rfl (wr (q6 rfl) (qmq hT)) ⟨rfl,hO.ext⟩
 ·rintro pre x rest _ hr ⟨c,S,hO,hT,t,rfl⟩
  have hlen:its.length=pre.length+(rest.length+1):=by rw [hr];simp
  have hget:(its.map wg)[pre.length]? = some (wg x):=by rw [hr];simp
  have hxf:=hf x (by rw [hr];simp)
  have hpl:(recsF pre).length≤pre.length:=by unfold recsF;rw [List.length_map];exact List.length_filter_le _ _
  have hSl:=hO.len
  have hO1:OutI st ((S++[AObj.cells 0 137 [Iv 0,Sv [],zk]]).set S.length (.cells 0 137 (wg x).cells)):=hO.pre.set hSl
  have hT1:TipO st.length ((S++[AObj.cells 0 137 [Iv 0,Sv [],zk]]).set S.length (.cells 0 137 (wg x).cells)) 1 95 ((recsF pre).map jq) c:=qw7 (qri hT) (qae xp)
  have hob:((S++[AObj.cells 0 137 [Iv 0,Sv [],zk]]).set S.length (.cells 0 137 (wg x).cells))[S.length]? = some (.cells 0 137 (wg x).cells):=kh xp
  by_cases h3:x.kind=3
  ·skip
   repeat' (first|(apply qck (st:=(S++[AObj.cells 0 137 [Iv 0,Sv [],zk]]).set S.length (.cells 0 137 (wg x).cells));(iterate 6 exact rfl))|(apply q7a 19 rfl (qmq g1);apply kl;(iterate 9 exact rfl))|apply qm|apply qx|apply qe|apply qg|apply qj|apply qf|(apply qq;(iterate 3 exact rfl))|(apply qc;exact rfl;apply kz;exact cAo)|(apply zh;exact rfl;exact rfl;exact qz (by omega) (by omega))|(apply zg;(iterate 3 exact rfl))|(apply zx;(iterate 3 exact rfl))|apply qu|(apply kv;exact rfl;exact hob;exact rfl;exact rfl)|(apply kv;exact rfl;exact qb0 hob;exact rfl;exact rfl)|(apply qkg (st:=S);exact rfl;exact rfl)|(apply yo;exact rfl;exact rfl;(focus first|assumption|(repeat' (first|assumption|exact xp|exact jl rfl|apply kh|apply va|omega|apply qb0)));(iterate 6 exact rfl))|(apply zw (n:=pre.length);(iterate 5 exact rfl);exact hget)|(apply qin (b:=st.length) (xs:=[]) (ys:=x.fields.map fldA) (bytes:=32);(iterate 5 exact rfl);exact⟨⟨_,_,rfl,rfl,rfl,rfl,rfl⟩⟩;exact q4i _ _ _ _ _ _ _;(exact Nat.le_trans hO1.len qgh);(first|exact rfl|exact qcj fun _=>rfl);((simp [maxLen];omega));((simp;omega));intro c1 S1 t1 g1 g2 g3 g4)|(apply qin (b:=st.length) (xs:=(recsF pre).map jq) (ys:=[jq x.fields]) (bytes:=24);(iterate 5 exact rfl);exact⟨⟨_,_,rfl,rfl,rfl,rfl,rfl⟩⟩;exact zdc g2 g4 (qri hT1);(exact (hO1.pre.fr g2 g3).len);(first|exact rfl|exact qcj fun _=>rfl);((simp [maxLen];omega));((simp;omega));intro c2 S2 t2 k1 k2 k3 k4))
   exact⟨c2,S2,(hO1.pre.fr g2 g3).fr k2 k3,by rw [q2t _ _ h3,zb6];exact k1,ja ⟨rfl,rfl,rfl,qc1 pre x,trivial⟩⟩
  ·skip
   repeat' (first|apply qm|apply qx|apply qe|apply qg|apply qj|(apply qq;(iterate 3 exact rfl))|(apply qc;exact rfl;apply kz;exact cAo)|(apply qc;exact rfl;apply ku;exact cAo)|(apply zh;exact rfl;exact rfl;exact qz (by omega) (by omega))|(apply zg;(iterate 3 exact rfl))|(apply zx;(iterate 3 exact rfl))|apply qu|(apply kv;exact rfl;exact hob;exact rfl;exact rfl)|(apply qkg (st:=S);exact rfl;exact rfl)|(apply yo;exact rfl;exact rfl;(focus first|assumption|(repeat' (first|assumption|exact xp|exact jl rfl|apply kh|apply va|omega|apply qb0)));(iterate 6 exact rfl))|(apply zw (n:=pre.length);(iterate 5 exact rfl);exact hget))
   exact⟨c,_,hO1,by rw [q2u _ _ h3];exact hT1,ja ⟨rfl,rfl,rfl,qc1 pre x,trivial⟩⟩
end Go.Proofs.YtmoklbacdkmkaaaGreatDoor
namespace Go.Pl
open Go Go.Proofs Go.Proofs.YtmoklbacdkmkaaaGreatDoor
def GF (fs:List Fld):Prop:=fs.length≤40∧∀ f∈fs,jz f
structure PI (p:PSt):Prop where
 items:∀ x∈p.items,GF x.fields∧(x.kind=3↔x.fields≠[])
 fields:GF p.fields
 full:p.lines≠[]→p.full=false→p.fields.length<40
theorem qg4 {ls:List qa} (h:(zn ls).2=0):jz (zn ls).1:=by
 unfold zn at h ⊢
 split at h
 ·split at h
  ·simp at h
  ·rename_i h1 h2
   rw [if_pos h1,if_neg h2]
   exact⟨(qj5.1 h1.2.1).2.2,Nat.le_of_not_lt h2⟩
 ·simp at h
theorem pi0:PI p0:=⟨by simp [p0],⟨by simp [p0],by simp [p0]⟩,by simp [p0]⟩
theorem PI.flush {p:PSt} (h:PI p):PI (js p).2:=by
 unfold js
 split
 ·exact h
 ·rename_i hl
  split
  ·exact h
  ·rename_i hu
   split
   ·exact h
   ·rename_i hf
    have hlt:=h.full hl (by simpa using hf)
    refine⟨h.items,⟨by simp;omega,fun f hm=>?_⟩,by simp⟩
    rcases List.mem_append.1 hm with hm|hm
    ·exact h.fields.2 f hm
    ·simp at hm;subst hm;exact qg4 (by simpa using hu)
theorem PI.close {p:PSt} (h:PI p):PI (x9 p):=by
 unfold x9
 split
 ·exact⟨h.items,⟨by simp,by simp⟩,fun h1 h2=>by simp⟩
 ·refine⟨fun x hx=>?_,⟨by simp,by simp⟩,fun h1 h2=>by simp⟩
  rcases List.mem_append.1 hx with hx|hx
  ·exact h.items x hx
  ·simp at hx
   subst hx
   refine⟨h.fields,?_⟩
   simp only
   split
   ·rename_i h0;simp [h0]
   ·rename_i h0;simp [h0]
theorem PI.end' {p:PSt} (h:PI p):PI (endP p).2:=by
 unfold endP
 split
 ·exact h
 ·exact h.flush.close
theorem PI.lines' {p:PSt} (h:PI p) (hl:p.lines≠[]) (text:qa):PI { p with lines:=p.lines++[text] }:=⟨h.items,h.fields,fun _ hf=>h.full hl hf⟩
theorem PI.begin' {p:PSt} (h:PI p) (no:Int) (text:qa):PI (km p no text):=by
 refine⟨h.items,h.fields,fun _ hf=>?_⟩
 have:=h.fields.1
 simp only [km,decide_eq_false_iff_not,not_or] at hf ⊢
 omega
theorem PI.ahead {p:PSt} (h:PI p) (no:Int) (text:qa) (ended:Bool) (kind:Int):PI (jp p no text ended kind).2:=by
 unfold jp
 split
 ·split
  ·exact h
  ·rename_i hl
   split
   ·exact h.lines' hl text
   ·exact (h.lines' hl text).flush
 ·split
  ·exact h.end'
  ·exact h.flush
theorem PI.take {p:PSt} (h:PI p) (no:Int) (text:qa) (ended:Bool):PI (wm p no text ended).2:=by
 have ha:=h.ahead no text ended (qy text)
 unfold wm
 split
 ·exact h
 ·split
  ·exact h
  ·split
   ·refine⟨fun x hx=>?_,ha.fields,ha.full⟩
    rcases List.mem_append.1 hx with hx|hx
    ·exact ha.items x hx
    ·simp at hx;subst hx;exact⟨⟨by simp,by simp⟩,by simp⟩
   ·split
    ·have hb:=ha.begin' no text
     exact⟨hb.items,hb.fields,hb.full⟩
    ·exact⟨ha.items,ha.fields,ha.full⟩
theorem PI.run:∀ (ls:List (qa×Bool)) (k:Nat) (p:PSt),PI p→PI (runL k ls p).2
 | [],k,p,h=>h.end'
 |(t,e)::r,k,p,h=>by
  unfold runL
  split
  ·exact h
  ·exact PI.run r (k+1) _ (h.take k t e)
theorem qp7 (text:qa):∀ x∈(jt text).2,GF x.fields∧(x.kind=3↔x.fields≠[]):=by
 unfold jt
 split
 ·simp
 ·exact (PI.run _ 0 _ pi0).items
theorem qy1 (p:PSt):(x9 p).items.length≤p.items.length+1:=by
 unfold x9
 split <;> simp
theorem qiu (p:PSt):(js p).2.items=p.items:=by
 unfold js
 split
 ·rfl
 ·split
  ·rfl
  ·split <;> rfl
theorem qsg (p:PSt):(endP p).2.items.length≤p.items.length+1:=by
 unfold endP
 split
 ·simp
 ·have:=qy1 (js p).2
  rw [qiu] at this
  exact this
theorem qx9 (p:PSt) (no:Int) (text:qa) (ended:Bool) (kind:Int):(jp p no text ended kind).2.items.length≤p.items.length+1:=by
 unfold jp
 split
 ·split
  ·simp
  ·split
   ·simp
   ·rw [qiu];simp
 ·split
  ·exact qsg p
  ·rw [qiu];simp
theorem q3a (p:PSt) (no:Int) (text:qa) (ended:Bool):(wm p no text ended).2.items.length≤p.items.length+2:=by
 have ha:=qx9 p no text ended (qy text)
 unfold wm
 split
 ·simp
 ·split
  ·simp
  ·split
   ·simp;omega
   ·split
    ·simp [km];omega
    ·simp;omega
theorem qh9:∀ (ls:List (qa×Bool)) (k:Nat) (p:PSt),(runL k ls p).2.items.length≤p.items.length+2 * ls.length+1
 | [],k,p=>by have:=qsg p;simp [runL];omega
 |(t,e)::r,k,p=>by
  unfold runL
  split
  ·simp;omega
  ·have h1:=qh9 r (k+1) (wm p k t e).2
   have h2:=q3a p k t e
   simp only [List.length_cons]
   omega
theorem q85 (text:qa):(jt text).2.length≤2 * text.length+1:=by
 unfold jt
 split
 ·simp
 ·have h1:=qh9 (zq text) 0 p0
  have h2:=(qe9 _ text (Nat.le_refl _)).2
  have h3:p0.items.length=0:=rfl
  simp only
  omega
theorem q5i (by' l:qa):(vg by' l).1.length≤l.length:=by
 unfold vg
 split
 ·have h:=(qe9 _ l (Nat.le_refl _)).1
  have key:∀ (ls:List (qa×Bool)),(ls.flatMap fun x=>x.1.drop by'.length++w8 x.2).length≤lsum ls:=by
   intro ls
   induction ls with
   |nil=>simp [lsum]
   |cons x r ih=>
    simp only [lsum,List.flatMap_cons,List.length_append,List.map_cons,List.sum_cons,List.length_drop] at ih ⊢
    omega
  have:=key (zq l)
  simp only
  omega
 ·simp
end Go.Pl
namespace Go.Proofs.YtmoklbacdkmkaaaGreatDoor
open Go Go.Av Go.RowKit Go.Proofs Go.Pl
theorem qmr (text:qa) (st:List AObj) (hl:text.length≤60000) (h:(jt text).1=none):qo E 58 [Sv text] st fun r st'=>r = .tu [xi (jt text).2,.v .nilIface]∧st'=st:=by
 have:=qrc text st hl
 unfold qdl at this
 rw [h] at this
 exact this
theorem q28 (text:qa) (st:List AObj) (a n:Int) (hl:text.length≤60000) (h:(jt text).1=some (a,n)):qo E 58 [Sv text] st fun r st'=>r = .tu [xi (jt text).2,.ifc 101 (.pp [Iv a,.ifc 76 (Iv n)])]∧st'=st:=by
 have:=qrc text st hl
 unfold qdl at this
 rw [h] at this
 exact this
def qdd (text:qa):List Fld×Bool:=
 if (vg [32,32] text).2=false∨(jt (vg [32,32] text).1).1≠none then ([],false)
 else match recsF (jt (vg [32,32] text).1).2 with
  | []=>([],decide ((vg [32,32] text).1=[]))
  |f::_=>(f,decide ((jt (vg [32,32] text).1).2.length=1))
theorem zhr {a b:List Fld} {c d:Bool} (h1:a=b) (h2:c=d):AV.tu [jq a,Bv c]=AV.tu [jq b,Bv d]:=by rw [h1,h2]
theorem q6g {its:List jj} (h:∀ x∈its,GF x.fields∧(x.kind=3↔x.fields≠[])):∀ fs∈recsF its,GF fs∧fs≠[]:=fun fs hfs=>by
 obtain⟨x,hx,rfl⟩:=List.mem_map.1 hfs
 obtain⟨hx1,hx2⟩:=List.mem_filter.1 hx
 have:=h x hx1
 exact⟨this.1,this.2.1 (by simpa using hx2)⟩
set_option maxHeartbeats 2000000 in
theorem zbp (text:qa) (st:List AObj) (hl:text.length≤60000):qo E 177 [Sv text] st fun r st'=>r = .tu [jq (qdd text).1,Bv (qdd text).2]∧st'=st:=by
 refine qv (kf (qbk _) (qr _)) (qp Tryz.func177 rfl (Nat.le_of_ble_eq_true rfl) ?_)
 have hdl:=q5i [32,32] text
 have hpl:=q85 (vg [32,32] text).1
 have hit:=qp7 (vg [32,32] text).1
 unfold qdd
 obtain⟨d,hd⟩:∃ d,d=vg [32,32] text:=⟨_,rfl⟩
 have hdc:∀ st,qo E 221 [Sv text,Sv [32,32]] st fun r st'=>r = .tu [Sv d.1,Bv d.2]∧st'=st:=fun st=>by rw [hd];exact qy5 text [32,32] st (by omega)
 rw [← hd] at hdl hpl hit ⊢
 obtain⟨b,ok⟩:=d
 simp only at hdl hpl hit hdc ⊢
 cases hp:(jt b).1 with
 |some e=>
  obtain⟨a,n⟩:=e
  rw [if_pos (.inr (by simp))]
  cases ok
  all_goals
   repeat' (first|apply qm|apply qe|apply qg|apply qj|apply qf|(apply zf;exact rfl;exact rfl)|(apply z6;exact rfl)|(apply qw;(iterate 4 exact rfl))|(apply qaq;exact cRa)|(apply qbl;exact cRa)|(apply qk;exact rfl;apply qh5;exact cRa)|(apply qk;exact rfl;apply qfz;exact cRa)|(apply qc;exact rfl;apply cd_t;exact cRa)|(apply wn;exact rfl;exact rfl)|apply qt|(apply qi;exact Tryz.call221;exact hdc _)|(apply qi;exact Tryz.call58;exact q28 _ _ _ _ (by omega) hp))
   exact qn rfl (wr (kc rfl) (qe0 (qf4 2) (qbv (Bv false)))) ⟨rfl,_,rfl⟩
 |none=>
  cases ok
  ·rw [if_pos (.inl rfl)]
   repeat' (first|apply qm|apply qe|apply qg|apply qj|apply qf|(apply zf;exact rfl;exact rfl)|(apply z6;exact rfl)|(apply qw;(iterate 4 exact rfl))|(apply qbl;exact cRa)|(apply qk;exact rfl;apply qh5;exact cRa)|(apply qc;exact rfl;apply cd_t;exact cRa)|apply qt|(apply qi;exact Tryz.call221;exact hdc _)|(apply qi;exact Tryz.call58;exact qmr _ _ (by omega) hp))
   exact qn rfl (wr (kc rfl) (qe0 (qf4 2) (qbv (Bv false)))) ⟨rfl,_,rfl⟩
  ·rw [if_neg (by simp)]
   have hsc:=fun st=>q92 (jt b).2 st (by omega) (fun x hx=>by have:=(hit x hx).1.1;omega)
   have hml:((jt b).2.map wg).length=(jt b).2.length:=by simp
   cases hr:recsF (jt b).2 with
   |nil=>
    rw [hr] at hsc
    repeat' (first|apply qm|apply qe|apply qg|apply qj|apply qf|(apply zf;exact rfl;exact rfl)|(apply qq;(iterate 3 exact rfl))|(apply jh;(iterate 3 exact rfl))|(apply z6;exact rfl)|(apply qw;(iterate 4 exact rfl))|(apply qaq;exact cRa)|(apply qk;exact rfl;apply qfz;exact cRa)|(apply qc;exact rfl;apply cd_t;exact cRa)|(apply qc;exact rfl;apply cd_f;exact cRa)|(apply zy;(iterate 4 exact rfl))|(apply vl;exact rfl;exact rfl)|apply qu|apply qt|(apply qi;exact Tryz.call221;exact hdc _)|(apply qi;exact Tryz.call58;exact qmr _ _ (by omega) hp)|(apply qi;exact Tryz.call222;exact hsc _))
    exact qn rfl (wr (kc rfl) (qe0 (qf4 2) (qbv (Bv (decide (b=[])))))) ⟨rfl,_,rfl⟩
   |cons f r=>
    rw [hr] at hsc
    have hrl:((f::r).map jq).length=r.length+1:=by simp
    repeat' (first|apply qm|apply qe|apply qg|apply qj|apply qf|(apply zf;exact rfl;exact rfl)|(apply qq;(iterate 3 exact rfl))|(apply z6;exact rfl)|(apply qw;(iterate 4 exact rfl))|(apply qaq;exact cRa)|(apply qk;exact rfl;apply qfz;exact cRa)|(apply qc;exact rfl;apply ku;exact cAo)|(apply qc;exact rfl;apply cd_f;exact cRa)|(apply zy;(iterate 4 exact rfl))|(apply vl;exact rfl;exact rfl)|(apply zx;(iterate 3 exact rfl))|apply qu|apply qt|(apply qi;exact Tryz.call221;exact hdc _)|(apply qi;exact Tryz.call58;exact qmr _ _ (by omega) hp)|(apply qi;exact Tryz.call222;exact hsc _)|(apply zw (n:=0);(iterate 6 exact rfl)))
    refine qn rfl (kc rfl) ⟨zhr rfl (decide_eq_decide.2 ?_),_,rfl⟩
    rw [hml]
    omega
def yb (text:qa):List LnV→Nat→List qa
 | [],frm=>[text.drop frm]
 |l::r,frm=>if frm<l.at'∧¬ [32,32] <+: l.text then (text.take l.at').drop frm::yb text r l.at' else yb text r frm
def qej (text:qa):List qa:=yb text (lns text) 0
theorem q8h (l m:qa) (st:List AObj) (h:m <+: l):qo E 164 [Sv l,Sv m] st fun r st'=>r=Bv true∧st'=st:=by
 have:=qeh l m st
 rw [(x2 l m).2 h] at this
 exact this
theorem q8g (l m:qa) (st:List AObj) (h:¬ m <+: l):qo E 164 [Sv l,Sv m] st fun r st'=>r=Bv false∧st'=st:=by
 have:=qeh l m st
 have hf:Lib.hasPrefix l m=false:=by
  cases hb:Lib.hasPrefix l m with
  |false=>rfl
  |true=>exact absurd ((x2 l m).1 hb) h
 rw [hf] at this
 exact this
theorem zfc (text:qa) (st:List AObj) (hl:text.length<1000000):qo E 175 [Sv text] st fun r st'=>r=Ss (qej text)∧st'=st:=by
 refine zm [.s text] (qk9 _) Tryz.func175 rfl rfl (fun _=>rfl) rfl fun S0=>?_
 apply qd []
 repeat' (first|apply And.intro|(intro h;try exact cDd)|exact⟨Tryz.call100⟩|(refine Exists.intro _ ⟨qms _,?_⟩)|exact cSd|apply qb []|refine exr ?_|refine qh ?_)
 refine qgl (X:=List qa×Nat) text 2 3 [0,1,2] (fun (out,frm)=>⟨[(1,.a (.pp [Sv text])),(3,.bx 0 0),(4,.bx 1 0),(7,.fn (.func 163) [] [.bx 2 0])],
   [(0,some (.cells 85 [.tp 3])),(1,some (.cells 3 [.i frm])),(2,some (.cells 9 [.s text])),(3,some (.tip 1 9 (out.map fun x=>Sv x)))],4⟩) _
  (fun k rest (out,frm)=>∃ a,a+rest.length=text.length∧frm≤a∧out.length≤k∧k≤a∧out++yb text (vd k a rest) frm=qej text) (fun _ _=>False) ([],0) ⟨0,by simp,by omega,by simp,by omega,rfl⟩ ?_ id (by omega) (fun _=>rfl) rfl (fun _=>rfl) (fun _=>rfl) rfl ?_ ?_ (fun _ _ h=>h.elim)
 ·skip
  repeat' (first|apply And.intro|(intro h;try exact cDd)|exact cSd|apply qb []|refine exr ?_|refine qh ?_)
 ·rintro k rest ⟨out,frm⟩ ⟨a,ha,hfa,hok,hka,hrun⟩ hne hle
  have hcons:=qak (k:=k) (a:=a) hne
  have hul:=ko 10 rest
  have hr0:0<rest.length:=List.length_pos_iff.2 hne
  have hpl:=kp 10 rest
  have hpa:a+(upto 10 rest).length+1+(past 10 rest).length=text.length∨past 10 rest=[]:=by
   by_cases h10:10∈rest
   ·have:=qd7 h10
    exact .inl (by omega)
   ·right
    unfold past
    rw [ww h10]
    simp
  have hpast:∀ f,yb text (vd (k+1) (a+(upto 10 rest).length+1) (past 10 rest)) f=yb text (vd (k+1) (text.length - (past 10 rest).length) (past 10 rest)) f:=fun f=>by
   rcases hpa with h|h
   ·have:a+(upto 10 rest).length+1=text.length - (past 10 rest).length:=by omega
    rw [this]
   ·rw [h,qaj,qaj]
  have e:(text.length:Int) - rest.length=(a:Int):=by omega
  rw [hcons,yb] at hrun
  unfold qma
  rw [e]
  by_cases hp:[32,32] <+: upto 10 rest
  ·have hhp:=fun st=>q8h (upto 10 rest) [32,32] st hp
   rw [if_neg (fun h=>h.2 hp),hpast] at hrun
   refine RA.mk fun S F ρ rd=>?_
   apply qd []
   repeat' (first|apply And.intro|(intro h;try exact cDd)|(refine RB.mk fun S rd=>?_;apply qd [])|exact⟨Tryz.call164⟩|refine cpe hhp ?_|(refine Exists.intro (out,frm) ⟨⟨text.length - (past 10 rest).length,by omega,by omega,by omega,by omega,hrun⟩,?_⟩)|exact cSd|apply qb []|refine exr ?_|refine qh ?_)
  ·have hhp:=fun st=>q8g (upto 10 rest) [32,32] st hp
   by_cases hfr:frm<a
   ·rw [if_pos ⟨hfr,hp⟩,hpast] at hrun
    refine RA.mk fun S F ρ rd=>?_
    apply qd []
    repeat' (first|apply And.intro|(intro h;try exact cDd)|(refine RB.mk fun S rd=>?_;apply qd [25])|exact⟨Tryz.call164⟩|refine cpe hhp ?_|(refine Exists.intro (out++[(text.take a).drop frm],a) ⟨⟨text.length - (past 10 rest).length,by omega,by omega,by simp;omega,by omega,by rw [← hrun];simp⟩,?_⟩)|exact cSd|apply qb [25]|refine exr ?_|refine qh ?_)
    all_goals first|(simp [SV.evs];omega)|(simp [SV.evs,SV.ev];done)
   ·rw [if_neg (fun h=>hfr h.1),hpast] at hrun
    refine RA.mk fun S F ρ rd=>?_
    apply qd []
    repeat' (first|apply And.intro|(intro h;try exact cDd)|(refine RB.mk fun S rd=>?_;apply qd [])|exact⟨Tryz.call164⟩|refine cpe hhp ?_|(refine Exists.intro (out,frm) ⟨⟨text.length - (past 10 rest).length,by omega,by omega,by omega,by omega,hrun⟩,?_⟩)|exact cSd|apply qb []|refine exr ?_|refine qh ?_)
 ·rintro k ⟨out,frm⟩ ⟨a,ha,hfa,hok,hka,hrun⟩
  rw [qaj,yb] at hrun
  repeat' (first|apply And.intro|(intro h;try exact cDd)|exact cSd|apply qb []|refine exr ?_|refine qh ?_)
  rw [← hrun]
  simp
def decP:List qa→List qs→Option (List qs)
 | [],acc=>some acc
 |p::r,acc=>match begE (upto 10 p) with
  |none=>none
  |some (k,n)=>if (qdd (past 10 p)).2=true∧acc.length≠40 then decP r (acc++[⟨k,n,(qdd (past 10 p)).1⟩]) else none
def decF (text:qa):Option (List qs):=if 50000<text.length then none else match decP (qej text) [] with
 |none=>none
 |some b=>if eErr b = .no∧encF b=text then some b else none
def decA:Option (List qs)→AV
 |none=>.tu [jf [],.ifc 76 (Iv 2)]
 |some b=>.tu [jf b,.v .nilIface]
theorem q7x (x:Option (List qs)):Pure (decA x):=by
 rcases x with _|b
 ·exact kf (qef _) (qcs (qr _))
 ·exact kf (qef _) (qr _)
theorem qj8 (text:qa):∀ (ls:List LnV) (f:Nat),(∀ p∈yb text ls f,p.length≤text.length)∧(yb text ls f).length≤ls.length+1
 | [],f=>by simp [yb]
 |l::r,f=>by
  unfold yb
  split
  ·obtain⟨h1,h2⟩:=qj8 text r l.at'
   refine⟨fun p hp=>?_,by simp;omega⟩
   rcases List.mem_cons.1 hp with rfl|hp
   ·simp;omega
   ·exact h1 p hp
  ·obtain⟨h1,h2⟩:=qj8 text r f
   exact⟨h1,by simp;omega⟩
theorem que {l:qa} {k n:Int} (h:begE l=some (k,n)) : -9223372036854775808≤n∧n≤9223372036854775807:=by
 have key:∀ {j:Int} {n:Int},tryB j l=some n→-9223372036854775808≤n∧n≤9223372036854775807:=fun {j n} h=>by
  unfold tryB at h
  split at h
  ·split at h
   ·rename_i v hv
    cases h
    exact Lib.atoiAll_bounds hv
   ·simp at h
  ·simp at h
 unfold begE at h
 split at h
 ·rename_i v hv;simp at h;rw [← h.2];exact key hv
 ·split at h
  ·rename_i v hv;simp at h;rw [← h.2];exact key hv
  ·split at h
   ·rename_i v hv;simp at h;rw [← h.2];exact key hv
   ·simp at h
theorem qpx (text:qa):GF (qdd text).1:=by
 unfold qdd
 split
 ·exact⟨by simp,by simp⟩
 ·split
  ·exact⟨by simp,by simp⟩
  ·rename_i f r hr
   exact (q6g (qp7 _) f (by rw [hr];simp)).1
theorem q74 {k n:Int} {fs:List Fld} (h1 : -9223372036854775808≤n) (h2:n≤9223372036854775807) (hg:GF fs):EdB ⟨k,n,fs⟩:=
 ⟨fun f hf=>by have:=(hg.2 f hf).1.2.1;omega,by have:=hg.1;simp only;omega,h1,h2⟩
set_option maxHeartbeats 4000000 in
theorem zbc (text:qa) (st:List AObj) (hl:text.length<1000000):qo E 105 [Sv text] st fun r st'=>r=decA (decF text)∧st'=st:=by
 refine zm [.s text] (q7x _) Tryz.func105 rfl rfl (fun _=>rfl) rfl fun S0=>?_
 by_cases hbig:50000<text.length
 ·have hd:decF text=none:=if_pos hbig
  rw [hd]
  apply qd []
  repeat' (first|apply And.intro|(intro h;try exact cDd)|exact cSd|apply qb []|refine exr ?_|refine qh ?_)
 have hdf:decF text=match decP (qej text) [] with
  |none=>none
  |some b=>if eErr b = .no∧encF b=text then some b else none:=if_neg hbig
 have hpl:=(qj8 text (lns text) 0).1
 have hpn:=(qj8 text (lns text) 0).2
 have hln:=qch _ text 0 0 (Nat.le_refl _)
 have hpe:yb text (lns text) 0=qej text:=rfl
 have hle:(lns text).length≤text.length:=hln
 rw [hpe] at hpl hpn
 have hml:((qej text).map fun x=>Sv x).length=(qej text).length:=by simp
 have hpc:=fun st=>zfc text st hl
 generalize qej text=L at hdf hpl hpn hml hpc
 apply qd []
 repeat' (first|apply And.intro|(intro h;try exact cDd)|exact⟨Tryz.call175⟩|refine cpe hpc ?_|exact cSd|apply qb []|refine exr ?_|refine qh ?_)
 refine ji (X:=Nat×List qs) (fun (k,acc)=>⟨[(0,.s text),(4,.tp 0),(21,.a (Ss L)),(22,.i L.length),(23,.i k)],[(0,some (.tip 3 97 (acc.map jb)))],1⟩)
  (fun (k,acc)=>k≤L.length∧acc.length≤k∧(∀ x∈acc,EdB x)∧decP (L.drop k) acc=decP L []) (fun x=>L.length - x.1) (0,[]) ⟨by omega,by simp,by simp,rfl⟩ ?_ ?_
 ·skip
  repeat' (first|apply And.intro|(intro h;try exact cDd)|exact cSd|apply qb []|refine exr ?_|refine qh ?_)
  all_goals first|(simp;done)
 ·rintro⟨j,acc⟩ ⟨hj,hal,hB,hrun⟩
  have hma:(acc.map jb).length=acc.length:=by simp
  by_cases hc:j<L.length
  ·obtain⟨p,hx⟩:∃ p,L[j]? = some p:=⟨_,List.getElem?_eq_getElem hc⟩
   have hg:(L.map fun x=>Sv x)[j]? = some (Sv p):=by simp [hx]
   have hd:L.drop j=p::L.drop (j+1):=by
    obtain⟨hlt,e⟩:=List.getElem?_eq_some_iff.1 hx
    rw [List.drop_eq_getElem_cons hlt,e]
   have hpp:=hpl p (List.mem_of_getElem? hx)
   have hul:=ko 10 p
   have hpal:=kp 10 p
   have hcu:=fun st=>qir p 10 st (by omega)
   have hbc:=fun st=>zd6 (upto 10 p) st (by omega)
   have hgf:=qpx (past 10 p)
   have hfc:=fun st=>zbp (past 10 p) st (by omega)
   rw [hd,decP] at hrun
   cases hbe:begE (upto 10 p) with
   |none=>
    rw [hbe] at hrun hbc
    simp only at hrun
    rw [← hrun] at hdf
    simp only at hdf
    rw [hdf]
    apply qd []
    repeat' (first|apply And.intro|(intro h;try exact cDd)|(refine Exists.intro (j) ⟨by omega,_,hg,?_⟩)|exact⟨Tryz.call96⟩|refine cpe hcu ?_|exact⟨Tryz.call176⟩|refine cpe hbc ?_|exact⟨Tryz.call177⟩|refine cpe hfc ?_|exact cSd|apply qb []|refine exr ?_|refine qh ?_)
   |some kn=>
    obtain⟨kd,n⟩:=kn
    have hid:=que hbe
    rw [hbe] at hrun hbc
    simp only at hrun
    obtain⟨fs,hfs⟩:∃ x,x=(qdd (past 10 p)).1:=⟨_,rfl⟩
    rw [← hfs] at hrun hfc hgf
    cases hok:(qdd (past 10 p)).2 with
    |false=>
     rw [hok] at hrun hfc
     rw [if_neg (by simp)] at hrun
     rw [← hrun] at hdf
     simp only at hdf
     rw [hdf]
     apply qd []
     repeat' (first|apply And.intro|(intro h;try exact cDd)|(refine Exists.intro (j) ⟨by omega,_,hg,?_⟩)|exact⟨Tryz.call96⟩|refine cpe hcu ?_|exact⟨Tryz.call176⟩|refine cpe hbc ?_|exact⟨Tryz.call177⟩|refine cpe hfc ?_|exact cSd|apply qb []|refine exr ?_|refine qh ?_)
    |true=>
     rw [hok] at hrun hfc
     by_cases h40:acc.length=40
     ·rw [if_neg (by simp [h40])] at hrun
      rw [← hrun] at hdf
      simp only at hdf
      rw [hdf]
      apply qd []
      repeat' (first|apply And.intro|(intro h;try exact cDd)|(refine Exists.intro (j) ⟨by omega,_,hg,?_⟩)|exact⟨Tryz.call96⟩|refine cpe hcu ?_|exact⟨Tryz.call176⟩|refine cpe hbc ?_|exact⟨Tryz.call177⟩|refine cpe hfc ?_|exact cSd|apply qb []|refine exr ?_|refine qh ?_)
     ·rw [if_pos ⟨rfl,h40⟩] at hrun
      have hB2:∀ x∈acc++[⟨kd,n,fs⟩],EdB x:=fun x hx=>by
       rcases List.mem_append.1 hx with hx|hx
       ·exact hB x hx
       ·obtain rfl:=List.mem_singleton.1 hx
        exact q74 hid.1 hid.2 hgf
      apply qd []
      repeat' (first|apply And.intro|(intro h;try exact cDd)|(refine Exists.intro (j) ⟨by omega,_,hg,?_⟩)|exact⟨Tryz.call96⟩|refine cpe hcu ?_|exact⟨Tryz.call176⟩|refine cpe hbc ?_|exact⟨Tryz.call177⟩|refine cpe hfc ?_|(refine Exists.intro (j+1,acc++[⟨kd,n,fs⟩]) ⟨⟨by omega,by simp;omega,hB2,hrun⟩,by simp only;omega,?_⟩)|exact cSd|apply qb []|refine exr ?_|refine qh ?_)
      all_goals (simp;done)
  ·have hd:L.drop j=[]:=List.drop_eq_nil_of_le (by omega)
   rw [hd,decP] at hrun
   rw [← hrun] at hdf
   simp only at hdf
   cases he:eErr acc with
   |no=>
    have hen:=fun st=>qv7 acc st hB he
    by_cases ht:encF acc=text
    ·rw [if_pos ⟨he,ht⟩] at hdf
     rw [hdf]
     rw [ht] at hen
     apply qd []
     repeat' (first|apply And.intro|(intro h;try exact cDd)|exact⟨Tryz.call75⟩|refine cpe hen ?_|exact cSd|apply qb []|refine exr ?_|refine qh ?_)
    ·rw [if_neg fun h=>ht h.2] at hdf
     rw [hdf]
     apply qd []
     repeat' (first|apply And.intro|(intro h;try exact cDd)|exact⟨Tryz.call75⟩|refine cpe hen ?_|exact cSd|apply qb []|refine exr ?_|refine qh ?_)
     all_goals exact absurd ht (by assumption)
   |num n=>
    have hen:=fun st=>qjw acc st (.num n) hB (by omega) he fun h=>by
     have:=(qdb acc).1 (by rw [he];exact h)
     rw [he] at this
     simp at this
    rw [if_neg fun h=>by rw [he] at h;simp at h] at hdf
    rw [hdf]
    apply qd []
    repeat' (first|apply And.intro|(intro h;try exact cDd)|exact⟨Tryz.call75⟩|refine cpe hen ?_|exact cSd|apply qb []|refine exr ?_|refine qh ?_)
   |at' a n=>
    have hen:=fun st=>qjw acc st (.at' a n) hB (by omega) he fun h=>by
     have:=(qdb acc).1 (by rw [he];exact h)
     rw [he] at this
     simp at this
    rw [if_neg fun h=>by rw [he] at h;simp at h] at hdf
    rw [hdf]
    apply qd []
    repeat' (first|apply And.intro|(intro h;try exact cDd)|exact⟨Tryz.call75⟩|refine cpe hen ?_|exact cSd|apply qb []|refine exr ?_|refine qh ?_)
theorem qun:qxs E:=fun _ _ _ h hb hB _ h2=>h _ (hb.trans (h2.mono hB))
theorem qbt {α : Type} [DecidableEq α] {a b:List α} {k:Nat} {d : α} (hl:a.length=b.length) (hk:k<a.length) (h:a.take k=b.take k) (h2:a.getD k d=b.getD k d):a.take (k+1)=b.take (k+1):=by
 rw [List.take_succ_eq_append_getElem hk,List.take_succ_eq_append_getElem (by omega),h]
 congr 2
 simpa [List.getD,hk,show k<b.length by omega] using h2
end Go.Proofs.YtmoklbacdkmkaaaGreatDoor
namespace Go.Pl
open Go Go.Proofs Go.Proofs.YtmoklbacdkmkaaaGreatDoor
theorem qab (s:qa) (r:List qa):zj (s::r)=s++10::zj r:=by simp [zj]
theorem qb7:∀ (ls:List qa),(∀ s∈ls,10∉s)→zq (zj ls)=ls.map fun s=>(s,true)
 | [],_=>by simp [zj,vt]
 |s::r,h=>by
  have hs:=h s (by simp)
  rw [qab,wp (by simp),vu _ hs,xk _ hs,qb7 r fun x hx=>h x (by simp [hx])]
  simp
theorem q2m {f:Fld} (h:jz f):∀ s∈zt f,10∉s:=fun s hs=>by
 unfold zt at hs
 rcases List.mem_cons.1 hs with rfl|hs
 ·have h1:=qdz f.2 _ (qqv f.2)
  have h2:=h.1.2.2.2.2.2
  unfold jm
  split <;> simp_all
 ·obtain⟨x,hx,rfl⟩:=List.mem_map.1 hs
  have h1:=qdz f.2 x (List.mem_of_mem_tail hx)
  have:=qtw h1
  simp [this]
theorem qn9 {f:Fld} (h:jz f):∃ hd mr,zt f=hd::mr∧qy hd=4∧∀ s∈mr,qy s=3:=by
 refine⟨_,_,rfl,qwg h.1 (qdz f.2 _ (qqv f.2)),fun s hs=>?_⟩
 obtain⟨x,hx,rfl⟩:=List.mem_map.1 hs
 exact qwh x (qdz f.2 x (List.mem_of_mem_tail hx))
theorem q99 {p:PSt} {k:Int} {t:qa} (ht:qy t=3) (hl:p.lines≠[]):wm p k t true=(none,{ p with lines:=p.lines++[t],block:=p.block++[t] }):=by
 have ha:jp p k t true (qy t)=(none,{ p with lines:=p.lines++[t] }):=by
  unfold jp
  rw [if_pos ht,if_neg hl,if_pos rfl]
 unfold wm
 rw [ha,ht]
 simp
theorem qw5 {p q:PSt} {k:Int} {t:qa} (ht:qy t=4) (hf:js p=(none,q)):wm p k t true=(none,{ km q k t with block:=q.block++[t] }):=by
 have ha:jp p k t true (qy t)=(none,q):=by
  unfold jp
  rw [if_neg (by omega),if_neg (by omega)]
  exact hf
 unfold wm
 rw [ha,ht]
 simp
theorem qra:∀ (m:List qa) (k:Nat) (p:PSt) (ls:List (qa×Bool)),(∀ s∈m,qy s=3)→p.lines≠[] →
  runL k (m.map (fun s=>(s,true))++ls) p=runL (k+m.length) ls { p with lines:=p.lines++m,block:=p.block++m }
 | [],k,p,ls,_,_=>by simp
 |s::m,k,p,ls,h,hl=>by
  have hs:=h s (by simp)
  rw [List.map_cons,List.cons_append,runL,q99 hs hl]
  simp only
  rw [qra m (k+1) _ ls (fun x hx=>h x (by simp [hx])) (by simp)]
  simp only [List.append_assoc,List.cons_append,List.nil_append,List.length_cons]
  congr 1
  omega
theorem qsm {g:Fld} (hg:jz g) (frm:Int) (its:List jj) (blk:List qa) (done:List Fld) (rc:Int):js ⟨zt g,frm,false,its,blk,done,rc⟩=(none,⟨[],frm,false,its,blk,done++[g],rc⟩):=by
 have hu:=qm6 hg
 unfold js
 rw [if_neg (by simp [zt]),hu]
 simp
theorem q1d:∀ (r:List Fld) (done:List Fld) (g:Fld) (k:Nat) (frm:Int) (blk:List qa),jz g→(∀ f∈r,jz f)→done.length+1+r.length≤40→blk≠[] →
  (runL k ((r.flatMap zt).map fun s=>(s,true)) ⟨zt g,frm,false,[],blk,done,0⟩).1=none∧(runL k ((r.flatMap zt).map fun s=>(s,true)) ⟨zt g,frm,false,[],blk,done,0⟩).2.items=[⟨3,zj (blk++r.flatMap zt),done++g::r⟩]
 | [],done,g,k,frm,blk,hg,_,_,hb=>by
  have he:endP ⟨zt g,frm,false,[],blk,done,0⟩=(none,x9 ⟨[],frm,false,[],blk,done++[g],0⟩):=by
   unfold endP
   rw [qsm hg]
  simp only [List.flatMap_nil,List.map_nil,runL,he,List.append_nil]
  refine⟨trivial,?_⟩
  unfold x9
  rw [if_neg hb]
  simp
 |f::r,done,g,k,frm,blk,hg,hr,hl,hb=>by
  have hf:=hr f (by simp)
  obtain⟨hd,mr,hlf,hk4,hk3⟩:=qn9 hf
  simp only [List.length_cons] at hl
  have hrun:runL k (((f::r).flatMap zt).map fun s=>(s,true)) ⟨zt g,frm,false,[],blk,done,0⟩=runL (k+1+mr.length) ((r.flatMap zt).map fun s=>(s,true)) ⟨zt f,k,false,[],blk++zt f,done++[g],0⟩:=by
   rw [List.flatMap_cons,List.map_append,hlf,List.map_cons,List.cons_append,runL,qw5 hk4 (qsm hg frm [] blk done 0)]
   simp only
   rw [qra mr (k+1) _ _ hk3 (by simp [km])]
   have hfu:decide ((done++[g]).length=40∨((done++[g]).length=0∧(0:Int)=400))=false:=by
    simp
    omega
   simp only [km,hfu,List.append_assoc,List.cons_append,List.nil_append]
  rw [hrun]
  have ih:=q1d r (done++[g]) f (k+1+mr.length) k (blk++zt f) hf (fun x hx=>hr x (by simp [hx])) (by simp;omega) (by simp [hb])
  rw [ih.1,ih.2]
  simp [List.flatMap_cons]
theorem qhy (fs:List Fld):zo fs=zj (fs.flatMap zt):=by
 induction fs with
 |nil=>rfl
 |cons f r ih=>
  rw [List.flatMap_cons,yc,← ih]
  simp [zo]
theorem qjy {fs:List Fld} (h:∀ f∈fs,jz f):∀ s∈fs.flatMap zt,10∉s:=fun s hs=>by
 obtain⟨f,hf,hs⟩:=List.mem_flatMap.1 hs
 exact q2m (h f hf) s hs
theorem q59 {fs:List Fld} (hg:GF fs) (hne:fs≠[]):jt (zo fs)=(none,[⟨3,zo fs,fs⟩]):=by
 have hl:=qb7 _ (qjy hg.2)
 rw [← qhy] at hl
 cases fs with
 |nil=>exact absurd rfl hne
 |cons f r=>
  have hf:=hg.2 f (by simp)
  obtain⟨hd,mr,hlf,hk4,hk3⟩:=qn9 hf
  have hlen:=hg.1
  simp only [List.length_cons] at hlen
  have hrun:runL 0 (((f::r).flatMap zt).map fun s=>(s,true)) p0=runL (0+1+mr.length) ((r.flatMap zt).map fun s=>(s,true)) ⟨zt f,(0:Nat),false,[],zt f,[],0⟩:=by
   have hfl:js p0=(none,p0):=rfl
   rw [List.flatMap_cons,List.map_append,hlf,List.map_cons,List.cons_append,runL,qw5 hk4 hfl]
   simp only
   rw [qra mr (0+1) _ _ hk3 (by simp [km])]
   simp [km,p0]
  have ih:=q1d r [] f (0+1+mr.length) (0:Nat) (zt f) hf (fun x hx=>hg.2 x (by simp [hx])) (by simp;omega) (by simp [zt])
  unfold jt
  rw [hl,hrun,ih.1]
  simp only
  rw [ih.2]
  rw [qhy,List.flatMap_cons,List.nil_append]
theorem q86:jt []=(none,[]):=by
 unfold jt
 rw [vt]
 rfl
theorem qp3 {ls:List qa} (h:∀ s∈ls,10∉s):y3 [32,32] (zj ls)=zj (ls.map fun s=>[32,32]++s):=by
 unfold y3 indF
 rw [qb7 ls h]
 simp only [zj,List.flatMap_map,w8,if_pos]
theorem qzt {ls:List qa} (h:∀ s∈ls,10∉s):∀ s∈ls.map (fun s=>[32,32]++s),10∉s:=fun s hs=>by
 obtain⟨x,hx,rfl⟩:=List.mem_map.1 hs
 have:=h x hx
 simp [this]
theorem qxh {ls:List qa} (h:∀ s∈ls,10∉s):vg [32,32] (y3 [32,32] (zj ls))=(zj ls,true):=by
 rw [qp3 h]
 unfold vg
 rw [qb7 _ (qzt h),if_pos]
 ·simp [zj,List.flatMap_map,w8]
 ·intro x hx
  obtain⟨s,hs,rfl⟩:=List.mem_map.1 hx
  obtain⟨y,_,rfl⟩:=List.mem_map.1 hs
  exact List.prefix_append _ _
theorem qxj {fs:List Fld} (hl:fs.length≤40) (hg:∀ f∈fs,jz f):qdd (y3 [32,32] (zo fs))=(fs,true):=by
 have hd:vg [32,32] (y3 [32,32] (zo fs))=(zo fs,true):=by
  rw [qhy]
  exact qxh (qjy hg)
 unfold qdd
 rw [hd]
 simp only
 by_cases h0:fs=[]
 ·subst h0
  have hp:jt (zo [])=(none,[]):=q86
  rw [hp]
  simp [recsF,zo]
 ·rw [q59 ⟨hl,hg⟩ h0]
  simp [recsF]
theorem qst {j k:Int} {s:qa} (hj:j=1∨j=2∨j=3) (hk:k=1∨k=2∨k=3) (hne:j≠k):¬ yj j <+: yj k++s:=by
 rintro⟨t,ht⟩
 have h2:=congrArg (List.take 2) ht
 rcases hj with rfl|rfl|rfl <;> rcases hk with rfl|rfl|rfl <;> first|exact absurd rfl hne|(revert h2;simp [yj])
theorem q7k {x:qs} (hk:x.kind=1∨x.kind=2∨x.kind=3) (h1 : -9223372036854775808≤x.id) (h2:x.id≤9223372036854775807):begE (j9 x)=some (x.kind,x.id):=by
 have hl:j9 x=yj x.kind++Lib.itoa x.id:=by
  unfold j9
  rw [if_pos (by omega)]
 have hself:tryB x.kind (j9 x)=some x.id:=by
  unfold tryB
  rw [hl,if_pos (List.prefix_append _ _),List.drop_left,qlq h1 h2]
 have hoth:∀ j:Int,(j=1∨j=2∨j=3)→j≠x.kind→tryB j (j9 x)=none:=fun j hj hne=>by
  unfold tryB
  rw [hl,if_neg (qst hj hk hne)]
 unfold begE
 rcases hk with h|h|h
 ·rw [h] at hself hoth ⊢
  rw [hself]
 ·rw [h] at hself hoth ⊢
  rw [hoth 1 (by simp) (by decide),hself]
 ·rw [h] at hself hoth ⊢
  rw [hoth 1 (by simp) (by decide),hoth 2 (by simp) (by decide),hself]
def qa2 (x:qs):List qa:=(x.fields.flatMap zt).map fun s=>[32,32]++s
theorem qko (v:Int):∀ c∈Lib.itoa v,c≠10∧c≠32:=fun c hc=>by
 by_cases hv:v<0
 ·rw [qex hv] at hc
  rcases List.mem_cons.1 hc with rfl|hc
  ·decide
  ·have:=wy _ _ (Nat.le_refl _) c hc
   constructor <;> rintro rfl <;> simp at this
 ·rw [qey (by omega)] at hc
  have:=wy _ _ (Nat.le_refl _) c hc
  constructor <;> rintro rfl <;> simp at this
theorem qcg (x:qs):10∉j9 x:=by
 unfold j9
 split
 ·rename_i hk
  have h1:=qko x.id
  intro hc
  rcases List.mem_append.1 hc with hc|hc
  ·have:x.kind=1∨x.kind=2∨x.kind=3:=by omega
   rcases this with h|h|h <;> rw [h] at hc <;> revert hc <;> decide
  ·exact (h1 10 hc).1 rfl
 ·simp
theorem qkq {x:qs} (hk:x.kind=1∨x.kind=2∨x.kind=3):¬ [32,32] <+: j9 x:=by
 unfold j9
 rw [if_pos (by omega)]
 rintro⟨t,ht⟩
 have h2:=congrArg (List.take 2) ht
 rcases hk with h|h|h <;> rw [h] at h2 <;> revert h2 <;> simp [yj]
theorem qgu {x:qs} (hg:∀ f∈x.fields,jz f):j8 x=zj (j9 x::qa2 x):=by
 unfold j8 qa2
 rw [qab,qhy,qp3 (qjy hg)]
 simp
theorem qvs {x:qs} (hg:∀ f∈x.fields,jz f):∀ s∈qa2 x,10∉s:=qzt (qjy hg)
theorem qdy (text:qa):∀ (m:List qa) (k a f:Nat) (R:qa),(∀ s∈m,10∉s∧[32,32] <+: s)→∃ k',yb text (vd k a (zj m++R)) f=yb text (vd k' (a+(zj m).length) R) f
 | [],k,a,f,R,_=>⟨k,by simp [zj]⟩
 |s::m,k,a,f,R,h=>by
  obtain⟨h10,hp⟩:=h s (by simp)
  have e:zj (s::m)++R=s++10::(zj m++R):=by rw [qab];simp
  obtain⟨k',ih⟩:=qdy text m (k+1) (a+s.length+1) f R fun x hx=>h x (by simp [hx])
  refine⟨k',?_⟩
  rw [e,qak (by simp),vu _ h10,xk _ h10,yb,if_neg (fun h=>h.2 hp),ih,qab]
  congr 2
  simp
  omega
theorem qnq {x:qs} (hg:∀ f∈x.fields,jz f):∀ s∈qa2 x,10∉s∧[32,32] <+: s:=fun s hs=>⟨qvs hg s hs,by
 obtain⟨y,_,rfl⟩:=List.mem_map.1 hs
 exact List.prefix_append _ _⟩
structure EncG (x:qs):Prop where
 kind:x.kind=1∨x.kind=2∨x.kind=3
 len:x.fields.length≤40
 good:∀ f∈x.fields,jz f
 id1 : -9223372036854775808≤x.id
 id2:x.id≤9223372036854775807
theorem qtc:∀ (r:List qs) (D:qa) (x:qs) (k:Nat),EncG x→(∀ y∈r,EncG y) →
  yb (D++(j8 x++encF r)) (vd k (D.length+((j9 x).length+1)) (zj (qa2 x)++encF r)) D.length=j8 x::r.map j8
 | [],D,x,k,hx,_=>by
  obtain⟨k',h⟩:=qdy (D++(j8 x++encF [])) (qa2 x) k (D.length+((j9 x).length+1)) D.length (encF []) (qnq hx.good)
  rw [h]
  have e:encF []=[]:=rfl
  rw [e,qaj,yb]
  simp
 |y::r,D,x,k,hx,hr=>by
  have hy:=hr y (by simp)
  obtain⟨k',h⟩:=qdy (D++(j8 x++encF (y::r))) (qa2 x) k (D.length+((j9 x).length+1)) D.length (encF (y::r)) (qnq hx.good)
  rw [h]
  have e:encF (y::r)=j9 y++10::(zj (qa2 y)++encF r):=by
   have:encF (y::r)=j8 y++encF r:=by simp [encF]
   rw [this,qgu hy.good,qab]
   simp
  have hlx:(j8 x).length=(j9 x).length+1+(zj (qa2 x)).length:=by
   rw [qgu hx.good,qab]
   simp
   omega
  have e2:encF (y::r)=j8 y++encF r:=by simp [encF]
  have hpos:D.length+((j9 x).length+1)+(zj (qa2 x)).length=(D++j8 x).length:=by
   rw [List.length_append,hlx]
   omega
  rw [hpos]
  have hc:vd k' (D++j8 x).length (encF (y::r))=⟨k',(D++j8 x).length,j9 y,true⟩::vd (k'+1) ((D++j8 x).length+(j9 y).length+1) (zj (qa2 y)++encF r):=by
   rw [e,qak (by simp),vu _ (qcg y),xk _ (qcg y)]
   simp
  have hlt:D.length<(D++j8 x).length:=by rw [List.length_append,hlx];omega
  rw [hc,yb,if_pos ⟨hlt,qkq hy.kind⟩]
  have ih:=qtc r (D++j8 x) y (k'+1) hy fun z hz=>hr z (by simp [hz])
  have et:D++(j8 x++encF (y::r))=(D++j8 x)++(j8 y++encF r):=by rw [e2];simp
  rw [et]
  have ed:((D++j8 x++(j8 y++encF r)).take (D++j8 x).length).drop D.length=j8 x:=by
   rw [List.take_left,List.drop_left]
  rw [ed,List.map_cons]
  simp only
  rw [show (D++j8 x).length+(j9 y).length+1=(D++j8 x).length+((j9 y).length+1) by omega,ih]
theorem q87 {x:qs} {r:List qs} (hx:EncG x) (hr:∀ y∈r,EncG y):qej (encF (x::r))=(x::r).map j8:=by
 have e2:encF (x::r)=j8 x++encF r:=by simp [encF]
 have e:encF (x::r)=j9 x++10::(zj (qa2 x)++encF r):=by
  rw [e2,qgu hx.good,qab]
  simp
 have h:=qtc r [] x 1 hx hr
 simp only [List.nil_append,List.length_nil,Nat.zero_add] at h
 have hc:lns (encF (x::r))=⟨0,0,j9 x,true⟩::vd 1 ((j9 x).length+1) (zj (qa2 x)++encF r):=by
  unfold lns
  rw [e,qak (by simp),vu _ (qcg x),xk _ (qcg x)]
  simp
 unfold qej
 rw [hc,yb,if_neg (by simp),e2,h]
 rfl
theorem qy3:∀ (r acc:List qs),(∀ y∈r,EncG y)→acc.length+r.length≤40→decP (r.map j8) acc=some (acc++r)
 | [],acc,_,_=>by simp [decP]
 |x::r,acc,h,hl=>by
  have hx:=h x (by simp)
  simp only [List.length_cons] at hl
  have hu:upto 10 (j8 x)=j9 x:=by
   unfold j8
   rw [List.append_assoc]
   exact vu _ (qcg x)
  have hp:past 10 (j8 x)=y3 [32,32] (zo x.fields):=by
   unfold j8
   rw [List.append_assoc]
   exact xk _ (qcg x)
  have hfl:=qxj hx.len hx.good
  rw [List.map_cons,decP,hu,q7k hx.kind hx.id1 hx.id2]
  simp only [hp,hfl]
  rw [if_pos ⟨trivial,by omega⟩]
  have ih:=qy3 r (acc++[⟨x.kind,x.id,x.fields⟩]) (fun y hy=>h y (by simp [hy])) (by simp;omega)
  rw [ih]
  simp
theorem quk {x:qs} (h:gErr x = .no) (hB:EdB x):EncG x:=by
 obtain⟨h1,h2⟩:=qih h
 refine⟨?_,h1,h2,hB.id1,hB.id2⟩
 unfold gErr at h
 split at h
 ·exact .inr (.inl (by assumption))
 ·split at h
  ·rename_i hk;omega
  ·simp at h
theorem zeg {b:List qs} (he:eErr b = .no) (hB:∀ x∈b,EdB x) (hl:(encF b).length≤50000):decF (encF b)=some b:=by
 obtain⟨h1,h40,hg⟩:=qc0 he
 have hG:∀ y∈b,EncG y:=fun y hy=>quk (hg y hy) (hB y hy)
 unfold decF
 rw [if_neg (by omega)]
 cases b with
 |nil=>simp at h1
 |cons x r=>
  rw [q87 (hG x (by simp)) (fun y hy=>hG y (by simp [hy])),qy3 (x::r) [] hG (by simp at h40 ⊢;omega)]
  simp only [List.nil_append]
  rw [if_pos ⟨he,trivial⟩]
theorem qy4 {text:qa} {b:List qs} (h:decF text=some b):eErr b = .no∧encF b=text∧text.length≤50000:=by
 unfold decF at h
 split at h
 ·simp at h
 ·split at h
  ·simp at h
  ·split at h
   ·rename_i hc
    cases h
    exact⟨hc.1,hc.2,by omega⟩
   ·simp at h
def SpL (L:List qa):Prop:=L≠[]∧∀ s∈L,10∉s∧[32] <+: s
def encL (b:List qs):List qa:=b.flatMap fun x=>j9 x::qa2 x
theorem qv6 {b:List qs} (hg:∀ x∈b,EncG x):encF b=zj (encL b):=by
 induction b with
 |nil=>rfl
 |cons x r ih=>
  have e:encL (x::r)=(j9 x::qa2 x)++encL r:=by simp [encL]
  have e2:encF (x::r)=j8 x++encF r:=by simp [encF]
  rw [e,yc,e2,qgu (hg x (by simp)).good,ih fun y hy=>hg y (by simp [hy])]
theorem ze0 {x:qs} (hk:x.kind=1∨x.kind=2∨x.kind=3):[32] <+: j9 x:=by
 unfold j9
 rw [if_pos (by omega)]
 rcases hk with h|h|h <;> rw [h] <;> exact⟨_,rfl⟩
theorem zeo {b:List qs} (hne:b≠[]) (hg:∀ x∈b,EncG x):SpL (encL b):=by
 refine⟨?_,fun s hs=>?_⟩
 ·cases b with
  |nil=>exact absurd rfl hne
  |cons x r=>simp [encL]
 ·obtain⟨x,hx,hs⟩:=List.mem_flatMap.1 hs
  have hG:=hg x hx
  rcases List.mem_cons.1 hs with rfl|hs
  ·exact⟨qcg x,ze0 hG.kind⟩
  ·obtain⟨h1,t,ht⟩:=qnq hG.good s hs
   exact⟨h1,[32]++t,by rw [← ht];rfl⟩
theorem zfu {L:List qa} (h:SpL L):sp true (zj L)=true:=by
 rw [← qmb _ (zj L) (Nat.le_refl _),qb7 L fun s hs=>(h.2 s hs).1]
 intro x hx
 obtain⟨s,hs,rfl⟩:=List.mem_map.1 hx
 exact (h.2 s hs).2
theorem zac {L:List qa} (h:SpL L):(zj L)[0]? = some 32:=by
 obtain⟨hne,hs⟩:=h
 cases L with
 |nil=>exact absurd rfl hne
 |cons s r=>
  obtain⟨t,ht⟩:=(hs s (by simp)).2
  rw [qab,← ht]
  rfl
theorem qw6:∀ (L:List qa),L≠[]→(zj L).getLast? = some 10
 | [],h=>absurd rfl h
 | [s],_=>by rw [qab];simp [zj]
 |s::t::r,_=>by
  have ih:=qw6 (t::r) (by simp)
  have hne:zj (t::r)≠[]:=fun e=>by rw [e] at ih;simp at ih
  rw [qab,List.getLast?_append,List.getLast?_cons,ih]
  simp
theorem q78 {b:List qs} (he:eErr b = .no) (hB:∀ x∈b,EdB x) (hl:(encF b).length≤50000):yi (encF b):=by
 obtain⟨h1,h40,hg⟩:=qc0 he
 have hG:∀ y∈b,EncG y:=fun y hy=>quk (hg y hy) (hB y hy)
 have hne:b≠[]:=fun e=>by subst e;simp at h1
 have hS:=zeo hne hG
 have ht:=qv6 hG
 have hh:=zac hS
 have hlast:=qw6 _ hS.1
 rw [← ht] at hh hlast
 have hsp:=zfu hS
 rw [← ht] at hsp
 refine⟨?_,hl,hlast,by rw [qda];exact hsp⟩
 rcases hc:encF b with _ | ⟨c,_ | ⟨d,r⟩⟩
 ·rw [hc] at hh;simp at hh
 ·rw [hc] at hh hlast
  simp at hh hlast
  rw [hh] at hlast
  simp at hlast
 ·simp
end Go.Pl
namespace Go.Proofs.YtmoklbacdkmkaaaGreatDoor
open Go Go.Av Go.RowKit Go.Proofs Go.Pl
theorem q75 {xs:List qs} {k:Nat} (hk:k<xs.length):(xs.map jb)[k]? = some (jb (xs.getD k ⟨0,0,[]⟩)):=by
 simp [List.getD,hk]
theorem zg3 {x:qs}:∀ y∈[jb x],Pure y:=by
 intro y hy
 simp only [List.mem_cons,List.not_mem_nil,or_false] at hy
 subst hy
 exact qa8 (qgt x)
theorem qk6 {l:qa} {i:Nat} {c:UInt8} (h:l[i]? = some c):l.getD i 0=c:=by simp [List.getD,h]
theorem zff {a b:qa}:∀ x∈[Sv a,Sv b],Pure x:=by
 intro x hx
 simp only [List.mem_cons,List.not_mem_nil,or_false] at hx
 rcases hx with rfl|rfl <;> exact qr _
theorem zfe {a:List Fld}:∀ x∈[jq a],Pure x:=by
 intro x hx
 simp only [List.mem_cons,List.not_mem_nil,or_false] at hx
 subst hx
 exact qbk _
theorem q77 {b:List qs} {k:Nat} (hk:k<b.length):encF (b.take (k+1))=((encF (b.take k)++j9 (b.getD k ⟨0,0,[]⟩))++[10])++y3 [32,32] (zo (b.getD k ⟨0,0,[]⟩).fields):=by
 rw [List.take_succ_eq_append_getElem hk,qy9,qza]
 have e:b.getD k ⟨0,0,[]⟩=b[k]:=by simp [List.getD,hk]
 rw [e]
 unfold j8
 simp [List.append_assoc]
set_option maxHeartbeats 2000000 in
theorem qxp (b:List qs) (st:List AObj) (hB:∀ x∈b,EdB x) (he:eErr b = .no):qo E 125 [jf b] st fun r st'=>r=Sv (encF b)∧st'=st:=by
 refine qv (qr _) (qp Tryz.func125 rfl (Nat.le_of_ble_eq_true rfl) ?_)
 have hml:(b.map jb).length=b.length:=by simp
 obtain⟨hb1,hb40,hg⟩:=qc0 he
 repeat' (first|apply qm|apply qx|apply qe|apply qg|apply qf)
 refine j5 (fun (k:Nat) s=>k≤b.length∧StE [(0,jf b),(3,Sv (encF (b.take k))),(4,Iv k)] st [] s) (fun k=>b.length - k) 0 ⟨by omega,qce ⟨rfl,rfl,rfl,trivial⟩ rfl⟩ ?_
 rintro k _ ⟨hk,t,ext,rfl⟩
 by_cases hc:k<b.length
 ·have hm:b.getD k ⟨0,0,[]⟩∈b:=by simp [List.getD,hc]
  have hxb:=hB _ hm
  have hxg:=hg _ hm
  have hnx:=q77 hc
  have hpl:=qlx (b.take k) (fun y hy=>hB y (List.mem_of_mem_take hy)) (fun y hy=>hg y (List.mem_of_mem_take hy))
  have hget:(b.map jb)[k]? = some (jb (b.getD k ⟨0,0,[]⟩)):=q75 hc
  generalize b.getD k ⟨0,0,[]⟩=x at hm hxb hxg hnx hget
  obtain⟨hfl,hfg⟩:=qih hxg
  have hll:=qn8 x hxb.id1 hxb.id2
  have hfo:=qe6 x.fields hfg
  have hin:=qkm (zo x.fields)
  have htk:(b.take k).length≤40:=by rw [List.length_take];omega
  repeat' (first|apply qm|apply qx|apply qe|apply qg|apply qj|apply qf|(apply qq;(iterate 3 exact rfl))|(apply qc;exact rfl;apply kz;exact cAo)|(apply zy;(iterate 4 exact rfl))|(apply zh;exact rfl;exact rfl;exact qz (by omega) (by omega))|(apply qlr;exact rfl;kernel_rfl)|apply qip|(apply qjk;exact rfl;exact rfl;exact cOs)|(apply qlp;(iterate 3 exact rfl))|(apply qjl;(iterate 4 exact rfl))|apply qf9|apply qjj|apply qu|(apply qni (n:=k);(iterate 5 exact rfl);exact hget)|(refine qqh (args:=[jb x]) qun Tryz.call123 rfl zg3 (qjc _) (fun _=>.v _) (qw0 x _ hxb.id1 hxb.id2) ?_)|(refine qqh (args:=[jq x.fields]) qun Tryz.call184 rfl zfe (qjc _) (fun _=>.v _) (qwz x.fields _ (qss hfl hfg)) ?_)|(refine qqh (args:=[Sv (zo x.fields),Sv [32,32]]) qun Tryz.call183 rfl zff (qjc _) (fun _=>.v _) (q2z (zo x.fields) [32,32] _ (by omega) (by decide)) ?_))
  exact⟨k+1,⟨by omega,xv ⟨rfl,congrArg Sv hnx.symm,rfl,trivial⟩ rfl⟩,by omega⟩
 ·have e:k=b.length:=by omega
  subst e
  rw [List.take_length]
  repeat' (first|apply qm|apply qe|apply qg|apply qj|apply qf|(apply qq;(iterate 3 exact rfl))|(apply qc;exact rfl;apply ku;exact cAo)|(apply zy;(iterate 4 exact rfl))|apply zz|apply qt)
  exact qn rfl (q6 rfl) ⟨rfl,ya _ _ _ _⟩
theorem q7z:∀ (ps:List qa) (acc b:List qs),(∀ x∈acc,EdB x)→decP ps acc=some b→∀ x∈b,EdB x
 | [],acc,b,h,e=>by
  rw [decP] at e
  cases e
  exact h
 |p::r,acc,b,h,e=>by
  rw [decP] at e
  split at e
  ·simp at e
  ·rename_i k n hb
   split at e
   ·refine q7z r _ b (fun x hx=>?_) e
    rcases List.mem_append.1 hx with hx|hx
    ·exact h x hx
    ·obtain rfl:=List.mem_singleton.1 hx
     exact q74 (que hb).1 (que hb).2 (qpx _)
   ·simp at e
theorem q7y {text:qa} {b:List qs} (h:decF text=some b):∀ x∈b,EdB x:=by
 unfold decF at h
 split at h
 ·simp at h
 ·split at h
  ·simp at h
  ·rename_i c hc
   split at h
   ·cases h
    exact q7z _ _ _ (by simp) hc
   ·simp at h
end Go.Proofs.YtmoklbacdkmkaaaGreatDoor
namespace Go.Pl
open Go Go.Proofs Go.Proofs.YtmoklbacdkmkaaaGreatDoor
def addF (out:List qs) (f:Fld):List qs:=match out.getLast? with
 |none=>out
 |some x=>out.dropLast++[⟨x.kind,x.id,x.fields++[f]⟩]
def yv (out:List qs) (held:List qa):Option (List qs):=
 if held=[] then some out else if (zn held).2=0 then some (addF out (zn held).1) else none
def tryR (l:qa) (e:Option (Int×Int)) (k:Int):Option (Int×Int):=
 if yj k <+: l then match numZ (l.drop (yj k).length) with
  |some n=>some (k,n)
  |none=>e
 else e
def begR (l:qa):Option (Int×Int):=tryR l (tryR l (tryR l none 1) 2) 3
def kj:List qa→List qs→List qa→Option (List qs)
 | [],out,held=>yv out held
 |l::r,out,held=>
  match (if held≠[]∧¬ [32,32,32] <+: l then (yv out held).map fun o=>(o,([]:List qa)) else some (out,held)) with
  |none=>none
  |some (o,h)=>
   if [32,32] <+: l then if o=[] then none else kj r o (h++[l.drop 2])
   else match begR l with
    |none=>none
    |some (k,n)=>if 40≤o.length then none else kj r (o++[⟨k,n,[]⟩]) h
theorem q65 (b:List qs) (k n:Int) (gs:List Fld) (f:Fld):addF (b++[⟨k,n,gs⟩]) f=b++[⟨k,n,gs++[f]⟩]:=by
 unfold addF
 simp
def qrm (held:List qa) (pe:List Fld):Prop:=(held=[]∧pe=[])∨∃ g,jz g∧held=zt g∧pe=[g]
theorem ql2 {b:List qs} {k n:Int} {gs pe:List Fld} {held:List qa} (h:qrm held pe):yv (b++[⟨k,n,gs⟩]) held=some (b++[⟨k,n,gs++pe⟩]):=by
 unfold yv
 rcases h with⟨rfl,rfl⟩ | ⟨g,hg,rfl,rfl⟩
 ·simp
 ·have hu:=qm6 hg
  rw [if_neg (by simp [zt]),hu,if_pos rfl,q65]
theorem ind3 {s:qa} (h:[32] <+: s):[32,32,32] <+: [32,32]++s:=by
 obtain⟨t,rfl⟩:=h
 exact⟨t,rfl⟩
theorem zbv {s:qa} (h:¬ [32] <+: s):¬ [32,32,32] <+: [32,32]++s:=fun ⟨t,ht⟩=>h ⟨t,by simpa using ht⟩
theorem q94 {s:qa} {r:List qa} {out:List qs} {held:List qa} (hs:[32] <+: s) (hne:out≠[]):kj (([32,32]++s)::r) out held=kj r out (held++[s]):=by
 rw [kj,if_neg (fun h=>h.2 (ind3 hs))]
 simp only
 rw [if_pos (List.prefix_append _ _),if_neg hne]
 rfl
theorem qw2:∀ (m:List qa) {r:List qa} {out:List qs} {held:List qa},(∀ s∈m,[32] <+: s)→out≠[]→kj (m.map (fun s=>[32,32]++s)++r) out held=kj r out (held++m)
 | [],r,out,held,_,_=>by simp
 |s::m,r,out,held,h,hne=>by
  rw [List.map_cons,List.cons_append,q94 (h s (by simp)) hne,qw2 m (fun x hx=>h x (by simp [hx])) hne]
  simp
theorem q93 {s:qa} {r:List qa} {b:List qs} {k n:Int} {gs pe:List Fld} {held:List qa} (hs:¬ [32] <+: s) (hh:qrm held pe):kj (([32,32]++s)::r) (b++[⟨k,n,gs⟩]) held=kj r (b++[⟨k,n,gs++pe⟩]) [s]:=by
 rw [kj]
 have hi:=zbv hs
 have e:(if held≠[]∧¬ [32,32,32] <+: [32,32]++s then (yv (b++[⟨k,n,gs⟩]) held).map fun o=>(o,([]:List qa)) else some (b++[⟨k,n,gs⟩],held))=some (b++[⟨k,n,gs++pe⟩],[]):=by
  by_cases h0:held=[]
  ·rcases hh with⟨_,rfl⟩ | ⟨g,_,h1,_⟩
   ·rw [if_neg (fun h=>h.1 h0),h0];simp
   ·rw [h0] at h1;simp [zt] at h1
  ·rw [if_pos ⟨h0,hi⟩,ql2 hh];rfl
 rw [e]
 simp only
 rw [if_pos (List.prefix_append _ _),if_neg (by simp)]
 rfl
theorem qz1 {f:Fld} (h:jz f):∃ hd mr,zt f=hd::mr∧¬ [32] <+: hd∧∀ s∈mr,[32] <+: s:=by
 refine⟨_,_,rfl,?_,fun s hs=>?_⟩
 ·obtain⟨h1,_,h3,_⟩:=h.1
  rintro⟨t,ht⟩
  apply h3
  cases hk:f.1 with
  |nil=>exact absurd hk h1
  |cons c l=>
   unfold jm at ht
   rw [hk] at ht
   have:=(List.cons.inj ht).1
   rw [← this]
   simp [qed,wd]
 ·obtain⟨x,_,rfl⟩:=List.mem_map.1 hs
  exact List.prefix_append _ _
def qx5 (R:List qa):Prop:=∀ l r,R=l::r→¬ [32,32] <+: l
theorem zfn {R:List qa} {b:List qs} {k n:Int} {gs pe:List Fld} {held:List qa} (hR:qx5 R) (hh:qrm held pe):kj R (b++[⟨k,n,gs⟩]) held=kj R (b++[⟨k,n,gs++pe⟩]) []:=by
 cases R with
 |nil=>
  rw [kj,kj,ql2 hh]
  simp [yv]
 |cons l r=>
  have h2:=hR l r rfl
  have h3:¬ [32,32,32] <+: l:=fun ⟨t,ht⟩=>h2 ⟨[32]++t,by rw [← ht];rfl⟩
  have e:(if held≠[]∧¬ [32,32,32] <+: l then (yv (b++[⟨k,n,gs⟩]) held).map fun o=>(o,([]:List qa)) else some (b++[⟨k,n,gs⟩],held))=some (b++[⟨k,n,gs++pe⟩],[]):=by
   by_cases h0:held=[]
   ·rcases hh with⟨_,rfl⟩ | ⟨g,_,h1,_⟩
    ·rw [if_neg (fun h=>h.1 h0),h0];simp
    ·rw [h0] at h1;simp [zt] at h1
   ·rw [if_pos ⟨h0,h3⟩,ql2 hh];rfl
  rw [kj,e,kj,if_neg (fun h=>h.1 rfl)]
theorem qw1:∀ (fs:List Fld) {R:List qa} {b:List qs} {k n:Int} {gs pe:List Fld} {held:List qa},qx5 R→(∀ f∈fs,jz f)→qrm held pe →
  kj ((fs.flatMap zt).map (fun s=>[32,32]++s)++R) (b++[⟨k,n,gs⟩]) held=kj R (b++[⟨k,n,gs++pe++fs⟩]) []
 | [],R,b,k,n,gs,pe,held,hR,_,hh=>by
  rw [List.flatMap_nil,List.map_nil,List.nil_append,zfn hR hh,List.append_nil]
 |f::fs,R,b,k,n,gs,pe,held,hR,hf,hh=>by
  have hgf:=hf f (by simp)
  obtain⟨hd,mr,hl,h1,h2⟩:=qz1 hgf
  rw [List.flatMap_cons,List.map_append,hl,List.map_cons,List.append_assoc,List.cons_append,q93 h1 hh,qw2 mr h2 (by simp)]
  have e:[hd]++mr=zt f:=by rw [hl];rfl
  rw [e,qw1 fs hR (fun x hx=>hf x (by simp [hx])) (.inr ⟨f,hgf,rfl,rfl⟩)]
  simp
theorem q7q {x:qs} (hx:EncG x):begR (j9 x)=some (x.kind,x.id):=by
 have hl:j9 x=yj x.kind++Lib.itoa x.id:=by
  unfold j9
  rw [if_pos (by have:=hx.kind;omega)]
 have hself:∀ e,tryR (j9 x) e x.kind=some (x.kind,x.id):=fun e=>by
  unfold tryR
  rw [hl,if_pos (List.prefix_append _ _),List.drop_left,qfc hx.id1 hx.id2]
 have hoth:∀ (j:Int) e,(j=1∨j=2∨j=3)→j≠x.kind→tryR (j9 x) e j=e:=fun j e hj hne=>by
  unfold tryR
  rw [hl,if_neg (qst hj hx.kind hne)]
 unfold begR
 rcases hx.kind with h|h|h
 ·rw [h] at hself hoth ⊢
  rw [hself,hoth 2 _ (by simp) (by decide),hoth 3 _ (by simp) (by decide)]
 ·rw [h] at hself hoth ⊢
  rw [hself,hoth 3 _ (by simp) (by decide)]
 ·rw [h] at hself hoth ⊢
  rw [hself]
theorem qwy:∀ (r b:List qs),(∀ x∈r,EncG x)→b.length+r.length≤40→kj (encL r) b []=some (b++r)
 | [],b,_,_=>by
  simp [encL,kj,yv]
 |x::r,b,h,hl=>by
  have hx:=h x (by simp)
  simp only [List.length_cons] at hl
  have e:encL (x::r)=j9 x::(qa2 x++encL r):=by simp [encL]
  have hR:qx5 (encL r):=fun l t et=>by
   cases r with
   |nil=>simp [encL] at et
   |cons y r=>
    have e:encL (y::r)=j9 y::(qa2 y++encL r):=by simp [encL]
    rw [e] at et
    rw [← (List.cons.inj et).1]
    exact qkq (h y (by simp)).kind
  rw [e,kj,if_neg (fun h=>h.1 rfl)]
  simp only
  rw [if_neg (qkq hx.kind),q7q hx]
  simp only
  rw [if_neg (by omega)]
  unfold qa2
  rw [qw1 x.fields hR hx.good (.inl ⟨rfl,rfl⟩),qwy r _ (fun y hy=>h y (by simp [hy])) (by simp;omega)]
  simp
def OutG (out:List qs) (m:Nat):Prop:=∀ x∈out,(∀ f∈x.fields,jz f)∧x.fields.length≤m∧-9223372036854775808≤x.id∧x.id≤9223372036854775807
theorem OutG.mono {out:List qs} {m m':Nat} (h:OutG out m) (hm:m≤m'):OutG out m':=fun x hx=>⟨(h x hx).1,by have:=(h x hx).2.1;omega,(h x hx).2.2⟩
theorem qx7 {out:List qs} {f:Fld} {m:Nat} (h:OutG out m) (hf:jz f):OutG (addF out f) (m+1):=by
 unfold addF
 cases hl:out.getLast? with
 |none=>exact h.mono (by omega)
 |some y=>
  have hy:=h y (List.mem_of_getLast? hl)
  intro x hx
  rcases List.mem_append.1 hx with hx|hx
  ·exact h.mono (by omega) x ((List.dropLast_sublist out).subset hx)
  ·obtain rfl:=List.mem_singleton.1 hx
   refine⟨fun g hg=>?_,by simp;exact hy.2.1,hy.2.2⟩
   rcases List.mem_append.1 hg with hg|hg
   ·exact hy.1 g hg
   ·obtain rfl:=List.mem_singleton.1 hg
    exact hf
theorem qzk {out o:List qs} {held:List qa} {m:Nat} (h:OutG out m) (e:yv out held=some o):OutG o (m+1):=by
 unfold yv at e
 split at e
 ·cases e;exact h.mono (by omega)
 ·split at e
  ·rename_i hu
   cases e
   exact qx7 h (qg4 hu)
  ·simp at e
theorem q1q {l:qa} {e:Option (Int×Int)} {j k n:Int} (he:∀ k n,e=some (k,n)→-9223372036854775808≤n∧n≤9223372036854775807) (h:tryR l e j=some (k,n)) : -9223372036854775808≤n∧n≤9223372036854775807:=by
 unfold tryR at h
 split at h
 ·split at h
  ·rename_i v hv
   cases h
   exact (qj7 hv).2
  ·exact he _ _ h
 ·exact he _ _ h
theorem q7p {l:qa} {k n:Int} (h:begR l=some (k,n)) : -9223372036854775808≤n∧n≤9223372036854775807:=
 q1q (fun _ _ h=>q1q (fun _ _ h=>q1q (fun _ _ h=>by simp at h) h) h) h
theorem qu0:∀ (L:List qa) {out b:List qs} {held:List qa} {m:Nat},OutG out m→kj L out held=some b→OutG b (m+L.length+1)
 | [],out,b,held,m,h,e=>by
  rw [kj] at e
  exact (qzk h e).mono (by simp)
 |l::r,out,b,held,m,h,e=>by
  rw [kj] at e
  split at e
  ·simp at e
  ·rename_i o hd he
   have ho:OutG o (m+1):=by
    split at he
    ·obtain⟨o',h1,h2⟩:=Option.map_eq_some_iff.1 he
     cases h2
     exact qzk h h1
    ·cases he;exact h.mono (by omega)
   split at e
   ·split at e
    ·simp at e
    ·exact (qu0 r ho e).mono (by simp;omega)
   ·split at e
    ·simp at e
    ·rename_i k n hb
     split at e
     ·simp at e
     ·refine (qu0 r (m:=m+1) (fun x hx=>?_) e).mono (by simp;omega)
      rcases List.mem_append.1 hx with hx|hx
      ·exact ho x hx
      ·obtain rfl:=List.mem_singleton.1 hx
       exact⟨by simp,by simp,q7p hb⟩
theorem q81 {b:List qs} {m:Nat} (h:OutG b m) (hm:m<9223372036854775808):∀ x∈b,EdB x:=fun x hx=>by
 obtain⟨h1,h2,h3,h4⟩:=h x hx
 exact⟨fun f hf=>by have:=(h1 f hf).1.2.1;omega,by omega,h3,h4⟩
def qcb (text:qa):Option (List qs):=if 50000<text.length then none else match kj ((lns text).map fun x=>x.text) [] [] with
 |none=>none
 |some b=>if eErr b = .no∧encF b=text then some b else none
theorem zb4 (l:qa):(lns l).map (fun x=>x.text)=(zq l).map Prod.fst:=by
 rw [← qoa,List.map_map]
 rfl
theorem q9g (text:qa):qcb text=decF text:=by
 by_cases hbig:50000<text.length
 ·unfold qcb decF
  rw [if_pos hbig,if_pos hbig]
 have hn:=qch _ text 0 0 (Nat.le_refl _)
 cases hd:decF text with
 |some b=>
  obtain⟨he,ht,_⟩:=qy4 hd
  obtain⟨h1,h40,hg⟩:=qc0 he
  have hB:=q7y hd
  have hG:∀ y∈b,EncG y:=fun y hy=>quk (hg y hy) (hB y hy)
  have hl:(lns text).map (fun x=>x.text)=encL b:=by
   rw [zb4,← ht,qv6 hG,qb7,List.map_map]
   ·simp [Function.comp_def]
   ·intro s hs
    obtain⟨x,hx,hs⟩:=List.mem_flatMap.1 hs
    rcases List.mem_cons.1 hs with rfl|hs
    ·exact qcg x
    ·exact qvs (hG x hx).good s hs
  unfold qcb
  rw [if_neg hbig,hl,qwy b [] hG (by simp;omega)]
  simp only [List.nil_append]
  rw [if_pos ⟨he,ht⟩]
 |none=>
  unfold qcb
  rw [if_neg hbig]
  cases hr:kj ((lns text).map fun x=>x.text) [] [] with
  |none=>rfl
  |some b=>
   simp only
   split
   ·rename_i hc
    have hB:=q81 (qu0 _ (m:=0) (by intro x hx;simp at hx) hr) (by
     have:(lns text).length≤text.length:=hn
     simp
     omega)
    have:=zeg hc.1 hB (by rw [hc.2];omega)
    rw [hc.2,hd] at this
    simp at this
   ·rfl
end Go.Pl
namespace Go.Proofs.YtmoklbacdkmkaaaGreatDoor
open Go Go.Av Go.RowKit Go.Proofs Go.Pl
def qca:Option (List qs)→AV
 |none=>.tu [jf [],Bv false]
 |some b=>.tu [jf b,Bv true]
end Go.Proofs.YtmoklbacdkmkaaaGreatDoor
namespace Go.Pl
open Go Go.Proofs
def vp:List (qa×Bool)→List qa
 | []=>[]
 |(t,_)::r=>if qy t=3 then t::vp r else []
def xg (prev:Bool) (t:qa) (e:Bool) (r:List (qa×Bool)) (fields:Nat) (records:Int):Int:=
 if qy t=5∨(qy t=3∧prev=false)∨e=false then 2
 else if qy t≠4 then 0
 else if (zn (t::vp r)).2≠0 then (zn (t::vp r)).2
 else if 40≤fields∨(fields=0∧400≤records) then 11 else 0
theorem qpv {α : Type} {l:List α} {x : α} (h:l.getLast? = some x):l.dropLast++[x]=l:=by
 have hne:l≠[]:=fun e=>by subst e;simp at h
 rw [List.getLast?_eq_some_getLast hne] at h
 obtain rfl:=Option.some.inj h
 exact List.dropLast_concat_getLast hne
def outR (now:jj) (out:List jj):List jj:=if now.raw=[] then out else out++[now]
def refL:Nat→List (qa×Bool)→Bool→jj→Int→List jj→Option (Int×Int)×List jj
 | _,[],_,now,_,out=>(none,outR now out)
 |i,(t,e)::r,prev,now,rec,out=>
  if xg prev t e r now.fields.length rec≠0 then (some ((i:Int),xg prev t e r now.fields.length rec),[])
  else if qy t=1 then refL (i+1) r false ⟨2,[],[]⟩ rec (outR now out++[⟨1,t++[10],[]⟩])
  else if qy t=4 then refL (i+1) r true ⟨3,now.raw++t++[10],now.fields++[(zn (t::vp r)).1]⟩ (if now.kind=2 then rec+1 else rec) out
  else refL (i+1) r (decide (qy t=3)) ⟨now.kind,now.raw++t++[10],now.fields⟩ rec out
def qxu:List (qa×Bool)→Prop
 | []=>True
 |(_,e)::r=>(e=false→r=[])∧qxu r
theorem qp5:∀ (n:Nat) (l:qa),l.length≤n→qxu (zq l)
 | 0,l,h=>by
  have:l=[]:=List.length_eq_zero_iff.1 (by omega)
  subst this
  rw [vt]
  trivial
 |n+1,l,h=>by
  by_cases hl:l=[]
  ·subst hl
   rw [vt]
   trivial
  ·rw [wp hl]
   refine⟨fun he=>?_,qp5 n _ (by have:=w9 (c:=10) hl;omega)⟩
   have h10:10∉l:=by simpa using he
   have:past 10 l=[]:=by
    unfold past
    rw [ww h10]
    exact List.drop_eq_nil_of_le (by omega)
   rw [this,vt]
def qeg (ls:List qa) (full:Bool):Int:=if (zn ls).2≠0 then (zn ls).2 else if full=true then 11 else 0
theorem qhx {p:PSt} (h:p.lines≠[]) (hc:qeg p.lines p.full≠0):(js p).1=some (p.frm,qeg p.lines p.full):=by
 unfold qeg at *
 unfold js
 rw [if_neg h]
 by_cases h1:(zn p.lines).2≠0
 ·rw [if_pos h1,if_pos h1]
 ·rw [if_neg h1] at hc ⊢
  rw [if_neg h1]
  by_cases h2:p.full=true
  ·rw [if_pos h2,if_pos h2]
  ·rw [if_neg h2] at hc
   exact absurd rfl hc
theorem qv9 {p:PSt} (h:p.lines=[]∨qeg p.lines p.full=0):js p=(none,{ p with lines:=[],fields:=p.fields++(if p.lines=[] then [] else [(zn p.lines).1]) }):=by
 unfold js
 by_cases h0:p.lines=[]
 ·rw [if_pos h0,if_pos h0]
  obtain⟨a,b,c,d,e,f,g⟩:=p
  simp only at h0
  subst h0
  simp
 ·rw [if_neg h0,if_neg h0]
  have h:=h.resolve_left h0
  unfold qeg at h
  by_cases h1:(zn p.lines).2≠0
  ·rw [if_pos h1] at h
   exact absurd h h1
  ·rw [if_neg h1] at h ⊢
   by_cases h2:p.full=true
   ·rw [if_pos h2] at h
    simp at h
   ·rw [if_neg h2]
theorem qrg {p:PSt} {no:Int} {t:qa} {e:Bool} {x:Int×Int} (h:(jp p no t e (qy t)).1=some x):(wm p no t e).1=some x:=by
 unfold wm
 rw [h]
theorem qrh {p q:PSt} {no:Int} {t:qa} {e:Bool} (h:jp p no t e (qy t)=(none,q)) (hc:qy t=5∨e=false):(wm p no t e).1=some (no,2):=by
 unfold wm
 rw [h]
 simp only
 rw [if_pos hc]
theorem qlg {p q:PSt} {no:Int} {t:qa} (h:jp p no t true (qy t)=(none,q)) (hc:qy t≠5):wm p no t true =
  if qy t=1 then (none,{ q with items:=q.items++[⟨1,t++[10],[]⟩] }) else if qy t=4 then (none,{ km q no t with block:=q.block++[t] }) else (none,{ q with block:=q.block++[t] }):=by
 unfold wm
 rw [h]
 simp only
 rw [if_neg (by simp [hc])]
theorem qfg {k:Nat} {t:qa} {e:Bool} {r:List (qa×Bool)} {p:PSt} {x:Int×Int} (h:(wm p k t e).1=some x):(runL k ((t,e)::r) p).1=some x:=by
 rw [runL,h]
theorem qhb {k:Nat} {t:qa} {e:Bool} {r:List (qa×Bool)} {p q:PSt} (h:wm p k t e=(none,q)):runL k ((t,e)::r) p=runL (k+1) r q:=by
 rw [runL,h]
theorem qrq {p:PSt} {no:Int} {t:qa} (hk:qy t=3) (hl:p.lines≠[]):jp p no t true (qy t)=(none,{ p with lines:=p.lines++[t] }):=by
 unfold jp
 rw [if_pos hk,if_neg hl,if_pos rfl]
theorem qrp {p:PSt} {no:Int} {t:qa} (hk:qy t=3) (hl:p.lines≠[]):jp p no t false (qy t)=js { p with lines:=p.lines++[t] }:=by
 unfold jp
 rw [if_pos hk,if_neg hl,if_neg (by simp)]
theorem qgq {p:PSt} {no:Int} {t:qa} {e:Bool} (hk:qy t≠3) (h1:qy t≠1):jp p no t e (qy t)=js p:=by
 unfold jp
 rw [if_neg hk,if_neg h1]
theorem qke {p:PSt} {no:Int} {t:qa} {e:Bool} (h1:qy t=1):jp p no t e (qy t)=endP p:=by
 unfold jp
 rw [if_neg (by omega),if_pos h1]
theorem qme {t:qa} {e:Bool} {r:List (qa×Bool)} (h:qy t≠3):vp ((t,e)::r)=[]:=by
 rw [vp,if_neg h]
theorem qgx {t:qa} {e:Bool} {r:List (qa×Bool)} (h:qy t=3):vp ((t,e)::r)=t::vp r:=by
 rw [vp,if_pos h]
theorem qzb {p:PSt} {x:Int×Int} (h:(js p).1=some x):(endP p).1=some x:=by
 unfold endP
 rw [h]
theorem qul {p q:PSt} (h:js p=(none,q)):endP p=(none,x9 q):=by
 unfold endP
 rw [h]
theorem q0s:∀ (r:List (qa×Bool)) (p:PSt) (k:Nat) (c:Int),qxu r→p.lines≠[]→qeg (p.lines++vp r) p.full=c→c≠0→(runL k r p).1=some (p.frm,c)
 | [],p,k,c,_,hl,hc,h0=>by
  rw [vp,List.append_nil] at hc
  rw [runL]
  subst hc
  exact qzb (qhx hl h0)
 |(t,e)::r,p,k,c,hE,hl,hc,h0=>by
  by_cases h3:qy t=3
  ·rw [qgx h3] at hc
   cases e with
   |true=>
    have ht:=qlg (qrq (no:=k) h3 hl) (by omega)
    rw [if_neg (by omega),if_neg (by omega)] at ht
    rw [qhb ht]
    exact q0s r _ (k+1) c hE.2 (by simp) (by simpa using hc) h0
   |false=>
    have hr:=hE.1 rfl
    subst hr
    refine qfg (qrg ?_)
    rw [qrp h3 hl]
    have hc':qeg (p.lines++[t]) p.full=c:=hc
    have:=qhx (p:={ p with lines:=p.lines++[t] }) (by simp) (by simp only;rw [hc'];exact h0)
    simp only at this
    rw [this,hc']
  ·rw [qme h3,List.append_nil] at hc
   subst hc
   refine qfg (qrg ?_)
   by_cases h1:qy t=1
   ·rw [qke h1]
    exact qzb (qhx hl h0)
   ·rw [qgq h3 h1]
    exact qhx hl h0
structure Sim (r:List (qa×Bool)) (p:PSt) (prev:Bool) (now:jj) (rec:Int) (out:List jj):Prop where
 hprev:prev=decide (p.lines≠[])
 hok:p.lines=[]∨qeg (p.lines++vp r) p.full=0
 hraw:now.raw=zj p.block
 hfields:now.fields=p.fields++(if p.lines=[] then [] else [(zn (p.lines++vp r)).1])
 hkind:now.kind=if now.fields=[] then 2 else 3
 hrec:rec=p.records+if now.fields=[] then 0 else 1
 hout:out=p.items
 hempty:p.block=[]→p.lines=[]∧p.fields=[]
 b1:now.fields.length≤40
 b2:rec≤400
theorem zab (b:List qa):zj b=[]↔b=[]:=by
 cases b with
 |nil=>simp [zj]
 |cons x r=>simp [zj]
theorem qmx (b:List qa) (t:qa):zj (b++[t])=zj b++t++[10]:=by simp [zj]
theorem Sim.flush {r:List (qa×Bool)} {p:PSt} {prev:Bool} {now:jj} {rec:Int} {out:List jj} (h:Sim r p prev now rec out) (hm:vp r=[]):js p=(none,{ p with lines:=[],fields:=now.fields }):=by
 have h1:=h.hok
 have h2:=h.hfields
 rw [hm,List.append_nil] at h1 h2
 rw [qv9 h1,h2]
theorem Sim.close {r:List (qa×Bool)} {p:PSt} {prev:Bool} {now:jj} {rec:Int} {out:List jj} (h:Sim r p prev now rec out) (hm:vp r=[]):x9 { p with lines:=[],fields:=now.fields }={ p with lines:=[],fields:=[],block:=[],items:=outR now out,records:=rec }:=by
 have hk:=h.hkind
 have hr:=h.hrec
 have hw:=h.hraw
 have ho:=h.hout
 unfold x9 outR
 simp only
 by_cases hb:p.block=[]
 ·obtain⟨e1,e2⟩:=h.hempty hb
  have hf:now.fields=[]:=by rw [h.hfields,e1,e2];simp
  rw [if_pos hb,if_pos (by rw [hw,hb];rfl),ho,hr,hf]
  simp
 ·have hne:¬ now.raw=[]:=by rw [hw,zab];exact hb
  rw [if_neg hb,if_neg hne,ho,hr,← hw]
  obtain⟨nk,nr,nf⟩:=now
  simp only at hk hne ⊢
  by_cases hf:nf=[]
  ·rw [if_pos hf] at hk
   simp [hf,hk,hne]
  ·rw [if_neg hf] at hk
   simp [hf,hk,hne]
theorem qlc:∀ (r:List (qa×Bool)) (k:Nat) (p:PSt) (prev:Bool) (now:jj) (rec:Int) (out:List jj),qxu r→Sim r p prev now rec out →
  refL k r prev now rec out=match (runL k r p).1 with
   |some e=>(some e,[])
   |none=>(none,(runL k r p).2.items)
 | [],k,p,prev,now,rec,out,_,h=>by
  rw [runL,qul (h.flush rfl),h.close rfl,refL]
 |(t,e)::r,k,p,prev,now,rec,out,hE,h=>by
  rw [refL]
  by_cases h3:qy t=3
  ·by_cases hl:p.lines=[]
   ·have hp:prev=false:=by rw [h.hprev];simp [hl]
    have hw:xg prev t e r now.fields.length rec=2:=by
     unfold xg
     rw [if_pos (.inr (.inl ⟨h3,hp⟩))]
    rw [hw,if_pos (by decide),qfg (x:=((k:Int),2)) (qrg (by unfold jp;rw [if_pos h3,if_pos hl]))]
   ·cases e with
    |true=>
     have hp:prev=true:=by rw [h.hprev];simp [hl]
     have hw:xg prev t true r now.fields.length rec=0:=by
      unfold xg
      rw [if_neg (by simp [hp];omega),if_pos (by omega)]
     have ht:=qlg (qrq (no:=k) h3 hl) (by omega)
     rw [if_neg (by omega),if_neg (by omega)] at ht
     rw [hw,if_neg (by simp),if_neg (by omega),if_neg (by omega),qhb ht]
     have hm:=qgx (e:=true) (r:=r) h3
     have hok:=h.hok.resolve_left hl
     have hfs:=h.hfields
     rw [if_neg hl,hm] at hfs
     rw [hm] at hok
     refine qlc r (k+1) _ _ _ _ _ hE.2 ⟨by simp [h3],.inr (by simpa using hok),by rw [qmx,← h.hraw],by simp [hfs],h.hkind,h.hrec,h.hout,by simp,h.b1,h.b2⟩
    |false=>
     have hr:=hE.1 rfl
     subst hr
     have hw:xg prev t false [] now.fields.length rec=2:=by
      unfold xg
      rw [if_pos (.inr (.inr rfl))]
     have hok:=h.hok.resolve_left hl
     rw [qgx h3] at hok
     have hf:=qv9 (p:={ p with lines:=p.lines++[t] }) (.inr hok)
     rw [hw,if_pos (by decide),qfg (x:=((k:Int),2)) (qrh ((qrp h3 hl).trans hf) (.inr rfl))]
  ·have hm:=qme (e:=e) (r:=r) h3
   have hf:=h.flush hm
   have hc:=h.close hm
   by_cases hbad:qy t=5∨e=false
   ·have hw:xg prev t e r now.fields.length rec=2:=by
     unfold xg
     rw [if_pos (by rcases hbad with h|h;exact .inl h;exact .inr (.inr h))]
    rw [hw,if_pos (by decide)]
    by_cases h1:qy t=1
    ·rw [qfg (x:=((k:Int),2)) (qrh ((qke h1).trans (qul hf)) hbad)]
    ·rw [qfg (x:=((k:Int),2)) (qrh ((qgq h3 h1).trans hf) hbad)]
   ·have he:e=true:=by
     cases e with
     |true=>rfl
     |false=>exact absurd (.inr rfl) hbad
    have h5:qy t≠5:=fun h=>hbad (.inl h)
    subst he
    by_cases h1:qy t=1
    ·have hw:xg prev t true r now.fields.length rec=0:=by
      unfold xg
      rw [if_neg (by simp [h3,h5]),if_pos (by omega)]
     have ht:=qlg ((qke (no:=k) h1).trans (qul hf)) h5
     rw [if_pos h1,hc] at ht
     rw [hw,if_neg (by simp),if_pos h1,qhb ht]
     exact qlc r (k+1) _ _ _ _ _ hE.2 ⟨by simp,.inl rfl,rfl,by simp,by simp,by simp,rfl,by simp,by simp,h.b2⟩
    ·by_cases h4:qy t=4
     ·have ht:=qlg ((qgq (no:=k) h3 h1).trans hf) h5
      rw [if_neg h1,if_pos h4] at ht
      rw [qhb ht]
      have hb1:=h.b1
      have hb2:=h.b2
      have hrec:=h.hrec
      have hfull:(40≤now.fields.length∨(now.fields.length=0∧400≤rec))↔(now.fields.length=40∨(now.fields.length=0∧p.records=400)):=by
       by_cases hz:now.fields=[]
       ·rw [if_pos hz] at hrec
        simp only [hz,List.length_nil]
        constructor
        ·rintro (h'|h')
         ·exact absurd h' (by decide)
         ·exact .inr ⟨trivial,by omega⟩
        ·rintro (h'|h')
         ·exact absurd h' (by decide)
         ·exact .inr ⟨trivial,by omega⟩
       ·have:now.fields.length≠0:=fun h=>hz (List.length_eq_zero_iff.1 h)
        constructor
        ·rintro (h'|h')
         ·exact .inl (by omega)
         ·exact absurd h'.1 this
        ·rintro (h'|h')
         ·exact .inl (by omega)
         ·exact absurd h'.1 this
      have hw:xg prev t true r now.fields.length rec=qeg (t::vp r) (decide (now.fields.length=40∨(now.fields.length=0∧p.records=400))):=by
       unfold xg qeg
       rw [if_neg (by simp [h3,h5]),if_neg (by omega)]
       by_cases hu:(zn (t::vp r)).2≠0
       ·rw [if_pos hu,if_pos hu]
       ·rw [if_neg hu,if_neg hu]
        by_cases hx:40≤now.fields.length∨(now.fields.length=0∧400≤rec)
        ·rw [if_pos hx,if_pos (decide_eq_true (hfull.1 hx))]
        ·rw [if_neg hx,if_neg (by simpa using fun h=>hx (hfull.2 h))]
      by_cases hw0:xg prev t true r now.fields.length rec=0
      ·rw [if_neg (by simp [hw0]),if_neg h1,if_pos h4]
       have hx:¬ (40≤now.fields.length∨(now.fields.length=0∧400≤rec)):=fun hx=>by
        unfold xg at hw0
        rw [if_neg (by simp [h3,h5]),if_neg (by omega)] at hw0
        by_cases hu:(zn (t::vp r)).2≠0
        ·rw [if_pos hu] at hw0;exact hu hw0
        ·rw [if_neg hu,if_pos hx] at hw0;simp at hw0
       rw [hw] at hw0
       refine qlc r (k+1) _ _ _ _ _ hE.2 ⟨by simp [km],.inr hw0,by simp only [km];rw [qmx,← h.hraw],by simp [km],by simp,?_,h.hout,by simp [km],by simp;omega,?_⟩
       ·have hkd:=h.hkind
        simp only [km]
        by_cases hz:now.fields=[]
        ·rw [if_pos hz] at hrec hkd
         rw [hkd]
         simp
         omega
        ·rw [if_neg hz] at hrec hkd
         rw [hkd]
         simp
         omega
       ·rw [h.hkind]
        by_cases hz:now.fields=[]
        ·have:now.fields.length=0:=by rw [hz];rfl
         rw [if_pos hz,if_pos rfl]
         omega
        ·rw [if_neg hz,if_neg (by decide)]
         exact hb2
      ·rw [if_pos hw0]
       have:=q0s r { km { p with lines:=[],fields:=now.fields } k t with block:=p.block++[t] } (k+1) (xg prev t true r now.fields.length rec) hE.2 (by simp [km]) hw.symm hw0
       simp only [km] at this ⊢
       rw [this]
     ·have hw:xg prev t true r now.fields.length rec=0:=by
       unfold xg
       rw [if_neg (by simp [h3,h5]),if_pos h4]
      have ht:=qlg ((qgq (no:=k) h3 h1).trans hf) h5
      rw [if_neg h1,if_neg h4] at ht
      rw [hw,if_neg (by simp),if_neg h1,if_neg h4,qhb ht]
      exact qlc r (k+1) _ _ _ _ _ hE.2 ⟨by simp [h3],.inl rfl,by rw [qmx,← h.hraw],by simp,h.hkind,h.hrec,h.hout,by simp,h.b1,h.b2⟩
theorem qku (text:qa):refL 0 (zq text) false ⟨2,[],[]⟩ 0 []=jt text:=by
 unfold jt
 exact qlc (zq text) 0 p0 false ⟨2,[],[]⟩ 0 [] (qp5 _ text (Nat.le_refl _)) ⟨by simp [p0],.inl rfl,rfl,by simp [p0],by simp,by simp [p0],rfl,by simp [p0],by simp,by omega⟩
end Go.Pl
namespace Go.Pl
open Go Go.Proofs Go.Proofs.YtmoklbacdkmkaaaGreatDoor
theorem qth {l b:qa} {n:Int} (h:ze l=(1,b,n)):yi b∧∃ m,l=recF b++m∧n=(recF b).length:=by
 unfold ze at h
 split at h
 ·rename_i h10
  split at h
  ·rename_i ho
   generalize hr:past 10 l=r at *
   have hl:=v7 h10
   rw [hr] at hl
   generalize hu:upto 10 l=u at *
   have hop:u=v8 (z8 u).1 (z8 u).2.1∧2≤(z8 u).1∧(z8 u).1≤50000:=by
    simp only [z8,decide_eq_true_eq] at ho ⊢
    obtain⟨o1,o2,o3,o4,o5⟩:=ho
    refine⟨?_,o3,y8 _⟩
    obtain⟨t,rfl⟩:=o1
    rw [qib] at *
    have:=qb1 rfl (Nat.le_trans (by decide) o3)
    unfold v8
    rw [← this,← v7 o2]
   generalize (z8 u).1=n at *
   generalize (z8 u).2.1=fig at *
   obtain⟨rfl,h2,hn⟩:=hop
   split at h
   ·unfold xq at h
    split at h <;> simp at h
   ·rename_i hge
    split at h
    ·rename_i hg
     have hlen:(r.take n).length=n:=by simp;omega
     unfold w6 at h
     rw [hlen] at h
     split at h
     ·simp at h
     ·split at h
      ·rename_i hc
       obtain⟨⟨m,hm⟩,hs⟩:=hc
       simp only [Prod.mk.injEq,true_and] at h
       obtain⟨rfl,rfl⟩:=h
       refine⟨hg,m,?_,?_⟩
       ·rw [qo9,hlen,← hs,hl]
        unfold recL
        conv=>lhs;rw [← List.take_append_drop n r,← hm]
        simp
       ·rw [q2s _ hg,hlen]
      ·simp at h
    ·simp at h
  ·simp at h
 ·split at h <;> simp at h
theorem quu (s sub:qa) (i:Nat):Lib.occAt s sub i=true↔sub <+: s.drop i:=by
 unfold Lib.occAt
 rw [List.isPrefixOf_iff_prefix]
theorem zge {a:qa} (r:qa) (h:10∉a):Lib.cut (a++10::10::r) [10,10]=(a,r,true):=by
 have hi:Lib.index (a++10::10::r) [10,10]=(a.length:Int):=by
  refine Lib.index_first (by simp) ?_ fun j hj=>?_
  ·rw [quu,List.drop_left]
   exact⟨r,rfl⟩
  ·cases hb:Lib.occAt (a++10::10::r) [10,10] j with
   |false=>rfl
   |true=>
    obtain⟨t,ht⟩:=(quu _ _ _).1 hb
    rw [List.drop_append_of_le_length (by omega)] at ht
    have:a.drop j≠[]:=by
     intro e
     have:=congrArg List.length e
     simp at this
     omega
    obtain⟨c,q,hq⟩:=List.exists_cons_of_ne_nil this
    rw [hq] at ht
    have h10:c=10:=by simpa using (List.cons.inj ht).1.symm
    exact absurd (List.mem_of_mem_drop (by rw [hq,h10];simp:(10:UInt8)∈a.drop j)) h
 unfold Lib.cut
 rw [hi,if_pos (by omega)]
 simp only [Int.toNat_natCast,List.take_left',List.length_cons,List.length_nil]
 rw [show a.length+(0+1+1)=(a++[10,10]).length by simp,show a++10::10::r=(a++[10,10])++r by simp,List.drop_left]
theorem zbb {l m:qa} (h:(Lib.cut l m).2.2=true):l=(Lib.cut l m).1++m++(Lib.cut l m).2.1:=by
 rcases Lib.index_spec l m with⟨h1,_⟩ | ⟨i,h1,h2,h3,_⟩
 ·unfold Lib.cut at h
  rw [h1,if_neg (by omega)] at h
  simp at h
 ·unfold Lib.cut
  rw [h1,if_pos (by omega)]
  simp only [Int.toNat_natCast]
  obtain⟨t,ht⟩:=(quu _ _ _).1 h3
  have e:l.drop (i+m.length)=t:=by rw [← List.drop_drop,← ht,List.drop_left]
  rw [e,List.append_assoc,ht,List.take_append_drop]
def genL:qa:=[35,37,103,101,110,32]
def yf (n:Int):qa:=genL++Lib.itoa n++[10,10]
def xb (n:Int):Prop:=1≤n∧n≤2147483648
instance (n:Int):Decidable (xb n):=inferInstanceAs (Decidable (_∧_))
def wb (text:qa):Int×qa:=
 if genL <+: text then
  match numZ (upto 10 (text.drop 6)) with
  |some n=>if xb n∧[10,10] <+: text.drop (6+(upto 10 (text.drop 6)).length) then (n,text.drop (8+(upto 10 (text.drop 6)).length)) else (0,text)
  |none=>(0,text)
 else (0,text)
theorem ql8 (v:Int):(10:UInt8)∉Lib.itoa v:=by
 intro h
 by_cases hv:v<0
 ·rw [qex hv] at h
  rcases List.mem_cons.1 h with h|h
  ·simp at h
  ·have:=wy _ _ (Nat.le_refl _) _ h
   simp at this
 ·rw [qey (by omega)] at h
  have:=wy _ _ (Nat.le_refl _) _ h
  simp at this
theorem ql9 (n:Int) (r:qa):yf n++r=genL++(Lib.itoa n++10::10::r):=by simp [yf]
theorem qmv {n:Int} (h:xb n) (r:qa):wb (yf n++r)=(n,r):=by
 unfold wb
 have hd:(genL++(Lib.itoa n++10::10::r)).drop 6=Lib.itoa n++10::10::r:=by rw [show (6:Nat)=genL.length by rfl,List.drop_left]
 rw [ql9,if_pos (List.prefix_append _ _),hd,vu _ (ql8 n),qfc (by have:=h.1;omega) (by have:=h.2;omega)]
 have e1:(genL++(Lib.itoa n++10::10::r)).drop (6+(Lib.itoa n).length)=10::10::r:=by rw [← List.drop_drop,hd,List.drop_left]
 have e2:(genL++(Lib.itoa n++10::10::r)).drop (8+(Lib.itoa n).length)=r:=by
  rw [show 8+(Lib.itoa n).length=(6+(Lib.itoa n).length)+2 by omega,← List.drop_drop,e1]
  rfl
 simp only
 rw [e1,e2,if_pos ⟨h,r,rfl⟩]
theorem qou {text:qa} (h:∀ n r,xb n→text≠yf n++r):wb text=(0,text):=by
 unfold wb
 split
 ·rename_i hp
  obtain⟨t,rfl⟩:=hp
  have hd:(genL++t).drop 6=t:=by rw [show (6:Nat)=genL.length by rfl,List.drop_left]
  rw [hd]
  split
  ·rename_i n hn
   split
   ·rename_i hc
    obtain⟨hg,r,hr⟩:=hc
    rw [← List.drop_drop,hd] at hr
    obtain⟨he,_⟩:=qj7 hn
    refine absurd ?_ (h n r hg)
    rw [ql9,← he]
    congr 1
    conv=>lhs;rw [← List.take_append_drop (upto 10 t).length t,qfk,← hr]
    rfl
   ·rfl
  ·rfl
 ·rfl
theorem qqe (text:qa):(∃ n r,xb n∧text=yf n++r∧wb text=(n,r))∨((∀ n r,xb n→text≠yf n++r)∧wb text=(0,text)):=by
 by_cases h:∃ n r,xb n∧text=yf n++r
 ·obtain⟨n,r,hg,rfl⟩:=h
  exact .inl ⟨n,r,hg,rfl,qmv hg r⟩
 ·have h':∀ n r,xb n→text≠yf n++r:=fun n r hg e=>h ⟨n,r,hg,e⟩
  exact .inr ⟨h',qou h'⟩
def wz (n:Int):qa:=if xb n then yf n else []
theorem qg3 (text:qa):text=wz (wb text).1++(wb text).2∧((wb text).1=0∨xb (wb text).1):=by
 rcases qqe text with⟨n,r,hg,he,ht⟩ | ⟨_,ht⟩
 ·rw [ht]
  simp only
  unfold wz
  rw [if_pos hg]
  exact⟨he,.inr hg⟩
 ·rw [ht]
  exact⟨rfl,.inl rfl⟩
theorem qwi {n:Int} (h:xb n):(yf n).length≤28:=by
 have:=qj1 (v:=n) (by have:=h.1;omega) (by have:=h.2;omega)
 simp [yf,genL]
 omega
def begF (l:qa):Bool:=decide (l.head? = some 37∧qy l=5)
def jc (n:Nat) (l:qa):Nat:=if h:l=[] then n else if begF (upto 10 l)=true then n - l.length else jc n (past 10 l)
 termination_by l.length
 decreasing_by exact w9 h
theorem qht (n:Nat):jc n []=n:=by rw [jc,dif_pos rfl]
theorem qlu {n:Nat} {l:qa} (h:l≠[]) (hb:begF (upto 10 l)=true):jc n l=n - l.length:=by rw [jc,dif_neg h,if_pos hb]
theorem qno {n:Nat} {l:qa} (h:l≠[]) (hb:¬ begF (upto 10 l)=true):jc n l=jc n (past 10 l):=by
 conv=>lhs;rw [jc]
 rw [dif_neg h,if_neg hb]
theorem qnn:∀ (k n:Nat) (l:qa),l.length≤k→l.length≤n→n - l.length≤jc n l∧jc n l≤n
 | 0,n,l,h,hn=>by
  have:l=[]:=List.length_eq_zero_iff.1 (by omega)
  subst this
  rw [qht]
  simp
 |k+1,n,l,h,hn=>by
  by_cases hl:l=[]
  ·subst hl;rw [qht];simp
  ·by_cases hb:begF (upto 10 l)=true
   ·rw [qlu hl hb]
    omega
   ·have:=w9 (c:=10) hl
    rw [qno hl hb]
    have:=qnn k n (past 10 l) (by omega) (by omega)
    omega
theorem qh6:∀ (r:List (qa×Bool)) (k:Nat) (prev:Bool) (now:jj) (rec:Int) (out:List jj),(refL k r prev now rec out).1=none→∀ x∈r,qy x.1≠5∧x.2=true
 | [],_,_,_,_,_,_=>by simp
 |(t,e)::r,k,prev,now,rec,out,h=>by
  rw [refL] at h
  split at h
  ·simp at h
  ·rename_i hw
   have hx:qy t≠5∧e=true:=by
    unfold xg at hw
    split at hw
    ·simp at hw
    ·rename_i hc
     exact⟨fun h5=>hc (.inl h5),by cases e with|true=>rfl|false=>exact absurd (.inr (.inr rfl)) hc⟩
   have hr:∀ x∈r,qy x.1≠5∧x.2=true:=by
    split at h
    ·exact qh6 r _ _ _ _ _ h
    ·split at h
     ·exact qh6 r _ _ _ _ _ h
     ·exact qh6 r _ _ _ _ _ h
   intro x hx'
   rcases List.mem_cons.1 hx' with rfl|hx'
   ·exact hx
   ·exact hr x hx'
theorem q2p {text:qa} (h:(jt text).1=none):∀ x∈zq text,begF x.1=false∧x.2=true:=fun x hx=>by
 rw [← qku] at h
 obtain⟨h1,h2⟩:=qh6 _ _ _ _ _ _ h x hx
 exact⟨by simp [begF,h1],h2⟩
theorem qjp {n:Nat} {fig l:qa} (hf:wo fig) (h:l <+: v8 n fig) (hne:l≠[]):begF l=true:=by
 have h10:10∉l:=qij h (qbm n hf)
 have h58:(58:UInt8)∉l:=qij h fun h'=>by
  unfold v8 at h'
  rcases List.mem_append.1 h' with h'|h'
  ·revert h';decide
  ·rcases List.mem_append.1 h' with h'|h'
   ·exact qdx n (by decide) h'
   ·rcases List.mem_cons.1 h' with h'|h'
    ·simp at h'
    ·exact qn4 hf (by decide) h'
 obtain⟨c,q,rfl⟩:=List.exists_cons_of_ne_nil hne
 have hc:c=37:=by
  obtain⟨t,ht⟩:=h
  unfold v8 q8 at ht
  exact (List.cons.inj ht).1
 subst hc
 have hk:=qp4 h10 (fun hb=>by
  have:=hb 37 (by simp)
  revert this
  decide)
 simp only [begF,List.head?_cons,true_and,decide_eq_true_eq]
 rw [hk.2]
 rw [if_neg (by simp),if_neg (by simp [wd]),if_neg (fun h=>h58 h.1)]
theorem q7r {n:Nat} {fig body l:qa} (hf:wo fig) (h:l <+: recL n fig body) (hne:l≠[]):begF (upto 10 l)=true:=by
 rcases qfd (show l <+: v8 n fig++10::(body++yl n) from h) with h | ⟨r,rfl,hr⟩
 ·rw [ww (qij h (qbm n hf))]
  exact qjp hf h hne
 ·cases r with
  |nil=>
   rw [List.append_nil,ww (qbm n hf)]
   exact qjp hf (List.prefix_refl _) (by simp [v8,q8])
  |cons c r=>
   have:c=10:=by obtain⟨t,ht⟩:=hr;exact (List.cons.inj ht).1
   subst this
   rw [vu _ (qbm n hf)]
   exact qjp hf (List.prefix_refl _) (by simp [v8,q8])
theorem zd5 {b:qa} (x:qa) (hg:yi b):begF (upto 10 (recF b++x))=true:=by
 rw [qo9]
 have hx:wo (sumF b):=q2h (addP 0 b)
 unfold recL
 rw [List.append_assoc,List.cons_append,vu _ (qbm _ hx)]
 exact qjp hx (List.prefix_refl _) (by simp [v8,q8])
theorem qs3:∀ (n:Nat) (l:qa) (k a:Nat),l.length≤n→∀ x∈vd k a l,x.text.length≤l.length
 |n,l,k,a,hn,x,hx=>by
  by_cases h:l=[]
  ·subst h;rw [qaj] at hx;simp at hx
  ·have hlt:=w9 (c:=10) h
   cases n with
   |zero=>omega
   |succ n=>
    rw [qak h] at hx
    rcases List.mem_cons.1 hx with rfl|hx
    ·exact ko 10 l
    ·have:=qs3 n (past 10 l) (k+1) (a+(upto 10 l).length+1) (by omega) x hx
     omega
theorem qx8 {out:List qs} {e:qs} {f:Fld} (h:out[out.length - 1]? = some e):addF out f=out.set (out.length - 1) ⟨e.kind,e.id,e.fields++[f]⟩:=by
 have hl:out.getLast? = some e:=by rw [List.getLast?_eq_getElem?];exact h
 have hne:out≠[]:=fun e0=>by subst e0;simp at hl
 unfold addF
 rw [hl]
 have hd:=qpv hl
 simp only
 generalize hq:out.dropLast=q at hd
 subst hd
 simp
theorem qph (out:List qs) (f:Fld):(addF out f).length=out.length:=by
 unfold addF
 cases h:out.getLast? with
 |none=>rfl
 |some x=>
  have hne:out≠[]:=fun e0=>by subst e0;simp at h
  have:=List.length_pos_iff.2 hne
  simp
  omega
def qx2 (l:qa) (r:List qa) (o:List qs) (h:List qa):Option (List qs):=
 if [32,32] <+: l then if o=[] then none else kj r o (h++[l.drop 2])
 else match begR l with
  |none=>none
  |some (k,n)=>if 40≤o.length then none else kj r (o++[⟨k,n,[]⟩]) h
def qde (held:List qa):List qa→Bool
 | []=>decide (held≠[])
 |l::_=>decide (held≠[]∧¬ [32,32,32] <+: l)
def qnd (R:List qa) (out:List qs) (held:List qa) (o:List qs) (h:List qa):Prop:=
 if qde held R=true then yv out held=some o∧h=[] else o=out∧h=held
theorem q4s {l:qa} {r:List qa} {out o:List qs} {held h:List qa} (e:qnd (l::r) out held o h):kj (l::r) out held=qx2 l r o h∧(h=[]∨[32,32,32] <+: l):=by
 unfold qnd at e
 rw [kj]
 by_cases hc:held≠[]∧¬ [32,32,32] <+: l
 ·rw [if_pos (by simp [qde,hc.1,hc.2])] at e
  rw [if_pos hc,e.1,e.2]
  exact⟨rfl,.inl rfl⟩
 ·rw [if_neg (by simpa [qde] using hc)] at e
  rw [if_neg hc,e.1,e.2]
  refine⟨rfl,?_⟩
  by_cases h0:held=[]
  ·exact .inl h0
  ·exact .inr (Classical.byContradiction fun h=>hc ⟨h0,h⟩)
theorem qzl {R:List qa} {out:List qs} {held:List qa} (h:qde held R=true) (hu:(zn held).2≠0):kj R out held=none:=by
 cases R with
 |nil=>
  have h0:held≠[]:=of_decide_eq_true h
  rw [kj]
  unfold yv
  rw [if_neg h0,if_neg hu]
 |cons l q=>
  obtain⟨h0,hl⟩:held≠[]∧¬ [32,32,32] <+: l:=of_decide_eq_true h
  have hf:yv out held=none:=by unfold yv;rw [if_neg h0,if_neg hu]
  rw [kj,if_pos ⟨h0,hl⟩,hf]
  rfl
theorem qzm {out:List qs} {held:List qa} (h0:held≠[]) (hu:(zn held).2=0):yv out held=some (addF out (zn held).1):=by
 unfold yv
 rw [if_neg h0,if_pos hu]
def qic (l:qa):Nat→Option (Int×Int)
 | 0=>none
 |j+1=>tryR l (qic l j) ((j:Int)+1)
theorem q3c (l:qa):qic l 3=begR l:=rfl
end Go.Pl
namespace Go.Proofs.YtmoklbacdkmkaaaGreatDoor
open Go Go.Av Go.RowKit Go.Proofs Go.Pl
theorem q02 (x:Option (List qs)):Pure (qca x):=by
 rcases x with _|b
 ·exact kf (qef _) (qr _)
 ·exact kf (qef _) (qr _)
theorem q0w (l w:qa) (b:Bool) (h:decide (w <+: l)=b) (st:List AObj):qo E 122 [Sv l,Sv w] st fun r st'=>r=Bv b∧st'=st:=h▸qks l w st
def qlk (l:qa) (j:Nat) (a b:Int):Prop:=(a=0∧b=0∧qic l j=none)∨(1≤a∧qic l j=some (a,b))
set_option maxHeartbeats 8000000 in
theorem q2x (text:qa) (st:List AObj) (hl:text.length<1000000):qo E 65 [Sv text] st fun r st'=>r=qca (decF text)∧st'=st:=by
 refine zm [.s text] (q02 _) Tryz.func65 rfl rfl (fun _=>rfl) rfl fun S0=>?_
 rw [← q9g]
 by_cases hbig:50000<text.length
 ·have hd:qcb text=none:=if_pos hbig
  rw [hd]
  unfold qca
  apply qd []
  repeat' (first|apply And.intro|(intro h;try exact cDd)|exact cSd|apply qb []|refine exr ?_|refine qh ?_)
 have hdf:qcb text=match kj ((lns text).map fun x=>x.text) [] [] with
  |none=>none
  |some b=>if eErr b = .no∧encF b=text then some b else none:=if_neg hbig
 have hsp:=fun st=>qh7 text st (by omega)
 have hlm:((lns text).map lnA).length=(lns text).length:=by simp
 have hln:(lns text).length≤text.length:=qch _ text 0 0 (Nat.le_refl _)
 have hll:=qs3 _ text 0 0 (Nat.le_refl _)
 have hlt:∀ x∈lns text,x.text.length≤text.length:=hll
 have h0i:Lib.itoa 0=[48]:=by rw [qey (by decide),Lib.decDigits_one (by decide)];rfl
 generalize lns text=L at *
 clear hll
 apply qd []
 repeat' (first|apply And.intro|(intro h;try exact cDd)|exact⟨Tryz.call61⟩|refine cpe hsp ?_|exact cSd|apply qb []|refine exr ?_|refine qh ?_)
 refine ji (X:=Nat×List qs×List qa) (fun (k,out,held)=>⟨[(0,.s text),(4,.tp 0),(5,.tp 1),(6,.a (lnsA L)),(7,.i k)],[(0,some (.own 3 97 (out.map jb))),(1,some (.tip 1 9 (held.map fun x=>Sv x)))],2⟩)
  (fun (k,out,held)=>OutG out k∧out.length≤40∧held.length≤k∧k≤L.length+1∧(held≠[]→out≠[])∧(∀ s∈held,s.length<1000000) ∧
   ((k≤L.length∧kj ((L.map fun x=>x.text).drop k) out held=kj (L.map fun x=>x.text) [] [])∨(k=L.length+1∧kj (L.map fun x=>x.text) [] []=some out)))
  (fun (k,out,held)=>L.length+1 - k) (0,[],[]) ⟨by intro x hx;simp at hx,by simp,by simp,by omega,by simp,by simp,.inl ⟨by omega,rfl⟩⟩ ?_ ?_
 ·skip
  repeat' (first|apply And.intro|(intro h;try exact cDd)|exact cSd|apply qb []|refine exr ?_|refine qh ?_)
  all_goals (simp;done)
 ·rintro⟨k,out,held⟩ ⟨hG,h40,hh,hk,hne,hhb,hR⟩
  have hmo:(out.map jb).length=out.length:=by simp
  have hmh:(held.map fun x=>Sv x).length=held.length:=by simp
  rcases hR with⟨hk,hR⟩ | ⟨rfl,hR⟩
  ·have hun:=fun st=>qi7 held st ⟨by omega,hhb⟩
   unfold qbr at hun
   by_cases hkn:k=L.length
   ·-- the end: what is held is flushed
    rw [hkn,List.drop_of_length_le (by simp)] at hR
    by_cases h0:held=[]
    ·subst h0
     rw [kj] at hR
     unfold yv at hR
     rw [if_pos rfl] at hR
     apply qd []
     repeat' (first|apply And.intro|(intro h;try exact cDd)|(refine Exists.intro (k+1,out,[]) ⟨⟨hG.mono (by omega),h40,by simp,by omega,by simp,by simp,.inr ⟨by omega,hR.symm⟩⟩,by simp only;omega,?_⟩)|exact cSd|apply qb []|refine exr ?_|refine qh ?_)
     all_goals (simp;done)
    ·have hz:0<held.length:=List.length_pos_iff.2 h0
     have hop:0<out.length:=List.length_pos_iff.2 (hne h0)
     by_cases hu:(zn held).2=0
     ·have hgf:=qg4 hu
      rw [kj,qzm h0 hu] at hR
      rw [hu] at hun
      generalize (zn held).1=f at hgf hun hR
      obtain⟨e,he⟩:∃ e,out[out.length - 1]? = some e:=⟨_,List.getElem?_eq_getElem (by omega)⟩
      have heA:(out.map jb)[out.length - 1]? = some (jb e):=by simp [he]
      have hef:=(hG e (List.mem_of_getElem? he)).2.1
      have hmf:(e.fields.map fldA).length=e.fields.length:=by simp
      have hadd:=qx8 (f:=f) he
      have hal:=qph out f
      obtain⟨fk,fv⟩:=f
      apply qd []
      repeat' (first|apply And.intro|(intro h;try exact cDd)|exact⟨Tryz.call110⟩|refine cpe hun ?_|(refine qgi (i:=out.length - 1) rfl rfl rfl (congrArg (fun x=>some (IntKind.i64,x)) (by omega)) rfl rfl (by omega) ?_)|(refine qi3 (i:=out.length - 1) (j:=2) rfl rfl rfl rfl heA rfl rfl ?_)|(refine qmg (i:=out.length - 1) (j:=2) (z:=jb e) (z':=.ag [Iv e.kind,Iv e.id,.sl 2 (e.fields.map fldA++[fldA (fk,fv)]) none]) (u:=.sl 2 (e.fields.map fldA++[fldA (fk,fv)]) none) rfl rfl rfl rfl rfl rfl heA rfl rfl ?_)|(refine Exists.intro (k+1,addF out (fk,fv),[]) ⟨⟨qx7 hG hgf,by omega,by simp,by omega,by simp,by simp,.inr ⟨by omega,hR.symm⟩⟩,by simp only;omega,?_⟩)|exact cSd|apply qb []|refine exr ?_|refine qh ?_)
      all_goals first|(simp;done)|(rw [hadd,List.map_set];simp [jb,jq,List.map_append];done)
     ·have hnn:qcb text=none:=by
       rw [hdf,← hR,kj]
       unfold yv
       rw [if_neg h0,if_neg hu]
      rw [hnn]
      unfold qca
      generalize (zn held).2=n at hun hu
      generalize (zn held).1=f at hun
      obtain⟨fk,fv⟩:=f
      apply qd []
      repeat' (first|apply And.intro|(intro h;try exact cDd)|exact⟨Tryz.call110⟩|refine cpe hun ?_|exact cSd|apply qb []|refine exr ?_|refine qh ?_)
   ·-- a line
    obtain⟨x,hx⟩:∃ x,L[k]? = some x:=⟨_,List.getElem?_eq_getElem (by omega)⟩
    have hxm:(L.map lnA)[k]? = some (lnA x):=by simp [hx]
    have hxl:=hlt x (List.mem_of_getElem? hx)
    have hdr:(L.map fun x=>x.text).drop k=x.text::(L.map fun x=>x.text).drop (k+1):=by
     rw [List.drop_eq_getElem_cons (by simp;omega)]
     obtain⟨_,h⟩:=List.getElem?_eq_some_iff.1 hx
     simp [h]
    rw [hdr] at hR
    have hb3:=fun st=>qks x.text [32,32,32] st
    have hb2:=fun st=>qks x.text [32,32] st
    have hpre:[32,32,32] <+: x.text→[32,32] <+: x.text:=fun ⟨q,hq⟩=>⟨[32]++q,by rw [← hq];rfl⟩
    have hmain:qcb text=none∧(held≠[]∧¬ [32,32,32] <+: x.text∧(zn held).2≠0)∨∃ (o:List qs) (h:List qa),(qx2 x.text ((L.map fun x=>x.text).drop (k+1)) o h=kj (L.map fun x=>x.text) [] []∧(h=[]∨[32,32,32] <+: x.text))∧OutG o (k+1)∧o.length≤40∧h.length≤k∧(h≠[]→o≠[])∧(∀ s∈h,s.length<1000000) ∧
      ((o=out∧h=held∧held=[])∨(o=out∧h=held∧0<held.length∧[32,32,32] <+: x.text)∨(h=[]∧0<held.length∧¬ [32,32,32] <+: x.text∧∃ (e:qs) (fk fv:qa),(out.map jb)[out.length - 1]? = some (jb e)∧e.fields.length≤k∧o=out.set (out.length - 1) ⟨e.kind,e.id,e.fields++[(fk,fv)]⟩∧0<out.length∧∀ st,qo E 110 [Ss held] st fun r st'=>r = .tu [fldA (fk,fv),Iv 0]∧st'=st)):=by
     have step:∀ (o:List qs) (h:List qa),qnd (x.text::(L.map fun x=>x.text).drop (k+1)) out held o h→qx2 x.text ((L.map fun x=>x.text).drop (k+1)) o h=kj (L.map fun x=>x.text) [] []∧(h=[]∨[32,32,32] <+: x.text):=fun o h e=>by
      obtain⟨g1,g2⟩:=q4s e
      exact⟨by rw [← g1,hR],g2⟩
     by_cases hfl:held≠[]∧¬ [32,32,32] <+: x.text
     ·have hf:qde held (x.text::(L.map fun x=>x.text).drop (k+1))=true:=by simp [qde,hfl.1,hfl.2]
      by_cases hu:(zn held).2=0
      ·have hop:0<out.length:=List.length_pos_iff.2 (hne hfl.1)
       have hfo:=qzm (out:=out) hfl.1 hu
       have hgf:=qg4 hu
       rw [hu] at hun
       obtain⟨e,he⟩:∃ e,out[out.length - 1]? = some e:=⟨_,List.getElem?_eq_getElem (by omega)⟩
       refine .inr ⟨addF out (zn held).1,[],step _ _ ?_,qx7 hG hgf,by rw [qph];exact h40,by simp,by simp,by simp,.inr (.inr ⟨rfl,List.length_pos_iff.2 hfl.1,hfl.2,e,_,_,by simp [he],(hG e (List.mem_of_getElem? he)).2.1,qx8 he,hop,hun⟩)⟩
       unfold qnd
       rw [if_pos hf]
       exact⟨hfo,rfl⟩
      ·exact .inl ⟨by rw [hdf,← hR,qzl hf hu],hfl.1,hfl.2,hu⟩
     ·have hf:¬ qde held (x.text::(L.map fun x=>x.text).drop (k+1))=true:=by simpa [qde] using hfl
      refine .inr ⟨out,held,step _ _ ?_,hG.mono (by omega),h40,hh,hne,hhb,?_⟩
      ·unfold qnd
       rw [if_neg hf]
       exact⟨rfl,rfl⟩
      ·by_cases h0:held=[]
       ·exact .inl ⟨rfl,rfl,h0⟩
       ·exact .inr (.inl ⟨rfl,rfl,List.length_pos_iff.2 h0,Classical.byContradiction fun h=>hfl ⟨h0,h⟩⟩)
    rcases hmain with⟨hnn,h0,hp3,hu⟩ | ⟨o,h,⟨hst,hh0⟩,hG',h40',hh',hne',hhb',hcase⟩
    ·have hz:0<held.length:=List.length_pos_iff.2 h0
     rw [decide_eq_false hp3] at hb3
     rw [hnn]
     unfold qca
     generalize (zn held).2=n at hun hu
     generalize (zn held).1=f at hun
     obtain⟨fk,fv⟩:=f
     apply qd []
     repeat' (first|apply And.intro|(intro h;try exact cDd)|(refine Exists.intro (k) ⟨by omega,_,hxm,?_⟩)|exact⟨Tryz.call122⟩|refine cpe hb3 ?_|exact⟨Tryz.call110⟩|refine cpe hun ?_|exact cSd|apply qb []|refine exr ?_|refine qh ?_)
    clear hR hG h40 hh hne hhb
    unfold qx2 at hst
    have hmo':(o.map jb).length=o.length:=by simp
    have hmh':(h.map fun x=>Sv x).length=h.length:=by simp
    by_cases h2:[32,32] <+: x.text
    ·have h2l:2≤x.text.length:=h2.length_le
     rw [decide_eq_true h2] at hb2
     rw [if_pos h2] at hst
     by_cases ho:o=[]
     ·rw [if_pos ho] at hst
      have hnn:qcb text=none:=by rw [hdf,← hst]
      rw [hnn]
      unfold qca
      rcases hcase with⟨rfl,rfl,h0⟩ | ⟨rfl,rfl,h0,hp3⟩ | ⟨_,_,_,_,_,_,_,_,e,h0,_⟩
      ·have hz:h.length=0:=by simp [h0]
       have hz2:o.length=0:=by simp [ho]
       apply qd []
       repeat' (first|apply And.intro|(intro h;try exact cDd)|(refine Exists.intro (k) ⟨by omega,_,hxm,?_⟩)|exact⟨Tryz.call122⟩|refine cpe hb2 ?_|exact cSd|apply qb []|refine exr ?_|refine qh ?_)
      ·have hz2:o.length=0:=by simp [ho]
       rw [decide_eq_true hp3] at hb3
       apply qd []
       repeat' (first|apply And.intro|(intro h;try exact cDd)|(refine Exists.intro (k) ⟨by omega,_,hxm,?_⟩)|exact⟨Tryz.call122⟩|refine cpe hb3 ?_|exact⟨Tryz.call122⟩|refine cpe hb2 ?_|exact cSd|apply qb []|refine exr ?_|refine qh ?_)
      ·exact absurd (congrArg List.length (ho.symm.trans e)) (by simp;omega)
     ·rw [if_neg ho] at hst
      have hz2:0<o.length:=List.length_pos_iff.2 ho
      have hhs:∀ s∈h++[x.text.drop 2],s.length<1000000:=fun s hs=>by
       rcases List.mem_append.1 hs with hs|hs
       ·exact hhb' s hs
       ·obtain rfl:=List.mem_singleton.1 hs
        rw [List.length_drop]
        omega
      obtain⟨hn,hhn⟩:∃ hn,hn=h++[x.text.drop 2]:=⟨_,rfl⟩
      have hnl:hn.length≤k+1:=by rw [hhn];simp;omega
      rw [← hhn] at hst hhs
      rcases hcase with⟨rfl,rfl,h0⟩ | ⟨rfl,rfl,h0,hp3⟩ | ⟨rfl,h0,hp3,e,fk,fv,heA,hef,hadd,hop,hun'⟩
      case' neg.inl=>have hz:h.length=0:=by simp [h0]
      case' neg.inr.inl=>rw [decide_eq_true hp3] at hb3
      case' neg.inr.inr=>
       rw [decide_eq_false hp3] at hb3
       have hmf:(e.fields.map fldA).length=e.fields.length:=by simp
       have hol:out.length=o.length:=by rw [hadd,List.length_set]
       have hsl:((out.map jb).set (out.length - 1) (.ag [Iv e.kind,Iv e.id,.sl 2 (e.fields.map fldA++[fldA (fk,fv)]) none])).length=o.length:=by simp [hol]
      all_goals
       apply qd []
       repeat' (first|apply And.intro|(intro h;try exact cDd)|(refine Exists.intro (k) ⟨by omega,_,hxm,?_⟩)|exact⟨Tryz.call122⟩|refine cpe hb3 ?_|exact⟨Tryz.call122⟩|refine cpe hb2 ?_|exact⟨Tryz.call110⟩|refine cpe hun' ?_|(refine qgi (i:=out.length - 1) rfl rfl rfl (congrArg (fun x=>some (IntKind.i64,x)) (by omega)) rfl rfl (by omega) ?_)|(refine qi3 (i:=out.length - 1) (j:=2) rfl rfl rfl rfl heA rfl rfl ?_)|(refine qmg (i:=out.length - 1) (j:=2) (z:=jb e) (z':=.ag [Iv e.kind,Iv e.id,.sl 2 (e.fields.map fldA++[fldA (fk,fv)]) none]) (u:=.sl 2 (e.fields.map fldA++[fldA (fk,fv)]) none) rfl rfl rfl rfl rfl rfl heA rfl rfl ?_)|(refine Exists.intro (k+1,o,hn) ⟨⟨hG',h40',hnl,by omega,fun _=>ho,hhs,.inl ⟨by omega,hst⟩⟩,by simp only;omega,?_⟩)|exact cSd|apply qb []|refine exr ?_|refine qh ?_)
       all_goals first|(simp [hhn];done)|(rw [hadd,List.map_set];simp [jb,jq,List.map_append];done)
    ·rw [decide_eq_false h2] at hb2
     rw [if_neg h2] at hst
     obtain rfl:h=[]:=hh0.resolve_right fun q=>h2 (hpre q)
     rcases hcase with⟨rfl,rfl,h0⟩ | ⟨_,_,_,hp3⟩ | ⟨_,h0,hp3,e,fk,fv,heA,hef,hadd,hop,hun'⟩
     case neg.inr.inl=>exact absurd (hpre hp3) h2
     case' neg.inr.inr=>
      rw [decide_eq_false hp3] at hb3
      have hmf:(e.fields.map fldA).length=e.fields.length:=by simp
      have hol:out.length=o.length:=by rw [hadd,List.length_set]
      have hsl:((out.map jb).set (out.length - 1) (.ag [Iv e.kind,Iv e.id,.sl 2 (e.fields.map fldA++[fldA (fk,fv)]) none])).length=o.length:=by simp [hol]
     all_goals
      apply qd []
      repeat' (first|apply And.intro|(intro h;try exact cDd)|(refine Exists.intro (k) ⟨by omega,_,hxm,?_⟩)|exact⟨Tryz.call122⟩|refine cpe hb3 ?_|exact⟨Tryz.call122⟩|refine cpe hb2 ?_|exact⟨Tryz.call110⟩|refine cpe hun' ?_|(refine qgi (i:=out.length - 1) rfl rfl rfl (congrArg (fun x=>some (IntKind.i64,x)) (by omega)) rfl rfl (by omega) ?_)|(refine qi3 (i:=out.length - 1) (j:=2) rfl rfl rfl rfl heA rfl rfl ?_)|(refine qmg (i:=out.length - 1) (j:=2) (z:=jb e) (z':=.ag [Iv e.kind,Iv e.id,.sl 2 (e.fields.map fldA++[fldA (fk,fv)]) none]) (u:=.sl 2 (e.fields.map fldA++[fldA (fk,fv)]) none) rfl rfl rfl rfl rfl rfl heA rfl rfl ?_)|exact cSd|apply qb []|refine exr ?_|refine qh ?_)
      refine ji (X:=Nat×Int×Int) (fun (j,a,b)=>⟨[(0,.s text),(4,.tp 0),(5,.tp 1),(6,.a (lnsA L)),(7,.i k),(11,.s x.text),(12,.bx 2 0),(13,.i ((j:Int)+1))],[(0,some (.own 3 97 (o.map jb))),(1,some (.tip 1 9 [])),(2,some (.cells 97 [.i a,.i b,.a zk]))],3⟩)
       (fun (j,a,b)=>j≤3∧qlk x.text j a b) (fun (j,_,_)=>3 - j) (0,0,0) ⟨by omega,.inl ⟨rfl,rfl,rfl⟩⟩ ?_ ?_
      ·skip
       repeat' (first|apply And.intro|(intro h;try exact cDd)|exact cSd|apply qb []|refine exr ?_|refine qh ?_)
       all_goals first|(simp;done)|(rw [hadd,List.map_set];simp [jb,jq,List.map_append];done)
      ·rintro⟨j,a,b⟩ ⟨hj,hta⟩
       by_cases hj3:j=3
       ·subst hj3
        unfold qlk at hta
        rw [q3c] at hta
        rcases hta with⟨rfl,rfl,hb⟩ | ⟨ha,hb⟩
        ·rw [hb] at hst
         have hnn:qcb text=none:=by rw [hdf,← hst]
         rw [hnn]
         unfold qca
         apply qd []
         repeat' (first|apply And.intro|(intro h;try exact cDd)|exact cSd|apply qb []|refine exr ?_|refine qh ?_)
        ·rw [hb] at hst
         simp only at hst
         by_cases h40o:40≤o.length
         ·rw [if_pos h40o] at hst
          have hnn:qcb text=none:=by rw [hdf,← hst]
          rw [hnn]
          unfold qca
          apply qd []
          repeat' (first|apply And.intro|(intro h;try exact cDd)|exact cSd|apply qb []|refine exr ?_|refine qh ?_)
         ·rw [if_neg h40o] at hst
          have hG2:OutG (o++[⟨a,b,[]⟩]) (k+1):=fun y hy=>by
           rcases List.mem_append.1 hy with hy|hy
           ·exact hG' y hy
           ·obtain rfl:=List.mem_singleton.1 hy
            exact⟨by simp,by simp,q7p hb⟩
          apply qd []
          repeat' (first|apply And.intro|(intro h;try exact cDd)|(refine q57 (ys:=[jb ⟨a,b,[]⟩]) rfl rfl rfl rfl rfl rfl rfl rfl (by simp;omega) rfl ?_)|(refine Exists.intro (k+1,o++[⟨a,b,[]⟩],[]) ⟨⟨hG2,by simp;omega,by simp,by omega,by simp,by simp,.inl ⟨by omega,hst⟩⟩,by simp only;omega,?_⟩)|exact cSd|apply qb []|refine exr ?_|refine qh ?_)
          all_goals (simp;done)
       ·obtain⟨H,hH⟩:∃ H,H=yj ((j:Int)+1):=⟨_,rfl⟩
        have hj012:j=0∨j=1∨j=2:=by omega
        have hHl:H.length≤9:=by
         rw [hH]
         rcases hj012 with rfl|rfl|rfl <;> decide
        have hli:∀ st,qo E 123 [jb ⟨(j:Int)+1,0,[]⟩] st fun r st'=>r=Sv (H++[48])∧st'=st:=fun st=>by
         have:=qw0 ⟨(j:Int)+1,0,[]⟩ st (by simp) (by simp)
         unfold j9 at this
         rw [if_pos (by constructor <;> simp only <;> omega),h0i,← hH] at this
         exact this
        have htk:(H++[48]).take H.length=H:=List.take_left
        have htr:qic x.text (j+1)=tryR x.text (qic x.text j) ((j:Int)+1):=rfl
        unfold tryR at htr
        rw [← hH] at htr
        have htr2:(if H <+: x.text then match numZ (x.text.drop H.length) with
         |some n=>some ((j:Int)+1,n)
         |none=>qic x.text j else qic x.text j)=qic x.text (j+1):=htr.symm
        by_cases hp:H <+: x.text
        ·rw [if_pos hp] at htr2
         have hpl:=hp.length_le
         have hbH:=fun st=>q0w x.text ((H++[48]).take H.length) true (by rw [htk];exact decide_eq_true hp) st
         cases hz:numZ (x.text.drop H.length) with
         |none=>
          rw [hz] at htr2
          have hnu:∀ st,qo E 106 [Sv (x.text.drop H.length)] st fun r st'=>r = .tu [Iv 0,Bv false]∧st'=st:=fun st=>qf2 _ st (by simp;omega) hz
          have hta':qlk x.text (j+1) a b:=by unfold qlk at hta ⊢;rw [← htr2];exact hta
          apply qd []
          repeat' (first|apply And.intro|(intro h;try exact cDd)|exact⟨Tryz.call123⟩|refine cpe hli ?_|(refine Exists.intro H.length ⟨by simp,?_⟩)|exact⟨Tryz.call122⟩|refine cpe hbH ?_|exact⟨Tryz.call106⟩|refine cpe hnu ?_|(refine Exists.intro (j+1,a,b) ⟨⟨by omega,hta'⟩,by simp only;omega,?_⟩)|exact cSd|apply qb []|refine exr ?_|refine qh ?_)
          all_goals first|(simp [htk];done)|(simp [htk];omega)|omega
         |some n=>
          rw [hz] at htr2
          have hnu:∀ st,qo E 106 [Sv (x.text.drop H.length)] st fun r st'=>r = .tu [Iv n,Bv true]∧st'=st:=fun st=>qdm _ n st (by simp;omega) hz
          have hta':qlk x.text (j+1) ((j:Int)+1) n:=.inr ⟨by omega,htr2.symm⟩
          apply qd []
          repeat' (first|apply And.intro|(intro h;try exact cDd)|exact⟨Tryz.call123⟩|refine cpe hli ?_|(refine Exists.intro H.length ⟨by simp,?_⟩)|exact⟨Tryz.call122⟩|refine cpe hbH ?_|exact⟨Tryz.call106⟩|refine cpe hnu ?_|(refine Exists.intro (j+1,(j:Int)+1,n) ⟨⟨by omega,hta'⟩,by simp only;omega,?_⟩)|exact cSd|apply qb []|refine exr ?_|refine qh ?_)
          all_goals first|(simp [htk];done)|(simp [htk];omega)|omega
        ·rw [if_neg hp] at htr2
         have hbH:=fun st=>q0w x.text ((H++[48]).take H.length) false (by rw [htk];exact decide_eq_false hp) st
         have hta':qlk x.text (j+1) a b:=by unfold qlk at hta ⊢;rw [← htr2];exact hta
         apply qd []
         repeat' (first|apply And.intro|(intro h;try exact cDd)|exact⟨Tryz.call123⟩|refine cpe hli ?_|(refine Exists.intro H.length ⟨by simp,?_⟩)|exact⟨Tryz.call122⟩|refine cpe hbH ?_|(refine Exists.intro (j+1,a,b) ⟨⟨by omega,hta'⟩,by simp only;omega,?_⟩)|exact cSd|apply qb []|refine exr ?_|refine qh ?_)
         all_goals first|(simp [htk];done)|(simp [htk];omega)|omega
  ·have hB:=q81 hG (by omega)
   rw [hR] at hdf
   simp only at hdf
   have hck:=fun st=>qon out st hB (by omega)
   by_cases he:eErr out = .no
   ·have hen:=fun st=>qxp out st hB he
    rw [he] at hck
    by_cases ht:encF out=text
    ·rw [if_pos ⟨he,ht⟩] at hdf
     rw [hdf]
     rw [ht] at hen
     refine qu4 4 rfl rfl ?_
     apply qd []
     repeat' (first|apply And.intro|(intro h;try exact cDd)|exact⟨Tryz.call124⟩|refine cpe hck ?_|exact⟨Tryz.call125⟩|refine cpe hen ?_|exact cSd|apply qb []|refine exr ?_|refine qh ?_)
    ·rw [if_neg (fun h=>ht h.2)] at hdf
     rw [hdf]
     unfold qca
     refine qu4 4 rfl rfl ?_
     apply qd []
     repeat' (first|apply And.intro|(intro h;try exact cDd)|exact⟨Tryz.call124⟩|refine cpe hck ?_|exact⟨Tryz.call125⟩|refine cpe hen ?_|exact absurd ht (by assumption)|exact cSd|apply qb []|refine exr ?_|refine qh ?_)
   ·rw [if_neg (fun h=>he h.1)] at hdf
    rw [hdf]
    have h0:¬ (eErr out).code=0:=fun h=>he ((qdb out).1 h)
    generalize (eErr out).code=c at hck h0
    generalize (eErr out).pos=c2 at hck
    unfold qca
    refine qu4 4 rfl rfl ?_
    apply qd []
    repeat' (first|apply And.intro|(intro h;try exact cDd)|exact⟨Tryz.call124⟩|refine cpe hck ?_|exact cSd|apply qb []|refine exr ?_|refine qh ?_)
end Go.Proofs.YtmoklbacdkmkaaaGreatDoor
