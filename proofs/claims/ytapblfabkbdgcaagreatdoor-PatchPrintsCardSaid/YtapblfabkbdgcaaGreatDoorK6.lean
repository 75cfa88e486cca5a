/- Contracts and plain facts that the closing text leans on (part 6). No condition of their own beyond those that each states. -/
import Derived.Test.YtapblfabkbdgcaaGreatDoorK5
import Derived.Laws.StructEq
import Derived.Laws.MakeOwn
import Derived.LaidEql
import Derived.Stop.Asserts
import Derived.RowKitTokens
import Derived.Lib.IfaceEq
set_option maxRecDepth 100000
set_option linter.unusedVariables false
set_option linter.unusedSimpArgs false
namespace Go.Av
open Go Go.RowKit
theorem zdp {l m:List AV} (hl:l.length=m.length) (h:∀ (i:Nat) (x y:AV),l[i]? = some x→m[i]? = some y→Wk x y):Wk (.pp l) (.pp m):=fun G v hr=>by
 cases hr with
 |pp _ b off pub hp b9 hr=>
  refine .pp m b off pub hp (by omega) fun i y z hy hz=>?_;have hi:i<l.length:=by have:=lt_of_getElem? hy;omega
  have hx:l[i]? = some l[i]:=List.getElem?_eq_getElem hi;exact h i _ y hx hy G z (hr i _ z hx hz)
theorem qxk {E:Env} {fn:Func} {R:AV→List AObj→Prop} {s:AS} {d o ver:Nat} {T:TypeId} {cs xs:List AV} (hi:s.t d = .bx o ver 0) (ho:s.st[o]? = some (.cells ver T cs)) (hw:Wk (.pp cs) (.pp xs))
  (h:ARet E fn R ⟨Av.put s.t d (.pp xs),s.st.set o .dead,s.df⟩):ARet E fn R s:=
 ⟨fun B0 w0 G a w hL hI R2 hR=>by
  obtain⟨G1,h1,h2⟩:=hI.pub hi ho;refine h.run B0 w0 G1 a w hL ⟨h2.agree,h2.defers,h2.size,fun j y hy=>?_⟩ R2 fun v G' r st' w' hG=>hR v G' r st' w' (h1.trans hG);have hj:=h2.tmps j y hy;by_cases e:j=d
  ·subst e
   simp only [wt] at hj ⊢;exact hw G1 y hj
  ·simp only at hj ⊢
   rw [yo _ _ _ _ e] at hj ⊢
   exact hj⟩
theorem q6m {E:Env} {fn:Func} {R:AV→List AObj→Prop} {s:AS} {d o ver o2 ver2 sz cap:Nat} {T T2:TypeId} {cs xs ys pad:List AV} (hi:s.t d = .bx o ver 0) (ho:s.st[o]? = some (.cells ver T cs)) (u6:s.st[o2]? = some (.cells ver2 T2 (flat ys++pad))) (b8:o≠o2) (hw:∀ y∈ys,y.cells.length=sz) (hc:ys.length≤cap) (hl:cs.length=xs.length)
  (hx:∀ (i:Nat) (x y:AV),cs[i]? = some x→xs[i]? = some y→Wk x y∨(x = .os o2 ver2 0 ys.length cap∧y = .sl sz ys none)) (h:ARet E fn R ⟨Av.put s.t d (.pp xs),(s.st.set o .dead).set o2 .dead,s.df⟩):ARet E fn R s:=
 ⟨fun B0 w0 G a w hL hI R2 hR=>by
  obtain⟨G1,h1,h2⟩:=hI.pub hi ho;have sd:(s.st.set o .dead)[o2]? = some (.cells ver2 T2 (flat ys++pad)):=(List.getElem?_set_ne b8).trans u6;obtain⟨vs,c9,hA,hv,hp,bz,hr⟩:=h2.agree.pubOb sd;refine h.run B0 w0 _ a w hL ⟨hA,h2.defers_mono c9,h2.size,fun j y hy=>?_⟩ R2 fun v G' r st' w' hG=>hR v G' r st' w' (h1.trans (c9.trans hG));have hj:=(h2.tmps j y hy).mono c9;by_cases e:j=d
  ·subst e
   simp only [wt] at hj ⊢
   cases hj with
   |pp _ b off pub hp2 b9 e8=>
    refine .pp xs b off pub hp2 (by omega) fun i z u hz hu=>?_;have hi:i<cs.length:=by have:=lt_of_getElem? hz;omega
    have hg:cs[i]? = some cs[i]:=List.getElem?_eq_getElem hi;have cx:=e8 i _ u hg hu;rcases hx i _ z hg hz with hw1 | ⟨e1,rfl⟩
    ·exact hw1 _ _ cx
    ·rw [e1] at cx
     cases cx with
     |os _ _ _ _ bl _ hn r7 hb=>
      have hb:=hb hv;subst hb;refine .sl sz ys none _ 0 cap vs hp hw (by rw [← bz];simp) (fun k x y g1 g2=>hr k x y (by rw [List.getElem?_append_left (lt_of_getElem? g1)];exact g1) (by simpa using g2)) (fun t ht=>by simp at ht) hc
  ·simp only at hj ⊢
   rw [yo _ _ _ _ e] at hj ⊢
   exact hj⟩
theorem zdv {E:Env} {fn:Func} {R:AV→List AObj→Prop} {s:AS} {d o ver sz cap:Nat} {T:TypeId} {ys pad:List AV} (hi:s.t d = .os o ver 0 ys.length cap) (ho:s.st[o]? = some (.cells ver T (flat ys++pad))) (hw:∀ y∈ys,y.cells.length=sz) (hc:ys.length≤cap)
  (h:ARet E fn R ⟨Av.put s.t d (.sl sz ys none),s.st.set o .dead,s.df⟩):ARet E fn R s:=
 ⟨fun B0 w0 G a w hL hI R2 hR=>by
  obtain⟨G1,h1,h2⟩:=hI.osPub (xs:=ys) (sz:=sz) hi ho rfl hc hw (by rw [List.length_append,zq hw];omega) (by rw [List.drop_zero,← zq hw,List.take_left])
  exact h.run B0 w0 G1 a w hL h2 R2 fun v G' r st' w' hG=>hR v G' r st' w' (h1.trans hG)⟩
def q8o (H:Nat→Option SR):SV→Option (Nat×Nat×List AV)
 | .tp k=>(match H k with
  |some (.own sz _ ys)=>some (k,sz,ys)
  | _=>none)
 | _=>none
def qr2 (H:Nat→Option SR):List SV→Option (Nat×Nat×List AV)
 | []=>none
 |c::r=>(match q8o H c with
  |some x=>some x
  |none=>qr2 H r)
theorem qzd {H:Nat→Option SR} {j sz:Nat} {ys:List AV}:∀ {cs:List SV},qr2 H cs=some (j,sz,ys)→∃ T,H j=some (.own sz T ys)
 | [],h=>by simp [qr2] at h
 |c::r,h=>by
  simp only [qr2] at h;split at h
  ·rename_i x hx
   simp only [Option.some.injEq] at h;subst h;unfold q8o at hx;split at hx
   ·split at hx
    ·rename_i hk
     simp only [Option.some.injEq,Prod.mk.injEq] at hx;obtain⟨rfl,rfl,rfl⟩:=hx;exact⟨_,hk⟩
    ·simp at hx
   ·simp at hx
  ·exact qzd (cs:=r) h
def frzJ (H:Nat→Option SR) (j sz:Nat) (ys:List AV):List SV→Option (List AV)
 | []=>some []
 |c::r=>(match (match c with
   | .tp k=>bif Nat.beq k j then some (.sl sz ys none) else frz H (.tp k)
   |c=>frz H c),frzJ H j sz ys r with
  |some x,some l=>some (x::l)
  | _,_=>none)
theorem q2r {S:List AObj} {ρ : Nat→AV} {H:Nat→Option SR} (hS:SatF S ρ H) {j sz:Nat} {ys:List AV}:∀ (cs:List SV) (xs:List AV),frzJ H j sz ys cs=some xs→(SV.evs ρ cs).length=xs.length∧∀ (i:Nat) (x y:AV),(SV.evs ρ cs)[i]? = some x→xs[i]? = some y→Wk x y∨(x=tpAt (ρ j)∧y = .sl sz ys none)
 | [],xs,h=>by simp only [frzJ,Option.some.injEq] at h;subst h;exact⟨rfl,by simp [SV.evs]⟩
 |c::r,xs,h=>by
  simp only [frzJ] at h;split at h
  ·rename_i x l h1 h2
   simp only [Option.some.injEq] at h;subst h;obtain⟨g1,g2⟩:=q2r hS r l h2;refine⟨by simp [SV.evs,g1],fun i a b ha hb=>?_⟩
   cases i with
   |zero=>
    simp only [SV.evs,List.getElem?_cons_zero,Option.some.injEq] at ha hb;subst ha;subst hb;split at h1
    ·rename_i k
     cases hkj:Nat.beq k j with
     |true=>
      rw [hkj] at h1;simp only [cond_true,Option.some.injEq] at h1;rw [Nat.eq_of_beq_eq_true hkj]
      exact .inr ⟨rfl,h1.symm⟩
     |false=>
      rw [hkj] at h1;exact .inl (qhw hS _ _ h1)
    ·exact .inl (qhw hS _ _ h1)
   |succ i=>exact g2 i a b (by simpa [SV.evs] using ha) (by simpa using hb)
  ·simp at h
def pubK (k:Conf→Prop):List ResultVar→Conf→Prop
 | [],C=>k C
 | .tmp t::r,C=>(match lkS C.sl t with
  |some (.bx b 0)=>(match hpF C.hp b with
   |some (.cells _ cs)=>(match qr2 (hpF C.hp) cs with
    |some (j,sz,ys)=>(match frzJ (hpF C.hp) j sz ys cs with
     |some xs=>pubK k r ⟨(t,.a (.pp xs))::C.sl,(j,none)::(b,none)::C.hp,C.nx⟩
     |none=>pubK k r C)
    |none=>(match frzs (hpF C.hp) cs with
     |some xs=>pubK k r ⟨(t,.a (.pp xs))::C.sl,(b,none)::C.hp,C.nx⟩
     |none=>pubK k r C))
   | _=>pubK k r C)
  |some (.tp b)=>(match hpF C.hp b with
   |some (.own sz _ ys)=>pubK k r ⟨(t,.a (.sl sz ys none))::C.sl,(b,none)::C.hp,C.nx⟩
   | _=>pubK k r C)
  | _=>pubK k r C)
 | _::r,C=>pubK k r C
theorem SatR.drop {S0:List AObj} {F:Nat→Prop} {C:Conf} {ρ t:Nat→AV} {S:List AObj} (h:SatR S0 F C ρ t S) {b o:Nat} {q:SR} (hb:hpF C.hp b=some q) (ho:∀ o',zk (ρ b)=some o'→o'=o) (hd:zk (ρ b)=some o∨S.set o .dead=S) :
  SatR S0 F ⟨C.sl,(b,none)::C.hp,C.nx⟩ ρ t (S.set o .dead):=by
 have c8:∀ k r,hpF ((b,none)::C.hp) k=some r→k≠b∧hpF C.hp k=some r:=fun k r hk=>by
  unfold hpF at hk ⊢;simp only [lkS] at hk;by_cases e:b=k
  ·subst e;simp at hk
  ·rw [ja e] at hk
   exact⟨fun h=>e h.symm,hk⟩
 rcases hd with hd|hd
 ·refine⟨h.sl,⟨fun k r hk=>?_,fun k k' r r' b8 hk l8=>h.hp.sep k k' r r' b8 (c8 k r hk).2 (c8 k' r' l8).2⟩,fun k r hk=>h.own k r (c8 k r hk).2,fun j hj hF=>?_,by simpa using h.len,h.wsl,fun k r hk=>h.whp k r (c8 k r hk).2⟩
  ·obtain⟨b8,hk⟩:=c8 k r hk
   refine SR.ok_of (f:=fun _=>true) (SR.all_mono (fun _ _=>rfl) r (h.whp k r hk).2) (fun _ _=>rfl) (h.hp.ok k r hk) fun j hj=>?_;have:o≠j:=fun e=>h.hp.sep b k _ r (fun e=>b8 e.symm) hb hk o hd (e▸hj);rw [List.getElem?_set_ne this]
  ·have:o≠j:=fun e=>by
    rcases h.own b _ hb o hd with g|g
    ·omega
    ·exact hF (e▸g)
   rw [List.getElem?_set_ne this];exact h.low j hj hF
 ·rw [hd]
  exact⟨h.sl,⟨fun k r hk=>h.hp.ok k r (c8 k r hk).2,fun k k' r r' b8 hk l8=>h.hp.sep k k' r r' b8 (c8 k r hk).2 (c8 k' r' l8).2⟩,fun k r hk=>h.own k r (c8 k r hk).2,h.low,h.len,h.wsl,fun k r hk=>h.whp k r (c8 k r hk).2⟩
theorem SatR.slot {S0:List AObj} {F:Nat→Prop} {C:Conf} {ρ t:Nat→AV} {S:List AObj} (h:SatR S0 F C ρ t S) (d:Nat) {y:AV}:SatR S0 F ⟨(d,.a y)::C.sl,C.hp,C.nx⟩ ρ (Av.put t d y) S:=by
 refine⟨fun x v hx=>?_,h.hp,h.own,h.low,h.len,fun x v hx=>?_,h.whp⟩
 ·simp only [lkS] at hx
  by_cases e:d=x
  ·subst e
   simp at hx;subst hx;exact wt _ _ _
  ·rw [ja e] at hx
   simp only [cond_false] at hx;exact (yo _ _ _ _ (fun h=>e h.symm)).trans (h.sl x v hx)
 ·simp only [lkS] at hx
  by_cases e:d=x
  ·subst e
   simp at hx;subst hx;rfl
  ·rw [ja e] at hx
   exact h.wsl x v hx
theorem SatR.pub {S0:List AObj} {F:Nat→Prop} {C:Conf} {ρ t:Nat→AV} {S:List AObj} (h:SatR S0 F C ρ t S) {d b o:Nat} {T:TypeId} {cs:List SV} {xs:List AV} (hb:hpF C.hp b=some (.cells T cs)) (ho:zk (ρ b)=some o) :
  SatR S0 F ⟨(d,.a (.pp xs))::C.sl,(b,none)::C.hp,C.nx⟩ ρ (Av.put t d (.pp xs)) (S.set o .dead):=
 (h.drop hb (fun o' d6=>by rw [ho] at d6;simpa using d6.symm) (.inl ho)).slot d
theorem zdw {E:Env} {fn:Func} {R:AV→List AObj→Prop} {s:AS} {d:Nat} {x r:AV} (hi:s.t d=x) (hw:Wk x r) (h:ARet E fn R ⟨Av.put s.t d r,s.st,s.df⟩):ARet E fn R s:=
 ⟨fun B0 w0 G a w hL hI R2 hR=>h.run B0 w0 G a w hL ⟨hI.agree,hI.defers,hI.size,fun j y hy=>by
  have hj:=hI.tmps j y hy;by_cases e:j=d
  ·subst e
   simp only [wt];rw [hi] at hj;exact hw G y hj
  ·simp only
   rw [yo _ _ _ _ e]
   exact hj⟩ R2 hR⟩
theorem qap {E:Env} {fn:Func} {R:AV→List AObj→Prop} {S0:List AObj} {F:Nat→Prop} {ρ : Nat→AV} {k:Conf→Prop} (hk:∀ C t S,k C→SatR S0 F C ρ t S→ARet E fn R ⟨t,S,[]⟩):∀ {l:List ResultVar} {C:Conf} {t:Nat→AV} {S:List AObj},pubK k l C→SatR S0 F C ρ t S→ARet E fn R ⟨t,S,[]⟩
 | [],C,t,S,h,hR=>hk C t S h hR
 | .cell _ _::r,C,t,S,h,hR=>qap hk (l:=r) h hR
 | .tmp d::r,C,t,S,h,hR=>by
  simp only [pubK] at h;split at h
  ·rename_i b hd
   split at h
   ·rename_i T cs hb
    obtain⟨o,v,e1,e2,e3⟩:=hR.hp.ok b _ hb;have ht:=hR.sl d _ hd;simp only [SV.ev,e1,bxAt] at ht;split at h
    ·rename_i j sz ys hj
     split at h
     ·rename_i xs hx
      obtain⟨T2,hj⟩:=qzd hj;obtain⟨w1,w2⟩:=q2r hR.hp cs xs hx;have hbj:b≠j:=fun e=>by subst e;rw [hb] at hj;simp at hj
      have hP:=hR.pub (d:=d) (xs:=xs) hb (by rw [e1];rfl)
      have hj2:hpF ((b,none)::C.hp) j=some (.own sz T2 ys):=by
       unfold hpF at hj ⊢;simp only [lkS,ja hbj,cond_false];exact hj
      rcases hR.hp.ok j _ hj with⟨rfl,f1⟩ | ⟨o2,ver2,cap,pad,f1,f2,f3,f4,f5,f6⟩
      ·refine qxk ht e2 (zdp w1 fun i x y hx hy=>?_) (qap hk (l:=r) h ?_)
       ·rcases w2 i x y hx hy with g | ⟨g1,g2⟩
        ·exact g
        ·subst g1 g2
         unfold tpAt;rw [f1.one];exact f1.wk sz
       ·have:=hP.drop (o:=S.length) hj2 (fun o' d6=>by rw [f1.loc] at d6;simp at d6) (.inr (List.set_eq_of_length_le (by simp)))
        rwa [List.set_eq_of_length_le (by simp)] at this
      ·have b8:o≠o2:=fun e=>hR.hp.sep b j _ _ hbj hb hj o (by rw [e1];rfl) (by rw [f1,e];rfl)
       refine q6m ht e2 f2 b8 f4 f5 w1 (fun i x y hx hy=>?_) (qap hk (l:=r) h (hP.drop hj2 (fun o' d6=>?_) (.inl (by rw [f1];rfl))))
       ·rcases w2 i x y hx hy with g | ⟨g1,g2⟩
        ·exact .inl g
        ·exact .inr ⟨by rw [g1,f1];rfl,g2⟩
       ·rw [f1] at d6
        simpa [zk] using d6.symm
     ·exact qap hk (l:=r) h hR
    ·split at h
     ·rename_i xs hx
      obtain⟨w1,w2⟩:=qd8 hR.hp cs xs hx;exact qxk ht e2 (zdp w1 w2) (qap hk (l:=r) h (hR.pub hb (by rw [e1];rfl)))
     ·exact qap hk (l:=r) h hR
   ·exact qap hk (l:=r) h hR
  ·rename_i b hd
   split at h
   ·rename_i sz T ys hb
    have ht:=hR.sl d _ hd;have hok:=hR.hp.ok b _ hb;simp only [SV.ev,qdy hok] at ht;rcases hok with⟨rfl,f1⟩ | ⟨o,ver,cap,pad,f1,f2,f3,f4,f5,f6⟩
    ·have hP:=hR.drop (o:=S.length) hb (fun o' d6=>by rw [f1.loc] at d6;simp at d6) (.inr (List.set_eq_of_length_le (by simp)))
     rw [List.set_eq_of_length_le (by simp)] at hP;exact zdw ht (f1.wk sz) (qap hk (l:=r) h (hP.slot d))
    ·rw [f1] at ht
     have hP:=hR.drop (o:=o) hb (fun o' d6=>by rw [f1] at d6;simpa [zk] using d6.symm) (.inl (by rw [f1];rfl));exact zdv ht f2 f4 f5 (qap hk (l:=r) h (hP.slot d))
   ·exact qap hk (l:=r) h hR
  ·exact qap hk (l:=r) h hR
def retP (P:Program) (fn:Func) (r0:AV) (e:Exit) (C:Conf):Prop:=
 match e with
 | .normal=>pubK (fun C=>ansW P fn C fun y=>Tl y r0) fn.results.toList C
 | .ret=>pubK (fun C=>ansW P fn C fun y=>Tl y r0) fn.results.toList C
 | _=>False
theorem qld {E:Env} {f:FuncId} {fn:Func} {c:Code} {args:List AV} {st:List AObj} {r0:AV} (vs:List SV) (hp:Pure r0) (hf:E.P.funcs[f]? = some fn) (hb:fn.body=some c) (hn:Nat.ble args.length fn.ntmps=true) (hv:∀ ρ,SV.evs ρ vs=args) (hc:okC ⟨jb 0 vs,[],0⟩=true)
  (h:∀ S0,numK 0 vs fun sl=>Sm E none fn.ntmps ⟨S0,fun _=>False,fun _=>zx,0,False⟩ c (retP E.P fn r0) ⟨sl,[],0⟩):qn E f args st fun r st'=>r=r0∧st'=st:=by
 simp only [qnv] at h;refine zb hp (qr hf hb (Nat.le_of_ble_eq_true hn) ?_)
 have e7:SatC ⟨st++[],fun _=>False,fun _=>zx,0,False⟩ ⟨jb 0 vs,[],0⟩ ⟨argT args,st++[],[]⟩:=by
  refine⟨fun _=>zx,⟨nofun,List.nodup_nil,fun _ _=>rfl,Nat.le_refl _,nofun⟩,⟨fun d v hd=>?_,⟨fun k r hk=>?_,fun k k' r r' _ hk=>?_⟩,fun k r hk=>?_,fun _ _ _=>rfl,Nat.le_refl _,fun d v hd=>?_,fun k r hk=>?_⟩⟩
  ·obtain⟨j,h1,h2⟩:=qct hd
   have:args[j]? = some (v.ev fun _=>zx):=by rw [← hv fun _=>zx,kh,List.getElem?_map,h2];rfl
   rw [h1,Nat.zero_add];simp only [argT,List.getD,this,Option.getD_some]
  ·simp [hpF,lkS] at hk
  ·simp [hpF,lkS] at hk
  ·simp [hpF,lkS] at hk
  ·simp only [okC,Bool.and_eq_true] at hc
   exact List.all_eq_true.1 hc.1 _ (ku hd)
  ·simp [hpF,lkS] at hk
 refine ((h (st++[])).run _ e7).mono fun e s' ⟨C',hq,bt⟩=>?_;obtain⟨t,S,df⟩:=s';obtain⟨ρ,g7,hR⟩:=bt;simp only at g7 hR
 have fin:pubK (fun C=>ansW E.P fn C fun y=>Tl y r0) fn.results.toList C'→ARet E fn (fun r st2=>r=r0∧∃ ext,st2=st++ext) ⟨t,S,df⟩:=fun h=>by
  refine qgr hR (fun x hx=>g7.dm x hx) g7.nd fun S' gm=>?_;refine qap (fun C t S h gm=>?_) h gm;obtain⟨y,h1,h2⟩:=q18 gm h;refine qo rfl (wp h1 h2.ok) ⟨rfl,?_⟩;have hl:=gm.len;rw [List.append_nil] at hl
  exact qkr hl fun k hk=>by
   have:=gm.low k (by simpa using hk) (fun h=>h);rw [List.append_nil] at this;exact this
 cases e with
 |normal=>exact fin hq
 |ret=>exact fin hq
 | _=>exact hq.elim
section
variable {E : Env} {N : Nat} {ops : Array Oper} {nx : Nat} {sl : List (Nat × SV)} {H : Nat → Option SR} {k : Ef → Prop} {d : Option Tmp} {T : TypeId} {p : String} {af : Array Edge}
theorem qdv {t e e':TypeId} {x y:Operand} {b sz i:Nat} {agg:Bool} {xs:List AV} {kd:IntKind} {v:SV} (hx:sval N sl x=some (.tp b)) (hH:H b=some (.own sz e xs)) (hy:sval N sl y=some v) (hv:qaf v=some (kd,(i:Int))) (he:elT (E.P.underlying t)=some e') (ht:tyOf E.P e'=some (sz,agg)) (hi:i<xs.length)
  (h:k ⟨.bx b (0+i * sz),[b],[],nx⟩):∃ e,Loc E N ops ⟨d,.indexAddr t x y,T,p,af,none⟩ nx sl H e∧k e:=by
 refine⟨_,xl (v:=.bx b (0+i * sz)) fun df rd K rest ρ t' S hs hS hk=>?_,h⟩;rcases hS.ok b _ ((wu b).trans hH) with⟨rfl,_⟩ | ⟨o,ver,cap,pad,e1,e2,_⟩
 ·simp at hi
 ·refine qgk (o:=o) (ver:=ver) (off:=0) (len:=xs.length) (cp:=cap+1) ((qv hs hx).trans (by simp [SV.ev,e1,tpAt,AV.one])) ((qv hs hy).trans (xk hv ρ)) (wr he) ht rfl hi ?_
  simpa only [SV.ev,e1,bxAt] using hk
theorem quv {sz i j sz':Nat} {agg:Bool} {xs pad:List AV} {z r:AV} (hw:∀ x∈xs,x.cells.length=sz) (hz:xs[i]? = some z) (hr:js sz' agg j z.cells=some r) (hj:j+sz'≤sz) (h1:agg=false→0<sz'):js sz' agg (0+i * sz+j) (flat xs++pad)=some r:=by
 have hg:=q3j (pad:=pad) hw hz;have ft:=hw z (List.mem_of_getElem? hz)
 have b9:i * sz+sz≤(flat xs++pad).length:=by
  have:=congrArg List.length hg;simp only [List.length_take,List.length_drop] at this;have h1:i * sz≤xs.length * sz:=Nat.mul_le_mul_right _ (by have:=lt_of_getElem? hz;omega);have h2:(flat xs++pad).length=xs.length * sz+pad.length:=by rw [List.length_append,zq hw]
  omega
 unfold js at hr ⊢;rw [Nat.zero_add]
 cases agg with
 |true=>
  simp only [cond_true] at hr ⊢;have b1:Nat.ble (i * sz+j+sz') (flat xs++pad).length=true:=Nat.ble_eq_true_of_le (by omega);have b2:Nat.ble (j+sz') z.cells.length=true:=Nat.ble_eq_true_of_le (by omega);rw [b2] at hr;rw [b1];simp only [cond_true] at hr ⊢;rw [← hr,← hg];congr 2;apply List.ext_getElem?;intro q;simp only [List.getElem?_take,List.getElem?_drop];by_cases hq:q<sz'
  ·rw [if_pos hq,if_pos hq,if_pos (by omega)]
   congr 1;omega
  ·rw [if_neg hq,if_neg hq]
 |false=>
  simp only [cond_false] at hr ⊢;have:=h1 rfl;rw [← hr,← hg,List.getElem?_take_of_lt (by omega),List.getElem?_drop]
theorem qh7 {t e:TypeId} {x:Operand} {b off sz i j sz':Nat} {agg:Bool} {xs:List AV} {z r:AV} (hx:sval N sl x=some (.bx b off)) (hH:H b=some (.own sz e xs)) (ht:tyOf E.P t=some (sz',agg)) (ho:off=0+i * sz+j) (hz:xs[i]? = some z) (hr:js sz' agg j z.cells=some r) (hj:(Nat.ble (j+sz') sz && (agg ||Nat.blt 0 sz'))=true)
  (h:k ⟨nf r,[b],[],nx⟩):∃ e,Loc E N ops ⟨d,.load t x,T,p,af,none⟩ nx sl H e∧k e:=by
 simp only [Bool.and_eq_true,Bool.or_eq_true] at hj;refine⟨_,xl (v:=nf r) fun df rd K rest ρ t' S hs hS hk=>?_,h⟩;rcases hS.ok b _ ((wu b).trans hH) with⟨rfl,_⟩ | ⟨o,ver,cap,pad,e1,e2,e3,e4,_⟩
 ·simp at hz
 ·subst ho
  refine ka (o:=o) (ver:=ver) (off:=0+i * sz+j) ((qv hs hx).trans (by simp only [SV.ev,e1,bxAt])) e2 ht (quv e4 hz hr (Nat.le_of_ble_eq_true hj.1) fun e=>?_) (by rw [← qk5 ρ r];exact hk);rcases hj.2 with h|h
  ·rw [e] at h;simp at h
  ·exact kr h
theorem qsg (A Z B us:List AV) (j:Nat) (h:j+us.length≤Z.length):zu (A++Z++B) (A.length+j) us=A++zu Z j us++B:=by
 unfold zu;rw [List.append_assoc A Z B,List.take_length_add_append,List.take_append_of_le_length (by omega),Nat.add_assoc,List.drop_length_add_append,List.drop_append_of_le_length (by omega)];simp
theorem q4w {sz i j:Nat} {xs pad us:List AV} {z z':AV} (hw:∀ x∈xs,x.cells.length=sz) (hz:xs[i]? = some z) (t8:z'.cells=zu z.cells j us) (hj:j+us.length≤sz):zu (flat xs++pad) (0+i * sz+j) us=flat (xs.set i z')++pad∧z'.cells.length=sz:=by
 have ft:=hw z (List.mem_of_getElem? hz);have hl:z'.cells.length=sz:=by rw [t8];simp [zu];omega
 have hi:=lt_of_getElem? hz;refine⟨?_,hl⟩;rw [← qpe hw hl hi];have hg:=q3j (pad:=pad) hw hz
 have hA:((flat xs++pad).take (i * sz)).length=i * sz:=by
  have h1:i * sz≤xs.length * sz:=Nat.mul_le_mul_right _ (by omega);rw [List.length_take,List.length_append,zq hw];omega
 generalize flat xs++pad=cs at hg hA
 have gw:cs=cs.take (i * sz)++z.cells++(cs.drop (i * sz)).drop sz:=by
  rw [← hg,List.append_assoc,List.take_append_drop,List.take_append_drop]
 have e1:=qsg (cs.take (i * sz)) z.cells ((cs.drop (i * sz)).drop sz) us j (by omega);have e2:=qsg (cs.take (i * sz)) z.cells ((cs.drop (i * sz)).drop sz) z'.cells 0 (by omega);rw [hA,← gw] at e1 e2
 have e3:zu z.cells 0 z'.cells=z'.cells:=by
  unfold zu;rw [Nat.zero_add,List.drop_eq_nil_of_le (by omega)];simp
 rw [Nat.add_zero,e3] at e2;rw [Nat.zero_add,e1,e2,t8]
theorem qi4 {t e:TypeId} {x y:Operand} {b off sz i j sz':Nat} {agg:Bool} {xs:List AV} {z z' u:AV} {v:SV} (hx:sval N sl x=some (.bx b off)) (hy:sval N sl y=some v) (hv:∀ ρ,v.ev ρ = u) (hH:H b=some (.own sz e xs)) (ht:tyOf E.P t=some (sz',agg)) (ho:off=0+i * sz+j) (hz:xs[i]? = some z) (t8:z'.cells=zu z.cells j u.cells)
  (hj:(u.okc && Nat.beq u.cells.length sz' && jv u.cells && Nat.ble (j+sz') sz)=true) (h:k ⟨.a (.v undef),[b],[(b,some (.own sz e (xs.set i z')))],nx⟩):∃ e,Loc E N ops ⟨d,.store t x y,T,p,af,none⟩ nx sl H e∧k e:=by
 simp only [Bool.and_eq_true] at hj;obtain⟨⟨⟨j1,j2⟩,j3⟩,j4⟩:=hj;have j2:=Nat.eq_of_beq_eq_true j2;have j4:=Nat.le_of_ble_eq_true j4;refine⟨_,fun df rd K rest ρ t' S hs hS hk=>?_,h⟩;have hok:=hS.ok b _ ((wu b).trans hH);rcases hok with⟨rfl,_⟩ | ⟨o,ver,cap,pad,e1,e2,e3,e4,e5,e6⟩
 ·simp at hz
 ·subst ho
  obtain⟨q1,q2⟩:=q4w (pad:=pad) e4 hz t8 (by omega);have d5:=lt_of_getElem? hz
  refine qeo (o:=o) (ver:=ver) (off:=0+i * sz+j) (xs:=u.cells) ((qv hs hx).trans (by simp only [SV.ev,e1,bxAt])) ((qv hs hy).trans (hv ρ)) e2 ht j1 rfl j2 (by simpa [jv] using j3) (by
   have h1:i * sz+sz≤xs.length * sz:=by rw [← Nat.succ_mul];exact Nat.mul_le_mul_right _ d5
   rw [List.length_append,zq e4]
   omega) ?_
  rw [q1]
  have l6:∀ y∈xs.set i z',y.cells.length=sz:=fun y hy=>by
   rcases List.mem_or_eq_of_mem_set hy with h|rfl
   ·exact e4 y h
   ·exact q2
  have key:∀ k r,chF [(b,some (.own sz e (xs.set i z')))] (resF [b] H) k=some r→k=b∧r = .own sz e (xs.set i z'):=fun k r hk=>by
   simp only [chF,lkS] at hk;by_cases e:b=k
   ·subst e
    have:Nat.beq b b=true:=by simp
    rw [this] at hk;simp only [cond_true,Option.some.injEq] at hk;exact⟨rfl,hk.symm⟩
   ·rw [ja e] at hk
    have:=(vn hk).1;simp only [memN,List.any_cons,List.any_nil,Bool.or_false] at this;exact absurd (Nat.eq_of_beq_eq_true this).symm e
  refine hk ρ _ ⟨fun _ _=>rfl,⟨fun k r hk=>?_,fun k k' r r' b8 g1 g2=>?_⟩,by simp,fun j hj b8=>?_,fun k r hk o' d6=>?_⟩
  ·obtain⟨rfl,rfl⟩:=key k r hk
   refine .inr ⟨o,ver,cap,pad,by rw [e1,List.length_set],ym e2,?_,l6,by rw [List.length_set];exact e5,e6⟩;rw [List.length_append,zq l6,List.length_set,← zq e4,← List.length_append];exact e3
  ·exact absurd ((key k r g1).1.trans (key k' r' g2).1.symm) b8
  ·have:=b8 b _ ((wu b).trans hH)
   rw [e1] at this;exact List.getElem?_set_ne (fun e=>this (by rw [e];rfl))
  ·obtain⟨rfl,rfl⟩:=key k r hk
   exact .inr ⟨k,_,(wu k).trans hH,d6⟩
theorem qnx {b:Nat} {q:SR}:∀ k r,chF [(b,none),(nx,some q)] (resF [b] H) k=some r→k=nx∧r=q:=fun k r hk=>by
 simp only [chF,lkS] at hk;by_cases e:b=k
 ·subst e
  simp at hk
 ·rw [ja e] at hk
  simp only [cond_false] at hk;by_cases e2:nx=k
  ·subst e2
   simp at hk;exact⟨rfl,hk.symm⟩
  ·rw [ja e2] at hk
   simp only [cond_false] at hk;have:=(vn hk).1;simp only [memN,List.any_cons,List.any_nil,Bool.or_false] at this;exact absurd (Nat.eq_of_beq_eq_true this).symm e
theorem qg1 {x y:Operand} {t u e:TypeId} {b sz bytes:Nat} {xs ys:List AV} {vy:SV} (hx:sval N sl x=some (.tp b)) (hH:H b=some (.own sz e xs)) (hy:sval N sl y=some vy) (s8:qis H sz vy=some (ys,[])) (ht:elT (E.P.underlying t)=some e) (hu:elT (E.P.underlying u)=some e) (hb:qq3 E.P e=some (sz,bytes))
  (hn:(Nat.blt 0 bytes && Nat.ble bytes 140737 && !Nat.beq b nx)=true) (h1:xs.length+ys.length≤1000000000) (d9:jv (flat ys)=true)
  (h:k ⟨.tp nx,[b],[(b,none),(nx,some (.own sz e (xs++ys)))],nx+1⟩):∃ e,Loc E N ops ⟨d,.call ⟨.builtin .append,#[x,y],#[t,u]⟩,T,p,af,none⟩ nx sl H e∧k e:=by
 simp only [Bool.and_eq_true] at hn;have hbp:=kr hn.1.1;have fb:=Nat.le_of_ble_eq_true hn.1.2;refine⟨_,fun df rd K rest ρ t' S hs hS hk=>?_,h⟩
 have hw:∀ (G:Gh) (v:Value),Rel G (qi N ⟨t',S,df⟩ y) v→Rel G (.sl sz ys none) v:=by
  rw [qv hs hy];exact qdu (S:=S) s8 ⟨fun k r hk=>by rw [qcw] at hk;simp at hk,fun k k' r r' _ hk=>by rw [qcw] at hk;simp at hk⟩
 have hok:=hS.ok b _ ((wu b).trans hH);have dj:qi N ⟨t',S,df⟩ x = ρ b:=(qv hs hx).trans (qdy hok);have dn:(xs.length+ys.length) * bytes≤140737488355328:=Nat.le_trans (Nat.mul_le_mul h1 fb) (by decide)
 have fin:∀ (c:AV) (S':List AObj),OwnS S' sz e (xs++ys) c→S.length≤S'.length→(∀ j,j<S.length→zk (ρ b)≠some j→S'[j]? = S[j]?)→(∀ o,zk c=some o→S.length≤o∨zk (ρ b)=some o)→AOps E rd N ops rest K (AS.put ⟨t',S',df⟩ d c):=fun c S' g1 g2 g3 g4=>by
  have:=hk (upd ρ nx c) S' ⟨fun k hk=>wz _ _ (by simp only at hk;omega),⟨fun k r hk=>?_,fun k k' r r' b8 q1 q2=>absurd ((qnx k r q1).1.trans (qnx k' r' q2).1.symm) b8⟩,g2,fun j hj b8=>g3 j hj (b8 b _ ((wu b).trans hH)),fun k r hk o ho=>?_⟩
  ·simpa only [SV.ev,jr,qdy g1] using this
  ·obtain⟨rfl,rfl⟩:=qnx k r hk
   rw [jr];exact g1
  ·obtain⟨rfl,rfl⟩:=qnx k r hk
   rw [jr] at ho;exact (g4 o ho).imp_right fun h=>⟨b,_,(wu b).trans hH,h⟩
 by_cases gj:ys=[]
 ·subst gj
  have hc:∀ G v,Rel G (ρ b) v→∃ b n cp,v = .slice b n cp∧n≤cp:=fun G v hv=>by
   rcases hok with⟨_,e1⟩ | ⟨o,ver,cap,pad,e1,e2,e3,e4,e5,e6⟩
   ·obtain⟨base,rfl⟩:=e1.val G v hv
    exact⟨_,_,_,rfl,Nat.le_refl _⟩
   ·rw [e1] at hv
    cases hv with
    |os=>exact⟨_,_,_,rfl,e5⟩
  exact ql7 dj hc hw (wr ht) (wr hu) (qe7 hb) (fin (ρ b) S (by rw [List.append_nil];exact hok) (Nat.le_refl _) (fun _ _ _=>rfl) fun o ho=>.inr ho)
 ·rcases hok with⟨rfl,e1⟩ | ⟨o,ver,cap,pad,e1,e2,e3,e4,e5,e6⟩
  ·refine qds (by rw [dj];exact e1.val) hw (wr ht) (wr hu) (qe7 hb) d9 gj (by simp only [maxLen];simp only [List.length_nil] at h1;omega) (by simpa using dn) fun cap pad q1 q2 q3 q4=>?_
   exact fin _ _ (.inr ⟨S.length,0,cap,pad,rfl,wd,q1,q2,q3,q4⟩) (by simp) (fun j hj _=>List.getElem?_append_left hj) fun o ho=>.inl (by simp only [zk,Option.some.injEq] at ho;omega)
  ·refine qlv (o:=o) (dj.trans e1) hw (.os ver (cap+1) pad e3 e4 e5 e6) e2 (wr ht) (wr hu) (qe7 hb) d9 (by simp only [maxLen];omega) dn fun a' ob' hV=>?_
   rcases qsn hV with⟨q,_,_⟩ | ⟨ver',cap',pad',rfl,rfl,q1,q2,q3,q4⟩
   ·simp [gj] at q
   ·obtain⟨cap',rfl⟩:∃ c,cap'=c+1:=⟨cap' - 1,by
     have:0<ys.length:=List.length_pos_iff.2 gj;simp at q3
     omega⟩
    refine fin _ _ (.inr ⟨o,ver',cap',pad',rfl,ym e2,q1,q2,q3,q4⟩) (by simp) (fun j hj b8=>List.getElem?_set_ne fun e=>b8 (by rw [e1,e];rfl)) fun o' d6=>.inr (by rw [e1];exact d6)
structure OwnR (sz:Nat) (T:TypeId) (ys:List AV) (st:List AObj) (c r:AV) (st':List AObj):Prop where
 ok:OwnS st' sz T ys r
 len:st.length≤st'.length
 same:∀ j,j<st.length→zk c≠some j→st'[j]? = st[j]?
 loc:∀ o,zk r=some o→st.length≤o∨zk c=some o
theorem qtf {S:List AObj} {sz:Nat} {T:TypeId} {xs:List AV} {c:AV} (h:OwnS S sz T xs c):tpAt c=c:=qdy h
theorem qo9 {f:FuncId} {sz:Nat} {T0:TypeId} {xs ys:List AV} (args:List AV) (hc:okC ⟨jb 0 (.tp 0::args.map .a),[(0,some (.own sz T0 xs))],1⟩=true)
  (h:∀ st c,OwnS st sz T0 xs c→qn E f (c::args) st fun r st'=>OwnR sz T0 ys st c r st'):ki E f (.tp 0::args.map .a) 1 (hpF [(0,some (.own sz T0 xs))]) ⟨.tp 1,j5 [(0,some (.own sz T0 xs))],[(1,some (.own sz T0 ys))]++vd [(0,some (.own sz T0 xs))],2⟩:=fun ρ S hS=>by
 simp only [vz] at hS;have hok:OwnS S sz T0 xs (ρ 0):=hS.ok 0 _ rfl
 have e:SV.evs ρ (.tp 0::args.map .a) = ρ 0::args:=by
  simp only [SV.evs,SV.ev,qtf hok,kh,List.map_map];congr 1
  conv=>rhs;rw [← List.map_id args]
  exact List.map_congr_left fun x _=>rfl
 rw [e];refine (h S (ρ 0) hok).mono fun r S' hr=>⟨upd ρ 1 r,?_,?_⟩
 ·simp only [SV.ev,jr,qtf hr.ok]
 ·have key:∀ k q,hpF [(1,some (.own sz T0 ys))] k=some q→k=1∧q = .own sz T0 ys:=fun k q hk=>by
   have:=w6 hk;simp only [lkS] at this
   cases hb:Nat.beq 1 k with
   |true=>
    rw [hb] at this;simp only [cond_true,Option.some.injEq] at this
    exact⟨(Nat.eq_of_beq_eq_true hb).symm,this.symm⟩
   |false=>rw [hb] at this;simp at this
  refine⟨fun k hk=>wz _ _ (by simp only at hk;omega),?_,hr.len,fun j hj hn=>?_,fun k q hk o ho=>?_⟩
  ·simp only [vz,qd5]
   refine⟨fun k q hk=>?_,fun k k' q q' b8 h1 h2=>absurd ((key k q h1).1.trans (key k' q' h2).1.symm) b8⟩;obtain⟨rfl,rfl⟩:=key k q hk;rw [jr];exact hr.ok
  ·simp only [vz] at hn
   exact hr.same j hj (hn 0 _ rfl)
  ·simp only [vz,qd5] at hk ⊢
   obtain⟨rfl,rfl⟩:=key k q hk;rw [jr] at ho;rcases hr.loc o ho with h|h
   ·exact .inl h
   ·exact .inr ⟨0,_,rfl,h⟩
theorem q0w {f:FuncId} {sz:Nat} {T0:TypeId} {ys:List AV} {nx:Nat} {H:Nat→Option SR} (args:List AV) (vs:List SV) (hv:∀ ρ,SV.evs ρ vs=args)
  (h:∀ st,qn E f args st fun r st'=>OwnR sz T0 ys st (.v undef) r st'):ki E f vs nx H ⟨.tp nx,[],[(nx,some (.own sz T0 ys))],nx+1⟩:=fun ρ S hS=>by
 rw [hv];refine (h S).mono fun r S' hr=>⟨upd ρ nx r,?_,?_⟩
 ·simp only [SV.ev,jr,qtf hr.ok]
 ·have key:∀ k q,chF [(nx,some (SR.own sz T0 ys))] (resF [] H) k=some q→k=nx∧q = .own sz T0 ys:=fun k q hk=>by
   simp only [chF,lkS] at hk
   cases hb:Nat.beq nx k with
   |true=>
    rw [hb] at hk;simp only [cond_true,Option.some.injEq] at hk
    exact⟨(Nat.eq_of_beq_eq_true hb).symm,hk.symm⟩
   |false=>
    rw [hb] at hk;simp [resF,memN] at hk
  refine⟨fun k hk=>wz _ _ (by simp only at hk;omega),⟨fun k q hk=>?_,fun k k' q q' b8 h1 h2=>absurd ((key k q h1).1.trans (key k' q' h2).1.symm) b8⟩,hr.len,fun j hj _=>hr.same j hj (by simp [zk]),fun k q hk o ho=>?_⟩
  ·obtain⟨rfl,rfl⟩:=key k q hk
   rw [jr];exact hr.ok
  ·obtain⟨rfl,rfl⟩:=key k q hk
   rw [jr] at ho;rcases hr.loc o ho with h|h
   ·exact .inl h
   ·simp [zk] at h
end
end Go.Av
namespace Go.Proofs.YtapblfabkbdgcaaGreatDoor
open Go Go.Av Go.RowKit Go.Proofs Go.Pl
theorem q1y {a:qc} (f0:10∉a):vh a=if qs a=1∨a.getD 0 0=46 then 46::a else a:=by
 have hk:=zbf f0;unfold vh
 cases a with
 |nil=>simp [hk,qa9]
 |cons x y=>simp only [List.head?_cons,Option.some.injEq,hk];rfl
def outK (hd:qc) (r:List qc) (k:Nat):List AV:=(hd::(r.take k).map fun s=>[32]++vh s).map fun x=>Sv x
theorem q8n {hd:qc} {r:List qc} {k:Nat} {a:qc} (h:r[k]? = some a):outK hd r (k+1)=outK hd r k++[Sv ([32]++vh a)]:=by
 obtain⟨d5,rfl⟩:=List.getElem?_eq_some_iff.1 h;unfold outK;rw [← List.take_append_getElem d5];simp only [List.map_append,List.map_cons,List.map_nil,List.cons_append]
theorem zbu {hd:qc} {r:List qc} {k:Nat} (h:k≤r.length):(outK hd r k).length=k+1:=by
 unfold outK;simp;omega
set_option maxHeartbeats 2000000 in
theorem qzl (f:FldV) (st:List AObj) (hl:f.1.length<4294967281) (hv:f.2.length<1000000):qn E 108 [fldA f] st fun r st'=>r=Ss (zm f)∧st'=st:=by
 obtain⟨key,val⟩:=f;dsimp only at hl hv;refine zt [.a (.ag [Sv key,Sv val])] (qn1 _) Tryz.func108 rfl rfl (fun _=>rfl) rfl fun S0=>?_;obtain⟨p,r,hp⟩:∃ p r,qy val=p::r:=⟨_,_,qk9 val⟩;have s0:p.length≤val.length:=qdm val p (by rw [hp];simp);have cx:∀ x∈r,x.length≤val.length:=fun x hx=>qdm val x (by rw [hp];simp [hx]);have hr10:∀ x∈r,10∉x:=fun x hx=>qdb val x (by rw [hp];simp [hx]);have hrn:r.length≤val.length:=by have:=qbg _ val (Nat.le_refl _);rw [hp] at this;simpa using this
 have b9:(Sv p::r.map fun x=>Sv x).length=r.length+1:=by simp
 have hpt:=fun st=>zbz val p r st hv hp;have ml:(Sv p::r.map fun x=>Sv x)[0]? = some (Sv p):=rfl;rw [q1g (f:=(key,val)) hp];generalize hhd:jy key p=hd;have nj:Ss (hd::r.map fun s=>[32]++vh s) = .sl 1 (outK hd r r.length) none:=by unfold outK;rw [List.take_length]
 rw [nj];apply qf [1,24];repeat' (first|apply And.intro|(intro h;try exact cDd)|exact⟨Tryz.call149⟩|refine cpe hpt ?_|(refine Exists.intro (0) ⟨by omega,_,ml,?_⟩)|exact cSd|apply qd [1,24]|refine exr ?_|refine qk ?_)
 all_goals
  refine ke (X:=Nat) (fun k=>⟨[(3,.a (.sl 1 (Sv p::r.map fun x=>Sv x) none)),(5,.tp 0),(6,.i ((k:Int)+1))],[(0,some (.tip 1 9 (outK hd r k)))],1⟩) (fun k=>k≤r.length) (fun k=>r.length - k) 0 (by omega) ?_ ?_
  ·skip
   repeat' (first|apply And.intro|(intro h;try exact cDd)|exact cSd|apply qd []|refine exr ?_|refine qk ?_)
   all_goals (subst hhd;unfold jy outK;simp_all [SV.evs,SV.ev])
  ·rintro k hk
   have lj:=zbu (hd:=hd) hk;by_cases d5:k<r.length
   ·obtain⟨a,ha⟩:∃ a,r[k]? = some a:=⟨_,List.getElem?_eq_getElem d5⟩
    have c8:(Sv p::r.map fun x=>Sv x)[k+1]? = some (Sv a):=by simp [ha]
    have ham:=List.mem_of_getElem? ha;have hal:=cx a ham;have hka:=fun st=>q84 a st (by omega);have e7:=q1y (hr10 a ham);have p9:=q8n (hd:=hd) ha;rw [e7] at p9;have hk0:qs a≠1→0<a.length:=fun h=>List.length_pos_iff.2 fun e=>h (by subst e;rfl);by_cases bw:qs a=1
    ·simp only [bw] at hka
     rw [if_pos (.inl bw)] at p9;apply qf [];repeat' (first|apply And.intro|(intro h;try exact cDd)|(refine Exists.intro ((k+1)) ⟨by omega,_,c8,?_⟩)|exact⟨Tryz.call92⟩|refine cpe hka ?_|(refine Exists.intro (k+1) ⟨by omega,by omega,?_⟩)|exact cSd|apply qd []|refine exr ?_|refine qk ?_)
     all_goals first|(rw [p9];done)|(rw [p9];simp [SV.evs,SV.ev];done)|(simp only [List.length_cons,List.length_nil];omega)
    ·have bc:=hk0 bw
     apply qf [];repeat' (first|apply And.intro|(intro h;try exact cDd)|(refine Exists.intro ((k+1)) ⟨by omega,_,c8,?_⟩)|exact⟨Tryz.call92⟩|refine cpe hka ?_|(refine Exists.intro (k+1) ⟨by omega,by omega,?_⟩)|exact cSd|apply qd []|refine exr ?_|refine qk ?_)
     all_goals first|(rw [p9,if_pos (.inr ((zdo _).1 (by assumption)))];simp [SV.evs,SV.ev];done)|(rw [p9,if_neg (by simp only [bw,false_or];intro e;exact absurd ((zdo _).2 e) (by assumption))];done)|(simp only [List.length_cons,List.length_nil];omega)
   ·rw [show k=r.length by omega]
    apply qf [];repeat' (first|apply And.intro|(intro h;try exact cDd)|exact cSd|apply qd []|refine exr ?_|refine qk ?_)
set_option maxHeartbeats 2000000 in
theorem q5n (xs:List FldV) (st:List AObj) (hx:q3s xs):qn E 71 [zl xs] st fun r st'=>r=Sv (z0 xs)∧st'=st:=by
 refine zt [.a (zl xs)] (q8 _) Tryz.func71 rfl rfl (fun _=>rfl) rfl fun S0=>?_;have hxl:=hx.len;have g9:(xs.map fldA).length=xs.length:=by simp
 apply qf [];repeat' (first|apply And.intro|(intro h;try exact cDd)|exact cSd|apply qd []|refine exr ?_|refine qk ?_)
 refine ke (X:=Nat) (fun k=>⟨[(0,.a (zl xs)),(3,.s (z0 (xs.take k))),(4,.i k)],[],0⟩) (fun k=>k≤xs.length) (fun k=>xs.length - k) 0 (by omega) ?_ ?_
 ·skip
  repeat' (first|apply And.intro|(intro h;try exact cDd)|exact cSd|apply qd []|refine exr ?_|refine qk ?_)
 ·rintro k hk
  by_cases d5:k<xs.length
  ·obtain⟨f,hf⟩:∃ f,xs[k]? = some f:=⟨_,List.getElem?_eq_getElem d5⟩
   have c8:(xs.map fldA)[k]? = some (fldA f):=by simp [hf]
   obtain⟨ng,hf2⟩:=hx.val f (List.mem_of_getElem? hf);have o8:=qrb (xs.take k) fun g hg=>hx.val g (List.mem_of_mem_take hg);rw [List.length_take] at o8;have bm:=qov f;have hln:=fun st=>qzl f st ng hf2
   have cd:z0 (xs.take (k+1))=z0 (xs.take k)++ze (zm f):=by
    obtain⟨_,rfl⟩:=List.getElem?_eq_some_iff.1 hf;rw [← List.take_append_getElem d5,qux,quy]
   have fk:((zm f).map fun x=>Sv x).length=(zm f).length:=by simp
   have hsn:=qjx (zm f);apply qf [];repeat' (first|apply And.intro|(intro h;try exact cDd)|(refine Exists.intro (k) ⟨by omega,_,c8,?_⟩)|exact⟨Tryz.call108⟩|refine cpe hln ?_|exact cSd|apply qd []|refine exr ?_|refine qk ?_)
   refine ke (X:=Nat) (fun j=>⟨[(0,.a (zl xs)),(3,.s (z0 (xs.take k)++ze ((zm f).take j))),(4,.i k),(17,.a (Ss (zm f))),(18,.i ((zm f).map fun x=>Sv x).length),(19,.i j)],[],0⟩) (fun j=>j≤(zm f).length) (fun j=>(zm f).length - j) 0 (by omega) ?_ ?_
   ·skip
    repeat' (first|apply And.intro|(intro h;try exact cDd)|exact cSd|apply qd []|refine exr ?_|refine qk ?_)
    all_goals (simp [ze];done)
   ·rintro j hj
    by_cases hjl:j<(zm f).length
    ·obtain⟨a,ha⟩:∃ a,(zm f)[j]? = some a:=⟨_,List.getElem?_eq_getElem hjl⟩
     have rt:((zm f).map fun x=>Sv x)[j]? = some (Sv a):=by simp [ha]
     have htj:ze ((zm f).take (j+1))=ze ((zm f).take j)++a++[10]:=by
      obtain⟨_,rfl⟩:=List.getElem?_eq_some_iff.1 ha;rw [← List.take_append_getElem hjl,x6,qgc,List.append_assoc]
     have hbj:(ze ((zm f).take (j+1))).length≤(ze (zm f)).length:=by
      have:=congrArg (fun l=>(ze l).length) (List.take_append_drop (j+1) (zm f));simp only [x6,List.length_append] at this;omega
     have fb:=congrArg List.length htj;simp only [List.length_append,List.length_cons,List.length_nil] at fb;apply qf [];repeat' (first|apply And.intro|(intro h;try exact cDd)|(refine Exists.intro (j) ⟨by omega,_,rt,?_⟩)|(refine Exists.intro (j+1) ⟨by omega,by omega,?_⟩)|exact cSd|apply qd []|refine exr ?_|refine qk ?_)
     all_goals first|(rw [htj];simp;done)|(simp only [List.length_append,List.length_cons,List.length_nil];omega)
    ·rw [List.take_of_length_le (show (zm f).length≤j by omega)]
     apply qf [];repeat' (first|apply And.intro|(intro h;try exact cDd)|(refine Exists.intro (k+1) ⟨by omega,by omega,?_⟩)|exact cSd|apply qd []|refine exr ?_|refine qk ?_)
     all_goals (rw [cd];done)
  ·rw [List.take_of_length_le (by omega)]
   apply qf [];repeat' (first|apply And.intro|(intro h;try exact cDd)|exact cSd|apply qd []|refine exr ?_|refine qk ?_)
def accK (l:qc) (r:List qc) (k:Nat):List qc:=x7 32 (w8 l)::(r.take k).map fun s=>x7 46 (s.drop 1)
theorem q6d {l:qc} {r:List qc} {k:Nat} {a:qc} (h:r[k]? = some a):(accK l r (k+1)).map (fun x=>Sv x)=(accK l r k).map (fun x=>Sv x)++[Sv (x7 46 (a.drop 1))]:=by
 obtain⟨d5,rfl⟩:=List.getElem?_eq_some_iff.1 h;unfold accK;rw [← List.take_append_getElem d5];simp only [List.map_append,List.map_cons,List.map_nil,List.cons_append]
set_option maxHeartbeats 4000000 in
theorem qlz (ls:List qc) (st:List AObj) (hB:LsB ls):qn E 167 [Ss ls] st fun r st'=>r=qfi ls∧st'=st:=by
 refine zt [.a (Ss ls)] (q0d _) Tryz.func167 rfl rfl (fun _=>rfl) rfl fun S0=>?_;have hL:=hB.len;have g9:(ls.map fun x=>Sv x).length=ls.length:=by simp
 cases ls with
 |nil=>
  apply qf [2]
  repeat' (first|apply And.intro|(intro h;try exact cDd)|exact cSd|apply qd [2]|refine exr ?_|refine qk ?_)
 |cons l r=>
  have hl:=hB.val l (by simp);simp only [List.length_cons] at hL g9;have ml:((l::r).map fun x=>Sv x)[0]? = some (Sv l):=rfl;have hrm:(r.map fun x=>Sv x).length=r.length:=by simp
  by_cases h4:qs l=4
  ·have hkf:=qmw.1 h4
   have hcu:=fun st=>q44 l st (by omega) h4;have ln:=fun st=>q3i (w8 l) 32 st;apply qf [2,31];repeat' (first|apply And.intro|(intro h;try exact cDd)|(refine Exists.intro (0) ⟨by omega,_,ml,?_⟩)|exact⟨Tryz.call194⟩|refine cpe hcu ?_|exact⟨Tryz.call40⟩|refine cpe ln ?_|exact cSd|apply qd [2,31]|refine exr ?_|refine qk ?_)
   refine ke (X:=Nat) (fun k=>⟨[(2,.bx 0 0),(4,.s (z8 l)),(7,.tp 1),(33,.a (.sl 1 (r.map fun x=>Sv x) none)),(34,.i (r.map fun x=>Sv x).length),(35,.i k)],[(0,some (.cells 98 [.s [],.s []])),(1,some (.tip 1 9 ((accK l r k).map fun x=>Sv x)))],2⟩) (fun k=>k≤r.length∧∀ x∈r.take k,qs x=3) (fun k=>r.length - k) 0 ⟨by omega,by simp⟩ ?_ ?_
   ·skip
    repeat' (first|apply And.intro|(intro h;try exact cDd)|exact cSd|apply qd []|refine exr ?_|refine qk ?_)
   ·rintro k ⟨hk,h3⟩
    have hacl:((accK l r k).map fun x=>Sv x).length=k+1:=by unfold accK;simp;omega
    by_cases d5:k<r.length
    ·obtain⟨a,ha⟩:∃ a,r[k]? = some a:=⟨_,List.getElem?_eq_getElem d5⟩
     have c8:(r.map fun x=>Sv x)[k]? = some (Sv a):=by simp [ha]
     have hav:=hB.val a (by simp [List.mem_of_getElem? ha]);have hka:=fun st=>qmv a st (by omega);have sw:=fun st=>q3i (a.drop 1) 46 st;have p9:=q6d (l:=l) ha;by_cases lg:qs a=3
     ·obtain⟨h2,_⟩:=qta lg
      simp only [lg] at hka
      have cd:r.take (k+1)=r.take k++[a]:=by
       obtain⟨_,rfl⟩:=List.getElem?_eq_some_iff.1 ha;rw [List.take_append_getElem]
      apply qf [];repeat' (first|apply And.intro|(intro h;try exact cDd)|(refine Exists.intro (k) ⟨by omega,_,c8,?_⟩)|exact⟨Tryz.call121⟩|refine cpe hka ?_|exact⟨Tryz.call40⟩|refine cpe sw ?_|(refine Exists.intro (k+1) ⟨⟨by omega,by rw [cd];exact qpr h3 lg⟩,by omega,?_⟩)|exact cSd|apply qd []|refine exr ?_|refine qk ?_)
      all_goals first|(rw [p9];done)|(rw [p9];simp [SV.evs,SV.ev];done)|(simp only [List.length_cons,List.length_nil];omega)
     ·have pg:jt (l::r)=(([],[]),2):=if_neg fun h=>lg (h.2.2 a (List.mem_of_getElem? ha))
      unfold qfi;rw [pg];apply qf [];repeat' (first|apply And.intro|(intro h;try exact cDd)|(refine Exists.intro (k) ⟨by omega,_,c8,?_⟩)|exact⟨Tryz.call121⟩|refine cpe hka ?_|exact absurd (by assumption) lg|exact cSd|apply qd []|refine exr ?_|refine qk ?_)
    ·rw [List.take_of_length_le (by omega)] at h3
     have hkr:k=r.length:=by omega
     subst hkr;have hok:qp9 (l::r):=⟨by simp,h4,h3⟩;have hjl:=qz5 r fun s hs=>hB.val s (by simp [hs]);have hj:=q72 (x7 32 (w8 l)) r;have hjv:Lib.join (accK l r r.length) [10]=qae l r:=by unfold accK;rw [List.take_length];exact hj
     have htr:(x7 32 (w8 l)).length≤l.length:=by unfold x7 w8;split <;> simp <;> omega
     have lq:(qae l r).length≤140737488355328:=by
      unfold qae;rw [List.length_append];omega
     have hjn:=fun tip st=>q2v (accK l r r.length) tip [10] (qae l r) st hjv (by rw [← List.length_map (f:=fun x=>Sv x),hacl];omega) lq;have hkl:(z8 l).length<4294967281:=by have:=hkf.2.2.2.1;omega
     have pm:jt (l::r)=if 1000<(qae l r).length then (([],[]),6) else ((z8 l,qae l r),0):=if_pos hok;have hjn0:=hjn none;unfold qfi;by_cases hv:1000<(qae l r).length
     ·have hcf:kg (z8 l,qae l r)=6:=(if_neg (by simpa using hkf.2.2)).trans (if_pos hv)
      have rj:=fun st=>qhv (z8 l,qae l r) st hkl (by rw [hcf];decide);rw [hcf] at rj;rw [pm,if_pos hv];apply qf [10];repeat' (first|apply And.intro|(intro h;try exact cDd)|exact⟨Tryz.call105⟩|refine cpe hjn0 ?_|exact⟨Tryz.call142⟩|refine cpe rj ?_|exact cSd|apply qd [10]|refine exr ?_|refine qk ?_)
     ·have hcf:kg (z8 l,qae l r)=0:=(if_neg (by simpa using hkf.2.2)).trans (if_neg hv)
      have rj:=fun st=>qhu (z8 l,qae l r) st hkl hcf;rw [pm,if_neg hv];apply qf [10];repeat' (first|apply And.intro|(intro h;try exact cDd)|exact⟨Tryz.call105⟩|refine cpe hjn0 ?_|exact⟨Tryz.call142⟩|refine cpe rj ?_|exact cSd|apply qd [10]|refine exr ?_|refine qk ?_)
  ·have pg:jt (l::r)=(([],[]),2):=if_neg fun h=>h4 h.2.1
   have hcu:=fun st=>q1f l st (by omega) h4;unfold qfi;rw [pg];apply qf [2];repeat' (first|apply And.intro|(intro h;try exact cDd)|(refine Exists.intro (0) ⟨by omega,_,ml,?_⟩)|exact⟨Tryz.call194⟩|refine cpe hcu ?_|exact cSd|apply qd [2]|refine exr ?_|refine qk ?_)
end Go.Proofs.YtapblfabkbdgcaaGreatDoor
namespace Go.Av
open Go Go.RowKit
structure DP where
 q:Prop
 h:Decidable q
def eqC1 (u:Option TypeDesc) (x y:SV):Option DP:=
 match u with
 |some (.int _)=>(match qaf x,qaf y with
  |some (k,m),some (k',n)=>bif decide (k=k') then some ⟨m=n,inferInstance⟩ else none
  | _,_=>none)
 |some .string=>(match x,y with
  | .s m,.s n=>some ⟨m=n,inferInstance⟩
  | _,_=>none)
 |some .bool=>(match qj4 x,qj4 y with
  |some a,some b=>some ⟨a=b,inferInstance⟩
  | _,_=>none)
 | _=>none
def eqCs (P:Program):Nat→List Field→List SV→List SV→Option DP
 | _,[],[],[]=>some ⟨True,inferInstance⟩
 | i, f :: r, x :: xs, y :: ys => bif f.name != "_" && Nat.beq f.offset i then (match eqC1 (P.underlying f.type) x y, eqCs P (i + 1) r xs ys with
  |some a,some b=>some ⟨a.q∧b.q,@instDecidableAnd _ _ a.h b.h⟩
  | _,_=>none) else none
 | _,_,_,_=>none
def agOf:SV→Option (List SV)
 | .ag cs=>some cs
 | .a (.ag xs)=>some (nfs xs)
 | _=>none
theorem q16 {v:SV} {cs:List SV} (h:agOf v=some cs) (ρ : Nat→AV):v.ev ρ = .ag (SV.evs ρ cs):=by
 unfold agOf at h;split at h
 ·simp only [Option.some.injEq] at h;subst h;rfl
 ·simp only [Option.some.injEq] at h;subst h;simp only [SV.ev,qf7]
 ·simp at h
def qy0:TypeDesc→Bool
 | .struct _=>false
 | .array _ _=>false
 | _=>true
theorem qzy {P:Program} {t:TypeId} {u:TypeDesc} {cs:Array Value} {off:Nat} {a:Value} (w:World) (hu:P.underlying t=some u) (hs:qy0 u=true) (h:cs[off]? = some a):(part t cs off).run P w = .ok a w:=by
 unfold part isAgg
 cases u <;> simp [run_underlying hu,h,qy0] at hs ⊢
theorem za1 {P:Program} {G:Gh} {ρ : Nat→AV} {t:TypeId} {x y:SV} {a b:Value} {q:DP} {d:Nat} (w:World) (h:eqC1 (P.underlying t) x y=some q) (hx:Rel G (x.ev ρ) a) (hy:Rel G (y.ev ρ) b) :
  (Op.equalIn (d+1) t a b).run P w = .ok (@decide q.q q.h) w∧∃ u,P.underlying t=some u∧qy0 u=true:=by
 unfold eqC1 at h;split at h
 ·rename_i kd hu
  split at h
  ·rename_i k m k' n hm hn
   cases hk:decide (k=k') with
   |false=>rw [hk] at h;simp at h
   |true=>
    rw [hk] at h;simp only [cond_true,Option.some.injEq] at h;have hk:=of_decide_eq_true hk;subst hk;subst h;rw [xk hm] at hx;rw [xk hn] at hy
    cases hx
    cases hy
    refine⟨?_,_,hu,rfl⟩;rw [run_equalIn_int w d t k kd m n hu];congr 1
  ·simp at h
 ·rename_i hu
  split at h
  ·rename_i m n
   simp only [Option.some.injEq] at h;subst h
   cases hx
   cases hy
   refine⟨?_,_,hu,rfl⟩;rw [run_equalIn_string w d t _ _ hu];simp only [ByteArray.toList_eq];congr 1;by_cases he:m=n <;> simp [he]
  ·simp at h
 ·rename_i hu
  split at h
  ·rename_i m n hm hn
   simp only [Option.some.injEq] at h;subst h;rw [qd4 hm] at hx;rw [qd4 hn] at hy
   cases hx
   cases hy
   refine⟨?_,_,hu,rfl⟩;rw [run_equalIn_bool' w d t _ _ hu];congr 1
  ·simp at h
 ·simp at h
theorem qx2 {P:Program} {G:Gh} {ρ : Nat→AV} {d:Nat} (w:World) (us ws:Array Value):∀ (i:Nat) (fs:List Field) (xs ys:List SV) (q:DP),eqCs P i fs xs ys=some q →
  (∀ j x,xs[j]? = some x→∃ a,us[i+j]? = some a∧Rel G (x.ev ρ) a)→(∀ j x,ys[j]? = some x→∃ a,ws[i+j]? = some a∧Rel G (x.ev ρ) a)→(Op.eqFields (d+1) us ws fs).run P w = .ok (@decide q.q q.h) w
 |i,[],[],[],q,h,_,_=>by
  simp only [eqCs,Option.some.injEq] at h;subst h
  simp [Op.eqFields]
 |i,f::r,x::xs,y::ys,q,h,hx,hy=>by
  simp only [eqCs] at h
  cases hc : (f.name != "_" && Nat.beq f.offset i) with
  |false=>rw [hc] at h;simp at h
  |true=>
   rw [hc] at h;simp only [Bool.and_eq_true] at hc;obtain⟨nz,lz⟩:=hc;have lz:=Nat.eq_of_beq_eq_true lz;simp only [cond_true] at h;split at h
   ·rename_i qa qb h1 h2
    simp only [Option.some.injEq] at h;subst h;obtain⟨a,ha,hra⟩:=hx 0 x rfl;obtain⟨b,hb,hrb⟩:=hy 0 y rfl;obtain⟨e1,u,hu,hsc⟩:=za1 (d:=d) w h1 hra hrb
    have ih:=qx2 (d:=d) w us ws (i+1) r xs ys qb h2 (fun j z hz=>by
     obtain⟨a,h3,h4⟩:=hx (j+1) z (by simpa using hz)
     exact⟨a,by rw [← h3];congr 1;omega,h4⟩) (fun j z hz=>by
     obtain⟨a,h3,h4⟩:=hy (j+1) z (by simpa using hz)
     exact⟨a,by rw [← h3];congr 1;omega,h4⟩)
    have hn : f.name ≠ "_" := by simpa using nz
    rw [Nat.add_zero,← lz] at ha hb;simp only [Op.eqFields,Sem.run_bind,Sem.run_ite,if_pos hn,qzy w hu hsc ha,qzy w hu hsc hb,Result.andThen_ok,e1];rcases (Classical.em qa.q) with hq|hq
    ·rw [@decide_eq_true _ qa.h hq]
     simp only [Bool.not_true,Bool.false_eq_true,if_false,ih];congr 1;rcases (Classical.em qb.q) with hr|hr
     ·rw [@decide_eq_true _ qb.h hr];exact (@decide_eq_true _ (@instDecidableAnd _ _ qa.h qb.h) ⟨hq,hr⟩).symm
     ·rw [@decide_eq_false _ qb.h hr];exact (@decide_eq_false _ (@instDecidableAnd _ _ qa.h qb.h) fun h=>hr h.2).symm
    ·rw [@decide_eq_false _ qa.h hq]
     simp only [Bool.not_false,if_true,Sem.run_pure];congr 1;exact (@decide_eq_false _ (@instDecidableAnd _ _ qa.h qb.h) fun h=>hq h.1).symm
   ·simp at h
 | _,[],[],_::_,_,h,_,_=>by simp [eqCs] at h
 | _,[],_::_,_,_,h,_,_=>by simp [eqCs] at h
 | _,_::_,[],_,_,h,_,_=>by simp [eqCs] at h
 | _,_::_,_::_,[],_,h,_,_=>by simp [eqCs] at h
section
variable {E : Env} {N : Nat} {ops : Array Oper} {nx : Nat} {sl : List (Nat × SV)} {H : Nat → Option SR} {k : Ef → Prop} {d : Option Tmp} {T : TypeId} {p : String} {af : Array Edge}
structure EqT (P:Program) (t:TypeId):Prop where
 u:P.underlying t=some (.struct (P.fieldsOf t))
 s:P.stoodInHeld t=false
 g:P.eqGuardType P.depth t=false
theorem q28 {G:Gh} {cs:List AV} {v:Value} (h:Rel G (.ag cs) v):∃ vs:Array Value,v = .agg vs∧∀ (j:Nat) x,cs[j]? = some x→∃ a,vs[j]? = some a∧Rel G x a:=by
 cases h with
 |ag _ vs hl h=>
  refine⟨vs,rfl,fun j x hx=>?_⟩;have hj:j<vs.size:=by have:=lt_of_getElem? hx;omega
  exact⟨vs[j],by simp [hj],h j x _ hx (by simp [hj])⟩
theorem zic {t:TypeId} {v1 v2:Value} {G:Gh} {ρ : Nat→AV} {vx vy:SV} {xs ys:List SV} {q:DP} (ht:EqT E.P t) (hx:agOf vx=some xs) (hy:agOf vy=some ys) (hq:eqCs E.P 0 (E.P.fieldsOf t).toList xs ys=some q) (h1:Rel G (vx.ev ρ) v1) (h2:Rel G (vy.ev ρ) v2) (w:World) :
  ∃ us ws,v1 = .agg us∧v2 = .agg ws∧(Op.equalIn 10000 t (.agg us) (.agg ws)).run E.P w = .ok (@decide q.q q.h) w:=by
 rw [q16 hx] at h1;rw [q16 hy] at h2;obtain⟨us,rfl,ha⟩:=q28 h1;obtain⟨ws,rfl,hb⟩:=q28 h2;refine⟨us,ws,rfl,rfl,?_⟩;rw [run_equalIn_agg w 9999 t us ws ht.u ht.s];refine qx2 (G:=G) (ρ:= ρ) w us ws 0 _ xs ys q hq (fun j x hx=>?_) (fun j x hx=>?_)
 ·rw [Nat.zero_add]
  exact ha j _ (by rw [kh,List.getElem?_map,hx];rfl)
 ·rw [Nat.zero_add]
  exact hb j _ (by rw [kh,List.getElem?_map,hx];rfl)
theorem zdk {t t':TypeId} {x y:Operand} {vx vy:SV} {xs ys:List SV} {q:DP} (ht:EqT E.P t) (hx:sval N sl x=some vx) (hy:sval N sl y=some vy) (h1:agOf vx=some xs) (h2:agOf vy=some ys) (hq:eqCs E.P 0 (E.P.fieldsOf t).toList xs ys=some q) (h:k ⟨.p (¬ q.q) (@instDecidableNot _ q.h),[],[],nx⟩) :
  ∃ e,Loc E N ops ⟨d,.binOp .neq t x y t',T,p,af,none⟩ nx sl H e∧k e:=by
 refine⟨_,z4 fun df rd K rest ρ t1 S hs hk=>qz rfl (qx nofun fun B0 w0 G a w _ hI=>?_),h⟩;have e1:=hI.eval x;rw [qv hs hx] at e1;have e2:=hI.eval y;rw [qv hs hy] at e2;obtain⟨us,ws,g1,g2,g3⟩:=zic ht h1 h2 hq e1 e2 w;generalize a.eval=ev at g1 g2;have hg:(eqGuard .neq t x y (.agg us) (.agg ws)).run E.P w = .ok () w:=run_eqGuard_agg w .neq t x y us ws ht.g
 have hd:(!(@decide q.q q.h)) = @decide (¬ q.q) (@instDecidableNot _ q.h):=by
  rcases (Classical.em q.q) with hq|hq
  ·rw [@decide_eq_true _ q.h hq];exact (@decide_eq_false _ (@instDecidableNot _ q.h) fun h=>h hq).symm
  ·rw [@decide_eq_false _ q.h hq];exact (@decide_eq_true _ (@instDecidableNot _ q.h) hq).symm
 refine⟨.bool (@decide (¬ q.q) (@instDecidableNot _ q.h)),w,G,Bv (@decide (¬ q.q) (@instDecidableNot _ q.h)),S,?_,.refl G,hI.agree,.v _,hk⟩;simp only [← hd];simp [execOp,g1,g2,hg,run_neq_struct,g3]
end
end Go.Av
namespace Go.Av
open Go Go.RowKit
theorem zbk (z:Value) (n:Nat):(madeCells #[z] n).toList=List.replicate n z:=by
 apply List.ext_getElem
 ·simp [madeCells]
 ·intro i h1 h2
  simp [madeCells,Nat.mod_one]
section
variable {E : Env} {rd : Option Nat} {N : Nat} {ops : Array Oper} {K : AS → Prop} {s : AS} {rest : List Oper} {d : Option Tmp} {T : TypeId} {p : String} {af : Array Edge}
theorem qxa {t e:TypeId} {i:TypeInfo} {z:Value} {x y:Operand} {kl kc:IntKind} {n:Nat} (hx:qi N s x = .v (.int kl n)) (hy:qi N s y = .v (.int kc n)) (ht:E.P.underlying t=some (.slice e)) (hi:E.P.info? e=some i) (hz:i.zero=some z) (hzc:z.cells = #[z]) (f8:i.size=1)
  (hb:i.bytes * n≤281474976710656) (hn:n≤16777216)
  (h:AOps E rd N ops rest K (AS.put ⟨s.t,s.st++[.cells 0 e ((List.replicate n z).map .v)],s.df⟩ d (.os s.st.length 0 0 n n))):AOps E rd N ops (⟨d,.makeSlice t x y,T,p,af,none⟩::rest) K s:=by
 refine qz rfl (qx nofun fun B0 w0 G a w _ hI=>?_);have hvx:=hI.evalv hx;have hvy:=hI.evalv hy
 have dx:(i.bytes:Int) * (n:Int)≤281474976710656:=by
  have h:((i.bytes * n:Nat):Int)≤281474976710656:=by omega
  rwa [Int.natCast_mul] at h
 have a8:=run_makeSlice (P:=E.P) w t e i z ht hi hz kl kc n n (by omega) (Int.le_refl _) (by rw [f8];simp;omega) dx (by omega);simp only [Int.toNat_natCast,f8,Nat.mul_one,hzc] at a8;have hl:=zbk z n
 have hA:=hI.agree.newCells e (madeCells #[z] n) ((List.replicate n z).map .v) (by rw [← hl];simp) fun k u v hu hv=>by
  rw [List.getElem?_map,← hl] at hu;have:(madeCells #[z] n).toList[k]? = some v:=by simpa using hv
  rw [this] at hu;simp only [Option.map_some,Option.some.injEq] at hu;subst hu;exact .v v
 have hN:=hI.agree.n;refine⟨.slice (some ⟨w.heap.size,0,none⟩) n n,_,_,_,_,?_,G.le_new _ _ _ _,hA,.os _ _ _ _ _ _ (by simp [Gh.new,hN]) (Nat.zero_le _) (fun _=>by simp [Gh.new,hN]),h⟩;simp only [execOp,hvx,hvy];rw [Sem.run_bind,a8];rfl
end
section
variable {E : Env} {N : Nat} {ops : Array Oper} {nx : Nat} {sl : List (Nat × SV)} {H : Nat → Option SR} {k : Ef → Prop} {d : Option Tmp} {T : TypeId} {p : String} {af : Array Edge}
theorem zbw {t e:TypeId} {i:TypeInfo} {z:Value} {x y:Operand} {v u:SV} {kl kc:IntKind} {n:Nat} (hx:sval N sl x=some v) (hv:∀ ρ,v.ev ρ = .v (.int kl (n+1:Nat))) (hy:sval N sl y=some u) (hu:∀ ρ,u.ev ρ = .v (.int kc (n+1:Nat))) (ht:E.P.underlying t=some (.slice e)) (hi:E.P.info? e=some i) (hz:i.zero=some z) (hzc:z.cells = #[z]) (f8:i.size=1) (d9:(AV.v z).one=true)
  (hb:i.bytes * (n+1)≤281474976710656) (hn:n+1≤16777216)
  (h:k ⟨.tp nx,[],[(nx,some (.own 1 e ((List.replicate (n+1) z).map .v)))],nx+1⟩):∃ e,Loc E N ops ⟨d,.makeSlice t x y,T,p,af,none⟩ nx sl H e∧k e:=by
 refine⟨_,qhf (fun k r hk=>by rw [qcw] at hk;simp at hk) fun df rd K rest ρ t1 S ho _ hk=>qxa (n:=n+1) ((qv ho hx).trans (hv ρ)) ((qv ho hy).trans (hu ρ)) ht hi hz hzc f8 hb hn ?_,h⟩
 have g8:flat ((List.replicate (n+1) z).map AV.v)=(List.replicate (n+1) z).map AV.v:=by
  unfold flat;rw [List.flatMap_map]
  induction List.replicate (n+1) z with
  |nil=>rfl
  |cons a r ih=>rw [List.flatMap_cons,ih];rfl
 have:=hk (.os S.length 0 0 (n+1) (n+1)) [.cells 0 e ((List.replicate (n+1) z).map .v)]
  (.inr ⟨S.length,0,n,[],by simp,by rw [g8,List.append_nil];exact wd,by rw [g8];simp,fun x hx=>by obtain⟨q,_,rfl⟩:=List.mem_map.1 hx;rfl,by simp,by simp [maxLen];omega⟩)
  (fun o ho=>by simp only [zk,Option.some.injEq] at ho;omega)
 simpa [SV.ev,jr,tpAt,AV.one] using this
end
end Go.Av
namespace Go.Pl
open Go Go.Proofs
structure za where
 kind:Int
 raw:qc
 fields:List Fld
structure PSt where
 lines:List qc
 frm:Int
 full:Bool
 items:List za
 block:List qc
 fields:List Fld
 records:Int
def jn (p:PSt):Option (Int×Int)×PSt:=
 if p.lines=[] then (none,p)
 else if (jt p.lines).2≠0 then (some (p.frm,(jt p.lines).2),p)
 else if p.full=true then (some (p.frm,11),p)
 else (none,{ p with lines:=[],fields:=p.fields++[(jt p.lines).1] })
end Go.Pl
namespace Go.Proofs.YtapblfabkbdgcaaGreatDoor
open Go Go.Av Go.RowKit Go.Proofs Go.Pl
@[reducible] def vo (x : za) : AV := .ag [Iv x.kind, Sv x.raw, zl x.fields]
@[reducible] def wy (xs : List za) : AV := .sl 3 (xs.map vo) none
@[reducible] def parC (c1 c2 c3 c4 : AV) (p : PSt) : List AV := [c1, Iv p.frm, Bv p.full, c2, c3, c4, Iv p.records]
@[reducible] def parO (c1 c2 c3 c4 : AV) (p : PSt) : AObj := .cells 0 160 (parC c1 c2 c3 c4 p)
structure ParS (b o:Nat) (p:PSt) (st:List AObj) (c1 c2 c3 c4:AV):Prop where
 lt:o<b
 le:b≤st.length
 ob:st[o]? = some (parO c1 c2 c3 c4 p)
 h1:TipC b st 1 9 (p.lines.map fun x=>Sv x) c1
 h2:TipC b st 3 107 (p.items.map vo) c2
 h3:TipC b st 1 9 (p.block.map fun x=>Sv x) c3
 h4:TipC b st 2 98 (p.fields.map fldA) c4
 ne:∀ t xs ys,c1 = .sl 1 xs (some t)→c3 = .sl 1 ys (some t)→False
structure Keep (b o:Nat) (st st':List AObj):Prop where
 len:st.length≤st'.length
 same:∀ k,k≠o→k<st.length→(k<b∨qh3 st[k]?)→st'[k]? = st[k]?
theorem Keep.trans {b o:Nat} {st st' st'':List AObj} (h:Keep b o st st') (k:Keep b o st' st''):Keep b o st st'':=⟨Nat.le_trans h.len k.len,fun i b8 hi hc=>by
 have e:=h.same i b8 hi hc;refine (k.same i b8 (Nat.lt_of_lt_of_le hi h.len) ?_).trans e;rw [e]
 exact hc⟩
def qf2 (a n:Int):AV:=.ifc 73 (.pp [Iv a,.ifc 50 (Iv n)])
def errP:Option (Int×Int)→AV
 |none=>.v .nilIface
 |some (a,n)=>qf2 a n
theorem qjm (a n:Int):Pure (qf2 a n):=qdw (qtj fun x hx=>by
 simp only [List.mem_cons,List.not_mem_nil,or_false] at hx;rcases hx with rfl|rfl
 ·exact q8 _
 ·exact qdw (q8 _))
theorem qlb (a n:Int) (st:List AObj):qn E 123 [Iv a,.ifc 50 (Iv n)] st fun r st'=>r=qf2 a n∧st'=st:=by
 refine zb (qjm a n) (qr Tryz.func123 rfl (Nat.le_of_ble_eq_true rfl) ?_);repeat' (first|(apply ql8;(iterate 3 exact rfl))|apply qm|apply qg|apply qh|apply ql|apply qj|(apply vw;exact rfl;exact rfl)|(apply xh;(iterate 3 exact rfl))|apply q6)
 exact qo rfl (zf rfl) ⟨rfl,_,rfl⟩
theorem q54 (ls:List qc) (t:Option Nat) (st:List AObj) (hB:LsB ls) (h:(jt ls).2=0):qn E 167 [.sl 1 (ls.map fun x=>Sv x) t] st fun r st'=>r = .tu [fldA (jt ls).1,.v .nilIface]∧st'=st:=by
 have:=qlz ls st hB;unfold qfi at this;rw [h] at this;exact qn7 (qls _ _ _) this
theorem q55 (ls:List qc) (t:Option Nat) (st:List AObj) (hB:LsB ls) (h:(jt ls).2≠0):qn E 167 [.sl 1 (ls.map fun x=>Sv x) t] st fun r st'=>r = .tu [fldA (jt ls).1,.ifc 50 (Iv (jt ls).2)]∧st'=st:=by
 have:=qlz ls st hB;unfold qfi at this;rw [qka h] at this;exact qn7 (qls _ _ _) this
structure PB (n:Nat) (p:PSt):Prop where
 small:n<900000
 lines:p.lines.length≤n
 linesV:∀ s∈p.lines,s.length<1000000
 items:p.items.length≤n
 block:p.block.length≤n
 blockV:∀ s∈p.block,s.length<1000000
 fields:p.fields.length≤n
 rec0:0≤p.records
 rec1:p.records≤n
theorem PB.ls {n:Nat} {p:PSt} (h:PB n p):LsB p.lines:=⟨by have:=h.lines;have:=h.small;omega,h.linesV⟩
theorem ParS.pre {b o:Nat} {p:PSt} {st l:List AObj} {c1 c2 c3 c4:AV} (P:ParS b o p st c1 c2 c3 c4):ParS b o p (st++l) c1 c2 c3 c4:=
 ⟨P.lt,by have:=P.le;simp;omega,qbc P.ob,qib P.h1,qib P.h2,qib P.h3,qib P.h4,P.ne⟩
end Go.Proofs.YtapblfabkbdgcaaGreatDoor
namespace Go.Pl
open Go Go.Proofs
def xm (p:PSt):PSt:=
 if p.block=[] then { p with block:=[],fields:=[] }
 else { p with items:=p.items++[⟨if p.fields=[] then 2 else 3,ze p.block,p.fields⟩],records:=if p.fields=[] then p.records else p.records+1,block:=[],fields:=[] }
def endP (p:PSt):Option (Int×Int)×PSt:=match (jn p).1 with
 |some e=>(some e,p)
 |none=>(none,xm (jn p).2)
theorem qmu:∀ (x:qc) (r:List qc),Lib.join (x::r) [10]++[10]=ze (x::r)
 |x,[]=>by rw [Lib.join_one];simp [ze]
 |x,y::r=>by
  have ih:=qmu y r;rw [Lib.join_cons] at ih ⊢;unfold Lib.joinTail at ih ⊢;simp only [List.map_cons,List.flatten_cons,ze,List.flatMap_cons] at ih ⊢;rw [← ih];simp
theorem qlq:∀ (r:List qc),(∀ s∈r,s.length<1000000)→(ze r).length≤1000001 * r.length
 | [],_=>by simp [ze]
 |a::r,h=>by
  have ih:=qlq r fun s hs=>h s (by simp [hs]);have ha:=h a (by simp);simp only [ze,List.flatMap_cons,List.length_append,List.length_cons,List.length_nil] at ih ⊢;omega
end Go.Pl
namespace Go.Proofs.YtapblfabkbdgcaaGreatDoor
open Go Go.Av Go.RowKit Go.Proofs Go.Pl
theorem qf4 {n:Nat} {p:PSt} (h:PB n p) (hs:n+1<900000):PB (n+1) (jn p).2:=by
 have h1:=h.lines;have h2:=h.items;have h3:=h.block;have h4:=h.fields;have h5:=h.rec0;have h6:=h.rec1;unfold jn;split
 ·exact⟨hs,by simp only;omega,h.linesV,by simp only;omega,by simp only;omega,h.blockV,by simp only;omega,h5,by simp only;omega⟩
 ·split
  ·exact⟨hs,by simp only;omega,h.linesV,by simp only;omega,by simp only;omega,h.blockV,by simp only;omega,h5,by simp only;omega⟩
  ·split
   ·exact⟨hs,by simp only;omega,h.linesV,by simp only;omega,by simp only;omega,h.blockV,by simp only;omega,h5,by simp only;omega⟩
   ·exact⟨hs,by simp,by simp,by simp only;omega,by simp only;omega,h.blockV,by simp;omega,h5,by simp only;omega⟩
theorem ze3 (xs:List qc) (tip:Option Nat) (st:List AObj) (b8:xs≠[]) (hN:xs.length≤900000) (hv:∀ s∈xs,s.length<1000000):qn E 105 [.sl 1 (xs.map fun x=>Sv x) tip,Sv [10]] st fun r st'=>r=Sv (Lib.join xs [10])∧st'=st:=by
 refine q71 xs tip [10] st (by omega) ?_;have h1:=qlq xs hv
 cases xs with
 |nil=>exact absurd rfl b8
 |cons x r=>
  have h2:=congrArg List.length (qmu x r);rw [List.length_append] at h2;simp only [List.length_cons,List.length_nil] at h2 h1 hN;omega
def parH (a:Nat) (p:PSt):List (Nat×Option SR):=[(0,some (.cells 160 [.tp a,.i p.frm,.b p.full,.tp (a+1),.tp (a+2),.tp (a+3),.i p.records])),(a,some (.tip 1 9 (p.lines.map fun x=>Sv x))),(a+1,some (.tip 3 107 (p.items.map vo))),(a+2,some (.tip 1 9 (p.block.map fun x=>Sv x))),(a+3,some (.tip 2 98 (p.fields.map fldA)))]
theorem qpg (n:Nat) (p:PSt) (hB:PB n p):ki E 125 [.bx 0 0] 5 (hpF (parH 1 p)) ⟨.a (errP (jn p).1),j5 (parH 1 p),parH 5 (jn p).2++vd (parH 1 p),9⟩:=by
 refine wl [.bx 0 0] (parH 1 p) 5 (.a (errP (jn p).1)) (parH 5 (jn p).2) 9 Tryz.func125 rfl rfl rfl rfl fun S F ρ=>?_;have hls:=hB.ls;have t7:=hB.small;have g8:=hB.fields;by_cases h0:p.lines=[]
 ·have e:jn p=(none,p):=by unfold jn;rw [if_pos h0]
  rw [e];have hl0:(p.lines.map fun x=>Sv x).length=0:=by simp [h0]
  apply qf [];repeat' (first|apply And.intro|(intro h;try exact cDd)|exact cSd|apply qd []|refine exr ?_|refine qk ?_)
 ·have hl0:(p.lines.map fun x=>Sv x).length≠0:=by simp [h0]
  by_cases hu:(jt p.lines).2=0
  ·have pm:=fun st=>q54 p.lines none st hls hu
   cases hf:p.full with
   |true=>
    have e:jn p=(some (p.frm,11),p):=by unfold jn;rw [if_neg h0,if_neg (by simp [hu]),if_pos hf]
    rw [e];have pb:=fun st=>qlb p.frm 11 st;apply qf []
    repeat' (first|apply And.intro|(intro h;try exact cDd)|exact⟨Tryz.call167⟩|refine cpe pm ?_|exact⟨Tryz.call123⟩|refine cpe pb ?_|(exact absurd (by assumption:p.full=false) (by rw [hf];decide))|exact cSd|apply qd []|refine exr ?_|refine qk ?_)
   |false=>
    have e:jn p=(none,{ p with lines:=[],fields:=p.fields++[(jt p.lines).1] }):=by unfold jn;rw [if_neg h0,if_neg (by simp [hu]),if_neg (by simp [hf])]
    rw [e];apply qf [51];repeat' (first|apply And.intro|(intro h;try exact cDd)|exact⟨Tryz.call167⟩|refine cpe pm ?_|(exact absurd (by assumption:p.full=true) (by rw [hf];decide))|exact cSd|apply qd [51]|refine exr ?_|refine qk ?_)
    all_goals first|(simp [SV.evs,SV.ev];done)|(simp [SV.evs];omega)
  ·have pm:=fun st=>q55 p.lines none st hls hu
   have e:jn p=(some (p.frm,(jt p.lines).2),p):=by unfold jn;rw [if_neg h0,if_pos hu]
   rw [e];have pb:=fun st=>qlb p.frm (jt p.lines).2 st;apply qf [];repeat' (first|apply And.intro|(intro h;try exact cDd)|exact⟨Tryz.call167⟩|refine cpe pm ?_|exact⟨Tryz.call123⟩|refine cpe pb ?_|exact cSd|apply qd []|refine exr ?_|refine qk ?_)
theorem q25 (n:Nat) (p:PSt) (hB:PB n p) (hs:n+1<900000):ki E 84 [.bx 0 0] 5 (hpF (parH 1 p)) ⟨.a (errP (endP p).1),j5 (parH 1 p),parH 5 (endP p).2++vd (parH 1 p),9⟩:=by
 refine wl [.bx 0 0] (parH 1 p) 5 (.a (errP (endP p).1)) (parH 5 (endP p).2) 9 Tryz.func84 rfl rfl rfl rfl fun S F ρ=>?_;have p4:=qpg n p hB;have cj:=qf4 hB hs
 have s4:∀ e,(jn p).1=some e→(jn p).2=p:=fun e=>by
  unfold jn;split
  ·simp
  ·split
   ·simp
   ·split
    ·simp
    ·simp
 unfold endP;generalize jn p=fq at p4 cj s4;obtain⟨fe,q⟩:=fq
 cases fe with
 |some e=>
  obtain rfl:=s4 e rfl;obtain⟨a,k⟩:=e;apply qf []
  repeat' (first|apply And.intro|(intro h;try exact cDd)|exact⟨Tryz.call125⟩|(refine jk p4 ?_)|exact cSd|apply qd []|refine exr ?_|refine qk ?_)
 |none=>
  dsimp only at cj p4;have h3:=cj.fields;have h4:=cj.rec0;have h5:=cj.rec1;have h1:=cj.block;have h2:=cj.items;by_cases hb:q.block=[]
  ·have e:xm q={ q with block:=[],fields:=[] }:=by unfold xm;rw [if_pos hb]
   simp only [e];have hl0:(q.block.map fun x=>Sv x).length=0:=by simp [hb]
   apply qf [];repeat' (first|apply And.intro|(intro h;try exact cDd)|exact⟨Tryz.call125⟩|(refine jk p4 ?_)|exact cSd|apply qd []|refine exr ?_|refine qk ?_)
  ·have hl0:(q.block.map fun x=>Sv x).length≠0:=by simp [hb]
   have fb:=qlq q.block cj.blockV
   obtain⟨b,r,hbr⟩:∃ b r,q.block=b::r:=by
    cases hq:q.block with
    |nil=>exact absurd hq hb
    |cons b r=>exact⟨b,r,rfl⟩
   have hjt:=qmu b r;rw [← hbr] at hjt;have hjl:=congrArg List.length hjt;simp only [List.length_append,List.length_cons,List.length_nil] at hjl;have hjo:=fun st=>ze3 q.block none st hb (by omega) cj.blockV;by_cases hf:q.fields=[]
   ·have e:xm q={ q with items:=q.items++[⟨2,ze q.block,q.fields⟩],records:=q.records,block:=[],fields:=[] }:=by unfold xm;rw [if_neg hb,if_pos hf,if_pos hf]
    simp only [e];have o0:(q.fields.map fldA).length=0:=by simp [hf]
    apply qf [];repeat' (first|apply And.intro|(intro h;try exact cDd)|exact⟨Tryz.call125⟩|(refine jk p4 ?_)|exact⟨Tryz.call105⟩|refine cpe hjo ?_|exact cSd|apply qd []|refine exr ?_|refine qk ?_)
    all_goals first|(simp [SV.evs,SV.ev,hjt];done)|(simp [SV.evs];omega)
   ·have e:xm q={ q with items:=q.items++[⟨3,ze q.block,q.fields⟩],records:=q.records+1,block:=[],fields:=[] }:=by unfold xm;rw [if_neg hb,if_neg hf,if_neg hf]
    simp only [e];have o0:(q.fields.map fldA).length≠0:=by simp [hf]
    apply qf [];repeat' (first|apply And.intro|(intro h;try exact cDd)|exact⟨Tryz.call125⟩|(refine jk p4 ?_)|exact⟨Tryz.call105⟩|refine cpe hjo ?_|exact cSd|apply qd []|refine exr ?_|refine qk ?_)
    all_goals first|(simp [SV.evs,SV.ev,hjt];done)|(simp [SV.evs];omega)
end Go.Proofs.YtapblfabkbdgcaaGreatDoor
namespace Go.Pl
open Go Go.Proofs
def kf (p:PSt) (no:Int) (text:qc):PSt:={ p with lines:=[text],frm:=no,full:=decide (p.fields.length=40∨(p.fields.length=0∧p.records=400)) }
def jd (p:PSt) (no:Int) (text:qc) (ended:Bool) (kind:Int):Option (Int×Int)×PSt:=
 if kind=3 then
  if p.lines=[] then (some (no,2),p)
  else if ended=true then (none,{ p with lines:=p.lines++[text] })
  else jn { p with lines:=p.lines++[text] }
 else if kind=1 then endP p
 else jn p
def v6 (p:PSt) (no:Int) (text:qc) (ended:Bool):Option (Int×Int)×PSt:=
 match (jd p no text ended (qs text)).1 with
 |some e=>(some e,p)
 |none=>
  if qs text=5∨ended=false then (some (no,2),p)
  else if qs text=1 then (none,{ (jd p no text ended (qs text)).2 with items:=(jd p no text ended (qs text)).2.items++[⟨1,text++[10],[]⟩] })
  else if qs text=4 then (none,{ kf (jd p no text ended (qs text)).2 no text with block:=(jd p no text ended (qs text)).2.block++[text] })
  else (none,{ (jd p no text ended (qs text)).2 with block:=(jd p no text ended (qs text)).2.block++[text] })
end Go.Pl
namespace Go.Proofs.YtapblfabkbdgcaaGreatDoor
open Go Go.Av Go.RowKit Go.Proofs Go.Pl
theorem PB.more {n m:Nat} {p:PSt} (h:PB n p) (hm:n≤m) (hs:m<900000):PB m p:=by
 have h1:=h.lines;have h2:=h.items;have h3:=h.block;have h4:=h.fields;have h5:=h.rec0;have h6:=h.rec1;exact⟨hs,by omega,h.linesV,by omega,by omega,h.blockV,by omega,h5,by omega⟩
theorem q64 {n:Nat} {p:PSt} (h:PB n p) (hs:n+1<900000):PB (n+1) (xm p):=by
 have h1:=h.lines;have h2:=h.items;have h3:=h.block;have h4:=h.fields;have h5:=h.rec0;have h6:=h.rec1;unfold xm;split
 ·exact⟨hs,by simp only;omega,h.linesV,by simp only;omega,by simp,by simp,by simp,h5,by simp only;omega⟩
 ·refine⟨hs,by simp only;omega,h.linesV,by simp;omega,by simp,by simp,by simp,?_,?_⟩
  ·simp only;split <;> omega
  ·simp only;split <;> omega
theorem qpv {n:Nat} {p:PSt} {text:qc} (h:PB n p) (hs:n+1<900000) (ht:text.length<1000000):PB (n+1) { p with lines:=p.lines++[text] }:=by
 have h1:=h.lines;have h2:=h.items;have h3:=h.block;have h4:=h.fields;have h5:=h.rec0;have h6:=h.rec1;exact⟨hs,by simp;omega,qpr h.linesV ht,by simp only;omega,by simp only;omega,h.blockV,by simp only;omega,h5,by simp only;omega⟩
theorem qzg {n:Nat} {p:PSt} {text:qc} (h:PB n p) (hs:n+1<900000) (ht:text.length<1000000):PB (n+1) { p with block:=p.block++[text] }:=by
 have h1:=h.lines;have h2:=h.items;have h3:=h.block;have h4:=h.fields;have h5:=h.rec0;have h6:=h.rec1;exact⟨hs,by simp only;omega,h.linesV,by simp only;omega,by simp;omega,qpr h.blockV ht,by simp only;omega,h5,by simp only;omega⟩
theorem zb1 {n:Nat} {p:PSt} {x:za} (h:PB n p) (hs:n+1<900000):PB (n+1) { p with items:=p.items++[x] }:=by
 have h1:=h.lines;have h2:=h.items;have h3:=h.block;have h4:=h.fields;have h5:=h.rec0;have h6:=h.rec1;exact⟨hs,by simp only;omega,h.linesV,by simp;omega,by simp only;omega,h.blockV,by simp only;omega,h5,by simp only;omega⟩
theorem zb0 {n:Nat} {p:PSt} {no:Int} {text:qc} (h:PB n p) (hs:n+1<900000) (ht:text.length<1000000):PB (n+1) (kf p no text):=by
 have h1:=h.lines;have h2:=h.items;have h3:=h.block;have h4:=h.fields;have h5:=h.rec0;have h6:=h.rec1;exact⟨hs,by simp [kf],by simp [kf,ht],by simp only [kf];omega,by simp only [kf];omega,h.blockV,by simp only [kf];omega,h5,by simp only [kf];omega⟩
theorem qie {n:Nat} {p:PSt} {no:Int} {text:qc} {ended:Bool} {kind:Int} (h:PB n p) (hs:n+2<900000) (ht:text.length<1000000):PB (n+2) (jd p no text ended kind).2:=by
 unfold jd;split
 ·split
  ·exact h.more (by omega) hs
  ·split
   ·exact (qpv h (by omega) ht).more (by omega) hs
   ·exact qf4 (qpv h (by omega) ht) hs
 ·split
  ·unfold endP
   split
   ·exact h.more (by omega) hs
   ·exact q64 (qf4 h (by omega)) hs
  ·exact (qf4 h (by omega)).more (by omega) hs
theorem qrm (l:qc):1≤qs l∧qs l≤5:=by
 unfold qs;repeat' split
 all_goals decide
theorem qp4 {n:Nat} {p:PSt} {no:Int} {text:qc} {ended:Bool} (h:PB n p) (hs:n+4<900000) (ht:text.length<1000000):PB (n+4) (v6 p no text ended).2:=by
 have h2:PB (n+2) (jd p no text ended (qs text)).2:=qie h (by omega) ht;unfold v6;split
 ·exact h.more (by omega) hs
 ·split
  ·exact h.more (by omega) hs
  ·split
   ·exact (zb1 h2 (by omega)).more (by omega) hs
   ·split
    ·exact qzg (zb0 h2 (by omega) ht) hs ht
    ·exact (qzg h2 (by omega) ht).more (by omega) hs
theorem q8y (n:Nat) (p:PSt) (no at':Int) (text:qc) (ended:Bool) (hB:PB n p):ki E 124 [.bx 0 0,.ag [.i no,.i at',.s text,.b ended]] 5 (hpF (parH 1 p)) ⟨.tu [],j5 (parH 1 p),parH 5 (kf p no text)++vd (parH 1 p),9⟩:=by
 refine wl [.bx 0 0,.ag [.i no,.i at',.s text,.b ended]] (parH 1 p) 5 (.tu []) (parH 5 (kf p no text)) 9 Tryz.func124 rfl rfl rfl rfl fun S F ρ=>?_;obtain⟨ls,fr,fu,its,bk,fs,rc⟩:=p;have g9:(fs.map fldA).length=fs.length:=by simp
 by_cases ha:fs.length=40∨(fs.length=0∧rc=400)
 ·have e:kf ⟨ls,fr,fu,its,bk,fs,rc⟩ no text=⟨[text],no,true,its,bk,fs,rc⟩:=by
   unfold kf;simp only [decide_eq_true ha]
  rw [e];apply qf [29];repeat' (first|apply And.intro|(intro h;try exact cDd)|exact cSd|apply qd [29]|refine exr ?_|refine qk ?_)
  all_goals (intros;simp only [g9] at *;first|(exfalso;omega)|(have hrc:rc=400:=(by omega);subst hrc;rfl))
 ·have e:kf ⟨ls,fr,fu,its,bk,fs,rc⟩ no text=⟨[text],no,false,its,bk,fs,rc⟩:=by
   unfold kf;simp only [decide_eq_false ha]
  rw [e];apply qf [29];repeat' (first|apply And.intro|(intro h;try exact cDd)|exact cSd|apply qd [29]|refine exr ?_|refine qk ?_)
  all_goals (intros;simp only [g9] at *;first|(exfalso;omega)|(have hrc:¬ rc=400:=(by omega);simp [SV.evs,SV.ev,SV.rens,SV.ren,lkS,vq,hrc];exact⟨rfl,rfl,rfl⟩))
theorem qvc (n:Nat) (p:PSt) (no at':Int) (text:qc) (ended:Bool) (kind:Int) (hB:PB n p) (hs:n+2<900000) (ht:text.length<1000000):ki E 122 [.bx 0 0,.ag [.i no,.i at',.s text,.b ended],.i kind] 5 (hpF (parH 1 p)) ⟨.a (errP (jd p no text ended kind).1),j5 (parH 1 p),parH 5 (jd p no text ended kind).2++vd (parH 1 p),9⟩:=by
 refine wl [.bx 0 0,.ag [.i no,.i at',.s text,.b ended],.i kind] (parH 1 p) 5 (.a (errP (jd p no text ended kind).1)) (parH 5 (jd p no text ended kind).2) 9 Tryz.func122 rfl rfl rfl rfl fun S F ρ=>?_;unfold jd;by_cases lg:kind=3
 ·rw [if_pos lg]
  by_cases h0:p.lines=[]
  ·rw [if_pos h0]
   have hl0:(p.lines.map fun x=>Sv x).length=0:=by simp [h0]
   have pb:=fun st=>qlb no 2 st;apply qf [];repeat' (first|apply And.intro|(intro h;try exact cDd)|exact⟨Tryz.call123⟩|refine cpe pb ?_|exact cSd|apply qd []|refine exr ?_|refine qk ?_)
  ·rw [if_neg h0]
   have hl0:(p.lines.map fun x=>Sv x).length≠0:=by simp [h0]
   have nj:=hB.lines;have t7:=hB.small;have g9:(p.lines.map fun x=>Sv x).length=p.lines.length:=by simp
   have p4:=qpg (n+1) { p with lines:=p.lines++[text] } (qpv hB (by omega) ht)
   cases ended with
   |true=>
    rw [if_pos rfl];apply qf [];repeat' (first|apply And.intro|(intro h;try exact cDd)|(exact absurd (by assumption:true=false) (by decide))|exact cSd|apply qd []|refine exr ?_|refine qk ?_)
    all_goals first|(simp [SV.evs,SV.ev];done)|(simp [SV.evs];omega)
   |false=>
    rw [if_neg (by decide)];apply qf [];repeat' (first|apply And.intro|(intro h;try exact cDd)|(exact absurd (by assumption:false=true) (by decide))|exact⟨Tryz.call125⟩|(refine jk p4 ?_)|exact cSd|apply qd []|refine exr ?_|refine qk ?_)
    all_goals first|(simp [SV.evs,SV.ev];done)|(simp [SV.evs];omega)
 ·rw [if_neg lg]
  by_cases bw:kind=1
  ·rw [if_pos bw]
   have p4:=q25 n p hB (by omega);apply qf [];repeat' (first|apply And.intro|(intro h;try exact cDd)|exact⟨Tryz.call84⟩|(refine jk p4 ?_)|exact cSd|apply qd []|refine exr ?_|refine qk ?_)
  ·rw [if_neg bw]
   have p4:=qpg n p hB;apply qf [];repeat' (first|apply And.intro|(intro h;try exact cDd)|exact⟨Tryz.call125⟩|(refine jk p4 ?_)|exact cSd|apply qd []|refine exr ?_|refine qk ?_)
theorem zb6 (n:Nat) (p:PSt) (no at':Int) (text:qc) (ended:Bool) (hB:PB n p) (hs:n+4<900000) (ht:text.length<1000000) (hok:(v6 p no text ended).1=none):ki E 83 [.bx 0 0,.ag [.i no,.i at',.s text,.b ended]] 5 (hpF (parH 1 p)) ⟨.a (.v .nilIface),j5 (parH 1 p),parH 5 (v6 p no text ended).2++vd (parH 1 p),9⟩:=by
 refine wl [.bx 0 0,.ag [.i no,.i at',.s text,.b ended]] (parH 1 p) 5 (.a (.v .nilIface)) (parH 5 (v6 p no text ended).2) 9 Tryz.func83 rfl rfl rfl rfl fun S F ρ=>?_;have p4:=qvc n p no at' text ended (qs text) hB (by omega) ht;have lv:=qie (no:=no) (text:=text) (ended:=ended) (kind:=qs text) hB (by omega) ht;have hkr:=qrm text;have pd:=fun st=>qmv text st (by omega);unfold v6 at hok ⊢;generalize jd p no text ended (qs text)=fq at p4 lv hok ⊢;obtain⟨fe,q⟩:=fq
 cases fe with
 |some e=>exact absurd hok (by simp)
 |none=>
  dsimp only at lv p4 hok ⊢;have h1:=lv.block;have h2:=lv.items;have hmb:(q.block.map fun x=>Sv x).length=q.block.length:=by simp
  have hmi:(q.items.map vo).length=q.items.length:=by simp
  by_cases hk:qs text=5∨ended=false
  ·rw [if_pos hk] at hok
   exact absurd hok (by simp)
  ·rw [if_neg hk] at hok ⊢
   have hk5:qs text≠5:=fun h=>hk (.inl h);obtain rfl:ended=true:=by cases ended <;> simp_all
   by_cases bw:qs text=1
   ·rw [if_pos bw]
    apply qf [];repeat' (first|apply And.intro|(intro h;try exact cDd)|exact⟨Tryz.call121⟩|refine cpe pd ?_|exact⟨Tryz.call122⟩|(refine jk p4 ?_)|(exact absurd (by assumption:true=false) (by decide))|exact cSd|apply qd []|refine exr ?_|refine qk ?_)
    all_goals first|(simp [SV.evs,SV.ev];done)|(simp [SV.evs];omega)
   ·rw [if_neg bw]
    by_cases hk4:qs text=4
    ·rw [if_pos hk4]
     have rf:=q8y (n+2) q no at' text true lv;apply qf [];repeat' (first|apply And.intro|(intro h;try exact cDd)|exact⟨Tryz.call121⟩|refine cpe pd ?_|exact⟨Tryz.call122⟩|(refine jk p4 ?_)|exact⟨Tryz.call124⟩|(refine jk rf ?_)|(exact absurd (by assumption:true=false) (by decide))|exact cSd|apply qd []|refine exr ?_|refine qk ?_)
     all_goals first|(simp [SV.evs,SV.ev,kf];done)|(simp [SV.evs,kf];omega)
    ·rw [if_neg hk4]
     apply qf [];repeat' (first|apply And.intro|(intro h;try exact cDd)|exact⟨Tryz.call121⟩|refine cpe pd ?_|exact⟨Tryz.call122⟩|(refine jk p4 ?_)|(exact absurd (by assumption:true=false) (by decide))|exact cSd|apply qd []|refine exr ?_|refine qk ?_)
     all_goals first|(simp [SV.evs,SV.ev];done)|(simp [SV.evs];omega)
theorem zb7 (n:Nat) (p:PSt) (no at':Int) (text:qc) (ended:Bool) (hB:PB n p) (hs:n+4<900000) (ht:text.length<1000000) (a m:Int) (hok:(v6 p no text ended).1=some (a,m)):ki E 83 [.bx 0 0,.ag [.i no,.i at',.s text,.b ended]] 5 (hpF (parH 1 p)) ⟨.a (qf2 a m),j5 (parH 1 p),parH 5 (jd p no text ended (qs text)).2++vd (parH 1 p),9⟩:=by
 refine wl [.bx 0 0,.ag [.i no,.i at',.s text,.b ended]] (parH 1 p) 5 (.a (qf2 a m)) (parH 5 (jd p no text ended (qs text)).2) 9 Tryz.func83 rfl rfl rfl rfl fun S F ρ=>?_;have p4:=qvc n p no at' text ended (qs text) hB (by omega) ht;have lv:=qie (no:=no) (text:=text) (ended:=ended) (kind:=qs text) hB (by omega) ht;have hkr:=qrm text;have pd:=fun st=>qmv text st (by omega);unfold v6 at hok;generalize jd p no text ended (qs text)=fq at p4 lv hok ⊢;obtain⟨fe,q⟩:=fq
 cases fe with
 |some e=>
  dsimp only at lv p4 hok ⊢;obtain rfl:e=(a,m):=by simpa using hok
  apply qf []
  repeat' (first|apply And.intro|(intro h;try exact cDd)|exact⟨Tryz.call121⟩|refine cpe pd ?_|exact⟨Tryz.call122⟩|(refine jk p4 ?_)|exact cSd|apply qd []|refine exr ?_|refine qk ?_)
 |none=>
  dsimp only at lv p4 hok ⊢;by_cases hk:qs text=5∨ended=false
  ·rw [if_pos hk] at hok
   obtain⟨rfl,rfl⟩:no=a∧2=m:=by simpa using hok
   have pb:=fun st=>qlb no 2 st
   cases ended with
   |true=>
    have hk5:qs text=5:=by simpa using hk
    apply qf []
    repeat' (first|apply And.intro|(intro h;try exact cDd)|exact⟨Tryz.call121⟩|refine cpe pd ?_|exact⟨Tryz.call123⟩|refine cpe pb ?_|exact⟨Tryz.call122⟩|(refine jk p4 ?_)|(exact absurd (by assumption:true=false) (by decide))|exact cSd|apply qd []|refine exr ?_|refine qk ?_)
   |false=>
    apply qf [];repeat' (first|apply And.intro|(intro h;try exact cDd)|exact⟨Tryz.call121⟩|refine cpe pd ?_|exact⟨Tryz.call123⟩|refine cpe pb ?_|exact⟨Tryz.call122⟩|(refine jk p4 ?_)|(exact absurd (by assumption:false=true) (by decide))|exact cSd|apply qd []|refine exr ?_|refine qk ?_)
  ·rw [if_neg hk] at hok
   split at hok
   ·simp at hok
   ·split at hok
    ·simp at hok
    ·simp at hok
end Go.Proofs.YtapblfabkbdgcaaGreatDoor
namespace Go.Pl
open Go Go.Proofs
def p0:PSt:=⟨[],0,false,[],[],[],0⟩
def runL:Nat→List (qc×Bool)→PSt→Option (Int×Int)×PSt
 | _,[],p=>endP p
 |k,(t,e)::r,p=>match (v6 p k t e).1 with
  |some x=>(some x,p)
  |none=>runL (k+1) r (v6 p k t e).2
def jj (text:qc):Option (Int×Int)×List za:=match (runL 0 (zj text) p0).1 with
 |some e=>(some e,[])
 |none=>(none,(runL 0 (zj text) p0).2.items)
end Go.Pl
namespace Go.Proofs.YtapblfabkbdgcaaGreatDoor
open Go Go.Av Go.RowKit Go.Proofs Go.Pl
theorem q7p (x:Option (Int×Int)):Pure (errP x):=by
 rcases x with _ | ⟨a,n⟩
 ·exact q8 _
 ·exact qjm a n
theorem q4x (f:Fld):qnk (fldA f):=fun x hx=>by
 simp only [AV.cells,List.mem_cons,List.not_mem_nil,or_false] at hx;rcases hx with rfl|rfl <;> exact q8 _
theorem y4 (fs:List Fld):Pure (zl fs):=qb7 fun x hx=>by
 obtain⟨f,_,rfl⟩:=List.mem_map.1 hx;exact q4x f
theorem qjp (x:za):qnk (vo x):=fun y hy=>by
 simp only [AV.cells,List.mem_cons,List.not_mem_nil,or_false] at hy;rcases hy with rfl|rfl|rfl
 ·exact q8 _
 ·exact q8 _
 ·exact y4 _
theorem qfr (xs:List za):Pure (wy xs):=qb7 fun x hx=>by
 obtain⟨f,_,rfl⟩:=List.mem_map.1 hx;exact qjp f
theorem kw {x y:AV} (hx:Pure x) (hy:Pure y):Pure (.tu [x,y]):=qfd fun z hz=>by
 simp only [List.mem_cons,List.not_mem_nil,or_false] at hz;rcases hz with rfl|rfl
 ·exact hx
 ·exact hy
def qcu (text:qc):AV:=.tu [wy (jj text).2,errP (jj text).1]
theorem q1k (text:qc):Pure (qcu text):=kw (qfr _) (q7p _)
theorem qop {S:List AObj} {o k:Nat} {x:AObj} (h:k≠o):(S.set o x)[k]? = S[k]?:=List.getElem?_set_ne (Ne.symm h)
theorem qwq:PB 0 p0:=⟨by omega,by simp [p0],by simp [p0],by simp [p0],by simp [p0],by simp [p0],by simp [p0],by simp [p0],by simp [p0]⟩
theorem qp2 (text:qc) (st:List AObj) (hl:text.length≤60000):qn E 49 [Sv text] st fun r st'=>r=qcu text∧st'=st:=by
 refine zt [.s text] (q1k text) Tryz.func49 rfl rfl (fun _=>rfl) rfl fun S0=>?_;apply qf [13];repeat' (first|apply And.intro|(intro h;try exact cDd)|exact⟨Tryz.call82⟩|(refine Exists.intro _ ⟨qsh _,?_⟩)|exact cSd|apply qd [13]|refine exr ?_|refine qk ?_)
 refine qkg (X:=PSt×Option (Int×Int)) text 4 5 [0,1,2,3,4] (fun (p,e)=>⟨[(2,.bx 0 0),(3,.bx 1 0),(4,.bx 2 0),(15,.fn (.func 120) [] [.bx 4 0])],
   [(0,some (.cells 100 [.a zx])),(1,some (.cells 31 [.a (errP e)])),(2,some (.cells 156 [.bx 3 0])),(3,some (.cells 160 [.tp 5,.i p.frm,.b p.full,.tp 6,.tp 7,.tp 8,.i p.records])),(4,some (.cells 9 [.s text])),
    (5,some (.tip 1 9 (p.lines.map fun x=>Sv x))),(6,some (.tip 3 107 (p.items.map vo))),(7,some (.tip 1 9 (p.block.map fun x=>Sv x))),(8,some (.tip 2 98 (p.fields.map fldA)))],9⟩) _
  (fun k rest (p,e)=>e=none∧PB (4 * k) p∧k+rest.length≤text.length∧runL 0 (zj text) p0=runL k (zj rest) p)
  (fun c (p,e)=>∃ a m,c = .ret∧e=some (a,m)∧(runL 0 (zj text) p0).1=some (a,m)) (p0,none) ⟨rfl,qwq,by omega,rfl⟩ ?_ id (by omega) (fun _=>rfl) rfl (fun _=>rfl) (fun _=>rfl) rfl ?_ ?_ ?_
 ·skip
  repeat' (first|apply And.intro|(intro h;try exact cDd)|exact cSd|apply qd []|refine exr ?_|refine qk ?_)
 ·rintro k rest ⟨p,e⟩ ⟨rfl,hB,hkl,a8⟩ b8 c9
  have cr:=vr b8;have hu:=vt 10 rest;have s0:=vj 10 rest;have cm:0<rest.length:=List.length_pos_iff.2 b8;rw [cr] at a8;simp only [runL] at a8;unfold qnr;generalize gq:decide (10∈rest)=en at a8;generalize upto 10 rest=up at hu a8 ⊢;have cj:=qp4 (no:=k) (text:=up) (ended:=en) hB (by omega) (by omega)
  cases hah:(v6 p k up en).1 with
  |some e=>
   obtain⟨a,m⟩:=e;rw [hah] at a8;simp only at a8;have cd:=zb7 (4 * k) p k ((text.length:Int) - rest.length) up en hB (by omega) (by omega) a m hah;refine RA.mk fun S F ρ rd=>?_;apply qf [];repeat' (first|apply And.intro|(intro h;try exact cDd)|(refine RB.mk fun S rd=>?_;apply qf [])|exact⟨Tryz.call83⟩|(refine jk cd ?_)|(refine Exists.intro ((jd p k up en (qs up)).2,some (a,m)) ⟨⟨a,m,rfl,rfl,by rw [a8]⟩,?_⟩)|exact cSd|apply qd []|refine exr ?_|refine qk ?_)
   all_goals (rw [← gq];rfl)
  |none=>
   rw [hah] at a8;simp only at a8;have cd:=zb6 (4 * k) p k ((text.length:Int) - rest.length) up en hB (by omega) (by omega) hah;refine RA.mk fun S F ρ rd=>?_;apply qf [];repeat' (first|apply And.intro|(intro h;try exact cDd)|(refine RB.mk fun S rd=>?_;apply qf [])|exact⟨Tryz.call83⟩|(refine jk cd ?_)|(refine Exists.intro ((v6 p k up en).2,none) ⟨⟨rfl,cj,by omega,a8⟩,?_⟩)|exact cSd|apply qd []|refine exr ?_|refine qk ?_)
   all_goals (rw [← gq];rfl)
 ·rintro k ⟨p,e⟩ ⟨rfl,hB,hkl,a8⟩
  have sm:runL k (zj []) p=endP p:=by rw [kq];rfl
  rw [sm] at a8;have hpe:=q25 (4 * k) p hB (by omega);generalize endP p=fq at a8 hpe;obtain⟨fe,q⟩:=fq
  cases fe with
  |some e=>
   have hpf:qcu text = .tu [wy [],errP (some e)]:=by unfold qcu jj;rw [a8]
   rw [hpf];obtain⟨a,m⟩:=e
   repeat' (first|apply And.intro|(intro h;try exact cDd)|exact⟨Tryz.call84⟩|(refine jk hpe ?_)|exact cSd|apply qd []|refine exr ?_|refine qk ?_)
  |none=>
   have hpf:qcu text = .tu [wy q.items,errP none]:=by unfold qcu jj;rw [a8]
   rw [hpf];dsimp only at hpe;repeat' (first|apply And.intro|(intro h;try exact cDd)|exact⟨Tryz.call84⟩|(refine jk hpe ?_)|exact cSd|apply qd []|refine exr ?_|refine qk ?_)
 ·rintro c ⟨p,e⟩ ⟨a,m,rfl,rfl,sm⟩
  have hpf:qcu text = .tu [wy [],errP (some (a,m))]:=by unfold qcu jj;rw [sm]
  rw [hpf];repeat' (first|apply And.intro|(intro h;try exact cDd)|exact cSd|apply qd []|refine exr ?_|refine qk ?_)
end Go.Proofs.YtapblfabkbdgcaaGreatDoor
namespace Go.Proofs.YtapblfabkbdgcaaGreatDoor
open Go Go.RowKit Go.Extern.Stop Go.Stop Go.Extern Go.Proofs
theorem asT.valueOf27 (t:Addr) (w:World):(ReflectliteValue.unpack (.iface 247 (.pointer (some t)))).run Tryz.prog w
  = .ok (.agg #[.pointer (some ⟨9,247,none⟩),.pointer (some ⟨w.heap.size,0,none⟩),.int .u64 150]) (w.alloc (.cells #[.pointer (some t)] 247)):=by kernel_rfl
theorem asT.type27 (a : Addr) (w : World) : (ReflectliteValue.methodAny (ReflectliteValue.valueError "reflectlite.Value.Type" 0) (fun t _ _ _ => ReflectliteType.toType t) #[.agg #[.pointer (some ⟨9, 247, none⟩), .pointer (some a), .int .u64 150]]).run Tryz.prog w
  = .ok (.iface 298 (.agg #[.pointer (some ⟨9,247,none⟩)])) w:=by kernel_rfl
theorem asT.methodKind (h : Value) (w : World) : (Go.method 460 298 (.agg #[h]) "Kind").run Tryz.prog w = .ok (259, h) w := by kernel_rfl
theorem asT.kind27 (w:World):((ReflectliteType.abiMethod fun t=>(fun a:Nat=>Value.int IntKind.u8 (a:Int)) <$> Rtype.kind t) #[.pointer (some ⟨9,247,none⟩)]).run Tryz.prog w = .ok (.int .u8 22) w:=by kernel_rfl
theorem asT.kind25 (w:World):((ReflectliteType.abiMethod fun t=>(fun a:Nat=>Value.int IntKind.u8 (a:Int)) <$> Rtype.kind t) #[.pointer (some ⟨9,73,none⟩)]).run Tryz.prog w = .ok (.int .u8 22) w:=by kernel_rfl
theorem rlm (z:Sem Value) (f:TypeId→Addr→Nat→Nat→Sem Value) (v:Value) :
  ReflectliteValue.method z f #[v]=(do match ← ReflectliteValue.parts v with|none=>z|some (t,a,fl)=>f t a fl (fl % 32)):=rfl
theorem asT.parts27 (a:Addr) (w:World):(ReflectliteValue.parts (.agg #[.pointer (some ⟨9,247,none⟩),.pointer (some a),.int .u64 150])).run Tryz.prog w = .ok (some (247,a,150)) w:=by kernel_rfl
theorem asT.isNil27 (a p:Addr) (W:World) (ha:W.cell? a=some (.pointer (some p))) :
  (ReflectliteValue.method (ReflectliteValue.valueError "reflectlite.Value.IsNil" 0) ReflectliteValue.isNil #[.agg #[.pointer (some ⟨9, 247, none⟩), .pointer (some a), .int .u64 150]]).run Tryz.prog W = .ok (.bool false) W := by
 rw [rlm];simp only [Sem.run_bind,asT.parts27,Result.andThen];simp [ReflectliteValue.isNil,loadVar,isAgg,underlying,Tryz.underlying247,ha,Result.andThen]
theorem asT.methodElem (h : Value) (w : World) : (Go.method 460 298 (.agg #[h]) "Elem").run Tryz.prog w = .ok (276, .agg #[h]) w := by kernel_rfl
theorem asT.methodImplements (h : Value) (w : World) : (Go.method 460 298 (.agg #[h]) "Implements").run Tryz.prog w = .ok (277, .agg #[h]) w := by kernel_rfl
theorem asT.methodAssignableTo (h : Value) (w : World) : (Go.method 460 298 (.agg #[h]) "AssignableTo").run Tryz.prog w = .ok (274, .agg #[h]) w := by kernel_rfl
theorem asT.elem27 (w:World):(ReflectliteType.method ReflectliteType.elem #[.agg #[.pointer (some ⟨9,247,none⟩)]]).run Tryz.prog w = .ok (.iface 298 (.agg #[.pointer (some ⟨9,73,none⟩)])) w:=by kernel_rfl
theorem asT.implements25 (w : World) : (ReflectliteType.relation "Implements" ReflectliteType.implements_ #[.agg #[.pointer (some ⟨9, 73, none⟩)], .iface 298 (.agg #[.pointer (some ⟨9, 31, none⟩)])]).run Tryz.prog w = .ok (.bool true) w := by kernel_rfl
theorem asT.typeOf25 (v:Value) (w:World):(ReflectliteType.typeOf #[.iface 73 v]).run Tryz.prog w = .ok (.iface 298 (.agg #[.pointer (some ⟨9,73,none⟩)])) w:=by kernel_rfl
theorem asT.assignable25 (w : World) : (ReflectliteType.relation "AssignableTo" ReflectliteType.assignableTo #[.agg #[.pointer (some ⟨9, 73, none⟩)], .iface 298 (.agg #[.pointer (some ⟨9, 73, none⟩)])]).run Tryz.prog w = .ok (.bool true) w := by kernel_rfl
theorem asT.valueOf25 (e:Addr) (w:World):(ReflectliteValue.unpack (.iface 73 (.pointer (some e)))).run Tryz.prog w
  = .ok (.agg #[.pointer (some ⟨9,73,none⟩),.pointer (some ⟨w.heap.size,0,none⟩),.int .u64 150]) (w.alloc (.cells #[.pointer (some e)] 73)):=by kernel_rfl
theorem asT.elemOf27 (w:World):(Rtype.elem? 247).run Tryz.prog w = .ok (some 73) w:=by kernel_rfl
theorem asT.mk25 (p:Addr) (w:World):(ReflectliteValue.mk 73 p ReflectliteValue.flagAddr).run Tryz.prog w = .ok (.agg #[.pointer (some ⟨9,73,none⟩),.pointer (some p),.int .u64 406]) w:=by kernel_rfl
theorem asT.elemV27 (a p:Addr) (W:World) (ha:W.cell? a=some (.pointer (some p))) :
  (ReflectliteValue.method (ReflectliteValue.valueError "reflectlite.Value.Elem" 0) ReflectliteValue.elem #[.agg #[.pointer (some ⟨9, 247, none⟩), .pointer (some a), .int .u64 150]]).run Tryz.prog W
   = .ok (.agg #[.pointer (some ⟨9,73,none⟩),.pointer (some p),.int .u64 406]) W:=by
 rw [rlm];simp only [Sem.run_bind,asT.parts27,Result.andThen];simp [ReflectliteValue.elem,loadVar,isAgg,underlying,Tryz.underlying247,ha,Result.andThen,asT.elemOf27,asT.mk25]
theorem rls (v x:Value):ReflectliteValue.set #[v,x]=(do
  let (some (dst,a,fl),some (src,b,_)):=(← ReflectliteValue.parts v,← ReflectliteValue.parts x)
   | unsupported (.noEntry "extern/(internal/reflectlite.Value).Set.zeroValue")
  if fl / ReflectliteValue.flagAddr % 2 == 0 then unsupported (.noEntry "extern/(internal/reflectlite.Value).Set.unaddressable")
  let val ← loadVar src b
  if ← Rtype.directlyAssignable dst src then storeVar dst a val
  else if ← Rtype.implements dst src then
   if (← Rtype.kind src) == 20 then
    match val with
    | .nilIface => unsupported (.noEntry "extern/reflectlite: a nil value of one interface type handed on as a value of another")
    | _=>storeVar dst a val
   else storeVar dst a (.iface src val)
  else panicString ("reflectlite.Set: value of type " ++ (← Rtype.spelt src) ++ " is not assignable to type " ++ (← Rtype.spelt dst))
  pure (.tuple #[])):=rfl
theorem asT.parts25a (a:Addr) (w:World):(ReflectliteValue.parts (.agg #[.pointer (some ⟨9,73,none⟩),.pointer (some a),.int .u64 406])).run Tryz.prog w = .ok (some (73,a,406)) w:=by kernel_rfl
theorem asT.parts25 (a:Addr) (w:World):(ReflectliteValue.parts (.agg #[.pointer (some ⟨9,73,none⟩),.pointer (some a),.int .u64 150])).run Tryz.prog w = .ok (some (73,a,150)) w:=by kernel_rfl
theorem asT.direct25 (w:World):(Rtype.directlyAssignable 73 73).run Tryz.prog w = .ok true w:=by kernel_rfl
theorem asT.set25 (ta b e:Addr) (old:Value) (W:World) (hb:W.cell? b=some (.pointer (some e))) (ht:W.cell? ta=some old) (hf:W.frozen? ta=false) :
  (ReflectliteValue.set #[.agg #[.pointer (some ⟨9,73,none⟩),.pointer (some ta),.int .u64 406],.agg #[.pointer (some ⟨9,73,none⟩),.pointer (some b),.int .u64 150]]).run Tryz.prog W
   = .ok (.tuple #[]) (W.setCell ta (.pointer (some e))):=by
 rw [rls];simp only [Sem.run_bind,asT.parts25a,asT.parts25,Result.andThen];simp [ReflectliteValue.flagAddr,loadVar,isAgg,underlying,Tryz.underlying73,hb,Result.andThen,asT.direct25,storeVar,Value.cells,storeCells,Addr.add];rw [run_store Tryz.prog W ta _ _ (by rfl)];simp [ht,hf]
set_option maxHeartbeats 4000000 in
theorem zgw (e t:Addr) (old:Value) (w:World) (hg:w.cell? ⟨1,0,none⟩=some (.iface 298 (.agg #[.pointer (some ⟨9,31,none⟩)]))) (ht0:w.cell? t=some old) (hf0:w.frozen? t=false) :
  Calls Tryz.prog 172 #[.iface 73 (.pointer (some e)),.iface 247 (.pointer (some t))] w fun ev w'=>ev = .returned (.bool true)∧w'=((((w.alloc (.cells #[.pointer (some t)] 247)).alloc (.cells #[.pointer (some ⟨9,247,none⟩),.pointer (some ⟨w.heap.size,0,none⟩),.int .u64 150] 272)).alloc (.cells #[.pointer (some ⟨9,247,none⟩),.pointer (some ⟨w.heap.size,0,none⟩),.int .u64 150] 272)).alloc (.cells #[.pointer (some e)] 73)).setCell t (.pointer (some e)):=by
 have h6:=@run_callFunc_extern Tryz.prog 200 _ (fun args=>ReflectliteValue.unpack (args.getD 0 (.tuple #[]))) Tryz.func200 (by kernel_rfl) (by kernel_rfl) (by kernel_rfl) (by kernel_rfl)
 have h7 := @run_callFunc_extern Tryz.prog 201 _ (ReflectliteValue.methodAny (ReflectliteValue.valueError "reflectlite.Value.Type" 0) (fun t _ _ _ => ReflectliteType.toType t)) Tryz.func201 (by kernel_rfl) (by kernel_rfl) (by kernel_rfl) (by kernel_rfl)
 have h8 := @run_callFunc_extern Tryz.prog 202 _ (ReflectliteValue.method (ReflectliteValue.valueError "reflectlite.Value.IsNil" 0) ReflectliteValue.isNil) Tryz.func202 (by kernel_rfl) (by kernel_rfl) (by kernel_rfl) (by kernel_rfl)
 have h27:=@run_callFunc_extern Tryz.prog 259 _ (ReflectliteType.abiMethod fun t=>do pure (.int .u8 (← Rtype.kind t))) Tryz.func259 (by kernel_rfl) (by kernel_rfl) (by kernel_rfl) (by kernel_rfl);have h37:=@run_callFunc_extern Tryz.prog 276 _ (ReflectliteType.method ReflectliteType.elem) Tryz.func276 (by kernel_rfl) (by kernel_rfl) (by kernel_rfl) (by kernel_rfl)
 have h38 := @run_callFunc_extern Tryz.prog 277 _ (ReflectliteType.relation "Implements" ReflectliteType.implements_) Tryz.func277 (by kernel_rfl) (by kernel_rfl) (by kernel_rfl) (by kernel_rfl)
 have f0:=@run_callFunc_extern Tryz.prog 222 _ ReflectliteType.typeOf Tryz.func222 (by kernel_rfl) (by kernel_rfl) (by kernel_rfl) (by kernel_rfl)
 have h35 := @run_callFunc_extern Tryz.prog 274 _ (ReflectliteType.relation "AssignableTo" ReflectliteType.assignableTo) Tryz.func274 (by kernel_rfl) (by kernel_rfl) (by kernel_rfl) (by kernel_rfl)
 have h11 := @run_callFunc_extern Tryz.prog 223 _ (ReflectliteValue.method (ReflectliteValue.valueError "reflectlite.Value.Elem" 0) ReflectliteValue.elem) Tryz.func223 (by kernel_rfl) (by kernel_rfl) (by kernel_rfl) (by kernel_rfl)
 have h12:=@run_callFunc_extern Tryz.prog 224 _ ReflectliteValue.set Tryz.func224 (by kernel_rfl) (by kernel_rfl) (by kernel_rfl) (by kernel_rfl);have tO:=asT.typeOf25;have mA:=asT.methodAssignableTo;have a25:=asT.assignable25;have v25:=asT.valueOf25;have f6:=asT.valueOf27;have f7:=asT.type27;have mK:=asT.methodKind;have mE:=asT.methodElem;have mI:=asT.methodImplements;have k27:=asT.kind27;have k25:=asT.kind25;have e27:=asT.elem27;have i25:=asT.implements25;have n8:=asT.isNil27 ⟨w.heap.size,0,none⟩ t ((w.alloc (.cells #[.pointer (some t)] 247)).alloc (.cells #[.pointer (some ⟨9,247,none⟩),.pointer (some ⟨w.heap.size,0,none⟩),.int .u64 150] 272)) (by simp)
 have d5:1<w.heap.size:=by
  rcases Nat.lt_or_ge 1 w.heap.size with h|h
  ·exact h
  ·simp [World.cell?,Array.getElem?_eq_none h] at hg
 have hg2:((w.alloc (.cells #[.pointer (some t)] 247)).alloc (.cells #[.pointer (some ⟨9,247,none⟩),.pointer (some ⟨w.heap.size,0,none⟩),.int .u64 150] 272)).cell? ⟨1,0,none⟩=some (.iface 298 (.agg #[.pointer (some ⟨9,31,none⟩)])):=by
  rw [World.cell?_alloc_lt _ _ ⟨1,0,none⟩ (by first|(simp;done)|(simp;omega)),World.cell?_alloc_lt _ _ ⟨1,0,none⟩ d5];exact hg
 have htl:t.block<w.heap.size:=by
  rcases Nat.lt_or_ge t.block w.heap.size with h|h
  ·exact h
  ·simp [World.cell?,Array.getElem?_eq_none h] at ht0
 have el:=asT.elemV27 ⟨w.heap.size,0,none⟩ t (((w.alloc (.cells #[.pointer (some t)] 247)).alloc (.cells #[.pointer (some ⟨9,247,none⟩),.pointer (some ⟨w.heap.size,0,none⟩),.int .u64 150] 272)).alloc (.cells #[.pointer (some ⟨9,247,none⟩),.pointer (some ⟨w.heap.size,0,none⟩),.int .u64 150] 272)) (by rw [World.cell?_alloc_lt _ _ ⟨w.heap.size,0,none⟩ (by first|(simp;done)|(simp;omega))];simp)
 have st:=asT.set25 t ⟨w.heap.size+1+1+1,0,none⟩ e old ((((w.alloc (.cells #[.pointer (some t)] 247)).alloc (.cells #[.pointer (some ⟨9,247,none⟩),.pointer (some ⟨w.heap.size,0,none⟩),.int .u64 150] 272)).alloc (.cells #[.pointer (some ⟨9,247,none⟩),.pointer (some ⟨w.heap.size,0,none⟩),.int .u64 150] 272)).alloc (.cells #[.pointer (some e)] 73))
  (by rw [World.cell?_alloc_at _ _ _ _ (by simp)];rfl)
  (by rw [World.cell?_alloc_lt _ _ t (by first|(simp;done)|(simp;omega)),World.cell?_alloc_lt _ _ t (by first|(simp;done)|(simp;omega)),World.cell?_alloc_lt _ _ t (by first|(simp;done)|(simp;omega)),World.cell?_alloc_lt _ _ t htl];exact ht0)
  (by rw [World.frozen?_alloc_old _ _ t (by first|(simp;done)|(simp;omega)),World.frozen?_alloc_old _ _ t (by first|(simp;done)|(simp;omega)),World.frozen?_alloc_old _ _ t (by first|(simp;done)|(simp;omega)),World.frozen?_alloc_old _ _ t (Nat.ne_of_lt htl)];exact hf0)
 go_enter Tryz.func172,Tryz.ntmps172
 go_wp2
 refine wp_loop_rounds 1 ?_;rw [rounds_succ]
 go_wp2
 go_ret
 exact⟨rfl,rfl⟩
theorem asT.typeOf31 (v:Value) (w:World):(ReflectliteType.typeOf #[.iface 50 v]).run Tryz.prog w = .ok (.iface 298 (.agg #[.pointer (some ⟨9,50,none⟩)])) w:=by kernel_rfl
theorem asT.assignable31 (w : World) : (ReflectliteType.relation "AssignableTo" ReflectliteType.assignableTo #[.agg #[.pointer (some ⟨9, 50, none⟩)], .iface 298 (.agg #[.pointer (some ⟨9, 73, none⟩)])]).run Tryz.prog w = .ok (.bool false) w := by kernel_rfl
theorem asT.no230 (v:Value) (xT:TypeId) (w:World):(Instr.typeAssert (.iface 50 v) xT 303 true).run Tryz.prog w = .ok (.tuple #[.nilIface,.bool false]) w:=run_typeAssert_lacksB Tryz.underlying303 (by kernel_rfl) (by kernel_rfl) v xT w
theorem asT.no233 (v:Value) (xT:TypeId) (w:World):(Instr.typeAssert (.iface 50 v) xT 306 true).run Tryz.prog w = .ok (.tuple #[.nilIface,.bool false]) w:=run_typeAssert_lacksB Tryz.underlying306 (by kernel_rfl) (by kernel_rfl) v xT w
theorem asT.no234 (v:Value) (xT:TypeId) (w:World):(Instr.typeAssert (.iface 50 v) xT 307 true).run Tryz.prog w = .ok (.tuple #[.nilIface,.bool false]) w:=run_typeAssert_lacksB Tryz.underlying307 (by kernel_rfl) (by kernel_rfl) v xT w
set_option maxHeartbeats 4000000 in
theorem zdy (n:Int) (t:Addr) (old:Value) (w:World) (hg:w.cell? ⟨1,0,none⟩=some (.iface 298 (.agg #[.pointer (some ⟨9,31,none⟩)]))) (ht0:w.cell? t=some old) :
  Calls Tryz.prog 172 #[.iface 50 (.int .i64 n),.iface 247 (.pointer (some t))] w fun ev w'=>ev = .returned (.bool false)∧Below w.heap.size w w':=by
 have h6:=@run_callFunc_extern Tryz.prog 200 _ (fun args=>ReflectliteValue.unpack (args.getD 0 (.tuple #[]))) Tryz.func200 (by kernel_rfl) (by kernel_rfl) (by kernel_rfl) (by kernel_rfl)
 have h7 := @run_callFunc_extern Tryz.prog 201 _ (ReflectliteValue.methodAny (ReflectliteValue.valueError "reflectlite.Value.Type" 0) (fun t _ _ _ => ReflectliteType.toType t)) Tryz.func201 (by kernel_rfl) (by kernel_rfl) (by kernel_rfl) (by kernel_rfl)
 have h8 := @run_callFunc_extern Tryz.prog 202 _ (ReflectliteValue.method (ReflectliteValue.valueError "reflectlite.Value.IsNil" 0) ReflectliteValue.isNil) Tryz.func202 (by kernel_rfl) (by kernel_rfl) (by kernel_rfl) (by kernel_rfl)
 have h27:=@run_callFunc_extern Tryz.prog 259 _ (ReflectliteType.abiMethod fun t=>do pure (.int .u8 (← Rtype.kind t))) Tryz.func259 (by kernel_rfl) (by kernel_rfl) (by kernel_rfl) (by kernel_rfl);have h37:=@run_callFunc_extern Tryz.prog 276 _ (ReflectliteType.method ReflectliteType.elem) Tryz.func276 (by kernel_rfl) (by kernel_rfl) (by kernel_rfl) (by kernel_rfl)
 have h38 := @run_callFunc_extern Tryz.prog 277 _ (ReflectliteType.relation "Implements" ReflectliteType.implements_) Tryz.func277 (by kernel_rfl) (by kernel_rfl) (by kernel_rfl) (by kernel_rfl)
 have f0:=@run_callFunc_extern Tryz.prog 222 _ ReflectliteType.typeOf Tryz.func222 (by kernel_rfl) (by kernel_rfl) (by kernel_rfl) (by kernel_rfl)
 have h35 := @run_callFunc_extern Tryz.prog 274 _ (ReflectliteType.relation "AssignableTo" ReflectliteType.assignableTo) Tryz.func274 (by kernel_rfl) (by kernel_rfl) (by kernel_rfl) (by kernel_rfl)
 have h11 := @run_callFunc_extern Tryz.prog 223 _ (ReflectliteValue.method (ReflectliteValue.valueError "reflectlite.Value.Elem" 0) ReflectliteValue.elem) Tryz.func223 (by kernel_rfl) (by kernel_rfl) (by kernel_rfl) (by kernel_rfl)
 have h12:=@run_callFunc_extern Tryz.prog 224 _ ReflectliteValue.set Tryz.func224 (by kernel_rfl) (by kernel_rfl) (by kernel_rfl) (by kernel_rfl);have tO:=asT.typeOf31;have mA:=asT.methodAssignableTo;have a25:=asT.assignable31;have f6:=asT.valueOf27;have f7:=asT.type27;have mK:=asT.methodKind;have mE:=asT.methodElem;have mI:=asT.methodImplements;have k27:=asT.kind27;have k25:=asT.kind25;have e27:=asT.elem27;have i25:=asT.implements25;have n8:=asT.isNil27 ⟨w.heap.size,0,none⟩ t ((w.alloc (.cells #[.pointer (some t)] 247)).alloc (.cells #[.pointer (some ⟨9,247,none⟩),.pointer (some ⟨w.heap.size,0,none⟩),.int .u64 150] 272)) (by simp)
 have d5:1<w.heap.size:=by
  rcases Nat.lt_or_ge 1 w.heap.size with h|h
  ·exact h
  ·simp [World.cell?,Array.getElem?_eq_none h] at hg
 have hg2:((w.alloc (.cells #[.pointer (some t)] 247)).alloc (.cells #[.pointer (some ⟨9,247,none⟩),.pointer (some ⟨w.heap.size,0,none⟩),.int .u64 150] 272)).cell? ⟨1,0,none⟩=some (.iface 298 (.agg #[.pointer (some ⟨9,31,none⟩)])):=by
  rw [World.cell?_alloc_lt _ _ ⟨1,0,none⟩ (by first|(simp;done)|(simp;omega)),World.cell?_alloc_lt _ _ ⟨1,0,none⟩ d5];exact hg
 have htl:t.block<w.heap.size:=by
  rcases Nat.lt_or_ge t.block w.heap.size with h|h
  ·exact h
  ·simp [World.cell?,Array.getElem?_eq_none h] at ht0
 have n1:=asT.no230;have n2:=asT.no233;have n3:=asT.no234
 go_enter Tryz.func172,Tryz.ntmps172
 go_wp2
 refine wp_loop_rounds 1 ?_;rw [rounds_succ]
 go_wp2
 go_ret
 exact⟨rfl,(((Below.refl _ _).alloc (Nat.le_refl _) _).alloc (by simp) _).alloc (by first|(simp;done)|(simp;omega)) _⟩
end Go.Proofs.YtapblfabkbdgcaaGreatDoor
namespace Go.Proofs.YtapblfabkbdgcaaGreatDoor
open Go Go.Av Go.RowKit Go.Proofs Go.Pl
theorem q1v {w:World} {b:Nat} {T:TypeId} {fz:Nat×Nat} {c:Array Value} (v:Value) (hc:w.heap[b]? = some (.cells c T fz)) (h1:c.size=1):w.setCell ⟨b,0,none⟩ v=w.setRow b #[v]:=by
 unfold World.setCell World.setRow;congr 1;apply Array.ext_getElem?;intro i;rw [Array.getElem?_modify,Array.getElem?_modify];by_cases hi:b=i
 ·subst hi
  rw [if_pos rfl,if_pos rfl,hc]
  have:c.setIfInBounds 0 v = #[v]:=by
   apply Array.ext
   ·simp [h1]
   ·intro i h2 h3
    have:i=0:=by simp at h3;omega
    subst this;simp
  simp [this]
 ·rw [if_neg hi,if_neg hi]
theorem zdx (a n:Int) (o:Nat) (st:List AObj) (ho:st[o]? = some (.cells 0 73 [.v (.pointer none)])):qn E 172 [qf2 a n,.ifc 247 (.bx o 0 0)] st fun r st'=>r=Bv true∧st'=st.set o (.cells 0 73 [.pp [Iv a,.ifc 50 (Iv n)]]):=by
 refine⟨fun B0 w0 G vals w hL hA hR=>?_⟩
 obtain⟨v1,v2,rfl⟩:∃ x y,vals = #[x,y]:=by
  have:=hR.1
  match vals,this with
  | ⟨[x,y]⟩,_=>exact⟨x,y,rfl⟩
 have h1:=hR.2 0 _ v1 rfl rfl;have h2:=hR.2 1 _ v2 rfl rfl;unfold qf2 at h1
 cases h1 with
 |ifc _ _ y1 h1=>
  cases h2 with
  |ifc _ _ y2 h2=>
   have gd:=h1
   cases h1 with
   |pp _ b off pub hp b9 hr=>
    cases h2 with
    |bx _ _ _ b2 hn hv hb=>
     obtain⟨_,g1,g2,g3,c,g4,g5,g6⟩:=hA.ob o _ ho;have hb:=hb g1;subst hb;have nz:c.size=1:=by simpa using g5.symm
     have hl:=(hL w hA.below).ert;have p7:w.cell? ⟨(G.ob o).blk,0,none⟩=some c[0]:=by simp [World.cell?,g4,nz]
     have hfz:w.frozen? ⟨(G.ob o).blk,0,none⟩=false:=by simp [World.frozen?,g4]
     have d5:(G.ob o).blk<w.heap.size:=(Array.getElem?_eq_some_iff.1 g4).1;refine (zgw ⟨b,off,none⟩ ⟨(G.ob o).blk,0,none⟩ c[0] w hl p7 hfz).mono ?_;rintro e w' ⟨rfl,rfl⟩
     have o8:Below w.heap.size w ((((w.alloc (.cells #[.pointer (some ⟨(G.ob o).blk,0,none⟩)] 247)).alloc (.cells #[.pointer (some ⟨9,247,none⟩),.pointer (some ⟨w.heap.size,0,none⟩),.int .u64 150] 272)).alloc (.cells #[.pointer (some ⟨9,247,none⟩),.pointer (some ⟨w.heap.size,0,none⟩),.int .u64 150] 272)).alloc (.cells #[.pointer (some ⟨b,off,none⟩)] 73)):=
      ((((Below.refl _ _).alloc (Nat.le_refl _) _).alloc (by simp) _).alloc (by first|(simp;done)|(simp;omega)) _).alloc (by first|(simp;done)|(simp;omega)) _
     have bg:=hA.fresh o8;obtain⟨_,k1,k2,k3,c',k4,k5,k6⟩:=bg.ob o _ ho;have hc1':c'.size=1:=by simpa using k5.symm
     refine⟨.bool true,G,Bv true,_,rfl,.refl G,?_,.v _,rfl,rfl⟩;rw [q1v _ k4 hc1']
     exact bg.setRow ho (by simp) fun i x y hx hy=>by
      match i with
      | 0=>simp at hx hy;subst hx;subst hy;exact gd
      |i+1=>simp at hx
theorem zag (n:Int) (o:Nat) (st:List AObj) (ho:st[o]? = some (.cells 0 73 [.v (.pointer none)])):qn E 172 [.ifc 50 (Iv n),.ifc 247 (.bx o 0 0)] st fun r st'=>r=Bv false∧st'=st:=by
 refine⟨fun B0 w0 G vals w hL hA hR=>?_⟩
 obtain⟨v1,v2,rfl⟩:∃ x y,vals = #[x,y]:=by
  have:=hR.1
  match vals,this with
  | ⟨[x,y]⟩,_=>exact⟨x,y,rfl⟩
 have h1:=hR.2 0 _ v1 rfl rfl;have h2:=hR.2 1 _ v2 rfl rfl
 cases h1 with
 |ifc _ _ y1 h1=>
  cases h2 with
  |ifc _ _ y2 h2=>
   cases h1 with
   |v=>
    cases h2 with
    |bx _ _ _ b2 hn hv hb=>
     obtain⟨_,g1,g2,g3,c,g4,g5,g6⟩:=hA.ob o _ ho;have hb:=hb g1;subst hb;have nz:c.size=1:=by simpa using g5.symm
     have hl:=(hL w hA.below).ert;have p7:w.cell? ⟨(G.ob o).blk,0,none⟩=some c[0]:=by simp [World.cell?,g4,nz]
     refine (zdy n ⟨(G.ob o).blk,0,none⟩ c[0] w hl p7).mono ?_;rintro e w' ⟨rfl,hb⟩;exact⟨_,G,Bv false,st,rfl,.refl G,hA.fresh hb,.v _,rfl,rfl⟩
end Go.Proofs.YtapblfabkbdgcaaGreatDoor
namespace Go.Proofs.YtapblfabkbdgcaaGreatDoor
open Go Go.Av Go.RowKit Go.Extern.Stop Go.Stop Go.Extern Go.Proofs
theorem isT.has (v:Value) (xT:TypeId) (w:World):(Instr.typeAssert (.iface 73 v) xT 306 true).run Tryz.prog w = .ok (.tuple #[.iface 73 v,.bool true]) w:=run_typeAssert_hasB Tryz.underlying306 (by kernel_rfl) v xT w
theorem isT.typeOf (v:Value) (w:World):(ReflectliteType.typeOf #[.iface 50 v]).run Tryz.prog w = .ok (.iface 298 (.agg #[.pointer (some ⟨9,50,none⟩)])) w:=by kernel_rfl
theorem isT.cmp (w : World) : (ReflectliteType.method (fun t => do Rtype.noPackHeld "Comparable" t; (fun a => Value.bool a.comparable) <$> typeInfo t) #[.agg #[.pointer (some ⟨9, 50, none⟩)]]).run Tryz.prog w = .ok (.bool true) w := by kernel_rfl
end Go.Proofs.YtapblfabkbdgcaaGreatDoor
namespace Go.Pl
open Go Go.Proofs
inductive ErrV where
 |no
 |num (n:Int)
 |at' (a n:Int)
 deriving DecidableEq
def ErrV.code:ErrV→Int
 | .no=>0
 | .num n=>n
 | .at' _ n=>n
def ErrV.pos:ErrV→Int
 | .no=> -9
 | .num _=> -9
 | .at' a _=>a
def wb:Nat→List Fld→ErrV
 | _,[]=>.no
 |k,f::r=>if kg f=0 then wb (k+1) r else .at' k (kg f)
def zw (fs:List Fld):ErrV:=if fs=[] then .num 2 else if 40<fs.length then .num 11 else wb 0 fs
theorem qog:∀ (k:Nat) (p r:List Fld),(∀ x∈p,kg x=0)→wb k (p++r)=wb (k+p.length) r
 |k,[],r,_=>by simp
 |k,f::p,r,h=>by
  have h1:=h f (by simp);rw [List.cons_append,wb,if_pos h1,qog (k+1) p r fun x hx=>h x (by simp [hx])];congr 1;simp;omega
theorem qmh:∀ (k:Nat) (r:List Fld),(wb k r).code=0↔wb k r = .no
 |k,[]=>by simp [wb,ErrV.code]
 |k,f::r=>by
  unfold wb;split
  ·exact qmh _ r
  ·rename_i h
   simp [ErrV.code,h]
theorem qmg (fs:List Fld):(zw fs).code=0↔zw fs = .no:=by
 unfold zw;split
 ·simp [ErrV.code]
 ·split
  ·simp [ErrV.code]
  ·exact qmh _ _
end Go.Pl
namespace Go.Proofs.YtapblfabkbdgcaaGreatDoor
open Go Go.Av Go.RowKit Go.Proofs Go.Pl
theorem qs9 {st st':List AObj} (h:∀ k,k<st.length→st'[k]? = st[k]?):∃ ext,st'=st++ext:=by
 refine qkr ?_ h;rcases Nat.eq_zero_or_pos st.length with h0|h0
 ·omega
 ·have h1:=h (st.length - 1) (by omega)
  have h2:st[st.length - 1]? = some (st[st.length - 1]'(by omega)):=List.getElem?_eq_getElem (by omega);have:=lt_of_getElem? (h1.trans h2);omega
def gErr (x:qq):ErrV:=if x.kind=2 then (if x.fields=[] then .no else .num 2) else if x.kind=1∨x.kind=3 then zw x.fields else .num 2
def yf:Nat→List qq→ErrV
 | _,[]=>.no
 |k,x::r=>if (gErr x).code=0 then yf (k+1) r else .at' k (gErr x).code
def eErr (b:List qq):ErrV:=if b.length<1∨40<b.length then .num 1 else yf 0 b
theorem qmq (x:qq):(gErr x).code=0↔gErr x = .no:=by
 unfold gErr;split
 ·split <;> simp [ErrV.code]
 ·split
  ·exact qmg _
  ·simp [ErrV.code]
theorem qq0:∀ (k:Nat) (r:List qq),(yf k r).code=0↔yf k r = .no
 |k,[]=>by simp [yf,ErrV.code]
 |k,f::r=>by
  unfold yf;split
  ·exact qq0 _ r
  ·rename_i h
   simp [ErrV.code] at h ⊢;exact h
theorem qf0 (b:List qq):(eErr b).code=0↔eErr b = .no:=by
 unfold eErr;split
 ·simp [ErrV.code]
 ·exact qq0 _ _
def errA:ErrV→AV
 | .no=>.v .nilIface
 | .num n=>.ifc 50 (Iv n)
 | .at' a n=>.ifc 73 (.pp [Iv a,.ifc 50 (Iv n)])
theorem va (e:ErrV):Pure (errA e):=by
 cases e with
 |no=>exact q8 _
 |num n=>exact qdw (q8 _)
 |at' a n=>exact qjm a n
def KeyB (fs:List Fld):Prop:=∀ f∈fs,f.1.length<4294967281
theorem qya {fs:List Fld} {i:Nat} {x:Fld} (h:fs[i]? = some x):(fs.map fldA)[i]? = some (fldA x):=by simp [h]
theorem qir {b:List qq} {i:Nat} {x:qq} (h:b[i]? = some x):(b.map je)[i]? = some (je x):=by simp [h]
theorem qt9 {fs:List Fld} (h:¬ 0<fs.length):zw fs = .num 2:=if_pos (List.length_eq_zero_iff.1 (by omega))
theorem qqw {fs:List Fld} (h:40<fs.length):zw fs = .num 11:=(if_neg fun h0=>by simp [h0] at h).trans (if_pos h)
theorem qua {fs:List Fld} (h0:0<fs.length) (h:¬ 40<fs.length):zw fs=wb 0 fs:=(if_neg (List.length_pos_iff.1 h0)).trans (if_neg h)
theorem qla (fs:List Fld) (st:List AObj) (e:ErrV) (h:zw fs=e) (hK:KeyB fs) (hl:fs.length<9223372036854775808):qn E 141 [zl fs] st fun r st'=>r=errA e∧st'=st:=by
 subst h;refine zt [.a (zl fs)] (va _) Tryz.func141 rfl rfl (fun _=>rfl) rfl fun S0=>?_;have g9:(fs.map fldA).length=fs.length:=by simp
 apply qf [];repeat' (first|apply And.intro|(intro h;try exact cDd)|exact cSd|apply qd []|refine exr ?_|refine qk ?_)
 ·rw [qt9 (by omega)];rfl
 ·rw [qqw (by omega)];rfl
 rw [qua (by omega) (by omega)];refine ke (X:=Nat) (fun k=>⟨[(16,.a (zl fs)),(17,.i (fs.map fldA).length),(18,.i k)],[],0⟩) (fun k=>k≤fs.length∧wb k (fs.drop k)=wb 0 fs) (fun k=>fs.length - k) 0 ⟨by omega,rfl⟩ ?_ ?_
 ·skip
  repeat' (first|apply And.intro|(intro h;try exact cDd)|exact cSd|apply qd []|refine exr ?_|refine qk ?_)
 ·rintro k ⟨hk,hc⟩
  by_cases d5:k<fs.length
  ·obtain⟨y,hy⟩:∃ y,fs[k]? = some y:=⟨_,List.getElem?_eq_getElem d5⟩
   have c8:=qya hy;have rx:=hK y (List.mem_of_getElem? hy);obtain⟨_,hye⟩:=List.getElem?_eq_some_iff.1 hy;rw [List.drop_eq_getElem_cons d5,hye,wb] at hc;rw [← hc];by_cases ha:kg y=0
   ·have hc4:=fun st=>qhu y st rx ha
    apply qf [4];repeat' (first|apply And.intro|(intro h;try exact cDd)|(refine Exists.intro (k) ⟨by omega,_,c8,?_⟩)|exact⟨Tryz.call142⟩|refine cpe hc4 ?_|(refine Exists.intro (k+1) ⟨⟨by omega,by simp_all⟩,by omega,?_⟩)|exact cSd|apply qd [4]|refine exr ?_|refine qk ?_)
   ·have hc4:=fun st=>qhv y st rx ha
    rw [if_neg ha];apply qf [4];repeat' (first|apply And.intro|(intro h;try exact cDd)|(refine Exists.intro (k) ⟨by omega,_,c8,?_⟩)|exact⟨Tryz.call142⟩|refine cpe hc4 ?_|exact cSd|apply qd [4]|refine exr ?_|refine qk ?_)
  ·rw [List.drop_eq_nil_of_le (by omega),wb] at hc
   rw [← hc];apply qf [];repeat' (first|apply And.intro|(intro h;try exact cDd)|exact cSd|apply qd []|refine exr ?_|refine qk ?_)
theorem zeo (x:qq) (st:List AObj) (e:ErrV) (h:gErr x=e) (hK:KeyB x.fields) (hl:x.fields.length<9223372036854775808):qn E 101 [je x] st fun r st'=>r=errA e∧st'=st:=by
 subst h;refine zt [.a (je x)] (va _) Tryz.func101 rfl rfl (fun _=>rfl) rfl fun S0=>?_;have g9:(x.fields.map fldA).length=x.fields.length:=by simp
 have bc:x.fields=[]↔x.fields.length=0:=by simp
 have hc6:=fun st=>qla x.fields st _ rfl hK hl;unfold gErr;simp only [bc];generalize zw x.fields=e at *
 cases e
 all_goals apply qf [1]
 repeat' (first|apply And.intro|(intro h;try exact cDd)|exact⟨Tryz.call141⟩|refine cpe hc6 ?_|exact cSd|apply qd [1]|refine exr ?_|refine qk ?_)
 all_goals clear hc6
 all_goals grind [errA]
theorem zaz (n:Int) (st:List AObj):qn E 131 [.ifc 50 (Iv n)] st fun r st'=>r = .ifc 50 (Iv n)∧st'=st:=by
 refine zb (qdw (q8 _)) (qr Tryz.func131 rfl (Nat.le_of_ble_eq_true rfl) ?_);repeat' (first|apply qm|apply qg|apply qh|apply ql|apply qj|(apply qe;exact rfl;apply cd_f;exact cRa)|(apply vw;exact rfl;exact rfl)|(apply jp;exact rfl;exact rfl)|apply qw|apply q6|(apply qp;exact Tryz.call172;exact zag _ (st.length+0) _ (jl rfl)))
 exact qo rfl (zf rfl) ⟨rfl,_,rfl⟩
theorem zay (a n:Int) (st:List AObj):qn E 131 [qf2 a n] st fun r st'=>r = .ifc 50 (Iv n)∧st'=st:=by
 refine zb (qdw (q8 _)) (qr Tryz.func131 rfl (Nat.le_of_ble_eq_true rfl) ?_);repeat' (first|apply qm|apply qg|apply qh|apply ql|apply qj|(apply qe;exact rfl;apply cd_t;exact cRa)|(apply vw;exact rfl;exact rfl)|(apply jp;exact rfl;exact rfl)|(apply xx;(iterate 4 exact rfl))|(apply jh;(iterate 3 exact rfl))|(apply v7;exact rfl;exact rfl)|apply q6|(apply qp;exact Tryz.call172;exact zdx a n (st.length+0) _ (jl rfl))|(apply ka;exact rfl;(focus first|assumption|(repeat' (first|assumption|exact wd|exact jl rfl|apply j8|apply km|omega|apply qbc)));exact rfl;exact rfl))
 exact qo rfl (zf rfl) ⟨rfl,qs9 fun j hj=>(qop (by omega)).trans (List.getElem?_append_left hj)⟩
theorem qpb (k:Int) (e:ErrV) (st:List AObj) (he:e.code≠0):qn E 88 [Iv k,errA e] st fun r st'=>r=errA (.at' k e.code)∧st'=st:=by
 refine zb (va _) (qr Tryz.func88 rfl (Nat.le_of_ble_eq_true rfl) ?_)
 cases e with
 |no=>exact absurd rfl he
 |num n=>
  repeat' (first|(apply ql8;(iterate 3 exact rfl))|apply qm|apply qg|apply qh|apply ql|apply qj|(apply vw;exact rfl;exact rfl)|(apply xh;(iterate 3 exact rfl))|apply q6|(apply qp;exact Tryz.call131;exact zaz _ _))
  exact qo rfl (zf rfl) ⟨rfl,_,rfl⟩
 |at' a n=>
  repeat' (first|(apply ql8;(iterate 3 exact rfl))|apply qm|apply qg|apply qh|apply ql|apply qj|(apply vw;exact rfl;exact rfl)|(apply xh;(iterate 3 exact rfl))|apply q6|(apply qp;exact Tryz.call131;exact zay a n _))
  exact qo rfl (zf rfl) ⟨rfl,_,rfl⟩
structure EdB (x:qq):Prop where
 keys:KeyB x.fields
 len:x.fields.length<9223372036854775808
 id1 : -9223372036854775808≤x.id
 id2:x.id≤9223372036854775807
@[reducible] def jo (b : List qq) : AV := .sl 3 (b.map je) none
theorem qkq (b:List qq) (st:List AObj) (e:ErrV) (h:eErr b=e) (hB:∀ x∈b,EdB x) (hl:b.length<9223372036854775808):qn E 63 [jo b] st fun r st'=>r=errA e∧st'=st:=by
 subst h;refine zt [.a (jo b)] (va _) Tryz.func63 rfl rfl (fun _=>rfl) rfl fun S0=>?_;have g9:(b.map je).length=b.length:=by simp
 have h1:b.length<1∨40<b.length→eErr b = .num 1:=fun h=>if_pos h;have hr:¬ (b.length<1∨40<b.length)→eErr b=yf 0 b:=fun h=>if_neg h;apply qf [];repeat' (first|apply And.intro|(intro h;try exact cDd)|exact cSd|apply qd []|refine exr ?_|refine qk ?_)
 ·rw [h1 (by omega)];rfl
 ·rw [h1 (by omega)];rfl
 rw [hr (by omega)];refine ke (X:=Nat) (fun k=>⟨[(15,.a (jo b)),(16,.i (b.map je).length),(17,.i k)],[],0⟩) (fun k=>k≤b.length∧yf k (b.drop k)=yf 0 b) (fun k=>b.length - k) 0 ⟨by omega,rfl⟩ ?_ ?_
 ·skip
  repeat' (first|apply And.intro|(intro h;try exact cDd)|exact cSd|apply qd []|refine exr ?_|refine qk ?_)
 ·rintro k ⟨hk,hc⟩
  by_cases d5:k<b.length
  ·obtain⟨y,hy⟩:∃ y,b[k]? = some y:=⟨_,List.getElem?_eq_getElem d5⟩
   have c8:=qir hy;have rx:=hB y (List.mem_of_getElem? hy);obtain⟨_,hye⟩:=List.getElem?_eq_some_iff.1 hy;rw [List.drop_eq_getElem_cons d5,hye,yf] at hc;have hc9:=fun st=>zeo y st _ rfl rx.keys rx.len;have hcf:=fun st=>qpb k (gErr y) st;rw [← hc]
   cases hg:gErr y
   all_goals rw [hg] at hc hc9 hcf
   ·apply qf [4]
    repeat' (first|apply And.intro|(intro h;try exact cDd)|(refine Exists.intro (k) ⟨by omega,_,c8,?_⟩)|exact⟨Tryz.call101⟩|refine cpe hc9 ?_|(refine Exists.intro (k+1) ⟨⟨by omega,(if_pos rfl).symm⟩,by omega,?_⟩)|exact cSd|apply qd [4]|refine exr ?_|refine qk ?_)
   all_goals have hgc:=fun h=>qmq y |>.1 h
   all_goals rw [hg] at hgc
   all_goals rw [if_neg fun h=>nomatch hgc h]
   ·have hcg:=fun st=>hcf st fun h=>nomatch hgc h
    apply qf [4];repeat' (first|apply And.intro|(intro h;try exact cDd)|(refine Exists.intro (k) ⟨by omega,_,c8,?_⟩)|exact⟨Tryz.call101⟩|refine cpe hc9 ?_|exact⟨Tryz.call88⟩|refine cpe hcg ?_|exact cSd|apply qd [4]|refine exr ?_|refine qk ?_)
   ·have hcg:=fun st=>hcf st fun h=>nomatch hgc h
    apply qf [4];repeat' (first|apply And.intro|(intro h;try exact cDd)|(refine Exists.intro (k) ⟨by omega,_,c8,?_⟩)|exact⟨Tryz.call101⟩|refine cpe hc9 ?_|exact⟨Tryz.call88⟩|refine cpe hcg ?_|exact cSd|apply qd [4]|refine exr ?_|refine qk ?_)
  ·rw [List.drop_eq_nil_of_le (by omega),yf] at hc
   rw [← hc];apply qf [];repeat' (first|apply And.intro|(intro h;try exact cDd)|exact cSd|apply qd []|refine exr ?_|refine qk ?_)
theorem q27 (a b:Int):Pure (.tu [Iv a,Iv b]):=kw (q8 _) (q8 _)
theorem qzn (fs:List Fld) (st:List AObj) (hK:KeyB fs) (hl:fs.length<9223372036854775808):qn E 106 [zl fs] st fun r st'=>r = .tu [Iv (zw fs).pos,Iv (zw fs).code]∧st'=st:=by
 refine zt [.a (zl fs)] (q27 _ _) Tryz.func106 rfl rfl (fun _=>rfl) rfl fun S0=>?_;have g9:(fs.map fldA).length=fs.length:=by simp
 apply qf [];repeat' (first|apply And.intro|(intro h;try exact cDd)|exact cSd|apply qd []|refine exr ?_|refine qk ?_)
 ·rw [qt9 (by omega)];rfl
 ·rw [qqw (by omega)];rfl
 rw [qua (by omega) (by omega)];refine ke (X:=Nat) (fun k=>⟨[(0,.a (zl fs)),(4,.i k)],[],0⟩) (fun k=>k≤fs.length∧wb k (fs.drop k)=wb 0 fs) (fun k=>fs.length - k) 0 ⟨by omega,rfl⟩ ?_ ?_
 ·skip
  repeat' (first|apply And.intro|(intro h;try exact cDd)|exact cSd|apply qd []|refine exr ?_|refine qk ?_)
 ·rintro k ⟨hk,hc⟩
  by_cases d5:k<fs.length
  ·obtain⟨y,hy⟩:∃ y,fs[k]? = some y:=⟨_,List.getElem?_eq_getElem d5⟩
   have c8:=qya hy;have rx:=hK y (List.mem_of_getElem? hy);obtain⟨_,hye⟩:=List.getElem?_eq_some_iff.1 hy;rw [List.drop_eq_getElem_cons d5,hye,wb] at hc;have hc4:=fun st=>qzm y st rx;rw [← hc];apply qf [];repeat' (first|apply And.intro|(intro h;try exact cDd)|(refine Exists.intro (k) ⟨by omega,_,c8,?_⟩)|exact⟨Tryz.call147⟩|refine cpe hc4 ?_|(refine Exists.intro (k+1) ⟨⟨by omega,by simp_all⟩,by omega,?_⟩)|exact cSd|apply qd []|refine exr ?_|refine qk ?_)
   all_goals (rw [if_neg (by assumption)];rfl)
  ·rw [List.drop_eq_nil_of_le (by omega),wb] at hc
   rw [← hc];apply qf [];repeat' (first|apply And.intro|(intro h;try exact cDd)|exact cSd|apply qd []|refine exr ?_|refine qk ?_)
theorem q1r (x:qq) (st:List AObj) (hK:EdB x):qn E 68 [je x] st fun r st'=>r=Iv (gErr x).code∧st'=st:=by
 refine zt [.a (je x)] (q8 _) Tryz.func68 rfl rfl (fun _=>rfl) rfl fun S0=>?_;have g9:(x.fields.map fldA).length=x.fields.length:=by simp
 have bc:x.fields=[]↔x.fields.length=0:=by simp
 have hc6:=fun st=>qzn x.fields st hK.keys hK.len
 have hg:(gErr x).code=if x.kind=2 then (if x.fields.length=0 then 0 else 2) else if x.kind=1∨x.kind=3 then (zw x.fields).code else 2:=by
  unfold gErr;simp only [apply_ite ErrV.code,bc];rfl
 rw [hg];generalize (zw x.fields).code=c at *;apply qf [1];repeat' (first|apply And.intro|(intro h;try exact cDd)|exact⟨Tryz.call106⟩|refine cpe hc6 ?_|exact cSd|apply qd [1]|refine exr ?_|refine qk ?_)
 all_goals clear hc6
 all_goals refine congrArg Iv ?_
 all_goals omega
theorem qzo (b:List qq) (st:List AObj) (hB:∀ x∈b,EdB x) (hl:b.length<9223372036854775808):qn E 37 [jo b] st fun r st'=>r = .tu [Iv (eErr b).pos,Iv (eErr b).code]∧st'=st:=by
 refine zt [.a (jo b)] (q27 _ _) Tryz.func37 rfl rfl (fun _=>rfl) rfl fun S0=>?_;have g9:(b.map je).length=b.length:=by simp
 have h1:b.length<1∨40<b.length→eErr b = .num 1:=fun h=>if_pos h;have hr:¬ (b.length<1∨40<b.length)→eErr b=yf 0 b:=fun h=>if_neg h;apply qf [];repeat' (first|apply And.intro|(intro h;try exact cDd)|exact cSd|apply qd []|refine exr ?_|refine qk ?_)
 ·rw [h1 (by omega)];rfl
 ·rw [h1 (by omega)];rfl
 rw [hr (by omega)];refine ke (X:=Nat) (fun k=>⟨[(0,.a (jo b)),(4,.i k)],[],0⟩) (fun k=>k≤b.length∧yf k (b.drop k)=yf 0 b) (fun k=>b.length - k) 0 ⟨by omega,rfl⟩ ?_ ?_
 ·skip
  repeat' (first|apply And.intro|(intro h;try exact cDd)|exact cSd|apply qd []|refine exr ?_|refine qk ?_)
 ·rintro k ⟨hk,hc⟩
  by_cases d5:k<b.length
  ·obtain⟨y,hy⟩:∃ y,b[k]? = some y:=⟨_,List.getElem?_eq_getElem d5⟩
   have c8:=qir hy;have rx:=hB y (List.mem_of_getElem? hy);obtain⟨_,hye⟩:=List.getElem?_eq_some_iff.1 hy;rw [List.drop_eq_getElem_cons d5,hye,yf] at hc;have hc9:=fun st=>q1r y st rx;rw [← hc];apply qf [];repeat' (first|apply And.intro|(intro h;try exact cDd)|(refine Exists.intro (k) ⟨by omega,_,c8,?_⟩)|exact⟨Tryz.call68⟩|refine cpe hc9 ?_|(refine Exists.intro (k+1) ⟨⟨by omega,by simp_all⟩,by omega,?_⟩)|exact cSd|apply qd []|refine exr ?_|refine qk ?_)
   all_goals (rw [if_neg (by assumption)];rfl)
  ·rw [List.drop_eq_nil_of_le (by omega),yf] at hc
   rw [← hc];apply qf [];repeat' (first|apply And.intro|(intro h;try exact cDd)|exact cSd|apply qd []|refine exr ?_|refine qk ?_)
def okE:ErrV→Prop
 | .no=>True
 | .num n=>n≠0
 | .at' _ n=>n≠0
theorem zhu (e:ErrV) (st:List AObj) (he:okE e):qn E 11 [errA e] st fun r st'=>r=Iv e.code∧st'=st:=by
 refine zb (q8 _) (qr Tryz.func11 rfl (Nat.le_of_ble_eq_true rfl) ?_)
 cases e with
 |no=>
  repeat' (first|apply qm|apply qt|apply qg|apply qh|apply ql|apply qj)
  refine jx (fun (k:Unit) s=>StA [(0,.v .nilIface),(7,Iv 0)] (st++[]) [] s) (fun k=>0) () (jg ⟨rfl,rfl,trivial⟩) ?_;rintro k _ ⟨t,rfl⟩;repeat' (first|apply qm|apply qt|apply qg|apply qh|apply ql|apply qj|(apply qu;(iterate 3 exact rfl))|(apply qe;exact rfl;apply vk;exact cAo)|(apply qe;exact rfl;apply cd_t;exact cRa)|(apply qdo;exact rfl;exact rfl)|apply qw|apply q6)
  exact qo rfl (zf rfl) ⟨rfl,_,rfl⟩
 |num n=>
  have hk:n≠0:=he;repeat' (first|apply qm|apply qt|apply qg|apply qh|apply ql|apply qj)
  refine jx (fun (k:Unit) s=>StA [(0,errA (.num n)),(7,Iv 0)] (st++[]) [] s) (fun k=>0) () (jg ⟨rfl,rfl,trivial⟩) ?_;rintro k _ ⟨t,rfl⟩;repeat' (first|apply qm|apply qt|apply qg|apply qh|apply ql|apply qj|(apply zp;exact rfl;exact rfl)|(apply qu;(iterate 3 exact rfl))|(apply zo;(iterate 4 exact rfl))|(apply qcl;exact cRa)|(apply q9;exact rfl;apply pk_t;exact cRa)|(apply qe;exact rfl;apply vk;exact cAo)|(apply qe;exact rfl;apply cd_f;exact cRa)|(apply qaj;exact rfl;exact rfl)|apply qw|apply q6|(apply qc0;(iterate 3 exact rfl)))
  exact qo rfl (zf rfl) ⟨rfl,_,rfl⟩
 |at' a n=>
  have hk:n≠0:=he;repeat' (first|apply qm|apply qt|apply qg|apply qh|apply ql|apply qj)
  refine jx (fun (j:Nat) s=>(j=0∧StA [(0,errA (.at' a n)),(7,Iv 0)] (st++[]) [] s)∨(j=1∧StA [(0,errA (.num n)),(7,Iv 1)] (st++[]) [] s)) (fun j=>1 - j) 0 (.inl ⟨rfl,jg ⟨rfl,rfl,trivial⟩⟩) ?_;rintro j _ (⟨rfl,t,rfl⟩ | ⟨rfl,t,rfl⟩)
  ·skip
   repeat' (first|apply qm|apply qt|apply qg|apply qh|apply ql|apply qj|(apply zp;exact rfl;exact rfl)|(apply qu;(iterate 3 exact rfl))|(apply kj;exact rfl)|(apply zo;(iterate 4 exact rfl))|(apply qf5;exact cRa)|(apply qyf;exact cRa)|(apply qbp;exact cRa)|(apply q9;exact rfl;apply qn0;exact cRa)|(apply q9;exact rfl;apply pk_f;exact cRa)|(apply qe;exact rfl;apply vk;exact cAo)|(apply qe;exact rfl;apply cd_f;exact cRa)|(apply zn;exact rfl;exact rfl;exact zg (by omega) (by omega))|(apply qaj;exact rfl;exact rfl)|(apply xx;(iterate 4 exact rfl))|(apply jh;(iterate 3 exact rfl))|(apply v7;exact rfl;exact rfl)|(apply qal;(iterate 3 exact rfl))|apply qw|(apply qif;(iterate 5 exact rfl))|(apply qc0;(iterate 3 exact rfl)))
   exact⟨1,.inr ⟨rfl,jg ⟨rfl,rfl,trivial⟩⟩,by omega⟩
  ·skip
   repeat' (first|apply qm|apply qt|apply qg|apply qh|apply ql|apply qj|(apply zp;exact rfl;exact rfl)|(apply qu;(iterate 3 exact rfl))|(apply zo;(iterate 4 exact rfl))|(apply qcl;exact cRa)|(apply q9;exact rfl;apply pk_t;exact cRa)|(apply qe;exact rfl;apply vk;exact cAo)|(apply qe;exact rfl;apply cd_f;exact cRa)|(apply qaj;exact rfl;exact rfl)|apply qw|apply q6|(apply qc0;(iterate 3 exact rfl)))
   exact qo rfl (zf rfl) ⟨rfl,_,rfl⟩
theorem zin (e:ErrV) (st:List AObj):qn E 12 [errA e] st fun r st'=>r=Iv e.pos∧st'=st:=by
 refine zb (q8 _) (qr Tryz.func12 rfl (Nat.le_of_ble_eq_true rfl) ?_)
 cases e with
 |no=>
  repeat' (first|apply qm|apply qg|apply qh|apply ql|apply qj|(apply zp;exact rfl;exact rfl)|(apply zo;(iterate 4 exact rfl))|(apply qbp;exact cRa)|(apply q9;exact rfl;apply pk_f;exact cRa)|(apply qe;exact rfl;apply cd_f;exact cRa)|apply qw|apply q6|(apply qst;(iterate 4 exact rfl)))
  exact qo rfl (zf rfl) ⟨rfl,_,rfl⟩
 |num n=>
  repeat' (first|apply qm|apply qg|apply qh|apply ql|apply qj|(apply zp;exact rfl;exact rfl)|(apply zo;(iterate 4 exact rfl))|(apply qbp;exact cRa)|(apply q9;exact rfl;apply pk_f;exact cRa)|(apply qe;exact rfl;apply cd_f;exact cRa)|apply qw|apply q6|(apply qif;(iterate 5 exact rfl)))
  exact qo rfl (zf rfl) ⟨rfl,_,rfl⟩
 |at' a n=>
  repeat' (first|apply qm|apply qg|apply qh|apply ql|apply qj|(apply zp;exact rfl;exact rfl)|(apply zo;(iterate 4 exact rfl))|(apply qcl;exact cRa)|(apply q9;exact rfl;apply pk_t;exact cRa)|(apply qe;exact rfl;apply qkp;exact cRa)|(apply xx;(iterate 4 exact rfl))|(apply jh;(iterate 3 exact rfl))|(apply v7;exact rfl;exact rfl)|(apply qgf;(iterate 3 exact rfl))|apply q6|(apply qc0;(iterate 3 exact rfl)))
  exact qo rfl (zf rfl) ⟨rfl,_,rfl⟩
def jm (x:qq):qc:=ko x++[10]++xz [32,32] (z0 x.fields)
def encF (b:List qq):qc:=b.flatMap jm
theorem qxy (a b:List qq):encF (a++b)=encF a++encF b:=by simp [encF]
theorem qxz (x:qq):encF [x]=jm x:=by simp [encF]
theorem qqx:∀ (k:Nat) (r:List Fld),wb k r = .no↔∀ f∈r,j9 f
 |k,[]=>by simp [wb]
 |k,f::r=>by
  unfold wb;split
  ·rename_i h
   rw [qqx (k+1) r];have:=(qba f).1 h;simp [this]
  ·rename_i h
   have h2:¬ j9 f:=fun g=>h ((qba f).2 g);simp [h2]
theorem qer {fs:List Fld} (h:zw fs = .no):fs≠[]∧fs.length≤40∧∀ f∈fs,j9 f:=by
 unfold zw at h;split at h
 ·exact absurd h (by simp)
 ·split at h
  ·exact absurd h (by simp)
  ·exact⟨by assumption,by omega,(qqx _ _).1 h⟩
theorem qd9 {x:qq} (h:gErr x = .no):x.fields.length≤40∧∀ f∈x.fields,j9 f:=by
 unfold gErr at h;split at h
 ·split at h
  ·rename_i h0;rw [h0];simp
  ·exact absurd h (by simp)
 ·split at h
  ·exact (qer h).2
  ·exact absurd h (by simp)
theorem qxw:∀ (k:Nat) (b:List qq),yf k b = .no↔∀ x∈b,gErr x = .no
 |k,[]=>by simp [yf]
 |k,x::b=>by
  unfold yf;split
  ·rename_i h
   rw [qxw (k+1) b];have:=(qmq x).1 h;simp [this]
  ·rename_i h
   have h2:¬ gErr x = .no:=fun g=>h ((qmq x).2 g);simp [h2]
theorem qb4 {b:List qq} (h:eErr b = .no):1≤b.length∧b.length≤40∧∀ x∈b,gErr x = .no:=by
 unfold eErr at h;split at h
 ·exact absurd h (by simp)
 ·exact⟨by omega,by omega,(qxw _ _).1 h⟩
theorem qyg {fs:List Fld} (hl:fs.length≤40) (h:∀ f∈fs,j9 f):q3s fs:=⟨by omega,fun f hf=>by
 have:=h f hf;have h1:=this.1.2.1;have h2:=this.2
 omega⟩
theorem qrc (xs:List FldV) (st:List AObj) (hl:xs.length≤40) (h:∀ f∈xs,j9 f):qn E 64 [zl xs] st fun r st'=>r = .tu [Sv (z0 xs),.v .nilIface]∧st'=st:=by
 have:=zhe xs st (qyg hl h);unfold qra at this;have h0:=(qmn xs).2 h;rw [if_pos h0,h0] at this;exact this
theorem qjo (l:qc):(xz [32,32] l).length≤3 * l.length:=by
 unfold xz;obtain⟨h1,h2⟩:=qcr _ l (Nat.le_refl _);have:=qkx [32,32] (zj l);simp only [List.length_cons,List.length_nil] at this;omega
theorem qm0 (x:qq) (h1 : -9223372036854775808≤x.id) (h2:x.id≤9223372036854775807):(ko x).length≤100:=by
 have hn:=Lib.itoa_length_le x.id h1 h2;unfold ko qac;split
 ·split
  ·simp;omega
  ·split
   ·simp;omega
   ·split <;> simp <;> omega
 ·simp
theorem q4r {x:qq} (hB:EdB x) (h:gErr x = .no):(jm x).length≤700000:=by
 obtain⟨hl,hg⟩:=qd9 h;have h1:=qd7 x.fields hg;have h2:=qjo (z0 x.fields);have h3:=qm0 x hB.id1 hB.id2;unfold jm;simp only [List.length_append,List.length_cons,List.length_nil];omega
theorem qho:∀ (b:List qq),(∀ x∈b,EdB x)→(∀ x∈b,gErr x = .no)→(encF b).length≤700000 * b.length
 | [],_,_=>by simp [encF]
 |x::r,hB,h=>by
  have ih:=qho r (fun y hy=>hB y (by simp [hy])) (fun y hy=>h y (by simp [hy]));have h1:=q4r (hB x (by simp)) (h x (by simp));have e:encF (x::r)=jm x++encF r:=by simp [encF]
  rw [e,List.length_append,List.length_cons];omega
set_option maxHeartbeats 2000000 in
theorem qus (b:List qq) (st:List AObj) (hB:∀ x∈b,EdB x) (he:eErr b = .no):qn E 35 [jo b] st fun r st'=>r = .tu [Sv (encF b),.v .nilIface]∧st'=st:=by
 refine zb (kw (q8 _) (q8 _)) (qr Tryz.func35 rfl (Nat.le_of_ble_eq_true rfl) ?_);have g9:(b.map je).length=b.length:=by simp
 obtain⟨o8,hb40,hg⟩:=qb4 he;have s8:=qho b hB hg;repeat' (first|(apply qfl;exact rfl)|apply qm|apply qt|apply qg|apply qh|apply ql|apply qj|(apply qe;exact rfl;apply cd_f;exact cRa)|(apply z6;(iterate 4 exact rfl))|(apply x3;exact rfl;exact rfl)|apply qw|(apply qp;exact Tryz.call63;exact qkq _ _ _ he hB (by omega)))
 refine qau b (fun pre s=>∃ q,(q = .v (.pointer none)∨q = .bx (st.length+0) 0 0)∧StE [(5,.bx (st.length+0) 0 0),(15,jo b),(16,Iv b.length),(17,Iv pre.length)] st [bldO 0 q (encF pre) (st.length+1),.tip (encF pre).length 1 5] s) ⟨_,.inl rfl,qb8 ⟨rfl,rfl,congrArg (fun n:Nat=>Iv (n:Int)) g9,rfl,trivial⟩ rfl⟩ ?_ ?_
 ·rintro _ ⟨q,hq,t,ext,rfl⟩
  repeat' (first|apply qm|apply qg|apply qh|apply qj|(apply qu;(iterate 3 exact rfl))|(apply qe;exact rfl;apply wv;exact cAo)|apply ji|apply q6|(refine qp Tryz.call62 (qfm st _ _ _ _ 0 1 0 _ _ rfl rfl rfl) ?_))
  exact qo rfl (yx rfl) ⟨rfl,yb _ _ _ _⟩
 ·rintro pre x rest _ hr ⟨q,hq,t,ext,rfl⟩
  have b9:b.length=pre.length+(rest.length+1):=by rw [hr];simp
  have c8:(b.map je)[pre.length]? = some (je x):=by rw [hr];simp
  have hxb:=hB x (by rw [hr];simp);have hxg:=hg x (by rw [hr];simp);obtain⟨g8,hfg⟩:=qd9 hxg;have s0:=qho pre (fun y hy=>hB y (by rw [hr];simp [hy])) (fun y hy=>hg y (by rw [hr];simp [hy]));have nj:=qm0 x hxb.id1 hxb.id2;have hfo:=qd7 x.fields hfg;have dk:=qjo (z0 x.fields);repeat' (first|apply qm|apply qt|apply qg|apply qh|apply ql|apply qj|(apply zp;exact rfl;exact rfl)|(apply qu;(iterate 3 exact rfl))|(apply qe;exact rfl;apply vk;exact cAo)|(apply qe;exact rfl;apply cd_f;exact cRa)|(apply kp;exact rfl;exact rfl;exact cOs)|(apply x3;exact rfl;exact rfl)|(apply jp;exact rfl;exact rfl)|(apply zh;(iterate 3 exact rfl))|(apply jh;(iterate 3 exact rfl))|(apply jc;(iterate 5 exact rfl))|(apply zz;(iterate 11 exact rfl))|(apply w9;(iterate 9 exact rfl))|apply qw|(apply qp;exact Tryz.call64;exact qrc _ _ g8 hfg)|(apply qp;exact Tryz.call66;exact zho _ _ hxb.id1 hxb.id2)|(apply qp;exact Tryz.call67;exact zbc _ _ _ (by omega) (by decide))|(apply j6 (n:=pre.length);(iterate 5 exact rfl);exact c8))
  refine qp Tryz.call65 (qgs st _ _ _ _ 0 1 0 _ _ _ rfl rfl ?_ ?_ rfl) ?_;(exact hq);(simp only [List.length_append,List.length_cons,List.length_nil];omega);repeat' (first|apply qg|apply qh|apply ql|(apply zn;exact rfl;exact rfl;exact zg (by omega) (by omega)))
  refine⟨_,.inr rfl,y3 ⟨rfl,rfl,rfl,?_,trivial⟩ ?_⟩
  ·rw [qbz pre x];rfl
  ·have e:encF (pre++[x])=encF pre++((ko x++[10])++xz [32,32] (z0 x.fields)):=by rw [qxy,qxz];rfl
   rw [e];rfl
theorem qmm (b:List qq) (st:List AObj) (e:ErrV) (hB:∀ x∈b,EdB x) (hl:b.length<9223372036854775808) (he:eErr b=e) (h0:e.code≠0):qn E 35 [jo b] st fun r st'=>r = .tu [Sv [],errA e]∧st'=st:=by
 refine zb (kw (q8 _) (va _)) (qr Tryz.func35 rfl (Nat.le_of_ble_eq_true rfl) ?_)
 cases e with
 |no=>exact absurd rfl h0
 |num n=>
  repeat' (first|apply qm|apply qg|apply qh|apply ql|apply qj|(apply qe;exact rfl;apply cd_t;exact cRa)|(apply yv;exact rfl;exact rfl)|apply q6|(apply qp;exact Tryz.call63;exact qkq _ _ _ he hB hl))
  exact qo rfl (yx rfl) ⟨rfl,_,rfl⟩
 |at' a n=>
  repeat' (first|apply qm|apply qg|apply qh|apply ql|apply qj|(apply qe;exact rfl;apply cd_t;exact cRa)|(apply yv;exact rfl;exact rfl)|apply q6|(apply qp;exact Tryz.call63;exact qkq _ _ _ he hB hl))
  exact qo rfl (yx rfl) ⟨rfl,_,rfl⟩
end Go.Proofs.YtapblfabkbdgcaaGreatDoor
namespace Go.Av
open Go Go.RowKit
theorem qp7 {b:Nat} {st l:List AObj} {sz:Nat} {T:TypeId} {xs:List AV} {c:AV} (h:TipO b st sz T xs c):TipO b (st++l) sz T xs c:=by
 rcases h with h|h
 ·exact .inl (qib h)
 ·exact .inr h
theorem q3g {b:Nat} {st st':List AObj} {sz:Nat} {T:TypeId} {xs:List AV} {c:AV} (hs:∀ (t m sz:Nat) (T:TypeId),st[t]? = some (AObj.tip m sz T)→st'[t]? = st[t]?) (h:TipO b st sz T xs c):TipO b st' sz T xs c:=by
 rcases h with (h | ⟨t,h1,h2,h3⟩)|h
 ·exact .inl (.inl h)
 ·exact .inl (.inr ⟨t,h1,(hs t _ _ _ h2).trans h2,h3⟩)
 ·exact .inr h
end Go.Av
namespace Go.Proofs.YtapblfabkbdgcaaGreatDoor
open Go Go.Av Go.RowKit Go.Proofs Go.Pl
theorem qfc {st l:List AObj}:st.length≤(st++l).length:=by simp
theorem qvs {b o:Nat} {st:List AObj} {sz:Nat} {T:TypeId} {xs:List AV} {c:AV} {x:AObj} (h:TipO b st sz T xs c) (hn:qh3 st[o]?):TipO b (st.set o x) sz T xs c:=
 q3g (fun t m sz T ht=>List.getElem?_set_ne (fun e=>by subst e;exact hn _ _ _ ht)) h
structure OutI (st:List AObj) (S:List AObj):Prop where
 low:∀ j,j<st.length→S[j]? = st[j]?
 len:st.length≤S.length
theorem OutI.pre {st S l:List AObj} (h:OutI st S):OutI st (S++l):=⟨fun j hj=>(List.getElem?_append_left (by have:=h.len;omega)).trans (h.low j hj),by have:=h.len;simp;omega⟩
theorem OutI.set {st S:List AObj} {o:Nat} {x:AObj} (h:OutI st S) (ho:st.length≤o):OutI st (S.set o x):=⟨fun j hj=>(qop (by omega)).trans (h.low j hj),by have:=h.len;simp;omega⟩
theorem OutI.fr {st S S':List AObj} {t:Nat} (h:OutI st S) (hf:Fr S S' t) (ht:st.length≤t):OutI st S':=⟨fun j hj=>(hf.same j (by omega) (by have:=h.len;omega)).trans (h.low j hj),Nat.le_trans h.len hf.len⟩
theorem OutI.ext {st S:List AObj} (h:OutI st S):∃ ext,S=st++ext:=qs9 h.low
theorem qbr {E:Env} {rd:Option Nat} {N:Nat} {ops:Array Oper} {K:AS→Prop} {s:AS} {rest:List Oper} {d:Option Tmp} {T:TypeId} {p:String} {af:Array Edge} {t e:TypeId} {len sz:Nat} {agg:Bool} {parts:Array (Nat×Operand)} {zs cs:List AV} {st:List AObj} (e7:s.st=st) (hu:E.P.underlying t=some (.slice e)) (ht:tyOf E.P e=some (sz,agg)) (hz:qdn E.P e len=some zs)
  (hf:qbw (fun i=>some (i * sz,sz)) zs (ve N s parts)=some cs) (f8:Nat.ble (len * sz) 16777216=true)
  (h:AOps E rd N ops rest K (AS.put ⟨s.t,st++[.cells 0 e cs],s.df⟩ d (.os st.length 0 0 len len))):AOps E rd N ops (⟨d,.buildSlice t len parts,T,p,af,none⟩::rest) K s:=
 ya (loc:=[]) (by rw [e7];simp) hu ht hz hf f8 h
theorem qfn (x:qq):qnk (je x):=fun y hy=>by
 simp only [AV.cells,List.mem_cons,List.not_mem_nil,or_false] at hy;rcases hy with rfl|rfl|rfl
 ·exact q8 _
 ·exact q8 _
 ·exact y4 _
theorem qb5 (b:List qq):Pure (jo b):=qb7 fun x hx=>by
 obtain⟨f,_,rfl⟩:=List.mem_map.1 hx;exact qfn f
theorem zbl {α β : Type} (g : α→β) (l:List α) (a : α):(l++[a]).map g=l.map g++[g a]:=by simp
def tryB (k:Int) (l:qc):Option Int:=if qac k <+: l then (match Lib.atoiAll (l.drop (qac k).length) with
 | .ok n=>some n
 | _=>none) else none
def begE (l:qc):Option (Int×Int):=match tryB 1 l with
 |some n=>some (1,n)
 |none=>match tryB 2 l with
  |some n=>some (2,n)
  |none=>match tryB 3 l with
   |some n=>some (3,n)
   |none=>none
def begA:Option (Int×Int)→AV
 |some (k,n)=>.tu [je ⟨k,n,[]⟩,Bv true]
 |none=>.tu [je ⟨0,0,[]⟩,Bv false]
theorem q6u (x:Option (Int×Int)):Pure (begA x):=by
 rcases x with _ | ⟨k,n⟩
 ·exact kw (qaq (qfn _)) (q8 _)
 ·exact kw (qaq (qfn _)) (q8 _)
theorem qvu (k n:Int):Weak (.ag [Iv k,Iv n,zx]) (je ⟨k,n,[]⟩):=
 zgp rfl fun i x y hx hy=>by
  match i with
  | 0=>simp at hx hy;subst hx;subst hy;exact qa6 _
  | 1=>simp at hx hy;subst hx;subst hy;exact qa6 _
  | 2=>simp at hx hy;subst hx;subst hy;exact qe2 2
  |i+3=>simp at hx
theorem q4i (l m:qc) (st:List AObj) (h:m <+: l):qn E 155 [Sv l,Sv m] st fun r st'=>r = .tu [Sv (l.drop m.length),Bv true]∧st'=st:=by
 have:=qjl l m st;rw [qdr h,(yy l m).2 h] at this;exact this
theorem q4j (l m d:qc) (st:List AObj) (h:m <+: l) (hd:l.drop m.length=d):qn E 155 [Sv l,Sv m] st fun r st'=>r = .tu [Sv d,Bv true]∧st'=st:=by
 subst hd;exact q4i l m st h
theorem q4h (l m:qc) (st:List AObj) (h:¬ m <+: l):qn E 155 [Sv l,Sv m] st fun r st'=>r = .tu [Sv l,Bv false]∧st'=st:=by
 have:=qjl l m st
 have hf:Lib.hasPrefix l m=false:=by
  cases hb:Lib.hasPrefix l m with
  |false=>rfl
  |true=>exact absurd ((yy l m).1 hb) h
 have ht:Lib.trimPrefix l m=l:=by
  unfold Lib.trimPrefix;rw [if_neg (by simp [hf])]
 rw [ht,hf] at this;exact this
theorem zd0 {l:qc} {k:Nat} {n:Int} (h1:1≤k) (h3:k≤3) (h:∀ j:Nat,1≤j→j<k→tryB j l=none) (hk:tryB k l=some n):begE l=some ((k:Int),n):=by
 have:k=1∨k=2∨k=3:=by omega
 rcases this with rfl|rfl|rfl
 ·have bw:tryB 1 l=some n:=hk
  simp [begE,bw]
 ·have e1:tryB 1 l=none:=h 1 (by omega) (by omega)
  have bw:tryB 2 l=some n:=hk;simp [begE,e1,bw]
 ·have e1:tryB 1 l=none:=h 1 (by omega) (by omega)
  have e2:tryB 2 l=none:=h 2 (by omega) (by omega);have bw:tryB 3 l=some n:=hk;simp [begE,e1,e2,bw]
theorem q6w {l:qc} (h:∀ j:Nat,1≤j→j<4→tryB j l=none):begE l=none:=by
 have e1:tryB 1 l=none:=h 1 (by omega) (by omega);have e2:tryB 2 l=none:=h 2 (by omega) (by omega);have e3:tryB 3 l=none:=h 3 (by omega) (by omega);simp [begE,e1,e2,e3]
theorem q93 {k:Nat} (h1:1≤k) (h3:k≤3):qa7 (k:Int)≠[]∧([32]++qa7 (k:Int))++[32]=qac (k:Int)∧(qa7 (k:Int)).length≤10:=by
 have:k=1∨k=2∨k=3:=by omega
 rcases this with rfl|rfl|rfl <;> decide
set_option maxHeartbeats 2000000 in
theorem zd2 (l:qc) (st:List AObj) (hl:l.length<1000000):qn E 113 [Sv l] st fun r st'=>r=begA (begE l)∧st'=st:=by
 refine zb (q6u _) (qr Tryz.func113 rfl (Nat.le_of_ble_eq_true rfl) ?_);repeat' (first|apply qm|apply qt|apply qg|apply qh|apply qj|(apply jp;exact rfl;exact rfl))
 refine jx (fun (k:Nat) s=>1≤k∧k≤4∧(∀ j:Nat,1≤j→j<k→tryB j l=none)∧StE [(0,Sv l),(2,.bx (st.length+0) 0 0),(4,Iv k)] st [.cells 0 55 [Iv 0,Iv 0,zx]] s) (fun k=>4 - k) 1 ⟨by omega,by omega,fun j h1 h2=>by omega,qb8 ⟨rfl,rfl,rfl,trivial⟩ rfl⟩ ?_;rintro k _ ⟨bw,hk4,pg,t,ext,rfl⟩;by_cases h4:k=4
 ·subst h4
  have hw:qa7 ((4:Nat):Int)=[]:=by decide
  rw [q6w pg];repeat' (first|apply qm|apply qg|apply qh|apply ql|apply qj|(apply vm;(iterate 3 exact rfl))|(apply qe;exact rfl;apply cd_f;exact cRa)|(apply qe4;(iterate 11 exact rfl))|(apply xh;(iterate 3 exact rfl))|apply ji|apply q6|(apply qp;exact Tryz.call103;exact qsq _ _))
  refine qo rfl (wp (qod rfl rfl rfl rfl rfl rfl) (qdz (qvu 0 0) (qa6 _))) ⟨rfl,yb _ _ _ _⟩
 ·obtain⟨hw,hm,hwl⟩:=q93 bw (by omega)
  by_cases hp:qac (k:Int) <+: l
  ·have sg:([32]++qa7 (k:Int))++[32] <+: l:=by rw [hm];exact hp
   obtain⟨d,hd0⟩:∃ d,d=l.drop (qac (k:Int)).length:=⟨_,rfl⟩;have hd:l.drop ((([32]:qc)++qa7 (k:Int))++[32]).length=d:=by rw [hm,hd0]
   have hdl:d.length<1000000:=by rw [hd0,List.length_drop];omega
   repeat' (first|apply qm|apply qt|apply qg|apply qh|apply ql|apply qj|(apply zp;exact rfl;exact rfl)|(apply vm;(iterate 3 exact rfl))|(apply qe;exact rfl;apply vk;exact cAo)|(apply kp;exact rfl;exact rfl;exact cOs)|apply qw|(apply qp;exact Tryz.call103;exact qsq _ _)|(apply qp;exact Tryz.call155;exact q4j _ _ _ _ sg hd))
   refine ql9 Tryz.call156 ((q6o d _ (by omega)).mono ?_);rintro _ _ ⟨rfl,n,x,rfl,hx⟩;rw [hd0] at hx;rcases x with _ | ⟨t',y⟩
   ·simp only at hx
    have htr:tryB (k:Int) l=some n:=by unfold tryB;rw [if_pos hp,hx]
    rw [zd0 bw (by omega) pg htr];repeat' (first|apply qm|apply qg|apply qh|apply ql|apply qj|(apply zp;exact rfl;exact rfl)|(apply zo;(iterate 4 exact rfl))|(apply qcl;exact cRa)|(apply q9;exact rfl;apply pk_t;exact cRa)|(apply qe;exact rfl;apply cd_t;exact cRa)|(apply qdo;exact rfl;exact rfl)|(apply qe4;(iterate 11 exact rfl))|(apply xh;(iterate 3 exact rfl))|apply q6)
    refine qo rfl (wp (qod rfl rfl rfl rfl rfl rfl) (qdz (qvu k n) (qa6 _))) ⟨rfl,yb _ _ _ _⟩
   ·simp only at hx
    have htr:tryB (k:Int) l=none:=by
     unfold tryB;rw [if_pos hp];split
     ·rename_i v hv;exact absurd hv (hx v)
     ·rfl
    repeat' (first|apply qm|apply qg|apply qh|apply ql|apply qj|(apply zp;exact rfl;exact rfl)|(apply zo;(iterate 4 exact rfl))|(apply qcl;exact cRa)|(apply q9;exact rfl;apply pk_t;exact cRa)|(apply qe;exact rfl;apply cd_f;exact cRa)|(apply zn;exact rfl;exact rfl;exact zg (by omega) (by omega))|(apply qaj;exact rfl;exact rfl)|apply qw)
    refine⟨k+1,⟨by omega,by omega,fun j h1 h2=>?_,y3 ⟨rfl,rfl,rfl,trivial⟩ rfl⟩,by omega⟩;by_cases hjk:j=k
    ·subst hjk;exact htr
    ·exact pg j h1 (by omega)
  ·have sg:¬ ([32]++qa7 (k:Int))++[32] <+: l:=by rw [hm];exact hp
   have htr:tryB (k:Int) l=none:=by unfold tryB;rw [if_neg hp]
   repeat' (first|apply qm|apply qt|apply qg|apply qh|apply ql|apply qj|(apply zp;exact rfl;exact rfl)|(apply vm;(iterate 3 exact rfl))|(apply qe;exact rfl;apply vk;exact cAo)|(apply kp;exact rfl;exact rfl;exact cOs)|apply qw|(apply qp;exact Tryz.call103;exact qsq _ _)|(apply qp;exact Tryz.call155;exact q4h _ _ _ sg))
   refine ql9 Tryz.call156 ((q6o l _ (by omega)).mono ?_);rintro _ _ ⟨rfl,n,x,rfl,hx⟩;rcases x with _ | ⟨t',y⟩
   all_goals
    repeat' (first|apply qm|apply qg|apply qh|apply ql|apply qj|(apply zp;exact rfl;exact rfl)|(apply zo;(iterate 4 exact rfl))|(apply qbp;exact cRa)|(apply q9;exact rfl;apply pk_f;exact cRa)|(apply qe;exact rfl;apply cd_f;exact cRa)|(apply zn;exact rfl;exact rfl;exact zg (by omega) (by omega))|apply qw)
    refine⟨k+1,⟨by omega,by omega,fun j h1 h2=>?_,y3 ⟨rfl,rfl,rfl,trivial⟩ rfl⟩,by omega⟩;by_cases hjk:j=k
    ·subst hjk;exact htr
    ·exact pg j h1 (by omega)
def yu (its:List za):List (List Fld):=(its.filter fun x=>decide (x.kind=3)).map za.fields
@[reducible] def xj (ls : List (List Fld)) : AV := .sl 1 (ls.map zl) none
theorem qg7 (ls:List (List Fld)):Pure (xj ls):=qb7 fun x hx=>by
 obtain⟨f,_,rfl⟩:=List.mem_map.1 hx;intro y hy;simp only [AV.cells,List.mem_cons,List.not_mem_nil,or_false] at hy;subst hy;exact y4 _
theorem q1p (l:List za) (x:za) (h:x.kind=3):yu (l++[x])=yu l++[x.fields]:=by simp [yu,h]
theorem q1q (l:List za) (x:za) (h:¬ x.kind=3):yu (l++[x])=yu l:=by simp [yu,h]
theorem zgk {b t1:Nat} {st st':List AObj} {sz:Nat} {T:TypeId} {xs:List AV} {c c0:AV} {sz0:Nat} {xs0:List AV} (hf:Fr st st' t1) (bv:c0 = .sl sz0 xs0 (some t1)∨st.length≤t1) (h0:∀ t,c0≠.sl sz0 xs0 (some t)) (h:TipO b st sz T xs c):TipO b st' sz T xs c:=
 q3g (fun t m sz T ht=>hf.same t (fun e=>by
  subst e;rcases bv with bv|bv
  ·exact h0 _ bv
  ·have:=lt_of_getElem? ht;omega) (lt_of_getElem? ht)) h
theorem zc4 {b t1:Nat} {st st':List AObj} {sz:Nat} {T:TypeId} {xs:List AV} {c:AV} {sz0:Nat} {xs0:List AV} {o v f l k:Nat} (hf:Fr st st' t1) (bv:AV.os o v f l k = .sl sz0 xs0 (some t1)∨st.length≤t1) (h:TipO b st sz T xs c):TipO b st' sz T xs c:=
 zgk hf bv (by simp) h
set_option maxHeartbeats 2000000 in
theorem q9o (its:List za) (st:List AObj) (hl:its.length<1000000) (hf:∀ x∈its,x.fields.length<1000000):qn E 158 [wy its] st fun r st'=>r=xj (yu its)∧st'=st:=by
 refine zb (qg7 _) (qr Tryz.func158 rfl (Nat.le_of_ble_eq_true rfl) ?_);have g9:(its.map vo).length=its.length:=by simp
 rw [List.append_nil];repeat' (first|apply qm|apply qt|apply qg|apply qh|apply ql|apply qj|(apply z6;(iterate 4 exact rfl)))
 refine qau its (fun pre s=>∃ c S,OutI st S∧TipO st.length S 1 53 ((yu pre).map zl) c∧StA [(3,c),(6,wy its),(7,Iv its.length),(8,Iv pre.length)] S [] s) ⟨_,st,⟨fun _ _=>rfl,Nat.le_refl _⟩,q0b ..,jg ⟨rfl,rfl,congrArg (fun n:Nat=>Iv (n:Int)) g9,rfl,trivial⟩⟩ ?_ ?_
 ·rintro _ ⟨c,S,hO,hT,t,rfl⟩
  repeat' (first|apply qm|apply qg|apply qh|apply ql|apply qj|(apply qu;(iterate 3 exact rfl))|(apply qe;exact rfl;apply wv;exact cAo)|apply ji|apply q6)
  exact qo rfl (wp (zf rfl) (qli hT)) ⟨rfl,hO.ext⟩
 ·rintro pre x rest _ hr ⟨c,S,hO,hT,t,rfl⟩
  have b9:its.length=pre.length+(rest.length+1):=by rw [hr];simp
  have c8:(its.map vo)[pre.length]? = some (vo x):=by rw [hr];simp
  have hxf:=hf x (by rw [hr];simp);have s0:(yu pre).length≤pre.length:=by unfold yu;rw [List.length_map];exact List.length_filter_le _ _
  have hSl:=hO.len;have hO1:OutI st ((S++[AObj.cells 0 107 [Iv 0,Sv [],zx]]).set S.length (.cells 0 107 (vo x).cells)):=hO.pre.set hSl;have hT1:TipO st.length ((S++[AObj.cells 0 107 [Iv 0,Sv [],zx]]).set S.length (.cells 0 107 (vo x).cells)) 1 53 ((yu pre).map zl) c:=qvs (qp7 hT) (yn wd);have t6:((S++[AObj.cells 0 107 [Iv 0,Sv [],zx]]).set S.length (.cells 0 107 (vo x).cells))[S.length]? = some (.cells 0 107 (vo x).cells):=j8 wd;by_cases h3:x.kind=3
  ·skip
   repeat' (first|(apply qbr (st:=(S++[AObj.cells 0 107 [Iv 0,Sv [],zx]]).set S.length (.cells 0 107 (vo x).cells));(iterate 6 exact rfl))|(apply q6i 19 rfl (qli g1);apply w9;(iterate 9 exact rfl))|apply qm|apply qt|apply qg|apply qh|apply ql|apply qj|(apply qu;(iterate 3 exact rfl))|(apply qe;exact rfl;apply vk;exact cAo)|(apply zn;exact rfl;exact rfl;exact zg (by omega) (by omega))|(apply zh;(iterate 3 exact rfl))|(apply jh;(iterate 3 exact rfl))|apply qw|(apply ka;exact rfl;exact t6;exact rfl;exact rfl)|(apply ka;exact rfl;exact qbc t6;exact rfl;exact rfl)|(apply qjh (st:=S);exact rfl;exact rfl)|(apply x4;exact rfl;exact rfl;(focus first|assumption|(repeat' (first|assumption|exact wd|exact jl rfl|apply j8|apply km|omega|apply qbc)));(iterate 6 exact rfl))|(apply j6 (n:=pre.length);(iterate 5 exact rfl);exact c8)|(apply qhj (b:=st.length) (xs:=[]) (ys:=x.fields.map fldA) (bytes:=32);(iterate 5 exact rfl);exact⟨⟨_,_,rfl,rfl,rfl,rfl,rfl⟩⟩;exact q3h _ _ _ _ _ _ _;(exact Nat.le_trans hO1.len qfc);(first|exact rfl|exact qbq fun _=>rfl);((simp [maxLen];omega));((simp;omega));intro c1 S1 t1 g1 g2 g3 g4)|(apply qhj (b:=st.length) (xs:=(yu pre).map zl) (ys:=[zl x.fields]) (bytes:=24);(iterate 5 exact rfl);exact⟨⟨_,_,rfl,rfl,rfl,rfl,rfl⟩⟩;exact zc4 g2 g4 (qp7 hT1);(exact (hO1.pre.fr g2 g3).len);(first|exact rfl|exact qbq fun _=>rfl);((simp [maxLen];omega));((simp;omega));intro c2 S2 t2 k1 k2 k3 k4))
   exact⟨c2,S2,(hO1.pre.fr g2 g3).fr k2 k3,by rw [q1p _ _ h3,zbl];exact k1,jg ⟨rfl,rfl,rfl,qfb pre x,trivial⟩⟩
  ·skip
   repeat' (first|apply qm|apply qt|apply qg|apply qh|apply ql|(apply qu;(iterate 3 exact rfl))|(apply qe;exact rfl;apply vk;exact cAo)|(apply qe;exact rfl;apply wv;exact cAo)|(apply zn;exact rfl;exact rfl;exact zg (by omega) (by omega))|(apply zh;(iterate 3 exact rfl))|(apply jh;(iterate 3 exact rfl))|apply qw|(apply ka;exact rfl;exact t6;exact rfl;exact rfl)|(apply qjh (st:=S);exact rfl;exact rfl)|(apply x4;exact rfl;exact rfl;(focus first|assumption|(repeat' (first|assumption|exact wd|exact jl rfl|apply j8|apply km|omega|apply qbc)));(iterate 6 exact rfl))|(apply j6 (n:=pre.length);(iterate 5 exact rfl);exact c8))
   exact⟨c,_,hO1,by rw [q1q _ _ h3];exact hT1,jg ⟨rfl,rfl,rfl,qfb pre x,trivial⟩⟩
end Go.Proofs.YtapblfabkbdgcaaGreatDoor
