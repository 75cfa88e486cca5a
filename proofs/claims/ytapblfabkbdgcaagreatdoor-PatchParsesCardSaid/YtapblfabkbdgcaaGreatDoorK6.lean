/- Contracts and plain facts that the closing text leans on (part 6). No condition of their own beyond those that each states. -/
import Derived.Test.YtapblfabkbdgcaaGreatDoorK5
import Derived.Laws.StructEq
import Derived.Laws.MakeOwn
import Derived.LaidEql
import Derived.Stop.Asserts
import Derived.RowKitTokens
import Derived.Lib.IfaceEq
set_option maxRecDepth 100000
set_option linter.unusedVariables false
set_option linter.unusedSimpArgs false
namespace Go.Av
open Go Go.RowKit
theorem zes {l m:List AV} (hl:l.length=m.length) (h:∀ (i:Nat) (x y:AV),l[i]? = some x→m[i]? = some y→Wk x y):Wk (.pp l) (.pp m):=fun G v hr=>by
 cases hr with
 |pp _ b off pub hp c8 hr=>
  refine .pp m b off pub hp (by omega) fun i y z hy hz=>?_;have hi:i<l.length:=by have:=lt_of_getElem? hy;omega
  have hx:l[i]? = some l[i]:=List.getElem?_eq_getElem hi;exact h i _ y hx hy G z (hr i _ z hx hz)
theorem qys {E:Env} {fn:Func} {R:AV→List AObj→Prop} {s:AS} {d o ver:Nat} {T:TypeId} {cs xs:List AV} (hi:s.t d = .bx o ver 0) (ho:s.st[o]? = some (.cells ver T cs)) (hw:Wk (.pp cs) (.pp xs))
  (h:ARet E fn R ⟨Av.put s.t d (.pp xs),s.st.set o .dead,s.df⟩):ARet E fn R s:=
 ⟨fun B0 w0 G a w hL hI R2 hR=>by
  obtain⟨G1,h1,h2⟩:=hI.pub hi ho;refine h.run B0 w0 G1 a w hL ⟨h2.agree,h2.defers,h2.size,fun j y hy=>?_⟩ R2 fun v G' r st' w' hG=>hR v G' r st' w' (h1.trans hG);have hj:=h2.tmps j y hy;by_cases e:j=d
  ·subst e
   simp only [wi] at hj ⊢;exact hw G1 y hj
  ·simp only at hj ⊢
   rw [yh _ _ _ _ e] at hj ⊢
   exact hj⟩
theorem q75 {E:Env} {fn:Func} {R:AV→List AObj→Prop} {s:AS} {d o ver o2 ver2 sz cap:Nat} {T T2:TypeId} {cs xs ys pad:List AV} (hi:s.t d = .bx o ver 0) (ho:s.st[o]? = some (.cells ver T cs)) (bj:s.st[o2]? = some (.cells ver2 T2 (flat ys++pad))) (b8:o≠o2) (hw:∀ y∈ys,y.cells.length=sz) (hc:ys.length≤cap) (hl:cs.length=xs.length)
  (hx:∀ (i:Nat) (x y:AV),cs[i]? = some x→xs[i]? = some y→Wk x y∨(x = .os o2 ver2 0 ys.length cap∧y = .sl sz ys none)) (h:ARet E fn R ⟨Av.put s.t d (.pp xs),(s.st.set o .dead).set o2 .dead,s.df⟩):ARet E fn R s:=
 ⟨fun B0 w0 G a w hL hI R2 hR=>by
  obtain⟨G1,h1,h2⟩:=hI.pub hi ho;have td:(s.st.set o .dead)[o2]? = some (.cells ver2 T2 (flat ys++pad)):=(List.getElem?_set_ne b8).trans bj;obtain⟨vs,d5,hA,hv,hp,ck,hr⟩:=h2.agree.pubOb td;refine h.run B0 w0 _ a w hL ⟨hA,h2.defers_mono d5,h2.size,fun j y hy=>?_⟩ R2 fun v G' r st' w' hG=>hR v G' r st' w' (h1.trans (d5.trans hG));have hj:=(h2.tmps j y hy).mono d5;by_cases e:j=d
  ·subst e
   simp only [wi] at hj ⊢
   cases hj with
   |pp _ b off pub hp2 c8 f0=>
    refine .pp xs b off pub hp2 (by omega) fun i z u hz hu=>?_;have hi:i<cs.length:=by have:=lt_of_getElem? hz;omega
    have hg:cs[i]? = some cs[i]:=List.getElem?_eq_getElem hi;have dk:=f0 i _ u hg hu;rcases hx i _ z hg hz with hw1 | ⟨e1,rfl⟩
    ·exact hw1 _ _ dk
    ·rw [e1] at dk
     cases dk with
     |os _ _ _ _ bl _ hn r7 hb=>
      have hb:=hb hv;subst hb;refine .sl sz ys none _ 0 cap vs hp hw (by rw [← ck];simp) (fun k x y g1 g2=>hr k x y (by rw [List.getElem?_append_left (lt_of_getElem? g1)];exact g1) (by simpa using g2)) (fun t ht=>by simp at ht) hc
  ·simp only at hj ⊢
   rw [yh _ _ _ _ e] at hj ⊢
   exact hj⟩
theorem zey {E:Env} {fn:Func} {R:AV→List AObj→Prop} {s:AS} {d o ver sz cap:Nat} {T:TypeId} {ys pad:List AV} (hi:s.t d = .os o ver 0 ys.length cap) (ho:s.st[o]? = some (.cells ver T (flat ys++pad))) (hw:∀ y∈ys,y.cells.length=sz) (hc:ys.length≤cap)
  (h:ARet E fn R ⟨Av.put s.t d (.sl sz ys none),s.st.set o .dead,s.df⟩):ARet E fn R s:=
 ⟨fun B0 w0 G a w hL hI R2 hR=>by
  obtain⟨G1,h1,h2⟩:=hI.osPub (xs:=ys) (sz:=sz) hi ho rfl hc hw (by rw [List.length_append,zo hw];omega) (by rw [List.drop_zero,← zo hw,List.take_left])
  exact h.run B0 w0 G1 a w hL h2 R2 fun v G' r st' w' hG=>hR v G' r st' w' (h1.trans hG)⟩
def q90 (H:Nat→Option SR):SV→Option (Nat×Nat×List AV)
 | .tp k=>(match H k with
  |some (.own sz _ ys)=>some (k,sz,ys)
  | _=>none)
 | _=>none
def qsx (H:Nat→Option SR):List SV→Option (Nat×Nat×List AV)
 | []=>none
 |c::r=>(match q90 H c with
  |some x=>some x
  |none=>qsx H r)
theorem q0o {H:Nat→Option SR} {j sz:Nat} {ys:List AV}:∀ {cs:List SV},qsx H cs=some (j,sz,ys)→∃ T,H j=some (.own sz T ys)
 | [],h=>by simp [qsx] at h
 |c::r,h=>by
  simp only [qsx] at h;split at h
  ·rename_i x hx
   simp only [Option.some.injEq] at h;subst h;unfold q90 at hx;split at hx
   ·split at hx
    ·rename_i hk
     simp only [Option.some.injEq,Prod.mk.injEq] at hx;obtain⟨rfl,rfl,rfl⟩:=hx;exact⟨_,hk⟩
    ·simp at hx
   ·simp at hx
  ·exact q0o (cs:=r) h
def frzJ (H:Nat→Option SR) (j sz:Nat) (ys:List AV):List SV→Option (List AV)
 | []=>some []
 |c::r=>(match (match c with
   | .tp k=>bif Nat.beq k j then some (.sl sz ys none) else frz H (.tp k)
   |c=>frz H c),frzJ H j sz ys r with
  |some x,some l=>some (x::l)
  | _,_=>none)
theorem q39 {S:List AObj} {ρ : Nat→AV} {H:Nat→Option SR} (hS:SatF S ρ H) {j sz:Nat} {ys:List AV}:∀ (cs:List SV) (xs:List AV),frzJ H j sz ys cs=some xs→(SV.evs ρ cs).length=xs.length∧∀ (i:Nat) (x y:AV),(SV.evs ρ cs)[i]? = some x→xs[i]? = some y→Wk x y∨(x=tpAt (ρ j)∧y = .sl sz ys none)
 | [],xs,h=>by simp only [frzJ,Option.some.injEq] at h;subst h;exact⟨rfl,by simp [SV.evs]⟩
 |c::r,xs,h=>by
  simp only [frzJ] at h;split at h
  ·rename_i x l h1 h2
   simp only [Option.some.injEq] at h;subst h;obtain⟨g1,g2⟩:=q39 hS r l h2;refine⟨by simp [SV.evs,g1],fun i a b ha hb=>?_⟩
   cases i with
   |zero=>
    simp only [SV.evs,List.getElem?_cons_zero,Option.some.injEq] at ha hb;subst ha;subst hb;split at h1
    ·rename_i k
     cases hkj:Nat.beq k j with
     |true=>
      rw [hkj] at h1;simp only [cond_true,Option.some.injEq] at h1;rw [Nat.eq_of_beq_eq_true hkj]
      exact .inr ⟨rfl,h1.symm⟩
     |false=>
      rw [hkj] at h1;exact .inl (qgn hS _ _ h1)
    ·exact .inl (qgn hS _ _ h1)
   |succ i=>exact g2 i a b (by simpa [SV.evs] using ha) (by simpa using hb)
  ·simp at h
def pubK (k:Conf→Prop):List ResultVar→Conf→Prop
 | [],C=>k C
 | .tmp t::r,C=>(match lkS C.sl t with
  |some (.bx b 0)=>(match hpF C.hp b with
   |some (.cells _ cs)=>(match qsx (hpF C.hp) cs with
    |some (j,sz,ys)=>(match frzJ (hpF C.hp) j sz ys cs with
     |some xs=>pubK k r ⟨(t,.a (.pp xs))::C.sl,(j,none)::(b,none)::C.hp,C.nx⟩
     |none=>pubK k r C)
    |none=>(match frzs (hpF C.hp) cs with
     |some xs=>pubK k r ⟨(t,.a (.pp xs))::C.sl,(b,none)::C.hp,C.nx⟩
     |none=>pubK k r C))
   | _=>pubK k r C)
  |some (.tp b)=>(match hpF C.hp b with
   |some (.own sz _ ys)=>pubK k r ⟨(t,.a (.sl sz ys none))::C.sl,(b,none)::C.hp,C.nx⟩
   | _=>pubK k r C)
  | _=>pubK k r C)
 | _::r,C=>pubK k r C
theorem SatR.drop {S0:List AObj} {F:Nat→Prop} {C:Conf} {ρ t:Nat→AV} {S:List AObj} (h:SatR S0 F C ρ t S) {b o:Nat} {q:SR} (hb:hpF C.hp b=some q) (ho:∀ o',zl (ρ b)=some o'→o'=o) (hd:zl (ρ b)=some o∨S.set o .dead=S) :
  SatR S0 F ⟨C.sl,(b,none)::C.hp,C.nx⟩ ρ t (S.set o .dead):=by
 have c9:∀ k r,hpF ((b,none)::C.hp) k=some r→k≠b∧hpF C.hp k=some r:=fun k r hk=>by
  unfold hpF at hk ⊢;simp only [lkS] at hk;by_cases e:b=k
  ·subst e;simp at hk
  ·rw [jb e] at hk
   exact⟨fun h=>e h.symm,hk⟩
 rcases hd with hd|hd
 ·refine⟨h.sl,⟨fun k r hk=>?_,fun k k' r r' b8 hk m0=>h.hp.sep k k' r r' b8 (c9 k r hk).2 (c9 k' r' m0).2⟩,fun k r hk=>h.own k r (c9 k r hk).2,fun j hj hF=>?_,by simpa using h.len,h.wsl,fun k r hk=>h.whp k r (c9 k r hk).2⟩
  ·obtain⟨b8,hk⟩:=c9 k r hk
   refine SR.ok_of (f:=fun _=>true) (SR.all_mono (fun _ _=>rfl) r (h.whp k r hk).2) (fun _ _=>rfl) (h.hp.ok k r hk) fun j hj=>?_;have:o≠j:=fun e=>h.hp.sep b k _ r (fun e=>b8 e.symm) hb hk o hd (e▸hj);rw [List.getElem?_set_ne this]
  ·have:o≠j:=fun e=>by
    rcases h.own b _ hb o hd with g|g
    ·omega
    ·exact hF (e▸g)
   rw [List.getElem?_set_ne this];exact h.low j hj hF
 ·rw [hd]
  exact⟨h.sl,⟨fun k r hk=>h.hp.ok k r (c9 k r hk).2,fun k k' r r' b8 hk m0=>h.hp.sep k k' r r' b8 (c9 k r hk).2 (c9 k' r' m0).2⟩,fun k r hk=>h.own k r (c9 k r hk).2,h.low,h.len,h.wsl,fun k r hk=>h.whp k r (c9 k r hk).2⟩
theorem SatR.slot {S0:List AObj} {F:Nat→Prop} {C:Conf} {ρ t:Nat→AV} {S:List AObj} (h:SatR S0 F C ρ t S) (d:Nat) {y:AV}:SatR S0 F ⟨(d,.a y)::C.sl,C.hp,C.nx⟩ ρ (Av.put t d y) S:=by
 refine⟨fun x v hx=>?_,h.hp,h.own,h.low,h.len,fun x v hx=>?_,h.whp⟩
 ·simp only [lkS] at hx
  by_cases e:d=x
  ·subst e
   simp at hx;subst hx;exact wi _ _ _
  ·rw [jb e] at hx
   simp only [cond_false] at hx;exact (yh _ _ _ _ (fun h=>e h.symm)).trans (h.sl x v hx)
 ·simp only [lkS] at hx
  by_cases e:d=x
  ·subst e
   simp at hx;subst hx;rfl
  ·rw [jb e] at hx
   exact h.wsl x v hx
theorem SatR.pub {S0:List AObj} {F:Nat→Prop} {C:Conf} {ρ t:Nat→AV} {S:List AObj} (h:SatR S0 F C ρ t S) {d b o:Nat} {T:TypeId} {cs:List SV} {xs:List AV} (hb:hpF C.hp b=some (.cells T cs)) (ho:zl (ρ b)=some o) :
  SatR S0 F ⟨(d,.a (.pp xs))::C.sl,(b,none)::C.hp,C.nx⟩ ρ (Av.put t d (.pp xs)) (S.set o .dead):=
 (h.drop hb (fun o' d7=>by rw [ho] at d7;simpa using d7.symm) (.inl ho)).slot d
theorem zez {E:Env} {fn:Func} {R:AV→List AObj→Prop} {s:AS} {d:Nat} {x r:AV} (hi:s.t d=x) (hw:Wk x r) (h:ARet E fn R ⟨Av.put s.t d r,s.st,s.df⟩):ARet E fn R s:=
 ⟨fun B0 w0 G a w hL hI R2 hR=>h.run B0 w0 G a w hL ⟨hI.agree,hI.defers,hI.size,fun j y hy=>by
  have hj:=hI.tmps j y hy;by_cases e:j=d
  ·subst e
   simp only [wi];rw [hi] at hj;exact hw G y hj
  ·simp only
   rw [yh _ _ _ _ e]
   exact hj⟩ R2 hR⟩
theorem qau {E:Env} {fn:Func} {R:AV→List AObj→Prop} {S0:List AObj} {F:Nat→Prop} {ρ : Nat→AV} {k:Conf→Prop} (hk:∀ C t S,k C→SatR S0 F C ρ t S→ARet E fn R ⟨t,S,[]⟩):∀ {l:List ResultVar} {C:Conf} {t:Nat→AV} {S:List AObj},pubK k l C→SatR S0 F C ρ t S→ARet E fn R ⟨t,S,[]⟩
 | [],C,t,S,h,hR=>hk C t S h hR
 | .cell _ _::r,C,t,S,h,hR=>qau hk (l:=r) h hR
 | .tmp d::r,C,t,S,h,hR=>by
  simp only [pubK] at h;split at h
  ·rename_i b hd
   split at h
   ·rename_i T cs hb
    obtain⟨o,v,e1,e2,e3⟩:=hR.hp.ok b _ hb;have ht:=hR.sl d _ hd;simp only [SV.ev,e1,bxAt] at ht;split at h
    ·rename_i j sz ys hj
     split at h
     ·rename_i xs hx
      obtain⟨T2,hj⟩:=q0o hj;obtain⟨w1,w2⟩:=q39 hR.hp cs xs hx;have hbj:b≠j:=fun e=>by subst e;rw [hb] at hj;simp at hj
      have hP:=hR.pub (d:=d) (xs:=xs) hb (by rw [e1];rfl)
      have hj2:hpF ((b,none)::C.hp) j=some (.own sz T2 ys):=by
       unfold hpF at hj ⊢;simp only [lkS,jb hbj,cond_false];exact hj
      rcases hR.hp.ok j _ hj with⟨rfl,f1⟩ | ⟨o2,ver2,cap,pad,f1,f2,f3,f4,f5,f6⟩
      ·refine qys ht e2 (zes w1 fun i x y hx hy=>?_) (qau hk (l:=r) h ?_)
       ·rcases w2 i x y hx hy with g | ⟨g1,g2⟩
        ·exact g
        ·subst g1 g2
         unfold tpAt;rw [f1.one];exact f1.wk sz
       ·have:=hP.drop (o:=S.length) hj2 (fun o' d7=>by rw [f1.loc] at d7;simp at d7) (.inr (List.set_eq_of_length_le (by simp)))
        rwa [List.set_eq_of_length_le (by simp)] at this
      ·have b8:o≠o2:=fun e=>hR.hp.sep b j _ _ hbj hb hj o (by rw [e1];rfl) (by rw [f1,e];rfl)
       refine q75 ht e2 f2 b8 f4 f5 w1 (fun i x y hx hy=>?_) (qau hk (l:=r) h (hP.drop hj2 (fun o' d7=>?_) (.inl (by rw [f1];rfl))))
       ·rcases w2 i x y hx hy with g | ⟨g1,g2⟩
        ·exact .inl g
        ·exact .inr ⟨by rw [g1,f1];rfl,g2⟩
       ·rw [f1] at d7
        simpa [zl] using d7.symm
     ·exact qau hk (l:=r) h hR
    ·split at h
     ·rename_i xs hx
      obtain⟨w1,w2⟩:=qep hR.hp cs xs hx;exact qys ht e2 (zes w1 w2) (qau hk (l:=r) h (hR.pub hb (by rw [e1];rfl)))
     ·exact qau hk (l:=r) h hR
   ·exact qau hk (l:=r) h hR
  ·rename_i b hd
   split at h
   ·rename_i sz T ys hb
    have ht:=hR.sl d _ hd;have hok:=hR.hp.ok b _ hb;simp only [SV.ev,qc6 hok] at ht;rcases hok with⟨rfl,f1⟩ | ⟨o,ver,cap,pad,f1,f2,f3,f4,f5,f6⟩
    ·have hP:=hR.drop (o:=S.length) hb (fun o' d7=>by rw [f1.loc] at d7;simp at d7) (.inr (List.set_eq_of_length_le (by simp)))
     rw [List.set_eq_of_length_le (by simp)] at hP;exact zez ht (f1.wk sz) (qau hk (l:=r) h (hP.slot d))
    ·rw [f1] at ht
     have hP:=hR.drop (o:=o) hb (fun o' d7=>by rw [f1] at d7;simpa [zl] using d7.symm) (.inl (by rw [f1];rfl));exact zey ht f2 f4 f5 (qau hk (l:=r) h (hP.slot d))
   ·exact qau hk (l:=r) h hR
  ·exact qau hk (l:=r) h hR
def retP (P:Program) (fn:Func) (r0:AV) (e:Exit) (C:Conf):Prop:=
 match e with
 | .normal=>pubK (fun C=>ansW P fn C fun y=>Tl y r0) fn.results.toList C
 | .ret=>pubK (fun C=>ansW P fn C fun y=>Tl y r0) fn.results.toList C
 | _=>False
theorem qlu {E:Env} {f:FuncId} {fn:Func} {c:Code} {args:List AV} {st:List AObj} {r0:AV} (vs:List SV) (hp:Pure r0) (hf:E.P.funcs[f]? = some fn) (hb:fn.body=some c) (hn:Nat.ble args.length fn.ntmps=true) (hv:∀ ρ,SV.evs ρ vs=args) (hc:okC ⟨je 0 vs,[],0⟩=true)
  (h:∀ S0,numK 0 vs fun sl=>Sm E none fn.ntmps ⟨S0,fun _=>False,fun _=>zy,0,False⟩ c (retP E.P fn r0) ⟨sl,[],0⟩):qo E f args st fun r st'=>r=r0∧st'=st:=by
 simp only [qoi] at h;refine ze hp (qr hf hb (Nat.le_of_ble_eq_true hn) ?_)
 have d8:SatC ⟨st++[],fun _=>False,fun _=>zy,0,False⟩ ⟨je 0 vs,[],0⟩ ⟨argT args,st++[],[]⟩:=by
  refine⟨fun _=>zy,⟨nofun,List.nodup_nil,fun _ _=>rfl,Nat.le_refl _,nofun⟩,⟨fun d v hd=>?_,⟨fun k r hk=>?_,fun k k' r r' _ hk=>?_⟩,fun k r hk=>?_,fun _ _ _=>rfl,Nat.le_refl _,fun d v hd=>?_,fun k r hk=>?_⟩⟩
  ·obtain⟨j,h1,h2⟩:=qcz hd
   have:args[j]? = some (v.ev fun _=>zy):=by rw [← hv fun _=>zy,km,List.getElem?_map,h2];rfl
   rw [h1,Nat.zero_add];simp only [argT,List.getD,this,Option.getD_some]
  ·simp [hpF,lkS] at hk
  ·simp [hpF,lkS] at hk
  ·simp [hpF,lkS] at hk
  ·simp only [okC,Bool.and_eq_true] at hc
   exact List.all_eq_true.1 hc.1 _ (va hd)
  ·simp [hpF,lkS] at hk
 refine ((h (st++[])).run _ d8).mono fun e s' ⟨C',hq,bz⟩=>?_;obtain⟨t,S,df⟩:=s';obtain⟨ρ,g7,hR⟩:=bz;simp only at g7 hR
 have fin:pubK (fun C=>ansW E.P fn C fun y=>Tl y r0) fn.results.toList C'→ARet E fn (fun r st2=>r=r0∧∃ ext,st2=st++ext) ⟨t,S,df⟩:=fun h=>by
  refine qg9 hR (fun x hx=>g7.dm x hx) g7.nd fun S' ln=>?_;refine qau (fun C t S h ln=>?_) h ln;obtain⟨y,h1,h2⟩:=q3r ln h;refine qn rfl (wu h1 h2.ok) ⟨rfl,?_⟩;have hl:=ln.len;rw [List.append_nil] at hl
  exact qk7 hl fun k hk=>by
   have:=ln.low k (by simpa using hk) (fun h=>h);rw [List.append_nil] at this;exact this
 cases e with
 |normal=>exact fin hq
 |ret=>exact fin hq
 | _=>exact hq.elim
section
variable {E : Env} {N : Nat} {ops : Array Oper} {nx : Nat} {sl : List (Nat × SV)} {H : Nat → Option SR} {k : Ef → Prop} {d : Option Tmp} {T : TypeId} {p : String} {af : Array Edge}
theorem qbm {t e e':TypeId} {x y:Operand} {b sz i:Nat} {agg:Bool} {xs:List AV} {kd:IntKind} {v:SV} (hx:sval N sl x=some (.tp b)) (hH:H b=some (.own sz e xs)) (hy:sval N sl y=some v) (hv:qan v=some (kd,(i:Int))) (he:elT (E.P.underlying t)=some e') (ht:tyOf E.P e'=some (sz,agg)) (hi:i<xs.length)
  (h:k ⟨.bx b (0+i * sz),[b],[],nx⟩):∃ e,Loc E N ops ⟨d,.indexAddr t x y,T,p,af,none⟩ nx sl H e∧k e:=by
 refine⟨_,xp (v:=.bx b (0+i * sz)) fun df rd K rest ρ t' S hs hS hk=>?_,h⟩;rcases hS.ok b _ ((wx b).trans hH) with⟨rfl,_⟩ | ⟨o,ver,cap,pad,e1,e2,_⟩
 ·simp at hi
 ·refine qg3 (o:=o) (ver:=ver) (off:=0) (len:=xs.length) (cp:=cap+1) ((qv hs hx).trans (by simp [SV.ev,e1,tpAt,AV.one])) ((qv hs hy).trans (xo hv ρ)) (ww he) ht rfl hi ?_
  simpa only [SV.ev,e1,bxAt] using hk
theorem qvx {sz i j sz':Nat} {agg:Bool} {xs pad:List AV} {z r:AV} (hw:∀ x∈xs,x.cells.length=sz) (hz:xs[i]? = some z) (hr:js sz' agg j z.cells=some r) (hj:j+sz'≤sz) (h1:agg=false→0<sz'):js sz' agg (0+i * sz+j) (flat xs++pad)=some r:=by
 have hg:=q43 (pad:=pad) hw hz;have gp:=hw z (List.mem_of_getElem? hz)
 have c8:i * sz+sz≤(flat xs++pad).length:=by
  have:=congrArg List.length hg;simp only [List.length_take,List.length_drop] at this;have h1:i * sz≤xs.length * sz:=Nat.mul_le_mul_right _ (by have:=lt_of_getElem? hz;omega);have h2:(flat xs++pad).length=xs.length * sz+pad.length:=by rw [List.length_append,zo hw]
  omega
 unfold js at hr ⊢;rw [Nat.zero_add]
 cases agg with
 |true=>
  simp only [cond_true] at hr ⊢;have b1:Nat.ble (i * sz+j+sz') (flat xs++pad).length=true:=Nat.ble_eq_true_of_le (by omega);have b2:Nat.ble (j+sz') z.cells.length=true:=Nat.ble_eq_true_of_le (by omega);rw [b2] at hr;rw [b1];simp only [cond_true] at hr ⊢;rw [← hr,← hg];congr 2;apply List.ext_getElem?;intro q;simp only [List.getElem?_take,List.getElem?_drop];by_cases hq:q<sz'
  ·rw [if_pos hq,if_pos hq,if_pos (by omega)]
   congr 1;omega
  ·rw [if_neg hq,if_neg hq]
 |false=>
  simp only [cond_false] at hr ⊢;have:=h1 rfl;rw [← hr,← hg,List.getElem?_take_of_lt (by omega),List.getElem?_drop]
theorem qc0 {t e:TypeId} {x:Operand} {b off sz i j sz':Nat} {agg:Bool} {xs:List AV} {z r:AV} (hx:sval N sl x=some (.bx b off)) (hH:H b=some (.own sz e xs)) (ht:tyOf E.P t=some (sz',agg)) (ho:off=0+i * sz+j) (hz:xs[i]? = some z) (hr:js sz' agg j z.cells=some r) (hj:(Nat.ble (j+sz') sz && (agg ||Nat.blt 0 sz'))=true)
  (h:k ⟨nf r,[b],[],nx⟩):∃ e,Loc E N ops ⟨d,.load t x,T,p,af,none⟩ nx sl H e∧k e:=by
 simp only [Bool.and_eq_true,Bool.or_eq_true] at hj;refine⟨_,xp (v:=nf r) fun df rd K rest ρ t' S hs hS hk=>?_,h⟩;rcases hS.ok b _ ((wx b).trans hH) with⟨rfl,_⟩ | ⟨o,ver,cap,pad,e1,e2,e3,e4,_⟩
 ·simp at hz
 ·subst ho
  refine kf (o:=o) (ver:=ver) (off:=0+i * sz+j) ((qv hs hx).trans (by simp only [SV.ev,e1,bxAt])) e2 ht (qvx e4 hz hr (Nat.le_of_ble_eq_true hj.1) fun e=>?_) (by rw [← qln ρ r];exact hk);rcases hj.2 with h|h
  ·rw [e] at h;simp at h
  ·exact kz h
theorem qte (A Z B us:List AV) (j:Nat) (h:j+us.length≤Z.length):zr (A++Z++B) (A.length+j) us=A++zr Z j us++B:=by
 unfold zr;rw [List.append_assoc A Z B,List.take_length_add_append,List.take_append_of_le_length (by omega),Nat.add_assoc,List.drop_length_add_append,List.drop_append_of_le_length (by omega)];simp
theorem qr3 {sz i j:Nat} {xs pad us:List AV} {z z':AV} (hw:∀ x∈xs,x.cells.length=sz) (hz:xs[i]? = some z) (bd:z'.cells=zr z.cells j us) (hj:j+us.length≤sz):zr (flat xs++pad) (0+i * sz+j) us=flat (xs.set i z')++pad∧z'.cells.length=sz:=by
 have gp:=hw z (List.mem_of_getElem? hz);have hl:z'.cells.length=sz:=by rw [bd];simp [zr];omega
 have hi:=lt_of_getElem? hz;refine⟨?_,hl⟩;rw [← qp7 hw hl hi];have hg:=q43 (pad:=pad) hw hz
 have hA:((flat xs++pad).take (i * sz)).length=i * sz:=by
  have h1:i * sz≤xs.length * sz:=Nat.mul_le_mul_right _ (by omega);rw [List.length_take,List.length_append,zo hw];omega
 generalize flat xs++pad=cs at hg hA
 have nq:cs=cs.take (i * sz)++z.cells++(cs.drop (i * sz)).drop sz:=by
  rw [← hg,List.append_assoc,List.take_append_drop,List.take_append_drop]
 have e1:=qte (cs.take (i * sz)) z.cells ((cs.drop (i * sz)).drop sz) us j (by omega);have e2:=qte (cs.take (i * sz)) z.cells ((cs.drop (i * sz)).drop sz) z'.cells 0 (by omega);rw [hA,← nq] at e1 e2
 have e3:zr z.cells 0 z'.cells=z'.cells:=by
  unfold zr;rw [Nat.zero_add,List.drop_eq_nil_of_le (by omega)];simp
 rw [Nat.add_zero,e3] at e2;rw [Nat.zero_add,e1,e2,bd]
theorem qji {t e:TypeId} {x y:Operand} {b off sz i j sz':Nat} {agg:Bool} {xs:List AV} {z z' u:AV} {v:SV} (hx:sval N sl x=some (.bx b off)) (hy:sval N sl y=some v) (hv:∀ ρ,v.ev ρ = u) (hH:H b=some (.own sz e xs)) (ht:tyOf E.P t=some (sz',agg)) (ho:off=0+i * sz+j) (hz:xs[i]? = some z) (bd:z'.cells=zr z.cells j u.cells)
  (hj:(u.okc && Nat.beq u.cells.length sz' && jr u.cells && Nat.ble (j+sz') sz)=true) (h:k ⟨.a (.v undef),[b],[(b,some (.own sz e (xs.set i z')))],nx⟩):∃ e,Loc E N ops ⟨d,.store t x y,T,p,af,none⟩ nx sl H e∧k e:=by
 simp only [Bool.and_eq_true] at hj;obtain⟨⟨⟨j1,j2⟩,j3⟩,j4⟩:=hj;have j2:=Nat.eq_of_beq_eq_true j2;have j4:=Nat.le_of_ble_eq_true j4;refine⟨_,fun df rd K rest ρ t' S hs hS hk=>?_,h⟩;have hok:=hS.ok b _ ((wx b).trans hH);rcases hok with⟨rfl,_⟩ | ⟨o,ver,cap,pad,e1,e2,e3,e4,e5,e6⟩
 ·simp at hz
 ·subst ho
  obtain⟨q1,q2⟩:=qr3 (pad:=pad) e4 hz bd (by omega);have d6:=lt_of_getElem? hz
  refine qe6 (o:=o) (ver:=ver) (off:=0+i * sz+j) (xs:=u.cells) ((qv hs hx).trans (by simp only [SV.ev,e1,bxAt])) ((qv hs hy).trans (hv ρ)) e2 ht j1 rfl j2 (by simpa [jr] using j3) (by
   have h1:i * sz+sz≤xs.length * sz:=by rw [← Nat.succ_mul];exact Nat.mul_le_mul_right _ d6
   rw [List.length_append,zo e4]
   omega) ?_
  rw [q1]
  have l7:∀ y∈xs.set i z',y.cells.length=sz:=fun y hy=>by
   rcases List.mem_or_eq_of_mem_set hy with h|rfl
   ·exact e4 y h
   ·exact q2
  have key:∀ k r,chF [(b,some (.own sz e (xs.set i z')))] (resF [b] H) k=some r→k=b∧r = .own sz e (xs.set i z'):=fun k r hk=>by
   simp only [chF,lkS] at hk;by_cases e:b=k
   ·subst e
    have:Nat.beq b b=true:=by simp
    rw [this] at hk;simp only [cond_true,Option.some.injEq] at hk;exact⟨rfl,hk.symm⟩
   ·rw [jb e] at hk
    have:=(vq hk).1;simp only [memN,List.any_cons,List.any_nil,Bool.or_false] at this;exact absurd (Nat.eq_of_beq_eq_true this).symm e
  refine hk ρ _ ⟨fun _ _=>rfl,⟨fun k r hk=>?_,fun k k' r r' b8 g1 g2=>?_⟩,by simp,fun j hj b8=>?_,fun k r hk o' d7=>?_⟩
  ·obtain⟨rfl,rfl⟩:=key k r hk
   refine .inr ⟨o,ver,cap,pad,by rw [e1,List.length_set],x3 e2,?_,l7,by rw [List.length_set];exact e5,e6⟩;rw [List.length_append,zo l7,List.length_set,← zo e4,← List.length_append];exact e3
  ·exact absurd ((key k r g1).1.trans (key k' r' g2).1.symm) b8
  ·have:=b8 b _ ((wx b).trans hH)
   rw [e1] at this;exact List.getElem?_set_ne (fun e=>this (by rw [e];rfl))
  ·obtain⟨rfl,rfl⟩:=key k r hk
   exact .inr ⟨k,_,(wx k).trans hH,d7⟩
theorem qol {b:Nat} {q:SR}:∀ k r,chF [(b,none),(nx,some q)] (resF [b] H) k=some r→k=nx∧r=q:=fun k r hk=>by
 simp only [chF,lkS] at hk;by_cases e:b=k
 ·subst e
  simp at hk
 ·rw [jb e] at hk
  simp only [cond_false] at hk;by_cases e2:nx=k
  ·subst e2
   simp at hk;exact⟨rfl,hk.symm⟩
  ·rw [jb e2] at hk
   simp only [cond_false] at hk;have:=(vq hk).1;simp only [memN,List.any_cons,List.any_nil,Bool.or_false] at this;exact absurd (Nat.eq_of_beq_eq_true this).symm e
theorem qfg {x y:Operand} {t u e:TypeId} {b sz bytes:Nat} {xs ys:List AV} {vy:SV} (hx:sval N sl x=some (.tp b)) (hH:H b=some (.own sz e xs)) (hy:sval N sl y=some vy) (ct:qi6 H sz vy=some (ys,[])) (ht:elT (E.P.underlying t)=some e) (hu:elT (E.P.underlying u)=some e) (hb:qrx E.P e=some (sz,bytes))
  (hn:(Nat.blt 0 bytes && Nat.ble bytes 140737 && !Nat.beq b nx)=true) (h1:xs.length+ys.length≤1000000000) (e8:jr (flat ys)=true)
  (h:k ⟨.tp nx,[b],[(b,none),(nx,some (.own sz e (xs++ys)))],nx+1⟩):∃ e,Loc E N ops ⟨d,.call ⟨.builtin .append,#[x,y],#[t,u]⟩,T,p,af,none⟩ nx sl H e∧k e:=by
 simp only [Bool.and_eq_true] at hn;have hbp:=kz hn.1.1;have gb:=Nat.le_of_ble_eq_true hn.1.2;refine⟨_,fun df rd K rest ρ t' S hs hS hk=>?_,h⟩
 have hw:∀ (G:Gh) (v:Value),Rel G (qj N ⟨t',S,df⟩ y) v→Rel G (.sl sz ys none) v:=by
  rw [qv hs hy];exact qea (S:=S) ct ⟨fun k r hk=>by rw [qc4] at hk;simp at hk,fun k k' r r' _ hk=>by rw [qc4] at hk;simp at hk⟩
 have hok:=hS.ok b _ ((wx b).trans hH);have fb:qj N ⟨t',S,df⟩ x = ρ b:=(qv hs hx).trans (qc6 hok);have fg:(xs.length+ys.length) * bytes≤140737488355328:=Nat.le_trans (Nat.mul_le_mul h1 gb) (by decide)
 have fin:∀ (c:AV) (S':List AObj),OwnS S' sz e (xs++ys) c→S.length≤S'.length→(∀ j,j<S.length→zl (ρ b)≠some j→S'[j]? = S[j]?)→(∀ o,zl c=some o→S.length≤o∨zl (ρ b)=some o)→AOps E rd N ops rest K (AS.put ⟨t',S',df⟩ d c):=fun c S' g1 g2 g3 g4=>by
  have:=hk (upd ρ nx c) S' ⟨fun k hk=>w9 _ _ (by simp only at hk;omega),⟨fun k r hk=>?_,fun k k' r r' b8 q1 q2=>absurd ((qol k r q1).1.trans (qol k' r' q2).1.symm) b8⟩,g2,fun j hj b8=>g3 j hj (b8 b _ ((wx b).trans hH)),fun k r hk o ho=>?_⟩
  ·simpa only [SV.ev,jq,qc6 g1] using this
  ·obtain⟨rfl,rfl⟩:=qol k r hk
   rw [jq];exact g1
  ·obtain⟨rfl,rfl⟩:=qol k r hk
   rw [jq] at ho;exact (g4 o ho).imp_right fun h=>⟨b,_,(wx b).trans hH,h⟩
 by_cases ld:ys=[]
 ·subst ld
  have hc:∀ G v,Rel G (ρ b) v→∃ b n cp,v = .slice b n cp∧n≤cp:=fun G v hv=>by
   rcases hok with⟨_,e1⟩ | ⟨o,ver,cap,pad,e1,e2,e3,e4,e5,e6⟩
   ·obtain⟨base,rfl⟩:=e1.val G v hv
    exact⟨_,_,_,rfl,Nat.le_refl _⟩
   ·rw [e1] at hv
    cases hv with
    |os=>exact⟨_,_,_,rfl,e5⟩
  exact qmq fb hc hw (ww ht) (ww hu) (qfp hb) (fin (ρ b) S (by rw [List.append_nil];exact hok) (Nat.le_refl _) (fun _ _ _=>rfl) fun o ho=>.inr ho)
 ·rcases hok with⟨rfl,e1⟩ | ⟨o,ver,cap,pad,e1,e2,e3,e4,e5,e6⟩
  ·refine qd7 (by rw [fb];exact e1.val) hw (ww ht) (ww hu) (qfp hb) e8 ld (by simp only [maxLen];simp only [List.length_nil] at h1;omega) (by simpa using fg) fun cap pad q1 q2 q3 q4=>?_
   exact fin _ _ (.inr ⟨S.length,0,cap,pad,rfl,wh,q1,q2,q3,q4⟩) (by simp) (fun j hj _=>List.getElem?_append_left hj) fun o ho=>.inl (by simp only [zl,Option.some.injEq] at ho;omega)
  ·refine qmb (o:=o) (fb.trans e1) hw (.os ver (cap+1) pad e3 e4 e5 e6) e2 (ww ht) (ww hu) (qfp hb) e8 (by simp only [maxLen];omega) fg fun a' ob' hV=>?_
   rcases qto hV with⟨q,_,_⟩ | ⟨ver',cap',pad',rfl,rfl,q1,q2,q3,q4⟩
   ·simp [ld] at q
   ·obtain⟨cap',rfl⟩:∃ c,cap'=c+1:=⟨cap' - 1,by
     have:0<ys.length:=List.length_pos_iff.2 ld;simp at q3
     omega⟩
    refine fin _ _ (.inr ⟨o,ver',cap',pad',rfl,x3 e2,q1,q2,q3,q4⟩) (by simp) (fun j hj b8=>List.getElem?_set_ne fun e=>b8 (by rw [e1,e];rfl)) fun o' d7=>.inr (by rw [e1];exact d7)
structure OwnR (sz:Nat) (T:TypeId) (ys:List AV) (st:List AObj) (c r:AV) (st':List AObj):Prop where
 ok:OwnS st' sz T ys r
 len:st.length≤st'.length
 same:∀ j,j<st.length→zl c≠some j→st'[j]? = st[j]?
 loc:∀ o,zl r=some o→st.length≤o∨zl c=some o
theorem qug {S:List AObj} {sz:Nat} {T:TypeId} {xs:List AV} {c:AV} (h:OwnS S sz T xs c):tpAt c=c:=qc6 h
theorem qp1 {f:FuncId} {sz:Nat} {T0:TypeId} {xs ys:List AV} (args:List AV) (hc:okC ⟨je 0 (.tp 0::args.map .a),[(0,some (.own sz T0 xs))],1⟩=true)
  (h:∀ st c,OwnS st sz T0 xs c→qo E f (c::args) st fun r st'=>OwnR sz T0 ys st c r st'):ko E f (.tp 0::args.map .a) 1 (hpF [(0,some (.own sz T0 xs))]) ⟨.tp 1,j7 [(0,some (.own sz T0 xs))],[(1,some (.own sz T0 ys))]++vh [(0,some (.own sz T0 xs))],2⟩:=fun ρ S hS=>by
 simp only [v8] at hS;have hok:OwnS S sz T0 xs (ρ 0):=hS.ok 0 _ rfl
 have e:SV.evs ρ (.tp 0::args.map .a) = ρ 0::args:=by
  simp only [SV.evs,SV.ev,qug hok,km,List.map_map];congr 1
  conv=>rhs;rw [← List.map_id args]
  exact List.map_congr_left fun x _=>rfl
 rw [e];refine (h S (ρ 0) hok).mono fun r S' hr=>⟨upd ρ 1 r,?_,?_⟩
 ·simp only [SV.ev,jq,qug hr.ok]
 ·have key:∀ k q,hpF [(1,some (.own sz T0 ys))] k=some q→k=1∧q = .own sz T0 ys:=fun k q hk=>by
   have:=xa hk;simp only [lkS] at this
   cases hb:Nat.beq 1 k with
   |true=>
    rw [hb] at this;simp only [cond_true,Option.some.injEq] at this
    exact⟨(Nat.eq_of_beq_eq_true hb).symm,this.symm⟩
   |false=>rw [hb] at this;simp at this
  refine⟨fun k hk=>w9 _ _ (by simp only at hk;omega),?_,hr.len,fun j hj hn=>?_,fun k q hk o ho=>?_⟩
  ·simp only [v8,qem]
   refine⟨fun k q hk=>?_,fun k k' q q' b8 h1 h2=>absurd ((key k q h1).1.trans (key k' q' h2).1.symm) b8⟩;obtain⟨rfl,rfl⟩:=key k q hk;rw [jq];exact hr.ok
  ·simp only [v8] at hn
   exact hr.same j hj (hn 0 _ rfl)
  ·simp only [v8,qem] at hk ⊢
   obtain⟨rfl,rfl⟩:=key k q hk;rw [jq] at ho;rcases hr.loc o ho with h|h
   ·exact .inl h
   ·exact .inr ⟨0,_,rfl,h⟩
theorem q2i {f:FuncId} {sz:Nat} {T0:TypeId} {ys:List AV} {nx:Nat} {H:Nat→Option SR} (args:List AV) (vs:List SV) (hv:∀ ρ,SV.evs ρ vs=args)
  (h:∀ st,qo E f args st fun r st'=>OwnR sz T0 ys st (.v undef) r st'):ko E f vs nx H ⟨.tp nx,[],[(nx,some (.own sz T0 ys))],nx+1⟩:=fun ρ S hS=>by
 rw [hv];refine (h S).mono fun r S' hr=>⟨upd ρ nx r,?_,?_⟩
 ·simp only [SV.ev,jq,qug hr.ok]
 ·have key:∀ k q,chF [(nx,some (SR.own sz T0 ys))] (resF [] H) k=some q→k=nx∧q = .own sz T0 ys:=fun k q hk=>by
   simp only [chF,lkS] at hk
   cases hb:Nat.beq nx k with
   |true=>
    rw [hb] at hk;simp only [cond_true,Option.some.injEq] at hk
    exact⟨(Nat.eq_of_beq_eq_true hb).symm,hk.symm⟩
   |false=>
    rw [hb] at hk;simp [resF,memN] at hk
  refine⟨fun k hk=>w9 _ _ (by simp only at hk;omega),⟨fun k q hk=>?_,fun k k' q q' b8 h1 h2=>absurd ((key k q h1).1.trans (key k' q' h2).1.symm) b8⟩,hr.len,fun j hj _=>hr.same j hj (by simp [zl]),fun k q hk o ho=>?_⟩
  ·obtain⟨rfl,rfl⟩:=key k q hk
   rw [jq];exact hr.ok
  ·obtain⟨rfl,rfl⟩:=key k q hk
   rw [jq] at ho;rcases hr.loc o ho with h|h
   ·exact .inl h
   ·simp [zl] at h
end
end Go.Av
namespace Go.Proofs.YtapblfabkbdgcaaGreatDoor
open Go Go.Av Go.RowKit Go.Proofs Go.Pl
theorem qtm {b:UInt8} {v:qc}:v6 b v=if 0<v.length∧v.getD 0 0=b then v.drop 1 else v:=by
 cases v with
 |nil=>rfl
 |cons x r=>
  unfold v6;by_cases h:x=b <;> simp [h]
set_option maxHeartbeats 2000000 in
theorem q1c (ls:List qc) (st:List AObj) (hB:LsB ls):qo E 78 [Ss ls] st fun r st'=>r=qdk ls∧st'=st:=by
 refine zw [.a (Ss ls)] (qs6 _) Tryz.func78 rfl rfl (fun _=>rfl) rfl fun S0=>?_;have hL:=hB.len;have i6:(ls.map fun x=>Sv x).length=ls.length:=by simp
 cases ls with
 |nil=>
  apply qf [2]
  repeat' (first|apply And.intro|(intro h;try exact cDd)|exact cSd|apply qd [2]|refine exr ?_|refine qk ?_)
 |cons l r=>
  have hl:=hB.val l (by simp);simp only [List.length_cons] at hL i6;have lv:=fun st=>qnx l st (by omega);have bt:((l::r).map fun x=>Sv x)[0]? = some (Sv l):=rfl;by_cases h4:qs l=4
  ·have hcu:=fun st=>zae l st (by omega) h4
   simp only [h4] at lv;have pf:(v6 32 (kg l)).length≤l.length:=by unfold v6 kg;split <;> simp <;> omega
   have dk:(kg l).length≤l.length:=by unfold kg;simp
   apply qf [2];repeat' (first|apply And.intro|(intro h;try exact cDd)|(refine Exists.intro (0) ⟨by omega,_,bt,?_⟩)|exact⟨Tryz.call92⟩|refine cpe lv ?_|exact⟨Tryz.call115⟩|refine cpe hcu ?_|exact cSd|apply qd [2]|refine exr ?_|refine qk ?_)
   all_goals
    refine j5 (X:=Nat×qc) (fun (k,acc)=>⟨[(0,.a (Ss (l::r))),(2,.bx 0 0),(4,.s (zx l)),(5,.s acc),(7,.i ((k:Int)+1))],[(0,some (.cells 98 [.s [],.s []]))],1⟩) (fun (k,acc)=>k≤r.length∧(∀ x∈r.take k,qs x=3)∧acc=accU l (r.take k)) (fun (k,_)=>r.length - k) (0,v6 32 (kg l)) ⟨by omega,by simp,by simp [accU]⟩ ?_ ?_
    ·skip
     repeat' (first|apply And.intro|(intro h;try exact cDd)|exact cSd|apply qd []|refine exr ?_|refine qk ?_)
     all_goals (rw [qtm];split <;> rename_i h <;> first|rfl|(exfalso;omega)|exact absurd ((q7i _).2 h.2) (by assumption)|exact absurd ⟨by omega,(q7i _).1 (by assumption)⟩ h)
    ·rintro⟨k,acc⟩ ⟨hk,h3,pk⟩
     have hal:=zbk l (r.take k) fun s hs=>hB.val s (by simp [List.mem_of_mem_take hs]);rw [← pk,List.length_take] at hal;by_cases d6:k<r.length
     ·obtain⟨a,ha⟩:∃ a,r[k]? = some a:=⟨_,List.getElem?_eq_getElem d6⟩
      have c9:((l::r).map fun x=>Sv x)[k+1]? = some (Sv a):=by simp [ha]
      have hav:=hB.val a (by simp [List.mem_of_getElem? ha]);have px:=fun st=>qnx a st (by omega)
      have r6:r.take (k+1)=r.take k++[a]:=by
       obtain⟨_,rfl⟩:=List.getElem?_eq_some_iff.1 ha;rw [List.take_append_getElem]
      by_cases cz:qs a=3
      ·obtain⟨h2,_⟩:=qkr cz
       simp only [cz] at px;have hd1:(a.drop 1).length=a.length - 1:=by simp
       have hac:=q7t l (r.take k) a;rw [← pk,← r6,qtm] at hac;apply qf [];repeat' (first|apply And.intro|(intro h;try exact cDd)|(refine Exists.intro ((k+1)) ⟨by omega,_,c9,?_⟩)|exact⟨Tryz.call92⟩|refine cpe px ?_|(refine Exists.intro (k+1,_) ⟨⟨by omega,by rw [r6];exact qlm h3 cz,rfl⟩,by simp only;omega,?_⟩)|exact cSd|apply qd []|refine exr ?_|refine qk ?_)
       all_goals (rw [hac];split <;> rename_i h <;> first|rfl|(simp only [List.append_assoc];rfl)|(exfalso;omega)|exact absurd ((qx1 _).2 h.2) (by assumption)|exact absurd ⟨by omega,(qx1 _).1 (by assumption)⟩ h)
      ·have lx:zq (l::r)=(([],[]),2):=if_neg fun h=>cz (h.2.2 a (List.mem_of_getElem? ha))
       unfold qdk;rw [lx];apply qf [];repeat' (first|apply And.intro|(intro h;try exact cDd)|(refine Exists.intro ((k+1)) ⟨by omega,_,c9,?_⟩)|exact⟨Tryz.call92⟩|refine cpe px ?_|exact absurd (by assumption) cz|exact cSd|apply qd []|refine exr ?_|refine qk ?_)
     ·rw [List.take_of_length_le (by omega)] at h3 pk
      have bc:zq (l::r)=if 1000<(accU l r).length then (([],[]),6) else ((zx l,accU l r),0):=if_pos ⟨by simp,h4,h3⟩;unfold qdk;rw [bc,← pk];apply qf [];repeat' (first|apply And.intro|(intro h;try exact cDd)|exact cSd|apply qd []|refine exr ?_|refine qk ?_)
      all_goals (split <;> first|rfl|omega)
  ·have lx:zq (l::r)=(([],[]),2):=if_neg fun h=>h4 h.2.1
   unfold qdk;rw [lx];apply qf [2];repeat' (first|apply And.intro|(intro h;try exact cDd)|(refine Exists.intro (0) ⟨by omega,_,bt,?_⟩)|exact⟨Tryz.call92⟩|refine cpe lv ?_|exact cSd|apply qd [2]|refine exr ?_|refine qk ?_)
theorem q3i {a:qc} (f9:10∉a):vl a=if qs a=1∨a.getD 0 0=46 then 46::a else a:=by
 have hk:=zct f9;unfold vl
 cases a with
 |nil=>simp [hk,qbf]
 |cons x y=>simp only [List.head?_cons,Option.some.injEq,hk];rfl
def outK (hd:qc) (r:List qc) (k:Nat):List AV:=(hd::(r.take k).map fun s=>[32]++vl s).map fun x=>Sv x
theorem q9z {hd:qc} {r:List qc} {k:Nat} {a:qc} (h:r[k]? = some a):outK hd r (k+1)=outK hd r k++[Sv ([32]++vl a)]:=by
 obtain⟨d6,rfl⟩:=List.getElem?_eq_some_iff.1 h;unfold outK;rw [← List.take_append_getElem d6];simp only [List.map_append,List.map_cons,List.map_nil,List.cons_append]
theorem zc6 {hd:qc} {r:List qc} {k:Nat} (h:k≤r.length):(outK hd r k).length=k+1:=by
 unfold outK;simp;omega
set_option maxHeartbeats 2000000 in
theorem q00 (f:FldV) (st:List AObj) (hl:f.1.length<4294967281) (hv:f.2.length<1000000):qo E 108 [fldA f] st fun r st'=>r=Ss (zk f)∧st'=st:=by
 obtain⟨key,val⟩:=f;dsimp only at hl hv;refine zw [.a (.ag [Sv key,Sv val])] (qop _) Tryz.func108 rfl rfl (fun _=>rfl) rfl fun S0=>?_;obtain⟨p,r,hp⟩:∃ p r,qz val=p::r:=⟨_,_,qlr val⟩;have t6:p.length≤val.length:=qdw val p (by rw [hp];simp);have dk:∀ x∈r,x.length≤val.length:=fun x hx=>qdw val x (by rw [hp];simp [hx]);have hr10:∀ x∈r,10∉x:=fun x hx=>qdi val x (by rw [hp];simp [hx]);have hrn:r.length≤val.length:=by have:=qbo _ val (Nat.le_refl _);rw [hp] at this;simpa using this
 have c8:(Sv p::r.map fun x=>Sv x).length=r.length+1:=by simp
 have hpt:=fun st=>zdb val p r st hv hp;have bt:(Sv p::r.map fun x=>Sv x)[0]? = some (Sv p):=rfl;rw [q2z (f:=(key,val)) hp];generalize hhd:jw key p=hd;have lw:Ss (hd::r.map fun s=>[32]++vl s) = .sl 1 (outK hd r r.length) none:=by unfold outK;rw [List.take_length]
 rw [lw];apply qf [1,24];repeat' (first|apply And.intro|(intro h;try exact cDd)|exact⟨Tryz.call149⟩|refine cpe hpt ?_|(refine Exists.intro (0) ⟨by omega,_,bt,?_⟩)|exact cSd|apply qd [1,24]|refine exr ?_|refine qk ?_)
 all_goals
  refine j5 (X:=Nat) (fun k=>⟨[(3,.a (.sl 1 (Sv p::r.map fun x=>Sv x) none)),(5,.tp 0),(6,.i ((k:Int)+1))],[(0,some (.tip 1 9 (outK hd r k)))],1⟩) (fun k=>k≤r.length) (fun k=>r.length - k) 0 (by omega) ?_ ?_
  ·skip
   repeat' (first|apply And.intro|(intro h;try exact cDd)|exact cSd|apply qd []|refine exr ?_|refine qk ?_)
   all_goals (subst hhd;unfold jw outK;simp_all [SV.evs,SV.ev])
  ·rintro k hk
   have fm:=zc6 (hd:=hd) hk;by_cases d6:k<r.length
   ·obtain⟨a,ha⟩:∃ a,r[k]? = some a:=⟨_,List.getElem?_eq_getElem d6⟩
    have c9:(Sv p::r.map fun x=>Sv x)[k+1]? = some (Sv a):=by simp [ha]
    have ham:=List.mem_of_getElem? ha;have hal:=dk a ham;have px:=fun st=>qnx a st (by omega);have d8:=q3i (hr10 a ham);have s4:=q9z (hd:=hd) ha;rw [d8] at s4;have hk0:qs a≠1→0<a.length:=fun h=>List.length_pos_iff.2 fun e=>h (by subst e;rfl);by_cases bg:qs a=1
    ·simp only [bg] at px
     rw [if_pos (.inl bg)] at s4;apply qf [];repeat' (first|apply And.intro|(intro h;try exact cDd)|(refine Exists.intro ((k+1)) ⟨by omega,_,c9,?_⟩)|exact⟨Tryz.call92⟩|refine cpe px ?_|(refine Exists.intro (k+1) ⟨by omega,by omega,?_⟩)|exact cSd|apply qd []|refine exr ?_|refine qk ?_)
     all_goals first|(rw [s4];done)|(rw [s4];simp [SV.evs,SV.ev];done)|(simp only [List.length_cons,List.length_nil];omega)
    ·have db:=hk0 bg
     apply qf [];repeat' (first|apply And.intro|(intro h;try exact cDd)|(refine Exists.intro ((k+1)) ⟨by omega,_,c9,?_⟩)|exact⟨Tryz.call92⟩|refine cpe px ?_|(refine Exists.intro (k+1) ⟨by omega,by omega,?_⟩)|exact cSd|apply qd []|refine exr ?_|refine qk ?_)
     all_goals first|(rw [s4,if_pos (.inr ((qx1 _).1 (by assumption)))];simp [SV.evs,SV.ev];done)|(rw [s4,if_neg (by simp only [bg,false_or];intro e;exact absurd ((qx1 _).2 e) (by assumption))];done)|(simp only [List.length_cons,List.length_nil];omega)
   ·rw [show k=r.length by omega]
    apply qf [];repeat' (first|apply And.intro|(intro h;try exact cDd)|exact cSd|apply qd []|refine exr ?_|refine qk ?_)
set_option maxHeartbeats 2000000 in
theorem q65 (xs:List FldV) (st:List AObj) (hx:q5c xs):qo E 71 [zp xs] st fun r st'=>r=Sv (z7 xs)∧st'=st:=by
 refine zw [.a (zp xs)] (q8 _) Tryz.func71 rfl rfl (fun _=>rfl) rfl fun S0=>?_;have hxl:=hx.len;have i6:(xs.map fldA).length=xs.length:=by simp
 apply qf [];repeat' (first|apply And.intro|(intro h;try exact cDd)|exact cSd|apply qd []|refine exr ?_|refine qk ?_)
 refine j5 (X:=Nat) (fun k=>⟨[(0,.a (zp xs)),(3,.s (z7 (xs.take k))),(4,.i k)],[],0⟩) (fun k=>k≤xs.length) (fun k=>xs.length - k) 0 (by omega) ?_ ?_
 ·skip
  repeat' (first|apply And.intro|(intro h;try exact cDd)|exact cSd|apply qd []|refine exr ?_|refine qk ?_)
 ·rintro k hk
  by_cases d6:k<xs.length
  ·obtain⟨f,hf⟩:∃ f,xs[k]? = some f:=⟨_,List.getElem?_eq_getElem d6⟩
   have c9:(xs.map fldA)[k]? = some (fldA f):=by simp [hf]
   obtain⟨pt,hf2⟩:=hx.val f (List.mem_of_getElem? hf);have o6:=qr6 (xs.take k) fun g hg=>hx.val g (List.mem_of_mem_take hg);rw [List.length_take] at o6;have r8:=qpm f;have hln:=fun st=>q00 f st pt hf2
   have r6:z7 (xs.take (k+1))=z7 (xs.take k)++zf (zk f):=by
    obtain⟨_,rfl⟩:=List.getElem?_eq_some_iff.1 hf;rw [← List.take_append_getElem d6,qvz,qv0]
   have dv:((zk f).map fun x=>Sv x).length=(zk f).length:=by simp
   have hsn:=qkc (zk f);apply qf [];repeat' (first|apply And.intro|(intro h;try exact cDd)|(refine Exists.intro (k) ⟨by omega,_,c9,?_⟩)|exact⟨Tryz.call108⟩|refine cpe hln ?_|exact cSd|apply qd []|refine exr ?_|refine qk ?_)
   refine j5 (X:=Nat) (fun j=>⟨[(0,.a (zp xs)),(3,.s (z7 (xs.take k)++zf ((zk f).take j))),(4,.i k),(17,.a (Ss (zk f))),(18,.i ((zk f).map fun x=>Sv x).length),(19,.i j)],[],0⟩) (fun j=>j≤(zk f).length) (fun j=>(zk f).length - j) 0 (by omega) ?_ ?_
   ·skip
    repeat' (first|apply And.intro|(intro h;try exact cDd)|exact cSd|apply qd []|refine exr ?_|refine qk ?_)
    all_goals (simp [zf];done)
   ·rintro j hj
    by_cases hjl:j<(zk f).length
    ·obtain⟨a,ha⟩:∃ a,(zk f)[j]? = some a:=⟨_,List.getElem?_eq_getElem hjl⟩
     have sq:((zk f).map fun x=>Sv x)[j]? = some (Sv a):=by simp [ha]
     have htj:zf ((zk f).take (j+1))=zf ((zk f).take j)++a++[10]:=by
      obtain⟨_,rfl⟩:=List.getElem?_eq_some_iff.1 ha;rw [← List.take_append_getElem hjl,yb,qgw,List.append_assoc]
     have hbj:(zf ((zk f).take (j+1))).length≤(zf (zk f)).length:=by
      have:=congrArg (fun l=>(zf l).length) (List.take_append_drop (j+1) (zk f));simp only [yb,List.length_append] at this;omega
     have gb:=congrArg List.length htj;simp only [List.length_append,List.length_cons,List.length_nil] at gb;apply qf [];repeat' (first|apply And.intro|(intro h;try exact cDd)|(refine Exists.intro (j) ⟨by omega,_,sq,?_⟩)|(refine Exists.intro (j+1) ⟨by omega,by omega,?_⟩)|exact cSd|apply qd []|refine exr ?_|refine qk ?_)
     all_goals first|(rw [htj];simp;done)|(simp only [List.length_append,List.length_cons,List.length_nil];omega)
    ·rw [List.take_of_length_le (show (zk f).length≤j by omega)]
     apply qf [];repeat' (first|apply And.intro|(intro h;try exact cDd)|(refine Exists.intro (k+1) ⟨by omega,by omega,?_⟩)|exact cSd|apply qd []|refine exr ?_|refine qk ?_)
     all_goals (rw [r6];done)
  ·rw [List.take_of_length_le (by omega)]
   apply qf [];repeat' (first|apply And.intro|(intro h;try exact cDd)|exact cSd|apply qd []|refine exr ?_|refine qk ?_)
def accK (l:qc) (r:List qc) (k:Nat):List qc:=v6 32 (kg l)::(r.take k).map fun s=>v6 46 (s.drop 1)
theorem q7s {l:qc} {r:List qc} {k:Nat} {a:qc} (h:r[k]? = some a):(accK l r (k+1)).map (fun x=>Sv x)=(accK l r k).map (fun x=>Sv x)++[Sv (v6 46 (a.drop 1))]:=by
 obtain⟨d6,rfl⟩:=List.getElem?_eq_some_iff.1 h;unfold accK;rw [← List.take_append_getElem d6];simp only [List.map_append,List.map_cons,List.map_nil,List.cons_append]
set_option maxHeartbeats 4000000 in
theorem qmg (ls:List qc) (st:List AObj) (hB:LsB ls):qo E 167 [Ss ls] st fun r st'=>r=qf0 ls∧st'=st:=by
 refine zw [.a (Ss ls)] (q1z _) Tryz.func167 rfl rfl (fun _=>rfl) rfl fun S0=>?_;have hL:=hB.len;have i6:(ls.map fun x=>Sv x).length=ls.length:=by simp
 cases ls with
 |nil=>
  apply qf [2]
  repeat' (first|apply And.intro|(intro h;try exact cDd)|exact cSd|apply qd [2]|refine exr ?_|refine qk ?_)
 |cons l r=>
  have hl:=hB.val l (by simp);simp only [List.length_cons] at hL i6;have bt:((l::r).map fun x=>Sv x)[0]? = some (Sv l):=rfl;have hrm:(r.map fun x=>Sv x).length=r.length:=by simp
  by_cases h4:qs l=4
  ·have hkf:=qje.1 h4
   have hcu:=fun st=>q6l l st (by omega) h4;have gm:=fun st=>q42 (kg l) 32 st;apply qf [2,31];repeat' (first|apply And.intro|(intro h;try exact cDd)|(refine Exists.intro (0) ⟨by omega,_,bt,?_⟩)|exact⟨Tryz.call194⟩|refine cpe hcu ?_|exact⟨Tryz.call40⟩|refine cpe gm ?_|exact cSd|apply qd [2,31]|refine exr ?_|refine qk ?_)
   refine j5 (X:=Nat) (fun k=>⟨[(2,.bx 0 0),(4,.s (zx l)),(7,.tp 1),(33,.a (.sl 1 (r.map fun x=>Sv x) none)),(34,.i (r.map fun x=>Sv x).length),(35,.i k)],[(0,some (.cells 98 [.s [],.s []])),(1,some (.tip 1 9 ((accK l r k).map fun x=>Sv x)))],2⟩) (fun k=>k≤r.length∧∀ x∈r.take k,qs x=3) (fun k=>r.length - k) 0 ⟨by omega,by simp⟩ ?_ ?_
   ·skip
    repeat' (first|apply And.intro|(intro h;try exact cDd)|exact cSd|apply qd []|refine exr ?_|refine qk ?_)
   ·rintro k ⟨hk,h3⟩
    have hacl:((accK l r k).map fun x=>Sv x).length=k+1:=by unfold accK;simp;omega
    by_cases d6:k<r.length
    ·obtain⟨a,ha⟩:∃ a,r[k]? = some a:=⟨_,List.getElem?_eq_getElem d6⟩
     have c9:(r.map fun x=>Sv x)[k]? = some (Sv a):=by simp [ha]
     have hav:=hB.val a (by simp [List.mem_of_getElem? ha]);have px:=fun st=>qnf a st (by omega);have pb:=fun st=>q42 (a.drop 1) 46 st;have s4:=q7s (l:=l) ha;by_cases cz:qs a=3
     ·obtain⟨h2,_⟩:=qkr cz
      simp only [cz] at px
      have r6:r.take (k+1)=r.take k++[a]:=by
       obtain⟨_,rfl⟩:=List.getElem?_eq_some_iff.1 ha;rw [List.take_append_getElem]
      apply qf [];repeat' (first|apply And.intro|(intro h;try exact cDd)|(refine Exists.intro (k) ⟨by omega,_,c9,?_⟩)|exact⟨Tryz.call121⟩|refine cpe px ?_|exact⟨Tryz.call40⟩|refine cpe pb ?_|(refine Exists.intro (k+1) ⟨⟨by omega,by rw [r6];exact qlm h3 cz⟩,by omega,?_⟩)|exact cSd|apply qd []|refine exr ?_|refine qk ?_)
      all_goals first|(rw [s4];done)|(rw [s4];simp [SV.evs,SV.ev];done)|(simp only [List.length_cons,List.length_nil];omega)
     ·have lx:zq (l::r)=(([],[]),2):=if_neg fun h=>cz (h.2.2 a (List.mem_of_getElem? ha))
      unfold qf0;rw [lx];apply qf [];repeat' (first|apply And.intro|(intro h;try exact cDd)|(refine Exists.intro (k) ⟨by omega,_,c9,?_⟩)|exact⟨Tryz.call121⟩|refine cpe px ?_|exact absurd (by assumption) cz|exact cSd|apply qd []|refine exr ?_|refine qk ?_)
    ·rw [List.take_of_length_le (by omega)] at h3
     have hkr:k=r.length:=by omega
     subst hkr;have hok:qq2 (l::r):=⟨by simp,h4,h3⟩;have hjl:=qqv r fun s hs=>hB.val s (by simp [hs]);have hj:=q9j (v6 32 (kg l)) r;have hjv:Lib.join (accK l r r.length) [10]=qal l r:=by unfold accK;rw [List.take_length];exact hj
     have pf:(v6 32 (kg l)).length≤l.length:=by unfold v6 kg;split <;> simp <;> omega
     have pg:(qal l r).length≤140737488355328:=by
      unfold qal;rw [List.length_append];omega
     have hjn:=fun tip st=>q4d (accK l r r.length) tip [10] (qal l r) st hjv (by rw [← List.length_map (f:=fun x=>Sv x),hacl];omega) pg;have hkl:(zx l).length<4294967281:=by have:=hkf.2.2.2.1;omega
     have bc:zq (l::r)=if 1000<(qal l r).length then (([],[]),6) else ((zx l,qal l r),0):=if_pos hok;have hjn0:=hjn none;unfold qf0;by_cases hv:1000<(qal l r).length
     ·have hcf:kj (zx l,qal l r)=6:=(if_neg (by simpa using hkf.2.2)).trans (if_pos hv)
      have gc:=fun st=>qic (zx l,qal l r) st hkl (by rw [hcf];decide);rw [hcf] at gc;rw [bc,if_pos hv];apply qf [10];repeat' (first|apply And.intro|(intro h;try exact cDd)|exact⟨Tryz.call105⟩|refine cpe hjn0 ?_|exact⟨Tryz.call142⟩|refine cpe gc ?_|exact cSd|apply qd [10]|refine exr ?_|refine qk ?_)
     ·have hcf:kj (zx l,qal l r)=0:=(if_neg (by simpa using hkf.2.2)).trans (if_neg hv)
      have gc:=fun st=>qib (zx l,qal l r) st hkl hcf;rw [bc,if_neg hv];apply qf [10];repeat' (first|apply And.intro|(intro h;try exact cDd)|exact⟨Tryz.call105⟩|refine cpe hjn0 ?_|exact⟨Tryz.call142⟩|refine cpe gc ?_|exact cSd|apply qd [10]|refine exr ?_|refine qk ?_)
  ·have lx:zq (l::r)=(([],[]),2):=if_neg fun h=>h4 h.2.1
   have hcu:=fun st=>q2y l st (by omega) h4;unfold qf0;rw [lx];apply qf [2];repeat' (first|apply And.intro|(intro h;try exact cDd)|(refine Exists.intro (0) ⟨by omega,_,bt,?_⟩)|exact⟨Tryz.call194⟩|refine cpe hcu ?_|exact cSd|apply qd [2]|refine exr ?_|refine qk ?_)
end Go.Proofs.YtapblfabkbdgcaaGreatDoor
namespace Go.Av
open Go Go.RowKit
structure DP where
 q:Prop
 h:Decidable q
def eqC1 (u:Option TypeDesc) (x y:SV):Option DP:=
 match u with
 |some (.int _)=>(match qan x,qan y with
  |some (k,m),some (k',n)=>bif decide (k=k') then some ⟨m=n,inferInstance⟩ else none
  | _,_=>none)
 |some .string=>(match x,y with
  | .s m,.s n=>some ⟨m=n,inferInstance⟩
  | _,_=>none)
 |some .bool=>(match qkj x,qkj y with
  |some a,some b=>some ⟨a=b,inferInstance⟩
  | _,_=>none)
 | _=>none
def eqCs (P:Program):Nat→List Field→List SV→List SV→Option DP
 | _,[],[],[]=>some ⟨True,inferInstance⟩
 | i, f :: r, x :: xs, y :: ys => bif f.name != "_" && Nat.beq f.offset i then (match eqC1 (P.underlying f.type) x y, eqCs P (i + 1) r xs ys with
  |some a,some b=>some ⟨a.q∧b.q,@instDecidableAnd _ _ a.h b.h⟩
  | _,_=>none) else none
 | _,_,_,_=>none
def agOf:SV→Option (List SV)
 | .ag cs=>some cs
 | .a (.ag xs)=>some (nfs xs)
 | _=>none
theorem q3q {v:SV} {cs:List SV} (h:agOf v=some cs) (ρ : Nat→AV):v.ev ρ = .ag (SV.evs ρ cs):=by
 unfold agOf at h;split at h
 ·simp only [Option.some.injEq] at h;subst h;rfl
 ·simp only [Option.some.injEq] at h;subst h;simp only [SV.ev,qgq]
 ·simp at h
def q0a:TypeDesc→Bool
 | .struct _=>false
 | .array _ _=>false
 | _=>true
theorem q1j {P:Program} {t:TypeId} {u:TypeDesc} {cs:Array Value} {off:Nat} {a:Value} (w:World) (hu:P.underlying t=some u) (hs:q0a u=true) (h:cs[off]? = some a):(part t cs off).run P w = .ok a w:=by
 unfold part isAgg
 cases u <;> simp [run_underlying hu,h,q0a] at hs ⊢
theorem zcd {P:Program} {G:Gh} {ρ : Nat→AV} {t:TypeId} {x y:SV} {a b:Value} {q:DP} {d:Nat} (w:World) (h:eqC1 (P.underlying t) x y=some q) (hx:Rel G (x.ev ρ) a) (hy:Rel G (y.ev ρ) b) :
  (Op.equalIn (d+1) t a b).run P w = .ok (@decide q.q q.h) w∧∃ u,P.underlying t=some u∧q0a u=true:=by
 unfold eqC1 at h;split at h
 ·rename_i kd hu
  split at h
  ·rename_i k m k' n hm hn
   cases hk:decide (k=k') with
   |false=>rw [hk] at h;simp at h
   |true=>
    rw [hk] at h;simp only [cond_true,Option.some.injEq] at h;have hk:=of_decide_eq_true hk;subst hk;subst h;rw [xo hm] at hx;rw [xo hn] at hy
    cases hx
    cases hy
    refine⟨?_,_,hu,rfl⟩;rw [run_equalIn_int w d t k kd m n hu];congr 1
  ·simp at h
 ·rename_i hu
  split at h
  ·rename_i m n
   simp only [Option.some.injEq] at h;subst h
   cases hx
   cases hy
   refine⟨?_,_,hu,rfl⟩;rw [run_equalIn_string w d t _ _ hu];simp only [ByteArray.toList_eq];congr 1;by_cases he:m=n <;> simp [he]
  ·simp at h
 ·rename_i hu
  split at h
  ·rename_i m n hm hn
   simp only [Option.some.injEq] at h;subst h;rw [qel hm] at hx;rw [qel hn] at hy
   cases hx
   cases hy
   refine⟨?_,_,hu,rfl⟩;rw [run_equalIn_bool' w d t _ _ hu];congr 1
  ·simp at h
 ·simp at h
theorem qzb {P:Program} {G:Gh} {ρ : Nat→AV} {d:Nat} (w:World) (us ws:Array Value):∀ (i:Nat) (fs:List Field) (xs ys:List SV) (q:DP),eqCs P i fs xs ys=some q →
  (∀ j x,xs[j]? = some x→∃ a,us[i+j]? = some a∧Rel G (x.ev ρ) a)→(∀ j x,ys[j]? = some x→∃ a,ws[i+j]? = some a∧Rel G (x.ev ρ) a)→(Op.eqFields (d+1) us ws fs).run P w = .ok (@decide q.q q.h) w
 |i,[],[],[],q,h,_,_=>by
  simp only [eqCs,Option.some.injEq] at h;subst h
  simp [Op.eqFields]
 |i,f::r,x::xs,y::ys,q,h,hx,hy=>by
  simp only [eqCs] at h
  cases hc : (f.name != "_" && Nat.beq f.offset i) with
  |false=>rw [hc] at h;simp at h
  |true=>
   rw [hc] at h;simp only [Bool.and_eq_true] at hc;obtain⟨rl,nc⟩:=hc;have nc:=Nat.eq_of_beq_eq_true nc;simp only [cond_true] at h;split at h
   ·rename_i qa qb h1 h2
    simp only [Option.some.injEq] at h;subst h;obtain⟨a,ha,hra⟩:=hx 0 x rfl;obtain⟨b,hb,hrb⟩:=hy 0 y rfl;obtain⟨e1,u,hu,hsc⟩:=zcd (d:=d) w h1 hra hrb
    have ih:=qzb (d:=d) w us ws (i+1) r xs ys qb h2 (fun j z hz=>by
     obtain⟨a,h3,h4⟩:=hx (j+1) z (by simpa using hz)
     exact⟨a,by rw [← h3];congr 1;omega,h4⟩) (fun j z hz=>by
     obtain⟨a,h3,h4⟩:=hy (j+1) z (by simpa using hz)
     exact⟨a,by rw [← h3];congr 1;omega,h4⟩)
    have hn : f.name ≠ "_" := by simpa using rl
    rw [Nat.add_zero,← nc] at ha hb;simp only [Op.eqFields,Sem.run_bind,Sem.run_ite,if_pos hn,q1j w hu hsc ha,q1j w hu hsc hb,Result.andThen_ok,e1];rcases (Classical.em qa.q) with hq|hq
    ·rw [@decide_eq_true _ qa.h hq]
     simp only [Bool.not_true,Bool.false_eq_true,if_false,ih];congr 1;rcases (Classical.em qb.q) with hr|hr
     ·rw [@decide_eq_true _ qb.h hr];exact (@decide_eq_true _ (@instDecidableAnd _ _ qa.h qb.h) ⟨hq,hr⟩).symm
     ·rw [@decide_eq_false _ qb.h hr];exact (@decide_eq_false _ (@instDecidableAnd _ _ qa.h qb.h) fun h=>hr h.2).symm
    ·rw [@decide_eq_false _ qa.h hq]
     simp only [Bool.not_false,if_true,Sem.run_pure];congr 1;exact (@decide_eq_false _ (@instDecidableAnd _ _ qa.h qb.h) fun h=>hq h.1).symm
   ·simp at h
 | _,[],[],_::_,_,h,_,_=>by simp [eqCs] at h
 | _,[],_::_,_,_,h,_,_=>by simp [eqCs] at h
 | _,_::_,[],_,_,h,_,_=>by simp [eqCs] at h
 | _,_::_,_::_,[],_,h,_,_=>by simp [eqCs] at h
section
variable {E : Env} {N : Nat} {ops : Array Oper} {nx : Nat} {sl : List (Nat × SV)} {H : Nat → Option SR} {k : Ef → Prop} {d : Option Tmp} {T : TypeId} {p : String} {af : Array Edge}
structure EqT (P:Program) (t:TypeId):Prop where
 u:P.underlying t=some (.struct (P.fieldsOf t))
 s:P.stoodInHeld t=false
 g:P.eqGuardType P.depth t=false
theorem q4s {G:Gh} {cs:List AV} {v:Value} (h:Rel G (.ag cs) v):∃ vs:Array Value,v = .agg vs∧∀ (j:Nat) x,cs[j]? = some x→∃ a,vs[j]? = some a∧Rel G x a:=by
 cases h with
 |ag _ vs hl h=>
  refine⟨vs,rfl,fun j x hx=>?_⟩;have hj:j<vs.size:=by have:=lt_of_getElem? hx;omega
  exact⟨vs[j],by simp [hj],h j x _ hx (by simp [hj])⟩
theorem zjb {t:TypeId} {v1 v2:Value} {G:Gh} {ρ : Nat→AV} {vx vy:SV} {xs ys:List SV} {q:DP} (ht:EqT E.P t) (hx:agOf vx=some xs) (hy:agOf vy=some ys) (hq:eqCs E.P 0 (E.P.fieldsOf t).toList xs ys=some q) (h1:Rel G (vx.ev ρ) v1) (h2:Rel G (vy.ev ρ) v2) (w:World) :
  ∃ us ws,v1 = .agg us∧v2 = .agg ws∧(Op.equalIn 10000 t (.agg us) (.agg ws)).run E.P w = .ok (@decide q.q q.h) w:=by
 rw [q3q hx] at h1;rw [q3q hy] at h2;obtain⟨us,rfl,ha⟩:=q4s h1;obtain⟨ws,rfl,hb⟩:=q4s h2;refine⟨us,ws,rfl,rfl,?_⟩;rw [run_equalIn_agg w 9999 t us ws ht.u ht.s];refine qzb (G:=G) (ρ:= ρ) w us ws 0 _ xs ys q hq (fun j x hx=>?_) (fun j x hx=>?_)
 ·rw [Nat.zero_add]
  exact ha j _ (by rw [km,List.getElem?_map,hx];rfl)
 ·rw [Nat.zero_add]
  exact hb j _ (by rw [km,List.getElem?_map,hx];rfl)
theorem zeo {t t':TypeId} {x y:Operand} {vx vy:SV} {xs ys:List SV} {q:DP} (ht:EqT E.P t) (hx:sval N sl x=some vx) (hy:sval N sl y=some vy) (h1:agOf vx=some xs) (h2:agOf vy=some ys) (hq:eqCs E.P 0 (E.P.fieldsOf t).toList xs ys=some q) (h:k ⟨.p (¬ q.q) (@instDecidableNot _ q.h),[],[],nx⟩) :
  ∃ e,Loc E N ops ⟨d,.binOp .neq t x y t',T,p,af,none⟩ nx sl H e∧k e:=by
 refine⟨_,z8 fun df rd K rest ρ t1 S hs hk=>q7 rfl (qy nofun fun B0 w0 G a w _ hI=>?_),h⟩;have e1:=hI.eval x;rw [qv hs hx] at e1;have e2:=hI.eval y;rw [qv hs hy] at e2;obtain⟨us,ws,g1,g2,g3⟩:=zjb ht h1 h2 hq e1 e2 w;generalize a.eval=ev at g1 g2;have hg:(eqGuard .neq t x y (.agg us) (.agg ws)).run E.P w = .ok () w:=run_eqGuard_agg w .neq t x y us ws ht.g
 have hd:(!(@decide q.q q.h)) = @decide (¬ q.q) (@instDecidableNot _ q.h):=by
  rcases (Classical.em q.q) with hq|hq
  ·rw [@decide_eq_true _ q.h hq];exact (@decide_eq_false _ (@instDecidableNot _ q.h) fun h=>h hq).symm
  ·rw [@decide_eq_false _ q.h hq];exact (@decide_eq_true _ (@instDecidableNot _ q.h) hq).symm
 refine⟨.bool (@decide (¬ q.q) (@instDecidableNot _ q.h)),w,G,Bv (@decide (¬ q.q) (@instDecidableNot _ q.h)),S,?_,.refl G,hI.agree,.v _,hk⟩;simp only [← hd];simp [execOp,g1,g2,hg,run_neq_struct,g3]
end
end Go.Av
namespace Go.Av
open Go Go.RowKit
theorem qum {E:Env} {rd:Option Nat} {N:Nat} {B:Bs} {c:Code} {Q:Exit→Conf→Prop} {C:Conf} (d:Nat) {b sz:Nat} {T:TypeId} {ys:List AV} (hd:lkS C.sl d=some (.tp b)) (hb:hpF C.hp b=some (.own sz T ys))
  (h:Sm E rd N B c Q ⟨(d,.a (.sl sz ys none))::C.sl,(b,none)::C.hp,C.nx⟩):Sm E rd N B c Q C:=⟨fun s hs=>by
 obtain⟨t,S,df⟩:=s;obtain⟨ρ,hF,hR⟩:=hs;simp only at hF hR;have ht:=hR.sl d _ hd;have hok:=hR.hp.ok b _ hb;simp only [SV.ev,qc6 hok] at ht;rcases hok with⟨rfl,f1⟩ | ⟨o,ver,cap,pad,f1,f2,f3,f4,f5,f6⟩
 ·have hP:=hR.drop (o:=S.length) hb (fun o' d7=>by rw [f1.loc] at d7;simp at d7) (.inr (List.set_eq_of_length_le (by simp)))
  rw [List.set_eq_of_length_le (by simp)] at hP;refine qyu (t':=Av.put t d (.sl sz [] none)) (fun x=>?_) (h.run ⟨Av.put t d (.sl sz [] none),S,df⟩ ⟨ρ,⟨hF.dm,hF.nd,hF.rig,hF.le,hF.dz⟩,hP.slot d⟩);by_cases e:x=d
  ·subst e
   rw [wi,ht];exact f1.wk sz
  ·rw [yh _ _ _ _ e]
   exact wa _
 ·rw [f1] at ht
  have hP:=hR.drop (o:=o) hb (fun o' d7=>by rw [f1] at d7;simpa [zl] using d7.symm) (.inl (by rw [f1];rfl));have hr:=h.run ⟨Av.put t d (.sl sz ys none),S.set o .dead,df⟩ ⟨ρ,⟨fun x hx=>?_,hF.nd,hF.rig,hF.le,hF.dz⟩,hP.slot d⟩
  ·exact⟨fun B0 w0 G a w hL hI=>by
    obtain⟨G1,h1,h2⟩:=hI.osPub (xs:=ys) (sz:=sz) ht f2 rfl f5 f4 (by rw [List.length_append,zo f4];omega) (by rw [List.drop_zero,← zo f4,List.take_left])
    exact wpIn_mono (hr.run B0 w0 G1 a w hL h2) fun _ _ _ ⟨G',s',hG,k1,k2⟩=>⟨G',s',h1.trans hG,k1,k2⟩⟩
  ·have hm:=hF.dm x hx
   refine⟨?_,hm.2⟩
   have b8:o≠x:=fun e=>by
    rw [← e] at hm;rw [f2] at hm;simp at hm
   simp only;rw [List.getElem?_set_ne b8]
   exact hm.1⟩
section
variable {E : Env} {rd : Option Nat} {N : Nat} {ops : Array Oper} {K : AS → Prop} {s : AS} {rest : List Oper} {d : Option Tmp} {T : TypeId} {p : String} {af : Array Edge}
theorem q2a {x y:Operand} {t:TypeId} {sz:Nat} {agg:Bool} {o ver off:Nat} {T':TypeId} {cs xs:List AV} {r:AV} (hx:qj N s x = .bx o ver off) (hy:Wk (qj N s y) r) (ho:s.st[o]? = some (.cells ver T' cs)) (ht:tyOf E.P t=some (sz,agg))
  (hok:r.okc=true) (hc:r.cells=xs) (f8:xs.length=sz) (h1:∀ z∈xs,z.one=true) (e9:off+sz≤cs.length)
  (h:AOps E rd N ops rest K (AS.put ⟨s.t,s.st.set o (.cells ver T' (zr cs off xs)),s.df⟩ d (.v undef))):AOps E rd N ops (⟨d,.store t x y,T,p,af,none⟩::rest) K s:=by
 refine q7 rfl (qoz nofun fun B0 w0 G a w _ hI=>?_);have he:=hI.eval_of hx;have r9:=hy _ _ (hI.eval y);have cg:=r9.cells hok;generalize hv:a.eval x=v at he;generalize hv2:a.eval y=v2 at r9 cg;rw [hc] at cg
 cases he with
 |bx _ _ _ b hn r7 hb=>
  obtain⟨_,g1,g2,g3,c,g4,g5,g6⟩:=hI.agree.ob o _ ho;have hb:=hb g1;subst hb;have hcl':RelC G xs v2.cells.toList.toArray:=by simpa using cg
  have c8:v2.cells.size=sz:=by rw [← cg.1];exact f8
  have e8:∀ u∈v2.cells.toList,u.oneCell'=true:=fun u hu=>by
   obtain⟨i,hi⟩:=List.getElem?_of_mem hu;obtain⟨z,hz⟩:=qsa hi (Nat.le_of_eq (by simpa using cg.1.symm));exact (cg.2 i z u hz (by simpa using hi)).one (h1 z (List.mem_of_getElem? hz))
  have d8:=run_storeCells_at E.P (G.ob o).blk off T' v2.cells.toList 0 c w g4 (by simp [c8];omega) e8;have dn:=qtf (off:=off) g5 g6 hcl' (by omega);refine⟨_,G,_,?_,.refl G,hI.agree.setRow ho dn.1 dn.2,h⟩;simp only [execOp,hv,hv2,Instr.storeAt,Instr.sureAddr];simp [storeVar,(kw ht w).1,c8,d8]
end
section
variable {E : Env} {N : Nat} {ops : Array Oper} {nx : Nat} {sl : List (Nat × SV)} {H : Nat → Option SR} {k : Ef → Prop} {d : Option Tmp} {T : TypeId} {p : String} {af : Array Edge}
theorem qlo {t e:TypeId} {x y:Operand} {b off sz i j sz':Nat} {agg:Bool} {xs:List AV} {z z' u:AV} {v:SV} (hx:sval N sl x=some (.bx b off)) (hy:sval N sl y=some v) (hf:frz (resF (b::v.ks) H) v=some u) (hH:H b=some (.own sz e xs)) (ht:tyOf E.P t=some (sz',agg)) (ho:off=0+i * sz+j) (hz:xs[i]? = some z) (bd:z'.cells=zr z.cells j u.cells)
  (hj:(u.okc && Nat.beq u.cells.length sz' && jr u.cells && Nat.ble (j+sz') sz)=true) (h:k ⟨.a (.v undef),b::v.ks,[(b,some (.own sz e (xs.set i z')))],nx⟩):∃ e,Loc E N ops ⟨d,.store t x y,T,p,af,none⟩ nx sl H e∧k e:=by
 simp only [Bool.and_eq_true] at hj;obtain⟨⟨⟨j1,j2⟩,j3⟩,j4⟩:=hj;have j2:=Nat.eq_of_beq_eq_true j2;have j4:=Nat.le_of_ble_eq_true j4;have hHb:resF (b::v.ks) H b=some (.own sz e xs):=by unfold resF;simp [memN,hH]
 refine⟨_,fun df rd K rest ρ t' S hs hS hk=>?_,h⟩;rcases hS.ok b _ hHb with⟨rfl,_⟩ | ⟨o,ver,cap,pad,e1,e2,e3,e4,e5,e6⟩
 ·simp at hz
 ·subst ho
  obtain⟨q1,q2⟩:=qr3 (pad:=pad) e4 hz bd (by omega);have d6:=lt_of_getElem? hz
  refine q2a (o:=o) (ver:=ver) (off:=0+i * sz+j) (xs:=u.cells) ((qv hs hx).trans (by simp only [SV.ev,e1,bxAt])) (by rw [qv hs hy];exact qgn hS v u hf) e2 ht j1 rfl j2 (by simpa [jr] using j3) (by
   have h1:i * sz+sz≤xs.length * sz:=by rw [← Nat.succ_mul];exact Nat.mul_le_mul_right _ d6
   rw [List.length_append,zo e4]
   omega) ?_
  rw [q1]
  have l7:∀ y∈xs.set i z',y.cells.length=sz:=fun y hy=>by
   rcases List.mem_or_eq_of_mem_set hy with h|rfl
   ·exact e4 y h
   ·exact q2
  have key:∀ k r,chF [(b,some (.own sz e (xs.set i z')))] (resF (b::v.ks) H) k=some r→(k=b∧r = .own sz e (xs.set i z'))∨(k≠b∧resF (b::v.ks) H k=some r):=fun k r hk=>by
   simp only [chF,lkS] at hk;by_cases e:b=k
   ·subst e
    have:Nat.beq b b=true:=by simp
    rw [this] at hk;simp only [cond_true,Option.some.injEq] at hk;exact .inl ⟨rfl,hk.symm⟩
   ·rw [jb e] at hk
    exact .inr ⟨fun h=>e h.symm,hk⟩
  have sw:∀ k r,k≠b→resF (b::v.ks) H k=some r→∀ o',zl (ρ k)=some o'→o'≠o:=fun k r b8 hk o' d7 e=>hS.sep k b _ _ b8 hk hHb o' d7 (by rw [e1,e];rfl);refine hk ρ _ ⟨fun _ _=>rfl,⟨fun k r hk=>?_,fun k k' r r' b8 g1 g2=>?_⟩,by simp,fun j hj b8=>?_,fun k r hk o' d7=>?_⟩
  ·rcases key k r hk with⟨rfl,rfl⟩ | ⟨b8,hk⟩
   ·refine .inr ⟨o,ver,cap,pad,by rw [e1,List.length_set],x3 e2,?_,l7,by rw [List.length_set];exact e5,e6⟩
    rw [List.length_append,zo l7,List.length_set,← zo e4,← List.length_append];exact e3
   ·have h3:=hS.ok k r hk
    cases r with
    |cells T1 cs=>
     obtain⟨o',v',f1,f2,f3⟩:=h3
     exact⟨o',v',f1,(List.getElem?_set_ne (sw k _ b8 hk o' (by rw [f1];rfl)).symm).trans f2,f3⟩
    |tip z T1 zs=>exact SR.ok_of (f:=fun _=>false) (r:=.tip z T1 zs) (ρ:= ρ) rfl (fun k hk=>by simp at hk) h3 fun o' d7=>List.getElem?_set_ne (sw k _ b8 hk o' d7).symm
    |own z T1 zs=>exact SR.ok_of (f:=fun _=>false) (r:=.own z T1 zs) (ρ:= ρ) rfl (fun k hk=>by simp at hk) h3 fun o' d7=>List.getElem?_set_ne (sw k _ b8 hk o' d7).symm
    |obj P1=>exact SR.ok_of (f:=fun _=>false) (r:=.obj P1) (ρ:= ρ) rfl (fun k hk=>by simp at hk) h3 fun o' d7=>List.getElem?_set_ne (sw k _ b8 hk o' d7).symm
    |rows T1 ys cs=>exact OwnS.of (show OwnS S 1 T1 (ys++SV.evs ρ cs) (ρ k) from h3) fun o' d7=>List.getElem?_set_ne (sw k _ b8 hk o' d7).symm
  ·rcases key k r g1 with⟨rfl,rfl⟩ | ⟨n1,g1⟩
   ·rcases key k' r' g2 with⟨rfl,rfl⟩ | ⟨n2,g2⟩
    ·exact absurd rfl b8
    ·exact fun o' d7=>hS.sep _ _ _ _ b8 hHb g2 o' d7
   ·rcases key k' r' g2 with⟨rfl,rfl⟩ | ⟨n2,g2⟩
    ·exact fun o' d7=>hS.sep _ _ _ _ b8 g1 hHb o' d7
    ·exact fun o' d7=>hS.sep _ _ _ _ b8 g1 g2 o' d7
  ·have:=b8 b _ hHb
   rw [e1] at this;exact List.getElem?_set_ne (fun e=>this (by rw [e];rfl))
  ·rcases key k r hk with⟨rfl,rfl⟩ | ⟨n1,hk⟩
   ·exact .inr ⟨k,_,hHb,d7⟩
   ·exact .inr ⟨k,_,hk,d7⟩
end
end Go.Av
namespace Go.Av
open Go Go.RowKit
theorem zcz (z:Value) (n:Nat):(madeCells #[z] n).toList=List.replicate n z:=by
 apply List.ext_getElem
 ·simp [madeCells]
 ·intro i h1 h2
  simp [madeCells,Nat.mod_one]
section
variable {E : Env} {rd : Option Nat} {N : Nat} {ops : Array Oper} {K : AS → Prop} {s : AS} {rest : List Oper} {d : Option Tmp} {T : TypeId} {p : String} {af : Array Edge}
theorem qyh {t e:TypeId} {i:TypeInfo} {z:Value} {x y:Operand} {kl kc:IntKind} {n:Nat} (hx:qj N s x = .v (.int kl n)) (hy:qj N s y = .v (.int kc n)) (ht:E.P.underlying t=some (.slice e)) (hi:E.P.info? e=some i) (hz:i.zero=some z) (hzc:z.cells = #[z]) (f8:i.size=1)
  (hb:i.bytes * n≤281474976710656) (hn:n≤16777216)
  (h:AOps E rd N ops rest K (AS.put ⟨s.t,s.st++[.cells 0 e ((List.replicate n z).map .v)],s.df⟩ d (.os s.st.length 0 0 n n))):AOps E rd N ops (⟨d,.makeSlice t x y,T,p,af,none⟩::rest) K s:=by
 refine q7 rfl (qy nofun fun B0 w0 G a w _ hI=>?_);have hvx:=hI.evalv hx;have hvy:=hI.evalv hy
 have mb:(i.bytes:Int) * (n:Int)≤281474976710656:=by
  have h:((i.bytes * n:Nat):Int)≤281474976710656:=by omega
  rwa [Int.natCast_mul] at h
 have a8:=run_makeSlice (P:=E.P) w t e i z ht hi hz kl kc n n (by omega) (Int.le_refl _) (by rw [f8];simp;omega) mb (by omega);simp only [Int.toNat_natCast,f8,Nat.mul_one,hzc] at a8;have hl:=zcz z n
 have hA:=hI.agree.newCells e (madeCells #[z] n) ((List.replicate n z).map .v) (by rw [← hl];simp) fun k u v hu hv=>by
  rw [List.getElem?_map,← hl] at hu;have:(madeCells #[z] n).toList[k]? = some v:=by simpa using hv
  rw [this] at hu;simp only [Option.map_some,Option.some.injEq] at hu;subst hu;exact .v v
 have hN:=hI.agree.n;refine⟨.slice (some ⟨w.heap.size,0,none⟩) n n,_,_,_,_,?_,G.le_new _ _ _ _,hA,.os _ _ _ _ _ _ (by simp [Gh.new,hN]) (Nat.zero_le _) (fun _=>by simp [Gh.new,hN]),h⟩;simp only [execOp,hvx,hvy];rw [Sem.run_bind,a8];rfl
end
section
variable {E : Env} {N : Nat} {ops : Array Oper} {nx : Nat} {sl : List (Nat × SV)} {H : Nat → Option SR} {k : Ef → Prop} {d : Option Tmp} {T : TypeId} {p : String} {af : Array Edge}
theorem zc8 {t e:TypeId} {i:TypeInfo} {z:Value} {x y:Operand} {v u:SV} {kl kc:IntKind} {n:Nat} (hx:sval N sl x=some v) (hv:∀ ρ,v.ev ρ = .v (.int kl (n+1:Nat))) (hy:sval N sl y=some u) (hu:∀ ρ,u.ev ρ = .v (.int kc (n+1:Nat))) (ht:E.P.underlying t=some (.slice e)) (hi:E.P.info? e=some i) (hz:i.zero=some z) (hzc:z.cells = #[z]) (f8:i.size=1) (e8:(AV.v z).one=true)
  (hb:i.bytes * (n+1)≤281474976710656) (hn:n+1≤16777216)
  (h:k ⟨.tp nx,[],[(nx,some (.own 1 e ((List.replicate (n+1) z).map .v)))],nx+1⟩):∃ e,Loc E N ops ⟨d,.makeSlice t x y,T,p,af,none⟩ nx sl H e∧k e:=by
 refine⟨_,qhw (fun k r hk=>by rw [qc4] at hk;simp at hk) fun df rd K rest ρ t1 S ho _ hk=>qyh (n:=n+1) ((qv ho hx).trans (hv ρ)) ((qv ho hy).trans (hu ρ)) ht hi hz hzc f8 hb hn ?_,h⟩
 have i3:flat ((List.replicate (n+1) z).map AV.v)=(List.replicate (n+1) z).map AV.v:=by
  unfold flat;rw [List.flatMap_map]
  induction List.replicate (n+1) z with
  |nil=>rfl
  |cons a r ih=>rw [List.flatMap_cons,ih];rfl
 have:=hk (.os S.length 0 0 (n+1) (n+1)) [.cells 0 e ((List.replicate (n+1) z).map .v)]
  (.inr ⟨S.length,0,n,[],by simp,by rw [i3,List.append_nil];exact wh,by rw [i3];simp,fun x hx=>by obtain⟨q,_,rfl⟩:=List.mem_map.1 hx;rfl,by simp,by simp [maxLen];omega⟩)
  (fun o ho=>by simp only [zl,Option.some.injEq] at ho;omega)
 simpa [SV.ev,jq,tpAt,AV.one] using this
end
end Go.Av
namespace Go.Pl
open Go Go.Proofs
structure za where
 kind:Int
 raw:qc
 fields:List Fld
structure PSt where
 lines:List qc
 frm:Int
 full:Bool
 items:List za
 block:List qc
 fields:List Fld
 records:Int
def jn (p:PSt):Option (Int×Int)×PSt:=
 if p.lines=[] then (none,p)
 else if (zq p.lines).2≠0 then (some (p.frm,(zq p.lines).2),p)
 else if p.full=true then (some (p.frm,11),p)
 else (none,{ p with lines:=[],fields:=p.fields++[(zq p.lines).1] })
end Go.Pl
namespace Go.Proofs.YtapblfabkbdgcaaGreatDoor
open Go Go.Av Go.RowKit Go.Proofs Go.Pl
@[reducible] def vr (x : za) : AV := .ag [Iv x.kind, Sv x.raw, zp x.fields]
@[reducible] def w8 (xs : List za) : AV := .sl 3 (xs.map vr) none
@[reducible] def parC (c1 c2 c3 c4 : AV) (p : PSt) : List AV := [c1, Iv p.frm, Bv p.full, c2, c3, c4, Iv p.records]
@[reducible] def parO (c1 c2 c3 c4 : AV) (p : PSt) : AObj := .cells 0 160 (parC c1 c2 c3 c4 p)
structure ParS (b o:Nat) (p:PSt) (st:List AObj) (c1 c2 c3 c4:AV):Prop where
 lt:o<b
 le:b≤st.length
 ob:st[o]? = some (parO c1 c2 c3 c4 p)
 h1:TipC b st 1 9 (p.lines.map fun x=>Sv x) c1
 h2:TipC b st 3 107 (p.items.map vr) c2
 h3:TipC b st 1 9 (p.block.map fun x=>Sv x) c3
 h4:TipC b st 2 98 (p.fields.map fldA) c4
 ne:∀ t xs ys,c1 = .sl 1 xs (some t)→c3 = .sl 1 ys (some t)→False
structure Keep (b o:Nat) (st st':List AObj):Prop where
 len:st.length≤st'.length
 same:∀ k,k≠o→k<st.length→(k<b∨qih st[k]?)→st'[k]? = st[k]?
theorem Keep.trans {b o:Nat} {st st' st'':List AObj} (h:Keep b o st st') (k:Keep b o st' st''):Keep b o st st'':=⟨Nat.le_trans h.len k.len,fun i b8 hi hc=>by
 have e:=h.same i b8 hi hc;refine (k.same i b8 (Nat.lt_of_lt_of_le hi h.len) ?_).trans e;rw [e]
 exact hc⟩
def qgk (a n:Int):AV:=.ifc 73 (.pp [Iv a,.ifc 50 (Iv n)])
def errP:Option (Int×Int)→AV
 |none=>.v .nilIface
 |some (a,n)=>qgk a n
theorem qjy (a n:Int):Pure (qgk a n):=qee (quj fun x hx=>by
 simp only [List.mem_cons,List.not_mem_nil,or_false] at hx;rcases hx with rfl|rfl
 ·exact q8 _
 ·exact qee (q8 _))
theorem qlt (a n:Int) (st:List AObj):qo E 123 [Iv a,.ifc 50 (Iv n)] st fun r st'=>r=qgk a n∧st'=st:=by
 refine ze (qjy a n) (qr Tryz.func123 rfl (Nat.le_of_ble_eq_true rfl) ?_);repeat' (first|(apply qmr;(iterate 3 exact rfl))|apply qm|apply qg|apply qh|apply ql|apply qi|(apply v7;exact rfl;exact rfl)|(apply xk;(iterate 3 exact rfl))|apply q6)
 exact qn rfl (zh rfl) ⟨rfl,_,rfl⟩
theorem q7j (ls:List qc) (t:Option Nat) (st:List AObj) (hB:LsB ls) (h:(zq ls).2=0):qo E 167 [.sl 1 (ls.map fun x=>Sv x) t] st fun r st'=>r = .tu [fldA (zq ls).1,.v .nilIface]∧st'=st:=by
 have:=qmg ls st hB;unfold qf0 at this;rw [h] at this;exact qox (ql8 _ _ _) this
theorem q7k (ls:List qc) (t:Option Nat) (st:List AObj) (hB:LsB ls) (h:(zq ls).2≠0):qo E 167 [.sl 1 (ls.map fun x=>Sv x) t] st fun r st'=>r = .tu [fldA (zq ls).1,.ifc 50 (Iv (zq ls).2)]∧st'=st:=by
 have:=qmg ls st hB;unfold qf0 at this;rw [qkp h] at this;exact qox (ql8 _ _ _) this
structure PB (n:Nat) (p:PSt):Prop where
 small:n<900000
 lines:p.lines.length≤n
 linesV:∀ s∈p.lines,s.length<1000000
 items:p.items.length≤n
 block:p.block.length≤n
 blockV:∀ s∈p.block,s.length<1000000
 fields:p.fields.length≤n
 rec0:0≤p.records
 rec1:p.records≤n
theorem PB.ls {n:Nat} {p:PSt} (h:PB n p):LsB p.lines:=⟨by have:=h.lines;have:=h.small;omega,h.linesV⟩
theorem ParS.pre {b o:Nat} {p:PSt} {st l:List AObj} {c1 c2 c3 c4:AV} (P:ParS b o p st c1 c2 c3 c4):ParS b o p (st++l) c1 c2 c3 c4:=
 ⟨P.lt,by have:=P.le;simp;omega,qbk P.ob,qio P.h1,qio P.h2,qio P.h3,qio P.h4,P.ne⟩
end Go.Proofs.YtapblfabkbdgcaaGreatDoor
namespace Go.Pl
open Go Go.Proofs
def xq (p:PSt):PSt:=
 if p.block=[] then { p with block:=[],fields:=[] }
 else { p with items:=p.items++[⟨if p.fields=[] then 2 else 3,zf p.block,p.fields⟩],records:=if p.fields=[] then p.records else p.records+1,block:=[],fields:=[] }
def endP (p:PSt):Option (Int×Int)×PSt:=match (jn p).1 with
 |some e=>(some e,p)
 |none=>(none,xq (jn p).2)
theorem qne:∀ (x:qc) (r:List qc),Lib.join (x::r) [10]++[10]=zf (x::r)
 |x,[]=>by rw [Lib.join_one];simp [zf]
 |x,y::r=>by
  have ih:=qne y r;rw [Lib.join_cons] at ih ⊢;unfold Lib.joinTail at ih ⊢;simp only [List.map_cons,List.flatten_cons,zf,List.flatMap_cons] at ih ⊢;rw [← ih];simp
theorem ql6:∀ (r:List qc),(∀ s∈r,s.length<1000000)→(zf r).length≤1000001 * r.length
 | [],_=>by simp [zf]
 |a::r,h=>by
  have ih:=ql6 r fun s hs=>h s (by simp [hs]);have ha:=h a (by simp);simp only [zf,List.flatMap_cons,List.length_append,List.length_cons,List.length_nil] at ih ⊢;omega
end Go.Pl
namespace Go.Proofs.YtapblfabkbdgcaaGreatDoor
open Go Go.Av Go.RowKit Go.Proofs Go.Pl
theorem qgm {n:Nat} {p:PSt} (h:PB n p) (hs:n+1<900000):PB (n+1) (jn p).2:=by
 have h1:=h.lines;have h2:=h.items;have h3:=h.block;have h4:=h.fields;have h5:=h.rec0;have h6:=h.rec1;unfold jn;split
 ·exact⟨hs,by simp only;omega,h.linesV,by simp only;omega,by simp only;omega,h.blockV,by simp only;omega,h5,by simp only;omega⟩
 ·split
  ·exact⟨hs,by simp only;omega,h.linesV,by simp only;omega,by simp only;omega,h.blockV,by simp only;omega,h5,by simp only;omega⟩
  ·split
   ·exact⟨hs,by simp only;omega,h.linesV,by simp only;omega,by simp only;omega,h.blockV,by simp only;omega,h5,by simp only;omega⟩
   ·exact⟨hs,by simp,by simp,by simp only;omega,by simp only;omega,h.blockV,by simp;omega,h5,by simp only;omega⟩
theorem zf7 (xs:List qc) (tip:Option Nat) (st:List AObj) (b8:xs≠[]) (hN:xs.length≤900000) (hv:∀ s∈xs,s.length<1000000):qo E 105 [.sl 1 (xs.map fun x=>Sv x) tip,Sv [10]] st fun r st'=>r=Sv (Lib.join xs [10])∧st'=st:=by
 refine q9i xs tip [10] st (by omega) ?_;have h1:=ql6 xs hv
 cases xs with
 |nil=>exact absurd rfl b8
 |cons x r=>
  have h2:=congrArg List.length (qne x r);rw [List.length_append] at h2;simp only [List.length_cons,List.length_nil] at h2 h1 hN;omega
def parH (a:Nat) (p:PSt):List (Nat×Option SR):=[(0,some (.cells 160 [.tp a,.i p.frm,.b p.full,.tp (a+1),.tp (a+2),.tp (a+3),.i p.records])),(a,some (.tip 1 9 (p.lines.map fun x=>Sv x))),(a+1,some (.tip 3 107 (p.items.map vr))),(a+2,some (.tip 1 9 (p.block.map fun x=>Sv x))),(a+3,some (.tip 2 98 (p.fields.map fldA)))]
theorem qp9 (n:Nat) (p:PSt) (hB:PB n p):ko E 125 [.bx 0 0] 5 (hpF (parH 1 p)) ⟨.a (errP (jn p).1),j7 (parH 1 p),parH 5 (jn p).2++vh (parH 1 p),9⟩:=by
 refine wq [.bx 0 0] (parH 1 p) 5 (.a (errP (jn p).1)) (parH 5 (jn p).2) 9 Tryz.func125 rfl rfl rfl rfl fun S F ρ=>?_;have hls:=hB.ls;have cd:=hB.small;have i3:=hB.fields;by_cases h0:p.lines=[]
 ·have e:jn p=(none,p):=by unfold jn;rw [if_pos h0]
  rw [e];have hl0:(p.lines.map fun x=>Sv x).length=0:=by simp [h0]
  apply qf [];repeat' (first|apply And.intro|(intro h;try exact cDd)|exact cSd|apply qd []|refine exr ?_|refine qk ?_)
 ·have hl0:(p.lines.map fun x=>Sv x).length≠0:=by simp [h0]
  by_cases hu:(zq p.lines).2=0
  ·have bc:=fun st=>q7j p.lines none st hls hu
   cases hf:p.full with
   |true=>
    have e:jn p=(some (p.frm,11),p):=by unfold jn;rw [if_neg h0,if_neg (by simp [hu]),if_pos hf]
    rw [e];have rm:=fun st=>qlt p.frm 11 st;apply qf []
    repeat' (first|apply And.intro|(intro h;try exact cDd)|exact⟨Tryz.call167⟩|refine cpe bc ?_|exact⟨Tryz.call123⟩|refine cpe rm ?_|(exact absurd (by assumption:p.full=false) (by rw [hf];decide))|exact cSd|apply qd []|refine exr ?_|refine qk ?_)
   |false=>
    have e:jn p=(none,{ p with lines:=[],fields:=p.fields++[(zq p.lines).1] }):=by unfold jn;rw [if_neg h0,if_neg (by simp [hu]),if_neg (by simp [hf])]
    rw [e];apply qf [51];repeat' (first|apply And.intro|(intro h;try exact cDd)|exact⟨Tryz.call167⟩|refine cpe bc ?_|(exact absurd (by assumption:p.full=true) (by rw [hf];decide))|exact cSd|apply qd [51]|refine exr ?_|refine qk ?_)
    all_goals first|(simp [SV.evs,SV.ev];done)|(simp [SV.evs];omega)
  ·have bc:=fun st=>q7k p.lines none st hls hu
   have e:jn p=(some (p.frm,(zq p.lines).2),p):=by unfold jn;rw [if_neg h0,if_pos hu]
   rw [e];have rm:=fun st=>qlt p.frm (zq p.lines).2 st;apply qf [];repeat' (first|apply And.intro|(intro h;try exact cDd)|exact⟨Tryz.call167⟩|refine cpe bc ?_|exact⟨Tryz.call123⟩|refine cpe rm ?_|exact cSd|apply qd []|refine exr ?_|refine qk ?_)
theorem q4p (n:Nat) (p:PSt) (hB:PB n p) (hs:n+1<900000):ko E 84 [.bx 0 0] 5 (hpF (parH 1 p)) ⟨.a (errP (endP p).1),j7 (parH 1 p),parH 5 (endP p).2++vh (parH 1 p),9⟩:=by
 refine wq [.bx 0 0] (parH 1 p) 5 (.a (errP (endP p).1)) (parH 5 (endP p).2) 9 Tryz.func84 rfl rfl rfl rfl fun S F ρ=>?_;have p6:=qp9 n p hB;have cn:=qgm hB hs
 have t8:∀ e,(jn p).1=some e→(jn p).2=p:=fun e=>by
  unfold jn;split
  ·simp
  ·split
   ·simp
   ·split
    ·simp
    ·simp
 unfold endP;generalize jn p=fq at p6 cn t8;obtain⟨fe,q⟩:=fq
 cases fe with
 |some e=>
  obtain rfl:=t8 e rfl;obtain⟨a,k⟩:=e;apply qf []
  repeat' (first|apply And.intro|(intro h;try exact cDd)|exact⟨Tryz.call125⟩|(refine jk p6 ?_)|exact cSd|apply qd []|refine exr ?_|refine qk ?_)
 |none=>
  dsimp only at cn p6;have h3:=cn.fields;have h4:=cn.rec0;have h5:=cn.rec1;have h1:=cn.block;have h2:=cn.items;by_cases hb:q.block=[]
  ·have e:xq q={ q with block:=[],fields:=[] }:=by unfold xq;rw [if_pos hb]
   simp only [e];have hl0:(q.block.map fun x=>Sv x).length=0:=by simp [hb]
   apply qf [];repeat' (first|apply And.intro|(intro h;try exact cDd)|exact⟨Tryz.call125⟩|(refine jk p6 ?_)|exact cSd|apply qd []|refine exr ?_|refine qk ?_)
  ·have hl0:(q.block.map fun x=>Sv x).length≠0:=by simp [hb]
   have gb:=ql6 q.block cn.blockV
   obtain⟨b,r,hbr⟩:∃ b r,q.block=b::r:=by
    cases hq:q.block with
    |nil=>exact absurd hq hb
    |cons b r=>exact⟨b,r,rfl⟩
   have hjt:=qne b r;rw [← hbr] at hjt;have hjl:=congrArg List.length hjt;simp only [List.length_append,List.length_cons,List.length_nil] at hjl;have hjo:=fun st=>zf7 q.block none st hb (by omega) cn.blockV;by_cases hf:q.fields=[]
   ·have e:xq q={ q with items:=q.items++[⟨2,zf q.block,q.fields⟩],records:=q.records,block:=[],fields:=[] }:=by unfold xq;rw [if_neg hb,if_pos hf,if_pos hf]
    simp only [e];have o7:(q.fields.map fldA).length=0:=by simp [hf]
    apply qf [];repeat' (first|apply And.intro|(intro h;try exact cDd)|exact⟨Tryz.call125⟩|(refine jk p6 ?_)|exact⟨Tryz.call105⟩|refine cpe hjo ?_|exact cSd|apply qd []|refine exr ?_|refine qk ?_)
    all_goals first|(simp [SV.evs,SV.ev,hjt];done)|(simp [SV.evs];omega)
   ·have e:xq q={ q with items:=q.items++[⟨3,zf q.block,q.fields⟩],records:=q.records+1,block:=[],fields:=[] }:=by unfold xq;rw [if_neg hb,if_neg hf,if_neg hf]
    simp only [e];have o7:(q.fields.map fldA).length≠0:=by simp [hf]
    apply qf [];repeat' (first|apply And.intro|(intro h;try exact cDd)|exact⟨Tryz.call125⟩|(refine jk p6 ?_)|exact⟨Tryz.call105⟩|refine cpe hjo ?_|exact cSd|apply qd []|refine exr ?_|refine qk ?_)
    all_goals first|(simp [SV.evs,SV.ev,hjt];done)|(simp [SV.evs];omega)
end Go.Proofs.YtapblfabkbdgcaaGreatDoor
namespace Go.Pl
open Go Go.Proofs
def ki (p:PSt) (no:Int) (text:qc):PSt:={ p with lines:=[text],frm:=no,full:=decide (p.fields.length=40∨(p.fields.length=0∧p.records=400)) }
def jh (p:PSt) (no:Int) (text:qc) (ended:Bool) (kind:Int):Option (Int×Int)×PSt:=
 if kind=3 then
  if p.lines=[] then (some (no,2),p)
  else if ended=true then (none,{ p with lines:=p.lines++[text] })
  else jn { p with lines:=p.lines++[text] }
 else if kind=1 then endP p
 else jn p
def wb (p:PSt) (no:Int) (text:qc) (ended:Bool):Option (Int×Int)×PSt:=
 match (jh p no text ended (qs text)).1 with
 |some e=>(some e,p)
 |none=>
  if qs text=5∨ended=false then (some (no,2),p)
  else if qs text=1 then (none,{ (jh p no text ended (qs text)).2 with items:=(jh p no text ended (qs text)).2.items++[⟨1,text++[10],[]⟩] })
  else if qs text=4 then (none,{ ki (jh p no text ended (qs text)).2 no text with block:=(jh p no text ended (qs text)).2.block++[text] })
  else (none,{ (jh p no text ended (qs text)).2 with block:=(jh p no text ended (qs text)).2.block++[text] })
end Go.Pl
namespace Go.Proofs.YtapblfabkbdgcaaGreatDoor
open Go Go.Av Go.RowKit Go.Proofs Go.Pl
theorem PB.more {n m:Nat} {p:PSt} (h:PB n p) (hm:n≤m) (hs:m<900000):PB m p:=by
 have h1:=h.lines;have h2:=h.items;have h3:=h.block;have h4:=h.fields;have h5:=h.rec0;have h6:=h.rec1;exact⟨hs,by omega,h.linesV,by omega,by omega,h.blockV,by omega,h5,by omega⟩
theorem q8n {n:Nat} {p:PSt} (h:PB n p) (hs:n+1<900000):PB (n+1) (xq p):=by
 have h1:=h.lines;have h2:=h.items;have h3:=h.block;have h4:=h.fields;have h5:=h.rec0;have h6:=h.rec1;unfold xq;split
 ·exact⟨hs,by simp only;omega,h.linesV,by simp only;omega,by simp,by simp,by simp,h5,by simp only;omega⟩
 ·refine⟨hs,by simp only;omega,h.linesV,by simp;omega,by simp,by simp,by simp,?_,?_⟩
  ·simp only;split <;> omega
  ·simp only;split <;> omega
theorem qqo {n:Nat} {p:PSt} {text:qc} (h:PB n p) (hs:n+1<900000) (ht:text.length<1000000):PB (n+1) { p with lines:=p.lines++[text] }:=by
 have h1:=h.lines;have h2:=h.items;have h3:=h.block;have h4:=h.fields;have h5:=h.rec0;have h6:=h.rec1;exact⟨hs,by simp;omega,qlm h.linesV ht,by simp only;omega,by simp only;omega,h.blockV,by simp only;omega,h5,by simp only;omega⟩
theorem q0s {n:Nat} {p:PSt} {text:qc} (h:PB n p) (hs:n+1<900000) (ht:text.length<1000000):PB (n+1) { p with block:=p.block++[text] }:=by
 have h1:=h.lines;have h2:=h.items;have h3:=h.block;have h4:=h.fields;have h5:=h.rec0;have h6:=h.rec1;exact⟨hs,by simp only;omega,h.linesV,by simp only;omega,by simp;omega,qlm h.blockV ht,by simp only;omega,h5,by simp only;omega⟩
theorem zdd {n:Nat} {p:PSt} {x:za} (h:PB n p) (hs:n+1<900000):PB (n+1) { p with items:=p.items++[x] }:=by
 have h1:=h.lines;have h2:=h.items;have h3:=h.block;have h4:=h.fields;have h5:=h.rec0;have h6:=h.rec1;exact⟨hs,by simp only;omega,h.linesV,by simp;omega,by simp only;omega,h.blockV,by simp only;omega,h5,by simp only;omega⟩
theorem zdc {n:Nat} {p:PSt} {no:Int} {text:qc} (h:PB n p) (hs:n+1<900000) (ht:text.length<1000000):PB (n+1) (ki p no text):=by
 have h1:=h.lines;have h2:=h.items;have h3:=h.block;have h4:=h.fields;have h5:=h.rec0;have h6:=h.rec1;exact⟨hs,by simp [ki],by simp [ki,ht],by simp only [ki];omega,by simp only [ki];omega,h.blockV,by simp only [ki];omega,h5,by simp only [ki];omega⟩
theorem qir {n:Nat} {p:PSt} {no:Int} {text:qc} {ended:Bool} {kind:Int} (h:PB n p) (hs:n+2<900000) (ht:text.length<1000000):PB (n+2) (jh p no text ended kind).2:=by
 unfold jh;split
 ·split
  ·exact h.more (by omega) hs
  ·split
   ·exact (qqo h (by omega) ht).more (by omega) hs
   ·exact qgm (qqo h (by omega) ht) hs
 ·split
  ·unfold endP
   split
   ·exact h.more (by omega) hs
   ·exact q8n (qgm h (by omega)) hs
  ·exact (qgm h (by omega)).more (by omega) hs
theorem qsj (l:qc):1≤qs l∧qs l≤5:=by
 unfold qs;repeat' split
 all_goals decide
theorem qqx {n:Nat} {p:PSt} {no:Int} {text:qc} {ended:Bool} (h:PB n p) (hs:n+4<900000) (ht:text.length<1000000):PB (n+4) (wb p no text ended).2:=by
 have h2:PB (n+2) (jh p no text ended (qs text)).2:=qir h (by omega) ht;unfold wb;split
 ·exact h.more (by omega) hs
 ·split
  ·exact h.more (by omega) hs
  ·split
   ·exact (zdd h2 (by omega)).more (by omega) hs
   ·split
    ·exact q0s (zdc h2 (by omega) ht) hs ht
    ·exact (q0s h2 (by omega) ht).more (by omega) hs
theorem zaa (n:Nat) (p:PSt) (no at':Int) (text:qc) (ended:Bool) (hB:PB n p):ko E 124 [.bx 0 0,.ag [.i no,.i at',.s text,.b ended]] 5 (hpF (parH 1 p)) ⟨.tu [],j7 (parH 1 p),parH 5 (ki p no text)++vh (parH 1 p),9⟩:=by
 refine wq [.bx 0 0,.ag [.i no,.i at',.s text,.b ended]] (parH 1 p) 5 (.tu []) (parH 5 (ki p no text)) 9 Tryz.func124 rfl rfl rfl rfl fun S F ρ=>?_;obtain⟨ls,fr,fu,its,bk,fs,rc⟩:=p;have i6:(fs.map fldA).length=fs.length:=by simp
 by_cases ha:fs.length=40∨(fs.length=0∧rc=400)
 ·have e:ki ⟨ls,fr,fu,its,bk,fs,rc⟩ no text=⟨[text],no,true,its,bk,fs,rc⟩:=by
   unfold ki;simp only [decide_eq_true ha]
  rw [e];apply qf [29];repeat' (first|apply And.intro|(intro h;try exact cDd)|exact cSd|apply qd [29]|refine exr ?_|refine qk ?_)
  all_goals (intros;simp only [i6] at *;first|(exfalso;omega)|(have hrc:rc=400:=(by omega);subst hrc;rfl))
 ·have e:ki ⟨ls,fr,fu,its,bk,fs,rc⟩ no text=⟨[text],no,false,its,bk,fs,rc⟩:=by
   unfold ki;simp only [decide_eq_false ha]
  rw [e];apply qf [29];repeat' (first|apply And.intro|(intro h;try exact cDd)|exact cSd|apply qd [29]|refine exr ?_|refine qk ?_)
  all_goals (intros;simp only [i6] at *;first|(exfalso;omega)|(have hrc:¬ rc=400:=(by omega);simp [SV.evs,SV.ev,SV.rens,SV.ren,lkS,vu,hrc];exact⟨rfl,rfl,rfl⟩))
theorem qwf (n:Nat) (p:PSt) (no at':Int) (text:qc) (ended:Bool) (kind:Int) (hB:PB n p) (hs:n+2<900000) (ht:text.length<1000000):ko E 122 [.bx 0 0,.ag [.i no,.i at',.s text,.b ended],.i kind] 5 (hpF (parH 1 p)) ⟨.a (errP (jh p no text ended kind).1),j7 (parH 1 p),parH 5 (jh p no text ended kind).2++vh (parH 1 p),9⟩:=by
 refine wq [.bx 0 0,.ag [.i no,.i at',.s text,.b ended],.i kind] (parH 1 p) 5 (.a (errP (jh p no text ended kind).1)) (parH 5 (jh p no text ended kind).2) 9 Tryz.func122 rfl rfl rfl rfl fun S F ρ=>?_;unfold jh;by_cases cz:kind=3
 ·rw [if_pos cz]
  by_cases h0:p.lines=[]
  ·rw [if_pos h0]
   have hl0:(p.lines.map fun x=>Sv x).length=0:=by simp [h0]
   have rm:=fun st=>qlt no 2 st;apply qf [];repeat' (first|apply And.intro|(intro h;try exact cDd)|exact⟨Tryz.call123⟩|refine cpe rm ?_|exact cSd|apply qd []|refine exr ?_|refine qk ?_)
  ·rw [if_neg h0]
   have hl0:(p.lines.map fun x=>Sv x).length≠0:=by simp [h0]
   have lw:=hB.lines;have cd:=hB.small;have i6:(p.lines.map fun x=>Sv x).length=p.lines.length:=by simp
   have p6:=qp9 (n+1) { p with lines:=p.lines++[text] } (qqo hB (by omega) ht)
   cases ended with
   |true=>
    rw [if_pos rfl];apply qf [];repeat' (first|apply And.intro|(intro h;try exact cDd)|(exact absurd (by assumption:true=false) (by decide))|exact cSd|apply qd []|refine exr ?_|refine qk ?_)
    all_goals first|(simp [SV.evs,SV.ev];done)|(simp [SV.evs];omega)
   |false=>
    rw [if_neg (by decide)];apply qf [];repeat' (first|apply And.intro|(intro h;try exact cDd)|(exact absurd (by assumption:false=true) (by decide))|exact⟨Tryz.call125⟩|(refine jk p6 ?_)|exact cSd|apply qd []|refine exr ?_|refine qk ?_)
    all_goals first|(simp [SV.evs,SV.ev];done)|(simp [SV.evs];omega)
 ·rw [if_neg cz]
  by_cases bg:kind=1
  ·rw [if_pos bg]
   have p6:=q4p n p hB (by omega);apply qf [];repeat' (first|apply And.intro|(intro h;try exact cDd)|exact⟨Tryz.call84⟩|(refine jk p6 ?_)|exact cSd|apply qd []|refine exr ?_|refine qk ?_)
  ·rw [if_neg bg]
   have p6:=qp9 n p hB;apply qf [];repeat' (first|apply And.intro|(intro h;try exact cDd)|exact⟨Tryz.call125⟩|(refine jk p6 ?_)|exact cSd|apply qd []|refine exr ?_|refine qk ?_)
theorem zdg (n:Nat) (p:PSt) (no at':Int) (text:qc) (ended:Bool) (hB:PB n p) (hs:n+4<900000) (ht:text.length<1000000) (hok:(wb p no text ended).1=none):ko E 83 [.bx 0 0,.ag [.i no,.i at',.s text,.b ended]] 5 (hpF (parH 1 p)) ⟨.a (.v .nilIface),j7 (parH 1 p),parH 5 (wb p no text ended).2++vh (parH 1 p),9⟩:=by
 refine wq [.bx 0 0,.ag [.i no,.i at',.s text,.b ended]] (parH 1 p) 5 (.a (.v .nilIface)) (parH 5 (wb p no text ended).2) 9 Tryz.func83 rfl rfl rfl rfl fun S F ρ=>?_;have p6:=qwf n p no at' text ended (qs text) hB (by omega) ht;have mw:=qir (no:=no) (text:=text) (ended:=ended) (kind:=qs text) hB (by omega) ht;have hkr:=qsj text;have lv:=fun st=>qnf text st (by omega);unfold wb at hok ⊢;generalize jh p no text ended (qs text)=fq at p6 mw hok ⊢;obtain⟨fe,q⟩:=fq
 cases fe with
 |some e=>exact absurd hok (by simp)
 |none=>
  dsimp only at mw p6 hok ⊢;have h1:=mw.block;have h2:=mw.items;have hmb:(q.block.map fun x=>Sv x).length=q.block.length:=by simp
  have hmi:(q.items.map vr).length=q.items.length:=by simp
  by_cases hk:qs text=5∨ended=false
  ·rw [if_pos hk] at hok
   exact absurd hok (by simp)
  ·rw [if_neg hk] at hok ⊢
   have hk5:qs text≠5:=fun h=>hk (.inl h);obtain rfl:ended=true:=by cases ended <;> simp_all
   by_cases bg:qs text=1
   ·rw [if_pos bg]
    apply qf [];repeat' (first|apply And.intro|(intro h;try exact cDd)|exact⟨Tryz.call121⟩|refine cpe lv ?_|exact⟨Tryz.call122⟩|(refine jk p6 ?_)|(exact absurd (by assumption:true=false) (by decide))|exact cSd|apply qd []|refine exr ?_|refine qk ?_)
    all_goals first|(simp [SV.evs,SV.ev];done)|(simp [SV.evs];omega)
   ·rw [if_neg bg]
    by_cases hk4:qs text=4
    ·rw [if_pos hk4]
     have sc:=zaa (n+2) q no at' text true mw;apply qf [];repeat' (first|apply And.intro|(intro h;try exact cDd)|exact⟨Tryz.call121⟩|refine cpe lv ?_|exact⟨Tryz.call122⟩|(refine jk p6 ?_)|exact⟨Tryz.call124⟩|(refine jk sc ?_)|(exact absurd (by assumption:true=false) (by decide))|exact cSd|apply qd []|refine exr ?_|refine qk ?_)
     all_goals first|(simp [SV.evs,SV.ev,ki];done)|(simp [SV.evs,ki];omega)
    ·rw [if_neg hk4]
     apply qf [];repeat' (first|apply And.intro|(intro h;try exact cDd)|exact⟨Tryz.call121⟩|refine cpe lv ?_|exact⟨Tryz.call122⟩|(refine jk p6 ?_)|(exact absurd (by assumption:true=false) (by decide))|exact cSd|apply qd []|refine exr ?_|refine qk ?_)
     all_goals first|(simp [SV.evs,SV.ev];done)|(simp [SV.evs];omega)
theorem zdh (n:Nat) (p:PSt) (no at':Int) (text:qc) (ended:Bool) (hB:PB n p) (hs:n+4<900000) (ht:text.length<1000000) (a m:Int) (hok:(wb p no text ended).1=some (a,m)):ko E 83 [.bx 0 0,.ag [.i no,.i at',.s text,.b ended]] 5 (hpF (parH 1 p)) ⟨.a (qgk a m),j7 (parH 1 p),parH 5 (jh p no text ended (qs text)).2++vh (parH 1 p),9⟩:=by
 refine wq [.bx 0 0,.ag [.i no,.i at',.s text,.b ended]] (parH 1 p) 5 (.a (qgk a m)) (parH 5 (jh p no text ended (qs text)).2) 9 Tryz.func83 rfl rfl rfl rfl fun S F ρ=>?_;have p6:=qwf n p no at' text ended (qs text) hB (by omega) ht;have mw:=qir (no:=no) (text:=text) (ended:=ended) (kind:=qs text) hB (by omega) ht;have hkr:=qsj text;have lv:=fun st=>qnf text st (by omega);unfold wb at hok;generalize jh p no text ended (qs text)=fq at p6 mw hok ⊢;obtain⟨fe,q⟩:=fq
 cases fe with
 |some e=>
  dsimp only at mw p6 hok ⊢;obtain rfl:e=(a,m):=by simpa using hok
  apply qf []
  repeat' (first|apply And.intro|(intro h;try exact cDd)|exact⟨Tryz.call121⟩|refine cpe lv ?_|exact⟨Tryz.call122⟩|(refine jk p6 ?_)|exact cSd|apply qd []|refine exr ?_|refine qk ?_)
 |none=>
  dsimp only at mw p6 hok ⊢;by_cases hk:qs text=5∨ended=false
  ·rw [if_pos hk] at hok
   obtain⟨rfl,rfl⟩:no=a∧2=m:=by simpa using hok
   have rm:=fun st=>qlt no 2 st
   cases ended with
   |true=>
    have hk5:qs text=5:=by simpa using hk
    apply qf []
    repeat' (first|apply And.intro|(intro h;try exact cDd)|exact⟨Tryz.call121⟩|refine cpe lv ?_|exact⟨Tryz.call123⟩|refine cpe rm ?_|exact⟨Tryz.call122⟩|(refine jk p6 ?_)|(exact absurd (by assumption:true=false) (by decide))|exact cSd|apply qd []|refine exr ?_|refine qk ?_)
   |false=>
    apply qf [];repeat' (first|apply And.intro|(intro h;try exact cDd)|exact⟨Tryz.call121⟩|refine cpe lv ?_|exact⟨Tryz.call123⟩|refine cpe rm ?_|exact⟨Tryz.call122⟩|(refine jk p6 ?_)|(exact absurd (by assumption:false=true) (by decide))|exact cSd|apply qd []|refine exr ?_|refine qk ?_)
  ·rw [if_neg hk] at hok
   split at hok
   ·simp at hok
   ·split at hok
    ·simp at hok
    ·simp at hok
end Go.Proofs.YtapblfabkbdgcaaGreatDoor
namespace Go.Pl
open Go Go.Proofs
def p0:PSt:=⟨[],0,false,[],[],[],0⟩
def runL:Nat→List (qc×Bool)→PSt→Option (Int×Int)×PSt
 | _,[],p=>endP p
 |k,(t,e)::r,p=>match (wb p k t e).1 with
  |some x=>(some x,p)
  |none=>runL (k+1) r (wb p k t e).2
def jj (text:qc):Option (Int×Int)×List za:=match (runL 0 (zj text) p0).1 with
 |some e=>(some e,[])
 |none=>(none,(runL 0 (zj text) p0).2.items)
end Go.Pl
namespace Go.Proofs.YtapblfabkbdgcaaGreatDoor
open Go Go.Av Go.RowKit Go.Proofs Go.Pl
theorem q87 (x:Option (Int×Int)):Pure (errP x):=by
 rcases x with _ | ⟨a,n⟩
 ·exact q8 _
 ·exact qjy a n
theorem q6g (f:Fld):qn8 (fldA f):=fun x hx=>by
 simp only [AV.cells,List.mem_cons,List.not_mem_nil,or_false] at hx;rcases hx with rfl|rfl <;> exact q8 _
theorem qa6 (fs:List Fld):Pure (zp fs):=qch fun x hx=>by
 obtain⟨f,_,rfl⟩:=List.mem_map.1 hx;exact q6g f
theorem qj1 (x:za):qn8 (vr x):=fun y hy=>by
 simp only [AV.cells,List.mem_cons,List.not_mem_nil,or_false] at hy;rcases hy with rfl|rfl|rfl
 ·exact q8 _
 ·exact q8 _
 ·exact qa6 _
theorem qga (xs:List za):Pure (w8 xs):=qch fun x hx=>by
 obtain⟨f,_,rfl⟩:=List.mem_map.1 hx;exact qj1 f
theorem j9 {x y:AV} (hx:Pure x) (hy:Pure y):Pure (.tu [x,y]):=qev fun z hz=>by
 simp only [List.mem_cons,List.not_mem_nil,or_false] at hz;rcases hz with rfl|rfl
 ·exact hx
 ·exact hy
def qc1 (text:qc):AV:=.tu [w8 (jj text).2,errP (jj text).1]
theorem q23 (text:qc):Pure (qc1 text):=j9 (qga _) (q87 _)
theorem qpi {S:List AObj} {o k:Nat} {x:AObj} (h:k≠o):(S.set o x)[k]? = S[k]?:=List.getElem?_set_ne (Ne.symm h)
theorem qxv:PB 0 p0:=⟨by omega,by simp [p0],by simp [p0],by simp [p0],by simp [p0],by simp [p0],by simp [p0],by simp [p0],by simp [p0]⟩
theorem qqu (text:qc) (st:List AObj) (hl:text.length≤60000):qo E 49 [Sv text] st fun r st'=>r=qc1 text∧st'=st:=by
 refine zw [.s text] (q23 text) Tryz.func49 rfl rfl (fun _=>rfl) rfl fun S0=>?_;apply qf [13];repeat' (first|apply And.intro|(intro h;try exact cDd)|exact⟨Tryz.call82⟩|(refine Exists.intro _ ⟨qtg _,?_⟩)|exact cSd|apply qd [13]|refine exr ?_|refine qk ?_)
 refine qkv (X:=PSt×Option (Int×Int)) text 4 5 [0,1,2,3,4] (fun (p,e)=>⟨[(2,.bx 0 0),(3,.bx 1 0),(4,.bx 2 0),(15,.fn (.func 120) [] [.bx 4 0])],
   [(0,some (.cells 100 [.a zy])),(1,some (.cells 31 [.a (errP e)])),(2,some (.cells 156 [.bx 3 0])),(3,some (.cells 160 [.tp 5,.i p.frm,.b p.full,.tp 6,.tp 7,.tp 8,.i p.records])),(4,some (.cells 9 [.s text])),
    (5,some (.tip 1 9 (p.lines.map fun x=>Sv x))),(6,some (.tip 3 107 (p.items.map vr))),(7,some (.tip 1 9 (p.block.map fun x=>Sv x))),(8,some (.tip 2 98 (p.fields.map fldA)))],9⟩) _
  (fun k rest (p,e)=>e=none∧PB (4 * k) p∧k+rest.length≤text.length∧runL 0 (zj text) p0=runL k (zj rest) p)
  (fun c (p,e)=>∃ a m,c = .ret∧e=some (a,m)∧(runL 0 (zj text) p0).1=some (a,m)) (p0,none) ⟨rfl,qxv,by omega,rfl⟩ ?_ id (by omega) (fun _=>rfl) rfl (fun _=>rfl) (fun _=>rfl) rfl ?_ ?_ ?_
 ·skip
  repeat' (first|apply And.intro|(intro h;try exact cDd)|exact cSd|apply qd []|refine exr ?_|refine qk ?_)
 ·rintro k rest ⟨p,e⟩ ⟨rfl,hB,hkl,a8⟩ b8 d5
  have dp:=vw b8;have hu:=vk 10 rest;have t6:=vo 10 rest;have dg:0<rest.length:=List.length_pos_iff.2 b8;rw [dp] at a8;simp only [runL] at a8;unfold qof;generalize dq:decide (10∈rest)=en at a8;generalize upto 10 rest=up at hu a8 ⊢;have cn:=qqx (no:=k) (text:=up) (ended:=en) hB (by omega) (by omega)
  cases hah:(wb p k up en).1 with
  |some e=>
   obtain⟨a,m⟩:=e;rw [hah] at a8;simp only at a8;have r6:=zdh (4 * k) p k ((text.length:Int) - rest.length) up en hB (by omega) (by omega) a m hah;refine RA.mk fun S F ρ rd=>?_;apply qf [];repeat' (first|apply And.intro|(intro h;try exact cDd)|(refine RB.mk fun S rd=>?_;apply qf [])|exact⟨Tryz.call83⟩|(refine jk r6 ?_)|(refine Exists.intro ((jh p k up en (qs up)).2,some (a,m)) ⟨⟨a,m,rfl,rfl,by rw [a8]⟩,?_⟩)|exact cSd|apply qd []|refine exr ?_|refine qk ?_)
   all_goals (rw [← dq];rfl)
  |none=>
   rw [hah] at a8;simp only at a8;have r6:=zdg (4 * k) p k ((text.length:Int) - rest.length) up en hB (by omega) (by omega) hah;refine RA.mk fun S F ρ rd=>?_;apply qf [];repeat' (first|apply And.intro|(intro h;try exact cDd)|(refine RB.mk fun S rd=>?_;apply qf [])|exact⟨Tryz.call83⟩|(refine jk r6 ?_)|(refine Exists.intro ((wb p k up en).2,none) ⟨⟨rfl,cn,by omega,a8⟩,?_⟩)|exact cSd|apply qd []|refine exr ?_|refine qk ?_)
   all_goals (rw [← dq];rfl)
 ·rintro k ⟨p,e⟩ ⟨rfl,hB,hkl,a8⟩
  have tq:runL k (zj []) p=endP p:=by rw [kv];rfl
  rw [tq] at a8;have hpe:=q4p (4 * k) p hB (by omega);generalize endP p=fq at a8 hpe;obtain⟨fe,q⟩:=fq
  cases fe with
  |some e=>
   have hpf:qc1 text = .tu [w8 [],errP (some e)]:=by unfold qc1 jj;rw [a8]
   rw [hpf];obtain⟨a,m⟩:=e
   repeat' (first|apply And.intro|(intro h;try exact cDd)|exact⟨Tryz.call84⟩|(refine jk hpe ?_)|exact cSd|apply qd []|refine exr ?_|refine qk ?_)
  |none=>
   have hpf:qc1 text = .tu [w8 q.items,errP none]:=by unfold qc1 jj;rw [a8]
   rw [hpf];dsimp only at hpe;repeat' (first|apply And.intro|(intro h;try exact cDd)|exact⟨Tryz.call84⟩|(refine jk hpe ?_)|exact cSd|apply qd []|refine exr ?_|refine qk ?_)
 ·rintro c ⟨p,e⟩ ⟨a,m,rfl,rfl,tq⟩
  have hpf:qc1 text = .tu [w8 [],errP (some (a,m))]:=by unfold qc1 jj;rw [tq]
  rw [hpf];repeat' (first|apply And.intro|(intro h;try exact cDd)|exact cSd|apply qd []|refine exr ?_|refine qk ?_)
end Go.Proofs.YtapblfabkbdgcaaGreatDoor
namespace Go.Proofs.YtapblfabkbdgcaaGreatDoor
open Go Go.RowKit Go.Extern.Stop Go.Stop Go.Extern Go.Proofs
theorem asT.valueOf27 (t:Addr) (w:World):(ReflectliteValue.unpack (.iface 247 (.pointer (some t)))).run Tryz.prog w
  = .ok (.agg #[.pointer (some ⟨9,247,none⟩),.pointer (some ⟨w.heap.size,0,none⟩),.int .u64 150]) (w.alloc (.cells #[.pointer (some t)] 247)):=by kernel_rfl
theorem asT.type27 (a : Addr) (w : World) : (ReflectliteValue.methodAny (ReflectliteValue.valueError "reflectlite.Value.Type" 0) (fun t _ _ _ => ReflectliteType.toType t) #[.agg #[.pointer (some ⟨9, 247, none⟩), .pointer (some a), .int .u64 150]]).run Tryz.prog w
  = .ok (.iface 298 (.agg #[.pointer (some ⟨9,247,none⟩)])) w:=by kernel_rfl
theorem asT.methodKind (h : Value) (w : World) : (Go.method 460 298 (.agg #[h]) "Kind").run Tryz.prog w = .ok (259, h) w := by kernel_rfl
theorem asT.kind27 (w:World):((ReflectliteType.abiMethod fun t=>(fun a:Nat=>Value.int IntKind.u8 (a:Int)) <$> Rtype.kind t) #[.pointer (some ⟨9,247,none⟩)]).run Tryz.prog w = .ok (.int .u8 22) w:=by kernel_rfl
theorem asT.kind25 (w:World):((ReflectliteType.abiMethod fun t=>(fun a:Nat=>Value.int IntKind.u8 (a:Int)) <$> Rtype.kind t) #[.pointer (some ⟨9,73,none⟩)]).run Tryz.prog w = .ok (.int .u8 22) w:=by kernel_rfl
theorem rlm (z:Sem Value) (f:TypeId→Addr→Nat→Nat→Sem Value) (v:Value) :
  ReflectliteValue.method z f #[v]=(do match ← ReflectliteValue.parts v with|none=>z|some (t,a,fl)=>f t a fl (fl % 32)):=rfl
theorem asT.parts27 (a:Addr) (w:World):(ReflectliteValue.parts (.agg #[.pointer (some ⟨9,247,none⟩),.pointer (some a),.int .u64 150])).run Tryz.prog w = .ok (some (247,a,150)) w:=by kernel_rfl
theorem asT.isNil27 (a p:Addr) (W:World) (ha:W.cell? a=some (.pointer (some p))) :
  (ReflectliteValue.method (ReflectliteValue.valueError "reflectlite.Value.IsNil" 0) ReflectliteValue.isNil #[.agg #[.pointer (some ⟨9, 247, none⟩), .pointer (some a), .int .u64 150]]).run Tryz.prog W = .ok (.bool false) W := by
 rw [rlm];simp only [Sem.run_bind,asT.parts27,Result.andThen];simp [ReflectliteValue.isNil,loadVar,isAgg,underlying,Tryz.underlying247,ha,Result.andThen]
theorem asT.methodElem (h : Value) (w : World) : (Go.method 460 298 (.agg #[h]) "Elem").run Tryz.prog w = .ok (276, .agg #[h]) w := by kernel_rfl
theorem asT.methodImplements (h : Value) (w : World) : (Go.method 460 298 (.agg #[h]) "Implements").run Tryz.prog w = .ok (277, .agg #[h]) w := by kernel_rfl
theorem asT.methodAssignableTo (h : Value) (w : World) : (Go.method 460 298 (.agg #[h]) "AssignableTo").run Tryz.prog w = .ok (274, .agg #[h]) w := by kernel_rfl
theorem asT.elem27 (w:World):(ReflectliteType.method ReflectliteType.elem #[.agg #[.pointer (some ⟨9,247,none⟩)]]).run Tryz.prog w = .ok (.iface 298 (.agg #[.pointer (some ⟨9,73,none⟩)])) w:=by kernel_rfl
theorem asT.implements25 (w : World) : (ReflectliteType.relation "Implements" ReflectliteType.implements_ #[.agg #[.pointer (some ⟨9, 73, none⟩)], .iface 298 (.agg #[.pointer (some ⟨9, 31, none⟩)])]).run Tryz.prog w = .ok (.bool true) w := by kernel_rfl
theorem asT.typeOf25 (v:Value) (w:World):(ReflectliteType.typeOf #[.iface 73 v]).run Tryz.prog w = .ok (.iface 298 (.agg #[.pointer (some ⟨9,73,none⟩)])) w:=by kernel_rfl
theorem asT.assignable25 (w : World) : (ReflectliteType.relation "AssignableTo" ReflectliteType.assignableTo #[.agg #[.pointer (some ⟨9, 73, none⟩)], .iface 298 (.agg #[.pointer (some ⟨9, 73, none⟩)])]).run Tryz.prog w = .ok (.bool true) w := by kernel_rfl
theorem asT.valueOf25 (e:Addr) (w:World):(ReflectliteValue.unpack (.iface 73 (.pointer (some e)))).run Tryz.prog w
  = .ok (.agg #[.pointer (some ⟨9,73,none⟩),.pointer (some ⟨w.heap.size,0,none⟩),.int .u64 150]) (w.alloc (.cells #[.pointer (some e)] 73)):=by kernel_rfl
theorem asT.elemOf27 (w:World):(Rtype.elem? 247).run Tryz.prog w = .ok (some 73) w:=by kernel_rfl
theorem asT.mk25 (p:Addr) (w:World):(ReflectliteValue.mk 73 p ReflectliteValue.flagAddr).run Tryz.prog w = .ok (.agg #[.pointer (some ⟨9,73,none⟩),.pointer (some p),.int .u64 406]) w:=by kernel_rfl
theorem asT.elemV27 (a p:Addr) (W:World) (ha:W.cell? a=some (.pointer (some p))) :
  (ReflectliteValue.method (ReflectliteValue.valueError "reflectlite.Value.Elem" 0) ReflectliteValue.elem #[.agg #[.pointer (some ⟨9, 247, none⟩), .pointer (some a), .int .u64 150]]).run Tryz.prog W
   = .ok (.agg #[.pointer (some ⟨9,73,none⟩),.pointer (some p),.int .u64 406]) W:=by
 rw [rlm];simp only [Sem.run_bind,asT.parts27,Result.andThen];simp [ReflectliteValue.elem,loadVar,isAgg,underlying,Tryz.underlying247,ha,Result.andThen,asT.elemOf27,asT.mk25]
theorem rls (v x:Value):ReflectliteValue.set #[v,x]=(do
  let (some (dst,a,fl),some (src,b,_)):=(← ReflectliteValue.parts v,← ReflectliteValue.parts x)
   | unsupported (.noEntry "extern/(internal/reflectlite.Value).Set.zeroValue")
  if fl / ReflectliteValue.flagAddr % 2 == 0 then unsupported (.noEntry "extern/(internal/reflectlite.Value).Set.unaddressable")
  let val ← loadVar src b
  if ← Rtype.directlyAssignable dst src then storeVar dst a val
  else if ← Rtype.implements dst src then
   if (← Rtype.kind src) == 20 then
    match val with
    | .nilIface => unsupported (.noEntry "extern/reflectlite: a nil value of one interface type handed on as a value of another")
    | _=>storeVar dst a val
   else storeVar dst a (.iface src val)
  else panicString ("reflectlite.Set: value of type " ++ (← Rtype.spelt src) ++ " is not assignable to type " ++ (← Rtype.spelt dst))
  pure (.tuple #[])):=rfl
theorem asT.parts25a (a:Addr) (w:World):(ReflectliteValue.parts (.agg #[.pointer (some ⟨9,73,none⟩),.pointer (some a),.int .u64 406])).run Tryz.prog w = .ok (some (73,a,406)) w:=by kernel_rfl
theorem asT.parts25 (a:Addr) (w:World):(ReflectliteValue.parts (.agg #[.pointer (some ⟨9,73,none⟩),.pointer (some a),.int .u64 150])).run Tryz.prog w = .ok (some (73,a,150)) w:=by kernel_rfl
theorem asT.direct25 (w:World):(Rtype.directlyAssignable 73 73).run Tryz.prog w = .ok true w:=by kernel_rfl
theorem asT.set25 (ta b e:Addr) (old:Value) (W:World) (hb:W.cell? b=some (.pointer (some e))) (ht:W.cell? ta=some old) (hf:W.frozen? ta=false) :
  (ReflectliteValue.set #[.agg #[.pointer (some ⟨9,73,none⟩),.pointer (some ta),.int .u64 406],.agg #[.pointer (some ⟨9,73,none⟩),.pointer (some b),.int .u64 150]]).run Tryz.prog W
   = .ok (.tuple #[]) (W.setCell ta (.pointer (some e))):=by
 rw [rls];simp only [Sem.run_bind,asT.parts25a,asT.parts25,Result.andThen];simp [ReflectliteValue.flagAddr,loadVar,isAgg,underlying,Tryz.underlying73,hb,Result.andThen,asT.direct25,storeVar,Value.cells,storeCells,Addr.add];rw [run_store Tryz.prog W ta _ _ (by rfl)];simp [ht,hf]
set_option maxHeartbeats 4000000 in
theorem zhy (e t:Addr) (old:Value) (w:World) (hg:w.cell? ⟨1,0,none⟩=some (.iface 298 (.agg #[.pointer (some ⟨9,31,none⟩)]))) (ht0:w.cell? t=some old) (hf0:w.frozen? t=false) :
  Calls Tryz.prog 172 #[.iface 73 (.pointer (some e)),.iface 247 (.pointer (some t))] w fun ev w'=>ev = .returned (.bool true)∧w'=((((w.alloc (.cells #[.pointer (some t)] 247)).alloc (.cells #[.pointer (some ⟨9,247,none⟩),.pointer (some ⟨w.heap.size,0,none⟩),.int .u64 150] 272)).alloc (.cells #[.pointer (some ⟨9,247,none⟩),.pointer (some ⟨w.heap.size,0,none⟩),.int .u64 150] 272)).alloc (.cells #[.pointer (some e)] 73)).setCell t (.pointer (some e)):=by
 have h6:=@run_callFunc_extern Tryz.prog 200 _ (fun args=>ReflectliteValue.unpack (args.getD 0 (.tuple #[]))) Tryz.func200 (by kernel_rfl) (by kernel_rfl) (by kernel_rfl) (by kernel_rfl)
 have h7 := @run_callFunc_extern Tryz.prog 201 _ (ReflectliteValue.methodAny (ReflectliteValue.valueError "reflectlite.Value.Type" 0) (fun t _ _ _ => ReflectliteType.toType t)) Tryz.func201 (by kernel_rfl) (by kernel_rfl) (by kernel_rfl) (by kernel_rfl)
 have h8 := @run_callFunc_extern Tryz.prog 202 _ (ReflectliteValue.method (ReflectliteValue.valueError "reflectlite.Value.IsNil" 0) ReflectliteValue.isNil) Tryz.func202 (by kernel_rfl) (by kernel_rfl) (by kernel_rfl) (by kernel_rfl)
 have h27:=@run_callFunc_extern Tryz.prog 259 _ (ReflectliteType.abiMethod fun t=>do pure (.int .u8 (← Rtype.kind t))) Tryz.func259 (by kernel_rfl) (by kernel_rfl) (by kernel_rfl) (by kernel_rfl);have h37:=@run_callFunc_extern Tryz.prog 276 _ (ReflectliteType.method ReflectliteType.elem) Tryz.func276 (by kernel_rfl) (by kernel_rfl) (by kernel_rfl) (by kernel_rfl)
 have h38 := @run_callFunc_extern Tryz.prog 277 _ (ReflectliteType.relation "Implements" ReflectliteType.implements_) Tryz.func277 (by kernel_rfl) (by kernel_rfl) (by kernel_rfl) (by kernel_rfl)
 have f9:=@run_callFunc_extern Tryz.prog 222 _ ReflectliteType.typeOf Tryz.func222 (by kernel_rfl) (by kernel_rfl) (by kernel_rfl) (by kernel_rfl)
 have h35 := @run_callFunc_extern Tryz.prog 274 _ (ReflectliteType.relation "AssignableTo" ReflectliteType.assignableTo) Tryz.func274 (by kernel_rfl) (by kernel_rfl) (by kernel_rfl) (by kernel_rfl)
 have h11 := @run_callFunc_extern Tryz.prog 223 _ (ReflectliteValue.method (ReflectliteValue.valueError "reflectlite.Value.Elem" 0) ReflectliteValue.elem) Tryz.func223 (by kernel_rfl) (by kernel_rfl) (by kernel_rfl) (by kernel_rfl)
 have h12:=@run_callFunc_extern Tryz.prog 224 _ ReflectliteValue.set Tryz.func224 (by kernel_rfl) (by kernel_rfl) (by kernel_rfl) (by kernel_rfl);have tO:=asT.typeOf25;have mA:=asT.methodAssignableTo;have a25:=asT.assignable25;have v25:=asT.valueOf25;have f6:=asT.valueOf27;have f7:=asT.type27;have mK:=asT.methodKind;have mE:=asT.methodElem;have mI:=asT.methodImplements;have k27:=asT.kind27;have k25:=asT.kind25;have e27:=asT.elem27;have i25:=asT.implements25;have n8:=asT.isNil27 ⟨w.heap.size,0,none⟩ t ((w.alloc (.cells #[.pointer (some t)] 247)).alloc (.cells #[.pointer (some ⟨9,247,none⟩),.pointer (some ⟨w.heap.size,0,none⟩),.int .u64 150] 272)) (by simp)
 have d6:1<w.heap.size:=by
  rcases Nat.lt_or_ge 1 w.heap.size with h|h
  ·exact h
  ·simp [World.cell?,Array.getElem?_eq_none h] at hg
 have hg2:((w.alloc (.cells #[.pointer (some t)] 247)).alloc (.cells #[.pointer (some ⟨9,247,none⟩),.pointer (some ⟨w.heap.size,0,none⟩),.int .u64 150] 272)).cell? ⟨1,0,none⟩=some (.iface 298 (.agg #[.pointer (some ⟨9,31,none⟩)])):=by
  rw [World.cell?_alloc_lt _ _ ⟨1,0,none⟩ (by first|(simp;done)|(simp;omega)),World.cell?_alloc_lt _ _ ⟨1,0,none⟩ d6];exact hg
 have htl:t.block<w.heap.size:=by
  rcases Nat.lt_or_ge t.block w.heap.size with h|h
  ·exact h
  ·simp [World.cell?,Array.getElem?_eq_none h] at ht0
 have el:=asT.elemV27 ⟨w.heap.size,0,none⟩ t (((w.alloc (.cells #[.pointer (some t)] 247)).alloc (.cells #[.pointer (some ⟨9,247,none⟩),.pointer (some ⟨w.heap.size,0,none⟩),.int .u64 150] 272)).alloc (.cells #[.pointer (some ⟨9,247,none⟩),.pointer (some ⟨w.heap.size,0,none⟩),.int .u64 150] 272)) (by rw [World.cell?_alloc_lt _ _ ⟨w.heap.size,0,none⟩ (by first|(simp;done)|(simp;omega))];simp)
 have st:=asT.set25 t ⟨w.heap.size+1+1+1,0,none⟩ e old ((((w.alloc (.cells #[.pointer (some t)] 247)).alloc (.cells #[.pointer (some ⟨9,247,none⟩),.pointer (some ⟨w.heap.size,0,none⟩),.int .u64 150] 272)).alloc (.cells #[.pointer (some ⟨9,247,none⟩),.pointer (some ⟨w.heap.size,0,none⟩),.int .u64 150] 272)).alloc (.cells #[.pointer (some e)] 73))
  (by rw [World.cell?_alloc_at _ _ _ _ (by simp)];rfl)
  (by rw [World.cell?_alloc_lt _ _ t (by first|(simp;done)|(simp;omega)),World.cell?_alloc_lt _ _ t (by first|(simp;done)|(simp;omega)),World.cell?_alloc_lt _ _ t (by first|(simp;done)|(simp;omega)),World.cell?_alloc_lt _ _ t htl];exact ht0)
  (by rw [World.frozen?_alloc_old _ _ t (by first|(simp;done)|(simp;omega)),World.frozen?_alloc_old _ _ t (by first|(simp;done)|(simp;omega)),World.frozen?_alloc_old _ _ t (by first|(simp;done)|(simp;omega)),World.frozen?_alloc_old _ _ t (Nat.ne_of_lt htl)];exact hf0)
 go_enter Tryz.func172,Tryz.ntmps172
 go_wp2
 refine wp_loop_rounds 1 ?_;rw [rounds_succ]
 go_wp2
 go_ret
 exact⟨rfl,rfl⟩
theorem asT.typeOf31 (v:Value) (w:World):(ReflectliteType.typeOf #[.iface 50 v]).run Tryz.prog w = .ok (.iface 298 (.agg #[.pointer (some ⟨9,50,none⟩)])) w:=by kernel_rfl
theorem asT.assignable31 (w : World) : (ReflectliteType.relation "AssignableTo" ReflectliteType.assignableTo #[.agg #[.pointer (some ⟨9, 50, none⟩)], .iface 298 (.agg #[.pointer (some ⟨9, 73, none⟩)])]).run Tryz.prog w = .ok (.bool false) w := by kernel_rfl
theorem asT.no230 (v:Value) (xT:TypeId) (w:World):(Instr.typeAssert (.iface 50 v) xT 303 true).run Tryz.prog w = .ok (.tuple #[.nilIface,.bool false]) w:=run_typeAssert_lacksB Tryz.underlying303 (by kernel_rfl) (by kernel_rfl) v xT w
theorem asT.no233 (v:Value) (xT:TypeId) (w:World):(Instr.typeAssert (.iface 50 v) xT 306 true).run Tryz.prog w = .ok (.tuple #[.nilIface,.bool false]) w:=run_typeAssert_lacksB Tryz.underlying306 (by kernel_rfl) (by kernel_rfl) v xT w
theorem asT.no234 (v:Value) (xT:TypeId) (w:World):(Instr.typeAssert (.iface 50 v) xT 307 true).run Tryz.prog w = .ok (.tuple #[.nilIface,.bool false]) w:=run_typeAssert_lacksB Tryz.underlying307 (by kernel_rfl) (by kernel_rfl) v xT w
set_option maxHeartbeats 4000000 in
theorem ze1 (n:Int) (t:Addr) (old:Value) (w:World) (hg:w.cell? ⟨1,0,none⟩=some (.iface 298 (.agg #[.pointer (some ⟨9,31,none⟩)]))) (ht0:w.cell? t=some old) :
  Calls Tryz.prog 172 #[.iface 50 (.int .i64 n),.iface 247 (.pointer (some t))] w fun ev w'=>ev = .returned (.bool false)∧Below w.heap.size w w':=by
 have h6:=@run_callFunc_extern Tryz.prog 200 _ (fun args=>ReflectliteValue.unpack (args.getD 0 (.tuple #[]))) Tryz.func200 (by kernel_rfl) (by kernel_rfl) (by kernel_rfl) (by kernel_rfl)
 have h7 := @run_callFunc_extern Tryz.prog 201 _ (ReflectliteValue.methodAny (ReflectliteValue.valueError "reflectlite.Value.Type" 0) (fun t _ _ _ => ReflectliteType.toType t)) Tryz.func201 (by kernel_rfl) (by kernel_rfl) (by kernel_rfl) (by kernel_rfl)
 have h8 := @run_callFunc_extern Tryz.prog 202 _ (ReflectliteValue.method (ReflectliteValue.valueError "reflectlite.Value.IsNil" 0) ReflectliteValue.isNil) Tryz.func202 (by kernel_rfl) (by kernel_rfl) (by kernel_rfl) (by kernel_rfl)
 have h27:=@run_callFunc_extern Tryz.prog 259 _ (ReflectliteType.abiMethod fun t=>do pure (.int .u8 (← Rtype.kind t))) Tryz.func259 (by kernel_rfl) (by kernel_rfl) (by kernel_rfl) (by kernel_rfl);have h37:=@run_callFunc_extern Tryz.prog 276 _ (ReflectliteType.method ReflectliteType.elem) Tryz.func276 (by kernel_rfl) (by kernel_rfl) (by kernel_rfl) (by kernel_rfl)
 have h38 := @run_callFunc_extern Tryz.prog 277 _ (ReflectliteType.relation "Implements" ReflectliteType.implements_) Tryz.func277 (by kernel_rfl) (by kernel_rfl) (by kernel_rfl) (by kernel_rfl)
 have f9:=@run_callFunc_extern Tryz.prog 222 _ ReflectliteType.typeOf Tryz.func222 (by kernel_rfl) (by kernel_rfl) (by kernel_rfl) (by kernel_rfl)
 have h35 := @run_callFunc_extern Tryz.prog 274 _ (ReflectliteType.relation "AssignableTo" ReflectliteType.assignableTo) Tryz.func274 (by kernel_rfl) (by kernel_rfl) (by kernel_rfl) (by kernel_rfl)
 have h11 := @run_callFunc_extern Tryz.prog 223 _ (ReflectliteValue.method (ReflectliteValue.valueError "reflectlite.Value.Elem" 0) ReflectliteValue.elem) Tryz.func223 (by kernel_rfl) (by kernel_rfl) (by kernel_rfl) (by kernel_rfl)
 have h12:=@run_callFunc_extern Tryz.prog 224 _ ReflectliteValue.set Tryz.func224 (by kernel_rfl) (by kernel_rfl) (by kernel_rfl) (by kernel_rfl);have tO:=asT.typeOf31;have mA:=asT.methodAssignableTo;have a25:=asT.assignable31;have f6:=asT.valueOf27;have f7:=asT.type27;have mK:=asT.methodKind;have mE:=asT.methodElem;have mI:=asT.methodImplements;have k27:=asT.kind27;have k25:=asT.kind25;have e27:=asT.elem27;have i25:=asT.implements25;have n8:=asT.isNil27 ⟨w.heap.size,0,none⟩ t ((w.alloc (.cells #[.pointer (some t)] 247)).alloc (.cells #[.pointer (some ⟨9,247,none⟩),.pointer (some ⟨w.heap.size,0,none⟩),.int .u64 150] 272)) (by simp)
 have d6:1<w.heap.size:=by
  rcases Nat.lt_or_ge 1 w.heap.size with h|h
  ·exact h
  ·simp [World.cell?,Array.getElem?_eq_none h] at hg
 have hg2:((w.alloc (.cells #[.pointer (some t)] 247)).alloc (.cells #[.pointer (some ⟨9,247,none⟩),.pointer (some ⟨w.heap.size,0,none⟩),.int .u64 150] 272)).cell? ⟨1,0,none⟩=some (.iface 298 (.agg #[.pointer (some ⟨9,31,none⟩)])):=by
  rw [World.cell?_alloc_lt _ _ ⟨1,0,none⟩ (by first|(simp;done)|(simp;omega)),World.cell?_alloc_lt _ _ ⟨1,0,none⟩ d6];exact hg
 have htl:t.block<w.heap.size:=by
  rcases Nat.lt_or_ge t.block w.heap.size with h|h
  ·exact h
  ·simp [World.cell?,Array.getElem?_eq_none h] at ht0
 have n1:=asT.no230;have n2:=asT.no233;have n3:=asT.no234
 go_enter Tryz.func172,Tryz.ntmps172
 go_wp2
 refine wp_loop_rounds 1 ?_;rw [rounds_succ]
 go_wp2
 go_ret
 exact⟨rfl,(((Below.refl _ _).alloc (Nat.le_refl _) _).alloc (by simp) _).alloc (by first|(simp;done)|(simp;omega)) _⟩
end Go.Proofs.YtapblfabkbdgcaaGreatDoor
namespace Go.Proofs.YtapblfabkbdgcaaGreatDoor
open Go Go.Av Go.RowKit Go.Proofs Go.Pl
theorem q3f {w:World} {b:Nat} {T:TypeId} {fz:Nat×Nat} {c:Array Value} (v:Value) (hc:w.heap[b]? = some (.cells c T fz)) (h1:c.size=1):w.setCell ⟨b,0,none⟩ v=w.setRow b #[v]:=by
 unfold World.setCell World.setRow;congr 1;apply Array.ext_getElem?;intro i;rw [Array.getElem?_modify,Array.getElem?_modify];by_cases hi:b=i
 ·subst hi
  rw [if_pos rfl,if_pos rfl,hc]
  have:c.setIfInBounds 0 v = #[v]:=by
   apply Array.ext
   ·simp [h1]
   ·intro i h2 h3
    have:i=0:=by simp at h3;omega
    subst this;simp
  simp [this]
 ·rw [if_neg hi,if_neg hi]
theorem ze0 (a n:Int) (o:Nat) (st:List AObj) (ho:st[o]? = some (.cells 0 73 [.v (.pointer none)])):qo E 172 [qgk a n,.ifc 247 (.bx o 0 0)] st fun r st'=>r=Bv true∧st'=st.set o (.cells 0 73 [.pp [Iv a,.ifc 50 (Iv n)]]):=by
 refine⟨fun B0 w0 G vals w hL hA hR=>?_⟩
 obtain⟨v1,v2,rfl⟩:∃ x y,vals = #[x,y]:=by
  have:=hR.1
  match vals,this with
  | ⟨[x,y]⟩,_=>exact⟨x,y,rfl⟩
 have h1:=hR.2 0 _ v1 rfl rfl;have h2:=hR.2 1 _ v2 rfl rfl;unfold qgk at h1
 cases h1 with
 |ifc _ _ y1 h1=>
  cases h2 with
  |ifc _ _ y2 h2=>
   have hpp:=h1
   cases h1 with
   |pp _ b off pub hp c8 hr=>
    cases h2 with
    |bx _ _ _ b2 hn hv hb=>
     obtain⟨_,g1,g2,g3,c,g4,g5,g6⟩:=hA.ob o _ ho;have hb:=hb g1;subst hb;have rl:c.size=1:=by simpa using g5.symm
     have hl:=(hL w hA.below).ert;have p9:w.cell? ⟨(G.ob o).blk,0,none⟩=some c[0]:=by simp [World.cell?,g4,rl]
     have hfz:w.frozen? ⟨(G.ob o).blk,0,none⟩=false:=by simp [World.frozen?,g4]
     have d6:(G.ob o).blk<w.heap.size:=(Array.getElem?_eq_some_iff.1 g4).1;refine (zhy ⟨b,off,none⟩ ⟨(G.ob o).blk,0,none⟩ c[0] w hl p9 hfz).mono ?_;rintro e w' ⟨rfl,rfl⟩
     have o6:Below w.heap.size w ((((w.alloc (.cells #[.pointer (some ⟨(G.ob o).blk,0,none⟩)] 247)).alloc (.cells #[.pointer (some ⟨9,247,none⟩),.pointer (some ⟨w.heap.size,0,none⟩),.int .u64 150] 272)).alloc (.cells #[.pointer (some ⟨9,247,none⟩),.pointer (some ⟨w.heap.size,0,none⟩),.int .u64 150] 272)).alloc (.cells #[.pointer (some ⟨b,off,none⟩)] 73)):=
      ((((Below.refl _ _).alloc (Nat.le_refl _) _).alloc (by simp) _).alloc (by first|(simp;done)|(simp;omega)) _).alloc (by first|(simp;done)|(simp;omega)) _
     have bq:=hA.fresh o6;obtain⟨_,k1,k2,k3,c',k4,k5,k6⟩:=bq.ob o _ ho;have hc1':c'.size=1:=by simpa using k5.symm
     refine⟨.bool true,G,Bv true,_,rfl,.refl G,?_,.v _,rfl,rfl⟩;rw [q3f _ k4 hc1']
     exact bq.setRow ho (by simp) fun i x y hx hy=>by
      match i with
      | 0=>simp at hx hy;subst hx;subst hy;exact hpp
      |i+1=>simp at hx
theorem zbs (n:Int) (o:Nat) (st:List AObj) (ho:st[o]? = some (.cells 0 73 [.v (.pointer none)])):qo E 172 [.ifc 50 (Iv n),.ifc 247 (.bx o 0 0)] st fun r st'=>r=Bv false∧st'=st:=by
 refine⟨fun B0 w0 G vals w hL hA hR=>?_⟩
 obtain⟨v1,v2,rfl⟩:∃ x y,vals = #[x,y]:=by
  have:=hR.1
  match vals,this with
  | ⟨[x,y]⟩,_=>exact⟨x,y,rfl⟩
 have h1:=hR.2 0 _ v1 rfl rfl;have h2:=hR.2 1 _ v2 rfl rfl
 cases h1 with
 |ifc _ _ y1 h1=>
  cases h2 with
  |ifc _ _ y2 h2=>
   cases h1 with
   |v=>
    cases h2 with
    |bx _ _ _ b2 hn hv hb=>
     obtain⟨_,g1,g2,g3,c,g4,g5,g6⟩:=hA.ob o _ ho;have hb:=hb g1;subst hb;have rl:c.size=1:=by simpa using g5.symm
     have hl:=(hL w hA.below).ert;have p9:w.cell? ⟨(G.ob o).blk,0,none⟩=some c[0]:=by simp [World.cell?,g4,rl]
     refine (ze1 n ⟨(G.ob o).blk,0,none⟩ c[0] w hl p9).mono ?_;rintro e w' ⟨rfl,hb⟩;exact⟨_,G,Bv false,st,rfl,.refl G,hA.fresh hb,.v _,rfl,rfl⟩
end Go.Proofs.YtapblfabkbdgcaaGreatDoor
namespace Go.Proofs.YtapblfabkbdgcaaGreatDoor
open Go Go.Av Go.RowKit Go.Extern.Stop Go.Stop Go.Extern Go.Proofs
theorem isT.has (v:Value) (xT:TypeId) (w:World):(Instr.typeAssert (.iface 73 v) xT 306 true).run Tryz.prog w = .ok (.tuple #[.iface 73 v,.bool true]) w:=run_typeAssert_hasB Tryz.underlying306 (by kernel_rfl) v xT w
theorem isT.typeOf (v:Value) (w:World):(ReflectliteType.typeOf #[.iface 50 v]).run Tryz.prog w = .ok (.iface 298 (.agg #[.pointer (some ⟨9,50,none⟩)])) w:=by kernel_rfl
theorem isT.cmp (w : World) : (ReflectliteType.method (fun t => do Rtype.noPackHeld "Comparable" t; (fun a => Value.bool a.comparable) <$> typeInfo t) #[.agg #[.pointer (some ⟨9, 50, none⟩)]]).run Tryz.prog w = .ok (.bool true) w := by kernel_rfl
end Go.Proofs.YtapblfabkbdgcaaGreatDoor
namespace Go.Pl
open Go Go.Proofs
inductive ErrV where
 |no
 |num (n:Int)
 |at' (a n:Int)
 deriving DecidableEq
def ErrV.code:ErrV→Int
 | .no=>0
 | .num n=>n
 | .at' _ n=>n
def ErrV.pos:ErrV→Int
 | .no=> -9
 | .num _=> -9
 | .at' a _=>a
def we:Nat→List Fld→ErrV
 | _,[]=>.no
 |k,f::r=>if kj f=0 then we (k+1) r else .at' k (kj f)
def zv (fs:List Fld):ErrV:=if fs=[] then .num 2 else if 40<fs.length then .num 11 else we 0 fs
theorem qo9:∀ (k:Nat) (p r:List Fld),(∀ x∈p,kj x=0)→we k (p++r)=we (k+p.length) r
 |k,[],r,_=>by simp
 |k,f::p,r,h=>by
  have h1:=h f (by simp);rw [List.cons_append,we,if_pos h1,qo9 (k+1) p r fun x hx=>h x (by simp [hx])];congr 1;simp;omega
theorem qmy:∀ (k:Nat) (r:List Fld),(we k r).code=0↔we k r = .no
 |k,[]=>by simp [we,ErrV.code]
 |k,f::r=>by
  unfold we;split
  ·exact qmy _ r
  ·rename_i h
   simp [ErrV.code,h]
theorem qmx (fs:List Fld):(zv fs).code=0↔zv fs = .no:=by
 unfold zv;split
 ·simp [ErrV.code]
 ·split
  ·simp [ErrV.code]
  ·exact qmy _ _
end Go.Pl
namespace Go.Proofs.YtapblfabkbdgcaaGreatDoor
open Go Go.Av Go.RowKit Go.Proofs Go.Pl
theorem qub {st st':List AObj} (h:∀ k,k<st.length→st'[k]? = st[k]?):∃ ext,st'=st++ext:=by
 refine qk7 ?_ h;rcases Nat.eq_zero_or_pos st.length with h0|h0
 ·omega
 ·have h1:=h (st.length - 1) (by omega)
  have h2:st[st.length - 1]? = some (st[st.length - 1]'(by omega)):=List.getElem?_eq_getElem (by omega);have:=lt_of_getElem? (h1.trans h2);omega
def gErr (x:qp):ErrV:=if x.kind=2 then (if x.fields=[] then .no else .num 2) else if x.kind=1∨x.kind=3 then zv x.fields else .num 2
def yo:Nat→List qp→ErrV
 | _,[]=>.no
 |k,x::r=>if (gErr x).code=0 then yo (k+1) r else .at' k (gErr x).code
def eErr (b:List qp):ErrV:=if b.length<1∨40<b.length then .num 1 else yo 0 b
theorem qm9 (x:qp):(gErr x).code=0↔gErr x = .no:=by
 unfold gErr;split
 ·split <;> simp [ErrV.code]
 ·split
  ·exact qmx _
  ·simp [ErrV.code]
theorem qru:∀ (k:Nat) (r:List qp),(yo k r).code=0↔yo k r = .no
 |k,[]=>by simp [yo,ErrV.code]
 |k,f::r=>by
  unfold yo;split
  ·exact qru _ r
  ·rename_i h
   simp [ErrV.code] at h ⊢;exact h
theorem qi5 (b:List qp):(eErr b).code=0↔eErr b = .no:=by
 unfold eErr;split
 ·simp [ErrV.code]
 ·exact qru _ _
def errA:ErrV→AV
 | .no=>.v .nilIface
 | .num n=>.ifc 50 (Iv n)
 | .at' a n=>.ifc 73 (.pp [Iv a,.ifc 50 (Iv n)])
theorem vd (e:ErrV):Pure (errA e):=by
 cases e with
 |no=>exact q8 _
 |num n=>exact qee (q8 _)
 |at' a n=>exact qjy a n
def KeyB (fs:List Fld):Prop:=∀ f∈fs,f.1.length<4294967281
theorem qzj {fs:List Fld} {i:Nat} {x:Fld} (h:fs[i]? = some x):(fs.map fldA)[i]? = some (fldA x):=by simp [h]
theorem qm4 {b:List qp} {i:Nat} {x:qp} (h:b[i]? = some x):(b.map z6)[i]? = some (z6 x):=by simp [h]
theorem qvb {fs:List Fld} (h:¬ 0<fs.length):zv fs = .num 2:=if_pos (List.length_eq_zero_iff.1 (by omega))
theorem qrq {fs:List Fld} (h:40<fs.length):zv fs = .num 11:=(if_neg fun h0=>by simp [h0] at h).trans (if_pos h)
theorem qvc {fs:List Fld} (h0:0<fs.length) (h:¬ 40<fs.length):zv fs=we 0 fs:=(if_neg (List.length_pos_iff.1 h0)).trans (if_neg h)
theorem qls (fs:List Fld) (st:List AObj) (e:ErrV) (h:zv fs=e) (hK:KeyB fs) (hl:fs.length<9223372036854775808):qo E 141 [zp fs] st fun r st'=>r=errA e∧st'=st:=by
 subst h;refine zw [.a (zp fs)] (vd _) Tryz.func141 rfl rfl (fun _=>rfl) rfl fun S0=>?_;have i6:(fs.map fldA).length=fs.length:=by simp
 apply qf [];repeat' (first|apply And.intro|(intro h;try exact cDd)|exact cSd|apply qd []|refine exr ?_|refine qk ?_)
 ·rw [qvb (by omega)];rfl
 ·rw [qrq (by omega)];rfl
 rw [qvc (by omega) (by omega)];refine j5 (X:=Nat) (fun k=>⟨[(16,.a (zp fs)),(17,.i (fs.map fldA).length),(18,.i k)],[],0⟩) (fun k=>k≤fs.length∧we k (fs.drop k)=we 0 fs) (fun k=>fs.length - k) 0 ⟨by omega,rfl⟩ ?_ ?_
 ·skip
  repeat' (first|apply And.intro|(intro h;try exact cDd)|exact cSd|apply qd []|refine exr ?_|refine qk ?_)
 ·rintro k ⟨hk,hc⟩
  by_cases d6:k<fs.length
  ·obtain⟨y,hy⟩:∃ y,fs[k]? = some y:=⟨_,List.getElem?_eq_getElem d6⟩
   have c9:=qzj hy;have sv:=hK y (List.mem_of_getElem? hy);obtain⟨_,hye⟩:=List.getElem?_eq_some_iff.1 hy;rw [List.drop_eq_getElem_cons d6,hye,we] at hc;rw [← hc];by_cases ha:kj y=0
   ·have hc4:=fun st=>qib y st sv ha
    apply qf [4];repeat' (first|apply And.intro|(intro h;try exact cDd)|(refine Exists.intro (k) ⟨by omega,_,c9,?_⟩)|exact⟨Tryz.call142⟩|refine cpe hc4 ?_|(refine Exists.intro (k+1) ⟨⟨by omega,by simp_all⟩,by omega,?_⟩)|exact cSd|apply qd [4]|refine exr ?_|refine qk ?_)
   ·have hc4:=fun st=>qic y st sv ha
    rw [if_neg ha];apply qf [4];repeat' (first|apply And.intro|(intro h;try exact cDd)|(refine Exists.intro (k) ⟨by omega,_,c9,?_⟩)|exact⟨Tryz.call142⟩|refine cpe hc4 ?_|exact cSd|apply qd [4]|refine exr ?_|refine qk ?_)
  ·rw [List.drop_eq_nil_of_le (by omega),we] at hc
   rw [← hc];apply qf [];repeat' (first|apply And.intro|(intro h;try exact cDd)|exact cSd|apply qd []|refine exr ?_|refine qk ?_)
theorem zfr (x:qp) (st:List AObj) (e:ErrV) (h:gErr x=e) (hK:KeyB x.fields) (hl:x.fields.length<9223372036854775808):qo E 101 [z6 x] st fun r st'=>r=errA e∧st'=st:=by
 subst h;refine zw [.a (z6 x)] (vd _) Tryz.func101 rfl rfl (fun _=>rfl) rfl fun S0=>?_;have i6:(x.fields.map fldA).length=x.fields.length:=by simp
 have db:x.fields=[]↔x.fields.length=0:=by simp
 have hc6:=fun st=>qls x.fields st _ rfl hK hl;unfold gErr;simp only [db];generalize zv x.fields=e at *
 cases e
 all_goals apply qf [1]
 repeat' (first|apply And.intro|(intro h;try exact cDd)|exact⟨Tryz.call141⟩|refine cpe hc6 ?_|exact cSd|apply qd [1]|refine exr ?_|refine qk ?_)
 all_goals clear hc6
 all_goals grind [errA]
theorem zcb (n:Int) (st:List AObj):qo E 131 [.ifc 50 (Iv n)] st fun r st'=>r = .ifc 50 (Iv n)∧st'=st:=by
 refine ze (qee (q8 _)) (qr Tryz.func131 rfl (Nat.le_of_ble_eq_true rfl) ?_);repeat' (first|apply qm|apply qg|apply qh|apply ql|apply qi|(apply qe;exact rfl;apply cd_f;exact cRa)|(apply v7;exact rfl;exact rfl)|(apply jp;exact rfl;exact rfl)|apply qw|apply q6|(apply qq;exact Tryz.call172;exact zbs _ (st.length+0) _ (jl rfl)))
 exact qn rfl (zh rfl) ⟨rfl,_,rfl⟩
theorem zca (a n:Int) (st:List AObj):qo E 131 [qgk a n] st fun r st'=>r = .ifc 50 (Iv n)∧st'=st:=by
 refine ze (qee (q8 _)) (qr Tryz.func131 rfl (Nat.le_of_ble_eq_true rfl) ?_);repeat' (first|apply qm|apply qg|apply qh|apply ql|apply qi|(apply qe;exact rfl;apply cd_t;exact cRa)|(apply v7;exact rfl;exact rfl)|(apply jp;exact rfl;exact rfl)|(apply y7;(iterate 4 exact rfl))|(apply jo;(iterate 3 exact rfl))|(apply wy;exact rfl;exact rfl)|apply q6|(apply qq;exact Tryz.call172;exact ze0 a n (st.length+0) _ (jl rfl))|(apply kf;exact rfl;(focus first|assumption|(repeat' (first|assumption|exact wh|exact jl rfl|apply ke|apply kq|omega|apply qbk)));exact rfl;exact rfl))
 exact qn rfl (zh rfl) ⟨rfl,qub fun j hj=>(qpi (by omega)).trans (List.getElem?_append_left hj)⟩
theorem qp4 (k:Int) (e:ErrV) (st:List AObj) (he:e.code≠0):qo E 88 [Iv k,errA e] st fun r st'=>r=errA (.at' k e.code)∧st'=st:=by
 refine ze (vd _) (qr Tryz.func88 rfl (Nat.le_of_ble_eq_true rfl) ?_)
 cases e with
 |no=>exact absurd rfl he
 |num n=>
  repeat' (first|(apply qmr;(iterate 3 exact rfl))|apply qm|apply qg|apply qh|apply ql|apply qi|(apply v7;exact rfl;exact rfl)|(apply xk;(iterate 3 exact rfl))|apply q6|(apply qq;exact Tryz.call131;exact zcb _ _))
  exact qn rfl (zh rfl) ⟨rfl,_,rfl⟩
 |at' a n=>
  repeat' (first|(apply qmr;(iterate 3 exact rfl))|apply qm|apply qg|apply qh|apply ql|apply qi|(apply v7;exact rfl;exact rfl)|(apply xk;(iterate 3 exact rfl))|apply q6|(apply qq;exact Tryz.call131;exact zca a n _))
  exact qn rfl (zh rfl) ⟨rfl,_,rfl⟩
structure EdB (x:qp):Prop where
 keys:KeyB x.fields
 len:x.fields.length<9223372036854775808
 id1 : -9223372036854775808≤x.id
 id2:x.id≤9223372036854775807
@[reducible] def ku (b : List qp) : AV := .sl 3 (b.map z6) none
theorem qk6 (b:List qp) (st:List AObj) (e:ErrV) (h:eErr b=e) (hB:∀ x∈b,EdB x) (hl:b.length<9223372036854775808):qo E 63 [ku b] st fun r st'=>r=errA e∧st'=st:=by
 subst h;refine zw [.a (ku b)] (vd _) Tryz.func63 rfl rfl (fun _=>rfl) rfl fun S0=>?_;have i6:(b.map z6).length=b.length:=by simp
 have h1:b.length<1∨40<b.length→eErr b = .num 1:=fun h=>if_pos h;have hr:¬ (b.length<1∨40<b.length)→eErr b=yo 0 b:=fun h=>if_neg h;apply qf [];repeat' (first|apply And.intro|(intro h;try exact cDd)|exact cSd|apply qd []|refine exr ?_|refine qk ?_)
 ·rw [h1 (by omega)];rfl
 ·rw [h1 (by omega)];rfl
 rw [hr (by omega)];refine j5 (X:=Nat) (fun k=>⟨[(15,.a (ku b)),(16,.i (b.map z6).length),(17,.i k)],[],0⟩) (fun k=>k≤b.length∧yo k (b.drop k)=yo 0 b) (fun k=>b.length - k) 0 ⟨by omega,rfl⟩ ?_ ?_
 ·skip
  repeat' (first|apply And.intro|(intro h;try exact cDd)|exact cSd|apply qd []|refine exr ?_|refine qk ?_)
 ·rintro k ⟨hk,hc⟩
  by_cases d6:k<b.length
  ·obtain⟨y,hy⟩:∃ y,b[k]? = some y:=⟨_,List.getElem?_eq_getElem d6⟩
   have c9:=qm4 hy;have sv:=hB y (List.mem_of_getElem? hy);obtain⟨_,hye⟩:=List.getElem?_eq_some_iff.1 hy;rw [List.drop_eq_getElem_cons d6,hye,yo] at hc;have hc9:=fun st=>zfr y st _ rfl sv.keys sv.len;have hcf:=fun st=>qp4 k (gErr y) st;rw [← hc]
   cases hg:gErr y
   all_goals rw [hg] at hc hc9 hcf
   ·apply qf [4]
    repeat' (first|apply And.intro|(intro h;try exact cDd)|(refine Exists.intro (k) ⟨by omega,_,c9,?_⟩)|exact⟨Tryz.call101⟩|refine cpe hc9 ?_|(refine Exists.intro (k+1) ⟨⟨by omega,(if_pos rfl).symm⟩,by omega,?_⟩)|exact cSd|apply qd [4]|refine exr ?_|refine qk ?_)
   all_goals have hgc:=fun h=>qm9 y |>.1 h
   all_goals rw [hg] at hgc
   all_goals rw [if_neg fun h=>nomatch hgc h]
   ·have hcg:=fun st=>hcf st fun h=>nomatch hgc h
    apply qf [4];repeat' (first|apply And.intro|(intro h;try exact cDd)|(refine Exists.intro (k) ⟨by omega,_,c9,?_⟩)|exact⟨Tryz.call101⟩|refine cpe hc9 ?_|exact⟨Tryz.call88⟩|refine cpe hcg ?_|exact cSd|apply qd [4]|refine exr ?_|refine qk ?_)
   ·have hcg:=fun st=>hcf st fun h=>nomatch hgc h
    apply qf [4];repeat' (first|apply And.intro|(intro h;try exact cDd)|(refine Exists.intro (k) ⟨by omega,_,c9,?_⟩)|exact⟨Tryz.call101⟩|refine cpe hc9 ?_|exact⟨Tryz.call88⟩|refine cpe hcg ?_|exact cSd|apply qd [4]|refine exr ?_|refine qk ?_)
  ·rw [List.drop_eq_nil_of_le (by omega),yo] at hc
   rw [← hc];apply qf [];repeat' (first|apply And.intro|(intro h;try exact cDd)|exact cSd|apply qd []|refine exr ?_|refine qk ?_)
theorem q4r (a b:Int):Pure (.tu [Iv a,Iv b]):=j9 (q8 _) (q8 _)
theorem q03 (fs:List Fld) (st:List AObj) (hK:KeyB fs) (hl:fs.length<9223372036854775808):qo E 106 [zp fs] st fun r st'=>r = .tu [Iv (zv fs).pos,Iv (zv fs).code]∧st'=st:=by
 refine zw [.a (zp fs)] (q4r _ _) Tryz.func106 rfl rfl (fun _=>rfl) rfl fun S0=>?_;have i6:(fs.map fldA).length=fs.length:=by simp
 apply qf [];repeat' (first|apply And.intro|(intro h;try exact cDd)|exact cSd|apply qd []|refine exr ?_|refine qk ?_)
 ·rw [qvb (by omega)];rfl
 ·rw [qrq (by omega)];rfl
 rw [qvc (by omega) (by omega)];refine j5 (X:=Nat) (fun k=>⟨[(0,.a (zp fs)),(4,.i k)],[],0⟩) (fun k=>k≤fs.length∧we k (fs.drop k)=we 0 fs) (fun k=>fs.length - k) 0 ⟨by omega,rfl⟩ ?_ ?_
 ·skip
  repeat' (first|apply And.intro|(intro h;try exact cDd)|exact cSd|apply qd []|refine exr ?_|refine qk ?_)
 ·rintro k ⟨hk,hc⟩
  by_cases d6:k<fs.length
  ·obtain⟨y,hy⟩:∃ y,fs[k]? = some y:=⟨_,List.getElem?_eq_getElem d6⟩
   have c9:=qzj hy;have sv:=hK y (List.mem_of_getElem? hy);obtain⟨_,hye⟩:=List.getElem?_eq_some_iff.1 hy;rw [List.drop_eq_getElem_cons d6,hye,we] at hc;have hc4:=fun st=>q02 y st sv;rw [← hc];apply qf [];repeat' (first|apply And.intro|(intro h;try exact cDd)|(refine Exists.intro (k) ⟨by omega,_,c9,?_⟩)|exact⟨Tryz.call147⟩|refine cpe hc4 ?_|(refine Exists.intro (k+1) ⟨⟨by omega,by simp_all⟩,by omega,?_⟩)|exact cSd|apply qd []|refine exr ?_|refine qk ?_)
   all_goals (rw [if_neg (by assumption)];rfl)
  ·rw [List.drop_eq_nil_of_le (by omega),we] at hc
   rw [← hc];apply qf [];repeat' (first|apply And.intro|(intro h;try exact cDd)|exact cSd|apply qd []|refine exr ?_|refine qk ?_)
theorem q3b (x:qp) (st:List AObj) (hK:EdB x):qo E 68 [z6 x] st fun r st'=>r=Iv (gErr x).code∧st'=st:=by
 refine zw [.a (z6 x)] (q8 _) Tryz.func68 rfl rfl (fun _=>rfl) rfl fun S0=>?_;have i6:(x.fields.map fldA).length=x.fields.length:=by simp
 have db:x.fields=[]↔x.fields.length=0:=by simp
 have hc6:=fun st=>q03 x.fields st hK.keys hK.len
 have hg:(gErr x).code=if x.kind=2 then (if x.fields.length=0 then 0 else 2) else if x.kind=1∨x.kind=3 then (zv x.fields).code else 2:=by
  unfold gErr;simp only [apply_ite ErrV.code,db];rfl
 rw [hg];generalize (zv x.fields).code=c at *;apply qf [1];repeat' (first|apply And.intro|(intro h;try exact cDd)|exact⟨Tryz.call106⟩|refine cpe hc6 ?_|exact cSd|apply qd [1]|refine exr ?_|refine qk ?_)
 all_goals clear hc6
 all_goals refine congrArg Iv ?_
 all_goals omega
theorem q04 (b:List qp) (st:List AObj) (hB:∀ x∈b,EdB x) (hl:b.length<9223372036854775808):qo E 37 [ku b] st fun r st'=>r = .tu [Iv (eErr b).pos,Iv (eErr b).code]∧st'=st:=by
 refine zw [.a (ku b)] (q4r _ _) Tryz.func37 rfl rfl (fun _=>rfl) rfl fun S0=>?_;have i6:(b.map z6).length=b.length:=by simp
 have h1:b.length<1∨40<b.length→eErr b = .num 1:=fun h=>if_pos h;have hr:¬ (b.length<1∨40<b.length)→eErr b=yo 0 b:=fun h=>if_neg h;apply qf [];repeat' (first|apply And.intro|(intro h;try exact cDd)|exact cSd|apply qd []|refine exr ?_|refine qk ?_)
 ·rw [h1 (by omega)];rfl
 ·rw [h1 (by omega)];rfl
 rw [hr (by omega)];refine j5 (X:=Nat) (fun k=>⟨[(0,.a (ku b)),(4,.i k)],[],0⟩) (fun k=>k≤b.length∧yo k (b.drop k)=yo 0 b) (fun k=>b.length - k) 0 ⟨by omega,rfl⟩ ?_ ?_
 ·skip
  repeat' (first|apply And.intro|(intro h;try exact cDd)|exact cSd|apply qd []|refine exr ?_|refine qk ?_)
 ·rintro k ⟨hk,hc⟩
  by_cases d6:k<b.length
  ·obtain⟨y,hy⟩:∃ y,b[k]? = some y:=⟨_,List.getElem?_eq_getElem d6⟩
   have c9:=qm4 hy;have sv:=hB y (List.mem_of_getElem? hy);obtain⟨_,hye⟩:=List.getElem?_eq_some_iff.1 hy;rw [List.drop_eq_getElem_cons d6,hye,yo] at hc;have hc9:=fun st=>q3b y st sv;rw [← hc];apply qf [];repeat' (first|apply And.intro|(intro h;try exact cDd)|(refine Exists.intro (k) ⟨by omega,_,c9,?_⟩)|exact⟨Tryz.call68⟩|refine cpe hc9 ?_|(refine Exists.intro (k+1) ⟨⟨by omega,by simp_all⟩,by omega,?_⟩)|exact cSd|apply qd []|refine exr ?_|refine qk ?_)
   all_goals (rw [if_neg (by assumption)];rfl)
  ·rw [List.drop_eq_nil_of_le (by omega),yo] at hc
   rw [← hc];apply qf [];repeat' (first|apply And.intro|(intro h;try exact cDd)|exact cSd|apply qd []|refine exr ?_|refine qk ?_)
def okE:ErrV→Prop
 | .no=>True
 | .num n=>n≠0
 | .at' _ n=>n≠0
theorem zix (e:ErrV) (st:List AObj) (he:okE e):qo E 11 [errA e] st fun r st'=>r=Iv e.code∧st'=st:=by
 refine ze (q8 _) (qr Tryz.func11 rfl (Nat.le_of_ble_eq_true rfl) ?_)
 cases e with
 |no=>
  repeat' (first|apply qm|apply qu|apply qg|apply qh|apply ql|apply qi)
  refine ju (fun (k:Unit) s=>StA [(0,.v .nilIface),(7,Iv 0)] (st++[]) [] s) (fun k=>0) () (jd ⟨rfl,rfl,trivial⟩) ?_;rintro k _ ⟨t,rfl⟩;repeat' (first|apply qm|apply qu|apply qg|apply qh|apply ql|apply qi|(apply qt;(iterate 3 exact rfl))|(apply qe;exact rfl;apply vj;exact cAo)|(apply qe;exact rfl;apply cd_t;exact cRa)|(apply qdz;exact rfl;exact rfl)|apply qw|apply q6)
  exact qn rfl (zh rfl) ⟨rfl,_,rfl⟩
 |num n=>
  have hk:n≠0:=he;repeat' (first|apply qm|apply qu|apply qg|apply qh|apply ql|apply qi)
  refine ju (fun (k:Unit) s=>StA [(0,errA (.num n)),(7,Iv 0)] (st++[]) [] s) (fun k=>0) () (jd ⟨rfl,rfl,trivial⟩) ?_;rintro k _ ⟨t,rfl⟩;repeat' (first|apply qm|apply qu|apply qg|apply qh|apply ql|apply qi|(apply zz;exact rfl;exact rfl)|(apply qt;(iterate 3 exact rfl))|(apply zm;(iterate 4 exact rfl))|(apply qeb;exact cRa)|(apply qx;exact rfl;apply pk_t;exact cRa)|(apply qe;exact rfl;apply vj;exact cAo)|(apply qe;exact rfl;apply cd_f;exact cRa)|(apply qaq;exact rfl;exact rfl)|apply qw|apply q6|(apply qfl;(iterate 3 exact rfl)))
  exact qn rfl (zh rfl) ⟨rfl,_,rfl⟩
 |at' a n=>
  have hk:n≠0:=he;repeat' (first|apply qm|apply qu|apply qg|apply qh|apply ql|apply qi)
  refine ju (fun (j:Nat) s=>(j=0∧StA [(0,errA (.at' a n)),(7,Iv 0)] (st++[]) [] s)∨(j=1∧StA [(0,errA (.num n)),(7,Iv 1)] (st++[]) [] s)) (fun j=>1 - j) 0 (.inl ⟨rfl,jd ⟨rfl,rfl,trivial⟩⟩) ?_;rintro j _ (⟨rfl,t,rfl⟩ | ⟨rfl,t,rfl⟩)
  ·skip
   repeat' (first|apply qm|apply qu|apply qg|apply qh|apply ql|apply qi|(apply zz;exact rfl;exact rfl)|(apply qt;(iterate 3 exact rfl))|(apply kp;exact rfl)|(apply zm;(iterate 4 exact rfl))|(apply qgo;exact cRa)|(apply qzr;exact cRa)|(apply qer;exact cRa)|(apply qx;exact rfl;apply qoo;exact cRa)|(apply qx;exact rfl;apply pk_f;exact cRa)|(apply qe;exact rfl;apply vj;exact cAo)|(apply qe;exact rfl;apply cd_f;exact cRa)|(apply zn;exact rfl;exact rfl;exact zb (by omega) (by omega))|(apply qaq;exact rfl;exact rfl)|(apply y7;(iterate 4 exact rfl))|(apply jo;(iterate 3 exact rfl))|(apply wy;exact rfl;exact rfl)|(apply qas;(iterate 3 exact rfl))|apply qw|(apply qra;(iterate 5 exact rfl))|(apply qfl;(iterate 3 exact rfl)))
   exact⟨1,.inr ⟨rfl,jd ⟨rfl,rfl,trivial⟩⟩,by omega⟩
  ·skip
   repeat' (first|apply qm|apply qu|apply qg|apply qh|apply ql|apply qi|(apply zz;exact rfl;exact rfl)|(apply qt;(iterate 3 exact rfl))|(apply zm;(iterate 4 exact rfl))|(apply qeb;exact cRa)|(apply qx;exact rfl;apply pk_t;exact cRa)|(apply qe;exact rfl;apply vj;exact cAo)|(apply qe;exact rfl;apply cd_f;exact cRa)|(apply qaq;exact rfl;exact rfl)|apply qw|apply q6|(apply qfl;(iterate 3 exact rfl)))
   exact qn rfl (zh rfl) ⟨rfl,_,rfl⟩
theorem zjq (e:ErrV) (w:Int) (st:List AObj) (he:okE e):qo E 20 [errA e,Iv w] st fun r st'=>r=Bv (decide (e.code=w))∧st'=st:=by
 refine ze (q8 _) (qr Tryz.func20 rfl (Nat.le_of_ble_eq_true rfl) ?_);repeat' (first|apply qm|apply qg|apply qh|apply ql|apply qi|(apply qt;(iterate 3 exact rfl))|apply q6|(apply qq;exact Tryz.call11;exact zix _ _ he))
 exact qn rfl (zh rfl) ⟨rfl,_,rfl⟩
def jm (x:qp):qc:=jx x++[10]++x6 [32,32] (z7 x.fields)
def encF (b:List qp):qc:=b.flatMap jm
theorem qy7 (a b:List qp):encF (a++b)=encF a++encF b:=by simp [encF]
theorem qy8 (x:qp):encF [x]=jm x:=by simp [encF]
theorem qrr:∀ (k:Nat) (r:List Fld),we k r = .no↔∀ f∈r,jt f
 |k,[]=>by simp [we]
 |k,f::r=>by
  unfold we;split
  ·rename_i h
   rw [qrr (k+1) r];have:=(qbg f).1 h;simp [this]
  ·rename_i h
   have h2:¬ jt f:=fun g=>h ((qbg f).2 g);simp [h2]
theorem qe8 {fs:List Fld} (h:zv fs = .no):fs≠[]∧fs.length≤40∧∀ f∈fs,jt f:=by
 unfold zv at h;split at h
 ·exact absurd h (by simp)
 ·split at h
  ·exact absurd h (by simp)
  ·exact⟨by assumption,by omega,(qrr _ _).1 h⟩
theorem qeq {x:qp} (h:gErr x = .no):x.fields.length≤40∧∀ f∈x.fields,jt f:=by
 unfold gErr at h;split at h
 ·split at h
  ·rename_i h0;rw [h0];simp
  ·exact absurd h (by simp)
 ·split at h
  ·exact (qe8 h).2
  ·exact absurd h (by simp)
theorem qy5:∀ (k:Nat) (b:List qp),yo k b = .no↔∀ x∈b,gErr x = .no
 |k,[]=>by simp [yo]
 |k,x::b=>by
  unfold yo;split
  ·rename_i h
   rw [qy5 (k+1) b];have:=(qm9 x).1 h;simp [this]
  ·rename_i h
   have h2:¬ gErr x = .no:=fun g=>h ((qm9 x).2 g);simp [h2]
theorem qbt {b:List qp} (h:eErr b = .no):1≤b.length∧b.length≤40∧∀ x∈b,gErr x = .no:=by
 unfold eErr at h;split at h
 ·exact absurd h (by simp)
 ·exact⟨by omega,by omega,(qy5 _ _).1 h⟩
theorem qzs {fs:List Fld} (hl:fs.length≤40) (h:∀ f∈fs,jt f):q5c fs:=⟨by omega,fun f hf=>by
 have:=h f hf;have h1:=this.1.2.1;have h2:=this.2
 omega⟩
theorem qr7 (xs:List FldV) (st:List AObj) (hl:xs.length≤40) (h:∀ f∈xs,jt f):qo E 64 [zp xs] st fun r st'=>r = .tu [Sv (z7 xs),.v .nilIface]∧st'=st:=by
 have:=zig xs st (qzs hl h);unfold qr5 at this;have h0:=(qm6 xs).2 h;rw [if_pos h0,h0] at this;exact this
theorem qj0 (l:qc):(x6 [32,32] l).length≤3 * l.length:=by
 unfold x6;obtain⟨h1,h2⟩:=qcx _ l (Nat.le_refl _);have:=qlf [32,32] (zj l);simp only [List.length_cons,List.length_nil] at this;omega
theorem qnj (x:qp) (h1 : -9223372036854775808≤x.id) (h2:x.id≤9223372036854775807):(jx x).length≤100:=by
 have hn:=Lib.itoa_length_le x.id h1 h2;unfold jx x4;split
 ·split
  ·simp;omega
  ·split
   ·simp;omega
   ·split <;> simp <;> omega
 ·simp
theorem q6c {x:qp} (hB:EdB x) (h:gErr x = .no):(jm x).length≤700000:=by
 obtain⟨hl,hg⟩:=qeq h;have h1:=qeo x.fields hg;have h2:=qj0 (z7 x.fields);have h3:=qnj x hB.id1 hB.id2;unfold jm;simp only [List.length_append,List.length_cons,List.length_nil];omega
theorem qh5:∀ (b:List qp),(∀ x∈b,EdB x)→(∀ x∈b,gErr x = .no)→(encF b).length≤700000 * b.length
 | [],_,_=>by simp [encF]
 |x::r,hB,h=>by
  have ih:=qh5 r (fun y hy=>hB y (by simp [hy])) (fun y hy=>h y (by simp [hy]));have h1:=q6c (hB x (by simp)) (h x (by simp));have e:encF (x::r)=jm x++encF r:=by simp [encF]
  rw [e,List.length_append,List.length_cons];omega
set_option maxHeartbeats 2000000 in
theorem qvu (b:List qp) (st:List AObj) (hB:∀ x∈b,EdB x) (he:eErr b = .no):qo E 35 [ku b] st fun r st'=>r = .tu [Sv (encF b),.v .nilIface]∧st'=st:=by
 refine ze (j9 (q8 _) (q8 _)) (qr Tryz.func35 rfl (Nat.le_of_ble_eq_true rfl) ?_);have i6:(b.map z6).length=b.length:=by simp
 obtain⟨o6,hb40,hg⟩:=qbt he;have ct:=qh5 b hB hg;repeat' (first|(apply qf3;exact rfl)|apply qm|apply qu|apply qg|apply qh|apply ql|apply qi|(apply qe;exact rfl;apply cd_f;exact cRa)|(apply ja;(iterate 4 exact rfl))|(apply x8;exact rfl;exact rfl)|apply qw|(apply qq;exact Tryz.call63;exact qk6 _ _ _ he hB (by omega)))
 refine qa0 b (fun pre s=>∃ q,(q = .v (.pointer none)∨q = .bx (st.length+0) 0 0)∧StE [(5,.bx (st.length+0) 0 0),(15,ku b),(16,Iv b.length),(17,Iv pre.length)] st [bldO 0 q (encF pre) (st.length+1),.tip (encF pre).length 1 5] s) ⟨_,.inl rfl,qci ⟨rfl,rfl,congrArg (fun n:Nat=>Iv (n:Int)) i6,rfl,trivial⟩ rfl⟩ ?_ ?_
 ·rintro _ ⟨q,hq,t,ext,rfl⟩
  repeat' (first|apply qm|apply qg|apply qh|apply qi|(apply qt;(iterate 3 exact rfl))|(apply qe;exact rfl;apply wm;exact cAo)|apply jg|apply q6|(refine qq Tryz.call62 (qf4 st _ _ _ _ 0 1 0 _ _ rfl rfl rfl) ?_))
  exact qn rfl (vm rfl) ⟨rfl,yl _ _ _ _⟩
 ·rintro pre x rest _ hr ⟨q,hq,t,ext,rfl⟩
  have c8:b.length=pre.length+(rest.length+1):=by rw [hr];simp
  have c9:(b.map z6)[pre.length]? = some (z6 x):=by rw [hr];simp
  have hxb:=hB x (by rw [hr];simp);have hxg:=hg x (by rw [hr];simp);obtain⟨i3,hfg⟩:=qeq hxg;have t6:=qh5 pre (fun y hy=>hB y (by rw [hr];simp [hy])) (fun y hy=>hg y (by rw [hr];simp [hy]));have lw:=qnj x hxb.id1 hxb.id2;have hfo:=qeo x.fields hfg;have fc:=qj0 (z7 x.fields);repeat' (first|apply qm|apply qu|apply qg|apply qh|apply ql|apply qi|(apply zz;exact rfl;exact rfl)|(apply qt;(iterate 3 exact rfl))|(apply qe;exact rfl;apply vj;exact cAo)|(apply qe;exact rfl;apply cd_f;exact cRa)|(apply vf;exact rfl;exact rfl;exact cOs)|(apply x8;exact rfl;exact rfl)|(apply jp;exact rfl;exact rfl)|(apply zg;(iterate 3 exact rfl))|(apply jo;(iterate 3 exact rfl))|(apply jf;(iterate 5 exact rfl))|(apply z4;(iterate 11 exact rfl))|(apply xc;(iterate 9 exact rfl))|apply qw|(apply qq;exact Tryz.call64;exact qr7 _ _ i3 hfg)|(apply qq;exact Tryz.call66;exact zir _ _ hxb.id1 hxb.id2)|(apply qq;exact Tryz.call67;exact zcq _ _ _ (by omega) (by decide))|(apply j8 (n:=pre.length);(iterate 5 exact rfl);exact c9))
  refine qq Tryz.call65 (qha st _ _ _ _ 0 1 0 _ _ _ rfl rfl ?_ ?_ rfl) ?_;(exact hq);(simp only [List.length_append,List.length_cons,List.length_nil];omega);repeat' (first|apply qg|apply qh|apply ql|(apply zn;exact rfl;exact rfl;exact zb (by omega) (by omega)))
  refine⟨_,.inr rfl,y9 ⟨rfl,rfl,rfl,?_,trivial⟩ ?_⟩
  ·rw [qcb pre x];rfl
  ·have e:encF (pre++[x])=encF pre++((jx x++[10])++x6 [32,32] (z7 x.fields)):=by rw [qy7,qy8];rfl
   rw [e];rfl
theorem qm5 (b:List qp) (st:List AObj) (e:ErrV) (hB:∀ x∈b,EdB x) (hl:b.length<9223372036854775808) (he:eErr b=e) (h0:e.code≠0):qo E 35 [ku b] st fun r st'=>r = .tu [Sv [],errA e]∧st'=st:=by
 refine ze (j9 (q8 _) (vd _)) (qr Tryz.func35 rfl (Nat.le_of_ble_eq_true rfl) ?_)
 cases e with
 |no=>exact absurd rfl h0
 |num n=>
  repeat' (first|apply qm|apply qg|apply qh|apply ql|apply qi|(apply qe;exact rfl;apply cd_t;exact cRa)|(apply y4;exact rfl;exact rfl)|apply q6|(apply qq;exact Tryz.call63;exact qk6 _ _ _ he hB hl))
  exact qn rfl (vm rfl) ⟨rfl,_,rfl⟩
 |at' a n=>
  repeat' (first|apply qm|apply qg|apply qh|apply ql|apply qi|(apply qe;exact rfl;apply cd_t;exact cRa)|(apply y4;exact rfl;exact rfl)|apply q6|(apply qq;exact Tryz.call63;exact qk6 _ _ _ he hB hl))
  exact qn rfl (vm rfl) ⟨rfl,_,rfl⟩
end Go.Proofs.YtapblfabkbdgcaaGreatDoor
namespace Go.Av
open Go Go.RowKit
theorem qq0 {b:Nat} {st l:List AObj} {sz:Nat} {T:TypeId} {xs:List AV} {c:AV} (h:TipO b st sz T xs c):TipO b (st++l) sz T xs c:=by
 rcases h with h|h
 ·exact .inl (qio h)
 ·exact .inr h
theorem q40 {b:Nat} {st st':List AObj} {sz:Nat} {T:TypeId} {xs:List AV} {c:AV} (hs:∀ (t m sz:Nat) (T:TypeId),st[t]? = some (AObj.tip m sz T)→st'[t]? = st[t]?) (h:TipO b st sz T xs c):TipO b st' sz T xs c:=by
 rcases h with (h | ⟨t,h1,h2,h3⟩)|h
 ·exact .inl (.inl h)
 ·exact .inl (.inr ⟨t,h1,(hs t _ _ _ h2).trans h2,h3⟩)
 ·exact .inr h
end Go.Av
namespace Go.Proofs.YtapblfabkbdgcaaGreatDoor
open Go Go.Av Go.RowKit Go.Proofs Go.Pl
theorem qfu {st l:List AObj}:st.length≤(st++l).length:=by simp
theorem qw1 {b o:Nat} {st:List AObj} {sz:Nat} {T:TypeId} {xs:List AV} {c:AV} {x:AObj} (h:TipO b st sz T xs c) (hn:qih st[o]?):TipO b (st.set o x) sz T xs c:=
 q40 (fun t m sz T ht=>List.getElem?_set_ne (fun e=>by subst e;exact hn _ _ _ ht)) h
structure OutI (st:List AObj) (S:List AObj):Prop where
 low:∀ j,j<st.length→S[j]? = st[j]?
 len:st.length≤S.length
theorem OutI.pre {st S l:List AObj} (h:OutI st S):OutI st (S++l):=⟨fun j hj=>(List.getElem?_append_left (by have:=h.len;omega)).trans (h.low j hj),by have:=h.len;simp;omega⟩
theorem OutI.set {st S:List AObj} {o:Nat} {x:AObj} (h:OutI st S) (ho:st.length≤o):OutI st (S.set o x):=⟨fun j hj=>(qpi (by omega)).trans (h.low j hj),by have:=h.len;simp;omega⟩
theorem OutI.fr {st S S':List AObj} {t:Nat} (h:OutI st S) (hf:Fr S S' t) (ht:st.length≤t):OutI st S':=⟨fun j hj=>(hf.same j (by omega) (by have:=h.len;omega)).trans (h.low j hj),Nat.le_trans h.len hf.len⟩
theorem OutI.ext {st S:List AObj} (h:OutI st S):∃ ext,S=st++ext:=qub h.low
theorem qb5 {E:Env} {rd:Option Nat} {N:Nat} {ops:Array Oper} {K:AS→Prop} {s:AS} {rest:List Oper} {d:Option Tmp} {T:TypeId} {p:String} {af:Array Edge} {t e:TypeId} {len sz:Nat} {agg:Bool} {parts:Array (Nat×Operand)} {zs cs:List AV} {st:List AObj} (d8:s.st=st) (hu:E.P.underlying t=some (.slice e)) (ht:tyOf E.P e=some (sz,agg)) (hz:qdy E.P e len=some zs)
  (hf:qb8 (fun i=>some (i * sz,sz)) zs (vi N s parts)=some cs) (f8:Nat.ble (len * sz) 16777216=true)
  (h:AOps E rd N ops rest K (AS.put ⟨s.t,st++[.cells 0 e cs],s.df⟩ d (.os st.length 0 0 len len))):AOps E rd N ops (⟨d,.buildSlice t len parts,T,p,af,none⟩::rest) K s:=
 yi (loc:=[]) (by rw [d8];simp) hu ht hz hf f8 h
theorem qf5 (x:qp):qn8 (z6 x):=fun y hy=>by
 simp only [AV.cells,List.mem_cons,List.not_mem_nil,or_false] at hy;rcases hy with rfl|rfl|rfl
 ·exact q8 _
 ·exact q8 _
 ·exact qa6 _
theorem qbh (b:List qp):Pure (ku b):=qch fun x hx=>by
 obtain⟨f,_,rfl⟩:=List.mem_map.1 hx;exact qf5 f
theorem zc0 {α β : Type} (g : α→β) (l:List α) (a : α):(l++[a]).map g=l.map g++[g a]:=by simp
end Go.Proofs.YtapblfabkbdgcaaGreatDoor
